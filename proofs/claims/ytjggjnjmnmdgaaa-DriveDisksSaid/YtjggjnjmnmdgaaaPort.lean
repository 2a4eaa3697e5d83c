/- The chip with eight lines: what the program's functions and the reference's give. -/
import Derived.Test.YtjggjnjmnmdgaaaChip
import Derived.Test.YtjggjnjmnmdgaaaPortLaw
namespace Go.Proofs.Ytjggjnjmnmdgaaa
open Go.Fw
set_option linter.unusedVariables false
set_option linter.unusedSimpArgs false
set_option maxRecDepth 100000

abbrev devR : AV := .agg [.own 0, .imm (.slice none 0 0)]
def portC : Cv := (ByteArray.empty, 4, 0, 0, [])
def portN (N : List Int) : List Int := [N.getD 0 0 % 256, N.getD 1 0 % 256, N.getD 2 0 % 256]

def pformedS : PSpec := ⟨[gC, gD], fun (c, d, _) => (some (c = portC), devR, [.arr (.int .i64) (portN d.1)])⟩
theorem pformed_ok : Good Try.prog 55 pformedS.spec := by
  have hT := tab_ok (fs := [(95, formS.spec)]) tree_ok
  have hP : SpecsOk Try.prog (tab tree [(95, formS.spec)]) := specs_cons form_ok specs_nil
  refine pformedS.good (fn := Try.f55) hT hP Try.func55 (by kernel_rfl) rfl fun (c : Cv) (d : Dv) hp => ?_
  have hp : c = portC := hp _ rfl
  subst hp
  obtain ⟨N, M⟩ := d
  repeat' first
    | (refine Go.mk ?_; conv => whnf)
    | refine Need.go ?_ ?_
    | refine NilG.go (fun _ => ?_) (fun _ => ?_)
    | refine Br.dec (fun _ => ?_) (fun _ => ?_)
    | refine Br.go (fun _ => ?_) (fun _ => ?_)
    | refine draw_go hT hP mixed ?_
    | refine round_go hT hP ?_
  · exact (by decide : ([256, 256, 256] : List Int).length ≤ 1000 ∧ ∀ m ∈ ([256, 256, 256] : List Int), 0 < m ∧ m ≤ 4611686018427387904)
  · exact .mk [] [5] _ rfl rfl rfl rfl rfl rfl rfl

def pfreshS : PSpec := ⟨[gC], fun (c, _) => (some (c = portC), devR, [.arr (.int .i64) [255, 0, 0]])⟩
theorem pfresh_ok : Good Try.prog 41 pfreshS.spec := by
  have hT := tab_ok (fs := []) tree_ok
  have hP : SpecsOk Try.prog (tab tree []) := specs_nil
  refine pfreshS.good (fn := Try.f41) hT hP Try.func41 (by kernel_rfl) rfl fun (c : Cv) hp => ?_
  have hp : c = portC := hp _ rfl
  subst hp
  repeat' first
    | (refine Go.mk ?_; conv => whnf)
    | refine Need.go ?_ ?_
    | refine NilG.go (fun _ => ?_) (fun _ => ?_)
    | refine Br.dec (fun _ => ?_) (fun _ => ?_)
    | refine Br.go (fun _ => ?_) (fun _ => ?_)
    | refine draw_go hT hP mixed ?_
    | refine round_go hT hP ?_
  exact .mk [] [2] _ rfl rfl rfl rfl rfl rfl rfl

def pnewS : PSpec := ⟨[], fun _ => (none, devR, [.arr (.int .i64) [255, 0, 0]])⟩
theorem pnew_ok : Good Try.prog 40 pnewS.spec := by
  have hT := tab_ok (fs := []) tree_ok
  have hP : SpecsOk Try.prog (tab tree []) := specs_nil
  refine pnewS.good (fn := Try.f40) hT hP Try.func40 (by kernel_rfl) rfl fun _ => ?_
  repeat' first
    | (refine Go.mk ?_; conv => whnf)
    | refine Need.go ?_ ?_
    | refine NilG.go (fun _ => ?_) (fun _ => ?_)
    | refine Br.dec (fun _ => ?_) (fun _ => ?_)
    | refine Br.go (fun _ => ?_) (fun _ => ?_)
    | refine draw_go hT hP mixed ?_
    | refine round_go hT hP ?_
  exact .mk [] [1] _ rfl rfl rfl rfl rfl rfl rfl

def pfit0S : PSpec := ⟨[gD], fun (d, _) => (none, .cell (.own 0), [.arr (.int .i64) (portN d.1)])⟩
theorem pfit0_ok : Good Try.prog 87 pfit0S.spec := by
  have hT := tab_ok (fs := [(33, lowM.spec)]) tree_ok
  have hP : SpecsOk Try.prog (tab tree [(33, lowM.spec)]) := specs_cons lowM_ok specs_nil
  refine pfit0S.good (fn := Try.f87) hT hP Try.func87 (by kernel_rfl) rfl fun (d : Dv) _ => ?_
  obtain ⟨N, M⟩ := d
  repeat' first
    | (refine Go.mk ?_; conv => whnf)
    | refine Need.go ?_ ?_
    | refine NilG.go (fun _ => ?_) (fun _ => ?_)
    | refine Br.dec (fun _ => ?_) (fun _ => ?_)
    | refine Br.go (fun _ => ?_) (fun _ => ?_)
    | refine draw_go hT hP mixed ?_
    | refine round_go hT hP ?_
  · exact of_decide_eq_true rfl
  refine loop_unroll 4 ?_
  repeat' first
    | (refine Go.mk ?_; conv => whnf)
    | refine Need.go ?_ ?_
    | refine NilG.go (fun _ => ?_) (fun _ => ?_)
    | refine Br.dec (fun _ => ?_) (fun _ => ?_)
    | refine Br.go (fun _ => ?_) (fun _ => ?_)
    | refine draw_go hT hP mixed ?_
    | refine round_go hT hP ?_
  all_goals first
    | exact of_decide_eq_true rfl
    | exact .mk [] [1] _ rfl rfl rfl rfl rfl rfl rfl

def poutS : PSpec := ⟨[gD], fun (d, _) => (none, I (land .i64 (d.1.getD 1 0 % 256) (d.1.getD 2 0 % 256)), [])⟩
theorem pout_ok : Good Try.prog 48 poutS.spec := by
  have hT := tab_ok (fs := [(87, pfit0S.spec)]) tree_ok
  have hP : SpecsOk Try.prog (tab tree [(87, pfit0S.spec)]) := specs_cons pfit0_ok specs_nil
  refine poutS.good (fn := Try.f48) hT hP Try.func48 (by kernel_rfl) rfl fun (d : Dv) _ => ?_
  obtain ⟨N, M⟩ := d
  repeat' first
    | (refine Go.mk ?_; conv => whnf)
    | refine Need.go ?_ ?_
    | refine NilG.go (fun _ => ?_) (fun _ => ?_)
    | refine Br.dec (fun _ => ?_) (fun _ => ?_)
    | refine Br.go (fun _ => ?_) (fun _ => ?_)
    | refine draw_go hT hP mixed ?_
    | refine round_go hT hP ?_
  all_goals first
    | exact of_decide_eq_true rfl
    | exact .mk [] [] _ rfl rfl rfl rfl rfl rfl rfl

def pshowsS : PSpec := ⟨[gC, gD], fun (c, d, _) => (some (c = portC), I (land .i64 (d.1.getD 1 0 % 256) (d.1.getD 2 0 % 256)), [])⟩
theorem pshows_ok : Good Try.prog 49 pshowsS.spec := by
  have hT := tab_ok (fs := [(55, pformedS.spec)]) tree_ok
  have hP : SpecsOk Try.prog (tab tree [(55, pformedS.spec)]) := specs_cons pformed_ok specs_nil
  refine pshowsS.good (fn := Try.f49) hT hP Try.func49 (by kernel_rfl) rfl fun (c : Cv) (d : Dv) hp => ?_
  have hp : c = portC := hp _ rfl
  subst hp
  obtain ⟨N, M⟩ := d
  repeat' first
    | (refine Go.mk ?_; conv => whnf)
    | refine Need.go ?_ ?_
    | refine NilG.go (fun _ => ?_) (fun _ => ?_)
    | refine Br.dec (fun _ => ?_) (fun _ => ?_)
    | refine Br.go (fun _ => ?_) (fun _ => ?_)
    | refine draw_go hT hP mixed ?_
    | refine round_go hT hP ?_
  all_goals first
    | exact rfl
    | exact of_decide_eq_true rfl
    | exact .mk [] [] _ rfl rfl rfl rfl rfl rfl rfl

def pinN (N : List Int) (k : Int) : List Int := [k % 256, N.getD 1 0 % 256, N.getD 2 0 % 256]
def pinS : PSpec := ⟨[gD, gi], fun (d, k, _) => (none, devR, [.arr (.int .i64) (pinN d.1 k)])⟩
theorem pin_ok : Good Try.prog 46 pinS.spec := by
  have hT := tab_ok (fs := [(87, pfit0S.spec), (33, lowM.spec)]) tree_ok
  have hP : SpecsOk Try.prog (tab tree [(87, pfit0S.spec), (33, lowM.spec)]) := specs_cons pfit0_ok (specs_cons lowM_ok specs_nil)
  refine pinS.good (fn := Try.f46) hT hP Try.func46 (by kernel_rfl) rfl fun (d : Dv) (k : Int) _ => ?_
  obtain ⟨N, M⟩ := d
  repeat' first
    | (refine Go.mk ?_; conv => whnf)
    | refine Need.go ?_ ?_
    | refine NilG.go (fun _ => ?_) (fun _ => ?_)
    | refine Br.dec (fun _ => ?_) (fun _ => ?_)
    | refine Br.go (fun _ => ?_) (fun _ => ?_)
    | refine draw_go hT hP mixed ?_
    | refine round_go hT hP ?_
  all_goals first
    | exact of_decide_eq_true rfl
    | exact .mk [] [2] _ rfl rfl rfl rfl rfl rfl rfl

def pgivenS : PSpec := ⟨[gC, gD, gi], fun (c, d, k, _) => (some (c = portC), devR, [.arr (.int .i64) (pinN d.1 k)])⟩
theorem pgiven_ok : Good Try.prog 47 pgivenS.spec := by
  have hT := tab_ok (fs := [(55, pformedS.spec), (91, modS.spec)]) tree_ok
  have hP : SpecsOk Try.prog (tab tree [(55, pformedS.spec), (91, modS.spec)]) := specs_cons pformed_ok (specs_cons mod_ok specs_nil)
  refine pgivenS.good (fn := Try.f47) hT hP Try.func47 (by kernel_rfl) rfl fun (c : Cv) (d : Dv) (k : Int) hp => ?_
  have hp : c = portC := hp _ rfl
  subst hp
  obtain ⟨N, M⟩ := d
  repeat' first
    | (refine Go.mk ?_; conv => whnf)
    | refine Need.go ?_ ?_
    | refine NilG.go (fun _ => ?_) (fun _ => ?_)
    | refine Br.dec (fun _ => ?_) (fun _ => ?_)
    | refine Br.go (fun _ => ?_) (fun _ => ?_)
    | refine draw_go hT hP mixed ?_
    | refine round_go hT hP ?_
  all_goals first
    | exact rfl
    | exact of_decide_eq_true rfl
    | exact .mk [] [3] _ rfl rfl rfl rfl rfl rfl rfl

def pwN (N : List Int) (at_ k : Int) : List Int := [N.getD 0 0 % 256, if at_ = 0 then k % 256 else N.getD 1 0 % 256, if at_ = 1 then k % 256 else N.getD 2 0 % 256]
def pwriteS : PSpec := ⟨[gD, gi, gi], fun (d, at_, k, _) => (none, devR, [.arr (.int .i64) (pwN d.1 at_ k)])⟩
theorem pwrite_ok : Good Try.prog 44 pwriteS.spec := by
  have hT := tab_ok (fs := [(87, pfit0S.spec), (33, lowM.spec)]) tree_ok
  have hP : SpecsOk Try.prog (tab tree [(87, pfit0S.spec), (33, lowM.spec)]) := specs_cons pfit0_ok (specs_cons lowM_ok specs_nil)
  refine pwriteS.good (fn := Try.f44) hT hP Try.func44 (by kernel_rfl) rfl fun (d : Dv) (a k : Int) _ => ?_
  obtain ⟨N, M⟩ := d
  repeat' first
    | (refine Go.mk ?_; conv => whnf)
    | refine Need.go ?_ ?_
    | refine NilG.go (fun _ => ?_) (fun _ => ?_)
    | refine Br.dec (fun _ => ?_) (fun _ => ?_)
    | refine Br.go (fun _ => ?_) (fun _ => ?_)
    | refine draw_go hT hP mixed ?_
    | refine round_go hT hP ?_
  all_goals (try subst_vars)
  all_goals first
    | exact of_decide_eq_true rfl
    | exact .mk [] [2] _ rfl rfl rfl rfl rfl rfl rfl
    | skip
  rename_i h0 h1
  refine .mk [] [2] _ rfl rfl rfl rfl rfl ?_ rfl
  show [some (Blk.arr (.int .i64) (portN N))] = [some (Blk.arr (.int .i64) (pwN N a k))]
  simp only [pwN, if_neg h0, if_neg h1]; rfl

def pstoredS : PSpec := ⟨[gC, gD, gi, gi], fun (c, d, at_, k, _) => (some (c = portC), devR, [.arr (.int .i64) (pwN d.1 at_ k)])⟩
theorem pstored_ok : Good Try.prog 45 pstoredS.spec := by
  have hT := tab_ok (fs := [(55, pformedS.spec), (91, modS.spec)]) tree_ok
  have hP : SpecsOk Try.prog (tab tree [(55, pformedS.spec), (91, modS.spec)]) := specs_cons pformed_ok (specs_cons mod_ok specs_nil)
  refine pstoredS.good (fn := Try.f45) hT hP Try.func45 (by kernel_rfl) rfl fun (c : Cv) (d : Dv) (a k : Int) hp => ?_
  have hp : c = portC := hp _ rfl
  subst hp
  obtain ⟨N, M⟩ := d
  repeat' first
    | (refine Go.mk ?_; conv => whnf)
    | refine Need.go ?_ ?_
    | refine NilG.go (fun _ => ?_) (fun _ => ?_)
    | refine Br.dec (fun _ => ?_) (fun _ => ?_)
    | refine Br.go (fun _ => ?_) (fun _ => ?_)
    | refine draw_go hT hP mixed ?_
    | refine round_go hT hP ?_
  all_goals (try subst_vars)
  all_goals first
    | exact rfl
    | exact of_decide_eq_true rfl
    | exact .mk [] [3] _ rfl rfl rfl rfl rfl rfl rfl
    | skip
  rename_i h0 h1
  refine .mk [] [3] _ rfl rfl rfl rfl rfl ?_ rfl
  show [some (Blk.arr (.int .i64) (portN N))] = [some (Blk.arr (.int .i64) (pwN N a k))]
  simp only [pwN, if_neg h0, if_neg h1]; rfl

def pickF (l : List Int) (a : Int) : Int := if a < 0 then 0 else if a ≥ l.length then 0 else l.getD a.toNat 0
def pickS : WSpec := ⟨List Int × Int, fun x => [.c (.own 0), .c (.ptr 1 0)], fun x => [.arr (.int .i64) x.1, .var [iv .i64 x.2]], fun a b => (match a, b with | [.c (.own 0), .c (.ptr 1 0)], [.arr (.int .i64) l, .var [.imm (.int .i64 n)]] => some (l, n) | _, _ => none),
  fun x => (none, I (pickF x.1 x.2), [some (.arr (.int .i64) x.1), some (.var [iv .i64 x.2])], [])⟩
theorem pick_ok : Good Try.prog 88 pickS.spec := by
  have hT := tab_ok (fs := []) tree_ok
  have hP : SpecsOk Try.prog (tab tree []) := specs_nil
  refine pickS.good (fn := Try.f88) hT hP Try.func88 (by kernel_rfl) rfl ?_ fun ((l, a) : List Int × Int) _ => ?_
  · intro a b x h
    simp only [pickS] at h
    split at h
    · injection h with h; subst h; exact ⟨rfl, rfl⟩
    · cases h
  repeat' first
    | (refine Go.mk ?_; conv => whnf)
    | refine Need.go ?_ ?_
    | refine NilG.go (fun _ => ?_) (fun _ => ?_)
    | refine Br.dec (fun _ => ?_) (fun _ => ?_)
    | refine Br.go (fun _ => ?_) (fun _ => ?_)
    | refine draw_go hT hP mixed ?_
    | refine round_go hT hP ?_
  · rename_i h
    refine .mk [] [0, 1] _ rfl rfl rfl rfl rfl rfl (imm_int ?_)
    show 0 = pickF l a
    rw [pickF, if_pos h]
  · rename_i h h2
    refine .mk [] [0, 1] _ rfl rfl rfl rfl rfl rfl (imm_int ?_)
    show 0 = pickF l a
    rw [pickF, if_neg h, if_pos h2]
  · dsimp only at *
    omega
  · dsimp only at *
    omega
  · rename_i h h2
    refine .mk [] [0, 1] _ rfl rfl rfl rfl rfl rfl (imm_int ?_)
    show _ = pickF l a
    rw [pickF, if_neg h, if_neg h2]; rfl

def bothV (N : List Int) : Int := lor .i64 (land .i64 (N.getD 1 0 % 256) (N.getD 2 0 % 256)) (landNot .i64 (N.getD 0 0 % 256) (N.getD 2 0 % 256))
def preadF (N : List Int) (a : Int) : Int := pickF [bothV N, N.getD 2 0 % 256] a
theorem pick_no {l : List Int} {a : Int} (h : ∀ i : Nat, i < l.length → ¬ a = i) : pickF l a = 0 := by
  unfold pickF
  split
  · rfl
  · split
    · rfl
    · rename_i h1 h2
      exact absurd (by omega : a = (a.toNat : Int)) (h a.toNat (by omega))
def preadS : PSpec := ⟨[gD, gi], fun (d, a, _) => (none, .tup [.agg [.own 0, .imm (.slice none 0 0)], I1 (preadF d.1 a)], [.arr (.int .i64) (portN d.1)])⟩
theorem pread_ok : Good Try.prog 42 preadS.spec := by
  have hT := tab_ok (fs := [(87, pfit0S.spec)]) tree_ok
  have hP : SpecsOk Try.prog (tab tree [(87, pfit0S.spec)]) := specs_cons pfit0_ok specs_nil
  refine preadS.good (fn := Try.f42) hT hP Try.func42 (by kernel_rfl) rfl fun (d : Dv) (a : Int) _ => ?_
  obtain ⟨N, M⟩ := d
  repeat' first
    | (refine Go.mk ?_; conv => whnf)
    | refine Need.go ?_ ?_
    | refine NilG.go (fun _ => ?_) (fun _ => ?_)
    | refine Br.dec (fun _ => ?_) (fun _ => ?_)
    | refine Br.go (fun _ => ?_) (fun _ => ?_)
    | refine draw_go hT hP mixed ?_
    | refine round_go hT hP ?_
  all_goals (try subst_vars)
  all_goals first
    | exact of_decide_eq_true rfl
    | exact .mk [] [2] _ rfl rfl rfl rfl rfl rfl rfl
    | skip
  rename_i h0 h1
  have e : preadF N a = 0 := pick_no fun i hi => by
    have : i < 2 := hi
    omega
  refine .mk [] [2] _ rfl rfl rfl rfl rfl rfl ?_
  show AV.tup [.agg [.own 0, .imm (.slice none 0 0)], I1 0] = AV.tup [.agg [.own 0, .imm (.slice none 0 0)], I1 (preadF N a)]
  rw [e]

theorem sel_in (N : List Int) (k : Nat) (hk : k ≤ 62) : 0 ≤ land .i64 (shr .i64 (N.getD 2 0 % 256) k) 1 ∧ land .i64 (shr .i64 (N.getD 2 0 % 256) k) 1 < 3 := by
  obtain ⟨m, hm⟩ := Int.eq_ofNat_of_zero_le (show 0 ≤ N.getD 2 0 % 256 by omega)
  rw [hm, bit_of (by omega) hk]
  omega
def ploadedS : PSpec := ⟨[gC, gD, gi], fun (c, d, a, _) => (some (c = portC), .tup [.agg [.own 0, .imm (.slice none 0 0)], I1 (preadF d.1 a)], [.arr (.int .i64) (portN d.1)])⟩
theorem ploaded_ok : Good Try.prog 43 ploadedS.spec := by
  have hT := tab_ok (fs := [(55, pformedS.spec), (88, pickS.spec)]) tree_ok
  have hP : SpecsOk Try.prog (tab tree [(55, pformedS.spec), (88, pickS.spec)]) := specs_cons pformed_ok (specs_cons pick_ok specs_nil)
  refine ploadedS.good (fn := Try.f43) hT hP Try.func43 (by kernel_rfl) rfl fun (c : Cv) (d : Dv) (a : Int) hp => ?_
  have hp : c = portC := hp _ rfl
  subst hp
  obtain ⟨N, M⟩ := d
  repeat' first
    | (refine Go.mk ?_; conv => whnf)
    | refine Need.go ?_ ?_
    | refine NilG.go (fun _ => ?_) (fun _ => ?_)
    | refine Br.dec (fun _ => ?_) (fun _ => ?_)
    | refine Br.go (fun _ => ?_) (fun _ => ?_)
    | refine draw_go hT hP mixed ?_
    | refine round_go hT hP ?_
  · exact rfl
  have hN : ∀ j : Nat, 0 ≤ N.getD j 0 % 256 ∧ N.getD j 0 % 256 < 256 := fun j => by omega
  refine loop_go hT hP (X := Int × Int) (fun (i, o) => St.mk [.dead, .dead, .dead, .cell (.ptr 0 0), .cell (.ptr 1 0), .cell (.ptr 2 0), .cell (.ptr 3 0), .dead, .cell (.own 4), .cell (.fn 88 [2]), .dead, .dead, .dead, I o, .dead, .dead, .dead, .dead, .dead, .dead, .dead, .dead, .dead, .dead, .dead, .dead, .dead, .dead, .dead, .dead, .dead, .dead, .dead, .dead, .dead, .dead, .dead, .dead, .dead, .dead, .dead, .dead, .dead, .dead, .dead, .dead, .dead, .dead, .dead, .dead, .dead, .dead, .dead, .dead, .dead, .dead, .dead, .dead, .dead, .dead, .dead, .dead, .dead, .dead, .dead, .dead, .dead, .dead, .dead, .dead, .dead, .dead, .dead, .dead, .dead, .dead, .dead, .dead, .dead, .dead, .dead, .dead, .dead, .dead, .dead, .dead, .dead, .dead, .dead, .dead, .dead, .dead, .dead, .dead, .dead, .dead, .dead, .dead, I i, .dead, .dead, .dead, .dead, .dead, .dead, .dead, .dead, .dead, .dead, .dead, .dead, .dead, .dead, .dead, .dead, .dead, .dead, .dead, .dead, .dead, .dead, .dead, .dead, .dead, .dead, .dead, .dead, .dead, .dead, .dead, .dead, .dead, .dead, .dead, .dead, .dead, .dead, .dead, .dead, .dead, .dead, .dead, .dead, .dead, .dead, .dead, .dead, .dead, .dead, .dead, .dead, .dead, .dead, .dead, .dead, .dead, .dead, .dead, .dead, .dead, .dead, .dead, .dead, .dead, .dead, .dead, .dead, .dead, .dead, .dead, .dead, .dead, .dead, .dead, .dead, .dead, .dead, .dead, .dead, .dead, .dead, .dead, .dead, .dead, .dead, .dead, .dead, .dead, .dead, .dead, .dead, .dead, .dead, .dead, .dead, .dead, .dead, .dead, .dead, .dead, .dead, .dead, .dead, .dead, .dead, .dead, .dead, .dead, .dead, .dead, .dead, .dead, .dead, .dead, .dead, .dead, .dead, .dead, .dead, .dead, .dead, .dead, .dead, .dead, .dead, .dead, .dead, .dead, .dead, .dead, .dead, .dead, .dead, .dead, .dead, .dead, .dead, .dead, .dead, .dead, .dead, .dead, .dead, .dead, .dead, .dead, .dead, .dead, .dead, .dead, .dead, .dead, .dead, .dead, .dead, .dead, .dead, .dead, .dead, .dead, .dead, .dead, .dead, .dead, .dead, .dead, .dead, .dead, .dead, .dead, .dead, .dead, .dead, .dead, .dead, .dead, .dead, .dead]
      [some (.var [.imm (.string ByteArray.empty), iv .i64 4, iv .i64 0, iv .i64 0, .ro (.int .u8) []]), some (.var [.own 4, .imm (.slice none 0 0)]), some (.var [iv .i64 a]), some (.var [.imm (.slice none 0 0), .imm (.slice none 0 0)]), some (.arr (.int .i64) (portN N))])
    (fun (i, o) => ∃ k : Nat, i = k ∧ k ≤ 8 ∧ o = bothF (portN N) (N.getD 2 0 % 256) k) (fun (i, _) => (8 - i).toNat) (0, 0) (Le.mk [] [0, 1, 2, 3, 4] rfl rfl ?_ ?_) ?_ fun (i, o) hi => ?_
  rotate_right
  repeat' first
    | (refine Go.mk ?_; conv => whnf)
    | refine Need.go ?_ ?_
    | refine NilG.go (fun _ => ?_) (fun _ => ?_)
    | refine Br.dec (fun _ => ?_) (fun _ => ?_)
    | refine Br.go (fun _ => ?_) (fun _ => ?_)
    | refine draw_go hT hP mixed ?_
    | refine round_go hT hP ?_
  rotate_right 3
  · exact rfl
  · repeat' first | exact trivial | exact ⟨rfl, rfl⟩ | refine And.intro ?_ ?_
  · exact ⟨0, rfl, by omega, rfl⟩
  all_goals first
    | exact of_decide_eq_true rfl
    | (obtain ⟨k, rfl, hk, rfl⟩ := hi; omega)
    | (obtain ⟨k, rfl, hk, rfl⟩ := hi
       have e := sel_in N k (by omega)
       exact ⟨e.1, e.2⟩)
    | (obtain ⟨k, rfl, hk, rfl⟩ := hi
       have e := sel_in N k (by omega)
       exact (by omega : (land .i64 (shr .i64 (N.getD 2 0 % 256) k) 1).toNat < 3))
    | skip
  · obtain ⟨k, rfl, hk, rfl⟩ := hi
    have e : IntKind.i64.wrap ((k : Int) + 1) = ((k + 1 : Nat) : Int) := by rw [w64 (by omega) (by omega)]; omega
    apply Exists.intro (_, _)
    refine And.intro ?_ (And.intro ?_ (Le.mk [] [0, 1, 2, 3, 4] rfl rfl ?hh ?ht))
    case hh => exact rfl
    case ht => repeat' first | exact trivial | exact ⟨rfl, rfl⟩ | refine And.intro ?_ ?_
    · exact ⟨k + 1, e, by omega, rfl⟩
    · show (8 - IntKind.i64.wrap ((k : Int) + 1)).toNat < (8 - (k : Int)).toNat
      rw [e]; omega
  · obtain ⟨k, rfl, hk, rfl⟩ := hi
    refine .mk [] [4] _ rfl rfl rfl rfl rfl rfl ?_
    show AV.tup [.agg [.own 0, .imm (.slice none 0 0)], I1 (pickF [bothF (portN N) (N.getD 2 0 % 256) k, N.getD 2 0 % 256] a)] = AV.tup [.agg [.own 0, .imm (.slice none 0 0)], I1 (pickF [bothV N, N.getD 2 0 % 256] a)]
    have e : k = 8 := by omega
    subst e
    have e2 : bothF (portN N) (N.getD 2 0 % 256) 8 = bothV N := both_eq _ _ _ (hN 0) (hN 1) (hN 2)
    rw [e2]

end Go.Proofs.Ytjggjnjmnmdgaaa
