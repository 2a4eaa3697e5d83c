/- The chip that draws: its state, cycles, registers. -/
import Derived.Test.YthpijepbbpcjeaaVideo
namespace Go.Proofs.Ythpijepbbpcjeaa
open Go.Fw
set_option linter.unusedVariables false
set_option linter.unusedSimpArgs false
set_option maxRecDepth 100000

abbrev devM : AV := .agg [.own 0, .own 1]
theorem tup_v {a b c d : Int} (h1 : a = c) (h2 : b = d) : AV.tup [I1 a, I1 b, .c (.own 0)] = AV.tup [I1 c, I1 d, .c (.own 0)] := by rw [h1, h2]
theorem blk_v {l l' m m' : List Int} (h : l = l') (h2 : m = m') : [some (Blk.arr (.int .i64) l), some (Blk.arr (.int .u8) m)] = [some (Blk.arr (.int .i64) l'), some (Blk.arr (.int .u8) m')] := by rw [h, h2]
theorem wrap8 {x : Int} (h0 : 0 ≤ x) (h1 : x < 256) : IntKind.u8.wrap x = x := by
  show x % 256 = x
  omega
theorem tup_rv {x y : Int} (h2 : x = y) : AV.tup [.agg [.own 0, .own 1], I1 x] = AV.tup [.agg [.own 0, .own 1], I1 y] := by rw [h2]
def vfitS : PSpec := ⟨[gD], fun (d, _) => (none, .tup [I1 (vP d.1), I1 (vH d.1), .c (.own 0)], [.arr (.int .u8) (vM d.2)])⟩
theorem vfit_ok : Good Try.prog 87 vfitS.spec := by
  have hT := tab_ok (fs := [(94, lowM.spec)]) tree_ok
  have hP : SpecsOk Try.prog (tab tree [(94, lowM.spec)]) := specs_cons lowM_ok specs_nil
  refine vfitS.good (fn := Try.f87) hT hP Try.func87 (by kernel_rfl) rfl fun (d : Dv) _ => ?_
  obtain ⟨N, M⟩ := d
  repeat' first
    | (refine Go.mk ?_; conv => whnf)
    | refine Need.go ?_ ?_
    | refine NilG.go (fun _ => ?_) (fun _ => ?_)
    | refine Br.dec (fun _ => ?_) (fun _ => ?_)
    | refine Br.go (fun _ => ?_) (fun _ => ?_)
    | refine draw_go hT hP mixed ?_
    | refine round_go hT hP ?_
  all_goals first
    | exact of_decide_eq_true rfl
    | (rename_i h
       have h : (N.length : Int) > 0 := h
       show (0 : Int) ≤ 0 ∧ (0 : Int) < N.length
       omega)
    | (rename_i h
       have h : (N.length : Int) > 1 := h
       show (0 : Int) ≤ 1 ∧ (1 : Int) < N.length
       omega)
    | (rename_i h2 h
       have h : (N.length : Int) > 1 := h
       have h2 : ¬ (N.length : Int) > 0 := h2
       exfalso; omega)
    | skip
  · rename_i h2 h
    have h2 : (N.length : Int) > 0 := h2
    refine .mk [] [1] _ rfl rfl rfl rfl rfl rfl (tup_v ?_ ?_)
    · show Int.tmod (IntKind.i64.wrap (Int.tmod (N.getD 0 0) 2560 + 2560)) 2560 = vP N
      rw [mod_eq _ (by omega) (by omega), vP, if_neg (by omega)]
    · exact rfl
  · rename_i h2 h
    have h2 : (N.length : Int) > 0 := h2
    have h : ¬ (N.length : Int) > 1 := h
    have e : N.getD 1 0 = 0 := by simp only [List.getD_eq_getElem?_getD]; rw [List.getElem?_eq_none (by omega)]; rfl
    refine .mk [] [1] _ rfl rfl rfl rfl rfl rfl (tup_v ?_ ?_)
    · show Int.tmod (IntKind.i64.wrap (Int.tmod (N.getD 0 0) 2560 + 2560)) 2560 = vP N
      rw [mod_eq _ (by omega) (by omega), vP, if_neg (by omega)]
    · show 0 = N.getD 1 0 % 2
      rw [e]; rfl
  · rename_i h2 h
    have h2 : ¬ (N.length : Int) > 0 := h2
    have e : N.getD 1 0 = 0 := by simp only [List.getD_eq_getElem?_getD]; rw [List.getElem?_eq_none (by omega)]; rfl
    refine .mk [] [1] _ rfl rfl rfl rfl rfl rfl (tup_v ?_ ?_)
    · show 2559 = vP N
      rw [vP, if_pos (by omega)]
    · show 0 = N.getD 1 0 % 2
      rw [e]; rfl

def vmadeS : WSpec := ⟨Int × Int × List Int, fun x => [.c (iv .i64 x.1), .c (iv .i64 x.2.1), .c (.own 0)], fun x => [.arr (.int .u8) x.2.2],
  fun a b => (match a, b with | [.c (.imm (.int .i64 p)), .c (.imm (.int .i64 h)), .c (.own 0)], [.arr (.int .u8) m] => some (p, h, m) | _, _ => none),
  fun x => (none, .agg [.own 1, .own 0], [some (.arr (.int .u8) x.2.2)], [.arr (.int .i64) [x.1, x.2.1]])⟩
theorem vmade_ok : Good Try.prog 89 vmadeS.spec := by
  have hT := tab_ok (fs := []) tree_ok
  have hP : SpecsOk Try.prog (tab tree []) := specs_nil
  refine vmadeS.good (fn := Try.f89) hT hP Try.func89 (by kernel_rfl) rfl ?_ fun ((p, h, m) : Int × Int × List Int) _ => ?_
  · intro a b x h
    simp only [vmadeS] at h
    split at h
    · injection h with h; subst h; exact ⟨rfl, rfl⟩
    · cases h
  repeat' first
    | (refine Go.mk ?_; conv => whnf)
    | refine Need.go ?_ ?_
    | refine NilG.go (fun _ => ?_) (fun _ => ?_)
    | refine Br.dec (fun _ => ?_) (fun _ => ?_)
    | refine Br.go (fun _ => ?_) (fun _ => ?_)
    | refine draw_go hT hP mixed ?_
    | refine round_go hT hP ?_
  all_goals first
    | exact of_decide_eq_true rfl
    | exact .mk [] [0, 2] _ rfl rfl rfl rfl rfl rfl rfl

def vnewS : PSpec := ⟨[], fun _ => (none, devM, [.arr (.int .i64) [2559, 0], .arr (.int .u8) (List.replicate 32 0)])⟩
theorem vnew_ok : Good Try.prog 36 vnewS.spec := by
  have hT := tab_ok (fs := [(89, vmadeS.spec)]) tree_ok
  have hP : SpecsOk Try.prog (tab tree [(89, vmadeS.spec)]) := specs_cons vmade_ok specs_nil
  refine vnewS.good (fn := Try.f36) hT hP Try.func36 (by kernel_rfl) rfl fun _ => ?_
  repeat' first
    | (refine Go.mk ?_; conv => whnf)
    | refine Need.go ?_ ?_
    | refine NilG.go (fun _ => ?_) (fun _ => ?_)
    | refine Br.dec (fun _ => ?_) (fun _ => ?_)
    | refine Br.go (fun _ => ?_) (fun _ => ?_)
    | refine draw_go hT hP mixed ?_
    | refine round_go hT hP ?_
  all_goals first
    | exact of_decide_eq_true rfl
    | exact .mk [] [2, 1] _ rfl rfl rfl rfl rfl rfl rfl
    | skip

def vskipS : PSpec := ⟨[gD, gi], fun (d, k, _) => (some (u8s d.2 ∧ k ≤ 4611686018427387904), devM, [.arr (.int .i64) (iterF (tickV (vM d.2)) k.toNat [vP d.1, vH d.1]), .arr (.int .u8) (vM d.2)])⟩
theorem vskip_ok : Good Try.prog 20 vskipS.spec := by
  have hT := tab_ok (fs := [(89, vmadeS.spec), (87, vfitS.spec), (88, hitsS.spec)]) tree_ok
  have hP : SpecsOk Try.prog (tab tree [(89, vmadeS.spec), (87, vfitS.spec), (88, hitsS.spec)]) := specs_cons vmade_ok (specs_cons vfit_ok (specs_cons hits_ok specs_nil))
  refine vskipS.good (fn := Try.f20) hT hP Try.func20 (by kernel_rfl) rfl fun (d : Dv) (k : Int) hp => ?_
  obtain ⟨N, M⟩ := d
  obtain ⟨hu, hk⟩ : u8s M ∧ k ≤ 4611686018427387904 := hp _ rfl
  repeat' first
    | (refine Go.mk ?_; conv => whnf)
    | refine Need.go ?_ ?_
    | refine NilG.go (fun _ => ?_) (fun _ => ?_)
    | refine Br.dec (fun _ => ?_) (fun _ => ?_)
    | refine Br.go (fun _ => ?_) (fun _ => ?_)
    | refine draw_go hT hP mixed ?_
    | refine round_go hT hP ?_
  all_goals first
    | exact of_decide_eq_true rfl
    | skip
  · rename_i hg
    have hg : k > 5120 := hg
    have ek : IntKind.i64.wrap (2560 + Int.tmod k 2560) = 2560 + k % 2560 := by rw [Int.tmod_eq_emod_of_nonneg (by omega), w64 (by omega) (by omega)]
    refine loop_go hT hP (X := Int × Int × Int) (fun (i, p, h) => St.mk [.dead, .dead, .dead, .dead, .cell (.ptr 0 0), I p, I h, .cell (.own 1), .dead, .dead, .dead, .dead, .dead, .dead, .dead, .dead, .dead, .dead, .dead, I (IntKind.i64.wrap (2560 + Int.tmod k 2560)), I i, .dead, .dead, .dead, .dead, .dead, .dead, .dead, .dead, .dead, .dead, .dead, .dead] [some (.var [.imm (.slice none 0 0), .imm (.slice none 0 0)]), some (.arr (.int .u8) (vM M))])
      (fun (i, p, h) => ∃ j : Nat, i = j ∧ j ≤ (IntKind.i64.wrap (2560 + Int.tmod k 2560)).toNat ∧ [p, h] = iterF (tickV (vM M)) j [vP N, vH N] ∧ 0 ≤ p ∧ p < 2560) (fun (i, _) => ((IntKind.i64.wrap (2560 + Int.tmod k 2560)) - i).toNat) (0, vP N, vH N) (Le.mk [] [1, 2] rfl rfl ?_ ?_) ?_ fun (i, p, h) hi => ?_
    rotate_right
    repeat' first
      | (refine Go.mk ?_; conv => whnf)
      | refine Need.go ?_ ?_
      | refine NilG.go (fun _ => ?_) (fun _ => ?_)
      | refine Br.dec (fun _ => ?_) (fun _ => ?_)
      | refine Br.go (fun _ => ?_) (fun _ => ?_)
      | refine draw_go hT hP mixed ?_
      | refine round_go hT hP ?_
    rotate_right 3
    · exact rfl
    · repeat' first | exact trivial | exact ⟨rfl, rfl⟩ | refine And.intro ?_ ?_
    · exact ⟨0, rfl, Nat.zero_le _, rfl, (vP_in N).1, (vP_in N).2⟩
    all_goals
      obtain ⟨j, rfl, hj, hl, hp0, hp1⟩ := hi
      have hpos : Int.tmod (IntKind.i64.wrap (p + 1)) 2560 = (p + 1) % 2560 := by rw [w64 (by omega) (by omega), Int.tmod_eq_emod_of_nonneg (by omega)]
      have hpos2 : 0 ≤ Int.tmod (IntKind.i64.wrap (p + 1)) 2560 ∧ Int.tmod (IntKind.i64.wrap (p + 1)) 2560 < 2560 := by rw [hpos]; omega
    · decide
    · exact ⟨vM_len M, vM_u8 hu, hpos2.1, hpos2.2⟩
    · rename_i hh hlt
      have hlt : (j : Int) < IntKind.i64.wrap (2560 + Int.tmod k 2560) := hlt
      have hh : hitB (vM M) (Int.tmod (IntKind.i64.wrap (p + 1)) 2560) = true := hh
      rw [hpos] at hh
      have e : IntKind.i64.wrap ((j : Int) + 1) = ((j + 1 : Nat) : Int) := by rw [w64 (by omega) (by omega)]; omega
      apply Exists.intro (_, _, _)
      refine And.intro ?_ (And.intro ?_ (Le.mk [] [0, 1] rfl rfl ?hh ?ht))
      case hh => exact rfl
      case ht => repeat' first | exact trivial | exact ⟨rfl, rfl⟩ | refine And.intro ?_ ?_
      · refine ⟨j + 1, e, by omega, ?_, by rw [hpos]; omega, by rw [hpos]; omega⟩
        rw [iterF_succ, ← hl, tickV, hh, hpos]; rfl
      · show ((IntKind.i64.wrap (2560 + Int.tmod k 2560)) - IntKind.i64.wrap ((j : Int) + 1)).toNat < ((IntKind.i64.wrap (2560 + Int.tmod k 2560)) - (j : Int)).toNat
        rw [e]; omega
    · rename_i hh hlt
      have hlt : (j : Int) < IntKind.i64.wrap (2560 + Int.tmod k 2560) := hlt
      have hh : hitB (vM M) (Int.tmod (IntKind.i64.wrap (p + 1)) 2560) = false := hh
      rw [hpos] at hh
      have e : IntKind.i64.wrap ((j : Int) + 1) = ((j + 1 : Nat) : Int) := by rw [w64 (by omega) (by omega)]; omega
      apply Exists.intro (_, _, _)
      refine And.intro ?_ (And.intro ?_ (Le.mk [] [0, 1] rfl rfl ?hh ?ht))
      case hh => exact rfl
      case ht => repeat' first | exact trivial | exact ⟨rfl, rfl⟩ | refine And.intro ?_ ?_
      · refine ⟨j + 1, e, by omega, ?_, by rw [hpos]; omega, by rw [hpos]; omega⟩
        rw [iterF_succ, ← hl, tickV, hh, hpos]; rfl
      · show ((IntKind.i64.wrap (2560 + Int.tmod k 2560)) - IntKind.i64.wrap ((j : Int) + 1)).toNat < ((IntKind.i64.wrap (2560 + Int.tmod k 2560)) - (j : Int)).toNat
        rw [e]; omega
    · rename_i hlt
      have hlt : ¬ (j : Int) < IntKind.i64.wrap (2560 + Int.tmod k 2560) := hlt
      have ej : j = (IntKind.i64.wrap (2560 + Int.tmod k 2560)).toNat := by omega
      refine .mk [] [2, 1] _ rfl rfl rfl rfl rfl (blk_v (l := [p, h]) ?_ rfl) rfl
      show _ = iterF (tickV (vM M)) k.toNat [vP N, vH N]
      have en : j = 2560 + k.toNat % 2560 := by rw [ej, ek]; omega
      rw [iterV_far (vM M) (vP_in N) (n := k.toNat) (by omega), ← en]; exact hl
  · rename_i hg
    have hg : ¬ k > 5120 := hg
    refine loop_go hT hP (X := Int × Int × Int) (fun (i, p, h) => St.mk [.dead, .dead, .dead, .dead, .cell (.ptr 0 0), I p, I h, .cell (.own 1), .dead, .dead, .dead, .dead, .dead, .dead, .dead, .dead, .dead, .dead, .dead, I k, I i, .dead, .dead, .dead, .dead, .dead, .dead, .dead, .dead, .dead, .dead, .dead, .dead] [some (.var [.imm (.slice none 0 0), .imm (.slice none 0 0)]), some (.arr (.int .u8) (vM M))])
      (fun (i, p, h) => ∃ j : Nat, i = j ∧ j ≤ k.toNat ∧ [p, h] = iterF (tickV (vM M)) j [vP N, vH N] ∧ 0 ≤ p ∧ p < 2560) (fun (i, _) => (k - i).toNat) (0, vP N, vH N) (Le.mk [] [1, 2] rfl rfl ?_ ?_) ?_ fun (i, p, h) hi => ?_
    rotate_right
    repeat' first
      | (refine Go.mk ?_; conv => whnf)
      | refine Need.go ?_ ?_
      | refine NilG.go (fun _ => ?_) (fun _ => ?_)
      | refine Br.dec (fun _ => ?_) (fun _ => ?_)
      | refine Br.go (fun _ => ?_) (fun _ => ?_)
      | refine draw_go hT hP mixed ?_
      | refine round_go hT hP ?_
    rotate_right 3
    · exact rfl
    · repeat' first | exact trivial | exact ⟨rfl, rfl⟩ | refine And.intro ?_ ?_
    · exact ⟨0, rfl, Nat.zero_le _, rfl, (vP_in N).1, (vP_in N).2⟩
    all_goals
      obtain ⟨j, rfl, hj, hl, hp0, hp1⟩ := hi
      have hpos : Int.tmod (IntKind.i64.wrap (p + 1)) 2560 = (p + 1) % 2560 := by rw [w64 (by omega) (by omega), Int.tmod_eq_emod_of_nonneg (by omega)]
      have hpos2 : 0 ≤ Int.tmod (IntKind.i64.wrap (p + 1)) 2560 ∧ Int.tmod (IntKind.i64.wrap (p + 1)) 2560 < 2560 := by rw [hpos]; omega
    · decide
    · exact ⟨vM_len M, vM_u8 hu, hpos2.1, hpos2.2⟩
    · rename_i hh hlt
      have hlt : (j : Int) < k := hlt
      have hh : hitB (vM M) (Int.tmod (IntKind.i64.wrap (p + 1)) 2560) = true := hh
      rw [hpos] at hh
      have e : IntKind.i64.wrap ((j : Int) + 1) = ((j + 1 : Nat) : Int) := by rw [w64 (by omega) (by omega)]; omega
      apply Exists.intro (_, _, _)
      refine And.intro ?_ (And.intro ?_ (Le.mk [] [0, 1] rfl rfl ?hh ?ht))
      case hh => exact rfl
      case ht => repeat' first | exact trivial | exact ⟨rfl, rfl⟩ | refine And.intro ?_ ?_
      · refine ⟨j + 1, e, by omega, ?_, by rw [hpos]; omega, by rw [hpos]; omega⟩
        rw [iterF_succ, ← hl, tickV, hh, hpos]; rfl
      · show (k - IntKind.i64.wrap ((j : Int) + 1)).toNat < (k - (j : Int)).toNat
        rw [e]; omega
    · rename_i hh hlt
      have hlt : (j : Int) < k := hlt
      have hh : hitB (vM M) (Int.tmod (IntKind.i64.wrap (p + 1)) 2560) = false := hh
      rw [hpos] at hh
      have e : IntKind.i64.wrap ((j : Int) + 1) = ((j + 1 : Nat) : Int) := by rw [w64 (by omega) (by omega)]; omega
      apply Exists.intro (_, _, _)
      refine And.intro ?_ (And.intro ?_ (Le.mk [] [0, 1] rfl rfl ?hh ?ht))
      case hh => exact rfl
      case ht => repeat' first | exact trivial | exact ⟨rfl, rfl⟩ | refine And.intro ?_ ?_
      · refine ⟨j + 1, e, by omega, ?_, by rw [hpos]; omega, by rw [hpos]; omega⟩
        rw [iterF_succ, ← hl, tickV, hh, hpos]; rfl
      · show (k - IntKind.i64.wrap ((j : Int) + 1)).toNat < (k - (j : Int)).toNat
        rw [e]; omega
    · rename_i hlt
      have hlt : ¬ (j : Int) < k := hlt
      have ej : j = k.toNat := by omega
      refine .mk [] [2, 1] _ rfl rfl rfl rfl rfl (blk_v (l := [p, h]) ?_ rfl) rfl
      show _ = iterF (tickV (vM M)) k.toNat [vP N, vH N]
      rw [← ej]; exact hl

def vtickS : PSpec := ⟨[gD], fun (d, _) => (some (u8s d.2), devM, [.arr (.int .i64) (tickV (vM d.2) [vP d.1, vH d.1]), .arr (.int .u8) (vM d.2)])⟩
theorem vtick_ok : Good Try.prog 19 vtickS.spec := by
  have hT := tab_ok (fs := [(20, vskipS.spec)]) tree_ok
  have hP : SpecsOk Try.prog (tab tree [(20, vskipS.spec)]) := specs_cons vskip_ok specs_nil
  refine vtickS.good (fn := Try.f19) hT hP Try.func19 (by kernel_rfl) rfl fun (d : Dv) hp => ?_
  obtain ⟨N, M⟩ := d
  have hu : u8s M := hp _ rfl
  repeat' first
    | (refine Go.mk ?_; conv => whnf)
    | refine Need.go ?_ ?_
    | refine NilG.go (fun _ => ?_) (fun _ => ?_)
    | refine Br.dec (fun _ => ?_) (fun _ => ?_)
    | refine Br.go (fun _ => ?_) (fun _ => ?_)
    | refine draw_go hT hP mixed ?_
    | refine round_go hT hP ?_
  · exact ⟨hu, by decide⟩
  · exact .mk [] [2, 3] _ rfl rfl rfl rfl rfl rfl rfl

def voutS : PSpec := ⟨[gD], fun (d, _) => (some (u8s d.2), I (colorF (vM d.2) (vP d.1)), [])⟩
theorem vout_ok : Good Try.prog 39 voutS.spec := by
  have hT := tab_ok (fs := [(87, vfitS.spec), (97, colorS.spec)]) tree_ok
  have hP : SpecsOk Try.prog (tab tree [(87, vfitS.spec), (97, colorS.spec)]) := specs_cons vfit_ok (specs_cons color_ok specs_nil)
  refine voutS.good (fn := Try.f39) hT hP Try.func39 (by kernel_rfl) rfl fun (d : Dv) hp => ?_
  obtain ⟨N, M⟩ := d
  have hu : u8s M := hp _ rfl
  repeat' first
    | (refine Go.mk ?_; conv => whnf)
    | refine Need.go ?_ ?_
    | refine NilG.go (fun _ => ?_) (fun _ => ?_)
    | refine Br.dec (fun _ => ?_) (fun _ => ?_)
    | refine Br.go (fun _ => ?_) (fun _ => ?_)
    | refine draw_go hT hP mixed ?_
    | refine round_go hT hP ?_
  · exact ⟨vM_len M, vM_u8 hu, (vP_in N).1, (vP_in N).2⟩
  · exact .mk [] [] _ rfl rfl rfl rfl rfl rfl rfl

def vwM (m : List Int) (a k : Int) : List Int := if (0 ≤ a ∧ a < 32) ∧ (a < 5 ∨ a > 7) then m.set a.toNat (k % 256) else m
def vwriteS : PSpec := ⟨[gD, gi, gi], fun (d, a, k, _) => (none, devM, [.arr (.int .i64) [vP d.1, vH d.1], .arr (.int .u8) (vwM (vM d.2) a k)])⟩
theorem vwrite_ok : Good Try.prog 38 vwriteS.spec := by
  have hT := tab_ok (fs := [(89, vmadeS.spec), (87, vfitS.spec), (94, lowM.spec)]) tree_ok
  have hP : SpecsOk Try.prog (tab tree [(89, vmadeS.spec), (87, vfitS.spec), (94, lowM.spec)]) := specs_cons vmade_ok (specs_cons vfit_ok (specs_cons lowM_ok specs_nil))
  refine vwriteS.good (fn := Try.f38) hT hP Try.func38 (by kernel_rfl) rfl fun (d : Dv) (a k : Int) _ => ?_
  obtain ⟨N, M⟩ := d
  repeat' first
    | (refine Go.mk ?_; conv => whnf)
    | refine Need.go ?_ ?_
    | refine NilG.go (fun _ => ?_) (fun _ => ?_)
    | refine Br.dec (fun _ => ?_) (fun _ => ?_)
    | refine Br.go (fun _ => ?_) (fun _ => ?_)
    | refine draw_go hT hP mixed ?_
    | refine round_go hT hP ?_
  all_goals first
    | exact of_decide_eq_true rfl
    | skip
  · show 0 ≤ a ∧ a < (vM M).length
    rw [vM_len]; omega
  · show a.toNat < (vM M).length
    rw [vM_len]; omega
  · refine .mk [] [3, 2] _ rfl rfl rfl rfl rfl (blk_v (l := [vP N, vH N]) (m := (vM M).set a.toNat (IntKind.u8.wrap (k % 2 ^ (8 : Int).toNat))) rfl ?_) rfl
    show _ = vwM (vM M) a k
    have e : IntKind.u8.wrap (k % 2 ^ (8 : Int).toNat) = k % 256 := wrap8 (by show 0 ≤ k % 256; omega) (by show k % 256 < 256; omega)
    rw [vwM, if_pos ⟨⟨by omega, by omega⟩, by omega⟩, e]
  · show 0 ≤ a ∧ a < (vM M).length
    rw [vM_len]; omega
  · show a.toNat < (vM M).length
    rw [vM_len]; omega
  · refine .mk [] [3, 2] _ rfl rfl rfl rfl rfl (blk_v (l := [vP N, vH N]) (m := (vM M).set a.toNat (IntKind.u8.wrap (k % 2 ^ (8 : Int).toNat))) rfl ?_) rfl
    show _ = vwM (vM M) a k
    have e : IntKind.u8.wrap (k % 2 ^ (8 : Int).toNat) = k % 256 := wrap8 (by show 0 ≤ k % 256; omega) (by show k % 256 < 256; omega)
    rw [vwM, if_pos ⟨⟨by omega, by omega⟩, by omega⟩, e]
  · refine .mk [] [3, 2] _ rfl rfl rfl rfl rfl (blk_v (l := [vP N, vH N]) (m := vM M) rfl ?_) rfl
    show _ = vwM (vM M) a k
    rw [vwM, if_neg (fun e => by omega)]
  · refine .mk [] [3, 2] _ rfl rfl rfl rfl rfl (blk_v (l := [vP N, vH N]) (m := vM M) rfl ?_) rfl
    show _ = vwM (vM M) a k
    rw [vwM, if_neg (fun e => by omega)]
  · refine .mk [] [3, 2] _ rfl rfl rfl rfl rfl (blk_v (l := [vP N, vH N]) (m := vM M) rfl ?_) rfl
    show _ = vwM (vM M) a k
    rw [vwM, if_neg (fun e => by omega)]

def vrF (N m : List Int) (a : Int) : Int := if a = 5 then vP N / 64 else if a = 6 then vP N % 64 else if a = 7 then vH N else if 0 ≤ a ∧ a < 32 then bA m a.toNat else 0
def vrN (N : List Int) (a : Int) : List Int := [vP N, if a = 7 then 0 else vH N]
def vreadS : PSpec := ⟨[gD, gi], fun (d, a, _) => (some (u8s d.2), .tup [.agg [.own 0, .own 1], I1 (vrF d.1 (vM d.2) a)], [.arr (.int .i64) (vrN d.1 a), .arr (.int .u8) (vM d.2)])⟩
theorem vread_ok : Good Try.prog 37 vreadS.spec := by
  have hT := tab_ok (fs := [(89, vmadeS.spec), (87, vfitS.spec)]) tree_ok
  have hP : SpecsOk Try.prog (tab tree [(89, vmadeS.spec), (87, vfitS.spec)]) := specs_cons vmade_ok (specs_cons vfit_ok specs_nil)
  refine vreadS.good (fn := Try.f37) hT hP Try.func37 (by kernel_rfl) rfl fun (d : Dv) (a : Int) hp => ?_
  obtain ⟨N, M⟩ := d
  have hu : u8s M := hp _ rfl
  have hP0 := vP_in N
  repeat' first
    | (refine Go.mk ?_; conv => whnf)
    | refine Need.go ?_ ?_
    | refine NilG.go (fun _ => ?_) (fun _ => ?_)
    | refine Br.dec (fun _ => ?_) (fun _ => ?_)
    | refine Br.go (fun _ => ?_) (fun _ => ?_)
    | refine draw_go hT hP mixed ?_
    | refine round_go hT hP ?_
  all_goals first
    | exact of_decide_eq_true rfl
    | (show 0 ≤ a ∧ a < (vM M).length
       rw [vM_len]; omega)
    | (show a.toNat < (vM M).length
       rw [vM_len]; omega)
    | skip
  · rename_i h
    have h : a = 5 := h
    refine .mk [] [3, 2] _ rfl rfl rfl rfl rfl (blk_v (l := [vP N, vH N]) (m := vM M) ?_ rfl) (tup_rv ?_)
    · show _ = vrN N a
      rw [vrN, if_neg (by omega)]
    · show IntKind.i64.wrap (Int.tdiv (vP N) 64) = vrF N (vM M) a
      rw [vrF, if_pos h, Int.tdiv_eq_ediv_of_nonneg hP0.1, w64 (by omega) (by omega)]
  · rename_i h0 h
    have h : a = 6 := h
    refine .mk [] [3, 2] _ rfl rfl rfl rfl rfl (blk_v (l := [vP N, vH N]) (m := vM M) ?_ rfl) (tup_rv ?_)
    · show _ = vrN N a
      rw [vrN, if_neg (by omega)]
    · show Int.tmod (vP N) 64 = vrF N (vM M) a
      rw [vrF, if_neg h0, if_pos h, Int.tmod_eq_emod_of_nonneg hP0.1]
  · rename_i h0 h1 h
    have h : a = 7 := h
    refine .mk [] [3, 2] _ rfl rfl rfl rfl rfl (blk_v (l := [vP N, 0]) (m := vM M) ?_ rfl) (tup_rv ?_)
    · show _ = vrN N a
      rw [vrN, if_pos h]
    · show vH N = vrF N (vM M) a
      rw [vrF, if_neg h0, if_neg h1, if_pos h]
  · rename_i h0 h1 h2 h3 h4
    have hb := u8s_get (vM_u8 hu) a.toNat
    refine .mk [] [3, 2] _ rfl rfl rfl rfl rfl (blk_v (l := [vP N, vH N]) (m := vM M) ?_ rfl) (tup_rv ?_)
    · show _ = vrN N a
      rw [vrN, if_neg h2]
    · show IntKind.i64.wrap (bA (vM M) a.toNat) = vrF N (vM M) a
      rw [vrF, if_neg h0, if_neg h1, if_neg h2, if_pos ⟨h3, h4⟩, w64 (by omega) (by omega)]
  · rename_i h0 h1 h2 h3 h4
    refine .mk [] [3, 2] _ rfl rfl rfl rfl rfl (blk_v (l := [vP N, vH N]) (m := vM M) ?_ rfl) (tup_rv ?_)
    · show _ = vrN N a
      rw [vrN, if_neg h2]
    · show 0 = vrF N (vM M) a
      rw [vrF, if_neg h0, if_neg h1, if_neg h2, if_neg (fun e => h4 e.2)]
  · rename_i h0 h1 h2 h3
    refine .mk [] [3, 2] _ rfl rfl rfl rfl rfl (blk_v (l := [vP N, vH N]) (m := vM M) ?_ rfl) (tup_rv ?_)
    · show _ = vrN N a
      rw [vrN, if_neg h2]
    · show 0 = vrF N (vM M) a
      rw [vrF, if_neg h0, if_neg h1, if_neg h2, if_neg (fun e => h3 e.1)]

def diffV (m : List Int) (p k : Int) : Bool := decide (colorF m ((p + k) % 2560) ≠ colorF m p)
def restD (m : List Int) (p : Int) : Nat → Int
  | 0 => 100000
  | n + 1 => if diffV m p (2560 - n) = true then 2560 - n - 1 else restD m p n
def vnextF (m : List Int) (p : Int) : Int := restD m p 2560
theorem restD_go (m : List Int) (p : Int) {n : Nat} (h : diffV m p (2560 - n) = false) : restD m p (n + 1) = restD m p n := by
  rw [restD, h]; rfl
theorem restD_is (m : List Int) (p : Int) {n : Nat} (h : diffV m p (2560 - n) = true) : restD m p (n + 1) = 2560 - n - 1 := by
  rw [restD, h]; rfl
def vnextS : PSpec := ⟨[gD], fun (d, _) => (some (u8s d.2), I (vnextF (vM d.2) (vP d.1)), [])⟩
theorem vnext_ok : Good Try.prog 40 vnextS.spec := by
  have hT := tab_ok (fs := [(87, vfitS.spec), (97, colorS.spec)]) tree_ok
  have hP : SpecsOk Try.prog (tab tree [(87, vfitS.spec), (97, colorS.spec)]) := specs_cons vfit_ok (specs_cons color_ok specs_nil)
  refine vnextS.good (fn := Try.f40) hT hP Try.func40 (by kernel_rfl) rfl fun (d : Dv) hp => ?_
  obtain ⟨N, M⟩ := d
  have hu : u8s M := hp _ rfl
  have hP0 := vP_in N
  repeat' first
    | (refine Go.mk ?_; conv => whnf)
    | refine Need.go ?_ ?_
    | refine NilG.go (fun _ => ?_) (fun _ => ?_)
    | refine Br.dec (fun _ => ?_) (fun _ => ?_)
    | refine Br.go (fun _ => ?_) (fun _ => ?_)
    | refine draw_go hT hP mixed ?_
    | refine round_go hT hP ?_
  · exact ⟨vM_len M, vM_u8 hu, hP0.1, hP0.2⟩
  refine loop_go hT hP (X := Int × Int) (fun (i, p) => St.mk [.dead, .dead, .dead, I p, .dead, .cell (.own 0), I (colorF (vM M) (vP N)), .dead, .dead, .dead, .dead, .dead, .dead, .dead, .dead, .dead, .dead, I i, .dead, .dead, .dead, .dead, .dead, .dead, .dead, .dead, .dead, .dead, .dead, .dead] [some (.arr (.int .u8) (vM M))])
    (fun (i, p) => ∃ j : Nat, i = j ∧ j ≤ 2560 ∧ p = (vP N + j) % 2560 ∧ vnextF (vM M) (vP N) = restD (vM M) (vP N) (2560 - j)) (fun (i, _) => (2560 - i).toNat) (0, vP N) (Le.mk [] [1] rfl rfl ?_ ?_) ?_ fun (i, p) hi => ?_
  rotate_right
  repeat' first
    | (refine Go.mk ?_; conv => whnf)
    | refine Need.go ?_ ?_
    | refine NilG.go (fun _ => ?_) (fun _ => ?_)
    | refine Br.dec (fun _ => ?_) (fun _ => ?_)
    | refine Br.go (fun _ => ?_) (fun _ => ?_)
    | refine draw_go hT hP mixed ?_
    | refine round_go hT hP ?_
  rotate_right 3
  · exact rfl
  · repeat' first | exact trivial | exact ⟨rfl, rfl⟩ | refine And.intro ?_ ?_
  · exact ⟨0, rfl, Nat.zero_le _, by show vP N = (vP N + 0) % 2560; omega, rfl⟩
  all_goals
    obtain ⟨j, rfl, hj, rfl, hr⟩ := hi
    have hpos : Int.tmod (IntKind.i64.wrap ((vP N + (j : Int)) % 2560 + 1)) 2560 = (vP N + ((j : Int) + 1)) % 2560 := by rw [w64 (by omega) (by omega), Int.tmod_eq_emod_of_nonneg (by omega)]; omega
    have hpos2 : 0 ≤ Int.tmod (IntKind.i64.wrap ((vP N + (j : Int)) % 2560 + 1)) 2560 ∧ Int.tmod (IntKind.i64.wrap ((vP N + (j : Int)) % 2560 + 1)) 2560 < 2560 := by rw [hpos]; omega
  · decide
  · exact ⟨vM_len M, vM_u8 hu, hpos2.1, hpos2.2⟩
  · rename_i hlt hh
    have hlt : (j : Int) < 2560 := hlt
    have hh : (colorF (vM M) (Int.tmod (IntKind.i64.wrap ((vP N + (j : Int)) % 2560 + 1)) 2560) != colorF (vM M) (vP N)) = true := hh
    rw [hpos] at hh
    refine .mk [] [] _ rfl rfl rfl rfl rfl rfl (imm_int ?_)
    show (j : Int) = vnextF (vM M) (vP N)
    have e : 2560 - j = (2560 - (j + 1)) + 1 := by omega
    have e2 : (2560 : Int) - ((2560 - (j + 1) : Nat) : Int) = (j : Int) + 1 := by omega
    rw [hr, e, restD_is _ _ (by rw [e2]; unfold diffV; simpa using hh)]; omega
  · rename_i hlt hh
    have hlt : (j : Int) < 2560 := hlt
    have hh : (colorF (vM M) (Int.tmod (IntKind.i64.wrap ((vP N + (j : Int)) % 2560 + 1)) 2560) != colorF (vM M) (vP N)) = false := hh
    rw [hpos] at hh
    have e : IntKind.i64.wrap ((j : Int) + 1) = ((j + 1 : Nat) : Int) := by rw [w64 (by omega) (by omega)]; omega
    apply Exists.intro (_, _)
    refine And.intro ?_ (And.intro ?_ (Le.mk [] [0] rfl rfl ?hh ?ht))
    case hh => exact rfl
    case ht => repeat' first | exact trivial | exact ⟨rfl, rfl⟩ | refine And.intro ?_ ?_
    · refine ⟨j + 1, e, by omega, ?_, ?_⟩
      · rw [hpos]; omega
      · have e1 : 2560 - j = (2560 - (j + 1)) + 1 := by omega
        have e2 : (2560 : Int) - ((2560 - (j + 1) : Nat) : Int) = (j : Int) + 1 := by omega
        rw [hr, e1, restD_go _ _ (by rw [e2]; unfold diffV; simpa using hh)]
    · show ((2560 : Int) - IntKind.i64.wrap ((j : Int) + 1)).toNat < ((2560 : Int) - (j : Int)).toNat
      rw [e]; omega
  · rename_i hlt
    have hlt : ¬ (j : Int) < 2560 := hlt
    have ej : j = 2560 := by omega
    refine .mk [] [] _ rfl rfl rfl rfl rfl rfl (imm_int ?_)
    show 100000 = vnextF (vM M) (vP N)
    rw [hr, ej]; rfl

def videosS : PSpec := ⟨[], fun _ => (none, .cell (bv true), [])⟩
theorem videos_ok : Good Try.prog 17 videosS.spec := by
  have hT := tab_ok (fs := [(36, vnewS.spec), (38, vwriteS.spec), (39, voutS.spec)]) tree_ok
  have hP : SpecsOk Try.prog (tab tree [(36, vnewS.spec), (38, vwriteS.spec), (39, voutS.spec)]) := specs_cons vnew_ok (specs_cons vwrite_ok (specs_cons vout_ok specs_nil))
  refine videosS.good (fn := Try.f17) hT hP Try.func17 (by kernel_rfl) rfl fun _ => ?_
  repeat' first
    | (refine Go.mk ?_; conv => whnf)
    | refine Need.go ?_ ?_
    | refine NilG.go (fun _ => ?_) (fun _ => ?_)
    | refine Br.dec (fun _ => ?_) (fun _ => ?_)
    | refine Br.go (fun _ => ?_) (fun _ => ?_)
    | refine draw_go hT hP mixed ?_
    | refine round_go hT hP ?_
  all_goals first
    | exact of_decide_eq_true rfl
    | skip
  · refine .mk [] [] _ rfl rfl rfl rfl rfl rfl (imm_bool ?_)
    show (colorF (vM (vwM (vM (List.replicate 32 0)) 0 7)) (vP [vP [2559, 0], vH [2559, 0]]) == 7) = true
    decide +kernel

end Go.Proofs.Ythpijepbbpcjeaa
