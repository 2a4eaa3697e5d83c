/- The chip with two voices, by the document. -/
import Derived.Test.YthpijepbbpcjeaaSound3
namespace Go.Proofs.Ythpijepbbpcjeaa
open Go.Fw
set_option linter.unusedVariables false
set_option linter.unusedSimpArgs false
set_option maxRecDepth 100000

def sndC : Cv := (ByteArray.empty, 7, 0, 0, [])
def omods : List Int := [4096, 16, 256, 4096, 2, 16384, 4096, 16, 256, 4096, 2, 16384]
theorem omods_ok : omods.length ≤ 1000 ∧ ∀ m ∈ omods, 0 < m ∧ m ≤ 4611686018427387904 := by decide
def oformedS : PSpec := ⟨[gC, gD], fun (c, d, _) => (some (c = sndC), devR, [.arr (.int .i64) (sndN d.1)])⟩
theorem oformed_ok : Good Try.prog 15 oformedS.spec := by
  have hT := tab_ok (fs := [(82, formS.spec)]) tree_ok
  have hP : SpecsOk Try.prog (tab tree [(82, formS.spec)]) := specs_cons form_ok specs_nil
  refine oformedS.good (fn := Try.f15) hT hP Try.func15 (by kernel_rfl) rfl fun (c : Cv) (d : Dv) hp => ?_
  have hp : c = sndC := hp _ rfl
  subst hp
  obtain ⟨N, M⟩ := d
  repeat' first
    | (refine Go.mk ?_; conv => whnf)
    | refine Need.go ?_ ?_
    | refine NilG.go (fun _ => ?_) (fun _ => ?_)
    | refine Br.dec (fun _ => ?_) (fun _ => ?_)
    | refine Br.go (fun _ => ?_) (fun _ => ?_)
    | refine draw_go hT hP mixed ?_
    | refine round_go hT hP ?_
  all_goals first
    | exact rfl
    | exact omods_ok
    | exact of_decide_eq_true rfl
    | skip
  exact .mk [] [5] _ rfl rfl rfl rfl rfl rfl rfl

def ofreshS : PSpec := ⟨[gC], fun (c, _) => (some (c = sndC), devR, [.arr (.int .i64) (List.replicate 12 0)])⟩
theorem ofresh_ok : Good Try.prog 23 ofreshS.spec := by
  have hT := tab_ok (fs := [(15, oformedS.spec)]) tree_ok
  have hP : SpecsOk Try.prog (tab tree [(15, oformedS.spec)]) := specs_cons oformed_ok specs_nil
  refine ofreshS.good (fn := Try.f23) hT hP Try.func23 (by kernel_rfl) rfl fun (c : Cv) hp => ?_
  have hp : c = sndC := hp _ rfl
  subst hp
  repeat' first
    | (refine Go.mk ?_; conv => whnf)
    | refine Need.go ?_ ?_
    | refine NilG.go (fun _ => ?_) (fun _ => ?_)
    | refine Br.dec (fun _ => ?_) (fun _ => ?_)
    | refine Br.go (fun _ => ?_) (fun _ => ?_)
    | refine draw_go hT hP mixed ?_
    | refine round_go hT hP ?_
  all_goals first
    | exact rfl
    | exact omods_ok
    | exact of_decide_eq_true rfl
    | skip
  exact .mk [] [2] _ rfl rfl rfl rfl rfl rfl rfl

theorem tm {n m : Int} (h : 0 ≤ n) : Int.tmod n m = n % m := Int.tmod_eq_emod_of_nonneg h
theorem td256 {n : Int} (h : 0 ≤ n ∧ n < 4096) : IntKind.i64.wrap (Int.tdiv n 256) = n / 256 := by rw [Int.tdiv_eq_ediv_of_nonneg h.1, w64 (by omega) (by omega)]
def oloadedS : PSpec := ⟨[gC, gD, gi], fun (c, d, a, _) => (some (c = sndC), .tup [.agg [.own 0, .imm (.slice none 0 0)], I1 (orF d.1 a)], [.arr (.int .i64) (sndN d.1)])⟩
theorem oloaded_ok : Good Try.prog 25 oloadedS.spec := by
  have hT := tab_ok (fs := [(15, oformedS.spec), (92, pickS.spec)]) tree_ok
  have hP : SpecsOk Try.prog (tab tree [(15, oformedS.spec), (92, pickS.spec)]) := specs_cons oformed_ok (specs_cons pick_ok specs_nil)
  refine oloadedS.good (fn := Try.f25) hT hP Try.func25 (by kernel_rfl) rfl fun (c : Cv) (d : Dv) (a : Int) hp => ?_
  have hp : c = sndC := hp _ rfl
  subst hp
  obtain ⟨N, M⟩ := d
  obtain ⟨h0, h1, h2, h3, h4, h5⟩ := oR N
  repeat' first
    | (refine Go.mk ?_; conv => whnf)
    | refine Need.go ?_ ?_
    | refine NilG.go (fun _ => ?_) (fun _ => ?_)
    | refine Br.dec (fun _ => ?_) (fun _ => ?_)
    | refine Br.go (fun _ => ?_) (fun _ => ?_)
    | refine draw_go hT hP mixed ?_
    | refine round_go hT hP ?_
  all_goals first
    | exact rfl
    | exact omods_ok
    | exact of_decide_eq_true rfl
    | skip
  refine .mk [] [4] _ rfl rfl rfl rfl rfl rfl (tup_reads ?_)
  show pickF [Int.tmod (N.getD 0 0 % 4096) 256, IntKind.i64.wrap (Int.tdiv (N.getD 0 0 % 4096) 256), N.getD 1 0 % 16, N.getD 2 0 % 256, Int.tmod (N.getD 6 0 % 4096) 256, IntKind.i64.wrap (Int.tdiv (N.getD 6 0 % 4096) 256), N.getD 7 0 % 16, N.getD 8 0 % 256] a = orF N a
  rw [tm h0.1, tm h3.1, td256 h0, td256 h3]; rfl

theorem st_lo {n k : Int} (h : 0 ≤ n ∧ n < 4096) : IntKind.i64.wrap (IntKind.i64.wrap (IntKind.i64.wrap (Int.tdiv n 256) * 256) + k % 256) = n / 256 * 256 + k % 256 := by
  rw [td256 h, w64 (x := n / 256 * 256) (by omega) (by omega), w64 (by omega) (by omega)]
theorem st_v {k : Int} : Int.tmod (k % 256) 16 = k % 16 := by rw [tm (by omega)]; omega
theorem st_hi {n k : Int} (h : 0 ≤ n ∧ n < 4096) : IntKind.i64.wrap (Int.tmod n 256 + IntKind.i64.wrap (Int.tmod (k % 256) 16 * 256)) = n % 256 + k % 16 * 256 := by
  rw [tm h.1, st_v, w64 (x := k % 16 * 256) (by omega) (by omega), w64 (by omega) (by omega)]
theorem set2_eq {l : List Int} {i j : Nat} {x y z : Int} (h : x = y) : (l.set i x).set j z = (l.set i y).set j z := by rw [h]
def ostoredS : PSpec := ⟨[gC, gD, gi, gi], fun (c, d, a, k, _) => (some (c = sndC), devR, [.arr (.int .i64) (owF d.1 a k)])⟩
set_option maxHeartbeats 4000000 in
theorem ostored_ok : Good Try.prog 27 ostoredS.spec := by
  have hT := tab_ok (fs := [(15, oformedS.spec), (95, modS.spec)]) tree_ok
  have hP : SpecsOk Try.prog (tab tree [(15, oformedS.spec), (95, modS.spec)]) := specs_cons oformed_ok (specs_cons mod_ok specs_nil)
  refine ostoredS.good (fn := Try.f27) hT hP Try.func27 (by kernel_rfl) rfl fun (c : Cv) (d : Dv) (a k : Int) hp => ?_
  have hp : c = sndC := hp _ rfl
  subst hp
  obtain ⟨N, M⟩ := d
  obtain ⟨h0, h1, h2, h3, h4, h5⟩ := oR N
  have ha : a = 0 ∨ a = 1 ∨ a = 2 ∨ a = 3 ∨ a = 4 ∨ a = 5 ∨ a = 6 ∨ a = 7 ∨ a < 0 ∨ a ≥ 8 := by omega
  rcases ha with rfl | rfl | rfl | rfl | rfl | rfl | rfl | rfl | ha | ha
  all_goals
    repeat' first
      | (refine Go.mk ?_; conv => whnf)
      | refine Need.go ?_ ?_
      | refine NilG.go (fun _ => ?_) (fun _ => ?_)
      | refine Br.dec (fun _ => ?_) (fun _ => ?_)
      | refine Br.go (fun _ => ?_) (fun _ => ?_)
      | refine draw_go hT hP mixed ?_
      | refine round_go hT hP ?_
    all_goals first
      | exact rfl
      | exact of_decide_eq_true rfl
      | (exfalso; omega)
      | exact .mk [] [3] _ rfl rfl rfl rfl rfl rfl rfl
      | (refine .mk [] [3] _ rfl rfl rfl rfl rfl (blk_eqs ?_) rfl
         first | exact set_eq (st_lo h0) | exact set_eq (st_lo h3) | exact set_eq (st_hi h0) | exact set_eq (st_hi h3) | exact set2_eq st_v)
      | (refine .mk [] [3] _ rfl rfl rfl rfl rfl (blk_eqs (l := sndN N) ?_) rfl
         show _ = owF N a k
         unfold owF
         rw [if_neg (by omega), if_neg (by omega), if_neg (by omega), if_neg (by omega), if_neg (by omega), if_neg (by omega), if_neg (by omega), if_neg (by omega)])
      | skip

def oshowsS : PSpec := ⟨[gC, gD], fun (c, d, _) => (some (c = sndC), I (ooutF d.1), [])⟩
theorem oshows_ok : Good Try.prog 33 oshowsS.spec := by
  have hT := tab_ok (fs := [(15, oformedS.spec)]) tree_ok
  have hP : SpecsOk Try.prog (tab tree [(15, oformedS.spec)]) := specs_cons oformed_ok specs_nil
  refine oshowsS.good (fn := Try.f33) hT hP Try.func33 (by kernel_rfl) rfl fun (c : Cv) (d : Dv) hp => ?_
  have hp : c = sndC := hp _ rfl
  subst hp
  obtain ⟨N, M⟩ := d
  repeat' first
    | (refine Go.mk ?_; conv => whnf)
    | refine Need.go ?_ ?_
    | refine NilG.go (fun _ => ?_) (fun _ => ?_)
    | refine Br.dec (fun _ => ?_) (fun _ => ?_)
    | refine Br.go (fun _ => ?_) (fun _ => ?_)
    | refine draw_go hT hP mixed ?_
    | refine round_go hT hP ?_
  all_goals first
    | exact rfl
    | exact of_decide_eq_true rfl
    | (refine .mk [] [] _ rfl rfl rfl rfl rfl rfl (imm_int ?_)
       show IntKind.i64.wrap (IntKind.i64.wrap (N.getD 4 0 % 2 * (N.getD 1 0 % 16)) + IntKind.i64.wrap (N.getD 10 0 % 2 * (N.getD 7 0 % 16))) = ooutF N
       rw [Int.mul_comm (N.getD 4 0 % 2), Int.mul_comm (N.getD 10 0 % 2)]
       exact oout_wrap N)
    | skip

theorem heap4 {x y z : Blk} {l l' : List Int} (h : l = l') : [some x, some y, some (Blk.arr (.int .i64) l), some z] = [some x, some y, some (Blk.arr (.int .i64) l'), some z] := by rw [h]
def otickedS : PSpec := ⟨[gC, gD], fun (c, d, _) => (some (c = sndC), devR, [.arr (.int .i64) (tickW (sndN d.1))])⟩
set_option maxHeartbeats 8000000 in
theorem oticked_ok : Good Try.prog 16 otickedS.spec := by
  have hT := tab_ok (fs := [(15, oformedS.spec)]) tree_ok
  have hP : SpecsOk Try.prog (tab tree [(15, oformedS.spec)]) := specs_cons oformed_ok specs_nil
  refine otickedS.good (fn := Try.f16) hT hP Try.func16 (by kernel_rfl) rfl fun (c : Cv) (d : Dv) hp => ?_
  have hp : c = sndC := hp _ rfl
  subst hp
  obtain ⟨N, M⟩ := d
  repeat' first
    | (refine Go.mk ?_; conv => whnf)
    | refine Need.go ?_ ?_
    | refine NilG.go (fun _ => ?_) (fun _ => ?_)
    | refine Br.dec (fun _ => ?_) (fun _ => ?_)
    | refine Br.go (fun _ => ?_) (fun _ => ?_)
    | refine draw_go hT hP mixed ?_
    | refine round_go hT hP ?_
  all_goals first
    | exact rfl
    | exact of_decide_eq_true rfl
    | skip
  refine loop_go hT hP (X := Int × List Int) (fun (i, l) => St.mk [.dead, .dead, .dead, .cell (.ptr 0 0), .cell (.ptr 1 0), .dead, .dead, .dead, .dead, .dead, .dead, .dead, .dead, .dead, .dead, .dead, .dead, .dead, .dead, .dead, .dead, .dead, .dead, .dead, .dead, .dead, .dead, .dead, .dead, .dead, .dead, .dead, .dead, .dead, .dead, .dead, .dead, .dead, .dead, .dead, .dead, .dead, .dead, .dead, .dead, .dead, .dead, .dead, .dead, .dead, .dead, .dead, .dead, .dead, .dead, .dead, .dead, .dead, .dead, .dead, .dead, .dead, .dead, .dead, .dead, .dead, .dead, .dead, .dead, .dead, .dead, .dead, .dead, .dead, .dead, .dead, .dead, .dead, .dead, .dead, .dead, .dead, .dead, .dead, .dead, .dead, .dead, .dead, .dead, .dead, .dead, .dead, .dead, .dead, .dead, .dead, .dead, .dead, .dead, .dead, .dead, .dead, .dead, .dead, .dead, .dead, .dead, .dead, .dead, .dead, .dead, .cell (.svar 3 0 2), I 2, I i, .dead, .dead, .dead, .dead, .dead, .dead, .dead, .dead, .dead, .dead, .dead, .dead, .dead, .dead, .dead, .dead, .dead, .dead, .dead, .dead, .dead, .dead, .dead, .dead, .dead, .dead, .dead, .dead, .dead, .dead, .dead, .dead, .dead, .dead, .dead, .dead, .dead, .dead, .dead, .dead, .dead, .dead, .dead, .dead, .dead, .dead, .dead, .dead, .dead, .dead, .dead, .dead, .dead, .dead, .dead, .dead, .dead, .dead, .dead, .dead, .dead, .dead, .dead, .dead, .dead, .dead, .dead, .dead, .dead, .dead] [some (.var [.own 2, .imm (.slice none 0 0)]), some (.var [.imm (.slice none 0 0), .imm (.slice none 0 0)]), some (.arr (.int .i64) l), some (.var [.sub 2 0 6, .sub 2 6 6])])
    (fun (i, l) => (i = 0 ∧ l = vo N 0 ++ vo N 6) ∨ (i = 1 ∧ l = passV 1 (vo N 0) ++ vo N 6) ∨ (i = 2 ∧ l = passV 1 (vo N 0) ++ passV 1 (vo N 6))) (fun (i, _) => (2 - i).toNat) (0, sndN N) (Le.mk [] [1, 2, 3, 4] rfl rfl ?_ ?_) ?_ fun (i, l) hi => ?_
  · exact rfl
  · repeat' first | exact trivial | exact ⟨rfl, rfl⟩ | refine And.intro ?_ ?_
  · exact .inl ⟨rfl, rfl⟩
  rcases hi with ⟨rfl, hl⟩ | ⟨rfl, hl⟩ | ⟨rfl, hl⟩
  · obtain ⟨A, hA⟩ : ∃ A, A = vo N 0 := ⟨_, rfl⟩
    obtain ⟨B, hB⟩ : ∃ B, B = vo N 6 := ⟨_, rfl⟩
    have oA : vOk A := by rw [hA]; exact vo_ok N 0
    have oB : vOk B := by rw [hB]; exact vo_ok N 6
    rw [← hA, ← hB] at hl
    subst hl
    obtain ⟨G, hG⟩ : ∃ G, G = passV 1 A ++ B := ⟨_, rfl⟩
    have hI : ∀ z : Int × List Int, z.1 = 1 → z.2 = G → (z.1 = 0 ∧ z.2 = vo N 0 ++ vo N 6) ∨ (z.1 = 1 ∧ z.2 = passV 1 (vo N 0) ++ vo N 6) ∨ (z.1 = 2 ∧ z.2 = passV 1 (vo N 0) ++ passV 1 (vo N 6)) := by
      intro z h1 h2
      rw [h1, h2, hG, hA, hB]
      exact .inr (.inl ⟨rfl, rfl⟩)
    clear hA hB
    cases oA with
    | mk hp hv hr hc hf hw =>
    cases oB with
    | mk hp' hv' hr' hc' hf' hw' =>
    rename_i p v r c f w p' v' r' c' f' w'
    repeat' first
      | (refine Go.mk ?_; conv => whnf)
      | refine Need.go ?_ ?_
      | refine NilG.go (fun _ => ?_) (fun _ => ?_)
      | refine Br.dec (fun _ => ?_) (fun _ => ?_)
      | refine Br.go (fun _ => ?_) (fun _ => ?_)
      | refine draw_go hT hP mixed ?_
      | refine round_go hT hP ?_
    all_goals first
      | exact of_decide_eq_true rfl
      | (exfalso; rename_i h; revert h; decide)
      | skip
    all_goals
      apply Exists.intro (_, G)
      refine And.intro ?_ (And.intro ?_ (Le.mk [] [0, 1, 2, 3] rfl rfl (heap4 ?_) ?ht))
      case ht => repeat' first | exact trivial | exact ⟨rfl, rfl⟩ | refine And.intro ?_ ?_
    all_goals first
      | exact hI (IntKind.i64.wrap (0 + 1), G) rfl rfl
      | (show (2 - IntKind.i64.wrap (0 + 1)).toNat < (2 - (0 : Int)).toNat
         decide)
      | (rw [hG]
         have ew1 : IntKind.i64.wrap (c + 1) = c + 1 := w64 (by omega) (by omega)
         have ew2 : IntKind.i64.wrap (1 - f) = 1 - f := w64 (by omega) (by omega)
         have ew3 : IntKind.i64.wrap (w + 1) = w + 1 := w64 (by omega) (by omega)
         have ew4 : IntKind.i64.wrap (64 * r) = r * 64 := by rw [w64 (by omega) (by omega), Int.mul_comm]
         have ew5 : IntKind.i64.wrap (v - 1) = v - 1 := w64 (by omega) (by omega)
         clear hT hP hp hI hG
         simp [ew1, ew2, ew3, ew4, ew5] at *
         try simp [passV, *]
         (repeat' first | refine And.intro ?_ ?_ | intro _)
         all_goals first | omega | (exfalso; omega))
      | skip
  · obtain ⟨A, hA⟩ : ∃ A, A = passV 1 (vo N 0) := ⟨_, rfl⟩
    obtain ⟨B, hB⟩ : ∃ B, B = vo N 6 := ⟨_, rfl⟩
    have oA : vOk A := by rw [hA]; exact passV_ok (vo_ok N 0) (by decide)
    have oB : vOk B := by rw [hB]; exact vo_ok N 6
    rw [← hA, ← hB] at hl
    subst hl
    obtain ⟨G, hG⟩ : ∃ G, G = A ++ passV 1 B := ⟨_, rfl⟩
    have hI : ∀ z : Int × List Int, z.1 = 2 → z.2 = G → (z.1 = 0 ∧ z.2 = vo N 0 ++ vo N 6) ∨ (z.1 = 1 ∧ z.2 = passV 1 (vo N 0) ++ vo N 6) ∨ (z.1 = 2 ∧ z.2 = passV 1 (vo N 0) ++ passV 1 (vo N 6)) := by
      intro z h1 h2
      rw [h1, h2, hG, hA, hB]
      exact .inr (.inr ⟨rfl, rfl⟩)
    clear hA hB
    cases oA with
    | mk hp hv hr hc hf hw =>
    cases oB with
    | mk hp' hv' hr' hc' hf' hw' =>
    rename_i p' v' r' c' f' w' p v r c f w
    repeat' first
      | (refine Go.mk ?_; conv => whnf)
      | refine Need.go ?_ ?_
      | refine NilG.go (fun _ => ?_) (fun _ => ?_)
      | refine Br.dec (fun _ => ?_) (fun _ => ?_)
      | refine Br.go (fun _ => ?_) (fun _ => ?_)
      | refine draw_go hT hP mixed ?_
      | refine round_go hT hP ?_
    all_goals first
      | exact of_decide_eq_true rfl
      | (exfalso; rename_i h; revert h; decide)
      | skip
    all_goals
      apply Exists.intro (_, G)
      refine And.intro ?_ (And.intro ?_ (Le.mk [] [0, 1, 2, 3] rfl rfl (heap4 ?_) ?ht))
      case ht => repeat' first | exact trivial | exact ⟨rfl, rfl⟩ | refine And.intro ?_ ?_
    all_goals first
      | exact hI (IntKind.i64.wrap (1 + 1), G) rfl rfl
      | (show (2 - IntKind.i64.wrap (1 + 1)).toNat < (2 - (1 : Int)).toNat
         decide)
      | (rw [hG]
         have ew1 : IntKind.i64.wrap (c + 1) = c + 1 := w64 (by omega) (by omega)
         have ew2 : IntKind.i64.wrap (1 - f) = 1 - f := w64 (by omega) (by omega)
         have ew3 : IntKind.i64.wrap (w + 1) = w + 1 := w64 (by omega) (by omega)
         have ew4 : IntKind.i64.wrap (64 * r) = r * 64 := by rw [w64 (by omega) (by omega), Int.mul_comm]
         have ew5 : IntKind.i64.wrap (v - 1) = v - 1 := w64 (by omega) (by omega)
         clear hT hP hp hI hG
         simp [ew1, ew2, ew3, ew4, ew5] at *
         try simp [passV, *]
         (repeat' first | refine And.intro ?_ ?_ | intro _)
         all_goals first | omega | (exfalso; omega))
      | skip
  · subst hl
    repeat' first
      | (refine Go.mk ?_; conv => whnf)
      | refine Need.go ?_ ?_
      | refine NilG.go (fun _ => ?_) (fun _ => ?_)
      | refine Br.dec (fun _ => ?_) (fun _ => ?_)
      | refine Br.go (fun _ => ?_) (fun _ => ?_)
      | refine draw_go hT hP mixed ?_
      | refine round_go hT hP ?_
    all_goals first
      | exact of_decide_eq_true rfl
      | (exfalso; rename_i h; revert h; decide)
      | (refine .mk [] [2] _ rfl rfl rfl rfl rfl (blk_eqs ?_) rfl
         show passV 1 (vo N 0) ++ passV 1 (vo N 6) = tickW (vo N 0 ++ vo N 6)
         rw [tickW_app rfl])
      | skip

end Go.Proofs.Ythpijepbbpcjeaa
