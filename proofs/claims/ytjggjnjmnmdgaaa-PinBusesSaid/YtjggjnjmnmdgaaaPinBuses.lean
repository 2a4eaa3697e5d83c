/- bakelaw1.PinBuses answers true, whatever it is given. -/
import Derived.Test.YtjggjnjmnmdgaaaPinBus
import Derived.Test.YtjggjnjmnmdgaaaPortLaw
namespace Go.Proofs.Ytjggjnjmnmdgaaa
open Go.Fw
set_option linter.unusedVariables false
set_option linter.unusedSimpArgs false
set_option maxRecDepth 100000

theorem bit_shrP (n : Int) (i : Nat) (h : i ≤ 62) : land .i64 (shr .i64 n i) 1 = ((u64 n / 2 ^ i % 2 : Nat) : Int) := by
  have e2 : shr .i64 n i = n / ((2 ^ i : Nat) : Int) := by
    show n.fdiv (2 ^ (min ((i : Int).toNat) 64)) = _
    have : min ((i : Int).toNat) 64 = i := by omega
    rw [this]
    have e2 : (2 : Int) ^ i = ((2 ^ i : Nat) : Int) := by simp
    rw [e2, Int.fdiv_eq_ediv_of_nonneg _ (Int.natCast_nonneg _)]
  rw [land1q, e2]
  congr 1
  have hp : 0 < 2 ^ i := Nat.pow_pos (by omega)
  have e : (18446744073709551616 : Int) = ((2 ^ i : Nat) : Int) * ((2 ^ (64 - i) : Nat) : Int) := by
    have : (18446744073709551616 : Nat) = 2 ^ i * 2 ^ (64 - i) := by
      rw [← Nat.pow_add]
      have : i + (64 - i) = 64 := by omega
      rw [this]
    rw [← Int.natCast_mul, ← this]; rfl
  have hn : n = ((u64 n : Nat) : Int) + ((2 ^ i : Nat) : Int) * (((2 ^ (64 - i) : Nat) : Int) * (n / 18446744073709551616)) := by
    rw [← Int.mul_assoc, ← e]
    unfold u64
    omega
  have hd : n / ((2 ^ i : Nat) : Int) = ((u64 n / 2 ^ i : Nat) : Int) + ((2 ^ (64 - i) : Nat) : Int) * (n / 18446744073709551616) := by
    conv => lhs; rw [hn]
    rw [Int.add_mul_ediv_left _ _ (by omega)]
    rfl
  have h2 : (2 ^ (64 - i) : Nat) = 2 * 2 ^ (63 - i) := by rw [← Nat.pow_succ']; congr 1; omega
  have hm : (n / ((2 ^ i : Nat) : Int)) % 2 = ((u64 n / 2 ^ i % 2 : Nat) : Int) := by
    rw [hd, h2]
    have : (((2 * 2 ^ (63 - i) : Nat)) : Int) * (n / 18446744073709551616) = 2 * (((2 ^ (63 - i) : Nat) : Int) * (n / 18446744073709551616)) := by
      rw [Int.natCast_mul, Int.mul_assoc]; rfl
    rw [this]
    omega
  generalize n / ((2 ^ i : Nat) : Int) = q at hm
  have : u64 q % 2 = (q % 2).toNat := by unfold u64; omega
  rw [this, hm]
  omega

def drK (n : Int) (k : Nat) : List Int := ((List.range k).map fun (i : Nat) => land .i64 (shr .i64 n i) 1) ++ List.replicate (8 - k) 0
theorem drK_len (n : Int) {k : Nat} (h : k ≤ 8) : (drK n k).length = 8 := by simp [drK]; omega
theorem drK_set (n : Int) {k : Nat} (h : k < 8) : (drK n k).set k (land .i64 (shr .i64 n k) 1) = drK n (k + 1) := by
  unfold drK
  have e : 8 - k = (8 - (k + 1)) + 1 := by omega
  rw [e, List.replicate_succ, List.set_append, if_neg (by simp), List.length_map, List.length_range, Nat.sub_self, List.set_cons_zero, List.range_succ, List.map_append]
  simp
theorem drK_dig (n : Int) : drK n 8 = dig2F n 8 := by
  have e1 : drK n 8 = bitsN (u64 n) 8 := by
    unfold drK bitsN
    simp only [Nat.sub_self, List.replicate_zero, List.append_nil]
    apply List.map_congr_left
    intro i hi
    exact bit_shrP n i (by have := List.mem_range.1 hi; omega)
  rw [e1]
  have e2 : dig2F n 8 = digF n 8 := rfl
  rw [e2, digF_eq n 8 (by omega)]
theorem run_eq {l l' : List Int} (h : l = l') : AV.agg [.run .i64 8 l] = AV.agg [.run .i64 8 l'] := by rw [h]
def pdriveS : PSpec := ⟨[gi], fun (n, _) => (none, .agg [.run .i64 8 (drK n 8)], [])⟩
theorem pdrive_ok : Good Try.prog 53 pdriveS.spec := by
  have hT := tab_ok (fs := []) tree_ok
  have hP : SpecsOk Try.prog (tab tree []) := specs_nil
  refine pdriveS.good (fn := Try.f53) hT hP Try.func53 (by kernel_rfl) rfl fun (n : Int) _ => ?_
  repeat' first
    | (refine Go.mk ?_; conv => whnf)
    | refine Need.go ?_ ?_
    | refine NilG.go (fun _ => ?_) (fun _ => ?_)
    | refine Br.dec (fun _ => ?_) (fun _ => ?_)
    | refine Br.go (fun _ => ?_) (fun _ => ?_)
    | refine draw_go hT hP mixed ?_
    | refine round_go hT hP ?_
  refine loop_go hT hP (X := Int × List Int) (fun (i, l) => St.mk [I n, .dead, .cell (.ptr 0 0), .cell (.ptr 1 0), .dead, I i, .dead, .dead, .dead, .dead, .dead, .dead, .dead, .dead, .dead, .dead] [some (.var [.run .i64 8 (List.replicate 8 0)]), some (.var [.run .i64 8 l])])
    (fun (i, l) => ∃ k : Nat, i = k ∧ k ≤ 8 ∧ l = drK n k) (fun (i, _) => (8 - i).toNat) (0, List.replicate 8 0) (Le.mk [] [0, 1] rfl rfl ?_ ?_) ?_ fun (i, l) hi => ?_
  · exact rfl
  · repeat' first | exact trivial | exact ⟨rfl, rfl⟩ | refine And.intro ?_ ?_
  · exact ⟨0, rfl, by omega, rfl⟩
  obtain ⟨k, rfl, hk, rfl⟩ := hi
  repeat' first
    | (refine Go.mk ?_; conv => whnf)
    | refine Need.go ?_ ?_
    | refine NilG.go (fun _ => ?_) (fun _ => ?_)
    | refine Br.dec (fun _ => ?_) (fun _ => ?_)
    | refine Br.go (fun _ => ?_) (fun _ => ?_)
    | refine draw_go hT hP mixed ?_
    | refine round_go hT hP ?_
  all_goals try omega
  · have e : IntKind.i64.wrap ((k : Int) + 1) = ((k + 1 : Nat) : Int) := by rw [w64 (by omega) (by omega)]; omega
    apply Exists.intro (_, _)
    refine And.intro ?_ (And.intro ?_ (Le.mk [] [0, 1] rfl rfl ?hh ?ht))
    case hh => exact rfl
    case ht => repeat' first | exact trivial | exact ⟨rfl, rfl⟩ | refine And.intro ?_ ?_
    · exact ⟨k + 1, e, by omega, drK_set n (by omega)⟩
    · show (8 - IntKind.i64.wrap ((k : Int) + 1)).toNat < (8 - (k : Int)).toNat
      rw [e]; omega
  · obtain rfl : k = 8 := by omega
    exact .mk [] [] _ rfl rfl rfl rfl rfl rfl rfl

theorem col_len (l : List (List Int)) (m k : Nat) : (col (l.take m) k).length = min m l.length := by simp [col]
theorem app_set (g : Nat → Nat) (k : Nat) : (mapI g k ++ [0]).set k 1 = mapI g k ++ [1] := by
  rw [List.set_append, if_neg (by rw [mapI_len]; omega), mapI_len, Nat.sub_self]; rfl
def pbS : PSpec := ⟨[gll, gi], fun (l, n, _) => (some (List.length l ≤ 4398046511104), .cell (bv true), [])⟩
set_option maxHeartbeats 2000000 in
theorem pb_ok : Good Try.prog 9 pbS.spec := by
  have hT := tab_ok (fs := [(50, linesS.spec), (51, lineS.spec), (52, busS.spec), (53, pdriveS.spec), (18, of2S.spec), (17, digS.spec), (54, eqiS.spec)]) tree_ok
  have hP : SpecsOk Try.prog (tab tree [(50, linesS.spec), (51, lineS.spec), (52, busS.spec), (53, pdriveS.spec), (18, of2S.spec), (17, digS.spec), (54, eqiS.spec)]) := specs_cons lines_ok (specs_cons line_ok (specs_cons bus_ok (specs_cons pdrive_ok (specs_cons of2_ok (specs_cons dig_ok (specs_cons eqi_ok specs_nil))))))
  refine pbS.good (fn := Try.f9) hT hP Try.func9 (by kernel_rfl) rfl fun (l : List (List Int)) (n : Int) hp => ?_
  have hp : l.length ≤ 4398046511104 := hp _ rfl
  have hd : ∀ i, dB l i ≤ 1 := fun i => by unfold dB; split <;> omega
  have hf : ∀ i, fB l i ≤ 1 := fun i => by unfold fB; split <;> omega
  have hc : ∀ i, cB l i ≤ 1 := fun i => by unfold cB; split <;> omega
  repeat' first
    | (refine Go.mk ?_; conv => whnf)
    | refine Need.go ?_ ?_
    | refine NilG.go (fun _ => ?_) (fun _ => ?_)
    | refine Br.dec (fun _ => ?_) (fun _ => ?_)
    | refine Br.go (fun _ => ?_) (fun _ => ?_)
    | refine draw_go hT hP mixed ?_
    | refine round_go hT hP ?_
  refine loop_go hT hP (X := Int × List Int × List Int × List Int) (fun (i, d, f, c) => St.mk [.cell (.ro (.ints .i64 8) l), I n, .dead, .dead, .dead, .cell (.own 0), .cell (.own 1), .cell (.own 2), .dead, .dead, .dead, .dead, .dead, .dead, .dead, .dead, .dead, .dead, .dead, I i, .dead, .dead, .dead, .dead, .dead, .dead, .dead, .dead, .dead, .dead, .dead, .dead, .dead, .dead, .dead, .dead, .dead, .dead, .dead, .dead, .dead, .dead, .dead, .dead, .dead, .dead, .dead, .dead, .dead, .dead, .dead, .dead, .dead, .dead, .dead, .dead, .dead, .dead, .dead, .dead, .dead, .dead, .dead, .dead, .dead, .dead, .dead, .dead, .dead, .dead, .dead, .dead, .dead, .dead, .dead, .dead, .dead, .dead, .dead, .dead, .dead, .dead, .dead, .dead, .dead, .dead, .dead, .dead, .dead] [some (.arr (.int .i64) d), some (.arr (.int .i64) f), some (.arr (.int .i64) c)])
    (fun (i, d, f, c) => ∃ k : Nat, i = k ∧ k ≤ 8 ∧ d = mapI (dB l) k ∧ f = mapI (fB l) k ∧ c = mapI (cB l) k) (fun (i, _) => (8 - i).toNat) (0, [], [], []) (Le.trans (Le.nil 5 (.int .i64) rfl) (Le.trans (Le.nil 6 (.int .i64) rfl) (Le.trans (Le.nil 7 (.int .i64) rfl) (Le.mk [] [0, 1, 2] rfl rfl ?_ ?_)))) ?_ fun (i, d, f, c) hi => ?_
  · exact rfl
  · repeat' first | exact trivial | exact ⟨rfl, rfl⟩ | refine And.intro ?_ ?_
  · exact ⟨0, rfl, by omega, rfl, rfl, rfl⟩
  obtain ⟨k, rfl, hk, rfl, rfl, rfl⟩ := hi
  repeat' first
    | (refine Go.mk ?_; conv => whnf)
    | refine Need.go ?_ ?_
    | refine NilG.go (fun _ => ?_) (fun _ => ?_)
    | refine Br.dec (fun _ => ?_) (fun _ => ?_)
    | refine Br.go (fun _ => ?_) (fun _ => ?_)
    | refine draw_go hT hP mixed ?_
    | refine round_go hT hP ?_
  · rename_i hlt
    have hk2 : k < 8 := by omega
    have e : IntKind.i64.wrap ((k : Int) + 1) = ((k + 1 : Nat) : Int) := by rw [w64 (by omega) (by omega)]; omega
    refine loop_go hT hP (X := Int × List Int) (fun (j, a) => St.mk [.cell (.ro (.ints .i64 8) l), I n, .dead, .dead, .dead, .cell (.own 0), .cell (.own 1), .cell (.own 2), I (k : Int), .cell (.own 3), .dead, .dead, .dead, .dead, .dead, .dead, .dead, .dead, .dead, I (k : Int), .dead, .dead, .cell (.ro (.ints .i64 8) l), I l.length, I j, .dead, .dead, .dead, .dead, .dead, .dead, .dead, .dead, .dead, .dead, .dead, .dead, .dead, .dead, .dead, .dead, .dead, .dead, .dead, .dead, .dead, .dead, .dead, .dead, .dead, .dead, .dead, .dead, .dead, .dead, .dead, .dead, .dead, .dead, .dead, .dead, .dead, .dead, .dead, .dead, .dead, .dead, .dead, .dead, .dead, .dead, .dead, .dead, .dead, .dead, .dead, .dead, .dead, .dead, .dead, .dead, .dead, .dead, .dead, .dead, .dead, .dead, .dead, .dead]
        [some (.arr (.int .i64) (mapI (dB l) k)), some (.arr (.int .i64) (mapI (fB l) k)), some (.arr (.int .i64) (mapI (cB l) k)), some (.arr (.int .i64) a)])
      (fun (j, a) => ∃ m : Nat, j = m ∧ m ≤ l.length ∧ a = col (l.take m) k) (fun (j, _) => (l.length - j).toNat) (0, []) (Le.trans (Le.nil 9 (.int .i64) rfl) (Le.mk [] [0, 1, 2, 3] rfl rfl ?_ ?_)) ?_ fun (j, a) hj => ?_
    · exact rfl
    · repeat' first | exact trivial | exact ⟨rfl, rfl⟩ | refine And.intro ?_ ?_
    · exact ⟨0, rfl, by omega, rfl⟩
    obtain ⟨m, rfl, hm, rfl⟩ := hj
    repeat' first
      | (refine Go.mk ?_; conv => whnf)
      | refine Need.go ?_ ?_
      | refine NilG.go (fun _ => ?_) (fun _ => ?_)
      | refine Br.dec (fun _ => ?_) (fun _ => ?_)
      | refine Br.go (fun _ => ?_) (fun _ => ?_)
      | refine draw_go hT hP mixed ?_
      | refine round_go hT hP ?_
    all_goals try omega
    · have h8 : ty3.bytes = 8 := rfl
      rw [h8, col_len]
      show (min m l.length + 1) * 8 ≤ _
      omega
    · rename_i hml
      have hm2 : m < l.length := by omega
      have e2 : IntKind.i64.wrap ((m : Int) + 1) = ((m + 1 : Nat) : Int) := by rw [w64 (by omega) (by omega)]; omega
      apply Exists.intro (_, _)
      refine And.intro ?_ (And.intro ?_ (Le.mk [] [0, 1, 2, 6] rfl rfl ?hh ?ht))
      case hh => exact rfl
      case ht => repeat' first | exact trivial | exact ⟨rfl, rfl⟩ | refine And.intro ?_ ?_
      · refine ⟨m + 1, e2, by omega, ?_⟩
        rw [col_take hm2]; rfl
      · show (l.length - IntKind.i64.wrap ((m : Int) + 1)).toNat < (l.length - (m : Int)).toNat
        rw [e2]; omega
    all_goals
      have hv : lineF (col (l.take m) k) = vL l k := by
        have hml : m = l.length := by omega
        subst hml
        rw [List.take_length]
        rfl
      have hi1 : imin (vL l k) 1 = ((dB l k : Nat) : Int) := by
        have h0 := vL_in l k
        rw [imin_eq]; unfold dB; split <;> omega
    · show (col (l.take m) k).length ≤ _
      rw [col_len]; omega
    iterate 3
      · have h8 : ty3.bytes = 8 := rfl
        rw [h8, mapI_len]
        show (k + 1) * 8 ≤ _
        omega
    any_goals (show 0 ≤ (k : Int) ∧ (k : Int) < ((mapI _ k ++ [0]).length : Int); rw [List.length_append, mapI_len]; show _ ∧ _ < ((k + 1 : Nat) : Int); omega)
    any_goals (show (k : Int).toNat < (mapI _ k ++ [0]).length; rw [List.length_append, mapI_len]; show _ < k + 1; omega)
    · rename_i h2 h3
      have h2 : lineF (col (l.take m) k) = 2 := h2
      have h3 : ¬ lineF (col (l.take m) k) = 3 := h3
      rw [hv] at h2 h3
      have g2 : fB l k = 1 := by unfold fB; rw [if_pos h2]
      have g3 : cB l k = 0 := by unfold cB; rw [if_neg h3]
      apply Exists.intro (_, _, _, _)
      refine And.intro ?_ (And.intro ?_ (Le.mk [] [5, 7, 9] rfl rfl ?hh ?ht))
      case hh => exact rfl
      case ht => repeat' first | exact trivial | exact ⟨rfl, rfl⟩ | refine And.intro ?_ ?_
      · refine ⟨k + 1, e, by omega, ?_, ?_, ?_⟩
        · show mapI (dB l) k ++ [imin (lineF (col (l.take m) k)) 1] = _
          rw [hv, hi1, mapI_succ]
        · show (mapI (fB l) k ++ [0]).set k 1 = _
          rw [app_set, mapI_succ, g2]; rfl
        · show mapI (cB l) k ++ [0] = _
          rw [mapI_succ, g3]; rfl
      · show (8 - IntKind.i64.wrap ((k : Int) + 1)).toNat < (8 - (k : Int)).toNat
        rw [e]; omega
    · rename_i h2 h3
      have h2 : ¬ lineF (col (l.take m) k) = 2 := h2
      have h3 : lineF (col (l.take m) k) = 3 := h3
      rw [hv] at h2 h3
      have g2 : fB l k = 0 := by unfold fB; rw [if_neg h2]
      have g3 : cB l k = 1 := by unfold cB; rw [if_pos h3]
      apply Exists.intro (_, _, _, _)
      refine And.intro ?_ (And.intro ?_ (Le.mk [] [5, 7, 9] rfl rfl ?hh ?ht))
      case hh => exact rfl
      case ht => repeat' first | exact trivial | exact ⟨rfl, rfl⟩ | refine And.intro ?_ ?_
      · refine ⟨k + 1, e, by omega, ?_, ?_, ?_⟩
        · show mapI (dB l) k ++ [imin (lineF (col (l.take m) k)) 1] = _
          rw [hv, hi1, mapI_succ]
        · show mapI (fB l) k ++ [0] = _
          rw [mapI_succ, g2]; rfl
        · show (mapI (cB l) k ++ [0]).set k 1 = _
          rw [app_set, mapI_succ, g3]; rfl
      · show (8 - IntKind.i64.wrap ((k : Int) + 1)).toNat < (8 - (k : Int)).toNat
        rw [e]; omega
    · rename_i h2 h3
      have h2 : ¬ lineF (col (l.take m) k) = 2 := h2
      have h3 : ¬ lineF (col (l.take m) k) = 3 := h3
      rw [hv] at h2 h3
      have g2 : fB l k = 0 := by unfold fB; rw [if_neg h2]
      have g3 : cB l k = 0 := by unfold cB; rw [if_neg h3]
      apply Exists.intro (_, _, _, _)
      refine And.intro ?_ (And.intro ?_ (Le.mk [] [5, 7, 9] rfl rfl ?hh ?ht))
      case hh => exact rfl
      case ht => repeat' first | exact trivial | exact ⟨rfl, rfl⟩ | refine And.intro ?_ ?_
      · refine ⟨k + 1, e, by omega, ?_, ?_, ?_⟩
        · show mapI (dB l) k ++ [imin (lineF (col (l.take m) k)) 1] = _
          rw [hv, hi1, mapI_succ]
        · show mapI (fB l) k ++ [0] = _
          rw [mapI_succ, g2]; rfl
        · show mapI (cB l) k ++ [0] = _
          rw [mapI_succ, g3]; rfl
      · show (8 - IntKind.i64.wrap ((k : Int) + 1)).toNat < (8 - (k : Int)).toNat
        rw [e]; omega
  all_goals
    obtain rfl : k = 8 := by omega
  have q1 : ((bsum (dB l) 8 : Nat) : Int) = of2F (mapI (dB l) 8) := (of2F_map hd).symm
  have q2 : ((bsum (fB l) 8 : Nat) : Int) = of2F (mapI (fB l) 8) := (of2F_map hf).symm
  have q3 : ((bsum (cB l) 8 : Nat) : Int) = of2F (mapI (cB l) 8) := (of2F_map hc).symm
  all_goals first
    | exact hp
    | (show (mapI _ 8).length ≤ _; rw [mapI_len]; decide)
    | (show (drK n 8).length ≤ _; rw [drK_len n (by omega)]; decide)
    | (rename_i h; exact absurd (of2F_map hd).symm h)
    | (rename_i h; exact absurd (of2F_map hf).symm h)
    | (rename_i h; exact absurd (of2F_map hc).symm h)
    | (refine .mk [] [] _ rfl rfl rfl rfl rfl rfl (imm_bool ?_)
       show decide (drK n 8 = dig2F n 8) = true
       exact decide_eq_true (drK_dig n))

end Go.Proofs.Ytjggjnjmnmdgaaa
