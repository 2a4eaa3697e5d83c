/- Numbers from bytes: one number. -/
import Derived.Test.YthpijepbbpcjeaaSave
import Derived.Test.YthpijepbbpcjeaaVideoLaw
namespace Go.Proofs.Ythpijepbbpcjeaa
open Go.Fw
set_option linter.unusedVariables false
set_option linter.unusedSimpArgs false
set_option linter.constructorNameAsVariable false
set_option maxRecDepth 100000

def nextG : Nat → Nat → List Int → Option (Nat × List Int)
  | _, _, [] => none
  | i, u, c :: r =>
    if 63 < 7 * i ∨ (7 * i = 63 ∧ c > 1) then none
    else if c < 128 then (if c = 0 ∧ 0 < i then none else some (u + (c % 128).toNat * 2 ^ (7 * i), r))
    else nextG (i + 1) (u + (c % 128).toNat * 2 ^ (7 * i)) r
def decN (u : Nat) : Int := if u % 2 = 1 then -((u / 2 : Nat) : Int) - 1 else ((u / 2 : Nat) : Int)
def nextV (b : List Int) : Int := match nextG 0 0 b with | some x => decN x.1 | none => 0
def nextR (b : List Int) : List Int := match nextG 0 0 b with | some x => x.2 | none => []
def nextB (b : List Int) (bad : Bool) : Bool := match nextG 0 0 b with | some _ => bad | none => true
theorem drop_cons {b : List Int} {k : Nat} (h : k < b.length) : b.drop k = b.getD k 0 :: b.drop (k + 1) := by
  rw [List.drop_eq_getElem_cons h, List.getD_eq_getElem?_getD, List.getElem?_eq_getElem h]; rfl
def nextI (b : List Int) (k v : Nat) : Prop := k ≤ 10 ∧ v < 18446744073709551616 ∧ (k ≤ 9 → v < 2 ^ (7 * k)) ∧ nextG k v (b.drop k) = nextG 0 0 b
theorem nx_end {b : List Int} {k v : Nat} (h : nextI b k v) (hk : ¬ k < b.length) : nextG 0 0 b = none := by
  rw [← h.2.2.2, List.drop_of_length_le (by omega)]; rfl
theorem nx_big {b : List Int} {k v : Nat} (h : nextI b k v) (hk : k < b.length) (h1 : 63 < 7 * k ∨ (7 * k = 63 ∧ b.getD k 0 > 1)) : nextG 0 0 b = none := by
  rw [← h.2.2.2, drop_cons hk, nextG, if_pos h1]
theorem nx_zero {b : List Int} {k v : Nat} (h : nextI b k v) (hk : k < b.length) (h1 : ¬ (63 < 7 * k ∨ (7 * k = 63 ∧ b.getD k 0 > 1))) (h2 : b.getD k 0 = 0) (h3 : 0 < k) : nextG 0 0 b = none := by
  rw [← h.2.2.2, drop_cons hk, nextG, if_neg h1, if_pos (by omega), if_pos ⟨h2, h3⟩]
theorem nx_done {b : List Int} {k v : Nat} (h : nextI b k v) (hk : k < b.length) (h1 : ¬ (63 < 7 * k ∨ (7 * k = 63 ∧ b.getD k 0 > 1))) (h2 : b.getD k 0 < 128) (h3 : ¬ (b.getD k 0 = 0 ∧ 0 < k)) :
    nextG 0 0 b = some (v + (b.getD k 0 % 128).toNat * 2 ^ (7 * k), b.drop (k + 1)) := by
  rw [← h.2.2.2, drop_cons hk, nextG, if_neg h1, if_pos h2, if_neg h3]
theorem pow7 {k : Nat} (h : k ≤ 9) : 2 ^ (7 * k) * 2 ≤ 18446744073709551616 ∧ (k ≤ 8 → 2 ^ (7 * k) * 128 ≤ 18446744073709551616) ∧ 2 ^ (7 * (k + 1)) = 2 ^ (7 * k) * 128 := by
  have hc : k = 0 ∨ k = 1 ∨ k = 2 ∨ k = 3 ∨ k = 4 ∨ k = 5 ∨ k = 6 ∨ k = 7 ∨ k = 8 ∨ k = 9 := by omega
  rcases hc with rfl | rfl | rfl | rfl | rfl | rfl | rfl | rfl | rfl | rfl <;> decide
/-- the next sum stays in its bounds -/
theorem nx_sum {k v : Nat} {c : Int} (hk : k ≤ 9) (hv : v < 2 ^ (7 * k)) (hc : 0 ≤ c ∧ c < 256) (h1 : ¬ (7 * k = 63 ∧ c > 1)) : v + (c % 128).toNat * 2 ^ (7 * k) < 18446744073709551616 ∧ (k + 1 ≤ 9 → v + (c % 128).toNat * 2 ^ (7 * k) < 2 ^ (7 * (k + 1))) := by
  obtain ⟨p1, p2, p3⟩ := pow7 hk
  generalize hP : 2 ^ (7 * k) = P at *
  by_cases h9 : k = 9
  · have hc1 : (c % 128).toNat ≤ 1 := by omega
    have := Nat.mul_le_mul_right P hc1
    exact ⟨by omega, by omega⟩
  · have hc1 : (c % 128).toNat ≤ 127 := by omega
    have := Nat.mul_le_mul_right P hc1
    have h8 := p2 (by omega)
    exact ⟨by omega, fun _ => by rw [p3]; omega⟩
theorem nx_go {b : List Int} {k v : Nat} (h : nextI b k v) (hk : k < b.length) (h1 : ¬ (63 < 7 * k ∨ (7 * k = 63 ∧ b.getD k 0 > 1))) (h2 : ¬ b.getD k 0 < 128) (hc : 0 ≤ b.getD k 0 ∧ b.getD k 0 < 256) :
    nextI b (k + 1) (v + (b.getD k 0 % 128).toNat * 2 ^ (7 * k)) := by
  obtain ⟨a1, a2, a3, a4⟩ := h
  have hs := nx_sum (k := k) (v := v) (c := b.getD k 0) (by omega) (a3 (by omega)) hc (fun e => h1 (.inr e))
  refine ⟨by omega, hs.1, hs.2, ?_⟩
  rw [← a4, drop_cons hk, nextG, if_neg h1, if_neg h2]
theorem land127_u8 : ∀ x : Int, 0 ≤ x → x < 256 → land .u8 x 127 = x % 128 := fin256 (fun x => land .u8 x 127 = x % 128) (by decide +kernel)
theorem lor_add {v x k : Nat} (hv : v < 2 ^ k) : v ||| x * 2 ^ k = v + x * 2 ^ k := by
  rw [Nat.or_comm, Nat.mul_comm, ← Nat.two_pow_add_eq_or_of_lt hv, Nat.add_comm]
theorem loru_nat {a b : Nat} (ha : a < 2 ^ 64) (hb : b < 2 ^ 64) : lor .u64 (a : Int) (b : Int) = ((a ||| b : Nat) : Int) := by
  show (((BitVec.ofInt 64 (a : Int) ||| BitVec.ofInt 64 (b : Int)).toNat : Nat) : Int) % 18446744073709551616 = _
  rw [BitVec.toNat_or, ofInt_toNat, ofInt_toNat, u64_nat ha, u64_nat hb]
  have := Nat.or_lt_two_pow ha hb
  omega
/-- what the walk adds -/
theorem nx_or {k v : Nat} {c : Int} (hk : k ≤ 9) (hv : v < 2 ^ (7 * k)) (hc : 0 ≤ c ∧ c < 256) (h1 : ¬ (7 * k = 63 ∧ c > 1)) :
    lor .u64 (v : Int) (shl .u64 (IntKind.u64.wrap (land .u8 c 127)) (7 * (k : Int))) = ((v + (c % 128).toNat * 2 ^ (7 * k) : Nat) : Int) := by
  have hs := (nx_sum hk hv hc h1).1
  have e1 : IntKind.u64.wrap (land .u8 c 127) = (((c % 128).toNat : Nat) : Int) := by rw [land127_u8 _ hc.1 hc.2, wu64]; omega
  have e2 : shl .u64 (((c % 128).toNat : Nat) : Int) (7 * (k : Int)) = (((c % 128).toNat * 2 ^ (7 * k) : Nat) : Int) := by
    show (((c % 128).toNat : Nat) : Int) * 2 ^ (min (7 * (k : Int)).toNat 64) % 18446744073709551616 = _
    rw [show (7 * (k : Int)).toNat = 7 * k by omega, Nat.min_eq_left (by omega)]
    have : ((((c % 128).toNat * 2 ^ (7 * k) : Nat)) : Int) = (((c % 128).toNat : Nat) : Int) * 2 ^ (7 * k) := by simp
    rw [← this]
    omega
  rw [e1, e2, loru_nat (by omega) (by omega), lor_add hv]
theorem lnot_i64 {x : Int} (h : 0 ≤ x ∧ x ≤ 9223372036854775807) : lxor .i64 (-1) x = -x - 1 := by
  obtain ⟨n, rfl⟩ := Int.eq_ofNat_of_zero_le h.1
  have hn : n < 2 ^ 64 := by omega
  show IntKind.i64.wrap (((BitVec.ofInt 64 (-1) ^^^ BitVec.ofInt 64 (n : Int)).toNat : Nat) : Int) = _
  have e : BitVec.ofInt 64 (-1) = BitVec.allOnes 64 := by decide
  rw [e, BitVec.allOnes_xor, BitVec.toNat_not, ofInt_toNat, u64_nat hn, w64e]
  omega

theorem var_ro {l l' : List Int} {x y : Bool} (h : l = l') (h2 : x = y) : [some (Blk.var [.ro (.int .u8) l, bv x])] = [some (Blk.var [.ro (.int .u8) l', bv y])] := by rw [h, h2]
theorem nx_none {b : List Int} (bad : Bool) (h : nextG 0 0 b = none) : nextV b = 0 ∧ nextR b = [] ∧ nextB b bad = true := by
  unfold nextV nextR nextB; rw [h]; exact ⟨rfl, rfl, rfl⟩
theorem nx_some {b r : List Int} {w : Nat} (bad : Bool) (h : nextG 0 0 b = some (w, r)) : nextV b = decN w ∧ nextR b = r ∧ nextB b bad = bad := by
  unfold nextV nextR nextB; rw [h]; exact ⟨rfl, rfl, rfl⟩
theorem decN_0 {w : Nat} (hw : w < 18446744073709551616) (h : ¬ land .u64 (w : Int) 1 = 1) : IntKind.i64.wrap (shr .u64 (w : Int) 1) = decN w := by
  rw [land1_u64 (by omega)] at h
  unfold decN
  rw [if_neg (by omega), shr1_u64, w64 (by omega) (by omega)]; omega
theorem decN_1 {w : Nat} (hw : w < 18446744073709551616) (h : land .u64 (w : Int) 1 = 1) : lxor .i64 (-1) (IntKind.i64.wrap (shr .u64 (w : Int) 1)) = decN w := by
  rw [land1_u64 (by omega)] at h
  unfold decN
  rw [if_pos (by omega), shr1_u64, w64 (by omega) (by omega), lnot_i64 (by omega)]; omega
def nextRd : List V1 → List Blk → Option (List Int × Bool) := fun a b => match a, b with
  | [.c (.ptr 0 0)], [.var [.ro (.int .u8) l, .imm (.bool bad)]] => some (l, bad)
  | _, _ => none
theorem nextRd_ok {a : List V1} {b : List Blk} {x : List Int × Bool} (h : nextRd a b = some x) : a = [.c (.ptr 0 0)] ∧ b = [.var [.ro (.int .u8) x.1, bv x.2]] := by
  unfold nextRd at h
  split at h
  · injection h with h; subst h; exact ⟨rfl, rfl⟩
  · cases h
def nextWS : WSpec := ⟨List Int × Bool, fun _ => [.c (.ptr 0 0)], fun x => [.var [.ro (.int .u8) x.1, bv x.2]], nextRd,
  fun (b, bad) => (some (u8s b ∧ b.length ≤ 4611686018427387904), I (nextV b), [some (.var [.ro (.int .u8) (nextR b), bv (nextB b bad)])], [])⟩
set_option maxHeartbeats 8000000 in
theorem next_ok : Good Try.prog 104 nextWS.spec := by
  have hT := tab_ok (fs := []) tree_ok
  have hP : SpecsOk Try.prog (tab tree []) := specs_nil
  refine nextWS.good (fn := Try.f104) hT hP Try.func104 (by kernel_rfl) rfl (fun _ _ _ h => nextRd_ok h) fun ((b, bad) : List Int × Bool) hq => ?_
  obtain ⟨hu, hbl0⟩ : u8s b ∧ b.length ≤ 4611686018427387904 := hq _ rfl
  clear hq
  repeat' first
    | (refine Go.mk ?_; conv => whnf)
    | refine Need.go ?_ ?_
    | refine NilG.go (fun _ => ?_) (fun _ => ?_)
    | refine Br.dec (fun _ => ?_) (fun _ => ?_)
    | refine Br.go (fun _ => ?_) (fun _ => ?_)
    | refine draw_go hT hP mixed ?_
    | refine round_go hT hP ?_
  all_goals first
    | exact of_decide_eq_true rfl
    | skip
  refine loop_go hT hP (X := Int × Int × Int) (fun (i, u, s) => St.mk [.cell (.ptr 0 0), .dead, .dead, .cell (iv .u64 u), I s, .dead, .dead, .dead, .dead, .dead, .dead, .cell (.ro (.int .u8) b), I (b.length : Int), I i, .dead, .dead, .dead, .dead, .dead, .dead, .dead, .dead, .dead, .dead, .dead, .dead, .dead, .dead, .dead, .dead, .dead, .dead, .dead, .dead, .dead, .dead, .dead, .dead, .dead, .dead, .dead, .dead, .dead, .dead, .dead, .dead, .dead, .dead, .dead, .dead, .dead, .dead, .dead, .dead, .dead, .dead, .dead, .dead, .dead, .dead, .dead, .dead, .dead, .dead, .dead, .dead, .dead, .dead, .dead, .dead, .dead] [some (.var [.ro (.int .u8) b, bv bad])])
    (fun (i, u, s) => ∃ k v : Nat, i = k ∧ u = v ∧ s = 7 * (k : Int) ∧ nextI b k v) (fun (i, u, s) => ((b.length : Int) - i).toNat) (0, 0, 0) (Le.mk [] [0] rfl rfl ?_ ?_) ?_ fun (i, u, s) hi => ?_
  · exact rfl
  · repeat' first | exact trivial | exact ⟨rfl, rfl⟩ | refine And.intro ?_ ?_
  · exact ⟨0, 0, rfl, rfl, rfl, by omega, by omega, by simp, rfl⟩
  obtain ⟨k, v, rfl, rfl, rfl, hI⟩ := hi
  have hb := u8s_get hu k
  have hb : 0 ≤ b.getD k 0 ∧ b.getD k 0 < 256 := hb
  have hk10 := hI.1
  have hv64 := hI.2.1
  have hbl : b.length ≤ 4611686018427387904 := hbl0
  repeat' first
    | (refine Go.mk ?_; conv => whnf)
    | refine Need.go ?_ ?_
    | refine NilG.go (fun _ => ?_) (fun _ => ?_)
    | refine Br.dec (fun _ => ?_) (fun _ => ?_)
    | refine Br.go (fun _ => ?_) (fun _ => ?_)
    | refine draw_go hT hP mixed ?_
    | refine round_go hT hP ?_
  all_goals
    have ec : List.getD (α := Den (.int .u8)) b ((k : Int)).toNat (dflt (.int .u8)) = b.getD k 0 := rfl
    try simp only [ec] at *
    clear ec
  all_goals clear hT hP
  all_goals
    generalize hc : b.getD k 0 = c at *
  all_goals first
    | exact of_decide_eq_true rfl
    | (show 0 ≤ (k : Int) ∧ (k : Int) < (b.length : Int)
       omega)
    | (show 0 ≤ IntKind.i64.wrap ((k : Int) + 1) ∧ IntKind.i64.wrap ((k : Int) + 1) ≤ (b.length : Int)
       rw [w64 (by omega) (by omega)]
       omega)
    | (have hN : nextG 0 0 b = none := by
         first
           | exact nx_end hI (by omega)
           | exact nx_big hI (by omega) (by rw [hc]; omega)
           | exact nx_zero hI (by omega) (by rw [hc]; omega) (by rw [hc]; omega) (by omega)
       obtain ⟨e1, e2, e3⟩ := nx_none bad hN
       exact .le (Le.nilroH 0 [.imm (.slice none 0 0), bv true] [.ro (.int .u8) [], bv true] rfl ⟨.inr ⟨rfl, _, rfl⟩, .inl rfl, trivial⟩) (.mk [] [0] _ rfl rfl rfl rfl rfl (var_ro e2.symm e3.symm) (imm_int e1.symm)))
    | (have hk9 : k ≤ 9 := by omega
       have hN := nx_done hI (by omega) (by rw [hc]; omega) (by rw [hc]; omega) (by rw [hc]; omega)
       rw [hc] at hN
       have hs := (nx_sum (k := k) (v := v) (c := c) hk9 (hI.2.2.1 hk9) hb (by omega)).1
       have eor := nx_or (k := k) (v := v) (c := c) hk9 (hI.2.2.1 hk9) hb (by omega)
       obtain ⟨e1, e2, e3⟩ := nx_some bad hN
       simp only [eor] at *
       have ed : (b.take b.length).drop (IntKind.i64.wrap ((k : Int) + 1)).toNat = nextR b := by rw [e2, List.take_length, up_i (by omega)]; rfl
       rename_i h
       first
         | exact .mk [] [0] _ rfl rfl rfl rfl rfl (var_ro ed e3.symm) (imm_int ((decN_1 hs h).trans e1.symm))
         | exact .mk [] [0] _ rfl rfl rfl rfl rfl (var_ro ed e3.symm) (imm_int ((decN_0 hs h).trans e1.symm)))
    | skip
  all_goals
    have hk9 : k ≤ 9 := by omega
    have hg := nx_go hI (by omega) (by rw [hc]; omega) (by rw [hc]; omega) (by rw [hc]; exact hb)
    rw [hc] at hg
    have eor := nx_or (k := k) (v := v) (c := c) hk9 (hI.2.2.1 hk9) hb (by omega)
    apply Exists.intro (IntKind.i64.wrap ((k : Int) + 1), lor .u64 (v : Int) (shl .u64 (IntKind.u64.wrap (land .u8 c 127)) (7 * (k : Int))), IntKind.i64.wrap (7 * (k : Int) + 7))
    refine And.intro ?_ (And.intro ?_ (Le.mk [] [0] rfl rfl ?hh ?ht))
    case hh => exact rfl
    case ht => repeat' first | exact trivial | exact ⟨rfl, rfl⟩ | refine And.intro ?_ ?_
    · exact ⟨k + 1, _, up_i (by omega), eor, by show IntKind.i64.wrap (7 * (k : Int) + 7) = 7 * ((k + 1 : Nat) : Int); rw [w64 (by omega) (by omega)]; omega, hg⟩
    · show ((b.length : Int) - IntKind.i64.wrap ((k : Int) + 1)).toNat < ((b.length : Int) - (k : Int)).toNat
      rw [up_i (by omega)]; omega

end Go.Proofs.Ythpijepbbpcjeaa
