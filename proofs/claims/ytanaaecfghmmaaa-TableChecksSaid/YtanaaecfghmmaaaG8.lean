/- Part 8 of the proof: Sound5 Byte RefLaw PinLaw Pin CoreAsks CoreLaw. No statement is handed in here; conditions: none. -/
import Derived.Test.YtanaaecfghmmaaaG7
import Derived.Test.YtanaaecfghmmaaaG6
import Derived.WalkKit
import Derived.Lib.Walk
import Derived.Lib.Bytealg
import Derived.Laws.Bits64
/- The chip with two voices, by the document: how long it rests. -/
namespace Go.Proofs.Ytanaaecfghmmaaa
open Go.Fw
set_option linter.unusedVariables false
set_option linter.unusedSimpArgs false
set_option maxRecDepth 100000

theorem mul_pos2 {v r : Int} (hv : 0 ≤ v ∧ v < 16) (hr : 0 ≤ r ∧ r < 256) : (0 < v * r) = (0 < r ∧ 0 < v) := by
  apply propext
  constructor
  · intro h
    by_cases h1 : v = 0
    · rw [h1, Int.zero_mul] at h; omega
    · by_cases h2 : r = 0
      · rw [h2, Int.mul_zero] at h; omega
      · omega
  · rintro ⟨h1, h2⟩
    exact Int.mul_pos h2 h1
theorem mul_in2 {v r : Int} (hv : 0 ≤ v ∧ v < 16) (hr : 0 ≤ r ∧ r < 256) : 0 ≤ v * r ∧ v * r < 4096 := by
  refine ⟨Int.mul_nonneg hv.1 hr.1, ?_⟩
  have h1 : v * r ≤ 15 * r := Int.mul_le_mul_of_nonneg_right (by omega) hr.1
  omega
theorem decrec_ite {p : Prop} (a b : Int) (i : Decidable p) : (Decidable.rec (motive := fun _ => Int) (fun _ => a) (fun _ => b) i) = if p then b else a := by cases i <;> simp [*]
theorem quiet_min {p v r c f w : Int} : quietV [p, v, r, c, f, w] = min (if p > 0 then max 1 (p - c) - 1 else 100000) (if r > 0 ∧ v > 0 then max 1 (r * 64 - w) - 1 else 100000) := rfl
def orestsS : PSpec := ⟨[gC, gD], fun (c, d, _) => (some (c.2.1 = 7), I (onextF d.1), [])⟩
end Go.Proofs.Ytanaaecfghmmaaa

/- Where a byte is in a text; what counts as a name, for the reference. -/
namespace Go.Proofs.Ytanaaecfghmmaaa
open Go.Fw
set_option linter.unusedVariables false
set_option linter.unusedSimpArgs false
set_option linter.constructorNameAsVariable false
set_option maxRecDepth 100000

abbrev gu8 : Sig := ⟨false, .int .u8⟩
set_option maxHeartbeats 1000000 in
theorem idxb_run (s : ByteArray) (c : Int) (w : World) :
    Calls Try.prog 91 #[.string s, .int .u8 c] w fun e w' => e = .returned (.int .i64 (Lib.indexByte s.data.toList c.toNat.toUInt8)) ∧ w' = w := by
  have mixed : Try.prog.follows .mixedOrders = true := mixed
  go_enter Try.func91, Try.ntmps91
  go_wp2
  rw [run_callFunc_extern Try.func113 (by kernel_rfl) (by kernel_rfl) (by kernel_rfl) (e := Extern.BytealgIndexByte.indexByte) (by kernel_rfl), Lib.run_indexByteString]
  simp only [Result.andThen]
  rw [Oper.upon_value]
  go_wp2
  go_ret
  exact ⟨rfl, rfl⟩
def idxbS : PSpec := ⟨[gStr, gu8], fun (s, c, _) => (none, I (Lib.indexByte s.data.toList (Int.toNat c).toUInt8), [])⟩
theorem idxb_ok : GoodF Try.prog 91 idxbS.spec := by
  refine PSpec.of_calls Try.func91 (by kernel_rfl) rfl idxbS (fun _ => rfl) fun E (s, c, _) vs hv _ => ?_
  obtain ⟨v1, r1, e1, ⟨h1, _⟩, v2, r2, e2, ⟨h2, _⟩, h3⟩ := hv
  injection h1 with h1
  injection h2 with h2
  have h3 : r2 = [] := h3
  have e : vs = #[.string s, .int .u8 c] := by
    apply Array.ext'
    rw [e1, e2, h3, h1, h2]
  subst e
  refine (idxb_run s c E.w).mono ?_
  rintro e w' ⟨rfl, rfl⟩
  exact ⟨⟨_, rfl, rfl, rfl⟩, rfl⟩
theorem sIndexByte_ok : GoodF Try.prog 56 idxbS.spec := by
  have hT := tab_ok (fs := [(91, idxbS.spec)]) tree_ok
  have hP : SpecsOk Try.prog (tab tree [(91, idxbS.spec)]) := specs_cons idxb_ok specs_nil
  refine idxbS.good (fn := Try.f56) hT hP Try.func56 (by kernel_rfl) rfl fun (s : ByteArray) (c : Int) _ => ?_
  repeat' first
    | (refine Go.mk ?_; conv => whnf)
    | refine Need.go ?_ ?_
    | refine NilG.go (fun _ => ?_) (fun _ => ?_)
    | refine Br.dec (fun _ => ?_) (fun _ => ?_)
    | refine Br.go (fun _ => ?_) (fun _ => ?_)
    | refine draw_go hT hP mixed ?_
    | refine round_go hT hP ?_
  exact .mk [] [] _ rfl rfl rfl rfl rfl rfl rfl


def lets : List UInt8 := [97, 98, 99, 100, 101, 102, 103, 104, 105, 106, 107, 108, 109, 110, 111, 112, 113, 114, 115, 116, 117, 118, 119, 120, 121, 122]
def lets2 : List UInt8 := lets ++ [48, 49, 50, 51, 52, 53, 54, 55, 56, 57, 45]
theorem lets_all : (List.range 256).all (fun n => decide (Lib.indexByte lets n.toUInt8 < 0) == !decide (97 ≤ n ∧ n ≤ 122)) = true := by decide +kernel
theorem lets2_all : (List.range 256).all (fun n => decide (Lib.indexByte lets2 n.toUInt8 < 0) == !letB (n : Int)) = true := by decide +kernel
theorem lets_in {c : Int} (h : 0 ≤ c ∧ c < 256) : decide (Lib.indexByte lets c.toNat.toUInt8 < 0) = !decide (97 ≤ c ∧ c ≤ 122) := by
  have := List.all_eq_true.1 lets_all c.toNat (List.mem_range.2 (by omega))
  rw [beq_iff_eq] at this
  rw [this]
  congr 1
  by_cases h2 : 97 ≤ c ∧ c ≤ 122
  · rw [decide_eq_true h2, decide_eq_true (by omega)]
  · rw [decide_eq_false h2, decide_eq_false (by omega)]
theorem lets2_in {c : Int} (h : 0 ≤ c ∧ c < 256) : decide (Lib.indexByte lets2 c.toNat.toUInt8 < 0) = !letB c := by
  have := List.all_eq_true.1 lets2_all c.toNat (List.mem_range.2 (by omega))
  rw [beq_iff_eq] at this
  rw [this]
  have : ((c.toNat : Nat) : Int) = c := by omega
  rw [this]
theorem rNamed_ok : GoodF Try.prog 20 nameS.spec := by
  have hT := tab_ok (fs := [(56, idxbS.spec)]) tree_ok
  have hP : SpecsOk Try.prog (tab tree [(56, idxbS.spec)]) := specs_cons sIndexByte_ok specs_nil
  refine nameS.good (fn := Try.f20) hT hP Try.func20 (by kernel_rfl) rfl fun (s : ByteArray) _ => ?_
  have hL := bytes_len s
  repeat' first
    | (refine Go.mk ?_; conv => whnf)
    | refine Need.go ?_ ?_
    | refine NilG.go (fun _ => ?_) (fun _ => ?_)
    | refine Br.dec (fun _ => ?_) (fun _ => ?_)
    | refine Br.go (fun _ => ?_) (fun _ => ?_)
    | refine draw_go hT hP mixed ?_
    | refine round_go hT hP ?_
  · rename_i h
    have h : (s.size : Int) < 1 := h
    exact .mk [] [] _ rfl rfl rfl rfl rfl rfl (imm_bool (name_no (.inl (by omega))).symm)
  · rename_i h
    have h : (s.size : Int) > 20 := h
    exact .mk [] [] _ rfl rfl rfl rfl rfl rfl (imm_bool (name_no (.inr (.inl (by omega)))).symm)
  · rename_i h _
    have h : ¬ (s.size : Int) < 1 := h
    show 0 ≤ (0 : Int) ∧ (0 : Int) < (s.size : Int)
    omega
  · rename_i h1 h2 h3
    have h1 : ¬ (s.size : Int) < 1 := h1
    have hc := bytes_in s ((bytesOf s).getD 0 0) (by rw [List.getD_eq_getElem?_getD, List.getElem?_eq_getElem (by omega)]; exact List.getElem_mem _)
    have h3 : Lib.indexByte lets (byteAt s 0).toNat.toUInt8 < 0 := h3
    rw [byte_at] at h3
    have e := lets_in hc
    rw [decide_eq_true h3] at e
    have e : decide (97 ≤ (bytesOf s).getD 0 0 ∧ (bytesOf s).getD 0 0 ≤ 122) = false := by
      cases hd : decide (97 ≤ (bytesOf s).getD 0 0 ∧ (bytesOf s).getD 0 0 ≤ 122) with
      | true => rw [hd] at e; cases e
      | false => rfl
    have e := of_decide_eq_false e
    exact .mk [] [] _ rfl rfl rfl rfl rfl rfl (imm_bool (name_no (by omega)).symm)
  rename_i h1 h2 h3
  have h1 : ¬ (s.size : Int) < 1 := h1
  have h2 : ¬ (s.size : Int) > 20 := h2
  have hc0 := bytes_in s ((bytesOf s).getD 0 0) (by rw [List.getD_eq_getElem?_getD, List.getElem?_eq_getElem (by omega)]; exact List.getElem_mem _)
  have h3 : ¬ Lib.indexByte lets (byteAt s 0).toNat.toUInt8 < 0 := h3
  rw [byte_at] at h3
  have e := lets_in hc0
  rw [decide_eq_false h3] at e
  have e : decide (97 ≤ (bytesOf s).getD 0 0 ∧ (bytesOf s).getD 0 0 ≤ 122) = true := by
    cases hd : decide (97 ≤ (bytesOf s).getD 0 0 ∧ (bytesOf s).getD 0 0 ≤ 122) with
    | true => rfl
    | false => rw [hd] at e; cases e
  have e := of_decide_eq_true e
  have hF : nameB (bytesOf s) = (bytesOf s).all letB := by
    unfold nameB
    rw [decide_eq_true ⟨by omega, by omega, by omega, by omega⟩, Bool.true_and]
  refine up_go hT hP (A := Unit) (bytesOf s).length (fun i _ => St.mk [.imm (.string s), .dead, .dead, .dead, .dead, .dead, .dead, .dead, .dead, .dead, .dead, .dead, .dead, .dead, .dead, .dead, .dead, .dead, .dead, I (s.size : Int), I i, .dead, .dead, .dead, .dead, .dead, .dead, .dead, .dead] [])
    (fun k _ => ((bytesOf s).take k).all letB = true) () (Le.mk [] [] rfl rfl rfl ?_) (by simp) fun k _ hk hi => ?_
  · repeat' first | exact trivial | exact ⟨rfl, rfl⟩ | refine And.intro ?_ ?_
  repeat' first
    | (refine Go.mk ?_; conv => whnf)
    | refine Need.go ?_ ?_
    | refine NilG.go (fun _ => ?_) (fun _ => ?_)
    | refine Br.dec (fun _ => ?_) (fun _ => ?_)
    | refine Br.go (fun _ => ?_) (fun _ => ?_)
    | refine draw_go hT hP mixed ?_
    | refine round_go hT hP ?_
  · rename_i g1
    have g1 : (k : Int) < (s.size : Int) := g1
    show 0 ≤ (k : Int) ∧ (k : Int) < (s.size : Int)
    omega
  · rename_i g1 g2
    have g1 : (k : Int) < (s.size : Int) := g1
    have hk2 : k < (bytesOf s).length := by omega
    have hc := bytes_in s ((bytesOf s).getD k 0) (by rw [List.getD_eq_getElem?_getD, List.getElem?_eq_getElem hk2]; exact List.getElem_mem _)
    have g2 : Lib.indexByte lets2 (byteAt s k).toNat.toUInt8 < 0 := g2
    rw [byte_at] at g2
    have e := lets2_in hc
    rw [decide_eq_true g2] at e
    have e : letB ((bytesOf s).getD k 0) = false := by
      cases hd : letB ((bytesOf s).getD k 0) with
      | true => rw [hd] at e; cases e
      | false => rfl
    refine .mk [] [] _ rfl rfl rfl rfl rfl rfl (imm_bool ?_)
    rw [hF, all_no hk2 e]
  · rename_i g1 g2
    have g1 : (k : Int) < (s.size : Int) := g1
    have hk2 : k < (bytesOf s).length := by omega
    have hc := bytes_in s ((bytesOf s).getD k 0) (by rw [List.getD_eq_getElem?_getD, List.getElem?_eq_getElem hk2]; exact List.getElem_mem _)
    have g2 : ¬ Lib.indexByte lets2 (byteAt s k).toNat.toUInt8 < 0 := g2
    rw [byte_at] at g2
    have e := lets2_in hc
    rw [decide_eq_false g2] at e
    have e : letB ((bytesOf s).getD k 0) = true := by
      cases hd : letB ((bytesOf s).getD k 0) with
      | true => rfl
      | false => rw [hd] at e; cases e
    apply Exists.intro
    apply Exists.intro ()
    refine And.intro (And.intro ?lt166 (And.intro ?ei166 ?inv166)) (Le.mk [] [] rfl rfl ?hh166 ?ht166)
    case hh166 => exact rfl
    case ht166 => repeat' first | exact trivial | exact ⟨rfl, rfl⟩ | refine And.intro ?_ ?_
    case lt166 => omega
    case ei166 => exact up_i (by omega)
    exact all_take hk2 hi e
  · rename_i g1
    have g1 : ¬ (k : Int) < (s.size : Int) := g1
    refine .mk [] [] _ rfl rfl rfl rfl rfl rfl (imm_bool ?_)
    rw [hF]
    rw [List.take_of_length_le (by omega)] at hi
    exact hi.symm

end Go.Proofs.Ytanaaecfghmmaaa

/- What the functions of package bit and the digits of bakeref1 are as arithmetic. -/
namespace Go.Proofs.Ytanaaecfghmmaaa
open Go.Fw
set_option linter.unusedVariables false
set_option linter.unusedSimpArgs false

theorem digitF_eq (n : Int) (i : Nat) (h : i ≤ 62) : digitF n i = ((u64 n / 2 ^ i % 2 : Nat) : Int) := by
  unfold digitF
  have e1 : IntKind.u64.wrap n = (u64 n : Int) := by rw [IntKind.wrap_u64]; unfold u64; omega
  have e2 : shr .u64 (IntKind.u64.wrap n) i = ((u64 n / 2 ^ i : Nat) : Int) := by
    rw [e1]
    show ((u64 n : Nat) : Int).fdiv (2 ^ (min ((i : Int).toNat) 64)) = _
    have : min ((i : Int).toNat) 64 = i := by omega
    rw [this]
    have e2 : (2 : Int) ^ i = ((2 ^ i : Nat) : Int) := by simp
    rw [e2, Int.fdiv_eq_ediv_of_nonneg _ (Int.natCast_nonneg _)]
    simp
  rw [e2]
  have hlt : u64 n / 2 ^ i < 2 ^ 64 := Nat.lt_of_le_of_lt (Nat.div_le_self _ _) (u64_lt n)
  have e3 : land .u64 ((u64 n / 2 ^ i : Nat) : Int) 1 = ((u64 n / 2 ^ i % 2 : Nat) : Int) := by
    show IntKind.u64.wrap (((BitVec.ofInt 64 ((u64 n / 2 ^ i : Nat) : Int) &&& BitVec.ofInt 64 1).toNat : Nat) : Int) = _
    rw [BitVec.toNat_and, ofInt_toNat, ofInt_toNat, u64_nat hlt]
    have : u64 1 = 2 ^ 1 - 1 := by decide
    rw [this, Nat.and_two_pow_sub_one_eq_mod, IntKind.wrap_u64]
    omega
  rw [e3]
  exact w64 (by omega) (by omega)
theorem digF_eq (n : Int) (k : Nat) (h : k ≤ 62) : digF n k = bitsN (u64 n) k := by
  unfold digF bitsN
  apply List.map_congr_left
  intro i hi
  exact digitF_eq n i (by have := List.mem_range.1 hi; omega)
theorem of2F_bits : ∀ (k m : Nat), k ≤ 62 → of2F (bitsN m k) = ((m % 2 ^ k : Nat) : Int)
  | 0, m, _ => by simp [bitsN, of2F, Nat.mod_one]
  | k + 1, m, h => by
    have ih := of2F_bits k (m / 2) (by omega)
    rw [bitsN_succ]
    show IntKind.i64.wrap (IntKind.i64.wrap (2 * of2F (bitsN (m / 2) k)) + ((m % 2 : Nat) : Int)) = _
    rw [ih]
    have h3 : 2 ^ k ≤ 2 ^ 61 := pow_le (by omega)
    have h4 : m / 2 % 2 ^ k < 2 ^ k := Nat.mod_lt _ (Nat.pow_pos (by omega))
    rw [w64 (x := 2 * ((m / 2 % 2 ^ k : Nat) : Int)) (by omega) (by omega), w64 (by omega) (by omega)]
    have e : m % 2 ^ (k + 1) = m % 2 + 2 * (m / 2 % 2 ^ k) := by
      rw [Nat.pow_succ, Nat.mul_comm, Nat.mod_mul]
    rw [e]
    omega
theorem dig2_62 (n : Int) : dig2F n 62 = bitsN (u64 n) 62 := digF_eq n 62 (by omega)

end Go.Proofs.Ytanaaecfghmmaaa

/- Lines with four values, as plain functions: how joining many compares with the drivers of each way. -/
namespace Go.Proofs.Ytanaaecfghmmaaa
open Go.Fw
set_option linter.unusedVariables false
set_option linter.unusedSimpArgs false

def fitF (a : Int) : Int := if a < 0 then 3 else if a > 3 then 3 else a
def joinF (a b : Int) : Int := if fitF a = 2 then fitF b else if fitF b = 2 then fitF a else if fitF a = fitF b then fitF a else 3
def pullF (a b : Int) : Int := if fitF a = 2 then fitF b else fitF a
def allF (l : List Int) : Int := l.foldl joinF 2
def lowB (a : Int) : Bool := decide (a = 0) || (decide (a < 0) || decide (a > 2))
def highB (a : Int) : Bool := decide (a = 1) || (decide (a < 0) || decide (a > 2))
def codeF (lo hi : Bool) : Int := match lo, hi with | true, true => 3 | true, false => 0 | false, true => 1 | false, false => 2
def lineF (l : List Int) : Int := codeF (l.any lowB) (l.any highB)
def wiredF (l : List Int) (b : Int) : Int := if l.any (fun x => decide (fitF x = 0)) = true then 0 else if l.any (fun x => decide (fitF x = 3)) = true then 3 else fitF b

theorem fitF_code (a : Int) : fitF a = codeF (lowB a) (highB a) := by
  by_cases h0 : a = 0
  · subst h0; decide
  by_cases h1 : a = 1
  · subst h1; decide
  by_cases h2 : a = 2
  · subst h2; decide
  have e1 : lowB a = true := by unfold lowB; simp; omega
  have e2 : highB a = true := by unfold highB; simp; omega
  rw [e1, e2]
  show fitF a = 3
  unfold fitF
  split <;> (try split) <;> omega
theorem join_code (lo hi : Bool) (a : Int) : joinF (codeF lo hi) a = codeF (lo || lowB a) (hi || highB a) := by
  unfold joinF
  rw [fitF_code a]
  cases lo <;> cases hi <;> cases lowB a <;> cases highB a <;> decide
theorem foldl_code : ∀ (l : List Int) (lo hi : Bool), l.foldl joinF (codeF lo hi) = codeF (lo || l.any lowB) (hi || l.any highB)
  | [], lo, hi => by simp
  | a :: l, lo, hi => by
    rw [List.foldl_cons, join_code, foldl_code l, List.any_cons, List.any_cons, Bool.or_assoc, Bool.or_assoc]
theorem allF_line (l : List Int) : allF l = lineF l := by
  show l.foldl joinF (codeF false false) = _
  rw [foldl_code]
  simp [lineF]
theorem line_one (a : Int) : lineF [a] = fitF a := by
  rw [fitF_code]; simp [lineF]
theorem line_two (a b : Int) : lineF [a, b] = joinF a b := by
  have h := join_code (lowB a) (highB a) b
  rw [← fitF_code] at h
  have e : joinF (fitF a) b = joinF a b := by
    have : fitF (fitF a) = fitF a := by
      rw [fitF_code a]; cases lowB a <;> cases highB a <;> decide
    unfold joinF
    rw [this]
  rw [← e, h]
  simp [lineF]

end Go.Proofs.Ytanaaecfghmmaaa

/- The functions of package pin, and bakeref1's lines. -/
namespace Go.Proofs.Ytanaaecfghmmaaa
open Go.Fw
set_option linter.unusedVariables false
set_option linter.unusedSimpArgs false
set_option maxRecDepth 100000

theorem tup2_bool {a b c d : Bool} (h1 : a = c) (h2 : b = d) : AV.tup [.c (bv a), .c (bv b)] = AV.tup [.c (bv c), .c (bv d)] := by rw [h1, h2]
theorem any_take {α : Type} [Inhabited α] (l : List α) (d : α) (p : α → Bool) {k : Nat} (h : k < l.length) : (l.take (k + 1)).any p = ((l.take k).any p || p (l.getD k d)) := by
  rw [List.take_succ_eq_append_getElem h, List.any_append]
  simp [h]

def pfitS : PSpec := ⟨[gi], fun (a, _) => (none, I (fitF a), [])⟩
def joinS : PSpec := ⟨[gi, gi], fun (a, b, _) => (none, I (joinF a b), [])⟩
def allS : PSpec := ⟨[gl], fun (l, _) => (some (List.length l ≤ 4611686018427387904), I (allF l), [])⟩
def pullS : PSpec := ⟨[gi, gi], fun (a, b, _) => (none, I (pullF a b), [])⟩
def wiredS : PSpec := ⟨[gl, gi], fun (l, b, _) => (some (List.length l ≤ 4611686018427387904), I (wiredF l b), [])⟩
def driveS : PSpec := ⟨[gi], fun (a, _) => (none, .tup [.c (bv (lowB a)), .c (bv (highB a))], [])⟩
def lineS : PSpec := ⟨[gl], fun (l, _) => (some (List.length l ≤ 4611686018427387904), I (lineF l), [])⟩
def idxF (p : Int → Bool) : List Int → Int → Int
  | [], _ => -1
  | a :: l, i => if p a = true then i else idxF p l (i + 1)
theorem idxF_any (p : Int → Bool) : ∀ (l : List Int) (i : Int), 0 ≤ i → decide (idxF p l i ≥ 0) = l.any p
  | [], i, h => by simp [idxF]
  | a :: l, i, h => by
    unfold idxF
    rw [List.any_cons]
    cases hp : p a with
    | true => simpa using h
    | false => simpa using idxF_any p l (i + 1) (by omega)
theorem idxF_step (p : Int → Bool) {l : List Int} {k : Nat} (h : k < l.length) : idxF p (l.drop k) k = if p (l.getD k 0) = true then (k : Int) else idxF p (l.drop (k + 1)) ((k : Int) + 1) := by
  rw [List.drop_eq_getElem_cons h, idxF]
  simp [h]

def clashS : PSpec := ⟨[gi], fun (a, _) => (none, .cell (bv (decide (fitF a = 3))), [])⟩
def indexS : PSpec := ⟨[gl, gi], fun (l, v, _) => (some (List.length l ≤ 4611686018427387904), I (idxF (fun a => decide (v = a)) l 0), [])⟩
theorem index_ok : GoodF Try.prog 47 indexS.spec := by
  have hT := tab_ok (fs := []) tree_ok
  have hP : SpecsOk Try.prog (tab tree []) := specs_nil
  refine indexS.good (fn := Try.f47) hT hP Try.func47 (by kernel_rfl) rfl fun (l : List Int) (v : Int) hp => ?_
  have hp : l.length ≤ 4611686018427387904 := hp _ rfl
  repeat' first
    | (refine Go.mk ?_; conv => whnf)
    | refine Need.go ?_ ?_
    | refine NilG.go (fun _ => ?_) (fun _ => ?_)
    | refine Br.dec (fun _ => ?_) (fun _ => ?_)
    | refine Br.go (fun _ => ?_) (fun _ => ?_)
    | refine draw_go hT hP mixed ?_
    | refine round_go hT hP ?_
  refine loop_go hT hP (X := Int) (fun i => St.mk [.cell (.ro (.int .i64) l), I v, .dead, .dead, .dead, .dead, .dead, I l.length, I i, .dead, .dead, .dead, .dead, .dead, .dead, .dead, .dead, .dead, .dead] [])
    (fun i => ∃ k : Nat, i = k ∧ k ≤ l.length ∧ idxF (fun a => decide (v = a)) l 0 = idxF (fun a => decide (v = a)) (l.drop k) k) (fun i => (l.length - i).toNat) 0 (Le.mk [] [] rfl rfl rfl ?_) ?_ fun i hi => ?_
  rotate_right
  repeat' first
    | (refine Go.mk ?_; conv => whnf)
    | refine Need.go ?_ ?_
    | refine NilG.go (fun _ => ?_) (fun _ => ?_)
    | refine Br.dec (fun _ => ?_) (fun _ => ?_)
    | refine Br.go (fun _ => ?_) (fun _ => ?_)
    | refine draw_go hT hP mixed ?_
    | refine round_go hT hP ?_
  · obtain ⟨k, rfl, hk, h0⟩ := hi
    omega
  · rename_i hz
    obtain ⟨k, rfl, hk, h0⟩ := hi
    have hlt : k < l.length := by omega
    have hz : v = l.getD k 0 := by simpa [dflt] using hz
    refine .mk [] [] _ rfl rfl rfl rfl rfl rfl (imm_int ?_)
    show (k : Int) = idxF (fun a => decide (v = a)) l 0
    rw [h0, idxF_step _ hlt, if_pos (decide_eq_true hz)]
  · rename_i hz
    obtain ⟨k, rfl, hk, h0⟩ := hi
    have hlt : k < l.length := by omega
    have hz : ¬ v = l.getD k 0 := by simpa [dflt] using hz
    have e : IntKind.i64.wrap ((k : Int) + 1) = ((k + 1 : Nat) : Int) := by rw [w64 (by omega) (by omega)]; omega
    apply Exists.intro _
    refine And.intro ?_ (And.intro ?_ (Le.mk [] [] rfl rfl ?hh ?ht))
    case hh => exact rfl
    case ht => repeat' first | exact trivial | exact ⟨rfl, rfl⟩ | refine And.intro ?_ ?_
    · refine ⟨k + 1, e, by omega, ?_⟩
      rw [h0, idxF_step _ hlt, if_neg (by simpa using hz)]
      rfl
    · show (l.length - IntKind.i64.wrap ((k : Int) + 1)).toNat < (l.length - (k : Int)).toNat
      rw [e]; omega
  · obtain ⟨k, rfl, hk, h0⟩ := hi
    refine .mk [] [] _ rfl rfl rfl rfl rfl rfl (imm_int ?_)
    show -1 = idxF (fun a => decide (v = a)) l 0
    rw [h0, List.drop_of_length_le (by omega)]; rfl
  · repeat' first | exact trivial | exact ⟨rfl, rfl⟩ | refine And.intro ?_ ?_
  · exact ⟨0, rfl, by omega, rfl⟩

def containsS : PSpec := ⟨[gl, gi], fun (l, v, _) => (some (List.length l ≤ 4611686018427387904), .cell (bv (l.any fun a => decide (v = a))), [])⟩
theorem contains_ok : GoodF Try.prog 11 containsS.spec := by
  have hT := tab_ok (fs := [(47, indexS.spec)]) tree_ok
  have hP : SpecsOk Try.prog (tab tree [(47, indexS.spec)]) := specs_cons index_ok specs_nil
  refine containsS.good (fn := Try.f11) hT hP Try.func11 (by kernel_rfl) rfl fun (l : List Int) (v : Int) hp => ?_
  have hp : l.length ≤ 4611686018427387904 := hp _ rfl
  repeat' first
    | (refine Go.mk ?_; conv => whnf)
    | refine Need.go ?_ ?_
    | refine NilG.go (fun _ => ?_) (fun _ => ?_)
    | refine Br.dec (fun _ => ?_) (fun _ => ?_)
    | refine Br.go (fun _ => ?_) (fun _ => ?_)
    | refine draw_go hT hP mixed ?_
    | refine round_go hT hP ?_
  · exact hp
  · refine .mk [] [] _ rfl rfl rfl rfl rfl rfl (imm_bool ?_)
    exact idxF_any _ l 0 (by omega)

def linesS : PSpec := ⟨[], fun _ => (none, .cell (bv true), [])⟩
end Go.Proofs.Ytanaaecfghmmaaa

/- The processor: what it asks of the bus, in the program and in the reference. -/
namespace Go.Proofs.Ytanaaecfghmmaaa
open Go.Fw
set_option linter.unusedVariables false
set_option linter.unusedSimpArgs false
set_option maxRecDepth 100000

abbrev Bsv := Int × Int × Int
def askF (c : Cpu) (k : Kor) (irq : Bool) : Kor × Bsv :=
  let k1 : Kor := if k.2.1 = -1 then startF c (fitR k.1, k.2) irq else (fitR k.1, k.2)
  if k1.2.1 = -1 then ((plR 0 k1.1, k1.2), (1, plA 0 k1.1, 0))
  else if canB c k1.2.1 k1.2.2.1 = false ∨ (doF c k1.2.1 k1.2.2.1).1 = 0 then (k1, (0, 0, 0))
  else
    let x := doF c k1.2.1 k1.2.2.1
    ((plR x.2.1 k1.1, k1.2), (x.1, plA x.2.1 k1.1, if x.1 = 2 ∧ 0 ≤ x.2.2.1 ∧ x.2.2.1 < 9 then k1.1.getD x.2.2.1.toNat 0 % 256 else 0))
theorem tupKB {r : List Int} {a b : Int} {n : Bool} {p q s : Int} {x : Kor × Bsv} (h : ((r, a, b, n), (p, q, s)) = x) : AV.tup [.agg [.run .i64 9 r, iv .i64 a, iv .i64 b, bv n], .agg [iv .i64 p, iv .i64 q, iv .i64 s]] =
    AV.tup [.agg [.run .i64 9 x.1.1, iv .i64 x.1.2.1, iv .i64 x.1.2.2.1, bv x.1.2.2.2], .agg [iv .i64 x.2.1, iv .i64 x.2.2.1, iv .i64 x.2.2.2]] := by subst h; rfl
def askP (c : Cpu) (k : Kor) : Prop := c.2.1.length ≤ 4611686018427387904 ∧ k.1.length = 9
theorem startF_fst (c : Cpu) (k : Kor) (i : Bool) : (startF c k i).1 = k.1 := by
  unfold startF; split
  · rfl
  · split <;> rfl
theorem startF_out (c : Cpu) (k : Kor) (i : Bool) : ∃ a b n, startF c k i = (k.1, a, b, n) := ⟨(startF c k i).2.1, (startF c k i).2.2.1, (startF c k i).2.2.2, by rw [← startF_fst c k i]⟩
def askS : PSpec := ⟨[gCpu, gK, gB], fun (c, k, i, _) => (some (askP c k), .tup [.agg [.run .i64 9 (askF c k i).1.1, iv .i64 (askF c k i).1.2.1, iv .i64 (askF c k i).1.2.2.1, bv (askF c k i).1.2.2.2], .agg [iv .i64 (askF c k i).2.1, iv .i64 (askF c k i).2.2.1, iv .i64 (askF c k i).2.2.2]], [])⟩
set_option maxHeartbeats 4000000 in
theorem ask_ok : GoodF Try.prog 78 askS.spec := by
  have hT := tab_ok (fs := [(100, fitS.spec), (101, startS.spec), (102, placeRS.spec), (103, doingS.spec), (79, lowM.spec)]) tree_ok
  have hP : SpecsOk Try.prog (tab tree [(100, fitS.spec), (101, startS.spec), (102, placeRS.spec), (103, doingS.spec), (79, lowM.spec)]) := specs_cons aFit_ok (specs_cons start_ok (specs_cons cPlace_ok (specs_cons doing_ok (specs_cons lowM_ok specs_nil))))
  refine askS.good (fn := Try.f78) hT hP Try.func78 (by kernel_rfl) rfl fun (c : Cpu) (k : Kor) (i : Bool) hp => ?_
  obtain ⟨cn, ci, cr, cq, cm⟩ := c
  obtain ⟨r, op, at_, n⟩ := k
  obtain ⟨hz, h9⟩ : ci.length ≤ 4611686018427387904 ∧ r.length = 9 := hp _ rfl
  clear hp
  repeat' first
    | (refine Go.mk ?_; conv => whnf)
    | refine Need.go ?_ ?_
    | refine NilG.go (fun _ => ?_) (fun _ => ?_)
    | refine Br.dec (fun _ => ?_) (fun _ => ?_)
    | refine Br.go (fun _ => ?_) (fun _ => ?_)
    | refine draw_go hT hP mixed ?_
    | refine round_go hT hP ?_
  all_goals first
    | exact of_decide_eq_true rfl
    | exact hz
    | exact h9
    | exact ⟨hz, _, rfl⟩
    | exact ⟨_, rfl⟩
    | skip
  all_goals (try refine .mk [] [] _ rfl rfl rfl rfl rfl rfl (tupKB ?_))
  all_goals (simp only [castL_eq, askF] at *)
  all_goals
    have hs := startF_fst (cn, ci, cr, cq, cm) (fitR r, op, at_, n) i
    generalize startF (cn, ci, cr, cq, cm) (fitR r, op, at_, n) i = z at *
    obtain ⟨r2, o2, a2, n2⟩ := z
    dsimp only at *
    subst hs
  all_goals (try exact ⟨_, rfl⟩)
  all_goals (try omega)
  all_goals clear hT hP
  all_goals (try simp_all)
  all_goals (try omega)

theorem fit_in (r : List Int) (n : Nat) : 0 ≤ (fitR r).getD n 0 ∧ (fitR r).getD n 0 < 65536 := by
  match n with
  | 0 | 1 | 2 | 3 | 4 | 5 | 6 | 7 | 8 => simp [fitR]; omega
  | n + 9 => simp [fitR]
theorem fit_3 (r : List Int) : (fitR r).getD 4 0 < 256 := by simp [fitR]; omega
theorem tmod_fit (r : List Int) (n : Nat) (k : Int) : ((fitR r).getD n 0).tmod k = (fitR r).getD n 0 % k := Int.tmod_eq_emod_of_nonneg (fit_in r n).1
theorem tdiv_fit (r : List Int) (n : Nat) (k : Int) : ((fitR r).getD n 0).tdiv k = (fitR r).getD n 0 / k := Int.tdiv_eq_ediv_of_nonneg (fit_in r n).1
theorem inc_fit (r : List Int) (n : Nat) : (IntKind.i64.wrap ((fitR r).getD n 0 + 1)).tmod 65536 = ((fitR r).getD n 0 + 1) % 65536 := by
  have := fit_in r n
  rw [w64 (by omega) (by omega), Int.tmod_eq_emod_of_nonneg (by omega)]
theorem bit4 (r : List Int) : (IntKind.i64.wrap ((fitR r).getD 4 0 / 4)).tmod 2 = (fitR r).getD 4 0 / 4 % 2 := by
  have := fit_in r 4
  rw [w64 (by omega) (by omega), Int.tmod_eq_emod_of_nonneg (by omega)]
theorem dfltC : (dflt CycT : Cyc) = cycD := rfl
theorem i0 : Int.toNat 0 = 0 := rfl
theorem i4 : Int.toNat 4 = 4 := rfl
theorem i7 : Int.toNat 7 = 7 := rfl
theorem c256 (c : Cpu) : cycF c 256 = c.2.2.2.1 := rfl
theorem c257 (c : Cpu) : cycF c 257 = c.2.2.2.2 := rfl
set_option maxHeartbeats 4000000 in
theorem asked_ok : GoodF Try.prog 33 askS.spec := by
  have hT := tab_ok (fs := [(70, fitS.spec), (71, cycS.spec), (74, addrS.spec), (73, wideS.spec), (72, narrowS.spec)]) tree_ok
  have hP : SpecsOk Try.prog (tab tree [(70, fitS.spec), (71, cycS.spec), (74, addrS.spec), (73, wideS.spec), (72, narrowS.spec)]) := specs_cons rFit_ok (specs_cons cycOf_ok (specs_cons rAddr_ok (specs_cons rWide_ok (specs_cons rNarrow_ok specs_nil))))
  refine askS.good (fn := Try.f33) hT hP Try.func33 (by kernel_rfl) rfl fun (c : Cpu) (k : Kor) (i : Bool) hp => ?_
  obtain ⟨cn, ci, cr, cq, cm⟩ := c
  obtain ⟨r, op, at_, n⟩ := k
  obtain ⟨hz, h9⟩ : ci.length ≤ 4611686018427387904 ∧ r.length = 9 := hp _ rfl
  clear hp
  repeat' first
    | (refine Go.mk ?_; conv => whnf)
    | refine Need.go ?_ ?_
    | refine NilG.go (fun _ => ?_) (fun _ => ?_)
    | refine Br.dec (fun _ => ?_) (fun _ => ?_)
    | refine Br.go (fun _ => ?_) (fun _ => ?_)
    | refine draw_go hT hP mixed ?_
    | refine round_go hT hP ?_
  all_goals first
    | exact of_decide_eq_true rfl
    | exact hz
    | exact h9
    | exact ⟨_, rfl⟩
    | skip
  all_goals (try refine .mk [] [] _ rfl rfl rfl rfl rfl rfl (tupKB ?_))
  all_goals (simp only [castL_eq] at *)
  all_goals (try omega)
  all_goals clear hT hP
  all_goals (try simp only [tdiv_fit, i4, i7, i0] at *)
  all_goals (try simp only [tmod_fit, bit4, inc_fit, dfltC] at *)
  all_goals (try simp_all [askF, startF, canB, doF, c256, c257, plA, plR])
  all_goals (try omega)
  · exfalso
    rename_i g1 g2 g3 g4
    have g4 : (0 : Int) ≥ (cm.length : Int) := g4
    omega
  · rename_i g1 g2
    have hc : canB (cn, ci, cr, cq, cm) op at_ = false := by unfold canB; rw [decide_eq_false (show ¬ 0 ≤ at_ by omega)]; simp
    simp only [askF, if_neg g1, hc, true_or, if_true]

end Go.Proofs.Ytanaaecfghmmaaa

/- bakelaw1.CoreAsks answers true, whatever it is given. -/
namespace Go.Proofs.Ytanaaecfghmmaaa
open Go.Fw
set_option linter.unusedVariables false
set_option linter.unusedSimpArgs false
set_option maxRecDepth 100000

-- the law

theorem denEq_self : ∀ {u : Ty} {x : Den u}, u.flat = true → denEq u x x = true
  | .int _, x, _ => by simp [denEq]
  | .ints _ _, x, _ => by simp [denEq]
  | .bool, x, _ => by simp [denEq]
  | .str, x, _ => by simp [denEq, strEq]
  | .sl _, _, h => by cases h
  | .pair a b, x, h => by
    simp only [Ty.flat, Bool.and_eq_true] at h
    simp only [denEq, denEq_self h.1, denEq_self h.2, Bool.and_self]
def kNewS : PSpec := ⟨[], fun _ => (none, .agg [.run .i64 9 [0, 0, 0, 0, 4, 0, 0, 0, 0], iv .i64 258, iv .i64 0, bv false], [])⟩
def kNmiS : PSpec := ⟨[gK], fun (k, _) => (none, .agg [.run .i64 9 k.1, iv .i64 k.2.1, iv .i64 k.2.2.1, bv true], [])⟩
def coresS : PSpec := ⟨[], fun _ => (none, .cell (bv true), [])⟩
def caS : PSpec := ⟨[gCpu, gK, gB], fun (c, k, i, _) => (some (askP c k), .cell (bv true), [])⟩
end Go.Proofs.Ytanaaecfghmmaaa

