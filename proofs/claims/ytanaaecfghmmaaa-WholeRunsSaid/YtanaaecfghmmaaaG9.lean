/- Part 9 of the proof: RefLaw PinLaw Pin Sames. No statement is handed in here; conditions: none. -/
import Derived.Test.YtanaaecfghmmaaaG8
import Derived.Test.YtanaaecfghmmaaaG6
import Derived.Laws.Bits64
import Derived.Test.YtanaaecfghmmaaaG7
/- What the functions of package bit and the digits of bakeref1 are as arithmetic. -/
namespace Go.Proofs.Ytanaaecfghmmaaa
open Go.Fw
set_option linter.unusedVariables false
set_option linter.unusedSimpArgs false

theorem digitF_eq (n : Int) (i : Nat) (h : i ≤ 62) : digitF n i = ((u64 n / 2 ^ i % 2 : Nat) : Int) := by
  unfold digitF
  have e1 : IntKind.u64.wrap n = (u64 n : Int) := by rw [IntKind.wrap_u64]; unfold u64; omega
  have e2 : shr .u64 (IntKind.u64.wrap n) i = ((u64 n / 2 ^ i : Nat) : Int) := by
    rw [e1]
    show ((u64 n : Nat) : Int).fdiv (2 ^ (min ((i : Int).toNat) 64)) = _
    have : min ((i : Int).toNat) 64 = i := by omega
    rw [this]
    have e2 : (2 : Int) ^ i = ((2 ^ i : Nat) : Int) := by simp
    rw [e2, Int.fdiv_eq_ediv_of_nonneg _ (Int.natCast_nonneg _)]
    simp
  rw [e2]
  have hlt : u64 n / 2 ^ i < 2 ^ 64 := Nat.lt_of_le_of_lt (Nat.div_le_self _ _) (u64_lt n)
  have e3 : land .u64 ((u64 n / 2 ^ i : Nat) : Int) 1 = ((u64 n / 2 ^ i % 2 : Nat) : Int) := by
    show IntKind.u64.wrap (((BitVec.ofInt 64 ((u64 n / 2 ^ i : Nat) : Int) &&& BitVec.ofInt 64 1).toNat : Nat) : Int) = _
    rw [BitVec.toNat_and, ofInt_toNat, ofInt_toNat, u64_nat hlt]
    have : u64 1 = 2 ^ 1 - 1 := by decide
    rw [this, Nat.and_two_pow_sub_one_eq_mod, IntKind.wrap_u64]
    omega
  rw [e3]
  exact w64 (by omega) (by omega)
theorem digF_eq (n : Int) (k : Nat) (h : k ≤ 62) : digF n k = bitsN (u64 n) k := by
  unfold digF bitsN
  apply List.map_congr_left
  intro i hi
  exact digitF_eq n i (by have := List.mem_range.1 hi; omega)
theorem of2F_bits : ∀ (k m : Nat), k ≤ 62 → of2F (bitsN m k) = ((m % 2 ^ k : Nat) : Int)
  | 0, m, _ => by simp [bitsN, of2F, Nat.mod_one]
  | k + 1, m, h => by
    have ih := of2F_bits k (m / 2) (by omega)
    rw [bitsN_succ]
    show IntKind.i64.wrap (IntKind.i64.wrap (2 * of2F (bitsN (m / 2) k)) + ((m % 2 : Nat) : Int)) = _
    rw [ih]
    have h3 : 2 ^ k ≤ 2 ^ 61 := pow_le (by omega)
    have h4 : m / 2 % 2 ^ k < 2 ^ k := Nat.mod_lt _ (Nat.pow_pos (by omega))
    rw [w64 (x := 2 * ((m / 2 % 2 ^ k : Nat) : Int)) (by omega) (by omega), w64 (by omega) (by omega)]
    have e : m % 2 ^ (k + 1) = m % 2 + 2 * (m / 2 % 2 ^ k) := by
      rw [Nat.pow_succ, Nat.mul_comm, Nat.mod_mul]
    rw [e]
    omega
theorem dig2_62 (n : Int) : dig2F n 62 = bitsN (u64 n) 62 := digF_eq n 62 (by omega)

end Go.Proofs.Ytanaaecfghmmaaa

/- Lines with four values, as plain functions: how joining many compares with the drivers of each way. -/
namespace Go.Proofs.Ytanaaecfghmmaaa
open Go.Fw
set_option linter.unusedVariables false
set_option linter.unusedSimpArgs false

def fitF (a : Int) : Int := if a < 0 then 3 else if a > 3 then 3 else a
def joinF (a b : Int) : Int := if fitF a = 2 then fitF b else if fitF b = 2 then fitF a else if fitF a = fitF b then fitF a else 3
def pullF (a b : Int) : Int := if fitF a = 2 then fitF b else fitF a
def allF (l : List Int) : Int := l.foldl joinF 2
def lowB (a : Int) : Bool := decide (a = 0) || (decide (a < 0) || decide (a > 2))
def highB (a : Int) : Bool := decide (a = 1) || (decide (a < 0) || decide (a > 2))
def codeF (lo hi : Bool) : Int := match lo, hi with | true, true => 3 | true, false => 0 | false, true => 1 | false, false => 2
def lineF (l : List Int) : Int := codeF (l.any lowB) (l.any highB)
def wiredF (l : List Int) (b : Int) : Int := if l.any (fun x => decide (fitF x = 0)) = true then 0 else if l.any (fun x => decide (fitF x = 3)) = true then 3 else fitF b

theorem fitF_code (a : Int) : fitF a = codeF (lowB a) (highB a) := by
  by_cases h0 : a = 0
  · subst h0; decide
  by_cases h1 : a = 1
  · subst h1; decide
  by_cases h2 : a = 2
  · subst h2; decide
  have e1 : lowB a = true := by unfold lowB; simp; omega
  have e2 : highB a = true := by unfold highB; simp; omega
  rw [e1, e2]
  show fitF a = 3
  unfold fitF
  split <;> (try split) <;> omega
theorem join_code (lo hi : Bool) (a : Int) : joinF (codeF lo hi) a = codeF (lo || lowB a) (hi || highB a) := by
  unfold joinF
  rw [fitF_code a]
  cases lo <;> cases hi <;> cases lowB a <;> cases highB a <;> decide
theorem foldl_code : ∀ (l : List Int) (lo hi : Bool), l.foldl joinF (codeF lo hi) = codeF (lo || l.any lowB) (hi || l.any highB)
  | [], lo, hi => by simp
  | a :: l, lo, hi => by
    rw [List.foldl_cons, join_code, foldl_code l, List.any_cons, List.any_cons, Bool.or_assoc, Bool.or_assoc]
theorem allF_line (l : List Int) : allF l = lineF l := by
  show l.foldl joinF (codeF false false) = _
  rw [foldl_code]
  simp [lineF]
theorem line_one (a : Int) : lineF [a] = fitF a := by
  rw [fitF_code]; simp [lineF]
theorem line_two (a b : Int) : lineF [a, b] = joinF a b := by
  have h := join_code (lowB a) (highB a) b
  rw [← fitF_code] at h
  have e : joinF (fitF a) b = joinF a b := by
    have : fitF (fitF a) = fitF a := by
      rw [fitF_code a]; cases lowB a <;> cases highB a <;> decide
    unfold joinF
    rw [this]
  rw [← e, h]
  simp [lineF]

end Go.Proofs.Ytanaaecfghmmaaa

/- The functions of package pin, and bakeref1's lines. -/
namespace Go.Proofs.Ytanaaecfghmmaaa
open Go.Fw
set_option linter.unusedVariables false
set_option linter.unusedSimpArgs false
set_option maxRecDepth 100000

theorem tup2_bool {a b c d : Bool} (h1 : a = c) (h2 : b = d) : AV.tup [.c (bv a), .c (bv b)] = AV.tup [.c (bv c), .c (bv d)] := by rw [h1, h2]
theorem any_take {α : Type} [Inhabited α] (l : List α) (d : α) (p : α → Bool) {k : Nat} (h : k < l.length) : (l.take (k + 1)).any p = ((l.take k).any p || p (l.getD k d)) := by
  rw [List.take_succ_eq_append_getElem h, List.any_append]
  simp [h]

def pfitS : PSpec := ⟨[gi], fun (a, _) => (none, I (fitF a), [])⟩
def joinS : PSpec := ⟨[gi, gi], fun (a, b, _) => (none, I (joinF a b), [])⟩
def allS : PSpec := ⟨[gl], fun (l, _) => (some (List.length l ≤ 4611686018427387904), I (allF l), [])⟩
def pullS : PSpec := ⟨[gi, gi], fun (a, b, _) => (none, I (pullF a b), [])⟩
def wiredS : PSpec := ⟨[gl, gi], fun (l, b, _) => (some (List.length l ≤ 4611686018427387904), I (wiredF l b), [])⟩
def driveS : PSpec := ⟨[gi], fun (a, _) => (none, .tup [.c (bv (lowB a)), .c (bv (highB a))], [])⟩
def lineS : PSpec := ⟨[gl], fun (l, _) => (some (List.length l ≤ 4611686018427387904), I (lineF l), [])⟩
def idxF (p : Int → Bool) : List Int → Int → Int
  | [], _ => -1
  | a :: l, i => if p a = true then i else idxF p l (i + 1)
theorem idxF_any (p : Int → Bool) : ∀ (l : List Int) (i : Int), 0 ≤ i → decide (idxF p l i ≥ 0) = l.any p
  | [], i, h => by simp [idxF]
  | a :: l, i, h => by
    unfold idxF
    rw [List.any_cons]
    cases hp : p a with
    | true => simpa using h
    | false => simpa using idxF_any p l (i + 1) (by omega)
theorem idxF_step (p : Int → Bool) {l : List Int} {k : Nat} (h : k < l.length) : idxF p (l.drop k) k = if p (l.getD k 0) = true then (k : Int) else idxF p (l.drop (k + 1)) ((k : Int) + 1) := by
  rw [List.drop_eq_getElem_cons h, idxF]
  simp [h]

def clashS : PSpec := ⟨[gi], fun (a, _) => (none, .cell (bv (decide (fitF a = 3))), [])⟩
def indexS : PSpec := ⟨[gl, gi], fun (l, v, _) => (some (List.length l ≤ 4611686018427387904), I (idxF (fun a => decide (v = a)) l 0), [])⟩
theorem index_ok : GoodF Try.prog 47 indexS.spec := by
  have hT := tab_ok (fs := []) tree_ok
  have hP : SpecsOk Try.prog (tab tree []) := specs_nil
  refine indexS.good (fn := Try.f47) hT hP Try.func47 (by kernel_rfl) rfl fun (l : List Int) (v : Int) hp => ?_
  have hp : l.length ≤ 4611686018427387904 := hp _ rfl
  repeat' first
    | (refine Go.mk ?_; conv => whnf)
    | refine Need.go ?_ ?_
    | refine NilG.go (fun _ => ?_) (fun _ => ?_)
    | refine Br.dec (fun _ => ?_) (fun _ => ?_)
    | refine Br.go (fun _ => ?_) (fun _ => ?_)
    | refine draw_go hT hP mixed ?_
    | refine round_go hT hP ?_
  refine loop_go hT hP (X := Int) (fun i => St.mk [.cell (.ro (.int .i64) l), I v, .dead, .dead, .dead, .dead, .dead, I l.length, I i, .dead, .dead, .dead, .dead, .dead, .dead, .dead, .dead, .dead, .dead] [])
    (fun i => ∃ k : Nat, i = k ∧ k ≤ l.length ∧ idxF (fun a => decide (v = a)) l 0 = idxF (fun a => decide (v = a)) (l.drop k) k) (fun i => (l.length - i).toNat) 0 (Le.mk [] [] rfl rfl rfl ?_) ?_ fun i hi => ?_
  rotate_right
  repeat' first
    | (refine Go.mk ?_; conv => whnf)
    | refine Need.go ?_ ?_
    | refine NilG.go (fun _ => ?_) (fun _ => ?_)
    | refine Br.dec (fun _ => ?_) (fun _ => ?_)
    | refine Br.go (fun _ => ?_) (fun _ => ?_)
    | refine draw_go hT hP mixed ?_
    | refine round_go hT hP ?_
  · obtain ⟨k, rfl, hk, h0⟩ := hi
    omega
  · rename_i hz
    obtain ⟨k, rfl, hk, h0⟩ := hi
    have hlt : k < l.length := by omega
    have hz : v = l.getD k 0 := by simpa [dflt] using hz
    refine .mk [] [] _ rfl rfl rfl rfl rfl rfl (imm_int ?_)
    show (k : Int) = idxF (fun a => decide (v = a)) l 0
    rw [h0, idxF_step _ hlt, if_pos (decide_eq_true hz)]
  · rename_i hz
    obtain ⟨k, rfl, hk, h0⟩ := hi
    have hlt : k < l.length := by omega
    have hz : ¬ v = l.getD k 0 := by simpa [dflt] using hz
    have e : IntKind.i64.wrap ((k : Int) + 1) = ((k + 1 : Nat) : Int) := by rw [w64 (by omega) (by omega)]; omega
    apply Exists.intro _
    refine And.intro ?_ (And.intro ?_ (Le.mk [] [] rfl rfl ?hh ?ht))
    case hh => exact rfl
    case ht => repeat' first | exact trivial | exact ⟨rfl, rfl⟩ | refine And.intro ?_ ?_
    · refine ⟨k + 1, e, by omega, ?_⟩
      rw [h0, idxF_step _ hlt, if_neg (by simpa using hz)]
      rfl
    · show (l.length - IntKind.i64.wrap ((k : Int) + 1)).toNat < (l.length - (k : Int)).toNat
      rw [e]; omega
  · obtain ⟨k, rfl, hk, h0⟩ := hi
    refine .mk [] [] _ rfl rfl rfl rfl rfl rfl (imm_int ?_)
    show -1 = idxF (fun a => decide (v = a)) l 0
    rw [h0, List.drop_of_length_le (by omega)]; rfl
  · repeat' first | exact trivial | exact ⟨rfl, rfl⟩ | refine And.intro ?_ ?_
  · exact ⟨0, rfl, by omega, rfl⟩

def containsS : PSpec := ⟨[gl, gi], fun (l, v, _) => (some (List.length l ≤ 4611686018427387904), .cell (bv (l.any fun a => decide (v = a))), [])⟩
theorem contains_ok : GoodF Try.prog 11 containsS.spec := by
  have hT := tab_ok (fs := [(47, indexS.spec)]) tree_ok
  have hP : SpecsOk Try.prog (tab tree [(47, indexS.spec)]) := specs_cons index_ok specs_nil
  refine containsS.good (fn := Try.f11) hT hP Try.func11 (by kernel_rfl) rfl fun (l : List Int) (v : Int) hp => ?_
  have hp : l.length ≤ 4611686018427387904 := hp _ rfl
  repeat' first
    | (refine Go.mk ?_; conv => whnf)
    | refine Need.go ?_ ?_
    | refine NilG.go (fun _ => ?_) (fun _ => ?_)
    | refine Br.dec (fun _ => ?_) (fun _ => ?_)
    | refine Br.go (fun _ => ?_) (fun _ => ?_)
    | refine draw_go hT hP mixed ?_
    | refine round_go hT hP ?_
  · exact hp
  · refine .mk [] [] _ rfl rfl rfl rfl rfl rfl (imm_bool ?_)
    exact idxF_any _ l 0 (by omega)

def linesS : PSpec := ⟨[], fun _ => (none, .cell (bv true), [])⟩
end Go.Proofs.Ytanaaecfghmmaaa

/- Tables of instructions compared: steps, cycles. -/
namespace Go.Proofs.Ytanaaecfghmmaaa
open Go.Fw
set_option linter.unusedVariables false
set_option linter.unusedSimpArgs false
set_option linter.constructorNameAsVariable false
set_option maxRecDepth 100000

theorem eq_take {α : Type} {l m : List α} (h : l.length = m.length) {k : Nat} (hk : ¬ k < l.length) (h2 : l.take k = m.take k) : l = m := by
  rwa [List.take_of_length_le (by omega), List.take_of_length_le (by omega)] at h2
theorem take_eq {α : Type} {l m : List α} {k : Nat} (d : α) (h : k < l.length) (h3 : k < m.length) (h2 : l.take k = m.take k) (he : l.getD k d = m.getD k d) : l.take (k + 1) = m.take (k + 1) := by
  rw [List.getD_eq_getElem?_getD, List.getD_eq_getElem?_getD, List.getElem?_eq_getElem h, List.getElem?_eq_getElem h3] at he
  rw [List.take_add_one, List.take_add_one, h2, List.getElem?_eq_getElem h, List.getElem?_eq_getElem h3]
  have he : l[k] = m[k] := he
  rw [he]
theorem ne_at {α : Type} {l m : List α} {k : Nat} (d : α) (he : l.getD k d ≠ m.getD k d) : l ≠ m := fun e => he (by rw [e])
theorem stp_eq {x y : Stp} : denEq StepT x y = true ↔ x = y :=
  ⟨fun h => denEq_eq (u := StepT) rfl h, fun h => by subst h; simp [denEq]⟩
def eqStpS : PSpec := ⟨[⟨false, .sl StepT⟩, ⟨false, .sl StepT⟩], fun (l, m, _) => (some (List.length l ≤ 4611686018427387904), .cell (bv (decide ((l : List Stp) = m))), [])⟩
theorem eqStp_ok : GoodF Try.prog 68 eqStpS.spec := by
  have hT := tab_ok (fs := []) tree_ok
  have hP : SpecsOk Try.prog (tab tree []) := specs_nil
  refine eqStpS.good (fn := Try.f68) hT hP Try.func68 (by kernel_rfl) rfl fun (l m : List Stp) hq => ?_
  have hl : l.length ≤ 4611686018427387904 := hq _ rfl
  clear hq
  repeat' first
    | (refine Go.mk ?_; conv => whnf)
    | refine Need.go ?_ ?_
    | refine NilG.go (fun _ => ?_) (fun _ => ?_)
    | refine Br.dec (fun _ => ?_) (fun _ => ?_)
    | refine Br.go (fun _ => ?_) (fun _ => ?_)
    | refine draw_go hT hP mixed ?_
    | refine round_go hT hP ?_
  all_goals first
    | exact of_decide_eq_true rfl
    | skip
  · rename_i h
    have h : (l.length : Int) ≠ (m.length : Int) := by simpa using h
    refine .mk [] [] _ rfl rfl rfl rfl rfl rfl (imm_bool ?_)
    exact (decide_eq_false (fun e => h (by rw [e]))).symm
  rename_i h
  have h : (l.length : Int) = (m.length : Int) := by simpa using h
  have hm : l.length = m.length := by omega
  refine up_go hT hP (A := Unit) l.length (fun i _ => St.mk [.cell (.ro StepT l), .cell (.ro StepT m), .dead, .dead, .dead, .dead, .dead, .dead, .dead, .dead, .dead, .dead, I (l.length : Int), I i, .dead, .dead, .dead, .dead, .dead, .dead, .dead, .dead, .dead, .dead, .dead, .dead] [])
    (fun k _ => l.take k = m.take k) () (Le.mk [] [] rfl rfl rfl ?_) (by simp) fun k _ hk hi => ?_
  · repeat' first | exact trivial | exact ⟨rfl, rfl⟩ | refine And.intro ?_ ?_
  repeat' first
    | (refine Go.mk ?_; conv => whnf)
    | refine Need.go ?_ ?_
    | refine NilG.go (fun _ => ?_) (fun _ => ?_)
    | refine Br.dec (fun _ => ?_) (fun _ => ?_)
    | refine Br.go (fun _ => ?_) (fun _ => ?_)
    | refine draw_go hT hP mixed ?_
    | refine round_go hT hP ?_
  all_goals clear hT hP
  all_goals first
    | exact of_decide_eq_true rfl
    | (rename_i g1
       have g1 : (k : Int) < (l.length : Int) := g1
       show 0 ≤ (k : Int) ∧ (k : Int) < (l.length : Int)
       omega)
    | (rename_i g1
       have g1 : (k : Int) < (l.length : Int) := g1
       show 0 ≤ (k : Int) ∧ (k : Int) < (m.length : Int)
       omega)
    | (rename_i g1 h2
       have g1 : (k : Int) < (l.length : Int) := g1
       have h2 : (!denEq StepT (l.getD k (dflt StepT)) (m.getD k (dflt StepT))) = true := h2
       have hne : l.getD k (dflt StepT) ≠ m.getD k (dflt StepT) := fun e => by
         rw [stp_eq.2 e] at h2; cases h2
       refine .mk [] [] _ rfl rfl rfl rfl rfl rfl (imm_bool ?_)
       exact (decide_eq_false (ne_at (dflt StepT) hne)).symm)
    | (rename_i g1 h2
       have g1 : (k : Int) < (l.length : Int) := g1
       have h2 : (!denEq StepT (l.getD k (dflt StepT)) (m.getD k (dflt StepT))) = false := h2
       have he : l.getD k (dflt StepT) = m.getD k (dflt StepT) := stp_eq.1 (by simpa using h2)
       apply Exists.intro
       apply Exists.intro ()
       refine And.intro (And.intro ?lt (And.intro ?ei ?inv)) (Le.mk [] [] rfl rfl ?hh ?ht)
       case hh => exact rfl
       case ht => repeat' first | exact trivial | exact ⟨rfl, rfl⟩ | refine And.intro ?_ ?_
       case lt => omega
       case ei => exact up_i (by omega)
       case inv => exact take_eq (dflt StepT) (by omega) (by omega) hi he)
    | (rename_i g1
       have g1 : ¬ (k : Int) < (l.length : Int) := g1
       refine .mk [] [] _ rfl rfl rfl rfl rfl rfl (imm_bool ?_)
       exact (decide_eq_true (eq_take hm (by omega) hi)).symm)
    | skip
  all_goals trace_state

abbrev gCy : Sig := ⟨true, CycT⟩
def cycB (x y : Cyc) : Bool := decide (x.1 = y.1) && (decide (x.2.1 = y.2.1) && (decide (x.2.2.1 = y.2.2.1) && decide (x.2.2.2 = y.2.2.2)))
theorem cycB_iff {x y : Cyc} : cycB x y = true ↔ x = y := by
  obtain ⟨a, b, c, l⟩ := x
  obtain ⟨a', b', c', l'⟩ := y
  simp [cycB, Prod.mk.injEq]
def eqCycS : PSpec := ⟨[gCy, gCy], fun (x, y, _) => (some (x.2.2.2.length ≤ 4611686018427387904), .cell (bv (cycB x y)), [])⟩
theorem eqCyc2_ok : GoodF Try.prog 67 eqCycS.spec := by
  have hT := tab_ok (fs := [(68, eqStpS.spec)]) tree_ok
  have hP : SpecsOk Try.prog (tab tree [(68, eqStpS.spec)]) := specs_cons eqStp_ok specs_nil
  refine eqCycS.good (fn := Try.f67) hT hP Try.func67 (by kernel_rfl) rfl fun (x y : Cyc) hq => ?_
  obtain ⟨a, b, c, l⟩ := x
  obtain ⟨a', b', c', l'⟩ := y
  have hl : l.length ≤ 4611686018427387904 := hq _ rfl
  clear hq
  repeat' first
    | (refine Go.mk ?_; conv => whnf)
    | refine Need.go ?_ ?_
    | refine NilG.go (fun _ => ?_) (fun _ => ?_)
    | refine Br.dec (fun _ => ?_) (fun _ => ?_)
    | refine Br.go (fun _ => ?_) (fun _ => ?_)
    | refine draw_go hT hP mixed ?_
    | refine round_go hT hP ?_
  all_goals first
    | exact of_decide_eq_true rfl
    | exact hl
    | skip
  all_goals (refine .mk [] [] _ rfl rfl rfl rfl rfl rfl (imm_bool ?_))
  all_goals clear hT hP
  all_goals (show _ = (decide (a = a') && (decide (b = b') && (decide (c = c') && decide (l = l')))))
  all_goals (try simp only [castL_eq] at *)
  all_goals (simp_all)
  all_goals (by_cases h : l = l' <;> simp [h])

noncomputable def eqB {α : Type} (x y : α) : Bool := @decide (x = y) (Classical.propDecidable _)
theorem eqB_t {α : Type} {x y : α} (h : x = y) : eqB x y = true := @decide_eq_true _ (Classical.propDecidable _) h
theorem eqB_f {α : Type} {x y : α} (h : x ≠ y) : eqB x y = false := @decide_eq_false _ (Classical.propDecidable _) h
theorem eqB_iff {α : Type} {x y : α} : eqB x y = true ↔ x = y := ⟨fun h => @of_decide_eq_true _ (Classical.propDecidable _) h, eqB_t⟩
structure EqcX where
  g : Nat
  l : List Cyc
  m : List Cyc
def eqcRd : List V1 → List Blk → Option EqcX := fun a b => match a, b with
  | [.c (.ro (.pair (.int .i64) (.pair (.int .i64) (.pair (.int .i64) (.sl (.pair (.int .i64) (.pair (.int .i64) (.pair (.int .i64) (.int .i64)))))))) l), .c (.ro (.pair (.int .i64) (.pair (.int .i64) (.pair (.int .i64) (.sl (.pair (.int .i64) (.pair (.int .i64) (.pair (.int .i64) (.int .i64)))))))) m), .c (.fn g [])], [] => some ⟨g, l, m⟩
  | _, _ => none
theorem eqcRd_ok {a : List V1} {b : List Blk} {x : EqcX} (h : eqcRd a b = some x) : a = [.c (.ro CycT x.l), .c (.ro CycT x.m), .c (.fn x.g [])] ∧ b = [] := by
  unfold eqcRd at h
  split at h
  · injection h with h; subst h; exact ⟨rfl, rfl⟩
  · cases h
end Go.Proofs.Ytanaaecfghmmaaa

