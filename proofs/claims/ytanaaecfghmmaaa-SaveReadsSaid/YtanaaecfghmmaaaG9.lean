/- Part 9 of the proof: RefLaw PinLaw Pin Alu Alu2 Alu3 StepRef Stepped CoreAsks Tell2 Sames Clones. No statement is handed in here; conditions: none. -/
import Derived.Test.YtanaaecfghmmaaaG8
import Derived.Test.YtanaaecfghmmaaaG6
import Derived.Laws.Bits64
import Derived.Test.YtanaaecfghmmaaaG7
/- What the functions of package bit and the digits of bakeref1 are as arithmetic. -/
namespace Go.Proofs.Ytanaaecfghmmaaa
open Go.Fw
set_option linter.unusedVariables false
set_option linter.unusedSimpArgs false

theorem digitF_eq (n : Int) (i : Nat) (h : i ≤ 62) : digitF n i = ((u64 n / 2 ^ i % 2 : Nat) : Int) := by
  unfold digitF
  have e1 : IntKind.u64.wrap n = (u64 n : Int) := by rw [IntKind.wrap_u64]; unfold u64; omega
  have e2 : shr .u64 (IntKind.u64.wrap n) i = ((u64 n / 2 ^ i : Nat) : Int) := by
    rw [e1]
    show ((u64 n : Nat) : Int).fdiv (2 ^ (min ((i : Int).toNat) 64)) = _
    have : min ((i : Int).toNat) 64 = i := by omega
    rw [this]
    have e2 : (2 : Int) ^ i = ((2 ^ i : Nat) : Int) := by simp
    rw [e2, Int.fdiv_eq_ediv_of_nonneg _ (Int.natCast_nonneg _)]
    simp
  rw [e2]
  have hlt : u64 n / 2 ^ i < 2 ^ 64 := Nat.lt_of_le_of_lt (Nat.div_le_self _ _) (u64_lt n)
  have e3 : land .u64 ((u64 n / 2 ^ i : Nat) : Int) 1 = ((u64 n / 2 ^ i % 2 : Nat) : Int) := by
    show IntKind.u64.wrap (((BitVec.ofInt 64 ((u64 n / 2 ^ i : Nat) : Int) &&& BitVec.ofInt 64 1).toNat : Nat) : Int) = _
    rw [BitVec.toNat_and, ofInt_toNat, ofInt_toNat, u64_nat hlt]
    have : u64 1 = 2 ^ 1 - 1 := by decide
    rw [this, Nat.and_two_pow_sub_one_eq_mod, IntKind.wrap_u64]
    omega
  rw [e3]
  exact w64 (by omega) (by omega)
theorem digF_eq (n : Int) (k : Nat) (h : k ≤ 62) : digF n k = bitsN (u64 n) k := by
  unfold digF bitsN
  apply List.map_congr_left
  intro i hi
  exact digitF_eq n i (by have := List.mem_range.1 hi; omega)
theorem of2F_bits : ∀ (k m : Nat), k ≤ 62 → of2F (bitsN m k) = ((m % 2 ^ k : Nat) : Int)
  | 0, m, _ => by simp [bitsN, of2F, Nat.mod_one]
  | k + 1, m, h => by
    have ih := of2F_bits k (m / 2) (by omega)
    rw [bitsN_succ]
    show IntKind.i64.wrap (IntKind.i64.wrap (2 * of2F (bitsN (m / 2) k)) + ((m % 2 : Nat) : Int)) = _
    rw [ih]
    have h3 : 2 ^ k ≤ 2 ^ 61 := pow_le (by omega)
    have h4 : m / 2 % 2 ^ k < 2 ^ k := Nat.mod_lt _ (Nat.pow_pos (by omega))
    rw [w64 (x := 2 * ((m / 2 % 2 ^ k : Nat) : Int)) (by omega) (by omega), w64 (by omega) (by omega)]
    have e : m % 2 ^ (k + 1) = m % 2 + 2 * (m / 2 % 2 ^ k) := by
      rw [Nat.pow_succ, Nat.mul_comm, Nat.mod_mul]
    rw [e]
    omega
theorem dig2_62 (n : Int) : dig2F n 62 = bitsN (u64 n) 62 := digF_eq n 62 (by omega)

end Go.Proofs.Ytanaaecfghmmaaa

/- Lines with four values, as plain functions: how joining many compares with the drivers of each way. -/
namespace Go.Proofs.Ytanaaecfghmmaaa
open Go.Fw
set_option linter.unusedVariables false
set_option linter.unusedSimpArgs false

def fitF (a : Int) : Int := if a < 0 then 3 else if a > 3 then 3 else a
def joinF (a b : Int) : Int := if fitF a = 2 then fitF b else if fitF b = 2 then fitF a else if fitF a = fitF b then fitF a else 3
def pullF (a b : Int) : Int := if fitF a = 2 then fitF b else fitF a
def allF (l : List Int) : Int := l.foldl joinF 2
def lowB (a : Int) : Bool := decide (a = 0) || (decide (a < 0) || decide (a > 2))
def highB (a : Int) : Bool := decide (a = 1) || (decide (a < 0) || decide (a > 2))
def codeF (lo hi : Bool) : Int := match lo, hi with | true, true => 3 | true, false => 0 | false, true => 1 | false, false => 2
def lineF (l : List Int) : Int := codeF (l.any lowB) (l.any highB)
def wiredF (l : List Int) (b : Int) : Int := if l.any (fun x => decide (fitF x = 0)) = true then 0 else if l.any (fun x => decide (fitF x = 3)) = true then 3 else fitF b

theorem fitF_code (a : Int) : fitF a = codeF (lowB a) (highB a) := by
  by_cases h0 : a = 0
  · subst h0; decide
  by_cases h1 : a = 1
  · subst h1; decide
  by_cases h2 : a = 2
  · subst h2; decide
  have e1 : lowB a = true := by unfold lowB; simp; omega
  have e2 : highB a = true := by unfold highB; simp; omega
  rw [e1, e2]
  show fitF a = 3
  unfold fitF
  split <;> (try split) <;> omega
theorem join_code (lo hi : Bool) (a : Int) : joinF (codeF lo hi) a = codeF (lo || lowB a) (hi || highB a) := by
  unfold joinF
  rw [fitF_code a]
  cases lo <;> cases hi <;> cases lowB a <;> cases highB a <;> decide
theorem foldl_code : ∀ (l : List Int) (lo hi : Bool), l.foldl joinF (codeF lo hi) = codeF (lo || l.any lowB) (hi || l.any highB)
  | [], lo, hi => by simp
  | a :: l, lo, hi => by
    rw [List.foldl_cons, join_code, foldl_code l, List.any_cons, List.any_cons, Bool.or_assoc, Bool.or_assoc]
theorem allF_line (l : List Int) : allF l = lineF l := by
  show l.foldl joinF (codeF false false) = _
  rw [foldl_code]
  simp [lineF]
theorem line_one (a : Int) : lineF [a] = fitF a := by
  rw [fitF_code]; simp [lineF]
theorem line_two (a b : Int) : lineF [a, b] = joinF a b := by
  have h := join_code (lowB a) (highB a) b
  rw [← fitF_code] at h
  have e : joinF (fitF a) b = joinF a b := by
    have : fitF (fitF a) = fitF a := by
      rw [fitF_code a]; cases lowB a <;> cases highB a <;> decide
    unfold joinF
    rw [this]
  rw [← e, h]
  simp [lineF]

end Go.Proofs.Ytanaaecfghmmaaa

/- The functions of package pin, and bakeref1's lines. -/
namespace Go.Proofs.Ytanaaecfghmmaaa
open Go.Fw
set_option linter.unusedVariables false
set_option linter.unusedSimpArgs false
set_option maxRecDepth 100000

theorem tup2_bool {a b c d : Bool} (h1 : a = c) (h2 : b = d) : AV.tup [.c (bv a), .c (bv b)] = AV.tup [.c (bv c), .c (bv d)] := by rw [h1, h2]
theorem any_take {α : Type} [Inhabited α] (l : List α) (d : α) (p : α → Bool) {k : Nat} (h : k < l.length) : (l.take (k + 1)).any p = ((l.take k).any p || p (l.getD k d)) := by
  rw [List.take_succ_eq_append_getElem h, List.any_append]
  simp [h]

def pfitS : PSpec := ⟨[gi], fun (a, _) => (none, I (fitF a), [])⟩
def joinS : PSpec := ⟨[gi, gi], fun (a, b, _) => (none, I (joinF a b), [])⟩
def allS : PSpec := ⟨[gl], fun (l, _) => (some (List.length l ≤ 4611686018427387904), I (allF l), [])⟩
def pullS : PSpec := ⟨[gi, gi], fun (a, b, _) => (none, I (pullF a b), [])⟩
def wiredS : PSpec := ⟨[gl, gi], fun (l, b, _) => (some (List.length l ≤ 4611686018427387904), I (wiredF l b), [])⟩
def driveS : PSpec := ⟨[gi], fun (a, _) => (none, .tup [.c (bv (lowB a)), .c (bv (highB a))], [])⟩
def lineS : PSpec := ⟨[gl], fun (l, _) => (some (List.length l ≤ 4611686018427387904), I (lineF l), [])⟩
def idxF (p : Int → Bool) : List Int → Int → Int
  | [], _ => -1
  | a :: l, i => if p a = true then i else idxF p l (i + 1)
theorem idxF_any (p : Int → Bool) : ∀ (l : List Int) (i : Int), 0 ≤ i → decide (idxF p l i ≥ 0) = l.any p
  | [], i, h => by simp [idxF]
  | a :: l, i, h => by
    unfold idxF
    rw [List.any_cons]
    cases hp : p a with
    | true => simpa using h
    | false => simpa using idxF_any p l (i + 1) (by omega)
theorem idxF_step (p : Int → Bool) {l : List Int} {k : Nat} (h : k < l.length) : idxF p (l.drop k) k = if p (l.getD k 0) = true then (k : Int) else idxF p (l.drop (k + 1)) ((k : Int) + 1) := by
  rw [List.drop_eq_getElem_cons h, idxF]
  simp [h]

def clashS : PSpec := ⟨[gi], fun (a, _) => (none, .cell (bv (decide (fitF a = 3))), [])⟩
def indexS : PSpec := ⟨[gl, gi], fun (l, v, _) => (some (List.length l ≤ 4611686018427387904), I (idxF (fun a => decide (v = a)) l 0), [])⟩
theorem index_ok : GoodF Try.prog 47 indexS.spec := by
  have hT := tab_ok (fs := []) tree_ok
  have hP : SpecsOk Try.prog (tab tree []) := specs_nil
  refine indexS.good (fn := Try.f47) hT hP Try.func47 (by kernel_rfl) rfl fun (l : List Int) (v : Int) hp => ?_
  have hp : l.length ≤ 4611686018427387904 := hp _ rfl
  repeat' first
    | (refine Go.mk ?_; conv => whnf)
    | refine Need.go ?_ ?_
    | refine NilG.go (fun _ => ?_) (fun _ => ?_)
    | refine Br.dec (fun _ => ?_) (fun _ => ?_)
    | refine Br.go (fun _ => ?_) (fun _ => ?_)
    | refine draw_go hT hP mixed ?_
    | refine round_go hT hP ?_
  refine loop_go hT hP (X := Int) (fun i => St.mk [.cell (.ro (.int .i64) l), I v, .dead, .dead, .dead, .dead, .dead, I l.length, I i, .dead, .dead, .dead, .dead, .dead, .dead, .dead, .dead, .dead, .dead] [])
    (fun i => ∃ k : Nat, i = k ∧ k ≤ l.length ∧ idxF (fun a => decide (v = a)) l 0 = idxF (fun a => decide (v = a)) (l.drop k) k) (fun i => (l.length - i).toNat) 0 (Le.mk [] [] rfl rfl rfl ?_) ?_ fun i hi => ?_
  rotate_right
  repeat' first
    | (refine Go.mk ?_; conv => whnf)
    | refine Need.go ?_ ?_
    | refine NilG.go (fun _ => ?_) (fun _ => ?_)
    | refine Br.dec (fun _ => ?_) (fun _ => ?_)
    | refine Br.go (fun _ => ?_) (fun _ => ?_)
    | refine draw_go hT hP mixed ?_
    | refine round_go hT hP ?_
  · obtain ⟨k, rfl, hk, h0⟩ := hi
    omega
  · rename_i hz
    obtain ⟨k, rfl, hk, h0⟩ := hi
    have hlt : k < l.length := by omega
    have hz : v = l.getD k 0 := by simpa [dflt] using hz
    refine .mk [] [] _ rfl rfl rfl rfl rfl rfl (imm_int ?_)
    show (k : Int) = idxF (fun a => decide (v = a)) l 0
    rw [h0, idxF_step _ hlt, if_pos (decide_eq_true hz)]
  · rename_i hz
    obtain ⟨k, rfl, hk, h0⟩ := hi
    have hlt : k < l.length := by omega
    have hz : ¬ v = l.getD k 0 := by simpa [dflt] using hz
    have e : IntKind.i64.wrap ((k : Int) + 1) = ((k + 1 : Nat) : Int) := by rw [w64 (by omega) (by omega)]; omega
    apply Exists.intro _
    refine And.intro ?_ (And.intro ?_ (Le.mk [] [] rfl rfl ?hh ?ht))
    case hh => exact rfl
    case ht => repeat' first | exact trivial | exact ⟨rfl, rfl⟩ | refine And.intro ?_ ?_
    · refine ⟨k + 1, e, by omega, ?_⟩
      rw [h0, idxF_step _ hlt, if_neg (by simpa using hz)]
      rfl
    · show (l.length - IntKind.i64.wrap ((k : Int) + 1)).toNat < (l.length - (k : Int)).toNat
      rw [e]; omega
  · obtain ⟨k, rfl, hk, h0⟩ := hi
    refine .mk [] [] _ rfl rfl rfl rfl rfl rfl (imm_int ?_)
    show -1 = idxF (fun a => decide (v = a)) l 0
    rw [h0, List.drop_of_length_le (by omega)]; rfl
  · repeat' first | exact trivial | exact ⟨rfl, rfl⟩ | refine And.intro ?_ ?_
  · exact ⟨0, rfl, by omega, rfl⟩

def containsS : PSpec := ⟨[gl, gi], fun (l, v, _) => (some (List.length l ≤ 4611686018427387904), .cell (bv (l.any fun a => decide (v = a))), [])⟩
theorem contains_ok : GoodF Try.prog 11 containsS.spec := by
  have hT := tab_ok (fs := [(47, indexS.spec)]) tree_ok
  have hP : SpecsOk Try.prog (tab tree [(47, indexS.spec)]) := specs_cons index_ok specs_nil
  refine containsS.good (fn := Try.f11) hT hP Try.func11 (by kernel_rfl) rfl fun (l : List Int) (v : Int) hp => ?_
  have hp : l.length ≤ 4611686018427387904 := hp _ rfl
  repeat' first
    | (refine Go.mk ?_; conv => whnf)
    | refine Need.go ?_ ?_
    | refine NilG.go (fun _ => ?_) (fun _ => ?_)
    | refine Br.dec (fun _ => ?_) (fun _ => ?_)
    | refine Br.go (fun _ => ?_) (fun _ => ?_)
    | refine draw_go hT hP mixed ?_
    | refine round_go hT hP ?_
  · exact hp
  · refine .mk [] [] _ rfl rfl rfl rfl rfl rfl (imm_bool ?_)
    exact idxF_any _ l 0 (by omega)

def linesS : PSpec := ⟨[], fun _ => (none, .cell (bv true), [])⟩
end Go.Proofs.Ytanaaecfghmmaaa

/- The steps of a processor: the small functions. -/
namespace Go.Proofs.Ytanaaecfghmmaaa
open Go.Fw
set_option linter.unusedVariables false
set_option linter.unusedSimpArgs false
set_option maxRecDepth 100000

theorem land1e (c : Int) : land .i64 c 1 = c % 2 := by
  have e : (BitVec.ofInt 64 c &&& BitVec.ofInt 64 1).toNat = (BitVec.ofInt 64 c).toNat % 2 := by
    rw [BitVec.toNat_and]
    exact Nat.and_one_is_mod _
  show IntKind.i64.wrap (((BitVec.ofInt 64 c &&& BitVec.ofInt 64 1).toNat : Nat) : Int) = _
  rw [e, ofInt_toNat, w64 (by omega) (by omega)]
  unfold u64
  omega
theorem shr_lit (x : Int) (k : Nat) (h : k ≤ 64) : shr .i64 x (k : Int) = x / 2 ^ k := by
  show x.fdiv (2 ^ (min ((k : Int).toNat) 64)) = _
  have : min ((k : Int).toNat) 64 = k := by omega
  rw [this]
  exact Int.fdiv_eq_ediv_of_nonneg _ (by have : (0 : Int) ≤ ((2 ^ k : Nat) : Int) := Int.natCast_nonneg _; simpa using this)
theorem shr8 (x : Int) : shr .i64 x 8 = x / 256 := shr_lit x 8 (by omega)
theorem shr1 (x : Int) : shr .i64 x 1 = x / 2 := shr_lit x 1 (by omega)
theorem shr7 (x : Int) : shr .i64 x 7 = x / 128 := shr_lit x 7 (by omega)
theorem width8 : widthF 8 = 8 := by decide
theorem p8 : (2 : Int) ^ (8 : Int).toNat = 256 := by decide
theorem shl1 (x : Int) (h : 0 ≤ x ∧ x < 65536) : shl .i64 x 1 = 2 * x := by
  show IntKind.i64.wrap (x * 2 ^ (min ((1 : Int).toNat) 64)) = _
  have : min ((1 : Int).toNat) 64 = 1 := by decide
  rw [this, w64 (by omega) (by omega)]; omega
theorem shl8 (x : Int) (h : 0 ≤ x ∧ x < 65536) : shl .i64 x 8 = 256 * x := by
  show IntKind.i64.wrap (x * 2 ^ (min ((8 : Int).toNat) 64)) = _
  have : min ((8 : Int).toNat) 64 = 8 := by decide
  rw [this, w64 (by omega) (by omega)]; omega
theorem shl18 : shl .i64 1 8 = 256 := by decide
theorem or_low (x c : Int) (h : 0 ≤ x ∧ x < 256) (hc : c = 0 ∨ c = 1) : lor .i64 (2 * x) c = 2 * x + c := by
  rcases hc with rfl | rfl
  · exact fin256 (fun x => lor .i64 (2 * x) 0 = 2 * x + 0) (by decide +kernel) x h.1 h.2
  · exact fin256 (fun x => lor .i64 (2 * x) 1 = 2 * x + 1) (by decide +kernel) x h.1 h.2
theorem or_high (x c : Int) (h : 0 ≤ x ∧ x < 256) (hc : c = 0 ∨ c = 1) : lor .i64 x (256 * c) = x + 256 * c := by
  rcases hc with rfl | rfl
  · exact fin256 (fun x => lor .i64 x (256 * 0) = x + 256 * 0) (by decide +kernel) x h.1 h.2
  · exact fin256 (fun x => lor .i64 x (256 * 1) = x + 256 * 1) (by decide +kernel) x h.1 h.2

abbrev bitC (c : Int) : Prop := c = 0 ∨ c = 1
def okAB (a b c n : Int) : Prop := (0 ≤ a ∧ a < 256) ∧ (0 ≤ b ∧ b < 256) ∧ bitC c ∧ n = 8
def add8S : PSpec := ⟨[gi, gi, gi, gi], fun (a, b, c, n, _) => (some (okAB a b c n), .tup [I1 ((a + b + c) % 256), I1 ((a + b + c) / 256)], [])⟩
theorem add8_ok : GoodF Try.prog 131 add8S.spec := by
  have hT := tab_ok (fs := [(104, widthS.spec), (79, lowM.spec)]) tree_ok
  have hP : SpecsOk Try.prog (tab tree [(104, widthS.spec), (79, lowM.spec)]) := specs_cons width_ok (specs_cons lowM_ok specs_nil)
  refine add8S.good (fn := Try.f131) hT hP Try.func131 (by kernel_rfl) rfl fun (a b c n : Int) hp => ?_
  obtain ⟨ha, hb, hc, rfl⟩ : okAB a b c n := hp _ rfl
  repeat' first
    | (refine Go.mk ?_; conv => whnf)
    | refine Need.go ?_ ?_
    | refine NilG.go (fun _ => ?_) (fun _ => ?_)
    | refine Br.dec (fun _ => ?_) (fun _ => ?_)
    | refine Br.go (fun _ => ?_) (fun _ => ?_)
    | refine draw_go hT hP mixed ?_
    | refine round_go hT hP ?_
  all_goals first
    | exact of_decide_eq_true rfl
    | skip
  refine .mk [] [] _ rfl rfl rfl rfl rfl rfl (tup2_int ?_ ?_)
  · rw [width8, p8, land1e]; simp only [w64e]; omega
  · rw [width8, p8, land1e, shr8]; simp only [w64e]; omega
def borV (x : Int) : Int := if x < 0 then 1 else 0
def sub8S : PSpec := ⟨[gi, gi, gi, gi], fun (a, b, c, n, _) => (some (okAB a b c n), .tup [I1 ((a - b - c) % 256), I1 (borV (a - b - c))], [])⟩
theorem sub8_ok : GoodF Try.prog 134 sub8S.spec := by
  have hT := tab_ok (fs := [(104, widthS.spec), (79, lowM.spec)]) tree_ok
  have hP : SpecsOk Try.prog (tab tree [(104, widthS.spec), (79, lowM.spec)]) := specs_cons width_ok (specs_cons lowM_ok specs_nil)
  refine sub8S.good (fn := Try.f134) hT hP Try.func134 (by kernel_rfl) rfl fun (a b c n : Int) hp => ?_
  obtain ⟨ha, hb, hc, rfl⟩ : okAB a b c n := hp _ rfl
  repeat' first
    | (refine Go.mk ?_; conv => whnf)
    | refine Need.go ?_ ?_
    | refine NilG.go (fun _ => ?_) (fun _ => ?_)
    | refine Br.dec (fun _ => ?_) (fun _ => ?_)
    | refine Br.go (fun _ => ?_) (fun _ => ?_)
    | refine draw_go hT hP mixed ?_
    | refine round_go hT hP ?_
  all_goals first
    | exact of_decide_eq_true rfl
    | skip
  all_goals
    rename_i h
    dsimp only [gi, Den] at h
    rw [width8, p8, land1e] at h
    simp only [w64e] at h
    refine .mk [] [] _ rfl rfl rfl rfl rfl rfl (tup2_int ?_ ?_)
    · simp only [width8, p8, land1e, shl18, w64e]; rcases hc with rfl | rfl <;> omega
    · unfold borV; rcases hc with rfl | rfl <;> split <;> omega
def okN (n c b : Int) : Prop := bitC c ∧ b = 8
def rol8S : PSpec := ⟨[gi, gi, gi], fun (n, c, b, _) => (some (okN n c b), .tup [I1 ((n * 2 + c) % 256), I1 (n % 256 / 128)], [])⟩
theorem rol8_ok : GoodF Try.prog 135 rol8S.spec := by
  have hT := tab_ok (fs := [(104, widthS.spec), (79, lowM.spec)]) tree_ok
  have hP : SpecsOk Try.prog (tab tree [(104, widthS.spec), (79, lowM.spec)]) := specs_cons width_ok (specs_cons lowM_ok specs_nil)
  refine rol8S.good (fn := Try.f135) hT hP Try.func135 (by kernel_rfl) rfl fun (n c b : Int) hp => ?_
  obtain ⟨hc, rfl⟩ : okN n c b := hp _ rfl
  have hcc : c % 2 = c := by rcases hc with rfl | rfl <;> rfl
  repeat' first
    | (refine Go.mk ?_; conv => whnf)
    | refine Need.go ?_ ?_
    | refine NilG.go (fun _ => ?_) (fun _ => ?_)
    | refine Br.dec (fun _ => ?_) (fun _ => ?_)
    | refine Br.go (fun _ => ?_) (fun _ => ?_)
    | refine draw_go hT hP mixed ?_
    | refine round_go hT hP ?_
  all_goals first
    | exact of_decide_eq_true rfl
    | skip
  have hor := or_low (n % 256) c (by omega) hc
  refine .mk [] [] _ rfl rfl rfl rfl rfl rfl (tup2_int ?_ ?_)
  · simp only [width8, p8, land1e, hcc]
    rw [shl1 _ (by omega), hor]
    rcases hc with rfl | rfl <;> omega
  · simp only [width8, p8, land1e, hcc]
    rw [shl1 _ (by omega), hor, shr8]
    rcases hc with rfl | rfl <;> omega
def ror8S : PSpec := ⟨[gi, gi, gi], fun (n, c, b, _) => (some (okN n c b), .tup [I1 (n % 256 / 2 + 128 * c), I1 (n % 2)], [])⟩
theorem ror8_ok : GoodF Try.prog 136 ror8S.spec := by
  have hT := tab_ok (fs := [(104, widthS.spec), (79, lowM.spec)]) tree_ok
  have hP : SpecsOk Try.prog (tab tree [(104, widthS.spec), (79, lowM.spec)]) := specs_cons width_ok (specs_cons lowM_ok specs_nil)
  refine ror8S.good (fn := Try.f136) hT hP Try.func136 (by kernel_rfl) rfl fun (n c b : Int) hp => ?_
  obtain ⟨hc, rfl⟩ : okN n c b := hp _ rfl
  have hcc : c % 2 = c := by rcases hc with rfl | rfl <;> rfl
  repeat' first
    | (refine Go.mk ?_; conv => whnf)
    | refine Need.go ?_ ?_
    | refine NilG.go (fun _ => ?_) (fun _ => ?_)
    | refine Br.dec (fun _ => ?_) (fun _ => ?_)
    | refine Br.go (fun _ => ?_) (fun _ => ?_)
    | refine draw_go hT hP mixed ?_
    | refine round_go hT hP ?_
  all_goals first
    | exact of_decide_eq_true rfl
    | skip
  have hor := or_high (n % 256) c (by omega) hc
  refine .mk [] [] _ rfl rfl rfl rfl rfl rfl (tup2_int ?_ ?_)
  · simp only [width8, p8, land1e, hcc]
    rw [shl8 _ (by rcases hc with rfl | rfl <;> omega), hor, shr1]
    rcases hc with rfl | rfl <;> omega
  · simp only [width8, p8, hcc, land1e]
    rw [shl8 _ (by rcases hc with rfl | rfl <;> omega), hor]
    rcases hc with rfl | rfl <;> omega
def sgn8S : PSpec := ⟨[gi, gi], fun (n, b, _) => (some ((b : Int) = 8), I (n % 256 - n % 256 / 128 * 256), [])⟩
theorem sgn8_ok : GoodF Try.prog 125 sgn8S.spec := by
  have hT := tab_ok (fs := [(104, widthS.spec), (79, lowM.spec)]) tree_ok
  have hP : SpecsOk Try.prog (tab tree [(104, widthS.spec), (79, lowM.spec)]) := specs_cons width_ok (specs_cons lowM_ok specs_nil)
  refine sgn8S.good (fn := Try.f125) hT hP Try.func125 (by kernel_rfl) rfl fun (n b : Int) hp => ?_
  obtain rfl : b = 8 := hp _ rfl
  repeat' first
    | (refine Go.mk ?_; conv => whnf)
    | refine Need.go ?_ ?_
    | refine NilG.go (fun _ => ?_) (fun _ => ?_)
    | refine Br.dec (fun _ => ?_) (fun _ => ?_)
    | refine Br.go (fun _ => ?_) (fun _ => ?_)
    | refine draw_go hT hP mixed ?_
    | refine round_go hT hP ?_
  all_goals first
    | exact (by decide : 0 ≤ widthF 8 ∧ widthF 8 ≤ 62)
    | exact (by decide : 0 ≤ IntKind.i64.wrap (widthF 8 - 1))
    | exact (by decide : 0 ≤ widthF 8)
    | skip
  all_goals
    rename_i h
    dsimp only [gi, Den] at h
    rw [width8, p8, show IntKind.i64.wrap (8 - 1) = 7 by decide, shr7] at h
    refine .mk [] [] _ rfl rfl rfl rfl rfl rfl (imm_int ?_)
    simp only [width8, p8, shl18, w64e]; omega

-- flags

def flagV (p f : Int) (on : Bool) : Int := cond on (lor .i64 (landNot .i64 p f) f) (landNot .i64 p f)
def flagS : PSpec := ⟨[gR, gi, gB], fun (r, f, on, _) => (some (List.length r = 9), .agg [.run .i64 9 (List.set r 4 (flagV (List.getD r 4 0) f on))], [])⟩
theorem flag_ok : GoodF Try.prog 122 flagS.spec := by
  have hT := tab_ok (fs := []) tree_ok
  have hP : SpecsOk Try.prog (tab tree []) := specs_nil
  refine flagS.good (fn := Try.f122) hT hP Try.func122 (by kernel_rfl) rfl fun (r : List Int) (f : Int) (on : Bool) hp => ?_
  have h9 : r.length = 9 := hp _ rfl
  obtain ⟨r0, r1, r2, r3, r4, r5, r6, r7, r8, rfl⟩ := nine h9
  cases on
  all_goals
    repeat' first
      | (refine Go.mk ?_; conv => whnf)
      | refine Need.go ?_ ?_
      | refine NilG.go (fun _ => ?_) (fun _ => ?_)
      | refine Br.dec (fun _ => ?_) (fun _ => ?_)
      | refine Br.go (fun _ => ?_) (fun _ => ?_)
      | refine draw_go hT hP mixed ?_
      | refine round_go hT hP ?_
  all_goals first
    | exact of_decide_eq_true rfl
    | exact .mk [] [] _ rfl rfl rfl rfl rfl rfl rfl
def nzV (p n : Int) : Int := flagV (flagV p 2 (decide (n = 0))) 128 (decide (n ≥ 128))
def nzS : PSpec := ⟨[gR, gi], fun (r, n, _) => (some (List.length r = 9), .agg [.run .i64 9 (List.set r 4 (nzV (List.getD r 4 0) n))], [])⟩
theorem nz_ok : GoodF Try.prog 119 nzS.spec := by
  have hT := tab_ok (fs := [(122, flagS.spec)]) tree_ok
  have hP : SpecsOk Try.prog (tab tree [(122, flagS.spec)]) := specs_cons flag_ok specs_nil
  refine nzS.good (fn := Try.f119) hT hP Try.func119 (by kernel_rfl) rfl fun (r : List Int) (n : Int) hp => ?_
  have h9 : r.length = 9 := hp _ rfl
  obtain ⟨r0, r1, r2, r3, r4, r5, r6, r7, r8, rfl⟩ := nine h9
  repeat' first
    | (refine Go.mk ?_; conv => whnf)
    | refine Need.go ?_ ?_
    | refine NilG.go (fun _ => ?_) (fun _ => ?_)
    | refine Br.dec (fun _ => ?_) (fun _ => ?_)
    | refine Br.go (fun _ => ?_) (fun _ => ?_)
    | refine draw_go hT hP mixed ?_
    | refine round_go hT hP ?_
  all_goals first
    | exact of_decide_eq_true rfl
    | exact .mk [] [] _ rfl rfl rfl rfl rfl rfl rfl
def carryS : PSpec := ⟨[gR], fun (r, _) => (some (List.length r = 9), I (land .i64 (List.getD r 4 0) 1), [])⟩
theorem carry_ok : GoodF Try.prog 132 carryS.spec := by
  have hT := tab_ok (fs := []) tree_ok
  have hP : SpecsOk Try.prog (tab tree []) := specs_nil
  refine carryS.good (fn := Try.f132) hT hP Try.func132 (by kernel_rfl) rfl fun (r : List Int) hp => ?_
  have h9 : r.length = 9 := hp _ rfl
  repeat' first
    | (refine Go.mk ?_; conv => whnf)
    | refine Need.go ?_ ?_
    | refine NilG.go (fun _ => ?_) (fun _ => ?_)
    | refine Br.dec (fun _ => ?_) (fun _ => ?_)
    | refine Br.go (fun _ => ?_) (fun _ => ?_)
    | refine draw_go hT hP mixed ?_
    | refine round_go hT hP ?_
  all_goals first
    | exact of_decide_eq_true rfl
    | exact .mk [] [] _ rfl rfl rfl rfl rfl rfl rfl
def clampR (n : Int) : Int := max 0 (min n 8)
def aIndexS : PSpec := ⟨[gi], fun (n, _) => (none, I (clampR n), [])⟩
theorem aIndex_ok : GoodF Try.prog 118 aIndexS.spec := by
  have hT := tab_ok (fs := []) tree_ok
  have hP : SpecsOk Try.prog (tab tree []) := specs_nil
  refine aIndexS.good (fn := Try.f118) hT hP Try.func118 (by kernel_rfl) rfl fun (n : Int) hp => ?_
  repeat' first
    | (refine Go.mk ?_; conv => whnf)
    | refine Need.go ?_ ?_
    | refine NilG.go (fun _ => ?_) (fun _ => ?_)
    | refine Br.dec (fun _ => ?_) (fun _ => ?_)
    | refine Br.go (fun _ => ?_) (fun _ => ?_)
    | refine draw_go hT hP mixed ?_
    | refine round_go hT hP ?_
  refine .mk [] [] _ rfl rfl rfl rfl rfl rfl (imm_int ?_)
  rw [imax_eq, imin_eq]; rfl
theorem clamp_in (n : Int) : 0 ≤ clampR n ∧ clampR n < 9 := by unfold clampR; omega
def okT (t : Int) : Prop := 0 ≤ t ∧ t < 9
def resV (p n c : Int) : Int := flagV (nzV p n) 1 (decide (c = 1))
def resultS : PSpec := ⟨[gR, gi, gi, gi], fun (r, t, n, c, _) => (some (List.length r = 9 ∧ okT t), .agg [.run .i64 9 (List.set (List.set r 4 (resV (List.getD r 4 0) n c)) (Int.toNat t) n)], [])⟩
theorem result_ok : GoodF Try.prog 133 resultS.spec := by
  have hT := tab_ok (fs := [(122, flagS.spec), (119, nzS.spec)]) tree_ok
  have hP : SpecsOk Try.prog (tab tree [(122, flagS.spec), (119, nzS.spec)]) := specs_cons flag_ok (specs_cons nz_ok specs_nil)
  refine resultS.good (fn := Try.f133) hT hP Try.func133 (by kernel_rfl) rfl fun (r : List Int) (t n c : Int) hp => ?_
  obtain ⟨h9, ht⟩ : r.length = 9 ∧ okT t := hp _ rfl
  obtain ⟨r0, r1, r2, r3, r4, r5, r6, r7, r8, rfl⟩ := nine h9
  have ht2 : t.toNat < 9 := by have := ht; unfold okT at this; omega
  repeat' first
    | (refine Go.mk ?_; conv => whnf)
    | refine Need.go ?_ ?_
    | refine NilG.go (fun _ => ?_) (fun _ => ?_)
    | refine Br.dec (fun _ => ?_) (fun _ => ?_)
    | refine Br.go (fun _ => ?_) (fun _ => ?_)
    | refine draw_go hT hP mixed ?_
    | refine round_go hT hP ?_
  all_goals first
    | exact of_decide_eq_true rfl
    | exact ht
    | exact ht2
    | exact .mk [] [] _ rfl rfl rfl rfl rfl rfl rfl

end Go.Proofs.Ytanaaecfghmmaaa

/- The steps of a processor: two bytes, shifts, the whole step. -/
namespace Go.Proofs.Ytanaaecfghmmaaa
open Go.Fw
set_option linter.unusedVariables false
set_option linter.unusedSimpArgs false
set_option maxRecDepth 100000

theorem fitB_in (r : List Int) (n : Nat) : 0 ≤ (fitR r).getD n 0 ∧ (fitR r).getD n 0 < 65536 := by
  match n with
  | 0 | 1 | 2 | 3 | 4 | 5 | 6 | 7 | 8 => simp [fitR]; omega
  | n + 9 => simp [fitR]
theorem fit_4 (r : List Int) : 0 ≤ (fitR r).getD 4 0 ∧ (fitR r).getD 4 0 < 256 := by simp [fitR]; omega
theorem okT_nat {t : Int} (h : okT t) : 0 ≤ t ∧ t < ((9 : Nat) : Int) := by unfold okT at h; omega
theorem okT_lt {t : Int} (h : okT t) : t.toNat < 9 := by unfold okT at h; omega
abbrev aV (t : Int) (F : List Int) : Int := F.getD t.toNat 0 % 256
abbrev cV (F : List Int) : Int := F.getD 4 0 % 2
def logV (d a b : Int) : Int := if d = 7 then land .i64 a b else if d = 8 then lor .i64 a b else lxor .i64 a b
def binF (d t f : Int) (F : List Int) : List Int :=
  if d = 4 then (F.set 4 (resV (F.getD 4 0) ((aV t F + aV f F + cV F) % 256) ((aV t F + aV f F + cV F) / 256))).set t.toNat ((aV t F + aV f F + cV F) % 256)
  else if d = 5 then (F.set 4 (resV (F.getD 4 0) ((aV t F - aV f F - (1 - cV F)) % 256) (1 - borV (aV t F - aV f F - (1 - cV F))))).set t.toNat ((aV t F - aV f F - (1 - cV F)) % 256)
  else if d = 6 then F.set 4 (flagV (nzV (F.getD 4 0) ((aV t F - aV f F) % 256)) 1 (decide (borV (aV t F - aV f F) = 0)))
  else (F.set 4 (nzV (F.getD 4 0) (logV d (aV t F) (aV f F)))).set t.toNat (logV d (aV t F) (aV f F))
theorem pow8 : (2 : Int) ^ 8 = 256 := by decide
theorem wbor (x : Int) : IntKind.i64.wrap (1 - borV x) = 1 - borV x := by unfold borV; split <;> decide
theorem i8 : Int.toNat 8 = 8 := rfl
def okBin (d t f : Int) (r : List Int) : Prop := okT t ∧ okT f ∧ ∃ q, r = fitR q
theorem set_set4 (F : List Int) (x y : Int) : (F.set 4 x).set 4 y = F.set 4 y := by simp
theorem get_set4 {F : List Int} (h : F.length = 9) (x : Int) : (F.set 4 x).getD 4 0 = x := by
  rw [List.getD_eq_getElem?_getD, List.getElem?_set]; simp [h]
def binS : PSpec := ⟨[gi, gi, gi, gR], fun (d, t, f, r, _) => (some (okBin d t f r), .agg [.run .i64 9 (binF d t f r)], [])⟩
theorem bin_ok : GoodF Try.prog 120 binS.spec := by
  have hT := tab_ok (fs := [(122, flagS.spec), (119, nzS.spec), (132, carryS.spec), (133, resultS.spec), (131, add8S.spec), (134, sub8S.spec), (79, lowM.spec)]) tree_ok
  have hP : SpecsOk Try.prog (tab tree [(122, flagS.spec), (119, nzS.spec), (132, carryS.spec), (133, resultS.spec), (131, add8S.spec), (134, sub8S.spec), (79, lowM.spec)]) := specs_cons flag_ok (specs_cons nz_ok (specs_cons carry_ok (specs_cons result_ok (specs_cons add8_ok (specs_cons sub8_ok (specs_cons lowM_ok specs_nil))))))
  refine binS.good (fn := Try.f120) hT hP Try.func120 (by kernel_rfl) rfl fun (d t f : Int) (r : List Int) hp => ?_
  obtain ⟨ht, hf, q, rfl⟩ : okBin d t f r := hp _ rfl
  have ht1 := okT_nat ht
  have hf1 := okT_nat hf
  have ht2 := okT_lt ht
  have hf2 := okT_lt hf
  have hl : (fitR q).length = 9 := rfl
  have hc := fit_4 q
  have hlc : land .i64 ((fitR q).getD 4 0) 1 = (fitR q).getD 4 0 % 2 := land1e _
  have hw1 : IntKind.i64.wrap (1 - (fitR q).getD 4 0 % 2) = 1 - (fitR q).getD 4 0 % 2 := w64 (by omega) (by omega)
  clear hp
  repeat' first
    | (refine Go.mk ?_; conv => whnf)
    | refine Need.go ?_ ?_
    | refine NilG.go (fun _ => ?_) (fun _ => ?_)
    | refine Br.dec (fun _ => ?_) (fun _ => ?_)
    | refine Br.go (fun _ => ?_) (fun _ => ?_)
    | refine draw_go hT hP mixed ?_
    | refine round_go hT hP ?_
  all_goals first
    | exact of_decide_eq_true rfl
    | exact ht1
    | exact hf1
    | exact ht2
    | exact hf2
    | exact ⟨rfl, ht⟩
    | exact rfl
    | skip
  all_goals (try refine .mk [] [] _ rfl rfl rfl rfl rfl rfl (agg9 ?_))
  all_goals clear hT hP
  all_goals (simp only [i8, pow8, hlc, hw1, wbor])
  all_goals (try (unfold okAB bitC; omega))
  all_goals (clear ht1 hf1 ht2 hf2 hlc hw1)
  all_goals (try simp_all [binF, logV, aV, cV])
  all_goals (try rfl)

def shF (d t : Int) (F : List Int) : List Int :=
  if d = 12 then (F.set 4 (resV (F.getD 4 0) ((F.getD t.toNat 0 * 2 + 0) % 256) (F.getD t.toNat 0 % 256 / 128))).set t.toNat ((F.getD t.toNat 0 * 2 + 0) % 256)
  else if d = 14 then (F.set 4 (resV (F.getD 4 0) ((F.getD t.toNat 0 * 2 + cV F) % 256) (F.getD t.toNat 0 % 256 / 128))).set t.toNat ((F.getD t.toNat 0 * 2 + cV F) % 256)
  else if d = 13 then (F.set 4 (resV (F.getD 4 0) (F.getD t.toNat 0 % 256 / 2 + 128 * 0) (F.getD t.toNat 0 % 2))).set t.toNat (F.getD t.toNat 0 % 256 / 2 + 128 * 0)
  else (F.set 4 (resV (F.getD 4 0) (F.getD t.toNat 0 % 256 / 2 + 128 * cV F) (F.getD t.toNat 0 % 2))).set t.toNat (F.getD t.toNat 0 % 256 / 2 + 128 * cV F)
def okSh (t : Int) (r : List Int) : Prop := okT t ∧ ∃ q, r = fitR q
def shS : PSpec := ⟨[gi, gi, gR], fun (d, t, r, _) => (some (okSh t r), .agg [.run .i64 9 (shF d t r)], [])⟩
theorem sh_ok : GoodF Try.prog 121 shS.spec := by
  have hT := tab_ok (fs := [(132, carryS.spec), (133, resultS.spec), (135, rol8S.spec), (136, ror8S.spec)]) tree_ok
  have hP : SpecsOk Try.prog (tab tree [(132, carryS.spec), (133, resultS.spec), (135, rol8S.spec), (136, ror8S.spec)]) := specs_cons carry_ok (specs_cons result_ok (specs_cons rol8_ok (specs_cons ror8_ok specs_nil)))
  refine shS.good (fn := Try.f121) hT hP Try.func121 (by kernel_rfl) rfl fun (d t : Int) (r : List Int) hp => ?_
  obtain ⟨ht, q, rfl⟩ : okSh t r := hp _ rfl
  have ht1 := okT_nat ht
  have ht2 := okT_lt ht
  have hl : (fitR q).length = 9 := rfl
  have hc := fit_4 q
  have hlc : land .i64 ((fitR q).getD 4 0) 1 = (fitR q).getD 4 0 % 2 := land1e _
  clear hp
  repeat' first
    | (refine Go.mk ?_; conv => whnf)
    | refine Need.go ?_ ?_
    | refine NilG.go (fun _ => ?_) (fun _ => ?_)
    | refine Br.dec (fun _ => ?_) (fun _ => ?_)
    | refine Br.go (fun _ => ?_) (fun _ => ?_)
    | refine draw_go hT hP mixed ?_
    | refine round_go hT hP ?_
  all_goals first
    | exact of_decide_eq_true rfl
    | exact ht1
    | exact ht2
    | exact ⟨rfl, ht⟩
    | exact rfl
    | exact ⟨.inl rfl, rfl⟩
    | skip
  all_goals (try refine .mk [] [] _ rfl rfl rfl rfl rfl rfl (agg9 ?_))
  all_goals clear hT hP
  all_goals (try rw [hlc])
  all_goals (try (unfold okN bitC; omega))
  all_goals (clear ht1 ht2 hlc)
  all_goals (try simp_all [shF, cV])
  all_goals trace_state

end Go.Proofs.Ytanaaecfghmmaaa

/- The steps of a processor: the whole step. -/
namespace Go.Proofs.Ytanaaecfghmmaaa
open Go.Fw
set_option linter.unusedVariables false
set_option linter.unusedSimpArgs false
set_option maxRecDepth 100000

abbrev gS : Sig := ⟨true, StepT⟩
theorem w_0 : IntKind.i64.wrap 0 = 0 := by decide
theorem w_1 : IntKind.i64.wrap 1 = 1 := by decide
theorem w_2 : IntKind.i64.wrap 2 = 2 := by decide
theorem w_8 : IntKind.i64.wrap 8 = 8 := by decide
def incN (d t : Int) (F : List Int) : Int := (F.getD t.toNat 0 + 1 - 2 * (d - 10)) % cond (wideB t) 65536 256
def incF (d t : Int) (F : List Int) : List Int := if wideB t = true then F.set t.toNat (incN d t F) else (F.set 4 (nzV (F.getD 4 0) (incN d t F))).set t.toNat (incN d t F)
def stepX (d n t f : Int) (F : List Int) : List Int :=
  if d = 1 then F.set t.toNat (F.getD f.toNat 0) else if d = 2 then F.set t.toNat n else if d = 3 then F.set 4 (nzV (F.getD 4 0) (F.getD t.toNat 0 % 256))
  else if 4 ≤ d ∧ d ≤ 9 then binF d t f F else if d = 10 ∨ d = 11 then incF d t F else if 12 ≤ d ∧ d ≤ 15 then shF d t F
  else if d = 16 then F.set 4 (flagV (F.getD 4 0) (n % 256) true) else if d = 17 then F.set 4 (flagV (F.getD 4 0) (n % 256) false)
  else if d = 18 then F.set t.toNat (256 * (F.getD t.toNat 0 / 256) + F.getD f.toNat 0 % 256) else if d = 19 then F.set t.toNat (256 * (256 * (F.getD t.toNat 0 / 65536) + F.getD f.toNat 0 % 256) + F.getD t.toNat 0 % 256)
  else if d = 20 then F.set t.toNat (F.getD f.toNat 0 % 256) else if d = 21 then F.set t.toNat (F.getD f.toNat 0 / 256 % 256)
  else if d = 22 then F.set t.toNat (F.getD t.toNat 0 + F.getD f.toNat 0 % 256) else if d = 23 then F.set t.toNat (F.getD t.toNat 0 + (F.getD f.toNat 0 % 256 - F.getD f.toNat 0 % 256 / 128 * 256)) else F
theorem binF_len (d t f : Int) (F : List Int) : (binF d t f F).length = F.length := by unfold binF; (repeat' split) <;> simp
theorem shF_len (d t : Int) (F : List Int) : (shF d t F).length = F.length := by unfold shF; (repeat' split) <;> simp
theorem incF_len (d t : Int) (F : List Int) : (incF d t F).length = F.length := by unfold incF; (repeat' split) <;> simp
def doR (s : Stp) (r : List Int) : List Int := if s.1 = 24 then fitR r else fitR (stepX s.1 s.2.2.2 (clampR s.2.1) (clampR s.2.2.1) (fitR r))
def doE (s : Stp) (r : List Int) : Bool := decide (s.1 = 24) && ((land .i64 ((fitR r).getD 4 0) (s.2.2.2 % 256) != 0) != decide (s.2.2.1 = 1))
theorem tupRB {l l' : List Int} {b b' : Bool} (h : l = l') (h2 : b = b') : AV.tup [.agg [.run .i64 9 l], .c (bv b)] = AV.tup [.agg [.run .i64 9 l'], .c (bv b')] := by rw [h, h2]
def doS : PSpec := ⟨[gS, gR], fun (s, r, _) => (some (List.length r = 9), .tup [.agg [.run .i64 9 (doR s r)], .c (bv (doE s r))], [])⟩
theorem mb {t : Int} : (2 : Int) ^ (Int.toNat (cond (wideB t) 16 8)) = cond (wideB t) 65536 256 := by cases wideB t <;> decide
theorem bits_in (t : Int) : 0 ≤ cond (wideB t) (16 : Int) 8 ∧ cond (wideB t) (16 : Int) 8 ≤ 62 := by cases wideB t <;> decide
set_option maxHeartbeats 8000000 in
theorem do_ok : GoodF Try.prog 106 doS.spec := by
  have hT := tab_ok (fs := [(118, aIndexS.spec), (100, fitS.spec), (122, flagS.spec), (119, nzS.spec), (116, aBitsS.spec), (25, wideS.spec), (120, binS.spec), (121, shS.spec), (79, lowM.spec), (124, getM.spec), (123, putM.spec), (125, sgn8S.spec)]) tree_ok
  have hP : SpecsOk Try.prog (tab tree [(118, aIndexS.spec), (100, fitS.spec), (122, flagS.spec), (119, nzS.spec), (116, aBitsS.spec), (25, wideS.spec), (120, binS.spec), (121, shS.spec), (79, lowM.spec), (124, getM.spec), (123, putM.spec), (125, sgn8S.spec)]) := specs_cons aIndex_ok (specs_cons aFit_ok (specs_cons flag_ok (specs_cons nz_ok (specs_cons aBits_ok (specs_cons tWide_ok (specs_cons bin_ok (specs_cons sh_ok (specs_cons lowM_ok (specs_cons getM_ok (specs_cons putM_ok (specs_cons sgn8_ok specs_nil)))))))))))
  refine doS.good (fn := Try.f106) hT hP Try.func106 (by kernel_rfl) rfl fun (s : Stp) (r : List Int) hp => ?_
  obtain ⟨d, to, fr, n⟩ := s
  have h9 : r.length = 9 := hp _ rfl
  have ht : okT (clampR to) := clamp_in to
  have hf : okT (clampR fr) := clamp_in fr
  have ht1 := okT_nat ht
  have hf1 := okT_nat hf
  have ht2 := okT_lt ht
  have hf2 := okT_lt hf
  have hl : (fitR r).length = 9 := rfl
  have hb := bits_in (clampR to)
  clear hp
  repeat' first
    | (refine Go.mk ?_; conv => whnf)
    | refine Need.go ?_ ?_
    | refine NilG.go (fun _ => ?_) (fun _ => ?_)
    | refine Br.dec (fun _ => ?_) (fun _ => ?_)
    | refine Br.go (fun _ => ?_) (fun _ => ?_)
    | refine draw_go hT hP mixed ?_
    | refine round_go hT hP ?_
  all_goals first
    | exact of_decide_eq_true rfl
    | exact h9
    | exact ht1
    | exact hf1
    | exact ht2
    | exact hf2
    | exact hb
    | exact ⟨ht, hf, _, rfl⟩
    | exact ⟨ht, _, rfl⟩
    | exact ⟨rfl, ht⟩
    | exact rfl
    | skip
  all_goals (try refine .mk [] [] _ rfl rfl rfl rfl rfl rfl (tupRB ?_ ?_))
  all_goals clear hT hP
  all_goals (dsimp only at *)
  all_goals (try (simp only [List.length_set, binF_len, shF_len, hl]; done))
  all_goals (try (rename_i h; simp [doE, h]; done))
  all_goals
    have bA := fitB_in r (clampR to).toNat
    have bB := fitB_in r (clampR fr).toNat
    clear ht1 hf1 ht2 hf2 hb
  all_goals (try simp only [doR, stepX, incF, incN, doE])
  all_goals
    generalize (fitR r).getD (clampR to).toNat 0 = A at *
    generalize (fitR r).getD (clampR fr).toNat 0 = B at *
  all_goals
    have hA1 : IntKind.i64.wrap (A + 1) = A + 1 := w64 (by omega) (by omega)
    have hA2 : IntKind.i64.wrap (A + 1 - 2) = A + 1 - 2 := w64 (by omega) (by omega)
    have hA3 : IntKind.i64.wrap (A + B % 256) = A + B % 256 := w64 (by omega) (by omega)
    have hA4 : IntKind.i64.wrap (A + (B % 256 - B % 256 / 128 * 256)) = A + (B % 256 - B % 256 / 128 * 256) := w64 (by omega) (by omega)
    have hA5 : A < 4611686018427387904 := by omega
    have hA6 : B < 4611686018427387904 := by omega
  all_goals (try simp_all [w_0, w_1, w_2, w_8])
  all_goals (try omega)
  · show ((land .i64 (fitR r)[4] (n % 256) != 0) == decide (fr = 1)) = !((land .i64 (fitR r)[4] (n % 256) != 0) != decide (fr = 1))
    cases (land .i64 (fitR r)[4] (n % 256) != 0) <;> cases decide (fr = 1) <;> rfl
  · rw [if_neg (by omega), if_neg (by omega)]

end Go.Proofs.Ytanaaecfghmmaaa

/- The steps of a processor in the reference: flags, sums, shifts. -/
namespace Go.Proofs.Ytanaaecfghmmaaa
open Go.Fw
set_option linter.unusedVariables false
set_option linter.unusedSimpArgs false
set_option maxRecDepth 100000

def limF (n lo hi : Int) : Int := if n < lo then lo else if n > hi then hi else n
def lmtS : PSpec := ⟨[gi, gi, gi], fun (n, lo, hi, _) => (none, I (limF n lo hi), [])⟩
theorem lmt_ok : GoodF Try.prog 96 lmtS.spec := by
  have hT := tab_ok (fs := []) tree_ok
  have hP : SpecsOk Try.prog (tab tree []) := specs_nil
  refine lmtS.good (fn := Try.f96) hT hP Try.func96 (by kernel_rfl) rfl fun (n lo hi : Int) hp => ?_
  repeat' first
    | (refine Go.mk ?_; conv => whnf)
    | refine Need.go ?_ ?_
    | refine NilG.go (fun _ => ?_) (fun _ => ?_)
    | refine Br.dec (fun _ => ?_) (fun _ => ?_)
    | refine Br.go (fun _ => ?_) (fun _ => ?_)
    | refine draw_go hT hP mixed ?_
    | refine round_go hT hP ?_
  all_goals
    refine .mk [] [] _ rfl rfl rfl rfl rfl rfl (imm_int ?_)
    show _ = limF n lo hi
    dsimp only [gi, Den] at *
    unfold limF
    split <;> (try split) <;> omega
theorem lim_clamp (n : Int) : limF n 0 8 = clampR n := by unfold limF clampR; split <;> (try split) <;> omega

def rfV (p n c : Int) : Int :=
  let q := landNot .i64 p 130
  let q := if n = 0 then lor .i64 q 2 else q
  let q := lor .i64 q (land .i64 n 128)
  if c ≥ 0 then lor .i64 (landNot .i64 q 1) c else q
def rflagsS : PSpec := ⟨[gi, gi, gi], fun (p, n, c, _) => (none, I (rfV p n c), [])⟩
theorem rflags_ok : GoodF Try.prog 97 rflagsS.spec := by
  have hT := tab_ok (fs := []) tree_ok
  have hP : SpecsOk Try.prog (tab tree []) := specs_nil
  refine rflagsS.good (fn := Try.f97) hT hP Try.func97 (by kernel_rfl) rfl fun (p n c : Int) hp => ?_
  repeat' first
    | (refine Go.mk ?_; conv => whnf)
    | refine Need.go ?_ ?_
    | refine NilG.go (fun _ => ?_) (fun _ => ?_)
    | refine Br.dec (fun _ => ?_) (fun _ => ?_)
    | refine Br.go (fun _ => ?_) (fun _ => ?_)
    | refine draw_go hT hP mixed ?_
    | refine round_go hT hP ?_
  all_goals
    refine .mk [] [] _ rfl rfl rfl rfl rfl rfl (imm_int ?_)
    show _ = rfV p n c
    simp_all [rfV] <;> (intro h; exfalso; omega)
theorem land128 : ∀ n : Int, 0 ≤ n → n < 256 → land .i64 n 128 = if n ≥ 128 then 128 else 0 := fin256 (fun n => land .i64 n 128 = if n ≥ 128 then 128 else 0) (by decide +kernel)
def rfB (p : Int) (z m : Bool) : Int := lor .i64 (cond z (lor .i64 (landNot .i64 p 130) 2) (landNot .i64 p 130)) (cond m 128 0)
theorem rfB_eq (z m : Bool) : ∀ p : Int, 0 ≤ p → p < 256 → rfB p z m = flagV (flagV p 2 z) 128 m := by
  cases z <;> cases m
  · exact fin256 (fun p => rfB p false false = flagV (flagV p 2 false) 128 false) (by decide +kernel)
  · exact fin256 (fun p => rfB p false true = flagV (flagV p 2 false) 128 true) (by decide +kernel)
  · exact fin256 (fun p => rfB p true false = flagV (flagV p 2 true) 128 false) (by decide +kernel)
  · exact fin256 (fun p => rfB p true true = flagV (flagV p 2 true) 128 true) (by decide +kernel)
theorem rf_b {p n : Int} (hn : 0 ≤ n ∧ n < 256) : lor .i64 (if n = 0 then lor .i64 (landNot .i64 p 130) 2 else landNot .i64 p 130) (land .i64 n 128) = rfB p (decide (n = 0)) (decide (n ≥ 128)) := by
  rw [land128 n hn.1 hn.2]
  unfold rfB
  by_cases h1 : n = 0 <;> by_cases h2 : n ≥ 128 <;> simp [h1, h2]
theorem rf_nz {p n : Int} (hp : 0 ≤ p ∧ p < 256) (hn : 0 ≤ n ∧ n < 256) : rfV p n (-1) = nzV p n := by
  unfold rfV nzV
  simp only [rf_b hn]
  rw [if_neg (by omega), rfB_eq _ _ p hp.1 hp.2]
theorem or_0 (x : Int) : lor .i64 (landNot .i64 x 1) 0 = landNot .i64 x 1 := by
  show IntKind.i64.wrap (((BitVec.ofInt 64 (landNot .i64 x 1) ||| BitVec.ofInt 64 0).toNat : Nat) : Int) = _
  have : BitVec.ofInt 64 (landNot .i64 x 1) ||| BitVec.ofInt 64 0 = BitVec.ofInt 64 (landNot .i64 x 1) := by simp
  rw [this, ofInt_toNat]
  have hb : landNot .i64 x 1 = IntKind.i64.wrap (((BitVec.ofInt 64 x &&& ~~~(BitVec.ofInt 64 1)).toNat : Nat) : Int) := rfl
  generalize ((BitVec.ofInt 64 x &&& ~~~(BitVec.ofInt 64 1)).toNat : Nat) = m at hb
  rw [hb, w64e, w64e]
  unfold u64
  omega
theorem rf_res {p n c : Int} (hp : 0 ≤ p ∧ p < 256) (hn : 0 ≤ n ∧ n < 256) (hc : c = 0 ∨ c = 1) : rfV p n c = resV p n c := by
  unfold rfV resV
  simp only [rf_b hn]
  rw [rfB_eq _ _ p hp.1 hp.2]
  rcases hc with rfl | rfl
  · rw [if_pos (by omega)]
    show lor .i64 (landNot .i64 (nzV p n) 1) 0 = flagV (nzV p n) 1 (decide ((0 : Int) = 1))
    rw [or_0]; rfl
  · rw [if_pos (by omega)]; rfl

theorem mapOne (p : Prop) [Decidable p] : getOr (mapGet (kt := .bool) (vt := .int .i64) (mapPut (kt := .bool) (vt := .int .i64) [] true (1 : Int)) (decide p)) (dflt (.int .i64)) = if p then (1 : Int) else 0 := by
  by_cases h : p
  · rw [decide_eq_true h, if_pos h]; rfl
  · rw [decide_eq_false h, if_neg h]; rfl
def okSum (d a b c : Int) : Prop := (0 ≤ a ∧ a < 256) ∧ (0 ≤ b ∧ b < 256) ∧ bitC c
def sumN (d a b c : Int) : Int := if d = 4 then (a + b + c) % 256 else if d = 5 then (a - b - (1 - c)) % 256 else (a - b) % 256
def sumC (d a b c : Int) : Int := if d = 4 then (a + b + c) / 256 else if d = 5 then 1 - borV (a - b - (1 - c)) else 1 - borV (a - b)
def sumsS : PSpec := ⟨[gi, gi, gi, gi], fun (d, a, b, c, _) => (some (okSum d a b c), .tup [I1 (sumN d a b c), I1 (sumC d a b c)], [])⟩
theorem sums_ok : GoodF Try.prog 98 sumsS.spec := by
  have hT := tab_ok (fs := [(34, modS.spec)]) tree_ok
  have hP : SpecsOk Try.prog (tab tree [(34, modS.spec)]) := specs_cons mod_ok specs_nil
  refine sumsS.good (fn := Try.f98) hT hP Try.func98 (by kernel_rfl) rfl fun (d a b c : Int) hp => ?_
  obtain ⟨ha, hb, hc⟩ : okSum d a b c := hp _ rfl
  repeat' first
    | (refine Go.mk ?_; conv => whnf)
    | refine Need.go ?_ ?_
    | refine NilG.go (fun _ => ?_) (fun _ => ?_)
    | refine Br.dec (fun _ => ?_) (fun _ => ?_)
    | refine Br.go (fun _ => ?_) (fun _ => ?_)
    | refine draw_go hT hP mixed ?_
    | refine round_go hT hP ?_
  all_goals first
    | exact of_decide_eq_true rfl
    | skip
  all_goals (try refine .mk [] [] _ rfl rfl rfl rfl rfl rfl (tup2_int ?_ ?_))
  all_goals
    unfold bitC at hc
    dsimp only [gi, Den] at *
    clear hp hT hP
  · rename_i h; simp only [sumN, if_pos h, w64e, tmodE]; split <;> omega
  · rename_i h; simp only [sumC, if_pos h, w64e, tdivE]; split <;> omega
  · rename_i h1 h2; simp only [sumN, if_neg h1, if_pos h2, w64e]; omega
  · rename_i h1 h2
    have e : IntKind.i64.wrap (IntKind.i64.wrap (a - b) - IntKind.i64.wrap (1 - c)) = a - b - (1 - c) := by simp only [w64e]; omega
    simp only [sumC, if_neg h1, if_pos h2]
    rw [e, mapOne]
    unfold borV
    split <;> omega
  · rename_i h1 h2; simp only [sumN, if_neg h1, if_neg h2, w64e]; omega
  · rename_i h1 h2
    simp only [sumC, if_neg h1, if_neg h2]
    rw [mapOne]
    unfold borV
    split <;> omega

def tnN (d a c : Int) : Int := if d = 12 then a * 2 % 256 else if d = 14 then a * 2 % 256 + c else if d = 13 then a / 2 else a / 2 + 128 * c
def tnC (d a : Int) : Int := if d = 12 ∨ d = 14 then a / 128 else a % 2
def okTn (a c : Int) : Prop := (0 ≤ a ∧ a < 256) ∧ bitC c
def turnedS : PSpec := ⟨[gi, gi, gi], fun (d, a, c, _) => (some (okTn a c), .tup [I1 (tnN d a c), I1 (tnC d a)], [])⟩
theorem turned_ok : GoodF Try.prog 99 turnedS.spec := by
  have hT := tab_ok (fs := []) tree_ok
  have hP : SpecsOk Try.prog (tab tree []) := specs_nil
  refine turnedS.good (fn := Try.f99) hT hP Try.func99 (by kernel_rfl) rfl fun (d a c : Int) hp => ?_
  obtain ⟨ha, hc⟩ : okTn a c := hp _ rfl
  repeat' first
    | (refine Go.mk ?_; conv => whnf)
    | refine Need.go ?_ ?_
    | refine NilG.go (fun _ => ?_) (fun _ => ?_)
    | refine Br.dec (fun _ => ?_) (fun _ => ?_)
    | refine Br.go (fun _ => ?_) (fun _ => ?_)
    | refine draw_go hT hP mixed ?_
    | refine round_go hT hP ?_
  all_goals first
    | exact of_decide_eq_true rfl
    | skip
  all_goals (try refine .mk [] [] _ rfl rfl rfl rfl rfl rfl (tup2_int ?_ ?_))
  all_goals
    unfold bitC at hc
    dsimp only [gi, Den] at *
    clear hp hT hP
  all_goals
    simp only [tnN, tnC, tmodE, tdivE]
    simp_all [w64e]
  all_goals omega

end Go.Proofs.Ytanaaecfghmmaaa

/- The steps of a processor in the reference: the whole step. -/
namespace Go.Proofs.Ytanaaecfghmmaaa
open Go.Fw
set_option linter.unusedVariables false
set_option linter.unusedSimpArgs false
set_option maxRecDepth 100000

theorem tmod_fitB (r : List Int) (n : Nat) (k : Int) : ((fitR r).getD n 0).tmod k = (fitR r).getD n 0 % k := Int.tmod_eq_emod_of_nonneg (fitB_in r n).1
theorem i4B : Int.toNat 4 = 4 := rfl
theorem set4_self (r : List Int) : (fitR r).set 4 ((fitR r).getD 4 0) = fitR r := rfl
theorem sf3 {P A : Int} (h : 0 ≤ P ∧ P < 256) : rfV P (A % 256) (-1) = nzV P (A % 256) := rf_nz h (by omega)
theorem sf4 {P A B : Int} (h : 0 ≤ P ∧ P < 256) : rfV P ((A % 256 + B % 256 + P % 2) % 256) ((A % 256 + B % 256 + P % 2) / 256) = resV P ((A % 256 + B % 256 + P % 2) % 256) ((A % 256 + B % 256 + P % 2) / 256) := rf_res h (by omega) (by omega)
theorem borV_bit (x : Int) : (1 - borV x = 0 ∨ 1 - borV x = 1) := by unfold borV; split <;> omega
theorem sf5 {P A B x : Int} (h : 0 ≤ P ∧ P < 256) : rfV P ((A - B - (1 - P % 2)) % 256) (1 - borV x) = resV P ((A - B - (1 - P % 2)) % 256) (1 - borV x) := rf_res h (by omega) (borV_bit x)
theorem sf6 {P A B x : Int} (h : 0 ≤ P ∧ P < 256) : rfV P ((A - B) % 256) (1 - borV x) = flagV (nzV P ((A - B) % 256)) 1 (decide (borV x = 0)) := by
  rw [rf_res h (by omega) (borV_bit x), resV]
  congr 1
  unfold borV
  split <;> decide
theorem bytesNat (x : Int) (h : 0 ≤ x ∧ x < 256) : u64 x < 256 := by unfold u64; omega
theorem land_byte {A B : Int} : 0 ≤ land .i64 (A % 256) (B % 256) ∧ land .i64 (A % 256) (B % 256) < 256 := by
  have h := bytesNat (A % 256) (by omega)
  have := Nat.and_le_left (n := u64 (A % 256)) (m := u64 (B % 256))
  rw [land_nat _ _ (by omega)]
  omega
theorem lor_byte {A B : Int} : 0 ≤ lor .i64 (A % 256) (B % 256) ∧ lor .i64 (A % 256) (B % 256) < 256 := by
  have h1 := bytesNat (A % 256) (by omega)
  have h2 := bytesNat (B % 256) (by omega)
  have := Nat.or_lt_two_pow (n := 8) h1 h2
  rw [lor_nat _ _ (by omega)]
  omega
theorem lxor_byte {A B : Int} : 0 ≤ lxor .i64 (A % 256) (B % 256) ∧ lxor .i64 (A % 256) (B % 256) < 256 := by
  have h1 := bytesNat (A % 256) (by omega)
  have h2 := bytesNat (B % 256) (by omega)
  have h3 := Nat.xor_lt_two_pow (n := 8) h1 h2
  have e : lxor .i64 (A % 256) (B % 256) = ((u64 (A % 256) ^^^ u64 (B % 256) : Nat) : Int) := by
    show IntKind.i64.wrap (((BitVec.ofInt 64 (A % 256) ^^^ BitVec.ofInt 64 (B % 256)).toNat : Nat) : Int) = _
    rw [BitVec.toNat_xor, ofInt_toNat, ofInt_toNat]
    exact w64 (by omega) (by omega)
  rw [e]
  omega
theorem sfl {P A B : Int} (h : 0 ≤ P ∧ P < 256) : rfV P (land .i64 (A % 256) (B % 256)) (-1) = nzV P (land .i64 (A % 256) (B % 256)) := rf_nz h land_byte
theorem sfo {P A B : Int} (h : 0 ≤ P ∧ P < 256) : rfV P (lor .i64 (A % 256) (B % 256)) (-1) = nzV P (lor .i64 (A % 256) (B % 256)) := rf_nz h lor_byte
theorem sfx {P A B : Int} (h : 0 ≤ P ∧ P < 256) : rfV P (lxor .i64 (A % 256) (B % 256)) (-1) = nzV P (lxor .i64 (A % 256) (B % 256)) := rf_nz h lxor_byte
theorem sfs {P A : Int} (h : 0 ≤ P ∧ P < 256) : rfV P (A % 256 * 2 % 256) (A % 256 / 128) = resV P (A % 256 * 2 % 256) (A % 256 / 128) := rf_res h (by omega) (by omega)
theorem sfr {P A : Int} (h : 0 ≤ P ∧ P < 256) : rfV P (A % 256 * 2 % 256 + P % 2) (A % 256 / 128) = resV P (A % 256 * 2 % 256 + P % 2) (A % 256 / 128) := rf_res h (by omega) (by omega)
theorem sft {P A : Int} (h : 0 ≤ P ∧ P < 256) : rfV P (A % 256 / 2) (A % 256 % 2) = resV P (A % 256 / 2) (A % 256 % 2) := rf_res h (by omega) (by omega)
theorem sfu {P A : Int} (h : 0 ≤ P ∧ P < 256) : rfV P (A % 256 / 2 + 128 * (P % 2)) (A % 256 % 2) = resV P (A % 256 / 2 + 128 * (P % 2)) (A % 256 % 2) := rf_res h (by omega) (by omega)
theorem sft' {P A : Int} (h : 0 ≤ P ∧ P < 256) : rfV P (A % 256 / 2) (A % 2) = resV P (A % 256 / 2) (A % 2) := rf_res h (by omega) (by omega)
theorem sfu' {P A : Int} (h : 0 ≤ P ∧ P < 256) : rfV P (A % 256 / 2 + 128 * (P % 2)) (A % 2) = resV P (A % 256 / 2 + 128 * (P % 2)) (A % 2) := rf_res h (by omega) (by omega)
theorem gd30 {α} (a b c d : α) : [a, b, c].getD 0 d = a := rfl
theorem gd31 {α} (a b c d : α) : [a, b, c].getD 1 d = b := rfl
theorem gd32 {α} (a b c d : α) : [a, b, c].getD 2 d = c := rfl
theorem gd20 {α} (a b d : α) : [a, b].getD 0 d = a := rfl
theorem gd21 {α} (a b d : α) : [a, b].getD 1 d = b := rfl
theorem fit_fit (r : List Int) : fitR (fitR r) = fitR r := by simp [fitR]
theorem fit_set4 {r : List Int} {v : Int} (h : 0 ≤ v ∧ v < 256) : fitR ((fitR r).set 4 v) = (fitR r).set 4 v := by
  simp [fitR]; omega
theorem set_self (l : List Int) (n : Nat) : l.set n (l.getD n 0) = l := by
  apply List.ext_getElem?
  intro i
  rw [List.getElem?_set, List.getD_eq_getElem?_getD]
  by_cases h : n = i
  · subst h; by_cases h2 : n < l.length <;> simp [h2]
  · simp [h]
theorem set4_set (l : List Int) (n : Nat) (x : Int) (h : n ≠ 4) : (l.set 4 x).set n (l.getD n 0) = l.set 4 x := by
  rw [List.set_comm _ _ (Ne.symm h), set_self]
theorem getset_mod {F : List Int} {t i : Nat} {X Y m : Int} (h : X % m = Y % m) : (F.set t X).getD i 0 % m = (F.set t Y).getD i 0 % m := by
  rw [List.getD_eq_getElem?_getD, List.getD_eq_getElem?_getD, List.getElem?_set, List.getElem?_set]
  by_cases h1 : t = i
  · rw [if_pos h1, if_pos h1]
    by_cases h2 : t < F.length
    · rw [if_pos h2, if_pos h2]; exact h
    · rw [if_neg h2, if_neg h2]
  · rw [if_neg h1, if_neg h1]
theorem getset_ne {F : List Int} {t i : Nat} {X Y : Int} (h : t ≠ i) : (F.set t X).getD i 0 = (F.set t Y).getD i 0 := by
  rw [List.getD_eq_getElem?_getD, List.getD_eq_getElem?_getD, List.getElem?_set, List.getElem?_set, if_neg h, if_neg h]
theorem fit_setE {F : List Int} {t : Nat} {X Y : Int} (h : X % 65536 = Y % 65536) : fitR (F.set t X) = fitR (F.set t Y) := by
  have h2 : X % 256 = Y % 256 := by omega
  simp only [fitR, getset_mod (F := F) (t := t) h, getset_mod (F := F) (t := t) h2]
theorem fit_setB {F : List Int} {t : Int} {X Y : Int} (ht : okT t) (hw : wideB t = false) (h : X % 256 = Y % 256) : fitR (F.set t.toNat X) = fitR (F.set t.toNat Y) := by
  have h7 : t.toNat ≠ 7 ∧ t.toNat ≠ 8 := by
    unfold wideB at hw; unfold okT at ht
    have := of_decide_eq_false hw
    omega
  simp only [fitR, getset_mod (F := F) (t := t.toNat) h, getset_ne (F := F) (X := X) (Y := Y) h7.1, getset_ne (F := F) (X := X) (Y := Y) h7.2]
theorem landNot_byte {x y : Int} (hx : 0 ≤ x ∧ x < 256) : 0 ≤ landNot .i64 x y ∧ landNot .i64 x y < 256 := by
  have h := bytesNat x hx
  have h2 := Nat.and_le_left (n := u64 x) (m := u64 y)
  have h3 := Nat.xor_lt_two_pow (n := 8) h (show u64 x &&& u64 y < 2 ^ 8 by omega)
  rw [landNot_nat _ _ (by omega)]
  omega
theorem lor_b {x y : Int} (hx : 0 ≤ x ∧ x < 256) (hy : 0 ≤ y ∧ y < 256) : 0 ≤ lor .i64 x y ∧ lor .i64 x y < 256 := by
  have h1 := bytesNat x hx
  have h2 := bytesNat y hy
  have := Nat.or_lt_two_pow (n := 8) h1 h2
  rw [lor_nat _ _ (by omega)]
  omega
theorem flagV_byte {p f : Int} {on : Bool} (hp : 0 ≤ p ∧ p < 256) (hf : 0 ≤ f ∧ f < 256) : 0 ≤ flagV p f on ∧ flagV p f on < 256 := by
  cases on
  · exact landNot_byte hp
  · exact lor_b (landNot_byte hp) hf
theorem nzV_byte {p n : Int} (hp : 0 ≤ p ∧ p < 256) : 0 ≤ nzV p n ∧ nzV p n < 256 := flagV_byte (flagV_byte hp (by omega)) (by omega)
theorem u64_of {a : Int} (h : 0 ≤ a ∧ a < 256) : ((u64 a : Nat) : Int) = a := by unfold u64; omega
theorem flagV_on {p f : Int} (hp : 0 ≤ p ∧ p < 256) (hf : 0 ≤ f ∧ f < 256) : flagV p f true = lor .i64 p f := by
  have h1 := bytesNat p hp
  have h2 := bytesNat f hf
  have h3 := Nat.or_lt_two_pow (n := 8) h1 h2
  have hb := landNot_byte (y := f) hp
  have h4 := bytesNat _ hb
  have h5 := Nat.or_lt_two_pow (n := 8) h4 h2
  show lor .i64 (landNot .i64 p f) f = lor .i64 p f
  rw [lor_nat _ _ (by omega), lor_nat _ _ (by omega)]
  have e : u64 (landNot .i64 p f) = u64 p ^^^ (u64 p &&& u64 f) := by
    have := u64_of hb
    have e2 := landNot_nat p f (by omega)
    omega
  rw [e]
  congr 1
  apply Nat.eq_of_testBit_eq
  intro i
  simp only [Nat.testBit_or, Nat.testBit_xor, Nat.testBit_and]
  cases (u64 p).testBit i <;> cases (u64 f).testBit i <;> rfl
theorem land_pos {P n : Int} (h : 0 ≤ P ∧ P < 256) : decide (0 < land .i64 P (n % 256)) = (land .i64 P (n % 256) != 0) := by
  have hb := land_byte (A := P) (B := n)
  rw [show P % 256 = P by omega] at hb
  generalize land .i64 P (n % 256) = z at *
  by_cases h0 : z = 0
  · subst h0; rfl
  · have : 0 < z := by omega
    simp [this, h0]
set_option maxHeartbeats 8000000 in
theorem stepped_ok : GoodF Try.prog 77 doS.spec := by
  have hT := tab_ok (fs := [(70, fitS.spec), (96, lmtS.spec), (97, rflagsS.spec), (98, sumsS.spec), (99, turnedS.spec), (73, wideS.spec), (34, modS.spec)]) tree_ok
  have hP : SpecsOk Try.prog (tab tree [(70, fitS.spec), (96, lmtS.spec), (97, rflagsS.spec), (98, sumsS.spec), (99, turnedS.spec), (73, wideS.spec), (34, modS.spec)]) := specs_cons rFit_ok (specs_cons lmt_ok (specs_cons rflags_ok (specs_cons sums_ok (specs_cons turned_ok (specs_cons rWide_ok (specs_cons mod_ok specs_nil))))))
  refine doS.good (fn := Try.f77) hT hP Try.func77 (by kernel_rfl) rfl fun (s : Stp) (r : List Int) hp => ?_
  obtain ⟨d, to, fr, n⟩ := s
  have h9 : r.length = 9 := hp _ rfl
  have hl : (fitR r).length = 9 := rfl
  have ht : okT (limF to 0 8) := by rw [lim_clamp]; exact clamp_in to
  have hf : okT (limF fr 0 8) := by rw [lim_clamp]; exact clamp_in fr
  have ht1 := okT_nat ht
  have hf1 := okT_nat hf
  have ht2 := okT_lt ht
  have hf2 := okT_lt hf
  clear hp
  repeat' first
    | (refine Go.mk ?_; conv => whnf)
    | refine Need.go ?_ ?_
    | refine NilG.go (fun _ => ?_) (fun _ => ?_)
    | refine Br.dec (fun _ => ?_) (fun _ => ?_)
    | refine Br.go (fun _ => ?_) (fun _ => ?_)
    | refine draw_go hT hP mixed ?_
    | refine round_go hT hP ?_
  all_goals first
    | exact of_decide_eq_true rfl
    | exact h9
    | exact ht1
    | exact hf1
    | exact ht2
    | exact hf2
    | exact rfl
    | skip
  all_goals (try refine .mk [] [] _ rfl rfl rfl rfl rfl rfl (tupRB ?_ ?_))
  all_goals clear hT hP
  all_goals (dsimp only at *)
  all_goals (try (simp only [List.length_set, hl]; done))
  all_goals (try (rename_i h; simp [doE, h]; done))
  all_goals (try simp only [lim_clamp] at *)
  all_goals (try simp only [tmod_fitB, i4B, set4_self])
  all_goals
    have bA := fitB_in r (clampR to).toNat
    have bB := fitB_in r (clampR fr).toNat
    have bP := fit_4 r
    have ht2 := okT_lt ht
    clear ht1 hf1 hf2
    try subst_vars
  all_goals (try (rename_i h; exact absurd h (by decide)))
  all_goals (try exact ⟨by omega, by omega, by unfold bitC; omega⟩)
  all_goals (try exact ⟨by omega, by unfold bitC; omega⟩)
  all_goals (try exact (fit_set4 (nzV_byte bP)).symm)
  all_goals (try simp [-List.getD_eq_getElem?_getD, gd30, gd31, gd32, gd20, gd21, doR, stepX, binF, shF, incF, incN, logV, sumN, sumC, tnN, tnC, doE, aV, cV, sf3 bP, sf4 bP, sf5 bP, sf6 bP, sfl bP, sfo bP, sfx bP, sfs bP, sfr bP, sft bP, sfu bP, sft' bP, sfu' bP, set4_self, w_0, w_1, w_2, w_8])
  all_goals (try exact (fit_set4 (nzV_byte bP)).symm)
  all_goals (try (rw [fit_set4 (flagV_byte bP (by omega)), flagV_on bP (by omega)]; done))
  all_goals (try (rw [fit_set4 (flagV_byte bP (by omega))]; rfl))
  all_goals (try (simp only [w64e, tdivE, tmodE]; exact fit_setE (by omega)))
  · have h4 : clampR to = 4 := by assumption
    rw [h4]
    exact congrArg fitR (set_set4 _ _ _)
  · have h4 : ¬clampR to = 4 := by assumption
    rw [set4_set _ _ _ (by unfold okT at ht; omega)]
  · have hw : wideB (clampR to) = false := by simp_all
    rw [w64 (by omega) (by omega)]
    simp only [hw, Bool.false_eq_true, if_false, cond_false]
    exact fit_setB ht hw (by omega)
  · have hw : wideB (clampR to) = true := by simp_all
    rw [w64 (by omega) (by omega)]
    simp only [hw, if_true, cond_true]
    exact fit_setE (by omega)
  · have hw : wideB (clampR to) = false := by simp_all
    rw [show IntKind.i64.wrap (-1) = -1 by decide, w64 (by omega) (by omega), show (fitR r).getD (clampR to).toNat 0 + 1 - 2 = (fitR r).getD (clampR to).toNat 0 + -1 by omega]
    simp only [hw, Bool.false_eq_true, if_false, cond_false]
    exact fit_setB ht hw (by omega)
  · have hw : wideB (clampR to) = true := by simp_all
    rw [show IntKind.i64.wrap (-1) = -1 by decide, w64 (by omega) (by omega), show (fitR r).getD (clampR to).toNat 0 + 1 - 2 = (fitR r).getD (clampR to).toNat 0 + -1 by omega]
    simp only [hw, if_true, cond_true]
    exact fit_setE (by omega)
  · rw [show (fitR r).getD (clampR to).toNat 0 % 256 * 2 % 256 = (fitR r).getD (clampR to).toNat 0 * 2 % 256 by omega]
  · rw [show (fitR r).getD (clampR to).toNat 0 % 256 * 2 % 256 + (fitR r).getD 4 0 % 2 = ((fitR r).getD (clampR to).toNat 0 * 2 + (fitR r).getD 4 0 % 2) % 256 by omega]
  · rw [land_pos bP]
    generalize (land .i64 ((fitR r).getD 4 0) (n % 256) != 0) = b
    by_cases h : fr = 1 <;> cases b <;> simp [h]
  · rw [set_self, fit_fit]
    (repeat' split) <;> first | rfl | (exfalso; omega) | exact (fit_fit r).symm
  all_goals trace_state

end Go.Proofs.Ytanaaecfghmmaaa

/- The processor: what it asks of the bus, in the program and in the reference. -/
namespace Go.Proofs.Ytanaaecfghmmaaa
open Go.Fw
set_option linter.unusedVariables false
set_option linter.unusedSimpArgs false
set_option maxRecDepth 100000

abbrev Bsv := Int × Int × Int
def askF (c : Cpu) (k : Kor) (irq : Bool) : Kor × Bsv :=
  let k1 : Kor := if k.2.1 = -1 then startF c (fitR k.1, k.2) irq else (fitR k.1, k.2)
  if k1.2.1 = -1 then ((plR 0 k1.1, k1.2), (1, plA 0 k1.1, 0))
  else if canB c k1.2.1 k1.2.2.1 = false ∨ (doF c k1.2.1 k1.2.2.1).1 = 0 then (k1, (0, 0, 0))
  else
    let x := doF c k1.2.1 k1.2.2.1
    ((plR x.2.1 k1.1, k1.2), (x.1, plA x.2.1 k1.1, if x.1 = 2 ∧ 0 ≤ x.2.2.1 ∧ x.2.2.1 < 9 then k1.1.getD x.2.2.1.toNat 0 % 256 else 0))
theorem tupKB {r : List Int} {a b : Int} {n : Bool} {p q s : Int} {x : Kor × Bsv} (h : ((r, a, b, n), (p, q, s)) = x) : AV.tup [.agg [.run .i64 9 r, iv .i64 a, iv .i64 b, bv n], .agg [iv .i64 p, iv .i64 q, iv .i64 s]] =
    AV.tup [.agg [.run .i64 9 x.1.1, iv .i64 x.1.2.1, iv .i64 x.1.2.2.1, bv x.1.2.2.2], .agg [iv .i64 x.2.1, iv .i64 x.2.2.1, iv .i64 x.2.2.2]] := by subst h; rfl
def askP (c : Cpu) (k : Kor) : Prop := c.2.1.length ≤ 4611686018427387904 ∧ k.1.length = 9
theorem startF_fst (c : Cpu) (k : Kor) (i : Bool) : (startF c k i).1 = k.1 := by
  unfold startF; split
  · rfl
  · split <;> rfl
theorem startF_out (c : Cpu) (k : Kor) (i : Bool) : ∃ a b n, startF c k i = (k.1, a, b, n) := ⟨(startF c k i).2.1, (startF c k i).2.2.1, (startF c k i).2.2.2, by rw [← startF_fst c k i]⟩
def askS : PSpec := ⟨[gCpu, gK, gB], fun (c, k, i, _) => (some (askP c k), .tup [.agg [.run .i64 9 (askF c k i).1.1, iv .i64 (askF c k i).1.2.1, iv .i64 (askF c k i).1.2.2.1, bv (askF c k i).1.2.2.2], .agg [iv .i64 (askF c k i).2.1, iv .i64 (askF c k i).2.2.1, iv .i64 (askF c k i).2.2.2]], [])⟩
set_option maxHeartbeats 4000000 in
theorem ask_ok : GoodF Try.prog 78 askS.spec := by
  have hT := tab_ok (fs := [(100, fitS.spec), (101, startS.spec), (102, placeRS.spec), (103, doingS.spec), (79, lowM.spec)]) tree_ok
  have hP : SpecsOk Try.prog (tab tree [(100, fitS.spec), (101, startS.spec), (102, placeRS.spec), (103, doingS.spec), (79, lowM.spec)]) := specs_cons aFit_ok (specs_cons start_ok (specs_cons cPlace_ok (specs_cons doing_ok (specs_cons lowM_ok specs_nil))))
  refine askS.good (fn := Try.f78) hT hP Try.func78 (by kernel_rfl) rfl fun (c : Cpu) (k : Kor) (i : Bool) hp => ?_
  obtain ⟨cn, ci, cr, cq, cm⟩ := c
  obtain ⟨r, op, at_, n⟩ := k
  obtain ⟨hz, h9⟩ : ci.length ≤ 4611686018427387904 ∧ r.length = 9 := hp _ rfl
  clear hp
  repeat' first
    | (refine Go.mk ?_; conv => whnf)
    | refine Need.go ?_ ?_
    | refine NilG.go (fun _ => ?_) (fun _ => ?_)
    | refine Br.dec (fun _ => ?_) (fun _ => ?_)
    | refine Br.go (fun _ => ?_) (fun _ => ?_)
    | refine draw_go hT hP mixed ?_
    | refine round_go hT hP ?_
  all_goals first
    | exact of_decide_eq_true rfl
    | exact hz
    | exact h9
    | exact ⟨hz, _, rfl⟩
    | exact ⟨_, rfl⟩
    | skip
  all_goals (try refine .mk [] [] _ rfl rfl rfl rfl rfl rfl (tupKB ?_))
  all_goals (simp only [castL_eq, askF] at *)
  all_goals
    have hs := startF_fst (cn, ci, cr, cq, cm) (fitR r, op, at_, n) i
    generalize startF (cn, ci, cr, cq, cm) (fitR r, op, at_, n) i = z at *
    obtain ⟨r2, o2, a2, n2⟩ := z
    dsimp only at *
    subst hs
  all_goals (try exact ⟨_, rfl⟩)
  all_goals (try omega)
  all_goals clear hT hP
  all_goals (try simp_all)
  all_goals (try omega)

theorem fit_in (r : List Int) (n : Nat) : 0 ≤ (fitR r).getD n 0 ∧ (fitR r).getD n 0 < 65536 := by
  match n with
  | 0 | 1 | 2 | 3 | 4 | 5 | 6 | 7 | 8 => simp [fitR]; omega
  | n + 9 => simp [fitR]
theorem fit_3 (r : List Int) : (fitR r).getD 4 0 < 256 := by simp [fitR]; omega
theorem tmod_fit (r : List Int) (n : Nat) (k : Int) : ((fitR r).getD n 0).tmod k = (fitR r).getD n 0 % k := Int.tmod_eq_emod_of_nonneg (fit_in r n).1
theorem tdiv_fit (r : List Int) (n : Nat) (k : Int) : ((fitR r).getD n 0).tdiv k = (fitR r).getD n 0 / k := Int.tdiv_eq_ediv_of_nonneg (fit_in r n).1
theorem inc_fit (r : List Int) (n : Nat) : (IntKind.i64.wrap ((fitR r).getD n 0 + 1)).tmod 65536 = ((fitR r).getD n 0 + 1) % 65536 := by
  have := fit_in r n
  rw [w64 (by omega) (by omega), Int.tmod_eq_emod_of_nonneg (by omega)]
theorem bit4 (r : List Int) : (IntKind.i64.wrap ((fitR r).getD 4 0 / 4)).tmod 2 = (fitR r).getD 4 0 / 4 % 2 := by
  have := fit_in r 4
  rw [w64 (by omega) (by omega), Int.tmod_eq_emod_of_nonneg (by omega)]
theorem dfltC : (dflt CycT : Cyc) = cycD := rfl
theorem i0 : Int.toNat 0 = 0 := rfl
theorem i4 : Int.toNat 4 = 4 := rfl
theorem i7 : Int.toNat 7 = 7 := rfl
theorem c256 (c : Cpu) : cycF c 256 = c.2.2.2.1 := rfl
theorem c257 (c : Cpu) : cycF c 257 = c.2.2.2.2 := rfl
set_option maxHeartbeats 4000000 in
theorem asked_ok : GoodF Try.prog 33 askS.spec := by
  have hT := tab_ok (fs := [(70, fitS.spec), (71, cycS.spec), (74, addrS.spec), (73, wideS.spec), (72, narrowS.spec)]) tree_ok
  have hP : SpecsOk Try.prog (tab tree [(70, fitS.spec), (71, cycS.spec), (74, addrS.spec), (73, wideS.spec), (72, narrowS.spec)]) := specs_cons rFit_ok (specs_cons cycOf_ok (specs_cons rAddr_ok (specs_cons rWide_ok (specs_cons rNarrow_ok specs_nil))))
  refine askS.good (fn := Try.f33) hT hP Try.func33 (by kernel_rfl) rfl fun (c : Cpu) (k : Kor) (i : Bool) hp => ?_
  obtain ⟨cn, ci, cr, cq, cm⟩ := c
  obtain ⟨r, op, at_, n⟩ := k
  obtain ⟨hz, h9⟩ : ci.length ≤ 4611686018427387904 ∧ r.length = 9 := hp _ rfl
  clear hp
  repeat' first
    | (refine Go.mk ?_; conv => whnf)
    | refine Need.go ?_ ?_
    | refine NilG.go (fun _ => ?_) (fun _ => ?_)
    | refine Br.dec (fun _ => ?_) (fun _ => ?_)
    | refine Br.go (fun _ => ?_) (fun _ => ?_)
    | refine draw_go hT hP mixed ?_
    | refine round_go hT hP ?_
  all_goals first
    | exact of_decide_eq_true rfl
    | exact hz
    | exact h9
    | exact ⟨_, rfl⟩
    | skip
  all_goals (try refine .mk [] [] _ rfl rfl rfl rfl rfl rfl (tupKB ?_))
  all_goals (simp only [castL_eq] at *)
  all_goals (try omega)
  all_goals clear hT hP
  all_goals (try simp only [tdiv_fit, i4, i7, i0] at *)
  all_goals (try simp only [tmod_fit, bit4, inc_fit, dfltC] at *)
  all_goals (try simp_all [askF, startF, canB, doF, c256, c257, plA, plR])
  all_goals (try omega)
  · exfalso
    rename_i g1 g2 g3 g4
    have g4 : (0 : Int) ≥ (cm.length : Int) := g4
    omega
  · rename_i g1 g2
    have hc : canB (cn, ci, cr, cq, cm) op at_ = false := by unfold canB; rw [decide_eq_false (show ¬ 0 ≤ at_ by omega)]; simp
    simp only [askF, if_neg g1, hc, true_or, if_true]

end Go.Proofs.Ytanaaecfghmmaaa

/- What a processor does with a number from the bus. -/
namespace Go.Proofs.Ytanaaecfghmmaaa
open Go.Fw
set_option linter.unusedVariables false
set_option linter.unusedSimpArgs false
set_option linter.constructorNameAsVariable false
set_option maxRecDepth 100000

def opRd : List V1 → List Blk → Option (Ins × Int) := fun a b => match a, b with
  | [.agg [.imm (.int .i64 o), .imm (.string s), .imm (.int .i64 m), .ro (.pair (.int .i64) (.pair (.int .i64) (.pair (.int .i64) (.sl (.pair (.int .i64) (.pair (.int .i64) (.pair (.int .i64) (.int .i64)))))))) l], .c (.ptr 0 0)], [.var [.imm (.int .i64 op)]] => some ((o, s, m, l), op)
  | _, _ => none
theorem opRd_ok {a : List V1} {b : List Blk} {x : Ins × Int} (h : opRd a b = some x) : a = [.agg [iv .i64 x.1.1, .imm (.string x.1.2.1), iv .i64 x.1.2.2.1, .ro CycT x.1.2.2.2], .c (.ptr 0 0)] ∧ b = [.var [iv .i64 x.2]] := by
  unfold opRd at h
  split at h
  · injection h with h; subst h; exact ⟨rfl, rfl⟩
  · cases h
def opWS : WSpec := ⟨Ins × Int, fun x => [.agg [iv .i64 x.1.1, .imm (.string x.1.2.1), iv .i64 x.1.2.2.1, .ro CycT x.1.2.2.2], .c (.ptr 0 0)], fun x => [.var [iv .i64 x.2]], opRd,
  fun (x, op) => (none, .cell (bv (x.1 == op)), [some (.var [iv .i64 op])], [])⟩
theorem findOp_ok : GoodF Try.prog 64 opWS.spec := by
  have hT := tab_ok (fs := []) tree_ok
  have hP : SpecsOk Try.prog (tab tree []) := specs_nil
  refine opWS.good (fn := Try.f64) hT hP Try.func64 (by kernel_rfl) rfl (fun _ _ _ h => opRd_ok h) fun (((o, s, m, l), op) : Ins × Int) hq => ?_
  repeat' first
    | (refine Go.mk ?_; conv => whnf)
    | refine Need.go ?_ ?_
    | refine NilG.go (fun _ => ?_) (fun _ => ?_)
    | refine Br.dec (fun _ => ?_) (fun _ => ?_)
    | refine Br.go (fun _ => ?_) (fun _ => ?_)
    | refine draw_go hT hP mixed ?_
    | refine round_go hT hP ?_
  all_goals exact .mk [] [0] _ rfl rfl rfl rfl rfl rfl rfl
theorem ansOp_ok : GoodF Try.prog 76 opWS.spec := by
  have hT := tab_ok (fs := []) tree_ok
  have hP : SpecsOk Try.prog (tab tree []) := specs_nil
  refine opWS.good (fn := Try.f76) hT hP Try.func76 (by kernel_rfl) rfl (fun _ _ _ h => opRd_ok h) fun (((o, s, m, l), op) : Ins × Int) hq => ?_
  repeat' first
    | (refine Go.mk ?_; conv => whnf)
    | refine Need.go ?_ ?_
    | refine NilG.go (fun _ => ?_) (fun _ => ?_)
    | refine Br.dec (fun _ => ?_) (fun _ => ?_)
    | refine Br.go (fun _ => ?_) (fun _ => ?_)
    | refine draw_go hT hP mixed ?_
    | refine round_go hT hP ?_
  all_goals exact .mk [] [0] _ rfl rfl rfl rfl rfl rfl rfl

def idxG (p : Ins → Bool) : List Ins → Nat → Int
  | [], _ => -1
  | x :: r, k => if p x = true then (k : Int) else idxG p r (k + 1)
def opP (op : Int) (x : Ins) : Bool := x.1 == op
def idxI (l : List Ins) (op : Int) : Int := idxG (opP op) l 0
theorem insDrop {l : List Ins} {k : Nat} (h : k < l.length) : l.drop k = l.getD k (dflt InsT) :: l.drop (k + 1) := by
  rw [List.drop_eq_getElem_cons h, List.getD_eq_getElem?_getD, List.getElem?_eq_getElem h]; rfl
theorem idxG_in {p : Ins → Bool} : ∀ {l : List Ins} {k : Nat}, idxG p l k = -1 ∨ ((k : Int) ≤ idxG p l k ∧ idxG p l k < k + l.length)
  | [], k => .inl rfl
  | x :: r, k => by
    unfold idxG
    by_cases h : p x = true
    · rw [if_pos h]; right; simp only [List.length_cons]; omega
    · rw [if_neg h]
      rcases idxG_in (p := p) (l := r) (k := k + 1) with h1 | h1
      · exact .inl h1
      · right; simp only [List.length_cons]; omega
theorem idxI_in (l : List Ins) (op : Int) : idxI l op = -1 ∨ (0 ≤ idxI l op ∧ idxI l op < l.length) := by
  have := idxG_in (p := opP op) (l := l) (k := 0)
  unfold idxI
  simpa using this
structure IdxX where
  g : Nat
  l : List Ins
  op : Int
def idxRd : List V1 → List Blk → Option IdxX := fun a b => match a, b with
  | [.c (.ro (.pair (.int .i64) (.pair .str (.pair (.int .i64) (.sl (.pair (.int .i64) (.pair (.int .i64) (.pair (.int .i64) (.sl (.pair (.int .i64) (.pair (.int .i64) (.pair (.int .i64) (.int .i64)))))))))))) l), .c (.fn g [0])], [.var [.imm (.int .i64 op)]] => some ⟨g, l, op⟩
  | _, _ => none
theorem idxRd_ok {a : List V1} {b : List Blk} {x : IdxX} (h : idxRd a b = some x) : a = [.c (.ro InsT x.l), .c (.fn x.g [0])] ∧ b = [.var [iv .i64 x.op]] := by
  unfold idxRd at h
  split at h
  · injection h with h; subst h; exact ⟨rfl, rfl⟩
  · cases h
def idxWS : WSpec := ⟨IdxX, fun x => [.c (.ro InsT x.l), .c (.fn x.g [0])], fun x => [.var [iv .i64 x.op]], idxRd,
  fun ⟨g, l, op⟩ => (some ((g = 64 ∨ g = 76) ∧ l.length ≤ 4611686018427387904), I (idxI l op), [some (.var [iv .i64 op])], [])⟩
theorem idx_ok : GoodF Try.prog 63 idxWS.spec := by
  have hT := tab_ok (fs := [(64, opWS.spec), (76, opWS.spec)]) tree_ok
  have hP : SpecsOk Try.prog (tab tree [(64, opWS.spec), (76, opWS.spec)]) := specs_cons findOp_ok (specs_cons ansOp_ok specs_nil)
  refine idxWS.good (fn := Try.f63) hT hP Try.func63 (by kernel_rfl) rfl (fun _ _ _ h => idxRd_ok h) fun (⟨g, l, op⟩ : IdxX) hq => ?_
  obtain ⟨hg, hl⟩ : (g = 64 ∨ g = 76) ∧ l.length ≤ 4611686018427387904 := hq _ rfl
  clear hq
  rcases hg with rfl | rfl
  · repeat' first
      | (refine Go.mk ?_; conv => whnf)
      | refine Need.go ?_ ?_
      | refine NilG.go (fun _ => ?_) (fun _ => ?_)
      | refine Br.dec (fun _ => ?_) (fun _ => ?_)
      | refine Br.go (fun _ => ?_) (fun _ => ?_)
      | refine draw_go hT hP mixed ?_
      | refine round_go hT hP ?_
    refine up_go hT hP (A := Unit) l.length (fun i _ => St.mk [.cell (.ro InsT l), .cell (.fn 64 [0]), .dead, .dead, .dead, .dead, .dead, I l.length, I i, .dead, .dead, .dead, .dead, .dead, .dead, .dead, .dead, .dead, .dead] [some (.var [iv .i64 op])])
      (fun k _ => idxG (opP op) (l.drop k) k = idxI l op) () (Le.mk [] [0] rfl rfl rfl ?_) rfl fun k _ hk hi => ?_
    rotate_right
    repeat' first
      | (refine Go.mk ?_; conv => whnf)
      | refine Need.go ?_ ?_
      | refine NilG.go (fun _ => ?_) (fun _ => ?_)
      | refine Br.dec (fun _ => ?_) (fun _ => ?_)
      | refine Br.go (fun _ => ?_) (fun _ => ?_)
      | refine draw_go hT hP mixed ?_
      | refine round_go hT hP ?_
    all_goals (try (dsimp only [gi, Den] at *; omega))
    · rename_i g1 g2
      have hlt : k < l.length := by omega
      have hp : opP op (l.getD k (dflt InsT)) = true := beq_iff_eq.2 g2
      refine .mk [] [0] _ rfl rfl rfl rfl rfl rfl (imm_int ?_)
      rw [insDrop hlt, idxG, if_pos hp] at hi
      exact hi
    · rename_i g1 g2
      have hlt : k < l.length := by omega
      have hp : ¬ opP op (l.getD k (dflt InsT)) = true := fun h => g2 (beq_iff_eq.1 h)
      apply Exists.intro
      apply Exists.intro ()
      refine And.intro (And.intro ?lt119 (And.intro ?ei119 ?inv119)) (Le.mk [] [0] rfl rfl ?hh119 ?ht119)
      case hh119 => exact rfl
      case ht119 => repeat' first | exact trivial | exact ⟨rfl, rfl⟩ | refine And.intro ?_ ?_
      case lt119 => omega
      case ei119 => exact up_i (by omega)
      rw [insDrop hlt, idxG, if_neg hp] at hi
      exact hi
    · rename_i g1
      refine .mk [] [0] _ rfl rfl rfl rfl rfl rfl (imm_int ?_)
      rw [List.drop_of_length_le (by omega)] at hi
      exact hi
    · repeat' first | exact trivial | exact ⟨rfl, rfl⟩ | refine And.intro ?_ ?_
  · repeat' first
      | (refine Go.mk ?_; conv => whnf)
      | refine Need.go ?_ ?_
      | refine NilG.go (fun _ => ?_) (fun _ => ?_)
      | refine Br.dec (fun _ => ?_) (fun _ => ?_)
      | refine Br.go (fun _ => ?_) (fun _ => ?_)
      | refine draw_go hT hP mixed ?_
      | refine round_go hT hP ?_
    refine up_go hT hP (A := Unit) l.length (fun i _ => St.mk [.cell (.ro InsT l), .cell (.fn 76 [0]), .dead, .dead, .dead, .dead, .dead, I l.length, I i, .dead, .dead, .dead, .dead, .dead, .dead, .dead, .dead, .dead, .dead] [some (.var [iv .i64 op])])
      (fun k _ => idxG (opP op) (l.drop k) k = idxI l op) () (Le.mk [] [0] rfl rfl rfl ?_) rfl fun k _ hk hi => ?_
    rotate_right
    repeat' first
      | (refine Go.mk ?_; conv => whnf)
      | refine Need.go ?_ ?_
      | refine NilG.go (fun _ => ?_) (fun _ => ?_)
      | refine Br.dec (fun _ => ?_) (fun _ => ?_)
      | refine Br.go (fun _ => ?_) (fun _ => ?_)
      | refine draw_go hT hP mixed ?_
      | refine round_go hT hP ?_
    all_goals (try (dsimp only [gi, Den] at *; omega))
    · rename_i g1 g2
      have hlt : k < l.length := by omega
      have hp : opP op (l.getD k (dflt InsT)) = true := beq_iff_eq.2 g2
      refine .mk [] [0] _ rfl rfl rfl rfl rfl rfl (imm_int ?_)
      rw [insDrop hlt, idxG, if_pos hp] at hi
      exact hi
    · rename_i g1 g2
      have hlt : k < l.length := by omega
      have hp : ¬ opP op (l.getD k (dflt InsT)) = true := fun h => g2 (beq_iff_eq.1 h)
      apply Exists.intro
      apply Exists.intro ()
      refine And.intro (And.intro ?lt162 (And.intro ?ei162 ?inv162)) (Le.mk [] [0] rfl rfl ?hh162 ?ht162)
      case hh162 => exact rfl
      case ht162 => repeat' first | exact trivial | exact ⟨rfl, rfl⟩ | refine And.intro ?_ ?_
      case lt162 => omega
      case ei162 => exact up_i (by omega)
      rw [insDrop hlt, idxG, if_neg hp] at hi
      exact hi
    · rename_i g1
      refine .mk [] [0] _ rfl rfl rfl rfl rfl rfl (imm_int ?_)
      rw [List.drop_of_length_le (by omega)] at hi
      exact hi
    · repeat' first | exact trivial | exact ⟨rfl, rfl⟩ | refine And.intro ?_ ?_

-- copies

def gCyc : Sig := ⟨false, .sl CycT⟩
def gStp : Sig := ⟨false, .sl StepT⟩
def cloneCS : PSpec := ⟨[⟨false, .sl CycT⟩], fun (l, _) => (some (List.length l * 48 ≤ 140737488351232), .cell (.own 0), [.arr CycT l])⟩
theorem cloneC_ok : GoodF Try.prog 94 cloneCS.spec := by
  have hT := tab_ok (fs := []) tree_ok
  have hP : SpecsOk Try.prog (tab tree []) := specs_nil
  refine cloneCS.good (fn := Try.f94) hT hP Try.func94 (by kernel_rfl) rfl fun (l : List Cyc) hq => ?_
  have hl : l.length * 48 ≤ 140737488351232 := hq _ rfl
  clear hq
  repeat' first
    | (refine Go.mk ?_; conv => whnf)
    | refine Need.go ?_ ?_
    | refine NilG.go (fun _ => ?_) (fun _ => ?_)
    | refine Br.dec (fun _ => ?_) (fun _ => ?_)
    | refine Br.go (fun _ => ?_) (fun _ => ?_)
    | refine draw_go hT hP mixed ?_
    | refine round_go hT hP ?_
  all_goals first
    | exact of_decide_eq_true rfl
    | skip
  · rename_i h
    obtain rfl : l = [] := List.eq_nil_of_length_eq_zero h
    exact .le (Le.nil 2 CycT rfl) (.mk [] [0] _ rfl rfl rfl rfl rfl rfl rfl)
  · show (0 + l.length) * 48 ≤ 140737488355328
    omega
  · exact .mk [] [1] _ rfl rfl rfl rfl rfl rfl rfl
def cloneSS : PSpec := ⟨[⟨false, .sl StepT⟩], fun (l, _) => (some (List.length l * 32 ≤ 140737488351232), .cell (.own 0), [.arr StepT l])⟩
theorem cloneS_ok : GoodF Try.prog 95 cloneSS.spec := by
  have hT := tab_ok (fs := []) tree_ok
  have hP : SpecsOk Try.prog (tab tree []) := specs_nil
  refine cloneSS.good (fn := Try.f95) hT hP Try.func95 (by kernel_rfl) rfl fun (l : List Stp) hq => ?_
  have hl : l.length * 32 ≤ 140737488351232 := hq _ rfl
  clear hq
  repeat' first
    | (refine Go.mk ?_; conv => whnf)
    | refine Need.go ?_ ?_
    | refine NilG.go (fun _ => ?_) (fun _ => ?_)
    | refine Br.dec (fun _ => ?_) (fun _ => ?_)
    | refine Br.go (fun _ => ?_) (fun _ => ?_)
    | refine draw_go hT hP mixed ?_
    | refine round_go hT hP ?_
  all_goals first
    | exact of_decide_eq_true rfl
    | skip
  · rename_i h
    obtain rfl : l = [] := List.eq_nil_of_length_eq_zero h
    exact .le (Le.nil 2 StepT rfl) (.mk [] [0] _ rfl rfl rfl rfl rfl rfl rfl)
  · show (0 + l.length) * 32 ≤ 140737488355328
    omega
  · exact .mk [] [1] _ rfl rfl rfl rfl rfl rfl rfl

def okCyc (l : List Cyc) : Prop := l.length * 48 ≤ 140737488351232 ∧ ∀ x ∈ l, x.2.2.2.length * 32 ≤ 140737488351232
theorem cyc_mem {l : List Cyc} {k : Nat} (h : k < l.length) : l.getD k (dflt CycT) ∈ l := by
  rw [List.getD_eq_getElem?_getD, List.getElem?_eq_getElem h]
  exact List.getElem_mem h
theorem setD_self {α : Type} (l : List α) (n : Nat) (d : α) : l.set n (l.getD n d) = l := by
  apply List.ext_getElem?
  intro i
  rw [List.getElem?_set, List.getD_eq_getElem?_getD]
  by_cases h : n = i
  · subst h; by_cases h2 : n < l.length <;> simp [h2]
  · simp [h]
def copiesS : PSpec := ⟨[⟨false, .sl CycT⟩], fun (l, _) => (some (okCyc l), .cell (.own 0), [.arr CycT l])⟩
theorem copies_ok : GoodF Try.prog 69 copiesS.spec := by
  have hT := tab_ok (fs := [(94, cloneCS.spec), (95, cloneSS.spec)]) tree_ok
  have hP : SpecsOk Try.prog (tab tree [(94, cloneCS.spec), (95, cloneSS.spec)]) := specs_cons cloneC_ok (specs_cons cloneS_ok specs_nil)
  refine copiesS.good (fn := Try.f69) hT hP Try.func69 (by kernel_rfl) rfl fun (l : List Cyc) hq => ?_
  obtain ⟨h1, h2⟩ : okCyc l := hq _ rfl
  clear hq
  repeat' first
    | (refine Go.mk ?_; conv => whnf)
    | refine Need.go ?_ ?_
    | refine NilG.go (fun _ => ?_) (fun _ => ?_)
    | refine Br.dec (fun _ => ?_) (fun _ => ?_)
    | refine Br.go (fun _ => ?_) (fun _ => ?_)
    | refine draw_go hT hP mixed ?_
    | refine round_go hT hP ?_
  · exact h1
  refine up_go hT hP (A := Unit) l.length (fun i _ => St.mk [.dead, .dead, .dead, .cell (.own 0), .dead, .dead, .dead, .dead, I l.length, I i, .dead, .dead, .dead, .dead, .dead, .dead, .dead, .dead, .dead, .dead, .dead, .dead, .dead, .dead] [some (.arr CycT l)])
    (fun k _ => True) () (Le.mk [] [0] rfl rfl ?_ ?_) trivial fun k _ hk _ => ?_
  · exact rfl
  · repeat' first | exact trivial | exact ⟨rfl, rfl⟩ | refine And.intro ?_ ?_
  repeat' first
    | (refine Go.mk ?_; conv => whnf)
    | refine Need.go ?_ ?_
    | refine NilG.go (fun _ => ?_) (fun _ => ?_)
    | refine Br.dec (fun _ => ?_) (fun _ => ?_)
    | refine Br.go (fun _ => ?_) (fun _ => ?_)
    | refine draw_go hT hP mixed ?_
    | refine round_go hT hP ?_
  all_goals first
    | exact of_decide_eq_true rfl
    | skip
  all_goals first
    | exact .mk [] [0] _ rfl rfl rfl rfl rfl rfl rfl
    | (rename_i g1
       have g1 : (k : Int) < (l.length : Int) := g1
       first
         | (show 0 ≤ (k : Int) ∧ (k : Int) < (l.length : Int)
            omega)
         | (show k < l.length
            omega)
         | exact h2 _ (cyc_mem (k := k) (by omega)))
    | skip
  · rename_i g1
    have g1 : (k : Int) < (l.length : Int) := g1
    apply Exists.intro
    apply Exists.intro ()
    refine And.intro (And.intro ?lt (And.intro ?ei trivial)) (Le.mk [] [0] rfl rfl ?hh ?ht)
    case hh => exact congrArg (fun z => [some (Blk.arr CycT z)]) (setD_self l k (dflt CycT))
    case ht => repeat' first | exact trivial | exact ⟨rfl, rfl⟩ | refine And.intro ?_ ?_
    case lt => omega
    case ei => exact up_i (by omega)

abbrev gIns : Sig := ⟨true, InsT⟩
theorem agg_ins {o m : Int} {s : ByteArray} {l l' : List Cyc} (h : l = l') : AV.agg [iv .i64 o, .imm (.string s), iv .i64 m, .ro CycT l] = AV.agg [iv .i64 o, .imm (.string s), iv .i64 m, .ro CycT l'] := by rw [h]
def tcopyS : PSpec := ⟨[gIns], fun (x, _) => (some (okCyc x.2.2.2), .agg [iv .i64 x.1, .imm (.string x.2.1), iv .i64 x.2.2.1, .ro CycT x.2.2.2], [])⟩
theorem tcopy_ok : GoodF Try.prog 30 tcopyS.spec := by
  have hT := tab_ok (fs := [(69, copiesS.spec)]) tree_ok
  have hP : SpecsOk Try.prog (tab tree [(69, copiesS.spec)]) := specs_cons copies_ok specs_nil
  refine tcopyS.good (fn := Try.f30) hT hP Try.func30 (by kernel_rfl) rfl fun (x : Ins) hq => ?_
  obtain ⟨o, s, m, l⟩ := x
  have hl : okCyc l := hq _ rfl
  clear hq
  repeat' first
    | (refine Go.mk ?_; conv => whnf)
    | refine Need.go ?_ ?_
    | refine NilG.go (fun _ => ?_) (fun _ => ?_)
    | refine Br.dec (fun _ => ?_) (fun _ => ?_)
    | refine Br.go (fun _ => ?_) (fun _ => ?_)
    | refine draw_go hT hP mixed ?_
    | refine round_go hT hP ?_
  · exact hl
  · exact .mk [2] [] _ rfl rfl rfl rfl rfl rfl rfl
def cpuOk (c : Cpu) : Prop := c.2.1.length * 56 ≤ 140737488351232 ∧ ∀ x ∈ c.2.1, okCyc x.2.2.2
theorem ins_mem {l : List Ins} {k : Nat} (h : k < l.length) : l.getD k (dflt InsT) ∈ l := by
  rw [List.getD_eq_getElem?_getD, List.getElem?_eq_getElem h]
  exact List.getElem_mem h
def hasI (c : Cpu) (op : Int) : Bool := decide (0 ≤ idxI c.2.1 op)
def findI (c : Cpu) (op : Int) : Ins := if hasI c op = true then c.2.1.getD (idxI c.2.1 op).toNat (dflt InsT) else (0, ByteArray.empty, 0, [])
theorem tup_ins {x y : Ins} {b b' : Bool} (h : x = y) (h2 : b = b') : AV.tup [.agg [iv .i64 x.1, .imm (.string x.2.1), iv .i64 x.2.2.1, .ro CycT x.2.2.2], .c (bv b)] = AV.tup [.agg [iv .i64 y.1, .imm (.string y.2.1), iv .i64 y.2.2.1, .ro CycT y.2.2.2], .c (bv b')] := by rw [h, h2]
def tfindS : PSpec := ⟨[gCpu, gi], fun (c, op, _) => (some (cpuOk c), .tup [.agg [iv .i64 (findI c op).1, .imm (.string (findI c op).2.1), iv .i64 (findI c op).2.2.1, .ro CycT (findI c op).2.2.2], .c (bv (hasI c op))], [])⟩
theorem tfind_ok : GoodF Try.prog 27 tfindS.spec := by
  have hT := tab_ok (fs := [(30, tcopyS.spec), (63, idxWS.spec)]) tree_ok
  have hP : SpecsOk Try.prog (tab tree [(30, tcopyS.spec), (63, idxWS.spec)]) := specs_cons tcopy_ok (specs_cons idx_ok specs_nil)
  refine tfindS.good (fn := Try.f27) hT hP Try.func27 (by kernel_rfl) rfl fun (c : Cpu) (op : Int) hq => ?_
  obtain ⟨cn, ci, cr, cq, cm⟩ := c
  obtain ⟨h1, h2⟩ : cpuOk (cn, ci, cr, cq, cm) := hq _ rfl
  have h1 : ci.length * 56 ≤ 140737488351232 := h1
  have h2 : ∀ x ∈ ci, okCyc x.2.2.2 := h2
  clear hq
  repeat' first
    | (refine Go.mk ?_; conv => whnf)
    | refine Need.go ?_ ?_
    | refine NilG.go (fun _ => ?_) (fun _ => ?_)
    | refine Br.dec (fun _ => ?_) (fun _ => ?_)
    | refine Br.go (fun _ => ?_) (fun _ => ?_)
    | refine draw_go hT hP mixed ?_
    | refine round_go hT hP ?_
  all_goals first
    | exact of_decide_eq_true rfl
    | skip
  have hi := idxI_in ci op
  all_goals first
    | exact ⟨.inl rfl, by show ci.length ≤ _; omega⟩
    | (rename_i g1
       have g1 : ¬ idxI ci op < 0 := g1
       first
         | (show 0 ≤ idxI ci op ∧ idxI ci op < (ci.length : Int)
            have hi := idxI_in ci op
            omega)
         | (have hi := idxI_in ci op
            exact h2 _ (ins_mem (k := (idxI ci op).toNat) (by omega))))
    | skip
  · rename_i g1
    have g1 : idxI ci op < 0 := g1
    have hb : hasI (cn, ci, cr, cq, cm) op = false := decide_eq_false (by show ¬ 0 ≤ idxI ci op; omega)
    refine .le (Le.nilroH 2 [iv .i64 0, .imm (.string ByteArray.empty), iv .i64 0, .imm (.slice none 0 0)] [iv .i64 0, .imm (.string ByteArray.empty), iv .i64 0, .ro CycT []] rfl ⟨.inl rfl, .inl rfl, .inl rfl, .inr ⟨rfl, _, rfl⟩, trivial⟩)
      (.mk [] [] _ rfl rfl rfl rfl rfl rfl (tup_ins (x := (0, ByteArray.empty, 0, [])) ?_ ?_))
    · unfold findI; rw [hb]; rfl
    · exact hb.symm
  · rename_i g1
    have g1 : ¬ idxI ci op < 0 := g1
    have hb : hasI (cn, ci, cr, cq, cm) op = true := decide_eq_true (by show 0 ≤ idxI ci op; omega)
    refine .mk [] [] _ rfl rfl rfl rfl rfl rfl (tup_ins (x := ci.getD (idxI ci op).toNat (dflt InsT)) ?_ ?_)
    · unfold findI; rw [hb]; rfl
    · exact hb.symm


def runS : List Stp → List Int → List Int × Bool
  | [], r => (r, false)
  | s :: rest, r => if doE s r = true then (doR s r, true) else runS rest (doR s r)
theorem doR_len (s : Stp) (r : List Int) : (doR s r).length = 9 := by unfold doR; split <;> rfl
theorem stpDrop {l : List Stp} {k : Nat} (h : k < l.length) : l.drop k = l.getD k (dflt StepT) :: l.drop (k + 1) := by
  rw [List.drop_eq_getElem_cons h, List.getD_eq_getElem?_getD, List.getElem?_eq_getElem h]; rfl
def tellR (x : Cyc) (r : List Int) (D : Int) : List Int := if x.1 = 1 ∧ 0 ≤ x.2.2.1 ∧ x.2.2.1 < 9 then r.set x.2.2.1.toNat D else r
def tellF (c : Cpu) (k : Kor) (data : Int) : Kor :=
  if k.2.1 = -1 then (fitR k.1, if hasI c (data % 256) = true then (if 0 < (findI c (data % 256)).2.2.2.length then data % 256 else -1) else 259, 0, k.2.2.2)
  else if canB c k.2.1 k.2.2.1 = true then
    (if (runS (doF c k.2.1 k.2.2.1).2.2.2 (tellR (doF c k.2.1 k.2.2.1) (fitR k.1) (data % 256))).2 = true ∨ k.2.2.1 + 1 ≥ (cycF c k.2.1).length
     then ((runS (doF c k.2.1 k.2.2.1).2.2.2 (tellR (doF c k.2.1 k.2.2.1) (fitR k.1) (data % 256))).1, -1, 0, k.2.2.2)
     else ((runS (doF c k.2.1 k.2.2.1).2.2.2 (tellR (doF c k.2.1 k.2.2.1) (fitR k.1) (data % 256))).1, k.2.1, k.2.2.1 + 1, k.2.2.2))
  else if k.2.1 = 259 then (fitR k.1, 259, k.2.2.1, k.2.2.2) else (fitR k.1, -1, 0, k.2.2.2)
def tellP (c : Cpu) (k : Kor) : Prop := cpuOk c ∧ (okCyc c.2.2.1 ∧ okCyc c.2.2.2.1 ∧ okCyc c.2.2.2.2) ∧ k.1.length = 9
theorem okCyc_F {c : Cpu} (h : cpuOk c) (h2 : okCyc c.2.2.1 ∧ okCyc c.2.2.2.1 ∧ okCyc c.2.2.2.2) (op : Int) : okCyc (cycF c op) := by
  unfold cycF
  split
  · exact h2.2.1
  · split
    · exact h2.2.2
    · split
      · exact h2.1
      · split
        · rename_i x hx
          exact h.2 x (List.mem_of_find?_eq_some hx)
        · exact ⟨by simp, fun x hx => by cases hx⟩
theorem cycD_mem {l : List Cyc} {k : Nat} (h : k < l.length) : l.getD k cycD ∈ l := by
  rw [List.getD_eq_getElem?_getD, List.getElem?_eq_getElem h]
  exact List.getElem_mem h
theorem doF_len {c : Cpu} {op at_ : Int} (h : okCyc (cycF c op)) : (doF c op at_).2.2.2.length * 32 ≤ 140737488351232 := by
  unfold doF
  by_cases hb : canB c op at_ = true
  · rw [if_pos hb]
    have : 0 ≤ at_ ∧ at_ < (cycF c op).length := by
      unfold canB at hb
      simp at hb
      exact hb.2
    exact h.2 _ (cycD_mem (by omega))
  · rw [if_neg hb]; simp [cycD]
theorem agg_kor {x y : Kor} (h : x = y) : AV.agg [.run .i64 9 x.1, iv .i64 x.2.1, iv .i64 x.2.2.1, bv x.2.2.2] = AV.agg [.run .i64 9 y.1, iv .i64 y.2.1, iv .i64 y.2.2.1, bv y.2.2.2] := by rw [h]
def tellS : PSpec := ⟨[gCpu, gK, gi], fun (c, k, d, _) => (some (tellP c k), .agg [.run .i64 9 (tellF c k d).1, iv .i64 (tellF c k d).2.1, iv .i64 (tellF c k d).2.2.1, bv (tellF c k d).2.2.2], [])⟩
def endedS : PSpec := ⟨[gCpu, gK], fun (c, k, _) => (none, .agg [.run .i64 9 k.1, iv .i64 (if k.2.1 = 259 then 259 else -1), iv .i64 (if k.2.1 = 259 then k.2.2.1 else 0), bv k.2.2.2], [])⟩
theorem ended_ok : GoodF Try.prog 105 endedS.spec := by
  have hT := tab_ok (fs := []) tree_ok
  have hP : SpecsOk Try.prog (tab tree []) := specs_nil
  refine endedS.good (fn := Try.f105) hT hP Try.func105 (by kernel_rfl) rfl fun (c : Cpu) (k : Kor) hq => ?_
  obtain ⟨r, op, at_, nmi⟩ := k
  repeat' first
    | (refine Go.mk ?_; conv => whnf)
    | refine Need.go ?_ ?_
    | refine NilG.go (fun _ => ?_) (fun _ => ?_)
    | refine Br.dec (fun _ => ?_) (fun _ => ?_)
    | refine Br.go (fun _ => ?_) (fun _ => ?_)
    | refine draw_go hT hP mixed ?_
    | refine round_go hT hP ?_
  all_goals first
    | exact of_decide_eq_true rfl
    | skip
  all_goals (refine .mk [] [] _ rfl rfl rfl rfl rfl rfl (aggK (x := (r, if op = 259 then 259 else -1, if op = 259 then at_ else 0, nmi)) ?_))
  all_goals (simp_all)
theorem tellF_idle {c : Cpu} {r : List Int} {op at_ d : Int} {nmi : Bool} (h : op = -1) : tellF c (r, op, at_, nmi) d = (fitR r, if hasI c (d % 256) = true then (if 0 < (findI c (d % 256)).2.2.2.length then d % 256 else -1) else 259, 0, nmi) := by
  unfold tellF; rw [if_pos h]
theorem tellF_ended {c : Cpu} {r : List Int} {op at_ d : Int} {nmi : Bool} (h : ¬ op = -1) (hb : canB c op at_ = false) : tellF c (r, op, at_, nmi) d = (fitR r, if op = 259 then 259 else -1, if op = 259 then at_ else 0, nmi) := by
  unfold tellF
  rw [if_neg h, if_neg (by show ¬ canB c op at_ = true; rw [hb]; decide)]
  by_cases h9 : op = 259
  · rw [if_pos h9, if_pos h9, if_pos h9]
  · rw [if_neg h9, if_neg h9, if_neg h9]
theorem tellF_run {c : Cpu} {r z : List Int} {op at_ d : Int} {nmi e : Bool} {x : Cyc} (h : ¬ op = -1) (hb : canB c op at_ = true) (hx : doF c op at_ = x) (hz : runS x.2.2.2 (tellR x (fitR r) (d % 256)) = (z, e)) :
    tellF c (r, op, at_, nmi) d = if e = true ∨ at_ + 1 ≥ (cycF c op).length then (z, -1, 0, nmi) else (z, op, at_ + 1, nmi) := by
  unfold tellF
  rw [if_neg h, if_pos (show canB c op at_ = true from hb)]
  show (if (runS (doF c op at_).2.2.2 (tellR (doF c op at_) (fitR r) (d % 256))).2 = true ∨ _ then _ else _) = _
  rw [hx, hz]
theorem canB_in {c : Cpu} {op at_ : Int} (h : canB c op at_ = true) : 0 ≤ at_ ∧ at_ < (cycF c op).length := by
  unfold canB at h
  simp at h
  exact h.2
set_option maxHeartbeats 8000000 in
theorem tell_ok : GoodF Try.prog 80 tellS.spec := by
  have hT := tab_ok (fs := [(100, fitS.spec), (79, lowM.spec), (27, tfindS.spec), (103, doingS.spec), (105, endedS.spec), (106, doS.spec), (107, cycS.spec)]) tree_ok
  have hP : SpecsOk Try.prog (tab tree [(100, fitS.spec), (79, lowM.spec), (27, tfindS.spec), (103, doingS.spec), (105, endedS.spec), (106, doS.spec), (107, cycS.spec)]) := specs_cons aFit_ok (specs_cons lowM_ok (specs_cons tfind_ok (specs_cons doing_ok (specs_cons ended_ok (specs_cons do_ok (specs_cons cyc_ok specs_nil))))))
  refine tellS.good (fn := Try.f80) hT hP Try.func80 (by kernel_rfl) rfl fun (c : Cpu) (k : Kor) (data : Int) hq => ?_
  obtain ⟨cn, ci, cr, cq, cm⟩ := c
  obtain ⟨r, op, at_, nmi⟩ := k
  obtain ⟨h1, h2, h3⟩ : tellP (cn, ci, cr, cq, cm) (r, op, at_, nmi) := hq _ rfl
  clear hq
  have hC := okCyc_F h1 h2 op
  have hS := doF_len (at_ := at_) hC
  have h1' : ci.length * 56 ≤ 140737488351232 := h1.1
  repeat' first
    | (refine Go.mk ?_; conv => whnf)
    | refine Need.go ?_ ?_
    | refine NilG.go (fun _ => ?_) (fun _ => ?_)
    | refine Br.dec (fun _ => ?_) (fun _ => ?_)
    | refine Br.go (fun _ => ?_) (fun _ => ?_)
    | refine draw_go hT hP mixed ?_
    | refine round_go hT hP ?_
  all_goals first
    | exact of_decide_eq_true rfl
    | exact h3
    | exact h1
    | skip
  all_goals (try simp only [castL_eq] at *)
  all_goals (try dsimp only at *)
  all_goals (have h8 : data % 2 ^ (Int.toNat 8) = data % 256 := rfl)
  all_goals (try simp only [h8] at *)
  all_goals clear h8
  all_goals first
    | (show ci.length ≤ 4611686018427387904
       omega)
    | (show 0 ≤ (doF (cn, ci, cr, cq, cm) op at_).2.2.1 ∧ (doF (cn, ci, cr, cq, cm) op at_).2.2.1 < ((9 : Nat) : Int)
       omega)
    | (show (doF (cn, ci, cr, cq, cm) op at_).2.2.1.toNat < 9
       omega)
    | (refine .mk [] [] _ rfl rfl rfl rfl rfl rfl (aggK ?_)
       rw [tellF_idle (by assumption)]
       simp_all
       done)
    | (refine .mk [] [] _ rfl rfl rfl rfl rfl rfl (aggK ?_)
       rw [tellF_ended (by assumption) (by simp_all)]
       done)
    | skip
  all_goals
    have hb : canB (cn, ci, cr, cq, cm) op at_ = true := by simp_all
    have hin := canB_in hb
    have hCl : (cycF (cn, ci, cr, cq, cm) op).length * 48 ≤ 140737488351232 := hC.1
    have ewa : IntKind.i64.wrap (at_ + 1) = at_ + 1 := w64 (by omega) (by omega)
  all_goals first
    | (have hR : tellR (doF (cn, ci, cr, cq, cm) op at_) (fitR r) (data % 256) = ((fitR r).set (doF (cn, ci, cr, cq, cm) op at_).2.2.1.toNat (data % 256)) := if_pos ⟨by assumption, by omega, by omega⟩
       refine up_go hT hP (doF (cn, ci, cr, cq, cm) op at_).2.2.2.length (fun i (z : List Int) => St.mk [.dead, .dead, .dead, .cell (.ptr 0 0), .cell (.ptr 1 0), .dead, .cell (.ptr 2 0), .dead, .dead, .dead, .dead, .dead, .dead, .dead, .dead, .dead, .dead, .dead, .dead, .dead, .dead, .dead, .dead, .dead, .dead, .dead, .dead, .dead, .dead, .dead, .dead, .dead, .dead, .dead, .dead, .dead, .dead, .dead, .dead, .dead, .dead, .dead, .dead, .dead, .dead, .dead, .dead, .dead, .dead, .dead, .dead, .dead, .dead, .dead, .dead, .dead, .dead, .dead, .dead, .dead, .dead, .dead, .dead, .dead, .dead, .dead, .dead, .dead, .dead, .dead, .dead, .dead, .dead, .dead, .dead, .dead, .dead, .cell (.ro StepT (doF (cn, ci, cr, cq, cm) op at_).2.2.2), I ((doF (cn, ci, cr, cq, cm) op at_).2.2.2.length : Int), I i, .dead, .dead, .dead, .dead, .dead, .dead, .dead, .dead, .dead, .dead, .dead, .dead, .dead, .dead, .dead, .dead, .dead, .dead, .dead, .dead, .dead, .dead, .dead, .dead, .dead, .dead, .dead, .dead] [some (.var [.imm (.string cn), .ro InsT ci, .ro CycT cr, .ro CycT cq, .ro CycT cm]), some (.var [.run .i64 9 z, iv .i64 op, iv .i64 (IntKind.i64.wrap (at_ + 1)), bv nmi]), some (.var [.run .i64 9 [0, 0, 0, 0, 0, 0, 0, 0, 0], iv .i64 0, iv .i64 0, bv false])]) (fun j z => runS ((doF (cn, ci, cr, cq, cm) op at_).2.2.2.drop j) z = runS (doF (cn, ci, cr, cq, cm) op at_).2.2.2 (tellR (doF (cn, ci, cr, cq, cm) op at_) (fitR r) (data % 256)) ∧ z.length = 9) ((fitR r).set (doF (cn, ci, cr, cq, cm) op at_).2.2.1.toNat (data % 256)) (Le.mk [] [0, 1, 2] rfl rfl (by exact rfl) (by repeat' first | exact trivial | exact ⟨rfl, rfl⟩ | refine And.intro ?_ ?_)) ⟨by rw [hR]; rfl, by rw [List.length_set]; rfl⟩ fun j z hj hi => ?_)
    | (have hR : tellR (doF (cn, ci, cr, cq, cm) op at_) (fitR r) (data % 256) = fitR r := if_neg (fun ⟨a, b, c⟩ => by omega)
       refine up_go hT hP (doF (cn, ci, cr, cq, cm) op at_).2.2.2.length (fun i (z : List Int) => St.mk [.dead, .dead, .dead, .cell (.ptr 0 0), .cell (.ptr 1 0), .dead, .cell (.ptr 2 0), .dead, .dead, .dead, .dead, .dead, .dead, .dead, .dead, .dead, .dead, .dead, .dead, .dead, .dead, .dead, .dead, .dead, .dead, .dead, .dead, .dead, .dead, .dead, .dead, .dead, .dead, .dead, .dead, .dead, .dead, .dead, .dead, .dead, .dead, .dead, .dead, .dead, .dead, .dead, .dead, .dead, .dead, .dead, .dead, .dead, .dead, .dead, .dead, .dead, .dead, .dead, .dead, .dead, .dead, .dead, .dead, .dead, .dead, .dead, .dead, .dead, .dead, .dead, .dead, .dead, .dead, .dead, .dead, .dead, .dead, .cell (.ro StepT (doF (cn, ci, cr, cq, cm) op at_).2.2.2), I ((doF (cn, ci, cr, cq, cm) op at_).2.2.2.length : Int), I i, .dead, .dead, .dead, .dead, .dead, .dead, .dead, .dead, .dead, .dead, .dead, .dead, .dead, .dead, .dead, .dead, .dead, .dead, .dead, .dead, .dead, .dead, .dead, .dead, .dead, .dead, .dead, .dead] [some (.var [.imm (.string cn), .ro InsT ci, .ro CycT cr, .ro CycT cq, .ro CycT cm]), some (.var [.run .i64 9 z, iv .i64 op, iv .i64 (IntKind.i64.wrap (at_ + 1)), bv nmi]), some (.var [.run .i64 9 [0, 0, 0, 0, 0, 0, 0, 0, 0], iv .i64 0, iv .i64 0, bv false])]) (fun j z => runS ((doF (cn, ci, cr, cq, cm) op at_).2.2.2.drop j) z = runS (doF (cn, ci, cr, cq, cm) op at_).2.2.2 (tellR (doF (cn, ci, cr, cq, cm) op at_) (fitR r) (data % 256)) ∧ z.length = 9) (fitR r) (Le.mk [] [0, 1, 2] rfl rfl (by exact rfl) (by repeat' first | exact trivial | exact ⟨rfl, rfl⟩ | refine And.intro ?_ ?_)) ⟨by rw [hR]; rfl, rfl⟩ fun j z hj hi => ?_)
    | skip
  all_goals
    obtain ⟨hi, hz⟩ := hi
    repeat' first
      | (refine Go.mk ?_; conv => whnf)
      | refine Need.go ?_ ?_
      | refine NilG.go (fun _ => ?_) (fun _ => ?_)
      | refine Br.dec (fun _ => ?_) (fun _ => ?_)
      | refine Br.go (fun _ => ?_) (fun _ => ?_)
      | refine draw_go hT hP mixed ?_
      | refine round_go hT hP ?_
  all_goals (try simp only [castL_eq] at *)
  all_goals (try dsimp only at *)
  all_goals first
    | exact of_decide_eq_true rfl
    | exact hz
    | (show ci.length ≤ 4611686018427387904
       omega)
    | (show 0 ≤ (j : Int) ∧ (j : Int) < ((doF (cn, ci, cr, cq, cm) op at_).2.2.2.length : Int)
       omega)
    | (show j < (doF (cn, ci, cr, cq, cm) op at_).2.2.2.length
       omega)
    | skip
  all_goals clear hT hP
  all_goals first
    | (rename_i g1 h
       have g1 : (j : Int) < ((doF (cn, ci, cr, cq, cm) op at_).2.2.2.length : Int) := g1
       have he : doE ((doF (cn, ci, cr, cq, cm) op at_).2.2.2.getD j (dflt StepT)) z = true := h
       have hrun : runS (doF (cn, ci, cr, cq, cm) op at_).2.2.2 (tellR (doF (cn, ci, cr, cq, cm) op at_) (fitR r) (data % 256)) = (doR ((doF (cn, ci, cr, cq, cm) op at_).2.2.2.getD j (dflt StepT)) z, true) := by
         rw [← hi, stpDrop (by omega), runS, if_pos he]
       refine .mk [] [] _ rfl rfl rfl rfl rfl rfl (aggK ?_)
       rw [tellF_run (by assumption) hb rfl hrun, if_pos (.inl rfl)]; rfl)
    | (rename_i g1 h
       have g1 : (j : Int) < ((doF (cn, ci, cr, cq, cm) op at_).2.2.2.length : Int) := g1
       have he : ¬ doE ((doF (cn, ci, cr, cq, cm) op at_).2.2.2.getD j (dflt StepT)) z = true := fun e => by
         have h : doE ((doF (cn, ci, cr, cq, cm) op at_).2.2.2.getD j (dflt StepT)) z = false := h
         rw [h] at e; cases e
       apply Exists.intro
       apply Exists.intro (doR ((doF (cn, ci, cr, cq, cm) op at_).2.2.2.getD j (dflt StepT)) z)
       refine And.intro (And.intro ?lt (And.intro ?ei ?inv)) (Le.mk [] [0, 1, 2] rfl rfl ?hh ?ht)
       case hh => exact rfl
       case ht => repeat' first | exact trivial | exact ⟨rfl, rfl⟩ | refine And.intro ?_ ?_
       case lt => omega
       case ei => exact up_i (by omega)
       case inv =>
         rw [stpDrop (by omega), runS, if_neg he] at hi
         exact ⟨hi, doR_len _ _⟩)
    | (rename_i g1 h
       have g1 : ¬ (j : Int) < ((doF (cn, ci, cr, cq, cm) op at_).2.2.2.length : Int) := g1
       have h : IntKind.i64.wrap (at_ + 1) ≥ ((cycF (cn, ci, cr, cq, cm) op).length : Int) := h
       rw [ewa] at h
       have hrun : runS (doF (cn, ci, cr, cq, cm) op at_).2.2.2 (tellR (doF (cn, ci, cr, cq, cm) op at_) (fitR r) (data % 256)) = (z, false) := by
         rw [← hi, List.drop_of_length_le (by omega)]; rfl
       refine .mk [] [] _ rfl rfl rfl rfl rfl rfl (aggK ?_)
       rw [tellF_run (by assumption) hb rfl hrun, if_pos (.inr h)])
    | (rename_i g1 h
       have g1 : ¬ (j : Int) < ((doF (cn, ci, cr, cq, cm) op at_).2.2.2.length : Int) := g1
       have h : ¬ IntKind.i64.wrap (at_ + 1) ≥ ((cycF (cn, ci, cr, cq, cm) op).length : Int) := h
       have hrun : runS (doF (cn, ci, cr, cq, cm) op at_).2.2.2 (tellR (doF (cn, ci, cr, cq, cm) op at_) (fitR r) (data % 256)) = (z, false) := by
         rw [← hi, List.drop_of_length_le (by omega)]; rfl
       refine .mk [] [] _ rfl rfl rfl rfl rfl rfl (aggK ?_)
       rw [tellF_run (by assumption) hb rfl hrun, ewa, if_neg (fun e => e.elim (fun e => by cases e) (fun e => h (by rw [ewa]; exact e)))])
    | skip
  all_goals trace_state

end Go.Proofs.Ytanaaecfghmmaaa

/- Tables of instructions compared: steps, cycles. -/
namespace Go.Proofs.Ytanaaecfghmmaaa
open Go.Fw
set_option linter.unusedVariables false
set_option linter.unusedSimpArgs false
set_option linter.constructorNameAsVariable false
set_option maxRecDepth 100000

theorem eq_take {α : Type} {l m : List α} (h : l.length = m.length) {k : Nat} (hk : ¬ k < l.length) (h2 : l.take k = m.take k) : l = m := by
  rwa [List.take_of_length_le (by omega), List.take_of_length_le (by omega)] at h2
theorem take_eq {α : Type} {l m : List α} {k : Nat} (d : α) (h : k < l.length) (h3 : k < m.length) (h2 : l.take k = m.take k) (he : l.getD k d = m.getD k d) : l.take (k + 1) = m.take (k + 1) := by
  rw [List.getD_eq_getElem?_getD, List.getD_eq_getElem?_getD, List.getElem?_eq_getElem h, List.getElem?_eq_getElem h3] at he
  rw [List.take_add_one, List.take_add_one, h2, List.getElem?_eq_getElem h, List.getElem?_eq_getElem h3]
  have he : l[k] = m[k] := he
  rw [he]
theorem ne_at {α : Type} {l m : List α} {k : Nat} (d : α) (he : l.getD k d ≠ m.getD k d) : l ≠ m := fun e => he (by rw [e])
theorem stp_eq {x y : Stp} : denEq StepT x y = true ↔ x = y :=
  ⟨fun h => denEq_eq (u := StepT) rfl h, fun h => by subst h; simp [denEq]⟩
def eqStpS : PSpec := ⟨[⟨false, .sl StepT⟩, ⟨false, .sl StepT⟩], fun (l, m, _) => (some (List.length l ≤ 4611686018427387904), .cell (bv (decide ((l : List Stp) = m))), [])⟩
theorem eqStp_ok : GoodF Try.prog 68 eqStpS.spec := by
  have hT := tab_ok (fs := []) tree_ok
  have hP : SpecsOk Try.prog (tab tree []) := specs_nil
  refine eqStpS.good (fn := Try.f68) hT hP Try.func68 (by kernel_rfl) rfl fun (l m : List Stp) hq => ?_
  have hl : l.length ≤ 4611686018427387904 := hq _ rfl
  clear hq
  repeat' first
    | (refine Go.mk ?_; conv => whnf)
    | refine Need.go ?_ ?_
    | refine NilG.go (fun _ => ?_) (fun _ => ?_)
    | refine Br.dec (fun _ => ?_) (fun _ => ?_)
    | refine Br.go (fun _ => ?_) (fun _ => ?_)
    | refine draw_go hT hP mixed ?_
    | refine round_go hT hP ?_
  all_goals first
    | exact of_decide_eq_true rfl
    | skip
  · rename_i h
    have h : (l.length : Int) ≠ (m.length : Int) := by simpa using h
    refine .mk [] [] _ rfl rfl rfl rfl rfl rfl (imm_bool ?_)
    exact (decide_eq_false (fun e => h (by rw [e]))).symm
  rename_i h
  have h : (l.length : Int) = (m.length : Int) := by simpa using h
  have hm : l.length = m.length := by omega
  refine up_go hT hP (A := Unit) l.length (fun i _ => St.mk [.cell (.ro StepT l), .cell (.ro StepT m), .dead, .dead, .dead, .dead, .dead, .dead, .dead, .dead, .dead, .dead, I (l.length : Int), I i, .dead, .dead, .dead, .dead, .dead, .dead, .dead, .dead, .dead, .dead, .dead, .dead] [])
    (fun k _ => l.take k = m.take k) () (Le.mk [] [] rfl rfl rfl ?_) (by simp) fun k _ hk hi => ?_
  · repeat' first | exact trivial | exact ⟨rfl, rfl⟩ | refine And.intro ?_ ?_
  repeat' first
    | (refine Go.mk ?_; conv => whnf)
    | refine Need.go ?_ ?_
    | refine NilG.go (fun _ => ?_) (fun _ => ?_)
    | refine Br.dec (fun _ => ?_) (fun _ => ?_)
    | refine Br.go (fun _ => ?_) (fun _ => ?_)
    | refine draw_go hT hP mixed ?_
    | refine round_go hT hP ?_
  all_goals clear hT hP
  all_goals first
    | exact of_decide_eq_true rfl
    | (rename_i g1
       have g1 : (k : Int) < (l.length : Int) := g1
       show 0 ≤ (k : Int) ∧ (k : Int) < (l.length : Int)
       omega)
    | (rename_i g1
       have g1 : (k : Int) < (l.length : Int) := g1
       show 0 ≤ (k : Int) ∧ (k : Int) < (m.length : Int)
       omega)
    | (rename_i g1 h2
       have g1 : (k : Int) < (l.length : Int) := g1
       have h2 : (!denEq StepT (l.getD k (dflt StepT)) (m.getD k (dflt StepT))) = true := h2
       have hne : l.getD k (dflt StepT) ≠ m.getD k (dflt StepT) := fun e => by
         rw [stp_eq.2 e] at h2; cases h2
       refine .mk [] [] _ rfl rfl rfl rfl rfl rfl (imm_bool ?_)
       exact (decide_eq_false (ne_at (dflt StepT) hne)).symm)
    | (rename_i g1 h2
       have g1 : (k : Int) < (l.length : Int) := g1
       have h2 : (!denEq StepT (l.getD k (dflt StepT)) (m.getD k (dflt StepT))) = false := h2
       have he : l.getD k (dflt StepT) = m.getD k (dflt StepT) := stp_eq.1 (by simpa using h2)
       apply Exists.intro
       apply Exists.intro ()
       refine And.intro (And.intro ?lt (And.intro ?ei ?inv)) (Le.mk [] [] rfl rfl ?hh ?ht)
       case hh => exact rfl
       case ht => repeat' first | exact trivial | exact ⟨rfl, rfl⟩ | refine And.intro ?_ ?_
       case lt => omega
       case ei => exact up_i (by omega)
       case inv => exact take_eq (dflt StepT) (by omega) (by omega) hi he)
    | (rename_i g1
       have g1 : ¬ (k : Int) < (l.length : Int) := g1
       refine .mk [] [] _ rfl rfl rfl rfl rfl rfl (imm_bool ?_)
       exact (decide_eq_true (eq_take hm (by omega) hi)).symm)
    | skip
  all_goals trace_state

abbrev gCy : Sig := ⟨true, CycT⟩
def cycB (x y : Cyc) : Bool := decide (x.1 = y.1) && (decide (x.2.1 = y.2.1) && (decide (x.2.2.1 = y.2.2.1) && decide (x.2.2.2 = y.2.2.2)))
theorem cycB_iff {x y : Cyc} : cycB x y = true ↔ x = y := by
  obtain ⟨a, b, c, l⟩ := x
  obtain ⟨a', b', c', l'⟩ := y
  simp [cycB, Prod.mk.injEq]
def eqCycS : PSpec := ⟨[gCy, gCy], fun (x, y, _) => (some (x.2.2.2.length ≤ 4611686018427387904), .cell (bv (cycB x y)), [])⟩
theorem eqCyc2_ok : GoodF Try.prog 67 eqCycS.spec := by
  have hT := tab_ok (fs := [(68, eqStpS.spec)]) tree_ok
  have hP : SpecsOk Try.prog (tab tree [(68, eqStpS.spec)]) := specs_cons eqStp_ok specs_nil
  refine eqCycS.good (fn := Try.f67) hT hP Try.func67 (by kernel_rfl) rfl fun (x y : Cyc) hq => ?_
  obtain ⟨a, b, c, l⟩ := x
  obtain ⟨a', b', c', l'⟩ := y
  have hl : l.length ≤ 4611686018427387904 := hq _ rfl
  clear hq
  repeat' first
    | (refine Go.mk ?_; conv => whnf)
    | refine Need.go ?_ ?_
    | refine NilG.go (fun _ => ?_) (fun _ => ?_)
    | refine Br.dec (fun _ => ?_) (fun _ => ?_)
    | refine Br.go (fun _ => ?_) (fun _ => ?_)
    | refine draw_go hT hP mixed ?_
    | refine round_go hT hP ?_
  all_goals first
    | exact of_decide_eq_true rfl
    | exact hl
    | skip
  all_goals (refine .mk [] [] _ rfl rfl rfl rfl rfl rfl (imm_bool ?_))
  all_goals clear hT hP
  all_goals (show _ = (decide (a = a') && (decide (b = b') && (decide (c = c') && decide (l = l')))))
  all_goals (try simp only [castL_eq] at *)
  all_goals (simp_all)
  all_goals (by_cases h : l = l' <;> simp [h])

noncomputable def eqB {α : Type} (x y : α) : Bool := @decide (x = y) (Classical.propDecidable _)
theorem eqB_t {α : Type} {x y : α} (h : x = y) : eqB x y = true := @decide_eq_true _ (Classical.propDecidable _) h
theorem eqB_f {α : Type} {x y : α} (h : x ≠ y) : eqB x y = false := @decide_eq_false _ (Classical.propDecidable _) h
theorem eqB_iff {α : Type} {x y : α} : eqB x y = true ↔ x = y := ⟨fun h => @of_decide_eq_true _ (Classical.propDecidable _) h, eqB_t⟩
structure EqcX where
  g : Nat
  l : List Cyc
  m : List Cyc
def eqcRd : List V1 → List Blk → Option EqcX := fun a b => match a, b with
  | [.c (.ro (.pair (.int .i64) (.pair (.int .i64) (.pair (.int .i64) (.sl (.pair (.int .i64) (.pair (.int .i64) (.pair (.int .i64) (.int .i64)))))))) l), .c (.ro (.pair (.int .i64) (.pair (.int .i64) (.pair (.int .i64) (.sl (.pair (.int .i64) (.pair (.int .i64) (.pair (.int .i64) (.int .i64)))))))) m), .c (.fn g [])], [] => some ⟨g, l, m⟩
  | _, _ => none
theorem eqcRd_ok {a : List V1} {b : List Blk} {x : EqcX} (h : eqcRd a b = some x) : a = [.c (.ro CycT x.l), .c (.ro CycT x.m), .c (.fn x.g [])] ∧ b = [] := by
  unfold eqcRd at h
  split at h
  · injection h with h; subst h; exact ⟨rfl, rfl⟩
  · cases h
end Go.Proofs.Ytanaaecfghmmaaa

/- Slices cloned (printed by gensl.py). -/
namespace Go.Proofs.Ytanaaecfghmmaaa
open Go.Fw
set_option linter.unusedVariables false
set_option linter.unusedSimpArgs false
set_option linter.constructorNameAsVariable false
set_option maxRecDepth 100000
def clDevS : PSpec := ⟨[⟨false, .sl (DevT)⟩], fun (l, _) => (some (List.length l * 48 ≤ 140737488351232), .cell (.own 0), [.arr (DevT) l])⟩
def clIntS : PSpec := ⟨[⟨false, .sl (.int .i64)⟩], fun (l, _) => (some (List.length l * 8 ≤ 140737488351232), .cell (.own 0), [.arr (.int .i64) l])⟩
def clByteS : PSpec := ⟨[⟨false, .sl (.int .u8)⟩], fun (l, _) => (some (List.length l * 1 ≤ 140737488351232), .cell (.own 0), [.arr (.int .u8) l])⟩
theorem clByte_ok : GoodF Try.prog 52 clByteS.spec := by
  have hT := tab_ok (fs := []) tree_ok
  have hP : SpecsOk Try.prog (tab tree []) := specs_nil
  refine clByteS.good (fn := Try.f52) hT hP Try.func52 (by kernel_rfl) rfl fun (l : List (Den (.int .u8))) hq => ?_
  have hl : l.length * 1 ≤ 140737488351232 := hq _ rfl
  clear hq
  repeat' first
    | (refine Go.mk ?_; conv => whnf)
    | refine Need.go ?_ ?_
    | refine NilG.go (fun _ => ?_) (fun _ => ?_)
    | refine Br.dec (fun _ => ?_) (fun _ => ?_)
    | refine Br.go (fun _ => ?_) (fun _ => ?_)
    | refine draw_go hT hP mixed ?_
    | refine round_go hT hP ?_
  all_goals first
    | exact of_decide_eq_true rfl
    | skip
  · rename_i h
    obtain rfl : l = [] := List.eq_nil_of_length_eq_zero h
    exact .le (Le.nil 2 (.int .u8) rfl) (.mk [] [0] _ rfl rfl rfl rfl rfl rfl rfl)
  · show (0 + l.length) * 1 ≤ 140737488355328
    omega
  · exact .mk [] [1] _ rfl rfl rfl rfl rfl rfl rfl

end Go.Proofs.Ytanaaecfghmmaaa

