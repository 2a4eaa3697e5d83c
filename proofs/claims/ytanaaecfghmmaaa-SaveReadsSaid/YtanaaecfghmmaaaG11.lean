/- Part 11 of the proof: Kind3 Board TabCyc TabCyc2 Wires TabIx TabChk Finds0 Taken. No statement is handed in here; conditions: none. -/
import Derived.Test.YtanaaecfghmmaaaG10
import Derived.Test.YtanaaecfghmmaaaG7
import Derived.Test.YtanaaecfghmmaaaG9
import Derived.Test.YtanaaecfghmmaaaG8
import Derived.Test.YtanaaecfghmmaaaG6
/- New states of chips; a byte of RAM is read back. -/
namespace Go.Proofs.Ytanaaecfghmmaaa
open Go.Fw
set_option linter.unusedVariables false
set_option linter.unusedSimpArgs false
set_option linter.constructorNameAsVariable false
set_option maxRecDepth 100000

def freshF (c : Cv) : Dv := sel c.2.1 (memN c [], memM c c.2.2.2.2) ([0, 0, 0, 0], []) ([255, 0, 0], []) ([0, 0, 0, 0, 0, 0, 0, 0], []) ([2559, 0], List.replicate 32 0) (List.replicate 12 0, []) ([0, 0, 0, 0, 0, 0, 0, 0, 0, 0], dM c.2.2.2.2) ([], [])
theorem dN_zero (q : Nat) : dN [] q = [0, 0, 0, 0, 0, 0, 0, 0, 0, 0] := by
  unfold dN
  have h : ¬ ((([] : List Int).getD 0 0) % 256 > (q : Int)) := by show ¬ (0 : Int) > q; omega
  rw [if_neg h]; rfl
theorem ffM {c : Cv} (h : c.2.1 = 0 ∨ c.2.1 = 1 ∨ c.2.1 = 2 ∨ c.2.1 = 8) : formF c ([], c.2.2.2.2) = freshF c := by
  obtain ⟨cn, ck, cb, cs, cd⟩ := c
  have h : ck = 0 ∨ ck = 1 ∨ ck = 2 ∨ ck = 8 := h
  rcases h with rfl | rfl | rfl | rfl
  · rfl
  · rfl
  · rfl
  · show (dN [] (qF cd), dM cd) = _
    rw [dN_zero]; rfl
theorem vN_nil : vN [] = [2559, 0] := rfl
theorem vM_nil : vM [] = List.replicate 32 0 := rfl
theorem sndN_nil : sndN [] = List.replicate 12 0 := rfl
theorem ffX {c : Cv} (h : ¬ (c.2.1 = 0 ∨ c.2.1 = 1 ∨ c.2.1 = 2 ∨ c.2.1 = 8 ∨ c.2.1 = 4)) : formF c ([], []) = freshF c := by
  obtain ⟨cn, ck, cb, cs, cd⟩ := c
  have h : ¬ (ck = 0 ∨ ck = 1 ∨ ck = 2 ∨ ck = 8 ∨ ck = 4) := h
  rcases kinds ck with rfl | rfl | rfl | rfl | rfl | rfl | rfl | rfl | rfl | hx
  · exact absurd (by decide) h
  · exact absurd (by decide) h
  · exact absurd (by decide) h
  · rfl
  · exact absurd (by decide) h
  · rfl
  · show (vN [], vM []) = ([2559, 0], List.replicate 32 0)
    rw [vN_nil, vM_nil]
  · show (sndN [], []) = (List.replicate 12 0, [])
    rw [sndN_nil]
  · exact absurd (by decide) h
  · unfold formF freshF; rw [sel_x hx, sel_x hx]
theorem blk_dv {x y : Dv} (h : x = y) : [some (Blk.arr (.int .i64) x.1), some (Blk.arr (.int .u8) x.2)] = [some (Blk.arr (.int .i64) y.1), some (Blk.arr (.int .u8) y.2)] := by rw [h]
def kFreshS : PSpec := ⟨[gC], fun (c, _) => (some (cP c), devM, [.arr (.int .i64) (freshF c).1, .arr (.int .u8) (freshF c).2])⟩
def cNewS : PSpec := ⟨[gC], fun (c, _) => (some (cP c), devM, [.arr (.int .i64) (freshF c).1, .arr (.int .u8) (freshF c).2])⟩
theorem memN_zero (c : Cv) (h : c.2.1 = 2) : memN c [] = [0] := by unfold memN; rw [if_pos h]; show [0 % bankI c] = [0]; rw [Int.zero_emod]
def ramC : Cv := (⟨#[97]⟩, 0, 0, 4, [])
def chipsS : PSpec := ⟨[], fun _ => (none, .cell (bv true), [])⟩
theorem ramC_ok : cP ramC := ⟨⟨by decide, by decide⟩, ⟨by decide, by decide⟩, by decide⟩
theorem ram_dP1 : dP (freshF ramC) := ⟨by decide +kernel, by unfold u8s; decide +kernel⟩
theorem ram_dP2 : dP (storeF ramC (freshF ramC) 2 9) := ⟨by decide +kernel, by unfold u8s; decide +kernel⟩
theorem freshF_len (c : Cv) : (freshF c).1.length ≤ 12 := by
  obtain ⟨cn, ck, cb, cs, cd⟩ := c
  rcases kinds ck with rfl | rfl | rfl | rfl | rfl | rfl | rfl | rfl | rfl | hx
  · exact Nat.zero_le _
  · exact Nat.zero_le _
  · show (memN (cn, 2, cb, cs, cd) []).length ≤ 12
    unfold memN; split <;> (show _ ≤ 12; simp)
  · exact (by decide : ([0, 0, 0, 0] : List Int).length ≤ 12)
  · exact (by decide : ([255, 0, 0] : List Int).length ≤ 12)
  · exact (by decide : ([0, 0, 0, 0, 0, 0, 0, 0] : List Int).length ≤ 12)
  · exact (by decide : ([2559, 0] : List Int).length ≤ 12)
  · exact (by decide : (List.replicate 12 (0 : Int)).length ≤ 12)
  · exact (by decide : ([0, 0, 0, 0, 0, 0, 0, 0, 0, 0] : List Int).length ≤ 12)
  · unfold freshF; rw [sel_x hx]; decide
theorem memM_le {c : Cv} (h : cP c) (M : List Int) : (memM c M).length ≤ 140737488355328 := by
  obtain ⟨h1, h2⟩ := bytesI_in h.2.2
  rw [memM_len]; omega
theorem freshF_lenM {c : Cv} (h : cP c) : (freshF c).2.length ≤ 140737488355328 := by
  obtain ⟨cn, ck, cb, cs, cd⟩ := c
  rcases kinds ck with rfl | rfl | rfl | rfl | rfl | rfl | rfl | rfl | rfl | hx
  · exact memM_le h _
  · exact memM_le h _
  · exact memM_le h _
  · exact Nat.zero_le _
  · exact Nat.zero_le _
  · exact Nat.zero_le _
  · exact (by decide : (List.replicate 32 (0 : Int)).length ≤ 140737488355328)
  · exact Nat.zero_le _
  · show (dM cd).length ≤ _
    have := qF_le cd
    have h2 : cd.length ≤ 140737488351232 := h.2.2
    rw [dM_len]; omega
  · unfold freshF; rw [sel_x hx]; exact Nat.zero_le _
def ccS : PSpec := ⟨[gC], fun (c, _) => (some (cP c), .cell (bv true), [])⟩
end Go.Proofs.Ytanaaecfghmmaaa

/- Boards: which chip has an address. -/
namespace Go.Proofs.Ytanaaecfghmmaaa
open Go.Fw
set_option linter.unusedVariables false
set_option linter.unusedSimpArgs false
set_option linter.constructorNameAsVariable false
set_option maxRecDepth 100000

abbrev ChipT : Ty := .pair .str (.pair (.int .i64) (.pair (.int .i64) (.pair (.int .i64) (.sl (.int .u8)))))
abbrev WireT : Ty := .pair .str .str
abbrev Wr := ByteArray × ByteArray
abbrev BoardT : Ty := .pair .str (.pair CpuT (.pair (.sl ChipT) (.sl WireT)))
abbrev gBd : Sig := ⟨true, BoardT⟩
abbrev Bd := ByteArray × Cpu × List Cv × List Wr

/-- the number of the first one that is so; -1: none -/
def fstG {α : Type} (p : α → Bool) : List α → Nat → Int
  | [], _ => -1
  | x :: r, k => if p x = true then (k : Int) else fstG p r (k + 1)
def fstI {α : Type} (p : α → Bool) (l : List α) : Int := fstG p l 0
theorem dropD {α : Type} {l : List α} {k : Nat} (d : α) (h : k < l.length) : l.drop k = l.getD k d :: l.drop (k + 1) := by
  rw [List.drop_eq_getElem_cons h, List.getD_eq_getElem?_getD, List.getElem?_eq_getElem h]; rfl
theorem fstG_in {α : Type} {p : α → Bool} : ∀ {l : List α} {k : Nat}, fstG p l k = -1 ∨ ((k : Int) ≤ fstG p l k ∧ fstG p l k < k + l.length)
  | [], k => .inl rfl
  | x :: r, k => by
    unfold fstG
    by_cases h : p x = true
    · rw [if_pos h]; right; simp only [List.length_cons]; omega
    · rw [if_neg h]
      rcases fstG_in (p := p) (l := r) (k := k + 1) with h1 | h1
      · exact .inl h1
      · right; simp only [List.length_cons]; omega
theorem fstI_in {α : Type} (p : α → Bool) (l : List α) : fstI p l = -1 ∨ (0 ≤ fstI p l ∧ fstI p l < l.length) := by
  have := fstG_in (p := p) (l := l) (k := 0)
  unfold fstI
  simpa using this
theorem fst_hit {α : Type} {p : α → Bool} {l : List α} {k : Nat} (d : α) (h : k < l.length) (hp : p (l.getD k d) = true) {r : Int} (hi : fstG p (l.drop k) k = r) : (k : Int) = r := by
  rw [dropD d h, fstG, if_pos hp] at hi; exact hi
theorem fst_miss {α : Type} {p : α → Bool} {l : List α} {k : Nat} (d : α) (h : k < l.length) (hp : ¬ p (l.getD k d) = true) {r : Int} (hi : fstG p (l.drop k) k = r) : fstG p (l.drop (k + 1)) (k + 1) = r := by
  rw [dropD d h, fstG, if_neg hp] at hi; exact hi
theorem fst_none {α : Type} {p : α → Bool} {l : List α} {k : Nat} (h : ¬ k < l.length) {r : Int} (hi : fstG p (l.drop k) k = r) : -1 = r := by
  rw [List.drop_of_length_le (by omega)] at hi; exact hi
theorem fst_get {α : Type} {p : α → Bool} (d : α) : ∀ {l : List α} {k : Nat}, 0 ≤ fstG p l k → p (l.getD (fstG p l k - k).toNat d) = true
  | [], k, h => by simp [fstG] at h
  | x :: r, k, h => by
    unfold fstG at h ⊢
    by_cases hx : p x = true
    · rw [if_pos hx]
      have : ((k : Int) - k).toNat = 0 := by omega
      rw [this]; exact hx
    · rw [if_neg hx] at h ⊢
      have h2 := fst_get (p := p) d (l := r) (k := k + 1) h
      have h3 := fstG_in (p := p) (l := r) (k := k + 1)
      have : (fstG p r (k + 1) - k).toNat = (fstG p r (k + 1) - ((k + 1 : Nat) : Int)).toNat + 1 := by omega
      rw [this]; exact h2
theorem fstI_get {α : Type} {p : α → Bool} (d : α) {l : List α} (h : 0 ≤ fstI p l) : p (l.getD (fstI p l).toNat d) = true := by
  have := fst_get (p := p) d (l := l) (k := 0) h
  have e : (fstG p l 0 - ((0 : Nat) : Int)).toNat = (fstI p l).toNat := by unfold fstI; omega
  rw [e] at this
  exact this

def ownB (a : Int) (c : Cv) : Bool := decide (c.2.2.1 ≤ a) && (decide (0 < c.2.2.2.1) && decide (a - c.2.2.1 < c.2.2.2.1))
def findF (b : Bd) (a : Int) : Int := fstI (ownB a) b.2.2.1
def atF (b : Bd) (a : Int) : Int := if 0 ≤ findF b a then a - (b.2.2.1.getD (findF b a).toNat (dflt ChipT)).2.2.1 else 0
def cI (c : Cv) : Prop := i64 c.2.2.1 ∧ i64 c.2.2.2.1
def bP (b : Bd) (a : Int) : Prop := b.2.2.1.length ≤ 4611686018427387904 ∧ i64 a ∧ ∀ c ∈ b.2.2.1, cI c
theorem memD' {α : Type} {l : List α} {k : Nat} (d : α) (h : k < l.length) : l.getD k d ∈ l := by
  rw [List.getD_eq_getElem?_getD, List.getElem?_eq_getElem h]; exact List.getElem_mem h
theorem u64w (x : Int) : IntKind.u64.wrap x = x % 18446744073709551616 := rfl
theorem hit_u {a b s : Int} (ha : i64 a) (hb : i64 b) (hs : i64 s) (h1 : a ≥ b) (h2 : s > 0) : (IntKind.u64.wrap (IntKind.u64.wrap a - IntKind.u64.wrap b) < IntKind.u64.wrap s) ↔ a - b < s := by
  unfold i64 at ha hb hs
  rw [u64w, u64w, u64w, u64w]
  omega
theorem tup3 {x x' y y' : Int} {b b' : Bool} (h1 : x = x') (h2 : y = y') (h3 : b = b') : AV.tup [I1 x, I1 y, .c (bv b)] = AV.tup [I1 x', I1 y', .c (bv b')] := by rw [h1, h2, h3]
def bfindS : PSpec := ⟨[gBd, gi], fun (b, a, _) => (some (bP b a), .tup [I1 (if 0 ≤ findF b a then findF b a else 0), I1 (atF b a), .c (bv (decide (0 ≤ findF b a)))], [])⟩
theorem bFind_ok : GoodF Try.prog 81 bfindS.spec := by
  have hT := tab_ok (fs := []) tree_ok
  have hP : SpecsOk Try.prog (tab tree []) := specs_nil
  refine bfindS.good (fn := Try.f81) hT hP Try.func81 (by kernel_rfl) rfl fun (b : Bd) (a : Int) hq => ?_
  obtain ⟨hl, ha, hc⟩ : bP b a := hq _ rfl
  obtain ⟨bn, bu, bc, bw⟩ := b
  have hl : bc.length ≤ 4611686018427387904 := hl
  have hc : ∀ c ∈ bc, cI c := hc
  clear hq
  repeat' first
    | (refine Go.mk ?_; conv => whnf)
    | refine Need.go ?_ ?_
    | refine NilG.go (fun _ => ?_) (fun _ => ?_)
    | refine Br.dec (fun _ => ?_) (fun _ => ?_)
    | refine Br.go (fun _ => ?_) (fun _ => ?_)
    | refine draw_go hT hP mixed ?_
    | refine round_go hT hP ?_
  refine up_go hT hP (A := Unit) bc.length (fun i _ => St.mk [.dead, I a, .dead, .dead, .dead, .dead, .dead, .dead, .dead, .dead, .cell (.ro ChipT bc), I bc.length, I i, .dead, .dead, .dead, .dead, .dead, .dead, .dead, .dead, .dead, .dead, .dead, .dead, .dead, .dead, .dead, .dead, .dead, .dead, .dead, .dead, .dead, .dead, .dead, .dead, .dead, .dead, .dead, .dead, .dead, .dead, .dead] [])
    (fun k _ => fstG (ownB a) (bc.drop k) k = fstI (ownB a) bc) () (Le.mk [] [] rfl rfl rfl ?_) rfl fun k _ hk hi => ?_
  · repeat' first | exact trivial | exact ⟨rfl, rfl⟩ | refine And.intro ?_ ?_
  repeat' first
    | (refine Go.mk ?_; conv => whnf)
    | refine Need.go ?_ ?_
    | refine NilG.go (fun _ => ?_) (fun _ => ?_)
    | refine Br.dec (fun _ => ?_) (fun _ => ?_)
    | refine Br.go (fun _ => ?_) (fun _ => ?_)
    | refine draw_go hT hP mixed ?_
    | refine round_go hT hP ?_
  all_goals (try dsimp only [castL_eq] at *)
  all_goals clear hT hP
  · rename_i g1
    have g1 : (k : Int) < (bc.length : Int) := g1
    show 0 ≤ (k : Int) ∧ (k : Int) < (bc.length : Int)
    omega
  · rename_i g1 g2 g3 g4
    have g1 : (k : Int) < (bc.length : Int) := g1
    have hlt : k < bc.length := by omega
    have hm := hc _ (memD' (dflt ChipT) hlt)
    have g2 : a ≥ (bc.getD k (dflt ChipT)).2.2.1 := g2
    have g3 : (bc.getD k (dflt ChipT)).2.2.2.1 > 0 := g3
    have g4 := (hit_u ha hm.1 hm.2 g2 g3).1 g4
    have hp : ownB a (bc.getD k (dflt ChipT)) = true := by
      unfold ownB; rw [decide_eq_true g2, decide_eq_true g3, decide_eq_true g4]; rfl
    have e := fst_hit (dflt ChipT) hlt hp hi
    have e1 : findF (bn, bu, bc, bw) a = (k : Int) := e.symm
    refine .mk [] [] _ rfl rfl rfl rfl rfl rfl (tup3 ?_ ?_ ?_)
    · show (k : Int) = if 0 ≤ findF (bn, bu, bc, bw) a then findF (bn, bu, bc, bw) a else 0
      rw [e1, if_pos (by omega)]
    · show IntKind.i64.wrap (a - (bc.getD k (dflt ChipT)).2.2.1) = atF (bn, bu, bc, bw) a
      unfold atF
      rw [e1, if_pos (by omega)]
      show _ = a - (bc.getD k (dflt ChipT)).2.2.1
      have h1 := ha.2
      have h2 := hm.1.1
      have h3 := hm.2.2
      unfold i64 at *
      exact w64 (by omega) (by omega)
    · show true = decide (0 ≤ findF (bn, bu, bc, bw) a)
      rw [e1]; exact (decide_eq_true (by omega)).symm
  · rename_i g1 g2 g3 g4
    have g1 : (k : Int) < (bc.length : Int) := g1
    have hlt : k < bc.length := by omega
    have hm := hc _ (memD' (dflt ChipT) hlt)
    have g2 : a ≥ (bc.getD k (dflt ChipT)).2.2.1 := g2
    have g3 : (bc.getD k (dflt ChipT)).2.2.2.1 > 0 := g3
    have g4 := fun z => g4 ((hit_u ha hm.1 hm.2 g2 g3).2 z)
    have hp : ¬ ownB a (bc.getD k (dflt ChipT)) = true := by
      unfold ownB; rw [decide_eq_false g4]; simp
    apply Exists.intro
    apply Exists.intro ()
    refine And.intro (And.intro ?lt146 (And.intro ?ei146 ?inv146)) (Le.mk [] [] rfl rfl ?hh146 ?ht146)
    case hh146 => exact rfl
    case ht146 => repeat' first | exact trivial | exact ⟨rfl, rfl⟩ | refine And.intro ?_ ?_
    case lt146 => omega
    case ei146 => exact up_i (by omega)
    exact fst_miss (dflt ChipT) hlt hp hi
  · rename_i g1 g2 g3
    have g1 : (k : Int) < (bc.length : Int) := g1
    have hlt : k < bc.length := by omega
    have g3 : ¬ (bc.getD k (dflt ChipT)).2.2.2.1 > 0 := g3
    have hp : ¬ ownB a (bc.getD k (dflt ChipT)) = true := by
      unfold ownB; rw [decide_eq_false g3]; simp
    apply Exists.intro
    apply Exists.intro ()
    refine And.intro (And.intro ?lt160 (And.intro ?ei160 ?inv160)) (Le.mk [] [] rfl rfl ?hh160 ?ht160)
    case hh160 => exact rfl
    case ht160 => repeat' first | exact trivial | exact ⟨rfl, rfl⟩ | refine And.intro ?_ ?_
    case lt160 => omega
    case ei160 => exact up_i (by omega)
    exact fst_miss (dflt ChipT) hlt hp hi
  · rename_i g1 g2
    have g1 : (k : Int) < (bc.length : Int) := g1
    have hlt : k < bc.length := by omega
    have g2 : ¬ a ≥ (bc.getD k (dflt ChipT)).2.2.1 := g2
    have hp : ¬ ownB a (bc.getD k (dflt ChipT)) = true := by
      unfold ownB; rw [decide_eq_false g2]; simp
    apply Exists.intro
    apply Exists.intro ()
    refine And.intro (And.intro ?lt174 (And.intro ?ei174 ?inv174)) (Le.mk [] [] rfl rfl ?hh174 ?ht174)
    case hh174 => exact rfl
    case ht174 => repeat' first | exact trivial | exact ⟨rfl, rfl⟩ | refine And.intro ?_ ?_
    case lt174 => omega
    case ei174 => exact up_i (by omega)
    exact fst_miss (dflt ChipT) hlt hp hi
  · rename_i g1
    have g1 : ¬ (k : Int) < (bc.length : Int) := g1
    have e := fst_none (by omega) hi
    have e1 : findF (bn, bu, bc, bw) a = -1 := e.symm
    refine .mk [] [] _ rfl rfl rfl rfl rfl rfl (tup3 ?_ ?_ ?_)
    · show 0 = if 0 ≤ findF (bn, bu, bc, bw) a then findF (bn, bu, bc, bw) a else 0
      rw [e1]; rfl
    · show 0 = atF (bn, bu, bc, bw) a
      unfold atF
      rw [e1]; rfl
    · show false = decide (0 ≤ findF (bn, bu, bc, bw) a)
      rw [e1]; rfl

theorem hit_last {a b s : Int} (ha : i64 a) (hb : i64 b) (hs : i64 s) (h1 : a ≥ b) (h2 : s > 0) : (a ≤ IntKind.i64.wrap (IntKind.i64.wrap (b + s) - 1) ∨ IntKind.i64.wrap (IntKind.i64.wrap (b + s) - 1) < b) ↔ a - b < s := by
  unfold i64 at ha hb hs
  rw [IntKind.wrap_i64, IntKind.wrap_i64]
  omega
def rownerS : PSpec := ⟨[gBd, gi], fun (b, a, _) => (some (bP b a), I (findF b a), [])⟩
def askK (k : Int) : Bool := decide (k = 3) || (decide (k = 5) || decide (k = 8))
def asksS : PSpec := ⟨[gi], fun (k, _) => (none, .cell (bv (askK k)), [])⟩
theorem bAsks_ok : GoodF Try.prog 44 asksS.spec := by
  have hT := tab_ok (fs := []) tree_ok
  have hP : SpecsOk Try.prog (tab tree []) := specs_nil
  refine asksS.good (fn := Try.f44) hT hP Try.func44 (by kernel_rfl) rfl fun (k : Int) _ => ?_
  repeat' first
    | (refine Go.mk ?_; conv => whnf)
    | refine Need.go ?_ ?_
    | refine NilG.go (fun _ => ?_) (fun _ => ?_)
    | refine Br.dec (fun _ => ?_) (fun _ => ?_)
    | refine Br.go (fun _ => ?_) (fun _ => ?_)
    | refine draw_go hT hP mixed ?_
    | refine round_go hT hP ?_
  all_goals (refine .mk [] [] _ rfl rfl rfl rfl rfl rfl (imm_bool ?_))
  all_goals (show _ = (decide (k = 3) || (decide (k = 5) || decide (k = 8))))
  all_goals clear hT hP
  all_goals (dsimp only [gi, Den] at *)
  all_goals (simp_all)
  all_goals (by_cases h : k = 8 <;> simp [h])
theorem rInterrupts_ok : GoodF Try.prog 45 asksS.spec := by
  have hT := tab_ok (fs := [(11, containsS.spec)]) tree_ok
  have hP : SpecsOk Try.prog (tab tree [(11, containsS.spec)]) := specs_cons contains_ok specs_nil
  refine asksS.good (fn := Try.f45) hT hP Try.func45 (by kernel_rfl) rfl fun (k : Int) _ => ?_
  repeat' first
    | (refine Go.mk ?_; conv => whnf)
    | refine Need.go ?_ ?_
    | refine NilG.go (fun _ => ?_) (fun _ => ?_)
    | refine Br.dec (fun _ => ?_) (fun _ => ?_)
    | refine Br.go (fun _ => ?_) (fun _ => ?_)
    | refine draw_go hT hP mixed ?_
    | refine round_go hT hP ?_
  all_goals first
    | exact of_decide_eq_true rfl
    | skip
  refine .mk [] [] _ rfl rfl rfl rfl rfl rfl (imm_bool ?_)
  show ([3, 5, 8].any fun a => decide (k = a)) = _
  simp only [List.any_cons, List.any_nil, Bool.or_false]
  rfl

end Go.Proofs.Ytanaaecfghmmaaa

/- Cycles: are they well-formed? -/
namespace Go.Proofs.Ytanaaecfghmmaaa
open Go.Fw
set_option linter.unusedVariables false
set_option linter.unusedSimpArgs false
set_option linter.constructorNameAsVariable false
set_option maxRecDepth 100000

/-- the first thing that is wrong, of a list -/
def errL {α : Type} (f : α → Int) : List α → Int
  | [] => 0
  | x :: r => if f x = 0 then errL f r else f x
theorem errL_ok {α : Type} {f : α → Int} {l : List α} {k : Nat} (d : α) (h : k < l.length) (h0 : f (l.getD k d) = 0) : errL f (l.drop k) = errL f (l.drop (k + 1)) := by
  rw [List.drop_eq_getElem_cons h]
  rw [List.getD_eq_getElem?_getD, List.getElem?_eq_getElem h] at h0
  exact if_pos h0
theorem errL_no {α : Type} {f : α → Int} {l : List α} {k : Nat} (d : α) (h : k < l.length) (h0 : f (l.getD k d) ≠ 0) : errL f (l.drop k) = f (l.getD k d) := by
  rw [List.getD_eq_getElem?_getD, List.getElem?_eq_getElem h] at h0 ⊢
  rw [List.drop_eq_getElem_cons h]
  exact if_neg h0
def headE (c : Cyc) : Int := if c.1 < 0 ∨ c.1 > 2 then 8 else if c.1 = 0 ∧ (c.2.1 ≠ 0 ∨ c.2.2.1 ≠ 0) then 3 else if c.2.1 < 0 ∨ c.2.1 > 11 ∨ ¬ (0 ≤ c.2.2.1 ∧ c.2.2.1 ≤ 6) then 1 else if c.2.2.2.length > 6 then 2 else 0
def cycE (c : Cyc) : Int := if headE c = 0 then errL stpE c.2.2.2 else headE c
def cycsE (l : List Cyc) : Int := if l.length > 8 then 2 else errL cycE l
theorem headE_len {c : Cyc} (h : headE c = 0) : c.2.2.2.length ≤ 6 := by
  unfold headE at h
  repeat' split at h
  all_goals first
    | omega
    | cases h
abbrev gCyc1 : Sig := ⟨true, CycT⟩
def tcycleS : PSpec := ⟨[gCyc1], fun (c, _) => (none, I (cycE c), [])⟩
set_option maxHeartbeats 2000000 in
theorem tcycle_ok : GoodF Try.prog 92 tcycleS.spec := by
  have hT := tab_ok (fs := [(114, tregS.spec), (25, wideS.spec), (115, tstepS.spec)]) tree_ok
  have hP : SpecsOk Try.prog (tab tree [(114, tregS.spec), (25, wideS.spec), (115, tstepS.spec)]) := specs_cons treg_ok (specs_cons tWide_ok (specs_cons tstep_ok specs_nil))
  refine tcycleS.good (fn := Try.f92) hT hP Try.func92 (by kernel_rfl) rfl fun (c : Cyc) _ => ?_
  obtain ⟨cb, ca, cr, cs⟩ := c
  repeat' first
    | (refine Go.mk ?_; conv => whnf)
    | refine Need.go ?_ ?_
    | refine NilG.go (fun _ => ?_) (fun _ => ?_)
    | refine Br.dec (fun _ => ?_) (fun _ => ?_)
    | refine Br.go (fun _ => ?_) (fun _ => ?_)
    | refine draw_go hT hP mixed ?_
    | refine round_go hT hP ?_
  all_goals (try dsimp only [castL_eq] at *)
  all_goals first
    | (refine .mk [] [] _ rfl rfl rfl rfl rfl rfl (imm_int ?_)
       clear hT hP
       show _ = cycE (cb, ca, cr, cs)
       simp [cycE, headE, regB] at *
       first
         | omega
         | (simp_all; done)
         | (simp_all; omega))
    | skip
  all_goals
    have hE : headE (cb, ca, cr, cs) = 0 := by
      clear hT hP
      simp [headE, regB] at *
      first
        | omega
        | (simp_all; done)
        | (simp_all; omega)
  · have hn : cs.length ≤ 6 := headE_len hE
    have hC : cycE (cb, ca, cr, cs) = errL stpE cs := if_pos hE
    refine up_go hT hP (A := Unit) cs.length (fun i _ => St.mk [.dead, .dead, .dead, .dead, .dead, .dead, .dead, .dead, .dead, .dead, .dead, .dead, .dead, .dead, .dead, .dead, .dead, .dead, .dead, .dead, .dead, .dead, .dead, .dead, .dead, .dead, .dead, .dead, .dead, .dead, .dead, .dead, .dead, .dead, .dead, .dead, .dead, .dead, .dead, .dead, .dead, .dead, .dead, .dead, .dead, .dead, .dead, .dead, .dead, .dead, .dead, .dead, .dead, .dead, .dead, .cell (.ro StepT cs), I cs.length, I i, .dead, .dead, .dead, .dead, .dead, .dead, .dead, .dead, .dead] [])
      (fun k _ => errL stpE (cs.drop k) = errL stpE cs) () (Le.mk [] [] rfl rfl rfl ?_) rfl fun k _ hk hi => ?_
    · repeat' first | exact trivial | exact ⟨rfl, rfl⟩ | refine And.intro ?_ ?_
    repeat' first
      | (refine Go.mk ?_; conv => whnf)
      | refine Need.go ?_ ?_
      | refine NilG.go (fun _ => ?_) (fun _ => ?_)
      | refine Br.dec (fun _ => ?_) (fun _ => ?_)
      | refine Br.go (fun _ => ?_) (fun _ => ?_)
      | refine draw_go hT hP mixed ?_
      | refine round_go hT hP ?_
    all_goals clear hT hP
    · rename_i g
      have g : (k : Int) < (cs.length : Int) := g
      show 0 ≤ (k : Int) ∧ (k : Int) < (cs.length : Int)
      omega
    · rename_i g g2
      have g : (k : Int) < (cs.length : Int) := g
      have g2 : (stpE (cs.getD k (dflt StepT)) != 0) = true := g2
      refine .mk [] [] _ rfl rfl rfl rfl rfl rfl (imm_int ?_)
      show stpE (cs.getD k (dflt StepT)) = cycE (cb, ca, cr, cs)
      rw [hC, ← hi, errL_no (dflt StepT) (by omega) (by simpa using g2)]
    · rename_i g g2
      have g : (k : Int) < (cs.length : Int) := g
      have g2 : (stpE (cs.getD k (dflt StepT)) != 0) = false := g2
      apply Exists.intro
      apply Exists.intro ()
      refine And.intro (And.intro ?lt93 (And.intro ?ei93 ?inv93)) (Le.mk [] [] rfl rfl ?hh93 ?ht93)
      case hh93 => exact rfl
      case ht93 => repeat' first | exact trivial | exact ⟨rfl, rfl⟩ | refine And.intro ?_ ?_
      case lt93 => omega
      case ei93 => exact up_i (by omega)
      exact (errL_ok (dflt StepT) (by omega) (by simpa using g2)).symm.trans hi
    · rename_i g
      have g : ¬ (k : Int) < (cs.length : Int) := g
      refine .mk [] [] _ rfl rfl rfl rfl rfl rfl (imm_int ?_)
      show 0 = cycE (cb, ca, cr, cs)
      rw [hC, ← hi, List.drop_of_length_le (by omega)]; rfl
  · have hn : cs.length ≤ 6 := headE_len hE
    have hC : cycE (cb, ca, cr, cs) = errL stpE cs := if_pos hE
    refine up_go hT hP (A := Unit) cs.length (fun i _ => St.mk [.dead, .dead, .dead, .dead, .dead, .dead, .dead, .dead, .dead, .dead, .dead, .dead, .dead, .dead, .dead, .dead, .dead, .dead, .dead, .dead, .dead, .dead, .dead, .dead, .dead, .dead, .dead, .dead, .dead, .dead, .dead, .dead, .dead, .dead, .dead, .dead, .dead, .dead, .dead, .dead, .dead, .dead, .dead, .dead, .dead, .dead, .dead, .dead, .dead, .dead, .dead, .dead, .dead, .dead, .dead, .cell (.ro StepT cs), I cs.length, I i, .dead, .dead, .dead, .dead, .dead, .dead, .dead, .dead, .dead] [])
      (fun k _ => errL stpE (cs.drop k) = errL stpE cs) () (Le.mk [] [] rfl rfl rfl ?_) rfl fun k _ hk hi => ?_
    · repeat' first | exact trivial | exact ⟨rfl, rfl⟩ | refine And.intro ?_ ?_
    repeat' first
      | (refine Go.mk ?_; conv => whnf)
      | refine Need.go ?_ ?_
      | refine NilG.go (fun _ => ?_) (fun _ => ?_)
      | refine Br.dec (fun _ => ?_) (fun _ => ?_)
      | refine Br.go (fun _ => ?_) (fun _ => ?_)
      | refine draw_go hT hP mixed ?_
      | refine round_go hT hP ?_
    all_goals clear hT hP
    · rename_i g
      have g : (k : Int) < (cs.length : Int) := g
      show 0 ≤ (k : Int) ∧ (k : Int) < (cs.length : Int)
      omega
    · rename_i g g2
      have g : (k : Int) < (cs.length : Int) := g
      have g2 : (stpE (cs.getD k (dflt StepT)) != 0) = true := g2
      refine .mk [] [] _ rfl rfl rfl rfl rfl rfl (imm_int ?_)
      show stpE (cs.getD k (dflt StepT)) = cycE (cb, ca, cr, cs)
      rw [hC, ← hi, errL_no (dflt StepT) (by omega) (by simpa using g2)]
    · rename_i g g2
      have g : (k : Int) < (cs.length : Int) := g
      have g2 : (stpE (cs.getD k (dflt StepT)) != 0) = false := g2
      apply Exists.intro
      apply Exists.intro ()
      refine And.intro (And.intro ?lt133 (And.intro ?ei133 ?inv133)) (Le.mk [] [] rfl rfl ?hh133 ?ht133)
      case hh133 => exact rfl
      case ht133 => repeat' first | exact trivial | exact ⟨rfl, rfl⟩ | refine And.intro ?_ ?_
      case lt133 => omega
      case ei133 => exact up_i (by omega)
      exact (errL_ok (dflt StepT) (by omega) (by simpa using g2)).symm.trans hi
    · rename_i g
      have g : ¬ (k : Int) < (cs.length : Int) := g
      refine .mk [] [] _ rfl rfl rfl rfl rfl rfl (imm_int ?_)
      show 0 = cycE (cb, ca, cr, cs)
      rw [hC, ← hi, List.drop_of_length_le (by omega)]; rfl

def tcyclesS : PSpec := ⟨[⟨false, .sl CycT⟩], fun (l, _) => (none, I (cycsE l), [])⟩
theorem tcycles_ok : GoodF Try.prog 59 tcyclesS.spec := by
  have hT := tab_ok (fs := [(92, tcycleS.spec)]) tree_ok
  have hP : SpecsOk Try.prog (tab tree [(92, tcycleS.spec)]) := specs_cons tcycle_ok specs_nil
  refine tcyclesS.good (fn := Try.f59) hT hP Try.func59 (by kernel_rfl) rfl fun (l : List Cyc) _ => ?_
  repeat' first
    | (refine Go.mk ?_; conv => whnf)
    | refine Need.go ?_ ?_
    | refine NilG.go (fun _ => ?_) (fun _ => ?_)
    | refine Br.dec (fun _ => ?_) (fun _ => ?_)
    | refine Br.go (fun _ => ?_) (fun _ => ?_)
    | refine draw_go hT hP mixed ?_
    | refine round_go hT hP ?_
  · rename_i g
    have g : (l.length : Int) > 8 := g
    refine .mk [] [] _ rfl rfl rfl rfl rfl rfl (imm_int ?_)
    exact (if_pos (by omega) : cycsE l = 2).symm
  rename_i g0
  have g0 : ¬ (l.length : Int) > 8 := g0
  have hC : cycsE l = errL cycE l := if_neg (by omega)
  refine up_go hT hP (A := Unit) l.length (fun i _ => St.mk [.dead, .dead, .dead, .dead, .dead, .dead, .dead, .dead, .dead, .cell (.ro CycT l), I l.length, I i, .dead, .dead, .dead, .dead, .dead, .dead, .dead, .dead, .dead] [])
    (fun k _ => errL cycE (l.drop k) = errL cycE l) () (Le.mk [] [] rfl rfl rfl ?_) rfl fun k _ hk hi => ?_
  · repeat' first | exact trivial | exact ⟨rfl, rfl⟩ | refine And.intro ?_ ?_
  repeat' first
    | (refine Go.mk ?_; conv => whnf)
    | refine Need.go ?_ ?_
    | refine NilG.go (fun _ => ?_) (fun _ => ?_)
    | refine Br.dec (fun _ => ?_) (fun _ => ?_)
    | refine Br.go (fun _ => ?_) (fun _ => ?_)
    | refine draw_go hT hP mixed ?_
    | refine round_go hT hP ?_
  all_goals clear hT hP
  · rename_i g
    have g : (k : Int) < (l.length : Int) := g
    show 0 ≤ (k : Int) ∧ (k : Int) < (l.length : Int)
    omega
  · rename_i g g2
    have g : (k : Int) < (l.length : Int) := g
    have g2 : (cycE (l.getD k (dflt CycT)) != 0) = true := g2
    refine .mk [] [] _ rfl rfl rfl rfl rfl rfl (imm_int ?_)
    show cycE (l.getD k (dflt CycT)) = cycsE l
    rw [hC, ← hi, errL_no (dflt CycT) (by omega) (by simpa using g2)]
  · rename_i g g2
    have g : (k : Int) < (l.length : Int) := g
    have g2 : (cycE (l.getD k (dflt CycT)) != 0) = false := g2
    apply Exists.intro
    apply Exists.intro ()
    refine And.intro (And.intro ?lt192 (And.intro ?ei192 ?inv192)) (Le.mk [] [] rfl rfl ?hh192 ?ht192)
    case hh192 => exact rfl
    case ht192 => repeat' first | exact trivial | exact ⟨rfl, rfl⟩ | refine And.intro ?_ ?_
    case lt192 => omega
    case ei192 => exact up_i (by omega)
    exact (errL_ok (dflt CycT) (by omega) (by simpa using g2)).symm.trans hi
  · rename_i g
    have g : ¬ (k : Int) < (l.length : Int) := g
    refine .mk [] [] _ rfl rfl rfl rfl rfl rfl (imm_int ?_)
    show 0 = cycsE l
    rw [hC, ← hi, List.drop_of_length_le (by omega)]; rfl

end Go.Proofs.Ytanaaecfghmmaaa

/- Cycles: what the reference says. -/
namespace Go.Proofs.Ytanaaecfghmmaaa
open Go.Fw
set_option linter.unusedVariables false
set_option linter.unusedSimpArgs false
set_option linter.constructorNameAsVariable false
set_option maxRecDepth 100000

set_option maxHeartbeats 2000000 in
theorem rCycles_ok : GoodF Try.prog 61 tcyclesS.spec := by
  have hT := tab_ok (fs := [(72, narrowS.spec), (93, tstepS.spec)]) tree_ok
  have hP : SpecsOk Try.prog (tab tree [(72, narrowS.spec), (93, tstepS.spec)]) := specs_cons rNarrow_ok (specs_cons rStep_ok specs_nil)
  refine tcyclesS.good (fn := Try.f61) hT hP Try.func61 (by kernel_rfl) rfl fun (l : List Cyc) _ => ?_
  repeat' first
    | (refine Go.mk ?_; conv => whnf)
    | refine Need.go ?_ ?_
    | refine NilG.go (fun _ => ?_) (fun _ => ?_)
    | refine Br.dec (fun _ => ?_) (fun _ => ?_)
    | refine Br.go (fun _ => ?_) (fun _ => ?_)
    | refine draw_go hT hP mixed ?_
    | refine round_go hT hP ?_
  · rename_i g
    have g : (l.length : Int) > 8 := g
    refine .mk [] [] _ rfl rfl rfl rfl rfl rfl (imm_int ?_)
    exact (if_pos (by omega) : cycsE l = 2).symm
  rename_i g0
  have g0 : ¬ (l.length : Int) > 8 := g0
  have hC : cycsE l = errL cycE l := if_neg (by omega)
  refine up_go hT hP (A := Unit) l.length (fun i _ => St.mk [.dead, .dead, .dead, .dead, .dead, .dead, .dead, .dead, .dead, .dead, .dead, .cell (.ro CycT l), I l.length, I i, .dead, .dead, .dead, .dead, .dead, .dead, .dead, .dead, .dead, .dead, .dead, .dead, .dead, .dead, .dead, .dead, .dead, .dead, .dead, .dead, .dead, .dead, .dead, .dead, .dead, .dead, .dead, .dead, .dead, .dead, .dead, .dead, .dead, .dead, .dead, .dead, .dead, .dead, .dead, .dead, .dead, .dead, .dead, .dead, .dead, .dead, .dead, .dead, .dead, .dead, .dead, .dead, .dead, .dead, .dead, .dead, .dead, .dead, .dead, .dead, .dead, .dead, .dead, .dead, .dead] [])
    (fun k _ => errL cycE (l.drop k) = errL cycE l) () (Le.mk [] [] rfl rfl rfl ?_) rfl fun k _ hk hi => ?_
  · repeat' first | exact trivial | exact ⟨rfl, rfl⟩ | refine And.intro ?_ ?_
  have hH : ∀ c : Cyc, l.getD k (dflt CycT) = c → cycE c ≠ 0 → k < l.length → cycE c = cycsE l := fun c e h hk => by
    rw [hC, ← hi, errL_no (dflt CycT) hk (by rw [e]; exact h), e]
  have hN : ∀ c : Cyc, l.getD k (dflt CycT) = c → cycE c = 0 → k < l.length → errL cycE (l.drop (k + 1)) = errL cycE l := fun c e h hk => by
    rw [← hi, errL_ok (dflt CycT) hk (by rw [e]; exact h)]
  repeat' first
    | (refine Go.mk ?_; conv => whnf)
    | refine Need.go ?_ ?_
    | refine NilG.go (fun _ => ?_) (fun _ => ?_)
    | refine Br.dec (fun _ => ?_) (fun _ => ?_)
    | refine Br.go (fun _ => ?_) (fun _ => ?_)
    | refine draw_go hT hP mixed ?_
    | refine round_go hT hP ?_
  all_goals (try dsimp only [castL_eq] at *)
  all_goals (generalize hc : l.getD (k : Int).toNat (dflt CycT) = c at *; obtain ⟨cb, ca, cr, cs⟩ := c)
  · show 0 ≤ (k : Int) ∧ (k : Int) < (l.length : Int)
    omega
  all_goals first
    | (have hD : ∀ n : Int, n ≠ 0 → headE (cb, ca, cr, cs) = n → k < l.length → n = cycsE l := fun n hn e hk => by
         have e2 : cycE (cb, ca, cr, cs) = n := by
           unfold cycE; rw [if_neg (by rw [e]; exact hn)]; exact e
         rw [← e2]; exact hH _ hc (by rw [e2]; exact hn) hk
       refine .mk [] [] _ rfl rfl rfl rfl rfl rfl (imm_int (hD _ (by decide) ?_ (by omega)))
       clear hT hP hH hN hD
       simp [headE, narrowB] at *
       first
         | omega
         | (simp_all; done)
         | (simp_all; omega)
         | skip)
    | (have hE : headE (cb, ca, cr, cs) = 0 := by
         clear hT hP hH hN
         simp [headE, narrowB] at *
         first
           | omega
           | (simp_all; done)
           | (simp_all; omega)
         done)
    | skip
  · have hn : cs.length ≤ 6 := headE_len hE
    have hD : cycE (cb, ca, cr, cs) = errL stpE cs := if_pos hE
    have hk2 : k < l.length := by omega
    refine up_go hT hP (A := Unit) cs.length (fun i _ => St.mk [.dead, .dead, .dead, .dead, .dead, .dead, .dead, .dead, .dead, .dead, .dead, .cell (.ro CycT l), I l.length, I k, .dead, .dead, .dead, .dead, .dead, .dead, .dead, .dead, .dead, .dead, .dead, .dead, .dead, .dead, .dead, .dead, .dead, .dead, .dead, .dead, .dead, .dead, .dead, .dead, .dead, .dead, .dead, .dead, .dead, .dead, .dead, .dead, .dead, .dead, .dead, .dead, .dead, .dead, .dead, .dead, .dead, .dead, .dead, .dead, .dead, .dead, .dead, .dead, .dead, .dead, .dead, .dead, .cell (.ro StepT cs), I cs.length, I i, .dead, .dead, .dead, .dead, .dead, .dead, .dead, .dead, .dead, .dead] [])
      (fun j _ => errL stpE (cs.drop j) = errL stpE cs) () (Le.mk [] [] rfl rfl rfl ?_) rfl fun j _ hj hi2 => ?_
    · repeat' first | exact trivial | exact ⟨rfl, rfl⟩ | refine And.intro ?_ ?_
    repeat' first
      | (refine Go.mk ?_; conv => whnf)
      | refine Need.go ?_ ?_
      | refine NilG.go (fun _ => ?_) (fun _ => ?_)
      | refine Br.dec (fun _ => ?_) (fun _ => ?_)
      | refine Br.go (fun _ => ?_) (fun _ => ?_)
      | refine draw_go hT hP mixed ?_
      | refine round_go hT hP ?_
    all_goals clear hT hP
    · rename_i g
      have g : (j : Int) < (cs.length : Int) := g
      show 0 ≤ (j : Int) ∧ (j : Int) < (cs.length : Int)
      omega
    · rename_i g g2
      have g : (j : Int) < (cs.length : Int) := g
      have g2 : (stpE (cs.getD j (dflt StepT)) != 0) = true := g2
      have g3 : stpE (cs.getD j (dflt StepT)) ≠ 0 := by simpa using g2
      have e : stpE (cs.getD j (dflt StepT)) = cycE (cb, ca, cr, cs) := by
        rw [hD, ← hi2, errL_no (dflt StepT) (by omega) g3]
      refine .mk [] [] _ rfl rfl rfl rfl rfl rfl (imm_int ?_)
      show stpE (cs.getD j (dflt StepT)) = cycsE l
      rw [e]; exact hH _ hc (by rw [← e]; exact g3) hk2
    · rename_i g g2
      have g : (j : Int) < (cs.length : Int) := g
      have g2 : (stpE (cs.getD j (dflt StepT)) != 0) = false := g2
      apply Exists.intro
      apply Exists.intro ()
      refine And.intro (And.intro ?lt101 (And.intro ?ei101 ?inv101)) (Le.mk [] [] rfl rfl ?hh101 ?ht101)
      case hh101 => exact rfl
      case ht101 => repeat' first | exact trivial | exact ⟨rfl, rfl⟩ | refine And.intro ?_ ?_
      case lt101 => omega
      case ei101 => exact up_i (by omega)
      exact (errL_ok (dflt StepT) (by omega) (by simpa using g2)).symm.trans hi2
    · rename_i g
      have g : ¬ (j : Int) < (cs.length : Int) := g
      have e : cycE (cb, ca, cr, cs) = 0 := by
        rw [hD, ← hi2, List.drop_of_length_le (by omega)]; rfl
      apply Exists.intro
      apply Exists.intro ()
      refine And.intro (And.intro ?lt113 (And.intro ?ei113 ?inv113)) (Le.mk [] [] rfl rfl ?hh113 ?ht113)
      case hh113 => exact rfl
      case ht113 => repeat' first | exact trivial | exact ⟨rfl, rfl⟩ | refine And.intro ?_ ?_
      case lt113 => omega
      case ei113 => exact up_i (by omega)
      exact hN _ hc e hk2
  · have hn : cs.length ≤ 6 := headE_len hE
    have hD : cycE (cb, ca, cr, cs) = errL stpE cs := if_pos hE
    have hk2 : k < l.length := by omega
    refine up_go hT hP (A := Unit) cs.length (fun i _ => St.mk [.dead, .dead, .dead, .dead, .dead, .dead, .dead, .dead, .dead, .dead, .dead, .cell (.ro CycT l), I l.length, I k, .dead, .dead, .dead, .dead, .dead, .dead, .dead, .dead, .dead, .dead, .dead, .dead, .dead, .dead, .dead, .dead, .dead, .dead, .dead, .dead, .dead, .dead, .dead, .dead, .dead, .dead, .dead, .dead, .dead, .dead, .dead, .dead, .dead, .dead, .dead, .dead, .dead, .dead, .dead, .dead, .dead, .dead, .dead, .dead, .dead, .dead, .dead, .dead, .dead, .dead, .dead, .dead, .cell (.ro StepT cs), I cs.length, I i, .dead, .dead, .dead, .dead, .dead, .dead, .dead, .dead, .dead, .dead] [])
      (fun j _ => errL stpE (cs.drop j) = errL stpE cs) () (Le.mk [] [] rfl rfl rfl ?_) rfl fun j _ hj hi2 => ?_
    · repeat' first | exact trivial | exact ⟨rfl, rfl⟩ | refine And.intro ?_ ?_
    repeat' first
      | (refine Go.mk ?_; conv => whnf)
      | refine Need.go ?_ ?_
      | refine NilG.go (fun _ => ?_) (fun _ => ?_)
      | refine Br.dec (fun _ => ?_) (fun _ => ?_)
      | refine Br.go (fun _ => ?_) (fun _ => ?_)
      | refine draw_go hT hP mixed ?_
      | refine round_go hT hP ?_
    all_goals clear hT hP
    · rename_i g
      have g : (j : Int) < (cs.length : Int) := g
      show 0 ≤ (j : Int) ∧ (j : Int) < (cs.length : Int)
      omega
    · rename_i g g2
      have g : (j : Int) < (cs.length : Int) := g
      have g2 : (stpE (cs.getD j (dflt StepT)) != 0) = true := g2
      have g3 : stpE (cs.getD j (dflt StepT)) ≠ 0 := by simpa using g2
      have e : stpE (cs.getD j (dflt StepT)) = cycE (cb, ca, cr, cs) := by
        rw [hD, ← hi2, errL_no (dflt StepT) (by omega) g3]
      refine .mk [] [] _ rfl rfl rfl rfl rfl rfl (imm_int ?_)
      show stpE (cs.getD j (dflt StepT)) = cycsE l
      rw [e]; exact hH _ hc (by rw [← e]; exact g3) hk2
    · rename_i g g2
      have g : (j : Int) < (cs.length : Int) := g
      have g2 : (stpE (cs.getD j (dflt StepT)) != 0) = false := g2
      apply Exists.intro
      apply Exists.intro ()
      refine And.intro (And.intro ?lt152 (And.intro ?ei152 ?inv152)) (Le.mk [] [] rfl rfl ?hh152 ?ht152)
      case hh152 => exact rfl
      case ht152 => repeat' first | exact trivial | exact ⟨rfl, rfl⟩ | refine And.intro ?_ ?_
      case lt152 => omega
      case ei152 => exact up_i (by omega)
      exact (errL_ok (dflt StepT) (by omega) (by simpa using g2)).symm.trans hi2
    · rename_i g
      have g : ¬ (j : Int) < (cs.length : Int) := g
      have e : cycE (cb, ca, cr, cs) = 0 := by
        rw [hD, ← hi2, List.drop_of_length_le (by omega)]; rfl
      apply Exists.intro
      apply Exists.intro ()
      refine And.intro (And.intro ?lt164 (And.intro ?ei164 ?inv164)) (Le.mk [] [] rfl rfl ?hh164 ?ht164)
      case hh164 => exact rfl
      case ht164 => repeat' first | exact trivial | exact ⟨rfl, rfl⟩ | refine And.intro ?_ ?_
      case lt164 => omega
      case ei164 => exact up_i (by omega)
      exact hN _ hc e hk2
  · have hn : cs.length ≤ 6 := headE_len hE
    have hD : cycE (cb, ca, cr, cs) = errL stpE cs := if_pos hE
    have hk2 : k < l.length := by omega
    refine up_go hT hP (A := Unit) cs.length (fun i _ => St.mk [.dead, .dead, .dead, .dead, .dead, .dead, .dead, .dead, .dead, .dead, .dead, .cell (.ro CycT l), I l.length, I k, .dead, .dead, .dead, .dead, .dead, .dead, .dead, .dead, .dead, .dead, .dead, .dead, .dead, .dead, .dead, .dead, .dead, .dead, .dead, .dead, .dead, .dead, .dead, .dead, .dead, .dead, .dead, .dead, .dead, .dead, .dead, .dead, .dead, .dead, .dead, .dead, .dead, .dead, .dead, .dead, .dead, .dead, .dead, .dead, .dead, .dead, .dead, .dead, .dead, .dead, .dead, .dead, .cell (.ro StepT cs), I cs.length, I i, .dead, .dead, .dead, .dead, .dead, .dead, .dead, .dead, .dead, .dead] [])
      (fun j _ => errL stpE (cs.drop j) = errL stpE cs) () (Le.mk [] [] rfl rfl rfl ?_) rfl fun j _ hj hi2 => ?_
    · repeat' first | exact trivial | exact ⟨rfl, rfl⟩ | refine And.intro ?_ ?_
    repeat' first
      | (refine Go.mk ?_; conv => whnf)
      | refine Need.go ?_ ?_
      | refine NilG.go (fun _ => ?_) (fun _ => ?_)
      | refine Br.dec (fun _ => ?_) (fun _ => ?_)
      | refine Br.go (fun _ => ?_) (fun _ => ?_)
      | refine draw_go hT hP mixed ?_
      | refine round_go hT hP ?_
    all_goals clear hT hP
    · rename_i g
      have g : (j : Int) < (cs.length : Int) := g
      show 0 ≤ (j : Int) ∧ (j : Int) < (cs.length : Int)
      omega
    · rename_i g g2
      have g : (j : Int) < (cs.length : Int) := g
      have g2 : (stpE (cs.getD j (dflt StepT)) != 0) = true := g2
      have g3 : stpE (cs.getD j (dflt StepT)) ≠ 0 := by simpa using g2
      have e : stpE (cs.getD j (dflt StepT)) = cycE (cb, ca, cr, cs) := by
        rw [hD, ← hi2, errL_no (dflt StepT) (by omega) g3]
      refine .mk [] [] _ rfl rfl rfl rfl rfl rfl (imm_int ?_)
      show stpE (cs.getD j (dflt StepT)) = cycsE l
      rw [e]; exact hH _ hc (by rw [← e]; exact g3) hk2
    · rename_i g g2
      have g : (j : Int) < (cs.length : Int) := g
      have g2 : (stpE (cs.getD j (dflt StepT)) != 0) = false := g2
      apply Exists.intro
      apply Exists.intro ()
      refine And.intro (And.intro ?lt203 (And.intro ?ei203 ?inv203)) (Le.mk [] [] rfl rfl ?hh203 ?ht203)
      case hh203 => exact rfl
      case ht203 => repeat' first | exact trivial | exact ⟨rfl, rfl⟩ | refine And.intro ?_ ?_
      case lt203 => omega
      case ei203 => exact up_i (by omega)
      exact (errL_ok (dflt StepT) (by omega) (by simpa using g2)).symm.trans hi2
    · rename_i g
      have g : ¬ (j : Int) < (cs.length : Int) := g
      have e : cycE (cb, ca, cr, cs) = 0 := by
        rw [hD, ← hi2, List.drop_of_length_le (by omega)]; rfl
      apply Exists.intro
      apply Exists.intro ()
      refine And.intro (And.intro ?lt215 (And.intro ?ei215 ?inv215)) (Le.mk [] [] rfl rfl ?hh215 ?ht215)
      case hh215 => exact rfl
      case ht215 => repeat' first | exact trivial | exact ⟨rfl, rfl⟩ | refine And.intro ?_ ?_
      case lt215 => omega
      case ei215 => exact up_i (by omega)
      exact hN _ hc e hk2
  · have hn : cs.length ≤ 6 := headE_len hE
    have hD : cycE (cb, ca, cr, cs) = errL stpE cs := if_pos hE
    have hk2 : k < l.length := by omega
    refine up_go hT hP (A := Unit) cs.length (fun i _ => St.mk [.dead, .dead, .dead, .dead, .dead, .dead, .dead, .dead, .dead, .dead, .dead, .cell (.ro CycT l), I l.length, I k, .dead, .dead, .dead, .dead, .dead, .dead, .dead, .dead, .dead, .dead, .dead, .dead, .dead, .dead, .dead, .dead, .dead, .dead, .dead, .dead, .dead, .dead, .dead, .dead, .dead, .dead, .dead, .dead, .dead, .dead, .dead, .dead, .dead, .dead, .dead, .dead, .dead, .dead, .dead, .dead, .dead, .dead, .dead, .dead, .dead, .dead, .dead, .dead, .dead, .dead, .dead, .dead, .cell (.ro StepT cs), I cs.length, I i, .dead, .dead, .dead, .dead, .dead, .dead, .dead, .dead, .dead, .dead] [])
      (fun j _ => errL stpE (cs.drop j) = errL stpE cs) () (Le.mk [] [] rfl rfl rfl ?_) rfl fun j _ hj hi2 => ?_
    · repeat' first | exact trivial | exact ⟨rfl, rfl⟩ | refine And.intro ?_ ?_
    repeat' first
      | (refine Go.mk ?_; conv => whnf)
      | refine Need.go ?_ ?_
      | refine NilG.go (fun _ => ?_) (fun _ => ?_)
      | refine Br.dec (fun _ => ?_) (fun _ => ?_)
      | refine Br.go (fun _ => ?_) (fun _ => ?_)
      | refine draw_go hT hP mixed ?_
      | refine round_go hT hP ?_
    all_goals clear hT hP
    · rename_i g
      have g : (j : Int) < (cs.length : Int) := g
      show 0 ≤ (j : Int) ∧ (j : Int) < (cs.length : Int)
      omega
    · rename_i g g2
      have g : (j : Int) < (cs.length : Int) := g
      have g2 : (stpE (cs.getD j (dflt StepT)) != 0) = true := g2
      have g3 : stpE (cs.getD j (dflt StepT)) ≠ 0 := by simpa using g2
      have e : stpE (cs.getD j (dflt StepT)) = cycE (cb, ca, cr, cs) := by
        rw [hD, ← hi2, errL_no (dflt StepT) (by omega) g3]
      refine .mk [] [] _ rfl rfl rfl rfl rfl rfl (imm_int ?_)
      show stpE (cs.getD j (dflt StepT)) = cycsE l
      rw [e]; exact hH _ hc (by rw [← e]; exact g3) hk2
    · rename_i g g2
      have g : (j : Int) < (cs.length : Int) := g
      have g2 : (stpE (cs.getD j (dflt StepT)) != 0) = false := g2
      apply Exists.intro
      apply Exists.intro ()
      refine And.intro (And.intro ?lt254 (And.intro ?ei254 ?inv254)) (Le.mk [] [] rfl rfl ?hh254 ?ht254)
      case hh254 => exact rfl
      case ht254 => repeat' first | exact trivial | exact ⟨rfl, rfl⟩ | refine And.intro ?_ ?_
      case lt254 => omega
      case ei254 => exact up_i (by omega)
      exact (errL_ok (dflt StepT) (by omega) (by simpa using g2)).symm.trans hi2
    · rename_i g
      have g : ¬ (j : Int) < (cs.length : Int) := g
      have e : cycE (cb, ca, cr, cs) = 0 := by
        rw [hD, ← hi2, List.drop_of_length_le (by omega)]; rfl
      apply Exists.intro
      apply Exists.intro ()
      refine And.intro (And.intro ?lt266 (And.intro ?ei266 ?inv266)) (Le.mk [] [] rfl rfl ?hh266 ?ht266)
      case hh266 => exact rfl
      case ht266 => repeat' first | exact trivial | exact ⟨rfl, rfl⟩ | refine And.intro ?_ ?_
      case lt266 => omega
      case ei266 => exact up_i (by omega)
      exact hN _ hc e hk2
  · have hn : cs.length ≤ 6 := headE_len hE
    have hD : cycE (cb, ca, cr, cs) = errL stpE cs := if_pos hE
    have hk2 : k < l.length := by omega
    refine up_go hT hP (A := Unit) cs.length (fun i _ => St.mk [.dead, .dead, .dead, .dead, .dead, .dead, .dead, .dead, .dead, .dead, .dead, .cell (.ro CycT l), I l.length, I k, .dead, .dead, .dead, .dead, .dead, .dead, .dead, .dead, .dead, .dead, .dead, .dead, .dead, .dead, .dead, .dead, .dead, .dead, .dead, .dead, .dead, .dead, .dead, .dead, .dead, .dead, .dead, .dead, .dead, .dead, .dead, .dead, .dead, .dead, .dead, .dead, .dead, .dead, .dead, .dead, .dead, .dead, .dead, .dead, .dead, .dead, .dead, .dead, .dead, .dead, .dead, .dead, .cell (.ro StepT cs), I cs.length, I i, .dead, .dead, .dead, .dead, .dead, .dead, .dead, .dead, .dead, .dead] [])
      (fun j _ => errL stpE (cs.drop j) = errL stpE cs) () (Le.mk [] [] rfl rfl rfl ?_) rfl fun j _ hj hi2 => ?_
    · repeat' first | exact trivial | exact ⟨rfl, rfl⟩ | refine And.intro ?_ ?_
    repeat' first
      | (refine Go.mk ?_; conv => whnf)
      | refine Need.go ?_ ?_
      | refine NilG.go (fun _ => ?_) (fun _ => ?_)
      | refine Br.dec (fun _ => ?_) (fun _ => ?_)
      | refine Br.go (fun _ => ?_) (fun _ => ?_)
      | refine draw_go hT hP mixed ?_
      | refine round_go hT hP ?_
    all_goals clear hT hP
    · rename_i g
      have g : (j : Int) < (cs.length : Int) := g
      show 0 ≤ (j : Int) ∧ (j : Int) < (cs.length : Int)
      omega
    · rename_i g g2
      have g : (j : Int) < (cs.length : Int) := g
      have g2 : (stpE (cs.getD j (dflt StepT)) != 0) = true := g2
      have g3 : stpE (cs.getD j (dflt StepT)) ≠ 0 := by simpa using g2
      have e : stpE (cs.getD j (dflt StepT)) = cycE (cb, ca, cr, cs) := by
        rw [hD, ← hi2, errL_no (dflt StepT) (by omega) g3]
      refine .mk [] [] _ rfl rfl rfl rfl rfl rfl (imm_int ?_)
      show stpE (cs.getD j (dflt StepT)) = cycsE l
      rw [e]; exact hH _ hc (by rw [← e]; exact g3) hk2
    · rename_i g g2
      have g : (j : Int) < (cs.length : Int) := g
      have g2 : (stpE (cs.getD j (dflt StepT)) != 0) = false := g2
      apply Exists.intro
      apply Exists.intro ()
      refine And.intro (And.intro ?lt305 (And.intro ?ei305 ?inv305)) (Le.mk [] [] rfl rfl ?hh305 ?ht305)
      case hh305 => exact rfl
      case ht305 => repeat' first | exact trivial | exact ⟨rfl, rfl⟩ | refine And.intro ?_ ?_
      case lt305 => omega
      case ei305 => exact up_i (by omega)
      exact (errL_ok (dflt StepT) (by omega) (by simpa using g2)).symm.trans hi2
    · rename_i g
      have g : ¬ (j : Int) < (cs.length : Int) := g
      have e : cycE (cb, ca, cr, cs) = 0 := by
        rw [hD, ← hi2, List.drop_of_length_le (by omega)]; rfl
      apply Exists.intro
      apply Exists.intro ()
      refine And.intro (And.intro ?lt317 (And.intro ?ei317 ?inv317)) (Le.mk [] [] rfl rfl ?hh317 ?ht317)
      case hh317 => exact rfl
      case ht317 => repeat' first | exact trivial | exact ⟨rfl, rfl⟩ | refine And.intro ?_ ?_
      case lt317 => omega
      case ei317 => exact up_i (by omega)
      exact hN _ hc e hk2
  · have hn : cs.length ≤ 6 := headE_len hE
    have hD : cycE (cb, ca, cr, cs) = errL stpE cs := if_pos hE
    have hk2 : k < l.length := by omega
    refine up_go hT hP (A := Unit) cs.length (fun i _ => St.mk [.dead, .dead, .dead, .dead, .dead, .dead, .dead, .dead, .dead, .dead, .dead, .cell (.ro CycT l), I l.length, I k, .dead, .dead, .dead, .dead, .dead, .dead, .dead, .dead, .dead, .dead, .dead, .dead, .dead, .dead, .dead, .dead, .dead, .dead, .dead, .dead, .dead, .dead, .dead, .dead, .dead, .dead, .dead, .dead, .dead, .dead, .dead, .dead, .dead, .dead, .dead, .dead, .dead, .dead, .dead, .dead, .dead, .dead, .dead, .dead, .dead, .dead, .dead, .dead, .dead, .dead, .dead, .dead, .cell (.ro StepT cs), I cs.length, I i, .dead, .dead, .dead, .dead, .dead, .dead, .dead, .dead, .dead, .dead] [])
      (fun j _ => errL stpE (cs.drop j) = errL stpE cs) () (Le.mk [] [] rfl rfl rfl ?_) rfl fun j _ hj hi2 => ?_
    · repeat' first | exact trivial | exact ⟨rfl, rfl⟩ | refine And.intro ?_ ?_
    repeat' first
      | (refine Go.mk ?_; conv => whnf)
      | refine Need.go ?_ ?_
      | refine NilG.go (fun _ => ?_) (fun _ => ?_)
      | refine Br.dec (fun _ => ?_) (fun _ => ?_)
      | refine Br.go (fun _ => ?_) (fun _ => ?_)
      | refine draw_go hT hP mixed ?_
      | refine round_go hT hP ?_
    all_goals clear hT hP
    · rename_i g
      have g : (j : Int) < (cs.length : Int) := g
      show 0 ≤ (j : Int) ∧ (j : Int) < (cs.length : Int)
      omega
    · rename_i g g2
      have g : (j : Int) < (cs.length : Int) := g
      have g2 : (stpE (cs.getD j (dflt StepT)) != 0) = true := g2
      have g3 : stpE (cs.getD j (dflt StepT)) ≠ 0 := by simpa using g2
      have e : stpE (cs.getD j (dflt StepT)) = cycE (cb, ca, cr, cs) := by
        rw [hD, ← hi2, errL_no (dflt StepT) (by omega) g3]
      refine .mk [] [] _ rfl rfl rfl rfl rfl rfl (imm_int ?_)
      show stpE (cs.getD j (dflt StepT)) = cycsE l
      rw [e]; exact hH _ hc (by rw [← e]; exact g3) hk2
    · rename_i g g2
      have g : (j : Int) < (cs.length : Int) := g
      have g2 : (stpE (cs.getD j (dflt StepT)) != 0) = false := g2
      apply Exists.intro
      apply Exists.intro ()
      refine And.intro (And.intro ?lt356 (And.intro ?ei356 ?inv356)) (Le.mk [] [] rfl rfl ?hh356 ?ht356)
      case hh356 => exact rfl
      case ht356 => repeat' first | exact trivial | exact ⟨rfl, rfl⟩ | refine And.intro ?_ ?_
      case lt356 => omega
      case ei356 => exact up_i (by omega)
      exact (errL_ok (dflt StepT) (by omega) (by simpa using g2)).symm.trans hi2
    · rename_i g
      have g : ¬ (j : Int) < (cs.length : Int) := g
      have e : cycE (cb, ca, cr, cs) = 0 := by
        rw [hD, ← hi2, List.drop_of_length_le (by omega)]; rfl
      apply Exists.intro
      apply Exists.intro ()
      refine And.intro (And.intro ?lt368 (And.intro ?ei368 ?inv368)) (Le.mk [] [] rfl rfl ?hh368 ?ht368)
      case hh368 => exact rfl
      case ht368 => repeat' first | exact trivial | exact ⟨rfl, rfl⟩ | refine And.intro ?_ ?_
      case lt368 => omega
      case ei368 => exact up_i (by omega)
      exact hN _ hc e hk2
  · rename_i g
    have g : ¬ (k : Int) < (l.length : Int) := by assumption
    refine .mk [] [] _ rfl rfl rfl rfl rfl rfl (imm_int ?_)
    show 0 = cycsE l
    rw [hC, ← hi, List.drop_of_length_le (by omega)]; rfl

end Go.Proofs.Ytanaaecfghmmaaa

/- Wires: which are so. -/
namespace Go.Proofs.Ytanaaecfghmmaaa
open Go.Fw
set_option linter.unusedVariables false
set_option linter.unusedSimpArgs false
set_option linter.constructorNameAsVariable false
set_option maxRecDepth 100000

theorem fstG_any {α : Type} (p : α → Bool) : ∀ (l : List α) (k : Nat), decide (fstG p l k ≥ 0) = l.any p
  | [], k => rfl
  | x :: r, k => by
    unfold fstG
    by_cases h : p x = true
    · rw [if_pos h, List.any_cons, h, decide_eq_true (by omega)]; rfl
    · rw [if_neg h, List.any_cons, fstG_any p r (k + 1)]
      have : p x = false := by simpa using h
      rw [this]; rfl
theorem fst_any {α : Type} (p : α → Bool) (l : List α) : decide (fstI p l ≥ 0) = l.any p := fstG_any p l 0
def irqS : ByteArray := ⟨#[46, 105, 114, 113]⟩
def cpuIrq : ByteArray := ⟨#[99, 112, 117, 46, 105, 114, 113]⟩
def wireB (s : ByteArray) (w : Wr) : Bool := strEq w.1 s
def heardB (c : Cv) (w : Wr) : Bool := bif strEq w.1 (c.1 ++ irqS) then strEq w.2 cpuIrq else false
def looseB (c : Cv) (w : Wr) : Bool := strEq w.1 (c.1 ++ irqS)
def nameOk (c : Cv) : Prop := c.1.size < 4611686018427387900

def locRd : List V1 → List Blk → Option (Wr × ByteArray) := fun a b => match a, b with
  | [.agg [.imm (.string wa), .imm (.string wb)], .c (.ptr 0 0)], [.var [.imm (.string s)]] => some ((wa, wb), s)
  | _, _ => none
theorem locRd_ok {a : List V1} {b : List Blk} {x : Wr × ByteArray} (h : locRd a b = some x) : a = [.agg [.imm (.string x.1.1), .imm (.string x.1.2)], .c (.ptr 0 0)] ∧ b = [.var [.imm (.string x.2)]] := by
  unfold locRd at h
  split at h
  · injection h with h; subst h; exact ⟨rfl, rfl⟩
  · cases h
def locS : WSpec := ⟨Wr × ByteArray, fun x => [.agg [.imm (.string x.1.1), .imm (.string x.1.2)], .c (.ptr 0 0)], fun x => [.var [.imm (.string x.2)]], locRd,
  fun x => (some ((fun _ => True) x.2), .cell (bv (wireB x.2 x.1)), [some (.var [.imm (.string x.2)])], [])⟩
structure loX where
  l : List Wr
  d : ByteArray
def hecRd : List V1 → List Blk → Option (Wr × Cv) := fun a b => match a, b with
  | [.agg [.imm (.string wa), .imm (.string wb)], .c (.ptr 0 0)], [.var [.imm (.string cn), .imm (.int .i64 ck), .imm (.int .i64 cb), .imm (.int .i64 cs), .ro (.int .u8) cd]] => some ((wa, wb), (cn, ck, cb, cs, cd))
  | _, _ => none
theorem hecRd_ok {a : List V1} {b : List Blk} {x : Wr × Cv} (h : hecRd a b = some x) : a = [.agg [.imm (.string x.1.1), .imm (.string x.1.2)], .c (.ptr 0 0)] ∧ b = [.var [.imm (.string x.2.1), iv .i64 x.2.2.1, iv .i64 x.2.2.2.1, iv .i64 x.2.2.2.2.1, .ro (.int .u8) x.2.2.2.2.2]] := by
  unfold hecRd at h
  split at h
  · injection h with h; subst h; exact ⟨rfl, rfl⟩
  · cases h
def hecS : WSpec := ⟨Wr × Cv, fun x => [.agg [.imm (.string x.1.1), .imm (.string x.1.2)], .c (.ptr 0 0)], fun x => [.var [.imm (.string x.2.1), iv .i64 x.2.2.1, iv .i64 x.2.2.2.1, iv .i64 x.2.2.2.2.1, .ro (.int .u8) x.2.2.2.2.2]], hecRd,
  fun x => (some ((nameOk) x.2), .cell (bv (heardB x.2 x.1)), [some (.var [.imm (.string x.2.1), iv .i64 x.2.2.1, iv .i64 x.2.2.2.1, iv .i64 x.2.2.2.2.1, .ro (.int .u8) x.2.2.2.2.2])], [])⟩
structure heX where
  l : List Wr
  d : Cv
def bfcRd : List V1 → List Blk → Option (Wr × Cv) := fun a b => match a, b with
  | [.agg [.imm (.string wa), .imm (.string wb)], .c (.ptr 0 0)], [.var [.imm (.string cn), .imm (.int .i64 ck), .imm (.int .i64 cb), .imm (.int .i64 cs), .ro (.int .u8) cd]] => some ((wa, wb), (cn, ck, cb, cs, cd))
  | _, _ => none
theorem bfcRd_ok {a : List V1} {b : List Blk} {x : Wr × Cv} (h : bfcRd a b = some x) : a = [.agg [.imm (.string x.1.1), .imm (.string x.1.2)], .c (.ptr 0 0)] ∧ b = [.var [.imm (.string x.2.1), iv .i64 x.2.2.1, iv .i64 x.2.2.2.1, iv .i64 x.2.2.2.2.1, .ro (.int .u8) x.2.2.2.2.2]] := by
  unfold bfcRd at h
  split at h
  · injection h with h; subst h; exact ⟨rfl, rfl⟩
  · cases h
def bfcS : WSpec := ⟨Wr × Cv, fun x => [.agg [.imm (.string x.1.1), .imm (.string x.1.2)], .c (.ptr 0 0)], fun x => [.var [.imm (.string x.2.1), iv .i64 x.2.2.1, iv .i64 x.2.2.2.1, iv .i64 x.2.2.2.2.1, .ro (.int .u8) x.2.2.2.2.2]], bfcRd,
  fun x => (some ((nameOk) x.2), .cell (bv (looseB x.2 x.1)), [some (.var [.imm (.string x.2.1), iv .i64 x.2.2.1, iv .i64 x.2.2.2.1, iv .i64 x.2.2.2.2.1, .ro (.int .u8) x.2.2.2.2.2])], [])⟩
structure bfX where
  l : List Wr
  d : Cv
end Go.Proofs.Ytanaaecfghmmaaa

/- Instructions of the same name and mode (printed by genix2.py). -/
namespace Go.Proofs.Ytanaaecfghmmaaa
open Go.Fw
set_option linter.unusedVariables false
set_option linter.unusedSimpArgs false
set_option linter.constructorNameAsVariable false
set_option maxRecDepth 100000

def keyB (x y : Ins) : Bool := bif strEq y.2.1 x.2.1 then decide (y.2.2.1 = x.2.2.1) else false

def tkcRd : List V1 → List Blk → Option (Ins × Ins) := fun a b => match a, b with
  | [.agg [.imm (.int .i64 eo), .imm (.string en), .imm (.int .i64 em), .ro (.pair (.int .i64) (.pair (.int .i64) (.pair (.int .i64) (.sl (.pair (.int .i64) (.pair (.int .i64) (.pair (.int .i64) (.int .i64)))))))) ec], .c (.ptr 0 0)], [.var [.imm (.int .i64 co), .imm (.string cn), .imm (.int .i64 cm), .ro (.pair (.int .i64) (.pair (.int .i64) (.pair (.int .i64) (.sl (.pair (.int .i64) (.pair (.int .i64) (.pair (.int .i64) (.int .i64)))))))) cc]] => some ((eo, en, em, ec), (co, cn, cm, cc))
  | _, _ => none
theorem tkcRd_ok {a : List V1} {b : List Blk} {x : Ins × Ins} (h : tkcRd a b = some x) : a = [.agg [iv .i64 x.1.1, .imm (.string x.1.2.1), iv .i64 x.1.2.2.1, .ro CycT x.1.2.2.2], .c (.ptr 0 0)] ∧ b = [.var [iv .i64 x.2.1, .imm (.string x.2.2.1), iv .i64 x.2.2.2.1, .ro CycT x.2.2.2.2]] := by
  unfold tkcRd at h
  split at h
  · injection h with h; subst h; exact ⟨rfl, rfl⟩
  · cases h
def tkcS : WSpec := ⟨Ins × Ins, fun x => [.agg [iv .i64 x.1.1, .imm (.string x.1.2.1), iv .i64 x.1.2.2.1, .ro CycT x.1.2.2.2], .c (.ptr 0 0)], fun x => [.var [iv .i64 x.2.1, .imm (.string x.2.2.1), iv .i64 x.2.2.2.1, .ro CycT x.2.2.2.2]], tkcRd,
  fun x => (some ((fun _ => True) x.2), .cell (bv (keyB x.2 x.1)), [some (.var [iv .i64 x.2.1, .imm (.string x.2.2.1), iv .i64 x.2.2.2.1, .ro CycT x.2.2.2.2])], [])⟩
theorem tkc_ok : GoodF Try.prog 58 tkcS.spec := by
  have hT := tab_ok (fs := []) tree_ok
  have hP : SpecsOk Try.prog (tab tree []) := specs_nil
  refine tkcS.good (fn := Try.f58) hT hP Try.func58 (by kernel_rfl) rfl (fun _ _ _ h => tkcRd_ok h) fun (x : Ins × Ins) hq => ?_
  have hq : (fun _ => True) x.2 := hq _ rfl
  repeat' first
    | (refine Go.mk ?_; conv => whnf)
    | refine Need.go ?_ ?_
    | refine NilG.go (fun _ => ?_) (fun _ => ?_)
    | refine Br.dec (fun _ => ?_) (fun _ => ?_)
    | refine Br.go (fun _ => ?_) (fun _ => ?_)
    | refine draw_go hT hP mixed ?_
    | refine round_go hT hP ?_
  all_goals clear hT hP
  all_goals first
    | (rename_i g
       have g : strEq x.1.2.1 x.2.2.1 = true := g
       refine .mk [] [0] _ rfl rfl rfl rfl rfl rfl (imm_bool ?_)
       show _ = bif strEq x.1.2.1 x.2.2.1 then decide (x.1.2.2.1 = x.2.2.2.1) else false
       rw [g]; rfl)
    | (rename_i g
       have g : strEq x.1.2.1 x.2.2.1 = false := g
       refine .mk [] [0] _ rfl rfl rfl rfl rfl rfl (imm_bool ?_)
       show _ = bif strEq x.1.2.1 x.2.2.1 then decide (x.1.2.2.1 = x.2.2.2.1) else false
       rw [g]; rfl)
    | skip
structure tkX where
  l : List Ins
  d : Ins
def tkRd : List V1 → List Blk → Option tkX := fun a b => match a, b with
  | [.c (.ro (.pair (.int .i64) (.pair .str (.pair (.int .i64) (.sl (.pair (.int .i64) (.pair (.int .i64) (.pair (.int .i64) (.sl (.pair (.int .i64) (.pair (.int .i64) (.pair (.int .i64) (.int .i64))))))))))))  l), .c (.fn 58 [0])], [.var [.imm (.int .i64 co), .imm (.string cn), .imm (.int .i64 cm), .ro (.pair (.int .i64) (.pair (.int .i64) (.pair (.int .i64) (.sl (.pair (.int .i64) (.pair (.int .i64) (.pair (.int .i64) (.int .i64)))))))) cc]] => some ⟨l, (co, cn, cm, cc)⟩
  | _, _ => none
theorem tkRd_ok {a : List V1} {b : List Blk} {x : tkX} (h : tkRd a b = some x) : a = [.c (.ro InsT x.l), .c (.fn 58 [0])] ∧ b = [.var [iv .i64 x.d.1, .imm (.string x.d.2.1), iv .i64 x.d.2.2.1, .ro CycT x.d.2.2.2]] := by
  unfold tkRd at h
  split at h
  · injection h with h; subst h; exact ⟨rfl, rfl⟩
  · cases h
def tkiS : WSpec := ⟨tkX, fun x => [.c (.ro InsT x.l), .c (.fn 58 [0])], fun x => [.var [iv .i64 x.d.1, .imm (.string x.d.2.1), iv .i64 x.d.2.2.1, .ro CycT x.d.2.2.2]], tkRd,
  fun x => (some (x.l.length ≤ 4611686018427387904 ∧ (fun _ => True) x.d), I (fstI (keyB x.d) x.l), [some (.var [iv .i64 x.d.1, .imm (.string x.d.2.1), iv .i64 x.d.2.2.1, .ro CycT x.d.2.2.2])], [])⟩
theorem tki_ok : GoodF Try.prog 63 tkiS.spec := by
  have hT := tab_ok (fs := [(58, tkcS.spec)]) tree_ok
  have hP : SpecsOk Try.prog (tab tree [(58, tkcS.spec)]) := specs_cons tkc_ok specs_nil
  refine tkiS.good (fn := Try.f63) hT hP Try.func63 (by kernel_rfl) rfl (fun _ _ _ h => tkRd_ok h) fun (x : tkX) hq => ?_
  obtain ⟨hl, hq⟩ : x.l.length ≤ 4611686018427387904 ∧ (fun _ => True) x.d := hq _ rfl
  obtain ⟨l, d⟩ := x
  have hl : l.length ≤ 4611686018427387904 := hl
  repeat' first
    | (refine Go.mk ?_; conv => whnf)
    | refine Need.go ?_ ?_
    | refine NilG.go (fun _ => ?_) (fun _ => ?_)
    | refine Br.dec (fun _ => ?_) (fun _ => ?_)
    | refine Br.go (fun _ => ?_) (fun _ => ?_)
    | refine draw_go hT hP mixed ?_
    | refine round_go hT hP ?_
  refine up_go hT hP (A := Unit) l.length (fun i _ => St.mk [.cell (.ro InsT l), .cell (.fn 58 [0]), .dead, .dead, .dead, .dead, .dead, I l.length, I i, .dead, .dead, .dead, .dead, .dead, .dead, .dead, .dead, .dead, .dead] [some (.var [iv .i64 d.1, .imm (.string d.2.1), iv .i64 d.2.2.1, .ro CycT d.2.2.2])])
    (fun k _ => fstG (keyB d) (l.drop k) k = fstI (keyB d) l) () (Le.mk [] [0] rfl rfl rfl ?_) rfl fun k _ hk hi => ?_
  · repeat' first | exact trivial | exact ⟨rfl, rfl⟩ | refine And.intro ?_ ?_
  repeat' first
    | (refine Go.mk ?_; conv => whnf)
    | refine Need.go ?_ ?_
    | refine NilG.go (fun _ => ?_) (fun _ => ?_)
    | refine Br.dec (fun _ => ?_) (fun _ => ?_)
    | refine Br.go (fun _ => ?_) (fun _ => ?_)
    | refine draw_go hT hP mixed ?_
    | refine round_go hT hP ?_
  all_goals clear hT hP
  · rename_i g1
    have g1 : (k : Int) < (l.length : Int) := g1
    show 0 ≤ (k : Int) ∧ (k : Int) < (l.length : Int)
    omega
  · first | exact hq | exact trivial
  · rename_i g1 g2
    have g1 : (k : Int) < (l.length : Int) := g1
    exact .mk [] [0] _ rfl rfl rfl rfl rfl rfl (imm_int (fst_hit (dflt InsT) (by omega) g2 hi))
  · rename_i g1 g2
    have g1 : (k : Int) < (l.length : Int) := g1
    have hp : ¬ keyB d (l.getD k (dflt InsT)) = true := by
      have g2 : keyB d (l.getD k (dflt InsT)) = false := g2
      rw [g2]; decide
    apply Exists.intro
    apply Exists.intro ()
    refine And.intro (And.intro ?lt101 (And.intro ?ei101 ?inv101)) (Le.mk [] [0] rfl rfl ?hh101 ?ht101)
    case hh101 => exact rfl
    case ht101 => repeat' first | exact trivial | exact ⟨rfl, rfl⟩ | refine And.intro ?_ ?_
    case lt101 => omega
    case ei101 => exact up_i (by omega)
    exact fst_miss (dflt InsT) (by omega) hp hi
  · rename_i g1
    have g1 : ¬ (k : Int) < (l.length : Int) := g1
    exact .mk [] [0] _ rfl rfl rfl rfl rfl rfl (imm_int (fst_none (by omega) hi))

def tktS : WSpec := ⟨tkX, fun x => [.c (.ro InsT x.l), .c (.fn 58 [0])], fun x => [.var [iv .i64 x.d.1, .imm (.string x.d.2.1), iv .i64 x.d.2.2.1, .ro CycT x.d.2.2.2]], tkRd,
  fun x => (some (x.l.length ≤ 4611686018427387904 ∧ (fun _ => True) x.d), .cell (bv (x.l.any (keyB x.d))), [some (.var [iv .i64 x.d.1, .imm (.string x.d.2.1), iv .i64 x.d.2.2.1, .ro CycT x.d.2.2.2])], [])⟩
theorem tkt_ok : GoodF Try.prog 57 tktS.spec := by
  have hT := tab_ok (fs := [(63, tkiS.spec)]) tree_ok
  have hP : SpecsOk Try.prog (tab tree [(63, tkiS.spec)]) := specs_cons tki_ok specs_nil
  refine tktS.good (fn := Try.f57) hT hP Try.func57 (by kernel_rfl) rfl (fun _ _ _ h => tkRd_ok h) fun (x : tkX) hq => ?_
  have hq : x.l.length ≤ 4611686018427387904 ∧ (fun _ => True) x.d := hq _ rfl
  obtain ⟨l, d⟩ := x
  repeat' first
    | (refine Go.mk ?_; conv => whnf)
    | refine Need.go ?_ ?_
    | refine NilG.go (fun _ => ?_) (fun _ => ?_)
    | refine Br.dec (fun _ => ?_) (fun _ => ?_)
    | refine Br.go (fun _ => ?_) (fun _ => ?_)
    | refine draw_go hT hP mixed ?_
    | refine round_go hT hP ?_
  all_goals clear hT hP
  · first | exact hq | exact trivial
  · exact .mk [] [0] _ rfl rfl rfl rfl rfl rfl (imm_bool (fst_any (keyB d) l))

end Go.Proofs.Ytanaaecfghmmaaa

/- table.Check: what is wrong with a processor. -/
namespace Go.Proofs.Ytanaaecfghmmaaa
open Go.Fw
set_option linter.unusedVariables false
set_option linter.unusedSimpArgs false
set_option linter.constructorNameAsVariable false
set_option maxRecDepth 100000

def isOp (c : Cyc) : Bool := bif decide (c.1 = 1) then decide (c.2.1 = 0) else false
def operI (l : List Cyc) : Int := ((l.filter isOp).length : Nat)
theorem take_snoc2 {α : Type} {l : List α} {k : Nat} (d : α) (h : k < l.length) : l.take (k + 1) = l.take k ++ [l.getD k d] := by
  rw [List.take_add_one, List.getD_eq_getElem?_getD, List.getElem?_eq_getElem h]; rfl
theorem oper_yes {l : List Cyc} {k : Nat} (h : k < l.length) (h2 : isOp (l.getD k (dflt CycT)) = true) : ((l.take k).filter isOp).length + 1 = ((l.take (k + 1)).filter isOp).length := by
  rw [take_snoc2 (dflt CycT) h, List.filter_append, List.filter_cons, if_pos h2, List.length_append]; rfl
theorem oper_no {l : List Cyc} {k : Nat} (h : k < l.length) (h2 : isOp (l.getD k (dflt CycT)) = false) : ((l.take k).filter isOp).length = ((l.take (k + 1)).filter isOp).length := by
  rw [take_snoc2 (dflt CycT) h, List.filter_append, List.filter_cons, if_neg (by rw [h2]; decide), List.length_append]; rfl
def toperS : PSpec := ⟨[⟨false, .sl CycT⟩], fun (l, _) => (some (List.length l ≤ 1000), I (operI l), [])⟩
theorem toper_ok : GoodF Try.prog 60 toperS.spec := by
  have hT := tab_ok (fs := []) tree_ok
  have hP : SpecsOk Try.prog (tab tree []) := specs_nil
  refine toperS.good (fn := Try.f60) hT hP Try.func60 (by kernel_rfl) rfl fun (l : List Cyc) hq => ?_
  have hl : l.length ≤ 1000 := hq _ rfl
  clear hq
  repeat' first
    | (refine Go.mk ?_; conv => whnf)
    | refine Need.go ?_ ?_
    | refine NilG.go (fun _ => ?_) (fun _ => ?_)
    | refine Br.dec (fun _ => ?_) (fun _ => ?_)
    | refine Br.go (fun _ => ?_) (fun _ => ?_)
    | refine draw_go hT hP mixed ?_
    | refine round_go hT hP ?_
  refine up_go hT hP (A := Int) l.length (fun i n => St.mk [.dead, .dead, .dead, I n, .dead, .dead, .cell (.ro CycT l), I l.length, I i, .dead, .dead, .dead, .dead, .dead, .dead, .dead, .dead, .dead, .dead, .dead, .dead, .dead, .dead, .dead] [])
    (fun k n => n = (((l.take k).filter isOp).length : Nat)) 0 (Le.mk [] [] rfl rfl rfl ?_) rfl fun k n hk hi => ?_
  · repeat' first | exact trivial | exact ⟨rfl, rfl⟩ | refine And.intro ?_ ?_
  repeat' first
    | (refine Go.mk ?_; conv => whnf)
    | refine Need.go ?_ ?_
    | refine NilG.go (fun _ => ?_) (fun _ => ?_)
    | refine Br.dec (fun _ => ?_) (fun _ => ?_)
    | refine Br.go (fun _ => ?_) (fun _ => ?_)
    | refine draw_go hT hP mixed ?_
    | refine round_go hT hP ?_
  all_goals clear hT hP
  all_goals have hf := List.length_filter_le isOp (l.take k)
  all_goals rw [List.length_take] at hf
  · rename_i g
    have g : (k : Int) < (l.length : Int) := g
    show 0 ≤ (k : Int) ∧ (k : Int) < (l.length : Int)
    omega
  · rename_i g g1 g2
    have g : (k : Int) < (l.length : Int) := g
    have h2 : isOp (l.getD k (dflt CycT)) = true := by
      have g1 : (l.getD k (dflt CycT)).1 = 1 := g1
      have g2 : (l.getD k (dflt CycT)).2.1 = 0 := g2
      unfold isOp; rw [decide_eq_true g1, decide_eq_true g2]; rfl
    apply Exists.intro
    apply Exists.intro _
    refine And.intro (And.intro ?lt58 (And.intro ?ei58 ?inv58)) (Le.mk [] [] rfl rfl ?hh58 ?ht58)
    case hh58 => exact rfl
    case ht58 => repeat' first | exact trivial | exact ⟨rfl, rfl⟩ | refine And.intro ?_ ?_
    case lt58 => omega
    case ei58 => exact up_i (by omega)
    have e : IntKind.i64.wrap (n + 1) = n + 1 := w64 (by omega) (by omega)
    have e2 := oper_yes (show k < l.length by omega) h2
    rw [e]; omega
  · rename_i g g1 g2
    have g : (k : Int) < (l.length : Int) := g
    have h2 : isOp (l.getD k (dflt CycT)) = false := by
      have g1 : (l.getD k (dflt CycT)).1 = 1 := g1
      have g2 : ¬ (l.getD k (dflt CycT)).2.1 = 0 := g2
      unfold isOp; rw [decide_eq_true g1, decide_eq_false g2]; rfl
    apply Exists.intro
    apply Exists.intro _
    refine And.intro (And.intro ?lt74 (And.intro ?ei74 ?inv74)) (Le.mk [] [] rfl rfl ?hh74 ?ht74)
    case hh74 => exact rfl
    case ht74 => repeat' first | exact trivial | exact ⟨rfl, rfl⟩ | refine And.intro ?_ ?_
    case lt74 => omega
    case ei74 => exact up_i (by omega)
    have e2 := oper_no (show k < l.length by omega) h2
    omega
  · rename_i g g1
    have g : (k : Int) < (l.length : Int) := g
    have h2 : isOp (l.getD k (dflt CycT)) = false := by
      have g1 : ¬ (l.getD k (dflt CycT)).1 = 1 := g1
      unfold isOp; rw [decide_eq_false g1]; rfl
    apply Exists.intro
    apply Exists.intro _
    refine And.intro (And.intro ?lt88 (And.intro ?ei88 ?inv88)) (Le.mk [] [] rfl rfl ?hh88 ?ht88)
    case hh88 => exact rfl
    case ht88 => repeat' first | exact trivial | exact ⟨rfl, rfl⟩ | refine And.intro ?_ ?_
    case lt88 => omega
    case ei88 => exact up_i (by omega)
    have e2 := oper_no (show k < l.length by omega) h2
    omega
  · rename_i g
    have g : ¬ (k : Int) < (l.length : Int) := g
    refine .mk [] [] _ rfl rfl rfl rfl rfl rfl (imm_int ?_)
    rw [hi, List.take_of_length_le (by omega)]; rfl

end Go.Proofs.Ytanaaecfghmmaaa

/- Lists compared; a wire looked for. -/
namespace Go.Proofs.Ytanaaecfghmmaaa
open Go.Fw
set_option linter.unusedVariables false
set_option linter.unusedSimpArgs false
set_option linter.constructorNameAsVariable false
set_option maxRecDepth 100000

theorem strEq_iff {x y : ByteArray} : strEq x y = true ↔ x = y := Lib.bytes_beq_iff x y
def beqB (x y : Bool) : Bool := x == y
theorem beqB_iff {x y : Bool} : beqB x y = true ↔ x = y := by cases x <;> cases y <;> decide
theorem denEq_iff {x y : Wr} : denEq WireT x y = true ↔ x = y := ⟨fun h => denEq_eq (u := WireT) rfl h, fun h => by subst h; show (strEq x.1 x.1 && strEq x.2 x.2) = true; rw [strEq_iff.2 rfl, strEq_iff.2 rfl]; rfl⟩

noncomputable def eqStrS : PSpec := ⟨[⟨false, .sl .str⟩, ⟨false, .sl .str⟩], fun (l, m, _) => (some (List.length l ≤ 4611686018427387904), .cell (bv (eqB (α := List ByteArray) l m)), [])⟩
noncomputable def eqBoolS : PSpec := ⟨[⟨false, .sl .bool⟩, ⟨false, .sl .bool⟩], fun (l, m, _) => (some (List.length l ≤ 4611686018427387904), .cell (bv (eqB (α := List Bool) l m)), [])⟩
noncomputable def eqWrS : PSpec := ⟨[⟨false, .sl WireT⟩, ⟨false, .sl WireT⟩], fun (l, m, _) => (some (List.length l ≤ 4611686018427387904), .cell (bv (eqB (α := List Wr) l m)), [])⟩
abbrev gWr : Sig := ⟨true, WireT⟩
def sameW (v w : Wr) : Bool := denEq WireT v w
def wIdxS : PSpec := ⟨[⟨false, .sl WireT⟩, gWr], fun (l, v, _) => (some (List.length l ≤ 4611686018427387904), I (fstI (sameW v) l), [])⟩
theorem wIdx_ok : GoodF Try.prog 112 wIdxS.spec := by
  have hT := tab_ok (fs := []) tree_ok
  have hP : SpecsOk Try.prog (tab tree []) := specs_nil
  refine wIdxS.good (fn := Try.f112) hT hP Try.func112 (by kernel_rfl) rfl fun (l : List Wr) (v : Wr) hq => ?_
  have hl : l.length ≤ 4611686018427387904 := hq _ rfl
  obtain ⟨va, vb⟩ := v
  clear hq
  repeat' first
    | (refine Go.mk ?_; conv => whnf)
    | refine Need.go ?_ ?_
    | refine NilG.go (fun _ => ?_) (fun _ => ?_)
    | refine Br.dec (fun _ => ?_) (fun _ => ?_)
    | refine Br.go (fun _ => ?_) (fun _ => ?_)
    | refine draw_go hT hP mixed ?_
    | refine round_go hT hP ?_
  refine up_go hT hP (A := Unit) l.length (fun i _ => St.mk [.cell (.ro WireT l), .dead, .dead, .cell (.ptr 0 0), .dead, .dead, .dead, I l.length, I i, .dead, .dead, .dead, .dead, .dead, .dead, .dead, .dead, .dead, .dead] [some (.var [.imm (.string va), .imm (.string vb)])])
    (fun k _ => fstG (sameW (va, vb)) (l.drop k) k = fstI (sameW (va, vb)) l) () (Le.mk [] [0] rfl rfl rfl ?_) rfl fun k _ hk hi => ?_
  · repeat' first | exact trivial | exact ⟨rfl, rfl⟩ | refine And.intro ?_ ?_
  repeat' first
    | (refine Go.mk ?_; conv => whnf)
    | refine Need.go ?_ ?_
    | refine NilG.go (fun _ => ?_) (fun _ => ?_)
    | refine Br.dec (fun _ => ?_) (fun _ => ?_)
    | refine Br.go (fun _ => ?_) (fun _ => ?_)
    | refine draw_go hT hP mixed ?_
    | refine round_go hT hP ?_
  all_goals clear hT hP
  · rename_i g1
    have g1 : (k : Int) < (l.length : Int) := g1
    show 0 ≤ (k : Int) ∧ (k : Int) < (l.length : Int)
    omega
  · rename_i g1 g2
    have g1 : (k : Int) < (l.length : Int) := g1
    exact .mk [] [] _ rfl rfl rfl rfl rfl rfl (imm_int (fst_hit (dflt WireT) (by omega) g2 hi))
  · rename_i g1 g2
    have g1 : (k : Int) < (l.length : Int) := g1
    have hp : ¬ sameW (va, vb) (l.getD k (dflt WireT)) = true := by
      have g2 : sameW (va, vb) (l.getD k (dflt WireT)) = false := g2
      rw [g2]; decide
    apply Exists.intro
    apply Exists.intro ()
    refine And.intro (And.intro ?lt249 (And.intro ?ei249 ?inv249)) (Le.mk [] [0] rfl rfl ?hh249 ?ht249)
    case hh249 => exact rfl
    case ht249 => repeat' first | exact trivial | exact ⟨rfl, rfl⟩ | refine And.intro ?_ ?_
    case lt249 => omega
    case ei249 => exact up_i (by omega)
    exact fst_miss (dflt WireT) (by omega) hp hi
  · rename_i g1
    have g1 : ¬ (k : Int) < (l.length : Int) := g1
    exact .mk [] [] _ rfl rfl rfl rfl rfl rfl (imm_int (fst_none (by omega) hi))
def wHasS : PSpec := ⟨[⟨false, .sl WireT⟩, gWr], fun (l, v, _) => (some (List.length l ≤ 4611686018427387904), .cell (bv (l.any (sameW v))), [])⟩
theorem wHas_ok : GoodF Try.prog 85 wHasS.spec := by
  have hT := tab_ok (fs := [(112, wIdxS.spec)]) tree_ok
  have hP : SpecsOk Try.prog (tab tree [(112, wIdxS.spec)]) := specs_cons wIdx_ok specs_nil
  refine wHasS.good (fn := Try.f85) hT hP Try.func85 (by kernel_rfl) rfl fun (l : List Wr) (v : Wr) hq => ?_
  have hl : l.length ≤ 4611686018427387904 := hq _ rfl
  obtain ⟨va, vb⟩ := v
  clear hq
  repeat' first
    | (refine Go.mk ?_; conv => whnf)
    | refine Need.go ?_ ?_
    | refine NilG.go (fun _ => ?_) (fun _ => ?_)
    | refine Br.dec (fun _ => ?_) (fun _ => ?_)
    | refine Br.go (fun _ => ?_) (fun _ => ?_)
    | refine draw_go hT hP mixed ?_
    | refine round_go hT hP ?_
  all_goals clear hT hP
  · exact hl
  · exact .mk [] [] _ rfl rfl rfl rfl rfl rfl (imm_bool (fst_any (sameW (va, vb)) l))

end Go.Proofs.Ytanaaecfghmmaaa

/- Numbers from bytes: the reference's. -/
namespace Go.Proofs.Ytanaaecfghmmaaa
open Go.Fw
set_option linter.unusedVariables false
set_option linter.unusedSimpArgs false
set_option linter.constructorNameAsVariable false
set_option maxRecDepth 100000

def takL : Nat → Nat → List Int → Int × List Int
  | _, _, [] => (0, [])
  | i, u, c :: r =>
    if 63 < 7 * i ∨ (7 * i = 63 ∧ c > 1) then (0, [])
    else if c < 128 then (decN (u + (c % 128).toNat * 2 ^ (7 * i)), r)
    else takL (i + 1) (u + (c % 128).toNat * 2 ^ (7 * i)) r
def takG (b : List Int) : Bool := (nextG 0 0 b).isSome
theorem takL_some : ∀ (b : List Int) (i u w : Nat) (r : List Int), nextG i u b = some (w, r) → takL i u b = (decN w, r)
  | [], i, u, w, r, h => by simp [nextG] at h
  | c :: b, i, u, w, r, h => by
    unfold nextG at h
    unfold takL
    split at h
    · cases h
    · rename_i h1
      rw [if_neg h1]
      split at h
      · rename_i h2
        rw [if_pos h2]
        split at h
        · cases h
        · injection h with h
          injection h with h h'
          rw [h, h']
      · rename_i h2
        rw [if_neg h2]
        exact takL_some b _ _ w r h
def decU : List Int → Nat
  | [] => 0
  | c :: r => (c % 128).toNat + 128 * decU r
theorem decU_snoc : ∀ (l : List Int) (c : Int), decU (l ++ [c]) = decU l + (c % 128).toNat * 2 ^ (7 * l.length)
  | [], c => by simp [decU]
  | x :: l, c => by
    show (x % 128).toNat + 128 * decU (l ++ [c]) = (x % 128).toNat + 128 * decU l + (c % 128).toNat * 2 ^ (7 * (l.length + 1))
    rw [decU_snoc l c, show 7 * (l.length + 1) = 7 * l.length + 7 by omega, Nat.pow_add, show (2 : Nat) ^ 7 = 128 by decide, Nat.mul_add]
    have e : 128 * ((c % 128).toNat * 2 ^ (7 * l.length)) = (c % 128).toNat * (2 ^ (7 * l.length) * 128) := by
      rw [Nat.mul_comm, Nat.mul_assoc]
    omega
theorem decU_pos : ∀ (q : List Int) (c : Int), 0 < c → c < 128 → 0 < decU (q ++ [c])
  | [], c, h1, h2 => by
    show 0 < (c % 128).toNat + 128 * 0
    omega
  | x :: q, c, h1, h2 => by
    have := decU_pos q c h1 h2
    show 0 < (x % 128).toNat + 128 * decU (q ++ [c])
    omega
/-- the bytes are those of their number: the last one is no zero behind others -/
theorem canon : ∀ (p : List Int) (c : Int), (∀ x ∈ p, 128 ≤ x ∧ x < 256) → 0 ≤ c → c < 128 → (enc7 (decU (p ++ [c])) = p ++ [c] ↔ ¬ (c = 0 ∧ 0 < p.length))
  | [], c, _, h1, h2 => by
    have e : decU ([] ++ [c]) = c.toNat := by
      show (c % 128).toNat + 128 * 0 = c.toNat
      omega
    rw [e, enc7_lt (by omega)]
    constructor
    · intro _ h; exact absurd h.2 (by simp)
    · intro _
      show [((c.toNat : Nat) : Int)] = [c]
      rw [show ((c.toNat : Nat) : Int) = c by omega]
  | x :: q, c, hp, h1, h2 => by
    have hx := hp x (List.mem_cons_self ..)
    have ih := canon q c (fun y hy => hp y (List.mem_cons_of_mem _ hy)) h1 h2
    have e : decU (x :: q ++ [c]) = (x % 128).toNat + 128 * decU (q ++ [c]) := rfl
    rw [e]
    by_cases hc : c = 0
    · constructor
      · intro h hh
        by_cases hD : decU (q ++ [c]) = 0
        · rw [hD, enc7_lt (by omega)] at h
          have := congrArg List.length h
          simp at this
        · rw [enc7_ge (by omega), show ((x % 128).toNat + 128 * decU (q ++ [c])) / 128 = decU (q ++ [c]) by omega] at h
          injection h with _ h
          have h3 := ih.1 h
          by_cases hq : 0 < q.length
          · exact h3 ⟨hc, hq⟩
          · have : q = [] := by
              cases q with
              | nil => rfl
              | cons y q => simp at hq
            subst this
            rw [hc] at hD
            exact hD rfl
      · intro h; exact absurd ⟨hc, by simp⟩ h
    · have hD := decU_pos q c (by omega) h2
      rw [enc7_ge (by omega), show ((x % 128).toNat + 128 * decU (q ++ [c])) / 128 = decU (q ++ [c]) by omega, ih.2 (fun h => hc h.1)]
      constructor
      · intro _ h; exact hc h.1
      · intro _
        show _ :: _ = x :: (q ++ [c])
        congr 1
        omega
theorem zig_dec {w : Nat} : zig (decN w) = w := by
  unfold zig decN
  split <;> split <;> omega
theorem strOf_injT {l m : List Int} (hl : u8s l) (hm : u8s m) (h : strOf l = strOf m) : l = m := by
  have h1 : bytesOf (strOf l) = bytesOf (strOf m) := by rw [h]
  have e : ∀ l : List Int, u8s l → bytesOf (strOf l) = l := fun l hl => by
    unfold bytesOf strOf
    simp only [List.map_map]
    have : ∀ x ∈ l, ((fun b : UInt8 => (b.toNat : Int)) ∘ fun n : Int => UInt8.ofNat n.toNat) x = x := fun x hx => by
      have := hl x hx
      simp only [Function.comp, UInt8.toNat_ofNat']
      omega
    rw [List.map_congr_left this, List.map_id']
  rw [e l hl, e m hm] at h1
  exact h1
theorem enc7_u8T : ∀ (f u : Nat), u < 128 ^ (f + 1) → u8s (enc7 u)
  | 0, u, h => by
    rw [enc7_lt (by simpa using h)]
    intro x hx
    rw [List.mem_singleton.1 hx]
    have : u < 128 := by simpa using h
    omega
  | f + 1, u, h => by
    by_cases h1 : u < 128
    · rw [enc7_lt h1]
      intro x hx
      rw [List.mem_singleton.1 hx]
      omega
    · rw [enc7_ge h1]
      intro x hx
      rcases List.mem_cons.1 hx with rfl | hx
      · omega
      · refine enc7_u8T f (u / 128) ?_ x hx
        rw [Nat.pow_succ] at h
        exact Nat.div_lt_of_lt_mul (by rw [Nat.mul_comm]; exact h)
/-- what the reference compares -/
theorem tak_str {b : List Int} {k v : Nat} (hu : u8s b) (hk : k < b.length) (hp : ∀ x ∈ b.take k, 128 ≤ x) (hv : v = decU (b.take k)) (hc : b.getD k 0 < 128) (hw : v + (b.getD k 0 % 128).toNat * 2 ^ (7 * k) < 18446744073709551616) :
    strEq (strOf (encI (decN (v + (b.getD k 0 % 128).toNat * 2 ^ (7 * k))))) (strOf (b.take (k + 1))) = !decide (b.getD k 0 = 0 ∧ 0 < k) := by
  have h0 := u8s_get hu k
  have h0 : 0 ≤ b.getD k 0 ∧ b.getD k 0 < 256 := h0
  have ht : b.take (k + 1) = b.take k ++ [b.getD k 0] := take_snoc2 0 hk
  have hl : (b.take k).length = k := by rw [List.length_take]; omega
  have hd : v + (b.getD k 0 % 128).toNat * 2 ^ (7 * k) = decU (b.take k ++ [b.getD k 0]) := by rw [decU_snoc, hl, hv]
  unfold encI
  rw [zig_dec]
  have hcan := canon (b.take k) (b.getD k 0) (fun x hx => ⟨hp x hx, (hu x (List.mem_of_mem_take hx)).2⟩) h0.1 hc
  rw [hl, ← hd] at hcan
  rw [ht]
  have u1 : u8s (enc7 (v + (b.getD k 0 % 128).toNat * 2 ^ (7 * k))) := enc7_u8T 9 _ (Nat.lt_of_lt_of_le hw (by decide))
  have u2 : u8s (b.take k ++ [b.getD k 0]) := by rw [← ht]; exact fun x hx => hu x (List.mem_of_mem_take hx)
  rw [Bool.eq_iff_iff, strEq_iff]
  rw [Bool.not_eq_true', decide_eq_false_iff_not, ← hcan]
  exact ⟨fun h => strOf_injT u1 u2 h, fun h => by rw [h]⟩

def takI (b : List Int) (k v : Nat) : Prop := nextI b k v ∧ takL k v (b.drop k) = takL 0 0 b ∧ v = decU (b.take k) ∧ ∀ x ∈ b.take k, 128 ≤ x
theorem tk_end {b : List Int} {k v : Nat} (h : takI b k v) (hk : ¬ k < b.length) : takL 0 0 b = (0, []) ∧ takG b = false := by
  refine ⟨?_, ?_⟩
  · rw [← h.2.1, List.drop_of_length_le (by omega)]; rfl
  · unfold takG; rw [nx_end h.1 hk]; rfl
theorem tk_big {b : List Int} {k v : Nat} (h : takI b k v) (hk : k < b.length) (h1 : 63 < 7 * k ∨ (7 * k = 63 ∧ b.getD k 0 > 1)) : takL 0 0 b = (0, []) ∧ takG b = false := by
  refine ⟨?_, ?_⟩
  · rw [← h.2.1, drop_cons hk, takL, if_pos h1]
  · unfold takG; rw [nx_big h.1 hk h1]; rfl
theorem tk_done {b : List Int} {k v : Nat} (h : takI b k v) (hk : k < b.length) (h1 : ¬ (63 < 7 * k ∨ (7 * k = 63 ∧ b.getD k 0 > 1))) (h2 : b.getD k 0 < 128) :
    takL 0 0 b = (decN (v + (b.getD k 0 % 128).toNat * 2 ^ (7 * k)), b.drop (k + 1)) ∧ takG b = !decide (b.getD k 0 = 0 ∧ 0 < k) := by
  refine ⟨?_, ?_⟩
  · rw [← h.2.1, drop_cons hk, takL, if_neg h1, if_pos h2]
  · unfold takG
    by_cases h3 : b.getD k 0 = 0 ∧ 0 < k
    · rw [nx_zero h.1 hk h1 h3.1 h3.2, decide_eq_true h3]; rfl
    · rw [nx_done h.1 hk h1 h2 h3, decide_eq_false h3]; rfl
theorem tk_go {b : List Int} {k v : Nat} (h : takI b k v) (hk : k < b.length) (h1 : ¬ (63 < 7 * k ∨ (7 * k = 63 ∧ b.getD k 0 > 1))) (h2 : ¬ b.getD k 0 < 128) (hc : 0 ≤ b.getD k 0 ∧ b.getD k 0 < 256) :
    takI b (k + 1) (v + (b.getD k 0 % 128).toNat * 2 ^ (7 * k)) := by
  have hl : (b.take k).length = k := by rw [List.length_take]; omega
  have ht : b.take (k + 1) = b.take k ++ [b.getD k 0] := take_snoc2 0 hk
  refine ⟨nx_go h.1 hk h1 h2 hc, ?_, ?_, ?_⟩
  · rw [← h.2.1, drop_cons hk, takL, if_neg h1, if_neg h2]
  · rw [ht, decU_snoc, hl, h.2.2.1]
  · intro x hx
    rw [ht] at hx
    rcases List.mem_append.1 hx with hx | hx
    · exact h.2.2.2 x hx
    · rw [List.mem_singleton.1 hx]; omega

theorem decT_0 {w : Nat} (hw : w < 18446744073709551616) (h : ¬ Int.tmod (w : Int) 2 = 1) : IntKind.i64.wrap (IntKind.u64.wrap (Int.tdiv (w : Int) 2)) = decN w := by
  rw [Int.tmod_eq_emod_of_nonneg (by omega)] at h
  rw [Int.tdiv_eq_ediv_of_nonneg (by omega), wu64, w64e]
  unfold decN
  rw [if_neg (by omega)]
  omega
theorem decT_1 {w : Nat} (hw : w < 18446744073709551616) (h : Int.tmod (w : Int) 2 = 1) : IntKind.i64.wrap (IntKind.i64.wrap (0 - IntKind.i64.wrap (IntKind.u64.wrap (Int.tdiv (w : Int) 2))) - 1) = decN w := by
  rw [Int.tmod_eq_emod_of_nonneg (by omega)] at h
  rw [Int.tdiv_eq_ediv_of_nonneg (by omega), wu64, w64e, w64e, w64e]
  unfold decN
  rw [if_pos (by omega)]
  omega
def takenS : PSpec := ⟨[gb], fun (b, _) => (some (u8s b ∧ List.length b ≤ 4611686018427387904), .tup [I1 (takL 0 0 b).1, .c (.ro (.int .u8) (takL 0 0 b).2), .c (bv (takG b))], [])⟩
theorem tup3T {v v' : Int} {l l' : List Int} {g g' : Bool} (h : v = v') (h2 : l = l') (h3 : g = g') : AV.tup [I1 v, .c (.ro (.int .u8) l), .c (bv g)] = AV.tup [I1 v', .c (.ro (.int .u8) l'), .c (bv g')] := by rw [h, h2, h3]
set_option maxHeartbeats 4000000 in
theorem taken_ok : GoodF Try.prog 55 takenS.spec := by
  have hT := tab_ok (fs := [(90, num7S.spec)]) tree_ok
  have hP : SpecsOk Try.prog (tab tree [(90, num7S.spec)]) := specs_cons num7_ok specs_nil
  refine takenS.good (fn := Try.f55) hT hP Try.func55 (by kernel_rfl) rfl fun (b : List Int) hq => ?_
  obtain ⟨hu, hbl0⟩ : u8s b ∧ b.length ≤ 4611686018427387904 := hq _ rfl
  clear hq
  repeat' first
    | (refine Go.mk ?_; conv => whnf)
    | refine Need.go ?_ ?_
    | refine NilG.go (fun _ => ?_) (fun _ => ?_)
    | refine Br.dec (fun _ => ?_) (fun _ => ?_)
    | refine Br.go (fun _ => ?_) (fun _ => ?_)
    | refine draw_go hT hP mixed ?_
    | refine round_go hT hP ?_
  refine loop_go hT hP (X := Int × Int) (fun (i, u) => St.mk [.cell (.ro (.int .u8) b), .dead, .dead, .dead, .dead, .cell (iv .u64 u), I i, .dead, .dead, .dead, .dead, .dead, .dead, .dead, .dead, .dead, .dead, .dead, .dead, .dead, .dead, .dead, .dead, .dead, .dead, .dead, .dead, .dead, .dead, .dead, .dead, .dead, .dead, .dead, .dead, .dead, .dead, .dead, .dead, .dead, .dead, .dead, .dead, .dead, .dead, .dead, .dead, .dead, .dead, .dead, .dead, .dead, .dead, .dead, .dead, .dead, .dead, .dead, .dead, .dead] [])
    (fun (i, u) => ∃ k v : Nat, i = k ∧ u = v ∧ takI b k v) (fun (i, u) => ((b.length : Int) - i).toNat) (0, 0) (Le.mk [] [] rfl rfl ?_ ?_) ?_ fun (i, u) hi => ?_
  · exact rfl
  · repeat' first | exact trivial | exact ⟨rfl, rfl⟩ | refine And.intro ?_ ?_
  · exact ⟨0, 0, rfl, rfl, ⟨by omega, by omega, by simp, rfl⟩, rfl, rfl, fun x hx => by cases hx⟩
  obtain ⟨k, v, rfl, rfl, hI⟩ := hi
  have hb := u8s_get hu k
  have hb : 0 ≤ b.getD k 0 ∧ b.getD k 0 < 256 := hb
  have hk10 := hI.1.1
  have hv64 := hI.1.2.1
  repeat' first
    | (refine Go.mk ?_; conv => whnf)
    | refine Need.go ?_ ?_
    | refine NilG.go (fun _ => ?_) (fun _ => ?_)
    | refine Br.dec (fun _ => ?_) (fun _ => ?_)
    | refine Br.go (fun _ => ?_) (fun _ => ?_)
    | refine draw_go hT hP mixed ?_
    | refine round_go hT hP ?_
  all_goals
    have ec : List.getD (α := Den (.int .u8)) b ((k : Int)).toNat (dflt (.int .u8)) = b.getD k 0 := rfl
    try simp only [ec] at *
    clear ec
  all_goals clear hT hP
  all_goals
    generalize hc : b.getD k 0 = c at *
  all_goals first
    | exact of_decide_eq_true rfl
    | (show 0 ≤ (k : Int) ∧ (k : Int) < (b.length : Int)
       omega)
    | (show 0 ≤ IntKind.i64.wrap (7 * (k : Int))
       rw [w64 (by omega) (by omega)]; omega)
    | (show 0 ≤ IntKind.i64.wrap ((k : Int) + 1) ∧ IntKind.i64.wrap ((k : Int) + 1) ≤ (b.length : Int)
       rw [w64 (by omega) (by omega)]
       omega)
    | (have hN : takL 0 0 b = (0, []) ∧ takG b = false := by
         first
           | exact tk_end hI (by omega)
           | exact tk_big hI (by omega) (by rw [hc]; omega)
       exact .le (Le.nilro 3 (.int .u8) rfl) (.mk [] [] _ rfl rfl rfl rfl rfl rfl (tup3T (by rw [hN.1]) (by rw [hN.1]) hN.2.symm)))
    | skip
  all_goals
    have hk9 : k ≤ 9 := by omega
    have hnb : ¬ (7 * k = 63 ∧ c > 1) := by omega
    have hs := (nx_sum (k := k) (v := v) (c := c) hk9 (hI.1.2.2.1 hk9) hb hnb).1
    have et : Int.tmod c 128 = land .u8 c 127 := by rw [land127_u8 _ hb.1 hb.2, Int.tmod_eq_emod_of_nonneg hb.1]
    have e7 : IntKind.i64.wrap (7 * (k : Int)) = 7 * (k : Int) := w64 (by omega) (by omega)
    have eor := nx_or (k := k) (v := v) (c := c) hk9 (hI.1.2.2.1 hk9) hb hnb
    simp only [et, e7, eor] at *
    clear et e7 eor
  all_goals (have ek : IntKind.i64.wrap ((k : Int) + 1) = ((k + 1 : Nat) : Int) := up_i (by omega))
  all_goals first
    | (rename_i h1 h2
       first
         | (rw [decT_1 hs h2]; exact decN_64 hs)
         | (rw [decT_0 hs h2]; exact decN_64 hs))
    | skip
  all_goals first
    | (rename_i h1 h2
       have hd := tk_done hI (by omega) (by rw [hc]; omega) (by rw [hc]; omega)
       have hst := tak_str hu (k := k) (v := v) (by omega) hI.2.2.2 hI.2.2.1 (by rw [hc]; omega) (by rw [hc]; exact hs)
       rw [hc] at hd hst
       have ed : (b.take b.length).drop (IntKind.i64.wrap ((k : Int) + 1)).toNat = b.drop (k + 1) := by rw [List.take_length, ek]; rfl
       first
         | (refine .mk [] [] _ rfl rfl rfl rfl rfl rfl (tup3T ?_ ?_ ?_)
            · rw [decT_1 hs h2, hd.1]
            · rw [hd.1]; exact ed
            · rw [decT_1 hs h2, hd.2, ek]; exact hst)
         | (refine .mk [] [] _ rfl rfl rfl rfl rfl rfl (tup3T ?_ ?_ ?_)
            · rw [decT_0 hs h2, hd.1]
            · rw [hd.1]; exact ed
            · rw [decT_0 hs h2, hd.2, ek]; exact hst))
    | skip
  all_goals
    have hg := tk_go hI (by omega) (by rw [hc]; omega) (by rw [hc]; omega) (by rw [hc]; exact hb)
    rw [hc] at hg
    refine Exists.intro (IntKind.i64.wrap ((k : Int) + 1), ((v + (c % 128).toNat * 2 ^ (7 * k) : Nat) : Int)) (And.intro ?_ (And.intro ?_ (Le.mk [] [] rfl rfl ?hh ?ht)))
    case hh => exact rfl
    case ht => repeat' first | exact trivial | exact ⟨rfl, rfl⟩ | refine And.intro ?_ ?_
    · exact ⟨k + 1, _, ek, rfl, hg⟩
    · show ((b.length : Int) - IntKind.i64.wrap ((k : Int) + 1)).toNat < ((b.length : Int) - (k : Int)).toNat
      rw [ek]; omega

-- the closure

def utRd : List V1 → List Blk → Option (List Int × Bool) := fun a b => match a, b with
  | [.c (.ptr 0 0), .c (.ptr 1 0)], [.var [.ro (.int .u8) l], .var [.imm (.bool ok)]] => some (l, ok)
  | _, _ => none
theorem utRd_ok {a : List V1} {b : List Blk} {x : List Int × Bool} (h : utRd a b = some x) : a = [.c (.ptr 0 0), .c (.ptr 1 0)] ∧ b = [.var [.ro (.int .u8) x.1], .var [bv x.2]] := by
  unfold utRd at h
  split at h
  · injection h with h; subst h; exact ⟨rfl, rfl⟩
  · cases h
def utS : WSpec := ⟨List Int × Bool, fun _ => [.c (.ptr 0 0), .c (.ptr 1 0)], fun x => [.var [.ro (.int .u8) x.1], .var [bv x.2]], utRd,
  fun (b, ok) => (some (u8s b ∧ b.length ≤ 4611686018427387904), I (takL 0 0 b).1, [some (.var [.ro (.int .u8) (takL 0 0 b).2]), some (.var [bv (ok && takG b)])], [])⟩
theorem var_b {x y : Bool} {l : List Int} (h : x = y) : [some (Blk.var [.ro (.int .u8) l]), some (Blk.var [bv x])] = [some (Blk.var [.ro (.int .u8) l]), some (Blk.var [bv y])] := by rw [h]
theorem ut_ok : GoodF Try.prog 54 utS.spec := by
  have hT := tab_ok (fs := [(55, takenS.spec)]) tree_ok
  have hP : SpecsOk Try.prog (tab tree [(55, takenS.spec)]) := specs_cons taken_ok specs_nil
  refine utS.good (fn := Try.f54) hT hP Try.func54 (by kernel_rfl) rfl (fun _ _ _ h => utRd_ok h) fun ((b, ok) : List Int × Bool) hq => ?_
  have hu : u8s b ∧ b.length ≤ 4611686018427387904 := hq _ rfl
  clear hq
  repeat' first
    | (refine Go.mk ?_; conv => whnf)
    | refine Need.go ?_ ?_
    | refine NilG.go (fun _ => ?_) (fun _ => ?_)
    | refine Br.dec (fun _ => ?_) (fun _ => ?_)
    | refine Br.go (fun _ => ?_) (fun _ => ?_)
    | refine draw_go hT hP mixed ?_
    | refine round_go hT hP ?_
  all_goals clear hT hP
  · exact hu
  · rename_i g
    have g : ok = true := g
    exact .mk [] [0, 1] _ rfl rfl rfl rfl rfl (var_b (by rw [g]; rfl)) rfl
  · rename_i g
    have g : ok = false := g
    exact .mk [] [0, 1] _ rfl rfl rfl rfl rfl (var_b (by rw [g]; rfl)) rfl

end Go.Proofs.Ytanaaecfghmmaaa

