/- Part 10 of the proof: Board Wires Finds0 Finds EqDev StrOf MachLaw Mach Mach2 CycF ChipIx ChipHas WireE TabCyc TabCyc2 TabIx. No statement is handed in here; conditions: none. -/
import Derived.Test.YtofgbclopbmlcaaGreatG9
import Derived.Test.YtofgbclopbmlcaaGreatG8
import Derived.Test.YtofgbclopbmlcaaGreatG7
/- Boards: which chip has an address. -/
namespace Go.Proofs.YtofgbclopbmlcaaGreat
open Go.Fw
set_option linter.unusedVariables false
set_option linter.unusedSimpArgs false
set_option linter.constructorNameAsVariable false
set_option maxRecDepth 100000

abbrev ChipT : Ty := .pair .str (.pair (.int .i64) (.pair (.int .i64) (.pair (.int .i64) (.sl (.int .u8)))))
abbrev WireT : Ty := .pair .str .str
abbrev Wr := ByteArray × ByteArray
abbrev BoardT : Ty := .pair .str (.pair CpuT (.pair (.sl ChipT) (.sl WireT)))
abbrev gBd : Sig := ⟨true, BoardT⟩
abbrev Bd := ByteArray × Cpu × List Cv × List Wr

/-- the number of the first one that is so; -1: none -/
def fstG {α : Type} (p : α → Bool) : List α → Nat → Int
  | [], _ => -1
  | x :: r, k => if p x = true then (k : Int) else fstG p r (k + 1)
def fstI {α : Type} (p : α → Bool) (l : List α) : Int := fstG p l 0
theorem dropD {α : Type} {l : List α} {k : Nat} (d : α) (h : k < l.length) : l.drop k = l.getD k d :: l.drop (k + 1) := by
  rw [List.drop_eq_getElem_cons h, List.getD_eq_getElem?_getD, List.getElem?_eq_getElem h]; rfl
theorem fstG_in {α : Type} {p : α → Bool} : ∀ {l : List α} {k : Nat}, fstG p l k = -1 ∨ ((k : Int) ≤ fstG p l k ∧ fstG p l k < k + l.length)
  | [], k => .inl rfl
  | x :: r, k => by
    unfold fstG
    by_cases h : p x = true
    · rw [if_pos h]; right; simp only [List.length_cons]; omega
    · rw [if_neg h]
      rcases fstG_in (p := p) (l := r) (k := k + 1) with h1 | h1
      · exact .inl h1
      · right; simp only [List.length_cons]; omega
theorem fstI_in {α : Type} (p : α → Bool) (l : List α) : fstI p l = -1 ∨ (0 ≤ fstI p l ∧ fstI p l < l.length) := by
  have := fstG_in (p := p) (l := l) (k := 0)
  unfold fstI
  simpa using this
theorem fst_hit {α : Type} {p : α → Bool} {l : List α} {k : Nat} (d : α) (h : k < l.length) (hp : p (l.getD k d) = true) {r : Int} (hi : fstG p (l.drop k) k = r) : (k : Int) = r := by
  rw [dropD d h, fstG, if_pos hp] at hi; exact hi
theorem fst_miss {α : Type} {p : α → Bool} {l : List α} {k : Nat} (d : α) (h : k < l.length) (hp : ¬ p (l.getD k d) = true) {r : Int} (hi : fstG p (l.drop k) k = r) : fstG p (l.drop (k + 1)) (k + 1) = r := by
  rw [dropD d h, fstG, if_neg hp] at hi; exact hi
theorem fst_none {α : Type} {p : α → Bool} {l : List α} {k : Nat} (h : ¬ k < l.length) {r : Int} (hi : fstG p (l.drop k) k = r) : -1 = r := by
  rw [List.drop_of_length_le (by omega)] at hi; exact hi
def ownB (a : Int) (c : Cv) : Bool := decide (c.2.2.1 ≤ a) && (decide (0 < c.2.2.2.1) && decide (a - c.2.2.1 < c.2.2.2.1))
def findF (b : Bd) (a : Int) : Int := fstI (ownB a) b.2.2.1
def atF (b : Bd) (a : Int) : Int := if 0 ≤ findF b a then a - (b.2.2.1.getD (findF b a).toNat (dflt ChipT)).2.2.1 else 0
def cI (c : Cv) : Prop := i64 c.2.2.1 ∧ i64 c.2.2.2.1
def bP (b : Bd) (a : Int) : Prop := b.2.2.1.length ≤ 4611686018427387904 ∧ i64 a ∧ ∀ c ∈ b.2.2.1, cI c
theorem memD' {α : Type} {l : List α} {k : Nat} (d : α) (h : k < l.length) : l.getD k d ∈ l := by
  rw [List.getD_eq_getElem?_getD, List.getElem?_eq_getElem h]; exact List.getElem_mem h
theorem u64w (x : Int) : IntKind.u64.wrap x = x % 18446744073709551616 := rfl
theorem hit_u {a b s : Int} (ha : i64 a) (hb : i64 b) (hs : i64 s) (h1 : a ≥ b) (h2 : s > 0) : (IntKind.u64.wrap (IntKind.u64.wrap a - IntKind.u64.wrap b) < IntKind.u64.wrap s) ↔ a - b < s := by
  unfold i64 at ha hb hs
  rw [u64w, u64w, u64w, u64w]
  omega
theorem tup3 {x x' y y' : Int} {b b' : Bool} (h1 : x = x') (h2 : y = y') (h3 : b = b') : AV.tup [I1 x, I1 y, .c (bv b)] = AV.tup [I1 x', I1 y', .c (bv b')] := by rw [h1, h2, h3]
def bfindS : PSpec := ⟨[gBd, gi], fun (b, a, _) => (some (bP b a), .tup [I1 (if 0 ≤ findF b a then findF b a else 0), I1 (atF b a), .c (bv (decide (0 ≤ findF b a)))], [])⟩
theorem bFind_ok : GoodF Tryz.prog 93 bfindS.spec := by
  have hT := tab_ok (fs := []) tree_ok
  have hP : SpecsOk Tryz.prog (tab tree []) := specs_nil
  refine bfindS.good (fn := Tryz.f93) hT hP Tryz.func93 (by kernel_rfl) rfl fun (b : Bd) (a : Int) hq => ?_
  obtain ⟨hl, ha, hc⟩ : bP b a := hq _ rfl
  obtain ⟨bn, bu, bc, bw⟩ := b
  have hl : bc.length ≤ 4611686018427387904 := hl
  have hc : ∀ c ∈ bc, cI c := hc
  clear hq
  repeat' first
    | (refine Go.mk ?_; conv => whnf)
    | refine Need.go ?_ ?_
    | refine NilG.go (fun _ => ?_) (fun _ => ?_)
    | refine Br.dec (fun _ => ?_) (fun _ => ?_)
    | refine Br.go (fun _ => ?_) (fun _ => ?_)
    | refine draw_go hT hP mixed ?_
    | refine round_go hT hP ?_
  refine up_go hT hP (A := Unit) bc.length (fun i _ => St.mk [.dead, I a, .dead, .dead, .dead, .dead, .dead, .dead, .dead, .dead, .cell (.ro ChipT bc), I bc.length, I i, .dead, .dead, .dead, .dead, .dead, .dead, .dead, .dead, .dead, .dead, .dead, .dead, .dead, .dead, .dead, .dead, .dead, .dead, .dead, .dead, .dead, .dead, .dead, .dead, .dead, .dead, .dead, .dead, .dead, .dead, .dead] [])
    (fun k _ => fstG (ownB a) (bc.drop k) k = fstI (ownB a) bc) () (Le.mk [] [] rfl rfl rfl ?_) rfl fun k _ hk hi => ?_
  · repeat' first | exact trivial | exact ⟨rfl, rfl⟩ | refine And.intro ?_ ?_
  repeat' first
    | (refine Go.mk ?_; conv => whnf)
    | refine Need.go ?_ ?_
    | refine NilG.go (fun _ => ?_) (fun _ => ?_)
    | refine Br.dec (fun _ => ?_) (fun _ => ?_)
    | refine Br.go (fun _ => ?_) (fun _ => ?_)
    | refine draw_go hT hP mixed ?_
    | refine round_go hT hP ?_
  all_goals (try dsimp only [castL_eq] at *)
  all_goals clear hT hP
  · rename_i g1
    have g1 : (k : Int) < (bc.length : Int) := g1
    show 0 ≤ (k : Int) ∧ (k : Int) < (bc.length : Int)
    omega
  · rename_i g1 g2 g3 g4
    have g1 : (k : Int) < (bc.length : Int) := g1
    have hlt : k < bc.length := by omega
    have hm := hc _ (memD' (dflt ChipT) hlt)
    have g2 : a ≥ (bc.getD k (dflt ChipT)).2.2.1 := g2
    have g3 : (bc.getD k (dflt ChipT)).2.2.2.1 > 0 := g3
    have g4 := (hit_u ha hm.1 hm.2 g2 g3).1 g4
    have hp : ownB a (bc.getD k (dflt ChipT)) = true := by
      unfold ownB; rw [decide_eq_true g2, decide_eq_true g3, decide_eq_true g4]; rfl
    have e := fst_hit (dflt ChipT) hlt hp hi
    have e1 : findF (bn, bu, bc, bw) a = (k : Int) := e.symm
    refine .mk [] [] _ rfl rfl rfl rfl rfl rfl (tup3 ?_ ?_ ?_)
    · show (k : Int) = if 0 ≤ findF (bn, bu, bc, bw) a then findF (bn, bu, bc, bw) a else 0
      rw [e1, if_pos (by omega)]
    · show IntKind.i64.wrap (a - (bc.getD k (dflt ChipT)).2.2.1) = atF (bn, bu, bc, bw) a
      unfold atF
      rw [e1, if_pos (by omega)]
      show _ = a - (bc.getD k (dflt ChipT)).2.2.1
      have h1 := ha.2
      have h2 := hm.1.1
      have h3 := hm.2.2
      unfold i64 at *
      exact w64 (by omega) (by omega)
    · show true = decide (0 ≤ findF (bn, bu, bc, bw) a)
      rw [e1]; exact (decide_eq_true (by omega)).symm
  · rename_i g1 g2 g3 g4
    have g1 : (k : Int) < (bc.length : Int) := g1
    have hlt : k < bc.length := by omega
    have hm := hc _ (memD' (dflt ChipT) hlt)
    have g2 : a ≥ (bc.getD k (dflt ChipT)).2.2.1 := g2
    have g3 : (bc.getD k (dflt ChipT)).2.2.2.1 > 0 := g3
    have g4 := fun z => g4 ((hit_u ha hm.1 hm.2 g2 g3).2 z)
    have hp : ¬ ownB a (bc.getD k (dflt ChipT)) = true := by
      unfold ownB; rw [decide_eq_false g4]; simp
    apply Exists.intro
    apply Exists.intro ()
    refine And.intro (And.intro ?lt146 (And.intro ?ei146 ?inv146)) (Le.mk [] [] rfl rfl ?hh146 ?ht146)
    case hh146 => exact rfl
    case ht146 => repeat' first | exact trivial | exact ⟨rfl, rfl⟩ | refine And.intro ?_ ?_
    case lt146 => omega
    case ei146 => exact up_i (by omega)
    exact fst_miss (dflt ChipT) hlt hp hi
  · rename_i g1 g2 g3
    have g1 : (k : Int) < (bc.length : Int) := g1
    have hlt : k < bc.length := by omega
    have g3 : ¬ (bc.getD k (dflt ChipT)).2.2.2.1 > 0 := g3
    have hp : ¬ ownB a (bc.getD k (dflt ChipT)) = true := by
      unfold ownB; rw [decide_eq_false g3]; simp
    apply Exists.intro
    apply Exists.intro ()
    refine And.intro (And.intro ?lt160 (And.intro ?ei160 ?inv160)) (Le.mk [] [] rfl rfl ?hh160 ?ht160)
    case hh160 => exact rfl
    case ht160 => repeat' first | exact trivial | exact ⟨rfl, rfl⟩ | refine And.intro ?_ ?_
    case lt160 => omega
    case ei160 => exact up_i (by omega)
    exact fst_miss (dflt ChipT) hlt hp hi
  · rename_i g1 g2
    have g1 : (k : Int) < (bc.length : Int) := g1
    have hlt : k < bc.length := by omega
    have g2 : ¬ a ≥ (bc.getD k (dflt ChipT)).2.2.1 := g2
    have hp : ¬ ownB a (bc.getD k (dflt ChipT)) = true := by
      unfold ownB; rw [decide_eq_false g2]; simp
    apply Exists.intro
    apply Exists.intro ()
    refine And.intro (And.intro ?lt174 (And.intro ?ei174 ?inv174)) (Le.mk [] [] rfl rfl ?hh174 ?ht174)
    case hh174 => exact rfl
    case ht174 => repeat' first | exact trivial | exact ⟨rfl, rfl⟩ | refine And.intro ?_ ?_
    case lt174 => omega
    case ei174 => exact up_i (by omega)
    exact fst_miss (dflt ChipT) hlt hp hi
  · rename_i g1
    have g1 : ¬ (k : Int) < (bc.length : Int) := g1
    have e := fst_none (by omega) hi
    have e1 : findF (bn, bu, bc, bw) a = -1 := e.symm
    refine .mk [] [] _ rfl rfl rfl rfl rfl rfl (tup3 ?_ ?_ ?_)
    · show 0 = if 0 ≤ findF (bn, bu, bc, bw) a then findF (bn, bu, bc, bw) a else 0
      rw [e1]; rfl
    · show 0 = atF (bn, bu, bc, bw) a
      unfold atF
      rw [e1]; rfl
    · show false = decide (0 ≤ findF (bn, bu, bc, bw) a)
      rw [e1]; rfl

def askK (k : Int) : Bool := decide (k = 3) || (decide (k = 5) || decide (k = 8))
def asksS : PSpec := ⟨[gi], fun (k, _) => (none, .cell (bv (askK k)), [])⟩
theorem bAsks_ok : GoodF Tryz.prog 122 asksS.spec := by
  have hT := tab_ok (fs := []) tree_ok
  have hP : SpecsOk Tryz.prog (tab tree []) := specs_nil
  refine asksS.good (fn := Tryz.f122) hT hP Tryz.func122 (by kernel_rfl) rfl fun (k : Int) _ => ?_
  repeat' first
    | (refine Go.mk ?_; conv => whnf)
    | refine Need.go ?_ ?_
    | refine NilG.go (fun _ => ?_) (fun _ => ?_)
    | refine Br.dec (fun _ => ?_) (fun _ => ?_)
    | refine Br.go (fun _ => ?_) (fun _ => ?_)
    | refine draw_go hT hP mixed ?_
    | refine round_go hT hP ?_
  all_goals (refine .mk [] [] _ rfl rfl rfl rfl rfl rfl (imm_bool ?_))
  all_goals (show _ = (decide (k = 3) || (decide (k = 5) || decide (k = 8))))
  all_goals clear hT hP
  all_goals (dsimp only [gi, Den] at *)
  all_goals (simp_all)
  all_goals (by_cases h : k = 8 <;> simp [h])
theorem rInterrupts_ok : GoodF Tryz.prog 56 asksS.spec := by
  have hT := tab_ok (fs := [(105, containsS.spec)]) tree_ok
  have hP : SpecsOk Tryz.prog (tab tree [(105, containsS.spec)]) := specs_cons contains_ok specs_nil
  refine asksS.good (fn := Tryz.f56) hT hP Tryz.func56 (by kernel_rfl) rfl fun (k : Int) _ => ?_
  repeat' first
    | (refine Go.mk ?_; conv => whnf)
    | refine Need.go ?_ ?_
    | refine NilG.go (fun _ => ?_) (fun _ => ?_)
    | refine Br.dec (fun _ => ?_) (fun _ => ?_)
    | refine Br.go (fun _ => ?_) (fun _ => ?_)
    | refine draw_go hT hP mixed ?_
    | refine round_go hT hP ?_
  all_goals first
    | exact of_decide_eq_true rfl
    | skip
  refine .mk [] [] _ rfl rfl rfl rfl rfl rfl (imm_bool ?_)
  show ([3, 5, 8].any fun a => decide (k = a)) = _
  simp only [List.any_cons, List.any_nil, Bool.or_false]
  rfl

end Go.Proofs.YtofgbclopbmlcaaGreat

/- Wires: which are so. -/
namespace Go.Proofs.YtofgbclopbmlcaaGreat
open Go.Fw
set_option linter.unusedVariables false
set_option linter.unusedSimpArgs false
set_option linter.constructorNameAsVariable false
set_option maxRecDepth 100000

theorem fstG_any {α : Type} (p : α → Bool) : ∀ (l : List α) (k : Nat), decide (fstG p l k ≥ 0) = l.any p
  | [], k => rfl
  | x :: r, k => by
    unfold fstG
    by_cases h : p x = true
    · rw [if_pos h, List.any_cons, h, decide_eq_true (by omega)]; rfl
    · rw [if_neg h, List.any_cons, fstG_any p r (k + 1)]
      have : p x = false := by simpa using h
      rw [this]; rfl
theorem fst_any {α : Type} (p : α → Bool) (l : List α) : decide (fstI p l ≥ 0) = l.any p := fstG_any p l 0
def irqS : ByteArray := ⟨#[46, 105, 114, 113]⟩
def cpuIrq : ByteArray := ⟨#[99, 112, 117, 46, 105, 114, 113]⟩
def heardB (c : Cv) (w : Wr) : Bool := bif strEq w.1 (c.1 ++ irqS) then strEq w.2 cpuIrq else false
def nameOk (c : Cv) : Prop := c.1.size < 4611686018427387900

structure loX where
  l : List Wr
  d : ByteArray
def hecRd : List V1 → List Blk → Option (Wr × Cv) := fun a b => match a, b with
  | [.agg [.imm (.string wa), .imm (.string wb)], .c (.ptr 0 0)], [.var [.imm (.string cn), .imm (.int .i64 ck), .imm (.int .i64 cb), .imm (.int .i64 cs), .ro (.int .u8) cd]] => some ((wa, wb), (cn, ck, cb, cs, cd))
  | _, _ => none
theorem hecRd_ok {a : List V1} {b : List Blk} {x : Wr × Cv} (h : hecRd a b = some x) : a = [.agg [.imm (.string x.1.1), .imm (.string x.1.2)], .c (.ptr 0 0)] ∧ b = [.var [.imm (.string x.2.1), iv .i64 x.2.2.1, iv .i64 x.2.2.2.1, iv .i64 x.2.2.2.2.1, .ro (.int .u8) x.2.2.2.2.2]] := by
  unfold hecRd at h
  split at h
  · injection h with h; subst h; exact ⟨rfl, rfl⟩
  · cases h
def hecS : WSpec := ⟨Wr × Cv, fun x => [.agg [.imm (.string x.1.1), .imm (.string x.1.2)], .c (.ptr 0 0)], fun x => [.var [.imm (.string x.2.1), iv .i64 x.2.2.1, iv .i64 x.2.2.2.1, iv .i64 x.2.2.2.2.1, .ro (.int .u8) x.2.2.2.2.2]], hecRd,
  fun x => (some ((nameOk) x.2), .cell (bv (heardB x.2 x.1)), [some (.var [.imm (.string x.2.1), iv .i64 x.2.2.1, iv .i64 x.2.2.2.1, iv .i64 x.2.2.2.2.1, .ro (.int .u8) x.2.2.2.2.2])], [])⟩
theorem hec_ok : GoodF Tryz.prog 124 hecS.spec := by
  have hT := tab_ok (fs := []) tree_ok
  have hP : SpecsOk Tryz.prog (tab tree []) := specs_nil
  refine hecS.good (fn := Tryz.f124) hT hP Tryz.func124 (by kernel_rfl) rfl (fun _ _ _ h => hecRd_ok h) fun (x : Wr × Cv) hq => ?_
  have hq : (nameOk) x.2 := hq _ rfl
  repeat' first
    | (refine Go.mk ?_; conv => whnf)
    | refine Need.go ?_ ?_
    | refine NilG.go (fun _ => ?_) (fun _ => ?_)
    | refine Br.dec (fun _ => ?_) (fun _ => ?_)
    | refine Br.go (fun _ => ?_) (fun _ => ?_)
    | refine draw_go hT hP mixed ?_
    | refine round_go hT hP ?_
  all_goals clear hT hP
  all_goals first
    | (show x.2.1.size + 4 < 4611686018427387904
       have hq : x.2.1.size < 4611686018427387900 := hq
       omega)
    | exact .mk [] [0] _ rfl rfl rfl rfl rfl rfl rfl
    | (rename_i g
       have g : strEq x.1.1 (x.2.1 ++ irqS) = true := g
       refine .mk [] [0] _ rfl rfl rfl rfl rfl rfl (imm_bool ?_)
       show _ = bif strEq x.1.1 (x.2.1 ++ irqS) then strEq x.1.2 cpuIrq else false
       rw [g]; rfl)
    | (rename_i g
       have g : strEq x.1.1 (x.2.1 ++ irqS) = false := g
       refine .mk [] [0] _ rfl rfl rfl rfl rfl rfl (imm_bool ?_)
       show _ = bif strEq x.1.1 (x.2.1 ++ irqS) then strEq x.1.2 cpuIrq else false
       rw [g]; rfl)
    | skip

structure heX where
  l : List Wr
  d : Cv
def heRd : List V1 → List Blk → Option heX := fun a b => match a, b with
  | [.c (.ro (.pair .str .str) l), .c (.fn 124 [0])], [.var [.imm (.string cn), .imm (.int .i64 ck), .imm (.int .i64 cb), .imm (.int .i64 cs), .ro (.int .u8) cd]] => some ⟨l, (cn, ck, cb, cs, cd)⟩
  | _, _ => none
theorem heRd_ok {a : List V1} {b : List Blk} {x : heX} (h : heRd a b = some x) : a = [.c (.ro WireT x.l), .c (.fn 124 [0])] ∧ b = [.var [.imm (.string x.d.1), iv .i64 x.d.2.1, iv .i64 x.d.2.2.1, iv .i64 x.d.2.2.2.1, .ro (.int .u8) x.d.2.2.2.2]] := by
  unfold heRd at h
  split at h
  · injection h with h; subst h; exact ⟨rfl, rfl⟩
  · cases h
def heiS : WSpec := ⟨heX, fun x => [.c (.ro WireT x.l), .c (.fn 124 [0])], fun x => [.var [.imm (.string x.d.1), iv .i64 x.d.2.1, iv .i64 x.d.2.2.1, iv .i64 x.d.2.2.2.1, .ro (.int .u8) x.d.2.2.2.2]], heRd,
  fun x => (some (x.l.length ≤ 4611686018427387904 ∧ (nameOk) x.d), I (fstI (heardB x.d) x.l), [some (.var [.imm (.string x.d.1), iv .i64 x.d.2.1, iv .i64 x.d.2.2.1, iv .i64 x.d.2.2.2.1, .ro (.int .u8) x.d.2.2.2.2])], [])⟩
theorem hei_ok : GoodF Tryz.prog 201 heiS.spec := by
  have hT := tab_ok (fs := [(124, hecS.spec)]) tree_ok
  have hP : SpecsOk Tryz.prog (tab tree [(124, hecS.spec)]) := specs_cons hec_ok specs_nil
  refine heiS.good (fn := Tryz.f201) hT hP Tryz.func201 (by kernel_rfl) rfl (fun _ _ _ h => heRd_ok h) fun (x : heX) hq => ?_
  obtain ⟨hl, hq⟩ : x.l.length ≤ 4611686018427387904 ∧ (nameOk) x.d := hq _ rfl
  obtain ⟨l, d⟩ := x
  have hl : l.length ≤ 4611686018427387904 := hl
  repeat' first
    | (refine Go.mk ?_; conv => whnf)
    | refine Need.go ?_ ?_
    | refine NilG.go (fun _ => ?_) (fun _ => ?_)
    | refine Br.dec (fun _ => ?_) (fun _ => ?_)
    | refine Br.go (fun _ => ?_) (fun _ => ?_)
    | refine draw_go hT hP mixed ?_
    | refine round_go hT hP ?_
  refine up_go hT hP (A := Unit) l.length (fun i _ => St.mk [.cell (.ro WireT l), .cell (.fn 124 [0]), .dead, .dead, .dead, .dead, .dead, I l.length, I i, .dead, .dead, .dead, .dead, .dead, .dead, .dead, .dead, .dead, .dead] [some (.var [.imm (.string d.1), iv .i64 d.2.1, iv .i64 d.2.2.1, iv .i64 d.2.2.2.1, .ro (.int .u8) d.2.2.2.2])])
    (fun k _ => fstG (heardB d) (l.drop k) k = fstI (heardB d) l) () (Le.mk [] [0] rfl rfl rfl ?_) rfl fun k _ hk hi => ?_
  · repeat' first | exact trivial | exact ⟨rfl, rfl⟩ | refine And.intro ?_ ?_
  repeat' first
    | (refine Go.mk ?_; conv => whnf)
    | refine Need.go ?_ ?_
    | refine NilG.go (fun _ => ?_) (fun _ => ?_)
    | refine Br.dec (fun _ => ?_) (fun _ => ?_)
    | refine Br.go (fun _ => ?_) (fun _ => ?_)
    | refine draw_go hT hP mixed ?_
    | refine round_go hT hP ?_
  all_goals clear hT hP
  · rename_i g1
    have g1 : (k : Int) < (l.length : Int) := g1
    show 0 ≤ (k : Int) ∧ (k : Int) < (l.length : Int)
    omega
  · first | exact hq | exact trivial
  · rename_i g1 g2
    have g1 : (k : Int) < (l.length : Int) := g1
    exact .mk [] [0] _ rfl rfl rfl rfl rfl rfl (imm_int (fst_hit (dflt WireT) (by omega) g2 hi))
  · rename_i g1 g2
    have g1 : (k : Int) < (l.length : Int) := g1
    have hp : ¬ heardB d (l.getD k (dflt WireT)) = true := by
      have g2 : heardB d (l.getD k (dflt WireT)) = false := g2
      rw [g2]; decide
    apply Exists.intro
    apply Exists.intro ()
    refine And.intro (And.intro ?lt230 (And.intro ?ei230 ?inv230)) (Le.mk [] [0] rfl rfl ?hh230 ?ht230)
    case hh230 => exact rfl
    case ht230 => repeat' first | exact trivial | exact ⟨rfl, rfl⟩ | refine And.intro ?_ ?_
    case lt230 => omega
    case ei230 => exact up_i (by omega)
    exact fst_miss (dflt WireT) (by omega) hp hi
  · rename_i g1
    have g1 : ¬ (k : Int) < (l.length : Int) := g1
    exact .mk [] [0] _ rfl rfl rfl rfl rfl rfl (imm_int (fst_none (by omega) hi))

def hetS : WSpec := ⟨heX, fun x => [.c (.ro WireT x.l), .c (.fn 124 [0])], fun x => [.var [.imm (.string x.d.1), iv .i64 x.d.2.1, iv .i64 x.d.2.2.1, iv .i64 x.d.2.2.2.1, .ro (.int .u8) x.d.2.2.2.2]], heRd,
  fun x => (some (x.l.length ≤ 4611686018427387904 ∧ (nameOk) x.d), .cell (bv (x.l.any (heardB x.d))), [some (.var [.imm (.string x.d.1), iv .i64 x.d.2.1, iv .i64 x.d.2.2.1, iv .i64 x.d.2.2.2.1, .ro (.int .u8) x.d.2.2.2.2])], [])⟩
theorem het_ok : GoodF Tryz.prog 123 hetS.spec := by
  have hT := tab_ok (fs := [(201, heiS.spec)]) tree_ok
  have hP : SpecsOk Tryz.prog (tab tree [(201, heiS.spec)]) := specs_cons hei_ok specs_nil
  refine hetS.good (fn := Tryz.f123) hT hP Tryz.func123 (by kernel_rfl) rfl (fun _ _ _ h => heRd_ok h) fun (x : heX) hq => ?_
  have hq : x.l.length ≤ 4611686018427387904 ∧ (nameOk) x.d := hq _ rfl
  obtain ⟨l, d⟩ := x
  repeat' first
    | (refine Go.mk ?_; conv => whnf)
    | refine Need.go ?_ ?_
    | refine NilG.go (fun _ => ?_) (fun _ => ?_)
    | refine Br.dec (fun _ => ?_) (fun _ => ?_)
    | refine Br.go (fun _ => ?_) (fun _ => ?_)
    | refine draw_go hT hP mixed ?_
    | refine round_go hT hP ?_
  all_goals clear hT hP
  · first | exact hq | exact trivial
  · exact .mk [] [0] _ rfl rfl rfl rfl rfl rfl (imm_bool (fst_any (heardB d) l))


structure bfX where
  l : List Wr
  d : Cv
end Go.Proofs.YtofgbclopbmlcaaGreat

/- Lists compared; a wire looked for. -/
namespace Go.Proofs.YtofgbclopbmlcaaGreat
open Go.Fw
set_option linter.unusedVariables false
set_option linter.unusedSimpArgs false
set_option linter.constructorNameAsVariable false
set_option maxRecDepth 100000

theorem strEq_iff {x y : ByteArray} : strEq x y = true ↔ x = y := Lib.bytes_beq_iff x y
theorem denEq_iff {x y : Wr} : denEq WireT x y = true ↔ x = y := ⟨fun h => denEq_eq (u := WireT) rfl h, fun h => by subst h; show (strEq x.1 x.1 && strEq x.2 x.2) = true; rw [strEq_iff.2 rfl, strEq_iff.2 rfl]; rfl⟩

abbrev gWr : Sig := ⟨true, WireT⟩
def sameW (v w : Wr) : Bool := denEq WireT v w
def wIdxS : PSpec := ⟨[⟨false, .sl WireT⟩, gWr], fun (l, v, _) => (some (List.length l ≤ 4611686018427387904), I (fstI (sameW v) l), [])⟩
theorem wIdx_ok : GoodF Tryz.prog 106 wIdxS.spec := by
  have hT := tab_ok (fs := []) tree_ok
  have hP : SpecsOk Tryz.prog (tab tree []) := specs_nil
  refine wIdxS.good (fn := Tryz.f106) hT hP Tryz.func106 (by kernel_rfl) rfl fun (l : List Wr) (v : Wr) hq => ?_
  have hl : l.length ≤ 4611686018427387904 := hq _ rfl
  obtain ⟨va, vb⟩ := v
  clear hq
  repeat' first
    | (refine Go.mk ?_; conv => whnf)
    | refine Need.go ?_ ?_
    | refine NilG.go (fun _ => ?_) (fun _ => ?_)
    | refine Br.dec (fun _ => ?_) (fun _ => ?_)
    | refine Br.go (fun _ => ?_) (fun _ => ?_)
    | refine draw_go hT hP mixed ?_
    | refine round_go hT hP ?_
  refine up_go hT hP (A := Unit) l.length (fun i _ => St.mk [.cell (.ro WireT l), .dead, .dead, .cell (.ptr 0 0), .dead, .dead, .dead, I l.length, I i, .dead, .dead, .dead, .dead, .dead, .dead, .dead, .dead, .dead, .dead] [some (.var [.imm (.string va), .imm (.string vb)])])
    (fun k _ => fstG (sameW (va, vb)) (l.drop k) k = fstI (sameW (va, vb)) l) () (Le.mk [] [0] rfl rfl rfl ?_) rfl fun k _ hk hi => ?_
  · repeat' first | exact trivial | exact ⟨rfl, rfl⟩ | refine And.intro ?_ ?_
  repeat' first
    | (refine Go.mk ?_; conv => whnf)
    | refine Need.go ?_ ?_
    | refine NilG.go (fun _ => ?_) (fun _ => ?_)
    | refine Br.dec (fun _ => ?_) (fun _ => ?_)
    | refine Br.go (fun _ => ?_) (fun _ => ?_)
    | refine draw_go hT hP mixed ?_
    | refine round_go hT hP ?_
  all_goals clear hT hP
  · rename_i g1
    have g1 : (k : Int) < (l.length : Int) := g1
    show 0 ≤ (k : Int) ∧ (k : Int) < (l.length : Int)
    omega
  · rename_i g1 g2
    have g1 : (k : Int) < (l.length : Int) := g1
    exact .mk [] [] _ rfl rfl rfl rfl rfl rfl (imm_int (fst_hit (dflt WireT) (by omega) g2 hi))
  · rename_i g1 g2
    have g1 : (k : Int) < (l.length : Int) := g1
    have hp : ¬ sameW (va, vb) (l.getD k (dflt WireT)) = true := by
      have g2 : sameW (va, vb) (l.getD k (dflt WireT)) = false := g2
      rw [g2]; decide
    apply Exists.intro
    apply Exists.intro ()
    refine And.intro (And.intro ?lt249 (And.intro ?ei249 ?inv249)) (Le.mk [] [0] rfl rfl ?hh249 ?ht249)
    case hh249 => exact rfl
    case ht249 => repeat' first | exact trivial | exact ⟨rfl, rfl⟩ | refine And.intro ?_ ?_
    case lt249 => omega
    case ei249 => exact up_i (by omega)
    exact fst_miss (dflt WireT) (by omega) hp hi
  · rename_i g1
    have g1 : ¬ (k : Int) < (l.length : Int) := g1
    exact .mk [] [] _ rfl rfl rfl rfl rfl rfl (imm_int (fst_none (by omega) hi))
def wHasS : PSpec := ⟨[⟨false, .sl WireT⟩, gWr], fun (l, v, _) => (some (List.length l ≤ 4611686018427387904), .cell (bv (l.any (sameW v))), [])⟩
theorem wHas_ok : GoodF Tryz.prog 57 wHasS.spec := by
  have hT := tab_ok (fs := [(106, wIdxS.spec)]) tree_ok
  have hP : SpecsOk Tryz.prog (tab tree [(106, wIdxS.spec)]) := specs_cons wIdx_ok specs_nil
  refine wHasS.good (fn := Tryz.f57) hT hP Tryz.func57 (by kernel_rfl) rfl fun (l : List Wr) (v : Wr) hq => ?_
  have hl : l.length ≤ 4611686018427387904 := hq _ rfl
  obtain ⟨va, vb⟩ := v
  clear hq
  repeat' first
    | (refine Go.mk ?_; conv => whnf)
    | refine Need.go ?_ ?_
    | refine NilG.go (fun _ => ?_) (fun _ => ?_)
    | refine Br.dec (fun _ => ?_) (fun _ => ?_)
    | refine Br.go (fun _ => ?_) (fun _ => ?_)
    | refine draw_go hT hP mixed ?_
    | refine round_go hT hP ?_
  all_goals clear hT hP
  · exact hl
  · exact .mk [] [] _ rfl rfl rfl rfl rfl rfl (imm_bool (fst_any (sameW (va, vb)) l))

end Go.Proofs.YtofgbclopbmlcaaGreat

/- Boards: which pins are loose, which chips are heard. -/
namespace Go.Proofs.YtofgbclopbmlcaaGreat
open Go.Fw
set_option linter.unusedVariables false
set_option linter.unusedSimpArgs false
set_option linter.constructorNameAsVariable false
set_option maxRecDepth 100000

def bdP (b : Bd) : Prop := (b.2.2.1.length * 64 ≤ 140737488351232 ∧ b.2.2.2.length * 32 ≤ 140737488351232) ∧ ∀ c ∈ b.2.2.1, cP c ∧ c.1.size ≤ 140737488351232
theorem take_snoc {α : Type} {l : List α} {k : Nat} (d : α) (h : k < l.length) : l.take (k + 1) = l.take k ++ [l.getD k d] := by
  rw [List.take_add_one, List.getD_eq_getElem?_getD, List.getElem?_eq_getElem h]; rfl
def heardL (w : List Wr) (l : List Cv) : List Bool := l.map fun c => askK c.2.1 && w.any (heardB c)
theorem heardL_len (w : List Wr) (l : List Cv) : (heardL w l).length = l.length := List.length_map ..
def heardK (w : List Wr) (l : List Cv) (k : Nat) : List Bool := heardL w (l.take k) ++ List.replicate (l.length - k) false
theorem heardK_set {w : List Wr} {l : List Cv} {k : Nat} (h : k < l.length) {b : Bool} (hb : (askK (l.getD k (dflt ChipT)).2.1 && w.any (heardB (l.getD k (dflt ChipT)))) = b) : (heardK w l k).set k b = heardK w l (k + 1) := by
  have hl : (heardL w (l.take k)).length = k := by rw [heardL_len, List.length_take]; omega
  have e : l.length - k = (l.length - (k + 1)) + 1 := by omega
  unfold heardK
  rw [e, List.replicate_succ, List.set_append, if_neg (by omega), hl, Nat.sub_self, List.set_cons_zero, take_snoc (dflt ChipT) h]
  unfold heardL
  rw [List.map_append, List.map_cons, List.map_nil, hb]
  simp
theorem heardK_len (w : List Wr) (l : List Cv) {k : Nat} (h : k ≤ l.length) : (heardK w l k).length = l.length := by
  unfold heardK; rw [List.length_append, heardL_len, List.length_take, List.length_replicate]; omega
def heardS : PSpec := ⟨[gBd], fun (b, _) => (some (bdP b), .cell (.own 0), [.arr .bool (heardL b.2.2.2 b.2.2.1)])⟩
theorem bHeard_ok : GoodF Tryz.prog 66 heardS.spec := by
  have hT := tab_ok (fs := [(122, asksS.spec), (123, hetS.spec)]) tree_ok
  have hP : SpecsOk Tryz.prog (tab tree [(122, asksS.spec), (123, hetS.spec)]) := specs_cons bAsks_ok (specs_cons het_ok specs_nil)
  refine heardS.good (fn := Tryz.f66) hT hP Tryz.func66 (by kernel_rfl) rfl fun (b : Bd) hq => ?_
  obtain ⟨⟨hl, hw⟩, hc⟩ : bdP b := hq _ rfl
  obtain ⟨bn, ⟨un, ui, ur, uq, um⟩, bc, bw⟩ := b
  have hl : bc.length * 64 ≤ 140737488351232 := hl
  have hw : bw.length * 32 ≤ 140737488351232 := hw
  have hc : ∀ c ∈ bc, cP c ∧ c.1.size ≤ 140737488351232 := hc
  clear hq
  repeat' first
    | (refine Go.mk ?_; conv => whnf)
    | refine Need.go ?_ ?_
    | refine NilG.go (fun _ => ?_) (fun _ => ?_)
    | refine Br.dec (fun _ => ?_) (fun _ => ?_)
    | refine Br.go (fun _ => ?_) (fun _ => ?_)
    | refine draw_go hT hP mixed ?_
    | refine round_go hT hP ?_
  · show (bc.length : Int) = bc.length ∧ 0 ≤ (bc.length : Int) ∧ (bc.length : Int) * 1 ≤ 281474976710656 ∧ (bc.length : Int) ≤ 281474976710656
    omega
  refine up_go hT hP (A := List Bool) bc.length (fun i o => St.mk [.dead, .cell (.ptr 0 0), .dead, .cell (.own 1), .dead, .dead, .dead, .dead, .dead, .dead, .dead, .cell (.ro ChipT bc), I bc.length, I i, .dead, .dead, .dead, .dead, .dead, .dead, .dead, .dead, .dead, .dead, .dead, .dead, .dead, .dead, .dead, .dead, .dead, .dead]
      [some (.var [.imm (.string bn), .imm (.string un), .ro InsT ui, .ro CycT ur, .ro CycT uq, .ro CycT um, .ro ChipT bc, .ro WireT bw]), some (.arr .bool o)])
    (fun k o => o = heardK bw bc k) (List.replicate (bc.length : Int).toNat false) (Le.mk [] [0, 1] rfl rfl ?_ ?_) (by unfold heardK heardL; simp) fun k o hk hi => ?_
  · exact rfl
  · repeat' first | exact trivial | exact ⟨rfl, rfl⟩ | refine And.intro ?_ ?_
  repeat' first
    | (refine Go.mk ?_; conv => whnf)
    | refine Need.go ?_ ?_
    | refine NilG.go (fun _ => ?_) (fun _ => ?_)
    | refine Br.dec (fun _ => ?_) (fun _ => ?_)
    | refine Br.go (fun _ => ?_) (fun _ => ?_)
    | refine draw_go hT hP mixed ?_
    | refine round_go hT hP ?_
  all_goals (try dsimp only [castL_eq] at *)
  all_goals clear hT hP
  · rename_i g1
    have g1 : (k : Int) < (bc.length : Int) := g1
    show 0 ≤ (k : Int) ∧ (k : Int) < (bc.length : Int)
    omega
  · rename_i g1 g2
    have g1 : (k : Int) < (bc.length : Int) := g1
    have := (hc _ (memD' (dflt ChipT) (show k < bc.length by omega))).2
    refine ⟨by omega, ?_⟩
    show (bc.getD k (dflt ChipT)).1.size < 4611686018427387900
    omega
  · rename_i g1 g2
    have g1 : (k : Int) < (bc.length : Int) := g1
    have := heardK_len bw bc hk
    show 0 ≤ (k : Int) ∧ (k : Int) < (o.length : Int)
    rw [hi]; omega
  · rename_i g1 g2
    have g1 : (k : Int) < (bc.length : Int) := g1
    have := heardK_len bw bc hk
    show k < o.length
    rw [hi]; omega
  · rename_i g1 g2
    have g1 : (k : Int) < (bc.length : Int) := g1
    have g2 : askK (bc.getD k (dflt ChipT)).2.1 = true := g2
    apply Exists.intro
    apply Exists.intro _
    refine And.intro (And.intro ?lt193 (And.intro ?ei193 ?inv193)) (Le.mk [] [0, 1] rfl rfl ?hh193 ?ht193)
    case hh193 => exact rfl
    case ht193 => repeat' first | exact trivial | exact ⟨rfl, rfl⟩ | refine And.intro ?_ ?_
    case lt193 => omega
    case ei193 => exact up_i (by omega)
    rw [hi]; exact heardK_set (by omega) (by rw [g2]; rfl)
  · rename_i g1 g2
    have g1 : (k : Int) < (bc.length : Int) := g1
    have := heardK_len bw bc hk
    show 0 ≤ (k : Int) ∧ (k : Int) < (o.length : Int)
    rw [hi]; omega
  · rename_i g1 g2
    have g1 : (k : Int) < (bc.length : Int) := g1
    have := heardK_len bw bc hk
    show k < o.length
    rw [hi]; omega
  · rename_i g1 g2
    have g1 : (k : Int) < (bc.length : Int) := g1
    have g2 : askK (bc.getD k (dflt ChipT)).2.1 = false := g2
    apply Exists.intro
    apply Exists.intro _
    refine And.intro (And.intro ?lt214 (And.intro ?ei214 ?inv214)) (Le.mk [] [0, 1] rfl rfl ?hh214 ?ht214)
    case hh214 => exact rfl
    case ht214 => repeat' first | exact trivial | exact ⟨rfl, rfl⟩ | refine And.intro ?_ ?_
    case lt214 => omega
    case ei214 => exact up_i (by omega)
    rw [hi]; exact heardK_set (by omega) (by rw [g2]; rfl)
  · rename_i g1
    have g1 : ¬ (k : Int) < (bc.length : Int) := g1
    refine .mk [] [1] _ rfl rfl rfl rfl rfl ?_ rfl
    have e : k = bc.length := by omega
    have e2 : heardK bw bc k = heardL bw bc := by
      unfold heardK; rw [e, List.take_length, Nat.sub_self]; simp
    rw [hi, e2]; rfl

theorem heardL_snoc {w : List Wr} {l : List Cv} {k : Nat} (h : k < l.length) {b : Bool} (hb : (askK (l.getD k (dflt ChipT)).2.1 && w.any (heardB (l.getD k (dflt ChipT)))) = b) : heardL w (l.take k) ++ [b] = heardL w (l.take (k + 1)) := by
  unfold heardL
  rw [take_snoc (dflt ChipT) h, List.map_append, List.map_cons, List.map_nil, hb]
theorem heard_same (c : Cv) (w : List Wr) : w.any (heardB c) = w.any (sameW (c.1 ++ irqS, cpuIrq)) := by
  have e : heardB c = sameW (c.1 ++ irqS, cpuIrq) := by
    funext x
    have h1 : strEq x.1 (c.1 ++ irqS) = strEq (c.1 ++ irqS) x.1 := by
      rw [Bool.eq_iff_iff, strEq_iff, strEq_iff]; exact eq_comm
    have h2 : strEq x.2 cpuIrq = strEq cpuIrq x.2 := by
      rw [Bool.eq_iff_iff, strEq_iff, strEq_iff]; exact eq_comm
    show (bif strEq x.1 (c.1 ++ irqS) then strEq x.2 cpuIrq else false) = (strEq (c.1 ++ irqS) x.1 && strEq cpuIrq x.2)
    rw [h1, h2]
    cases strEq (c.1 ++ irqS) x.1 <;> rfl
  rw [e]
theorem rAudible_ok : GoodF Tryz.prog 15 heardS.spec := by
  have hT := tab_ok (fs := [(56, asksS.spec), (57, wHasS.spec)]) tree_ok
  have hP : SpecsOk Tryz.prog (tab tree [(56, asksS.spec), (57, wHasS.spec)]) := specs_cons rInterrupts_ok (specs_cons wHas_ok specs_nil)
  refine heardS.good (fn := Tryz.f15) hT hP Tryz.func15 (by kernel_rfl) rfl fun (b : Bd) hq => ?_
  obtain ⟨⟨hl, hw⟩, hc⟩ : bdP b := hq _ rfl
  obtain ⟨bn, ⟨un, ui, ur, uq, um⟩, bc, bw⟩ := b
  have hl : bc.length * 64 ≤ 140737488351232 := hl
  have hw : bw.length * 32 ≤ 140737488351232 := hw
  have hc : ∀ c ∈ bc, cP c ∧ c.1.size ≤ 140737488351232 := hc
  clear hq
  repeat' first
    | (refine Go.mk ?_; conv => whnf)
    | refine Need.go ?_ ?_
    | refine NilG.go (fun _ => ?_) (fun _ => ?_)
    | refine Br.dec (fun _ => ?_) (fun _ => ?_)
    | refine Br.go (fun _ => ?_) (fun _ => ?_)
    | refine draw_go hT hP mixed ?_
    | refine round_go hT hP ?_
  refine up_go hT hP (A := List Bool) bc.length (fun i o => St.mk [.dead, .cell (.ptr 0 0), .dead, .cell (.own 1), .dead, .dead, .dead, .cell (.ro ChipT bc), I bc.length, I i, .dead, .dead, .dead, .dead, .dead, .dead, .dead, .dead, .dead, .dead, .dead, .dead, .dead, .dead, .dead, .dead, .dead, .dead, .dead, .dead]
      [some (.var [.imm (.string bn), .imm (.string un), .ro InsT ui, .ro CycT ur, .ro CycT uq, .ro CycT um, .ro ChipT bc, .ro WireT bw]), some (.arr .bool o)])
    (fun k o => o = heardL bw (bc.take k)) [] (.trans (Le.nil 3 .bool rfl) (Le.mk [] [0, 1] rfl rfl ?_ ?_)) rfl fun k o hk hi => ?_
  · exact rfl
  · repeat' first | exact trivial | exact ⟨rfl, rfl⟩ | refine And.intro ?_ ?_
  repeat' first
    | (refine Go.mk ?_; conv => whnf)
    | refine Need.go ?_ ?_
    | refine NilG.go (fun _ => ?_) (fun _ => ?_)
    | refine Br.dec (fun _ => ?_) (fun _ => ?_)
    | refine Br.go (fun _ => ?_) (fun _ => ?_)
    | refine draw_go hT hP mixed ?_
    | refine round_go hT hP ?_
  all_goals (try dsimp only [castL_eq] at *)
  all_goals clear hT hP
  all_goals (have hlen : (heardL bw (bc.take k)).length = k := by rw [heardL_len, List.length_take]; omega)
  · rename_i g1
    have g1 : (k : Int) < (bc.length : Int) := g1
    show 0 ≤ (k : Int) ∧ (k : Int) < (bc.length : Int)
    omega
  · rename_i g1 g2
    have g1 : (k : Int) < (bc.length : Int) := g1
    have := (hc _ (memD' (dflt ChipT) (show k < bc.length by omega))).2
    show (bc.getD k (dflt ChipT)).1.size + 4 < 4611686018427387904
    omega
  · omega
  · rename_i g1 g2
    have g1 : (k : Int) < (bc.length : Int) := g1
    show (o.length + 1) * 1 ≤ 140737488355328
    rw [hi, hlen]; omega
  · rename_i g1 g2
    have g1 : (k : Int) < (bc.length : Int) := g1
    have g2 : askK (bc.getD k (dflt ChipT)).2.1 = true := g2
    apply Exists.intro
    apply Exists.intro _
    refine And.intro (And.intro ?lt295 (And.intro ?ei295 ?inv295)) (Le.mk [] [0, 4] rfl rfl ?hh295 ?ht295)
    case hh295 => exact rfl
    case ht295 => repeat' first | exact trivial | exact ⟨rfl, rfl⟩ | refine And.intro ?_ ?_
    case lt295 => omega
    case ei295 => exact up_i (by omega)
    rw [hi]; exact heardL_snoc (by omega) (by rw [g2, Bool.true_and, heard_same]; rfl)
  · rename_i g1 g2
    have g1 : (k : Int) < (bc.length : Int) := g1
    show (o.length + 1) * 1 ≤ 140737488355328
    rw [hi, hlen]; omega
  · rename_i g1 g2
    have g1 : (k : Int) < (bc.length : Int) := g1
    have g2 : askK (bc.getD k (dflt ChipT)).2.1 = false := g2
    apply Exists.intro
    apply Exists.intro _
    refine And.intro (And.intro ?lt310 (And.intro ?ei310 ?inv310)) (Le.mk [] [0, 4] rfl rfl ?hh310 ?ht310)
    case hh310 => exact rfl
    case ht310 => repeat' first | exact trivial | exact ⟨rfl, rfl⟩ | refine And.intro ?_ ?_
    case lt310 => omega
    case ei310 => exact up_i (by omega)
    rw [hi]; exact heardL_snoc (by omega) (by rw [g2]; rfl)
  · rename_i g1
    have g1 : ¬ (k : Int) < (bc.length : Int) := g1
    refine .mk [] [1] _ rfl rfl rfl rfl rfl ?_ rfl
    rw [List.take_of_length_le (by omega)] at hi
    rw [hi]; rfl

end Go.Proofs.YtofgbclopbmlcaaGreat







/- States of machines: copied, compared. -/
namespace Go.Proofs.YtofgbclopbmlcaaGreat
open Go.Fw
set_option linter.unusedVariables false
set_option linter.unusedSimpArgs false
set_option linter.constructorNameAsVariable false
set_option maxRecDepth 100000

def machO (m : Mach) (b : Nat) : AV := .agg [iv .i64 m.1, .run .i64 9 m.2.1.1, iv .i64 m.2.1.2.1, iv .i64 m.2.1.2.2.1, bv m.2.1.2.2.2, .own b, iv .i64 m.2.2.2.1, iv .i64 m.2.2.2.2.1, iv .i64 m.2.2.2.2.2]
def okDs (l : List Dv) : Prop := l.length * 48 ≤ 140737488351232 ∧ ∀ x ∈ l, List.length x.1 * 8 ≤ 140737488351232 ∧ List.length x.2 * 1 ≤ 140737488351232
def mcopyS : PSpec := ⟨[gM], fun (m, _) => (some (okDs m.2.2.1), machO m 0, [.arr DevT m.2.2.1])⟩
theorem mcopy_ok : GoodF Tryz.prog 69 mcopyS.spec := by
  have hT := tab_ok (fs := [(71, clDevS.spec), (128, clIntS.spec), (129, clByteS.spec)]) tree_ok
  have hP : SpecsOk Tryz.prog (tab tree [(71, clDevS.spec), (128, clIntS.spec), (129, clByteS.spec)]) := specs_cons clDev_ok (specs_cons clInt_ok (specs_cons clByte_ok specs_nil))
  refine mcopyS.good (fn := Tryz.f69) hT hP Tryz.func69 (by kernel_rfl) rfl fun (m : Mach) hq => ?_
  obtain ⟨h1, h2⟩ : okDs m.2.2.1 := hq _ rfl
  clear hq
  obtain ⟨tm, ⟨r, op, at_, nmi⟩, ds, bd, ba, bdt⟩ := m
  have h1 : ds.length * 48 ≤ 140737488351232 := h1
  have h2 : ∀ x ∈ ds, List.length x.1 * 8 ≤ 140737488351232 ∧ List.length x.2 * 1 ≤ 140737488351232 := h2
  repeat' first
    | (refine Go.mk ?_; conv => whnf)
    | refine Need.go ?_ ?_
    | refine NilG.go (fun _ => ?_) (fun _ => ?_)
    | refine Br.dec (fun _ => ?_) (fun _ => ?_)
    | refine Br.go (fun _ => ?_) (fun _ => ?_)
    | refine draw_go hT hP mixed ?_
    | refine round_go hT hP ?_
  all_goals (try dsimp only [castL_eq] at *)
  · exact h1
  refine up_go hT hP (A := Unit) ds.length (fun i _ => St.mk [.dead, .cell (.ptr 0 0), .cell (.ptr 1 0), .dead, .dead, .dead, .dead, .dead, .dead, .dead, .cell (.own 2), I ds.length, I i, .dead, .dead, .dead, .dead, .dead, .dead, .dead, .dead, .dead, .dead, .dead, .dead, .dead, .dead, .dead, .dead, .dead]
      [some (.var [.imm (.int .i64 tm), .run .i64 9 r, .imm (.int .i64 op), .imm (.int .i64 at_), .imm (.bool nmi), .own 2, .imm (.int .i64 bd), .imm (.int .i64 ba), .imm (.int .i64 bdt)]),
       some (.var [.imm (.int .i64 0), .run .i64 9 (List.replicate 9 0), .imm (.int .i64 0), .imm (.int .i64 0), .imm (.bool false), .imm (.slice none 0 0), .imm (.int .i64 0), .imm (.int .i64 0), .imm (.int .i64 0)]), some (.arr DevT ds)])
    (fun k _ => True) () (Le.mk [] [0, 1, 2] rfl rfl ?_ ?_) trivial fun k _ hk _ => ?_
  · exact rfl
  · repeat' first | exact trivial | exact ⟨rfl, rfl⟩ | refine And.intro ?_ ?_
  repeat' first
    | (refine Go.mk ?_; conv => whnf)
    | refine Need.go ?_ ?_
    | refine NilG.go (fun _ => ?_) (fun _ => ?_)
    | refine Br.dec (fun _ => ?_) (fun _ => ?_)
    | refine Br.go (fun _ => ?_) (fun _ => ?_)
    | refine draw_go hT hP mixed ?_
    | refine round_go hT hP ?_
  all_goals (try dsimp only [castL_eq] at *)
  all_goals clear hT hP
  · rename_i g
    show 0 ≤ (k : Int) ∧ (k : Int) < (ds.length : Int)
    omega
  · rename_i g
    show k < ds.length
    omega
  · rename_i g
    exact (h2 _ (memD' (dflt DevT) (show k < ds.length by omega))).1
  · rename_i g
    exact (h2 _ (memD' (dflt DevT) (show k < ds.length by omega))).2
  · rename_i g
    show 0 ≤ (k : Int) ∧ (k : Int) < (ds.length : Int)
    omega
  · rename_i g
    show k < ds.length
    omega
  · rename_i g
    have g1 : (k : Int) < (ds.length : Int) := g
    apply Exists.intro
    apply Exists.intro ()
    refine And.intro (And.intro ?lt (And.intro ?ei trivial)) (Le.mk [] [0, 1, 2] rfl rfl ?hh ?ht)
    case hh => exact congrArg (fun z => [some (.var [.imm (.int .i64 tm), .run .i64 9 r, .imm (.int .i64 op), .imm (.int .i64 at_), .imm (.bool nmi), .own 2, .imm (.int .i64 bd), .imm (.int .i64 ba), .imm (.int .i64 bdt)]),
       some (.var [.imm (.int .i64 0), .run .i64 9 (List.replicate 9 0), .imm (.int .i64 0), .imm (.int .i64 0), .imm (.bool false), .imm (.slice none 0 0), .imm (.int .i64 0), .imm (.int .i64 0), .imm (.int .i64 0)]), some (Blk.arr DevT z)]) (setD_self ds k (dflt DevT))
    case ht => repeat' first | exact trivial | exact ⟨rfl, rfl⟩ | refine And.intro ?_ ?_
    case lt => omega
    case ei => exact up_i (by omega)
  · exact .mk [] [2] _ rfl rfl rfl rfl rfl rfl rfl

-- compared

end Go.Proofs.YtofgbclopbmlcaaGreat

/- Addresses of a machine read and written. -/
namespace Go.Proofs.YtofgbclopbmlcaaGreat
open Go.Fw
set_option linter.unusedVariables false
set_option linter.unusedSimpArgs false
set_option linter.constructorNameAsVariable false
set_option maxRecDepth 100000

def adI (a : Int) : Int := a % 2 ^ Int.toNat 16
theorem adI_eq (a : Int) : adI a = a % 65536 := rfl
theorem adI_in (a : Int) : 0 ≤ adI a ∧ adI a < 65536 := by rw [adI_eq]; omega
def fI (b : Bd) (a : Int) : Int := if 0 ≤ findF b a then findF b a else 0
def hasF (b : Bd) (a : Int) : Bool := decide (0 ≤ findF b a)
theorem hasF_t {b : Bd} {a : Int} (h : (!hasF b a) = false) : (0 ≤ findF b a ∧ findF b a < b.2.2.1.length) ∧ fI b a = findF b a := by
  have h1 : 0 ≤ findF b a := by
    by_cases h1 : 0 ≤ findF b a
    · exact h1
    · unfold hasF at h; rw [decide_eq_false h1] at h; cases h
  have hF : findF b a = -1 ∨ (0 ≤ findF b a ∧ findF b a < b.2.2.1.length) := fstI_in (ownB a) b.2.2.1
  exact ⟨by omega, if_pos h1⟩
theorem hasF_f {b : Bd} {a : Int} (h : (!hasF b a) = true) : ¬ 0 ≤ findF b a := fun h1 => by
  unfold hasF at h; rw [decide_eq_true h1] at h; cases h
def bfind2S : PSpec := ⟨[gBd, gi], fun (b, a, _) => (some (bP b a), .tup [I1 (fI b a), I1 (atF b a), .c (bv (hasF b a))], [])⟩
theorem bFind2_ok : GoodF Tryz.prog 93 bfind2S.spec := bFind_ok
def chAt (b : Bd) (a : Int) : Cv := b.2.2.1.getD (findF b (adI a)).toNat (dflt ChipT)
def dvAt (b : Bd) (m : Mach) (a : Int) : Dv := m.2.2.1.getD (findF b (adI a)).toNat (dflt DevT)
def memAt (b : Bd) (m : Mach) (a : Int) : Prop := (0 ≤ findF b (adI a) ∧ findF b (adI a) < (m.2.2.1.length : Nat)) ∧ 0 ≤ (chAt b a).2.1 ∧ (chAt b a).2.1 ≤ 2
instance (b : Bd) (m : Mach) (a : Int) : Decidable (memAt b m a) := by unfold memAt; infer_instance
def peekF (b : Bd) (m : Mach) (a : Int) : Int := if memAt b m a then loadI (chAt b a) (dvAt b m a) (adI a - (chAt b a).2.2.1) else 255
def pokeF (b : Bd) (m : Mach) (a k : Int) : Mach := if memAt b m a then (m.1, m.2.1, m.2.2.1.set (findF b (adI a)).toNat (storeF (chAt b a) (dvAt b m a) (adI a - (chAt b a).2.2.1) k), m.2.2.2) else m
def peekP (b : Bd) (m : Mach) : Prop := (b.2.2.1.length * 64 ≤ 140737488351232 ∧ ∀ c ∈ b.2.2.1, cP c) ∧ okDs m.2.2.1 ∧ ∀ d ∈ m.2.2.1, dP d
theorem peek_bP {b : Bd} {m : Mach} (h : peekP b m) (a : Int) : bP b (adI a) := by
  have := adI_in a
  exact ⟨by have := h.1.1; omega, ⟨by omega, by omega⟩, fun c hc => ⟨(h.1.2 c hc).1, (h.1.2 c hc).2.1⟩⟩
theorem atF_eq {b : Bd} {a : Int} (h : 0 ≤ findF b (adI a)) : atF b (adI a) = adI a - (chAt b a).2.2.1 := if_pos h
def mpeekS : PSpec := ⟨[gBd, gM, gi], fun (b, m, a, _) => (some (peekP b m), I (peekF b m a), [])⟩
theorem mpeek_ok : GoodF Tryz.prog 45 mpeekS.spec := by
  have hT := tab_ok (fs := [(94, lowM.spec), (93, bfind2S.spec), (95, cReadS.spec)]) tree_ok
  have hP : SpecsOk Tryz.prog (tab tree [(94, lowM.spec), (93, bfind2S.spec), (95, cReadS.spec)]) := specs_cons lowM_ok (specs_cons bFind2_ok (specs_cons cRead_ok specs_nil))
  refine mpeekS.good (fn := Tryz.f45) hT hP Tryz.func45 (by kernel_rfl) rfl fun (b : Bd) (m : Mach) (a : Int) hq => ?_
  have hpp : peekP b m := hq _ rfl
  have hbP := peek_bP hpp a
  have hatF := @atF_eq b a
  obtain ⟨⟨h1, h2⟩, h3, h4⟩ := hpp
  clear hq
  obtain ⟨bn, ⟨un, ui, ur, uq, um⟩, bc, bw⟩ := b
  obtain ⟨tm, ⟨r, op, at_, nmi⟩, ds, bd, ba, bdt⟩ := m
  have h1 : bc.length * 64 ≤ 140737488351232 := h1
  have h2 : ∀ c ∈ bc, cP c := h2
  have h4 : ∀ d ∈ ds, dP d := h4
  repeat' first
    | (refine Go.mk ?_; conv => whnf)
    | refine Need.go ?_ ?_
    | refine NilG.go (fun _ => ?_) (fun _ => ?_)
    | refine Br.dec (fun _ => ?_) (fun _ => ?_)
    | refine Br.go (fun _ => ?_) (fun _ => ?_)
    | refine draw_go hT hP mixed ?_
    | refine round_go hT hP ?_
  all_goals (try dsimp only [castL_eq] at *)
  all_goals clear hT hP
  · exact of_decide_eq_true rfl
  · exact hbP
  · rename_i g1
    have g1 := hasF_f (a := adI a) g1
    refine .mk [] [] _ rfl rfl rfl rfl rfl rfl (imm_int ?_)
    exact (if_neg fun h => g1 h.1.1 : peekF (bn, (un, ui, ur, uq, um), bc, bw) (tm, (r, op, at_, nmi), ds, bd, ba, bdt) a = 255).symm
  · rename_i g1 g2
    obtain ⟨⟨f1, f2⟩, f3⟩ := hasF_t (a := adI a) g1
    have g2 : fI (bn, (un, ui, ur, uq, um), bc, bw) (adI a) ≥ (ds.length : Int) := g2
    rw [f3] at g2
    refine .mk [] [] _ rfl rfl rfl rfl rfl rfl (imm_int ?_)
    exact (if_neg fun h => by have h := h.1.2; have h : findF (bn, (un, ui, ur, uq, um), bc, bw) (adI a) < (ds.length : Nat) := h; omega : peekF (bn, (un, ui, ur, uq, um), bc, bw) (tm, (r, op, at_, nmi), ds, bd, ba, bdt) a = 255).symm
  · rename_i g1 g2
    obtain ⟨⟨f1, f2⟩, f3⟩ := hasF_t (a := adI a) g1
    show 0 ≤ fI (bn, (un, ui, ur, uq, um), bc, bw) (adI a) ∧ fI (bn, (un, ui, ur, uq, um), bc, bw) (adI a) < (bc.length : Int)
    rw [f3]; exact ⟨f1, f2⟩
  · rename_i g1 g2 g3
    obtain ⟨⟨f1, f2⟩, f3⟩ := hasF_t (a := adI a) g1
    have g3 : (bc.getD (fI (bn, (un, ui, ur, uq, um), bc, bw) (adI a)).toNat (dflt ChipT)).2.1 < 0 := g3
    rw [f3] at g3
    refine .mk [] [] _ rfl rfl rfl rfl rfl rfl (imm_int ?_)
    exact (if_neg fun h => by have h := h.2.1; have g3 : (chAt (bn, (un, ui, ur, uq, um), bc, bw) a).2.1 < 0 := g3; omega : peekF (bn, (un, ui, ur, uq, um), bc, bw) (tm, (r, op, at_, nmi), ds, bd, ba, bdt) a = 255).symm
  · rename_i g1 g2 g3
    obtain ⟨⟨f1, f2⟩, f3⟩ := hasF_t (a := adI a) g1
    show 0 ≤ fI (bn, (un, ui, ur, uq, um), bc, bw) (adI a) ∧ fI (bn, (un, ui, ur, uq, um), bc, bw) (adI a) < (bc.length : Int)
    rw [f3]; exact ⟨f1, f2⟩
  · rename_i g1 g2 g3 g4
    obtain ⟨⟨f1, f2⟩, f3⟩ := hasF_t (a := adI a) g1
    have g4 : (bc.getD (fI (bn, (un, ui, ur, uq, um), bc, bw) (adI a)).toNat (dflt ChipT)).2.1 > 2 := g4
    rw [f3] at g4
    refine .mk [] [] _ rfl rfl rfl rfl rfl rfl (imm_int ?_)
    exact (if_neg fun h => by have h := h.2.2; have g4 : (chAt (bn, (un, ui, ur, uq, um), bc, bw) a).2.1 > 2 := g4; omega : peekF (bn, (un, ui, ur, uq, um), bc, bw) (tm, (r, op, at_, nmi), ds, bd, ba, bdt) a = 255).symm
  · rename_i g1 g2 g3 g4
    obtain ⟨⟨f1, f2⟩, f3⟩ := hasF_t (a := adI a) g1
    show 0 ≤ fI (bn, (un, ui, ur, uq, um), bc, bw) (adI a) ∧ fI (bn, (un, ui, ur, uq, um), bc, bw) (adI a) < (bc.length : Int)
    rw [f3]; exact ⟨f1, f2⟩
  · rename_i g1 g2 g3 g4
    obtain ⟨⟨f1, f2⟩, f3⟩ := hasF_t (a := adI a) g1
    have g2 : ¬ fI (bn, (un, ui, ur, uq, um), bc, bw) (adI a) ≥ (ds.length : Int) := g2
    show 0 ≤ fI (bn, (un, ui, ur, uq, um), bc, bw) (adI a) ∧ fI (bn, (un, ui, ur, uq, um), bc, bw) (adI a) < (ds.length : Int)
    rw [f3] at g2 ⊢; omega
  · rename_i g1 g2 g3 g4
    obtain ⟨⟨f1, f2⟩, f3⟩ := hasF_t (a := adI a) g1
    have g2 : ¬ fI (bn, (un, ui, ur, uq, um), bc, bw) (adI a) ≥ (ds.length : Int) := g2
    have f2 : findF (bn, (un, ui, ur, uq, um), bc, bw) (adI a) < (bc.length : Int) := f2
    show cP (bc.getD (fI (bn, (un, ui, ur, uq, um), bc, bw) (adI a)).toNat (dflt ChipT)) ∧ dP (ds.getD (fI (bn, (un, ui, ur, uq, um), bc, bw) (adI a)).toNat (dflt DevT))
    rw [f3] at g2 ⊢
    exact ⟨h2 _ (memD' _ (by omega)), h4 _ (memD' _ (by omega))⟩
  · rename_i g1 g2 g3 g4
    obtain ⟨⟨f1, f2⟩, f3⟩ := hasF_t (a := adI a) g1
    have g2 : ¬ fI (bn, (un, ui, ur, uq, um), bc, bw) (adI a) ≥ (ds.length : Int) := g2
    have g3 : ¬ (bc.getD (fI (bn, (un, ui, ur, uq, um), bc, bw) (adI a)).toNat (dflt ChipT)).2.1 < 0 := g3
    have g4 : ¬ (bc.getD (fI (bn, (un, ui, ur, uq, um), bc, bw) (adI a)).toNat (dflt ChipT)).2.1 > 2 := g4
    rw [f3] at g2 g3 g4
    refine .mk [] [] _ rfl rfl rfl rfl rfl rfl (imm_int ?_)
    show loadI (bc.getD (fI (bn, (un, ui, ur, uq, um), bc, bw) (adI a)).toNat (dflt ChipT)) (ds.getD (fI (bn, (un, ui, ur, uq, um), bc, bw) (adI a)).toNat (dflt DevT)) (atF (bn, (un, ui, ur, uq, um), bc, bw) (adI a)) = _
    rw [f3, hatF f1]
    exact (if_pos ⟨⟨f1, by show _ < (ds.length : Int); omega⟩, by show 0 ≤ (chAt (bn, (un, ui, ur, uq, um), bc, bw) a).2.1; have g3 : ¬ (chAt (bn, (un, ui, ur, uq, um), bc, bw) a).2.1 < 0 := g3; omega, by have g4 : ¬ (chAt (bn, (un, ui, ur, uq, um), bc, bw) a).2.1 > 2 := g4; omega⟩ : peekF (bn, (un, ui, ur, uq, um), bc, bw) (tm, (r, op, at_, nmi), ds, bd, ba, bdt) a = _).symm

theorem fI_of {b : Bd} {a : Int} (h1 : 0 ≤ findF b a) : findF b a < b.2.2.1.length ∧ fI b a = findF b a := by
  have hF : findF b a = -1 ∨ (0 ≤ findF b a ∧ findF b a < b.2.2.1.length) := fstI_in (ownB a) b.2.2.1
  exact ⟨by omega, if_pos h1⟩
def mpokeS : PSpec := ⟨[gBd, gM, gi, gi], fun (b, m, a, k, _) => (some (peekP b m), machO (pokeF b m a k) 0, [.arr DevT (pokeF b m a k).2.2.1])⟩
theorem mpoke_ok : GoodF Tryz.prog 46 mpokeS.spec := by
  have hT := tab_ok (fs := [(69, mcopyS.spec), (94, lowM.spec), (93, bfind2S.spec), (96, cWriteS.spec)]) tree_ok
  have hP : SpecsOk Tryz.prog (tab tree [(69, mcopyS.spec), (94, lowM.spec), (93, bfind2S.spec), (96, cWriteS.spec)]) := specs_cons mcopy_ok (specs_cons lowM_ok (specs_cons bFind2_ok (specs_cons cWrite_ok specs_nil)))
  refine mpokeS.good (fn := Tryz.f46) hT hP Tryz.func46 (by kernel_rfl) rfl fun (b : Bd) (m : Mach) (a k : Int) hq => ?_
  have hpp : peekP b m := hq _ rfl
  have hbP := peek_bP hpp a
  have hatF := @atF_eq b a
  obtain ⟨⟨h1, h2⟩, h3, h4⟩ := hpp
  clear hq
  obtain ⟨bn, ⟨un, ui, ur, uq, um⟩, bc, bw⟩ := b
  obtain ⟨tm, ⟨r, op, at_, nmi⟩, ds, bd, ba, bdt⟩ := m
  have h1 : bc.length * 64 ≤ 140737488351232 := h1
  have h2 : ∀ c ∈ bc, cP c := h2
  have h4 : ∀ d ∈ ds, dP d := h4
  repeat' first
    | (refine Go.mk ?_; conv => whnf)
    | refine Need.go ?_ ?_
    | refine NilG.go (fun _ => ?_) (fun _ => ?_)
    | refine Br.dec (fun _ => ?_) (fun _ => ?_)
    | refine Br.go (fun _ => ?_) (fun _ => ?_)
    | refine draw_go hT hP mixed ?_
    | refine round_go hT hP ?_
  all_goals (try dsimp only [castL_eq] at *)
  all_goals clear hT hP
  · exact h3
  · exact of_decide_eq_true rfl
  · exact hbP
  · rename_i g1 g2
    obtain ⟨f2, f3⟩ := fI_of (a := adI a) g1
    show 0 ≤ fI (bn, (un, ui, ur, uq, um), bc, bw) (adI a) ∧ fI (bn, (un, ui, ur, uq, um), bc, bw) (adI a) < (bc.length : Int)
    rw [f3]; exact ⟨g1, f2⟩
  · rename_i g1 g2 g3
    obtain ⟨f2, f3⟩ := fI_of (a := adI a) g1
    show 0 ≤ fI (bn, (un, ui, ur, uq, um), bc, bw) (adI a) ∧ fI (bn, (un, ui, ur, uq, um), bc, bw) (adI a) < (bc.length : Int)
    rw [f3]; exact ⟨g1, f2⟩
  · rename_i g1 g2 g3 g4
    obtain ⟨f2, f3⟩ := fI_of (a := adI a) g1
    show 0 ≤ fI (bn, (un, ui, ur, uq, um), bc, bw) (adI a) ∧ fI (bn, (un, ui, ur, uq, um), bc, bw) (adI a) < (bc.length : Int)
    rw [f3]; exact ⟨g1, f2⟩
  · rename_i g1 g2 g3 g4
    obtain ⟨f2, f3⟩ := fI_of (a := adI a) g1
    have g2 : fI (bn, (un, ui, ur, uq, um), bc, bw) (adI a) < (ds.length : Int) := g2
    show 0 ≤ fI (bn, (un, ui, ur, uq, um), bc, bw) (adI a) ∧ fI (bn, (un, ui, ur, uq, um), bc, bw) (adI a) < (ds.length : Int)
    rw [f3] at g2 ⊢; exact ⟨g1, g2⟩
  · rename_i g1 g2 g3 g4
    obtain ⟨f2, f3⟩ := fI_of (a := adI a) g1
    have g2 : fI (bn, (un, ui, ur, uq, um), bc, bw) (adI a) < (ds.length : Int) := g2
    show (fI (bn, (un, ui, ur, uq, um), bc, bw) (adI a)).toNat < ds.length
    rw [f3] at g2 ⊢
    have g1 : 0 ≤ findF (bn, (un, ui, ur, uq, um), bc, bw) (adI a) := g1
    omega
  · rename_i g1 g2 g3 g4
    obtain ⟨f2, f3⟩ := fI_of (a := adI a) g1
    have g1 : 0 ≤ findF (bn, (un, ui, ur, uq, um), bc, bw) (adI a) := g1
    have g2 : fI (bn, (un, ui, ur, uq, um), bc, bw) (adI a) < (ds.length : Int) := g2
    have f2 : findF (bn, (un, ui, ur, uq, um), bc, bw) (adI a) < (bc.length : Int) := f2
    show cP (bc.getD (fI (bn, (un, ui, ur, uq, um), bc, bw) (adI a)).toNat (dflt ChipT)) ∧ dP (ds.getD (fI (bn, (un, ui, ur, uq, um), bc, bw) (adI a)).toNat (dflt DevT))
    rw [f3] at g2 ⊢
    exact ⟨h2 _ (memD' _ (by omega)), h4 _ (memD' _ (by omega))⟩
  · rename_i g1 g2 g3 g4
    obtain ⟨f2, f3⟩ := fI_of (a := adI a) g1
    have g2 : fI (bn, (un, ui, ur, uq, um), bc, bw) (adI a) < (ds.length : Int) := g2
    show 0 ≤ fI (bn, (un, ui, ur, uq, um), bc, bw) (adI a) ∧ fI (bn, (un, ui, ur, uq, um), bc, bw) (adI a) < (ds.length : Int)
    rw [f3] at g2 ⊢; exact ⟨g1, g2⟩
  · rename_i g1 g2 g3 g4
    obtain ⟨f2, f3⟩ := fI_of (a := adI a) g1
    have g2 : fI (bn, (un, ui, ur, uq, um), bc, bw) (adI a) < (ds.length : Int) := g2
    show (fI (bn, (un, ui, ur, uq, um), bc, bw) (adI a)).toNat < ds.length
    rw [f3] at g2 ⊢
    have g1 : 0 ≤ findF (bn, (un, ui, ur, uq, um), bc, bw) (adI a) := g1
    omega
  · rename_i g1 g2 g3 g4
    obtain ⟨f2, f3⟩ := fI_of (a := adI a) g1
    have g2 : fI (bn, (un, ui, ur, uq, um), bc, bw) (adI a) < (ds.length : Int) := g2
    have g3 : (bc.getD (fI (bn, (un, ui, ur, uq, um), bc, bw) (adI a)).toNat (dflt ChipT)).2.1 ≥ 0 := g3
    have g4 : (bc.getD (fI (bn, (un, ui, ur, uq, um), bc, bw) (adI a)).toNat (dflt ChipT)).2.1 ≤ 2 := g4
    rw [f3] at g2 g3 g4
    have e : ((tm, (r, op, at_, nmi), ds.set (fI (bn, (un, ui, ur, uq, um), bc, bw) (adI a)).toNat (storeF (bc.getD (fI (bn, (un, ui, ur, uq, um), bc, bw) (adI a)).toNat (dflt ChipT)) (ds.getD (fI (bn, (un, ui, ur, uq, um), bc, bw) (adI a)).toNat (dflt DevT)) (atF (bn, (un, ui, ur, uq, um), bc, bw) (adI a)) k), bd, ba, bdt) : Mach) = pokeF (bn, (un, ui, ur, uq, um), bc, bw) (tm, (r, op, at_, nmi), ds, bd, ba, bdt) a k := by
      rw [f3, hatF g1]
      exact (if_pos (c := memAt (bn, (un, ui, ur, uq, um), bc, bw) (tm, (r, op, at_, nmi), ds, bd, ba, bdt) a) ⟨⟨g1, g2⟩, g3, g4⟩).symm
    exact .mk [] [3] _ rfl rfl rfl rfl rfl (congrArg (fun z : Mach => [some (Blk.arr DevT z.2.2.1)]) e) (congrArg (fun z : Mach => machO z 0) e)
  · rename_i g1 g2 g3 g4
    obtain ⟨f2, f3⟩ := fI_of (a := adI a) g1
    have g4 : ¬ (bc.getD (fI (bn, (un, ui, ur, uq, um), bc, bw) (adI a)).toNat (dflt ChipT)).2.1 ≤ 2 := g4
    rw [f3] at g4
    have e : ((tm, (r, op, at_, nmi), ds, bd, ba, bdt) : Mach) = pokeF (bn, (un, ui, ur, uq, um), bc, bw) (tm, (r, op, at_, nmi), ds, bd, ba, bdt) a k := (if_neg (c := memAt (bn, (un, ui, ur, uq, um), bc, bw) (tm, (r, op, at_, nmi), ds, bd, ba, bdt) a) fun h => g4 h.2.2).symm
    exact .mk [] [3] _ rfl rfl rfl rfl rfl (congrArg (fun z : Mach => [some (Blk.arr DevT z.2.2.1)]) e) (congrArg (fun z : Mach => machO z 0) e)
  · rename_i g1 g2 g3
    obtain ⟨f2, f3⟩ := fI_of (a := adI a) g1
    have g3 : ¬ (bc.getD (fI (bn, (un, ui, ur, uq, um), bc, bw) (adI a)).toNat (dflt ChipT)).2.1 ≥ 0 := g3
    rw [f3] at g3
    have e : ((tm, (r, op, at_, nmi), ds, bd, ba, bdt) : Mach) = pokeF (bn, (un, ui, ur, uq, um), bc, bw) (tm, (r, op, at_, nmi), ds, bd, ba, bdt) a k := (if_neg (c := memAt (bn, (un, ui, ur, uq, um), bc, bw) (tm, (r, op, at_, nmi), ds, bd, ba, bdt) a) fun h => g3 h.2.1).symm
    exact .mk [] [3] _ rfl rfl rfl rfl rfl (congrArg (fun z : Mach => [some (Blk.arr DevT z.2.2.1)]) e) (congrArg (fun z : Mach => machO z 0) e)
  · rename_i g1 g2
    obtain ⟨f2, f3⟩ := fI_of (a := adI a) g1
    have g2 : ¬ fI (bn, (un, ui, ur, uq, um), bc, bw) (adI a) < (ds.length : Int) := g2
    rw [f3] at g2
    have e : ((tm, (r, op, at_, nmi), ds, bd, ba, bdt) : Mach) = pokeF (bn, (un, ui, ur, uq, um), bc, bw) (tm, (r, op, at_, nmi), ds, bd, ba, bdt) a k := (if_neg (c := memAt (bn, (un, ui, ur, uq, um), bc, bw) (tm, (r, op, at_, nmi), ds, bd, ba, bdt) a) fun h => g2 h.1.2).symm
    exact .mk [] [3] _ rfl rfl rfl rfl rfl (congrArg (fun z : Mach => [some (Blk.arr DevT z.2.2.1)]) e) (congrArg (fun z : Mach => machO z 0) e)
  · rename_i g1
    have g1 : ¬ 0 ≤ findF (bn, (un, ui, ur, uq, um), bc, bw) (adI a) := g1
    have e : ((tm, (r, op, at_, nmi), ds, bd, ba, bdt) : Mach) = pokeF (bn, (un, ui, ur, uq, um), bc, bw) (tm, (r, op, at_, nmi), ds, bd, ba, bdt) a k := (if_neg (c := memAt (bn, (un, ui, ur, uq, um), bc, bw) (tm, (r, op, at_, nmi), ds, bd, ba, bdt) a) fun h => g1 h.1.1).symm
    exact .mk [] [3] _ rfl rfl rfl rfl rfl (congrArg (fun z : Mach => [some (Blk.arr DevT z.2.2.1)]) e) (congrArg (fun z : Mach => machO z 0) e)

end Go.Proofs.YtofgbclopbmlcaaGreat

/- One cycle of a machine, as a plain function; its bounds. -/
namespace Go.Proofs.YtofgbclopbmlcaaGreat
open Go.Fw
set_option linter.unusedVariables false
set_option linter.unusedSimpArgs false
set_option linter.constructorNameAsVariable false
set_option maxRecDepth 100000

abbrev InpT : Ty := .pair (.int .i64) (.pair .str (.int .i64))
abbrev Inp := Int × ByteArray × Int
abbrev gIn : Sig := ⟨false, .sl InpT⟩

-- states turned one after the other

-- inputs

-- the line

def mlineL : List Bool → List Cv → List Dv → Bool
  | h :: hs, c :: cs, d :: ds => (h && kaskF c d) || mlineL hs cs ds
  | _, _, _ => false
def mlineF (b : Bd) (ds : List Dv) : Bool := mlineL (heardL b.2.2.2 b.2.2.1) b.2.2.1 ds

-- the bus

-- what is shown

def newO (t : Int) : List Cv → List Dv → List Int → List Inp
  | c :: cs, d :: ds, n :: ns => if shwF c d = n then newO t cs ds ns else (t, c.1, shwF c d) :: newO t cs ds ns
  | _, _, _ => []
def newK (t : Int) (cs : List Cv) (ds : List Dv) (ns : List Int) (k : Nat) : List Inp := newO t (cs.take k) (ds.take k) (ns.take k)
-- a cycle

end Go.Proofs.YtofgbclopbmlcaaGreat

/- Chips by name (printed by genix3.py). -/
namespace Go.Proofs.YtofgbclopbmlcaaGreat
open Go.Fw
set_option linter.unusedVariables false
set_option linter.unusedSimpArgs false
set_option linter.constructorNameAsVariable false
set_option maxRecDepth 100000

def nmB (s : ByteArray) (c : Cv) : Bool := strEq c.1 s

def bicRd : List V1 → List Blk → Option (Cv × ByteArray) := fun a b => match a, b with
  | [.agg [.imm (.string en), .imm (.int .i64 ek), .imm (.int .i64 eb), .imm (.int .i64 es), .ro (.int .u8) ed], .c (.ptr 0 0)], [.var [.imm (.string s)]] => some ((en, ek, eb, es, ed), s)
  | _, _ => none
theorem bicRd_ok {a : List V1} {b : List Blk} {x : Cv × ByteArray} (h : bicRd a b = some x) : a = [.agg [.imm (.string x.1.1), iv .i64 x.1.2.1, iv .i64 x.1.2.2.1, iv .i64 x.1.2.2.2.1, .ro (.int .u8) x.1.2.2.2.2], .c (.ptr 0 0)] ∧ b = [.var [.imm (.string x.2)]] := by
  unfold bicRd at h
  split at h
  · injection h with h; subst h; exact ⟨rfl, rfl⟩
  · cases h
def bicS : WSpec := ⟨Cv × ByteArray, fun x => [.agg [.imm (.string x.1.1), iv .i64 x.1.2.1, iv .i64 x.1.2.2.1, iv .i64 x.1.2.2.2.1, .ro (.int .u8) x.1.2.2.2.2], .c (.ptr 0 0)], fun x => [.var [.imm (.string x.2)]], bicRd,
  fun x => (some ((fun _ => True) x.2), .cell (bv (nmB x.2 x.1)), [some (.var [.imm (.string x.2)])], [])⟩
theorem bic_ok : GoodF Tryz.prog 241 bicS.spec := by
  have hT := tab_ok (fs := []) tree_ok
  have hP : SpecsOk Tryz.prog (tab tree []) := specs_nil
  refine bicS.good (fn := Tryz.f241) hT hP Tryz.func241 (by kernel_rfl) rfl (fun _ _ _ h => bicRd_ok h) fun (x : Cv × ByteArray) hq => ?_
  have hq : (fun _ => True) x.2 := hq _ rfl
  repeat' first
    | (refine Go.mk ?_; conv => whnf)
    | refine Need.go ?_ ?_
    | refine NilG.go (fun _ => ?_) (fun _ => ?_)
    | refine Br.dec (fun _ => ?_) (fun _ => ?_)
    | refine Br.go (fun _ => ?_) (fun _ => ?_)
    | refine draw_go hT hP mixed ?_
    | refine round_go hT hP ?_
  all_goals exact .mk [] [0] _ rfl rfl rfl rfl rfl rfl rfl
structure biX where
  l : List Cv
  d : ByteArray
def biRd : List V1 → List Blk → Option biX := fun a b => match a, b with
  | [.c (.ro (.pair .str (.pair (.int .i64) (.pair (.int .i64) (.pair (.int .i64) (.sl (.int .u8)))))) l), .c (.fn 241 [0])], [.var [.imm (.string s)]] => some ⟨l, s⟩
  | _, _ => none
theorem biRd_ok {a : List V1} {b : List Blk} {x : biX} (h : biRd a b = some x) : a = [.c (.ro ChipT x.l), .c (.fn 241 [0])] ∧ b = [.var [.imm (.string x.d)]] := by
  unfold biRd at h
  split at h
  · injection h with h; subst h; exact ⟨rfl, rfl⟩
  · cases h
def biiS : WSpec := ⟨biX, fun x => [.c (.ro ChipT x.l), .c (.fn 241 [0])], fun x => [.var [.imm (.string x.d)]], biRd,
  fun x => (some (x.l.length ≤ 4611686018427387904 ∧ (fun _ => True) x.d), I (fstI (nmB x.d) x.l), [some (.var [.imm (.string x.d)])], [])⟩
theorem bii_ok : GoodF Tryz.prog 98 biiS.spec := by
  have hT := tab_ok (fs := [(241, bicS.spec)]) tree_ok
  have hP : SpecsOk Tryz.prog (tab tree [(241, bicS.spec)]) := specs_cons bic_ok specs_nil
  refine biiS.good (fn := Tryz.f98) hT hP Tryz.func98 (by kernel_rfl) rfl (fun _ _ _ h => biRd_ok h) fun (x : biX) hq => ?_
  obtain ⟨hl, hq⟩ : x.l.length ≤ 4611686018427387904 ∧ (fun _ => True) x.d := hq _ rfl
  obtain ⟨l, d⟩ := x
  have hl : l.length ≤ 4611686018427387904 := hl
  repeat' first
    | (refine Go.mk ?_; conv => whnf)
    | refine Need.go ?_ ?_
    | refine NilG.go (fun _ => ?_) (fun _ => ?_)
    | refine Br.dec (fun _ => ?_) (fun _ => ?_)
    | refine Br.go (fun _ => ?_) (fun _ => ?_)
    | refine draw_go hT hP mixed ?_
    | refine round_go hT hP ?_
  refine up_go hT hP (A := Unit) l.length (fun i _ => St.mk [.cell (.ro ChipT l), .cell (.fn 241 [0]), .dead, .dead, .dead, .dead, .dead, I l.length, I i, .dead, .dead, .dead, .dead, .dead, .dead, .dead, .dead, .dead, .dead] [some (.var [.imm (.string d)])])
    (fun k _ => fstG (nmB d) (l.drop k) k = fstI (nmB d) l) () (Le.mk [] [0] rfl rfl rfl ?_) rfl fun k _ hk hi => ?_
  · repeat' first | exact trivial | exact ⟨rfl, rfl⟩ | refine And.intro ?_ ?_
  repeat' first
    | (refine Go.mk ?_; conv => whnf)
    | refine Need.go ?_ ?_
    | refine NilG.go (fun _ => ?_) (fun _ => ?_)
    | refine Br.dec (fun _ => ?_) (fun _ => ?_)
    | refine Br.go (fun _ => ?_) (fun _ => ?_)
    | refine draw_go hT hP mixed ?_
    | refine round_go hT hP ?_
  all_goals clear hT hP
  · rename_i g1
    have g1 : (k : Int) < (l.length : Int) := g1
    show 0 ≤ (k : Int) ∧ (k : Int) < (l.length : Int)
    omega
  · first | exact hq | exact trivial
  · rename_i g1 g2
    have g1 : (k : Int) < (l.length : Int) := g1
    exact .mk [] [0] _ rfl rfl rfl rfl rfl rfl (imm_int (fst_hit (dflt ChipT) (by omega) g2 hi))
  · rename_i g1 g2
    have g1 : (k : Int) < (l.length : Int) := g1
    have hp : ¬ nmB d (l.getD k (dflt ChipT)) = true := by
      have g2 : nmB d (l.getD k (dflt ChipT)) = false := g2
      rw [g2]; decide
    apply Exists.intro
    apply Exists.intro ()
    refine And.intro (And.intro ?lt88 (And.intro ?ei88 ?inv88)) (Le.mk [] [0] rfl rfl ?hh88 ?ht88)
    case hh88 => exact rfl
    case ht88 => repeat' first | exact trivial | exact ⟨rfl, rfl⟩ | refine And.intro ?_ ?_
    case lt88 => omega
    case ei88 => exact up_i (by omega)
    exact fst_miss (dflt ChipT) (by omega) hp hi
  · rename_i g1
    have g1 : ¬ (k : Int) < (l.length : Int) := g1
    exact .mk [] [0] _ rfl rfl rfl rfl rfl rfl (imm_int (fst_none (by omega) hi))

def bindexS : PSpec := ⟨[gBd, gStr], fun (b, s, _) => (some (b.2.2.1.length ≤ 4611686018427387904), I (fstI (nmB s) b.2.2.1), [])⟩
theorem bindex_ok : GoodF Tryz.prog 194 bindexS.spec := by
  have hT := tab_ok (fs := [(98, biiS.spec)]) tree_ok
  have hP : SpecsOk Tryz.prog (tab tree [(98, biiS.spec)]) := specs_cons bii_ok specs_nil
  refine bindexS.good (fn := Tryz.f194) hT hP Tryz.func194 (by kernel_rfl) rfl fun (b : Bd) (s : ByteArray) hq => ?_
  have hl : b.2.2.1.length ≤ 4611686018427387904 := hq _ rfl
  obtain ⟨bn, ⟨un, ui, ur, uq, um⟩, bc, bw⟩ := b
  clear hq
  repeat' first
    | (refine Go.mk ?_; conv => whnf)
    | refine Need.go ?_ ?_
    | refine NilG.go (fun _ => ?_) (fun _ => ?_)
    | refine Br.dec (fun _ => ?_) (fun _ => ?_)
    | refine Br.go (fun _ => ?_) (fun _ => ?_)
    | refine draw_go hT hP mixed ?_
    | refine round_go hT hP ?_
  all_goals first
    | exact ⟨hl, trivial⟩
    | exact .mk [] [] _ rfl rfl rfl rfl rfl rfl rfl
    | skip

end Go.Proofs.YtofgbclopbmlcaaGreat

/- Chips by name, for inputs and cables (printed by genix4.py). -/
namespace Go.Proofs.YtofgbclopbmlcaaGreat
open Go.Fw
set_option linter.unusedVariables false
set_option linter.unusedSimpArgs false
set_option linter.constructorNameAsVariable false
set_option maxRecDepth 100000

def inB (x : Inp) (c : Cv) : Bool := strEq c.1 x.2.1

def micRd : List V1 → List Blk → Option (Cv × Inp) := fun a b => match a, b with
  | [.agg [.imm (.string en), .imm (.int .i64 ek), .imm (.int .i64 eb), .imm (.int .i64 es), .ro (.int .u8) ed], .c (.ptr 0 0)], [.var [.imm (.int .i64 ia), .imm (.string ic), .imm (.int .i64 n)]] => some ((en, ek, eb, es, ed), (ia, ic, n))
  | _, _ => none
theorem micRd_ok {a : List V1} {b : List Blk} {x : Cv × Inp} (h : micRd a b = some x) : a = [.agg [.imm (.string x.1.1), iv .i64 x.1.2.1, iv .i64 x.1.2.2.1, iv .i64 x.1.2.2.2.1, .ro (.int .u8) x.1.2.2.2.2], .c (.ptr 0 0)] ∧ b = [.var [iv .i64 x.2.1, .imm (.string x.2.2.1), iv .i64 x.2.2.2]] := by
  unfold micRd at h
  split at h
  · injection h with h; subst h; exact ⟨rfl, rfl⟩
  · cases h
def micS : WSpec := ⟨Cv × Inp, fun x => [.agg [.imm (.string x.1.1), iv .i64 x.1.2.1, iv .i64 x.1.2.2.1, iv .i64 x.1.2.2.2.1, .ro (.int .u8) x.1.2.2.2.2], .c (.ptr 0 0)], fun x => [.var [iv .i64 x.2.1, .imm (.string x.2.2.1), iv .i64 x.2.2.2]], micRd,
  fun x => (some ((fun _ => True) x.2), .cell (bv (inB x.2 x.1)), [some (.var [iv .i64 x.2.1, .imm (.string x.2.2.1), iv .i64 x.2.2.2])], [])⟩
theorem mic_ok : GoodF Tryz.prog 54 micS.spec := by
  have hT := tab_ok (fs := []) tree_ok
  have hP : SpecsOk Tryz.prog (tab tree []) := specs_nil
  refine micS.good (fn := Tryz.f54) hT hP Tryz.func54 (by kernel_rfl) rfl (fun _ _ _ h => micRd_ok h) fun (x : Cv × Inp) hq => ?_
  have hq : (fun _ => True) x.2 := hq _ rfl
  repeat' first
    | (refine Go.mk ?_; conv => whnf)
    | refine Need.go ?_ ?_
    | refine NilG.go (fun _ => ?_) (fun _ => ?_)
    | refine Br.dec (fun _ => ?_) (fun _ => ?_)
    | refine Br.go (fun _ => ?_) (fun _ => ?_)
    | refine draw_go hT hP mixed ?_
    | refine round_go hT hP ?_
  all_goals exact .mk [] [0] _ rfl rfl rfl rfl rfl rfl rfl
structure miX where
  l : List Cv
  d : Inp
def miRd : List V1 → List Blk → Option miX := fun a b => match a, b with
  | [.c (.ro (.pair .str (.pair (.int .i64) (.pair (.int .i64) (.pair (.int .i64) (.sl (.int .u8)))))) l), .c (.fn 54 [0])], [.var [.imm (.int .i64 ia), .imm (.string ic), .imm (.int .i64 n)]] => some ⟨l, (ia, ic, n)⟩
  | _, _ => none
theorem miRd_ok {a : List V1} {b : List Blk} {x : miX} (h : miRd a b = some x) : a = [.c (.ro ChipT x.l), .c (.fn 54 [0])] ∧ b = [.var [iv .i64 x.d.1, .imm (.string x.d.2.1), iv .i64 x.d.2.2]] := by
  unfold miRd at h
  split at h
  · injection h with h; subst h; exact ⟨rfl, rfl⟩
  · cases h
def miiS : WSpec := ⟨miX, fun x => [.c (.ro ChipT x.l), .c (.fn 54 [0])], fun x => [.var [iv .i64 x.d.1, .imm (.string x.d.2.1), iv .i64 x.d.2.2]], miRd,
  fun x => (some (x.l.length ≤ 4611686018427387904 ∧ (fun _ => True) x.d), I (fstI (inB x.d) x.l), [some (.var [iv .i64 x.d.1, .imm (.string x.d.2.1), iv .i64 x.d.2.2])], [])⟩
theorem mii_ok : GoodF Tryz.prog 98 miiS.spec := by
  have hT := tab_ok (fs := [(54, micS.spec)]) tree_ok
  have hP : SpecsOk Tryz.prog (tab tree [(54, micS.spec)]) := specs_cons mic_ok specs_nil
  refine miiS.good (fn := Tryz.f98) hT hP Tryz.func98 (by kernel_rfl) rfl (fun _ _ _ h => miRd_ok h) fun (x : miX) hq => ?_
  obtain ⟨hl, hq⟩ : x.l.length ≤ 4611686018427387904 ∧ (fun _ => True) x.d := hq _ rfl
  obtain ⟨l, d⟩ := x
  have hl : l.length ≤ 4611686018427387904 := hl
  repeat' first
    | (refine Go.mk ?_; conv => whnf)
    | refine Need.go ?_ ?_
    | refine NilG.go (fun _ => ?_) (fun _ => ?_)
    | refine Br.dec (fun _ => ?_) (fun _ => ?_)
    | refine Br.go (fun _ => ?_) (fun _ => ?_)
    | refine draw_go hT hP mixed ?_
    | refine round_go hT hP ?_
  refine up_go hT hP (A := Unit) l.length (fun i _ => St.mk [.cell (.ro ChipT l), .cell (.fn 54 [0]), .dead, .dead, .dead, .dead, .dead, I l.length, I i, .dead, .dead, .dead, .dead, .dead, .dead, .dead, .dead, .dead, .dead] [some (.var [iv .i64 d.1, .imm (.string d.2.1), iv .i64 d.2.2])])
    (fun k _ => fstG (inB d) (l.drop k) k = fstI (inB d) l) () (Le.mk [] [0] rfl rfl rfl ?_) rfl fun k _ hk hi => ?_
  · repeat' first | exact trivial | exact ⟨rfl, rfl⟩ | refine And.intro ?_ ?_
  repeat' first
    | (refine Go.mk ?_; conv => whnf)
    | refine Need.go ?_ ?_
    | refine NilG.go (fun _ => ?_) (fun _ => ?_)
    | refine Br.dec (fun _ => ?_) (fun _ => ?_)
    | refine Br.go (fun _ => ?_) (fun _ => ?_)
    | refine draw_go hT hP mixed ?_
    | refine round_go hT hP ?_
  all_goals clear hT hP
  · rename_i g1
    have g1 : (k : Int) < (l.length : Int) := g1
    show 0 ≤ (k : Int) ∧ (k : Int) < (l.length : Int)
    omega
  · first | exact hq | exact trivial
  · rename_i g1 g2
    have g1 : (k : Int) < (l.length : Int) := g1
    exact .mk [] [0] _ rfl rfl rfl rfl rfl rfl (imm_int (fst_hit (dflt ChipT) (by omega) g2 hi))
  · rename_i g1 g2
    have g1 : (k : Int) < (l.length : Int) := g1
    have hp : ¬ inB d (l.getD k (dflt ChipT)) = true := by
      have g2 : inB d (l.getD k (dflt ChipT)) = false := g2
      rw [g2]; decide
    apply Exists.intro
    apply Exists.intro ()
    refine And.intro (And.intro ?lt89 (And.intro ?ei89 ?inv89)) (Le.mk [] [0] rfl rfl ?hh89 ?ht89)
    case hh89 => exact rfl
    case ht89 => repeat' first | exact trivial | exact ⟨rfl, rfl⟩ | refine And.intro ?_ ?_
    case lt89 => omega
    case ei89 => exact up_i (by omega)
    exact fst_miss (dflt ChipT) (by omega) hp hi
  · rename_i g1
    have g1 : ¬ (k : Int) < (l.length : Int) := g1
    exact .mk [] [0] _ rfl rfl rfl rfl rfl rfl (imm_int (fst_none (by omega) hi))

def mitS : WSpec := ⟨miX, fun x => [.c (.ro ChipT x.l), .c (.fn 54 [0])], fun x => [.var [iv .i64 x.d.1, .imm (.string x.d.2.1), iv .i64 x.d.2.2]], miRd,
  fun x => (some (x.l.length ≤ 4611686018427387904 ∧ (fun _ => True) x.d), .cell (bv (x.l.any (inB x.d))), [some (.var [iv .i64 x.d.1, .imm (.string x.d.2.1), iv .i64 x.d.2.2])], [])⟩
theorem mit_ok : GoodF Tryz.prog 49 mitS.spec := by
  have hT := tab_ok (fs := [(98, miiS.spec)]) tree_ok
  have hP : SpecsOk Tryz.prog (tab tree [(98, miiS.spec)]) := specs_cons mii_ok specs_nil
  refine mitS.good (fn := Tryz.f49) hT hP Tryz.func49 (by kernel_rfl) rfl (fun _ _ _ h => miRd_ok h) fun (x : miX) hq => ?_
  have hq : x.l.length ≤ 4611686018427387904 ∧ (fun _ => True) x.d := hq _ rfl
  obtain ⟨l, d⟩ := x
  repeat' first
    | (refine Go.mk ?_; conv => whnf)
    | refine Need.go ?_ ?_
    | refine NilG.go (fun _ => ?_) (fun _ => ?_)
    | refine Br.dec (fun _ => ?_) (fun _ => ?_)
    | refine Br.go (fun _ => ?_) (fun _ => ?_)
    | refine draw_go hT hP mixed ?_
    | refine round_go hT hP ?_
  all_goals clear hT hP
  · first | exact hq | exact trivial
  · exact .mk [] [0] _ rfl rfl rfl rfl rfl rfl (imm_bool (fst_any (inB d) l))

end Go.Proofs.YtofgbclopbmlcaaGreat

/- board.wire: what is wrong with a wire. -/
namespace Go.Proofs.YtofgbclopbmlcaaGreat
open Go.Fw
set_option linter.unusedVariables false
set_option linter.unusedSimpArgs false
set_option linter.constructorNameAsVariable false
set_option maxRecDepth 100000

def irqP : ByteArray := ⟨#[105, 114, 113]⟩
def wireI (b : Bd) (w : Wr) : Int := fstI (nmB (cutB w.1)) b.2.2.1
def wireE (b : Bd) (w : Wr) : Int := if wireI b w < 0 then 4 else if strEq (cutA w.1) irqP = false ∨ askK (b.2.2.1.getD (wireI b w).toNat (dflt ChipT)).2.1 = false then 8 else if strEq w.2 cpuIrq = false then 20 else 0
def bwireS : PSpec := ⟨[gBd, (⟨true, WireT⟩ : Sig)], fun (b, w, _) => (some (b.2.2.1.length ≤ 4611686018427387904 ∧ w.1.size ≤ 140737488351232), I (wireE b w), [])⟩
theorem bwire_ok : GoodF Tryz.prog 103 bwireS.spec := by
  have hT := tab_ok (fs := [(193, cutS.spec), (194, bindexS.spec), (122, asksS.spec)]) tree_ok
  have hP : SpecsOk Tryz.prog (tab tree [(193, cutS.spec), (194, bindexS.spec), (122, asksS.spec)]) := specs_cons cut_ok (specs_cons bindex_ok (specs_cons bAsks_ok specs_nil))
  refine bwireS.good (fn := Tryz.f103) hT hP Tryz.func103 (by kernel_rfl) rfl fun (b : Bd) (w : Wr) hq => ?_
  obtain ⟨hl, hw⟩ : b.2.2.1.length ≤ 4611686018427387904 ∧ w.1.size ≤ 140737488351232 := hq _ rfl
  clear hq
  have hin := fstI_in (nmB (cutB w.1)) b.2.2.1
  obtain ⟨bn, ⟨un, ui, ur, uq, um⟩, bc, bw⟩ := b
  obtain ⟨wf, wt⟩ := w
  repeat' first
    | (refine Go.mk ?_; conv => whnf)
    | refine Need.go ?_ ?_
    | refine NilG.go (fun _ => ?_) (fun _ => ?_)
    | refine Br.dec (fun _ => ?_) (fun _ => ?_)
    | refine Br.go (fun _ => ?_) (fun _ => ?_)
    | refine draw_go hT hP mixed ?_
    | refine round_go hT hP ?_
  all_goals (try dsimp only [castL_eq] at *)
  all_goals clear hT hP
  · exact ⟨rfl, hw⟩
  · exact hl
  · rename_i g1
    refine .mk [] [] _ rfl rfl rfl rfl rfl rfl (imm_int ?_)
    exact (if_pos g1 : wireE (bn, (un, ui, ur, uq, um), bc, bw) (wf, wt) = 4).symm
  · rename_i g1 g2
    have g2 : (!strEq (cutA wf) irqP) = true := g2
    refine .mk [] [] _ rfl rfl rfl rfl rfl rfl (imm_int ?_)
    show 8 = wireE (bn, (un, ui, ur, uq, um), bc, bw) (wf, wt)
    unfold wireE wireI
    rw [if_neg (show ¬ fstI (nmB (cutB wf)) bc < 0 from g1), if_pos (.inl (by simpa using g2))]
  · rename_i g1 g2
    show 0 ≤ fstI (nmB (cutB wf)) bc ∧ fstI (nmB (cutB wf)) bc < (bc.length : Int)
    have g1 : ¬ fstI (nmB (cutB wf)) bc < 0 := g1
    have hin : fstI (nmB (cutB wf)) bc = -1 ∨ (0 ≤ fstI (nmB (cutB wf)) bc ∧ fstI (nmB (cutB wf)) bc < bc.length) := hin
    omega
  · rename_i g1 g2 g3
    have g3 : (!askK (bc.getD (fstI (nmB (cutB wf)) bc).toNat (dflt ChipT)).2.1) = true := g3
    refine .mk [] [] _ rfl rfl rfl rfl rfl rfl (imm_int ?_)
    show 8 = wireE (bn, (un, ui, ur, uq, um), bc, bw) (wf, wt)
    unfold wireE wireI
    rw [if_neg (show ¬ fstI (nmB (cutB wf)) bc < 0 from g1), if_pos (.inr (by simpa using g3))]
  · rename_i g1 g2 g3 g4
    have g2 : (!strEq (cutA wf) irqP) = false := g2
    have g3 : (!askK (bc.getD (fstI (nmB (cutB wf)) bc).toNat (dflt ChipT)).2.1) = false := g3
    have g4 : (!strEq wt cpuIrq) = true := g4
    refine .mk [] [] _ rfl rfl rfl rfl rfl rfl (imm_int ?_)
    show 20 = wireE (bn, (un, ui, ur, uq, um), bc, bw) (wf, wt)
    unfold wireE wireI
    rw [if_neg (show ¬ fstI (nmB (cutB wf)) bc < 0 from g1), if_neg (show ¬ (strEq (cutA wf) irqP = false ∨ askK (bc.getD (fstI (nmB (cutB wf)) bc).toNat (dflt ChipT)).2.1 = false) from fun h => h.elim (fun h => by rw [h] at g2; cases g2) (fun h => by rw [h] at g3; cases g3)), if_pos (show strEq wt cpuIrq = false by simpa using g4)]
  · rename_i g1 g2 g3 g4
    have g2 : (!strEq (cutA wf) irqP) = false := g2
    have g3 : (!askK (bc.getD (fstI (nmB (cutB wf)) bc).toNat (dflt ChipT)).2.1) = false := g3
    have g4 : (!strEq wt cpuIrq) = false := g4
    refine .mk [] [] _ rfl rfl rfl rfl rfl rfl (imm_int ?_)
    show 0 = wireE (bn, (un, ui, ur, uq, um), bc, bw) (wf, wt)
    unfold wireE wireI
    rw [if_neg (show ¬ fstI (nmB (cutB wf)) bc < 0 from g1), if_neg (show ¬ (strEq (cutA wf) irqP = false ∨ askK (bc.getD (fstI (nmB (cutB wf)) bc).toNat (dflt ChipT)).2.1 = false) from fun h => h.elim (fun h => by rw [h] at g2; cases g2) (fun h => by rw [h] at g3; cases g3)), if_neg (show ¬ strEq wt cpuIrq = false from fun h => by rw [h] at g4; cases g4)]

end Go.Proofs.YtofgbclopbmlcaaGreat

/- Cycles: are they well-formed? -/
namespace Go.Proofs.YtofgbclopbmlcaaGreat
open Go.Fw
set_option linter.unusedVariables false
set_option linter.unusedSimpArgs false
set_option linter.constructorNameAsVariable false
set_option maxRecDepth 100000

/-- the first thing that is wrong, of a list -/
def errL {α : Type} (f : α → Int) : List α → Int
  | [] => 0
  | x :: r => if f x = 0 then errL f r else f x
theorem errL_ok {α : Type} {f : α → Int} {l : List α} {k : Nat} (d : α) (h : k < l.length) (h0 : f (l.getD k d) = 0) : errL f (l.drop k) = errL f (l.drop (k + 1)) := by
  rw [List.drop_eq_getElem_cons h]
  rw [List.getD_eq_getElem?_getD, List.getElem?_eq_getElem h] at h0
  exact if_pos h0
theorem errL_no {α : Type} {f : α → Int} {l : List α} {k : Nat} (d : α) (h : k < l.length) (h0 : f (l.getD k d) ≠ 0) : errL f (l.drop k) = f (l.getD k d) := by
  rw [List.getD_eq_getElem?_getD, List.getElem?_eq_getElem h] at h0 ⊢
  rw [List.drop_eq_getElem_cons h]
  exact if_neg h0
def headE (c : Cyc) : Int := if c.1 < 0 ∨ c.1 > 2 then 8 else if c.1 = 0 ∧ (c.2.1 ≠ 0 ∨ c.2.2.1 ≠ 0) then 3 else if c.2.1 < 0 ∨ c.2.1 > 11 ∨ ¬ (0 ≤ c.2.2.1 ∧ c.2.2.1 ≤ 6) then 1 else if c.2.2.2.length > 6 then 2 else 0
def cycE (c : Cyc) : Int := if headE c = 0 then errL stpE c.2.2.2 else headE c
def cycsE (l : List Cyc) : Int := if l.length > 8 then 2 else errL cycE l
theorem headE_len {c : Cyc} (h : headE c = 0) : c.2.2.2.length ≤ 6 := by
  unfold headE at h
  repeat' split at h
  all_goals first
    | omega
    | cases h
abbrev gCyc1 : Sig := ⟨true, CycT⟩
def tcycleS : PSpec := ⟨[gCyc1], fun (c, _) => (none, I (cycE c), [])⟩
set_option maxHeartbeats 2000000 in
theorem tcycle_ok : GoodF Tryz.prog 239 tcycleS.spec := by
  have hT := tab_ok (fs := [(261, tregS.spec), (250, wideS.spec), (262, tstepS.spec)]) tree_ok
  have hP : SpecsOk Tryz.prog (tab tree [(261, tregS.spec), (250, wideS.spec), (262, tstepS.spec)]) := specs_cons treg_ok (specs_cons tWide_ok (specs_cons tstep_ok specs_nil))
  refine tcycleS.good (fn := Tryz.f239) hT hP Tryz.func239 (by kernel_rfl) rfl fun (c : Cyc) _ => ?_
  obtain ⟨cb, ca, cr, cs⟩ := c
  repeat' first
    | (refine Go.mk ?_; conv => whnf)
    | refine Need.go ?_ ?_
    | refine NilG.go (fun _ => ?_) (fun _ => ?_)
    | refine Br.dec (fun _ => ?_) (fun _ => ?_)
    | refine Br.go (fun _ => ?_) (fun _ => ?_)
    | refine draw_go hT hP mixed ?_
    | refine round_go hT hP ?_
  all_goals (try dsimp only [castL_eq] at *)
  all_goals first
    | (refine .mk [] [] _ rfl rfl rfl rfl rfl rfl (imm_int ?_)
       clear hT hP
       show _ = cycE (cb, ca, cr, cs)
       simp [cycE, headE, regB] at *
       first
         | omega
         | (simp_all; done)
         | (simp_all; omega))
    | skip
  all_goals
    have hE : headE (cb, ca, cr, cs) = 0 := by
      clear hT hP
      simp [headE, regB] at *
      first
        | omega
        | (simp_all; done)
        | (simp_all; omega)
  · have hn : cs.length ≤ 6 := headE_len hE
    have hC : cycE (cb, ca, cr, cs) = errL stpE cs := if_pos hE
    refine up_go hT hP (A := Unit) cs.length (fun i _ => St.mk [.dead, .dead, .dead, .dead, .dead, .dead, .dead, .dead, .dead, .dead, .dead, .dead, .dead, .dead, .dead, .dead, .dead, .dead, .dead, .dead, .dead, .dead, .dead, .dead, .dead, .dead, .dead, .dead, .dead, .dead, .dead, .dead, .dead, .dead, .dead, .dead, .dead, .dead, .dead, .dead, .dead, .dead, .dead, .dead, .dead, .dead, .dead, .dead, .dead, .dead, .dead, .dead, .dead, .dead, .dead, .cell (.ro StepT cs), I cs.length, I i, .dead, .dead, .dead, .dead, .dead, .dead, .dead, .dead, .dead] [])
      (fun k _ => errL stpE (cs.drop k) = errL stpE cs) () (Le.mk [] [] rfl rfl rfl ?_) rfl fun k _ hk hi => ?_
    · repeat' first | exact trivial | exact ⟨rfl, rfl⟩ | refine And.intro ?_ ?_
    repeat' first
      | (refine Go.mk ?_; conv => whnf)
      | refine Need.go ?_ ?_
      | refine NilG.go (fun _ => ?_) (fun _ => ?_)
      | refine Br.dec (fun _ => ?_) (fun _ => ?_)
      | refine Br.go (fun _ => ?_) (fun _ => ?_)
      | refine draw_go hT hP mixed ?_
      | refine round_go hT hP ?_
    all_goals clear hT hP
    · rename_i g
      have g : (k : Int) < (cs.length : Int) := g
      show 0 ≤ (k : Int) ∧ (k : Int) < (cs.length : Int)
      omega
    · rename_i g g2
      have g : (k : Int) < (cs.length : Int) := g
      have g2 : (stpE (cs.getD k (dflt StepT)) != 0) = true := g2
      refine .mk [] [] _ rfl rfl rfl rfl rfl rfl (imm_int ?_)
      show stpE (cs.getD k (dflt StepT)) = cycE (cb, ca, cr, cs)
      rw [hC, ← hi, errL_no (dflt StepT) (by omega) (by simpa using g2)]
    · rename_i g g2
      have g : (k : Int) < (cs.length : Int) := g
      have g2 : (stpE (cs.getD k (dflt StepT)) != 0) = false := g2
      apply Exists.intro
      apply Exists.intro ()
      refine And.intro (And.intro ?lt93 (And.intro ?ei93 ?inv93)) (Le.mk [] [] rfl rfl ?hh93 ?ht93)
      case hh93 => exact rfl
      case ht93 => repeat' first | exact trivial | exact ⟨rfl, rfl⟩ | refine And.intro ?_ ?_
      case lt93 => omega
      case ei93 => exact up_i (by omega)
      exact (errL_ok (dflt StepT) (by omega) (by simpa using g2)).symm.trans hi
    · rename_i g
      have g : ¬ (k : Int) < (cs.length : Int) := g
      refine .mk [] [] _ rfl rfl rfl rfl rfl rfl (imm_int ?_)
      show 0 = cycE (cb, ca, cr, cs)
      rw [hC, ← hi, List.drop_of_length_le (by omega)]; rfl
  · have hn : cs.length ≤ 6 := headE_len hE
    have hC : cycE (cb, ca, cr, cs) = errL stpE cs := if_pos hE
    refine up_go hT hP (A := Unit) cs.length (fun i _ => St.mk [.dead, .dead, .dead, .dead, .dead, .dead, .dead, .dead, .dead, .dead, .dead, .dead, .dead, .dead, .dead, .dead, .dead, .dead, .dead, .dead, .dead, .dead, .dead, .dead, .dead, .dead, .dead, .dead, .dead, .dead, .dead, .dead, .dead, .dead, .dead, .dead, .dead, .dead, .dead, .dead, .dead, .dead, .dead, .dead, .dead, .dead, .dead, .dead, .dead, .dead, .dead, .dead, .dead, .dead, .dead, .cell (.ro StepT cs), I cs.length, I i, .dead, .dead, .dead, .dead, .dead, .dead, .dead, .dead, .dead] [])
      (fun k _ => errL stpE (cs.drop k) = errL stpE cs) () (Le.mk [] [] rfl rfl rfl ?_) rfl fun k _ hk hi => ?_
    · repeat' first | exact trivial | exact ⟨rfl, rfl⟩ | refine And.intro ?_ ?_
    repeat' first
      | (refine Go.mk ?_; conv => whnf)
      | refine Need.go ?_ ?_
      | refine NilG.go (fun _ => ?_) (fun _ => ?_)
      | refine Br.dec (fun _ => ?_) (fun _ => ?_)
      | refine Br.go (fun _ => ?_) (fun _ => ?_)
      | refine draw_go hT hP mixed ?_
      | refine round_go hT hP ?_
    all_goals clear hT hP
    · rename_i g
      have g : (k : Int) < (cs.length : Int) := g
      show 0 ≤ (k : Int) ∧ (k : Int) < (cs.length : Int)
      omega
    · rename_i g g2
      have g : (k : Int) < (cs.length : Int) := g
      have g2 : (stpE (cs.getD k (dflt StepT)) != 0) = true := g2
      refine .mk [] [] _ rfl rfl rfl rfl rfl rfl (imm_int ?_)
      show stpE (cs.getD k (dflt StepT)) = cycE (cb, ca, cr, cs)
      rw [hC, ← hi, errL_no (dflt StepT) (by omega) (by simpa using g2)]
    · rename_i g g2
      have g : (k : Int) < (cs.length : Int) := g
      have g2 : (stpE (cs.getD k (dflt StepT)) != 0) = false := g2
      apply Exists.intro
      apply Exists.intro ()
      refine And.intro (And.intro ?lt133 (And.intro ?ei133 ?inv133)) (Le.mk [] [] rfl rfl ?hh133 ?ht133)
      case hh133 => exact rfl
      case ht133 => repeat' first | exact trivial | exact ⟨rfl, rfl⟩ | refine And.intro ?_ ?_
      case lt133 => omega
      case ei133 => exact up_i (by omega)
      exact (errL_ok (dflt StepT) (by omega) (by simpa using g2)).symm.trans hi
    · rename_i g
      have g : ¬ (k : Int) < (cs.length : Int) := g
      refine .mk [] [] _ rfl rfl rfl rfl rfl rfl (imm_int ?_)
      show 0 = cycE (cb, ca, cr, cs)
      rw [hC, ← hi, List.drop_of_length_le (by omega)]; rfl

def tcyclesS : PSpec := ⟨[⟨false, .sl CycT⟩], fun (l, _) => (none, I (cycsE l), [])⟩
theorem tcycles_ok : GoodF Tryz.prog 189 tcyclesS.spec := by
  have hT := tab_ok (fs := [(239, tcycleS.spec)]) tree_ok
  have hP : SpecsOk Tryz.prog (tab tree [(239, tcycleS.spec)]) := specs_cons tcycle_ok specs_nil
  refine tcyclesS.good (fn := Tryz.f189) hT hP Tryz.func189 (by kernel_rfl) rfl fun (l : List Cyc) _ => ?_
  repeat' first
    | (refine Go.mk ?_; conv => whnf)
    | refine Need.go ?_ ?_
    | refine NilG.go (fun _ => ?_) (fun _ => ?_)
    | refine Br.dec (fun _ => ?_) (fun _ => ?_)
    | refine Br.go (fun _ => ?_) (fun _ => ?_)
    | refine draw_go hT hP mixed ?_
    | refine round_go hT hP ?_
  · rename_i g
    have g : (l.length : Int) > 8 := g
    refine .mk [] [] _ rfl rfl rfl rfl rfl rfl (imm_int ?_)
    exact (if_pos (by omega) : cycsE l = 2).symm
  rename_i g0
  have g0 : ¬ (l.length : Int) > 8 := g0
  have hC : cycsE l = errL cycE l := if_neg (by omega)
  refine up_go hT hP (A := Unit) l.length (fun i _ => St.mk [.dead, .dead, .dead, .dead, .dead, .dead, .dead, .dead, .dead, .cell (.ro CycT l), I l.length, I i, .dead, .dead, .dead, .dead, .dead, .dead, .dead, .dead, .dead] [])
    (fun k _ => errL cycE (l.drop k) = errL cycE l) () (Le.mk [] [] rfl rfl rfl ?_) rfl fun k _ hk hi => ?_
  · repeat' first | exact trivial | exact ⟨rfl, rfl⟩ | refine And.intro ?_ ?_
  repeat' first
    | (refine Go.mk ?_; conv => whnf)
    | refine Need.go ?_ ?_
    | refine NilG.go (fun _ => ?_) (fun _ => ?_)
    | refine Br.dec (fun _ => ?_) (fun _ => ?_)
    | refine Br.go (fun _ => ?_) (fun _ => ?_)
    | refine draw_go hT hP mixed ?_
    | refine round_go hT hP ?_
  all_goals clear hT hP
  · rename_i g
    have g : (k : Int) < (l.length : Int) := g
    show 0 ≤ (k : Int) ∧ (k : Int) < (l.length : Int)
    omega
  · rename_i g g2
    have g : (k : Int) < (l.length : Int) := g
    have g2 : (cycE (l.getD k (dflt CycT)) != 0) = true := g2
    refine .mk [] [] _ rfl rfl rfl rfl rfl rfl (imm_int ?_)
    show cycE (l.getD k (dflt CycT)) = cycsE l
    rw [hC, ← hi, errL_no (dflt CycT) (by omega) (by simpa using g2)]
  · rename_i g g2
    have g : (k : Int) < (l.length : Int) := g
    have g2 : (cycE (l.getD k (dflt CycT)) != 0) = false := g2
    apply Exists.intro
    apply Exists.intro ()
    refine And.intro (And.intro ?lt192 (And.intro ?ei192 ?inv192)) (Le.mk [] [] rfl rfl ?hh192 ?ht192)
    case hh192 => exact rfl
    case ht192 => repeat' first | exact trivial | exact ⟨rfl, rfl⟩ | refine And.intro ?_ ?_
    case lt192 => omega
    case ei192 => exact up_i (by omega)
    exact (errL_ok (dflt CycT) (by omega) (by simpa using g2)).symm.trans hi
  · rename_i g
    have g : ¬ (k : Int) < (l.length : Int) := g
    refine .mk [] [] _ rfl rfl rfl rfl rfl rfl (imm_int ?_)
    show 0 = cycsE l
    rw [hC, ← hi, List.drop_of_length_le (by omega)]; rfl

end Go.Proofs.YtofgbclopbmlcaaGreat

/- Cycles: what the reference says. -/
namespace Go.Proofs.YtofgbclopbmlcaaGreat
open Go.Fw
set_option linter.unusedVariables false
set_option linter.unusedSimpArgs false
set_option linter.constructorNameAsVariable false
set_option maxRecDepth 100000

set_option maxHeartbeats 2000000 in
theorem rCycles_ok : GoodF Tryz.prog 117 tcyclesS.spec := by
  have hT := tab_ok (fs := [(139, narrowS.spec), (199, tstepS.spec)]) tree_ok
  have hP : SpecsOk Tryz.prog (tab tree [(139, narrowS.spec), (199, tstepS.spec)]) := specs_cons rNarrow_ok (specs_cons rStep_ok specs_nil)
  refine tcyclesS.good (fn := Tryz.f117) hT hP Tryz.func117 (by kernel_rfl) rfl fun (l : List Cyc) _ => ?_
  repeat' first
    | (refine Go.mk ?_; conv => whnf)
    | refine Need.go ?_ ?_
    | refine NilG.go (fun _ => ?_) (fun _ => ?_)
    | refine Br.dec (fun _ => ?_) (fun _ => ?_)
    | refine Br.go (fun _ => ?_) (fun _ => ?_)
    | refine draw_go hT hP mixed ?_
    | refine round_go hT hP ?_
  · rename_i g
    have g : (l.length : Int) > 8 := g
    refine .mk [] [] _ rfl rfl rfl rfl rfl rfl (imm_int ?_)
    exact (if_pos (by omega) : cycsE l = 2).symm
  rename_i g0
  have g0 : ¬ (l.length : Int) > 8 := g0
  have hC : cycsE l = errL cycE l := if_neg (by omega)
  refine up_go hT hP (A := Unit) l.length (fun i _ => St.mk [.dead, .dead, .dead, .dead, .dead, .dead, .dead, .dead, .dead, .dead, .dead, .cell (.ro CycT l), I l.length, I i, .dead, .dead, .dead, .dead, .dead, .dead, .dead, .dead, .dead, .dead, .dead, .dead, .dead, .dead, .dead, .dead, .dead, .dead, .dead, .dead, .dead, .dead, .dead, .dead, .dead, .dead, .dead, .dead, .dead, .dead, .dead, .dead, .dead, .dead, .dead, .dead, .dead, .dead, .dead, .dead, .dead, .dead, .dead, .dead, .dead, .dead, .dead, .dead, .dead, .dead, .dead, .dead, .dead, .dead, .dead, .dead, .dead, .dead, .dead, .dead, .dead, .dead, .dead, .dead, .dead] [])
    (fun k _ => errL cycE (l.drop k) = errL cycE l) () (Le.mk [] [] rfl rfl rfl ?_) rfl fun k _ hk hi => ?_
  · repeat' first | exact trivial | exact ⟨rfl, rfl⟩ | refine And.intro ?_ ?_
  have hH : ∀ c : Cyc, l.getD k (dflt CycT) = c → cycE c ≠ 0 → k < l.length → cycE c = cycsE l := fun c e h hk => by
    rw [hC, ← hi, errL_no (dflt CycT) hk (by rw [e]; exact h), e]
  have hN : ∀ c : Cyc, l.getD k (dflt CycT) = c → cycE c = 0 → k < l.length → errL cycE (l.drop (k + 1)) = errL cycE l := fun c e h hk => by
    rw [← hi, errL_ok (dflt CycT) hk (by rw [e]; exact h)]
  repeat' first
    | (refine Go.mk ?_; conv => whnf)
    | refine Need.go ?_ ?_
    | refine NilG.go (fun _ => ?_) (fun _ => ?_)
    | refine Br.dec (fun _ => ?_) (fun _ => ?_)
    | refine Br.go (fun _ => ?_) (fun _ => ?_)
    | refine draw_go hT hP mixed ?_
    | refine round_go hT hP ?_
  all_goals (try dsimp only [castL_eq] at *)
  all_goals (generalize hc : l.getD (k : Int).toNat (dflt CycT) = c at *; obtain ⟨cb, ca, cr, cs⟩ := c)
  · show 0 ≤ (k : Int) ∧ (k : Int) < (l.length : Int)
    omega
  all_goals first
    | (have hD : ∀ n : Int, n ≠ 0 → headE (cb, ca, cr, cs) = n → k < l.length → n = cycsE l := fun n hn e hk => by
         have e2 : cycE (cb, ca, cr, cs) = n := by
           unfold cycE; rw [if_neg (by rw [e]; exact hn)]; exact e
         rw [← e2]; exact hH _ hc (by rw [e2]; exact hn) hk
       refine .mk [] [] _ rfl rfl rfl rfl rfl rfl (imm_int (hD _ (by decide) ?_ (by omega)))
       clear hT hP hH hN hD
       simp [headE, narrowB] at *
       first
         | omega
         | (simp_all; done)
         | (simp_all; omega)
         | skip)
    | (have hE : headE (cb, ca, cr, cs) = 0 := by
         clear hT hP hH hN
         simp [headE, narrowB] at *
         first
           | omega
           | (simp_all; done)
           | (simp_all; omega)
         done)
    | skip
  · have hn : cs.length ≤ 6 := headE_len hE
    have hD : cycE (cb, ca, cr, cs) = errL stpE cs := if_pos hE
    have hk2 : k < l.length := by omega
    refine up_go hT hP (A := Unit) cs.length (fun i _ => St.mk [.dead, .dead, .dead, .dead, .dead, .dead, .dead, .dead, .dead, .dead, .dead, .cell (.ro CycT l), I l.length, I k, .dead, .dead, .dead, .dead, .dead, .dead, .dead, .dead, .dead, .dead, .dead, .dead, .dead, .dead, .dead, .dead, .dead, .dead, .dead, .dead, .dead, .dead, .dead, .dead, .dead, .dead, .dead, .dead, .dead, .dead, .dead, .dead, .dead, .dead, .dead, .dead, .dead, .dead, .dead, .dead, .dead, .dead, .dead, .dead, .dead, .dead, .dead, .dead, .dead, .dead, .dead, .dead, .cell (.ro StepT cs), I cs.length, I i, .dead, .dead, .dead, .dead, .dead, .dead, .dead, .dead, .dead, .dead] [])
      (fun j _ => errL stpE (cs.drop j) = errL stpE cs) () (Le.mk [] [] rfl rfl rfl ?_) rfl fun j _ hj hi2 => ?_
    · repeat' first | exact trivial | exact ⟨rfl, rfl⟩ | refine And.intro ?_ ?_
    repeat' first
      | (refine Go.mk ?_; conv => whnf)
      | refine Need.go ?_ ?_
      | refine NilG.go (fun _ => ?_) (fun _ => ?_)
      | refine Br.dec (fun _ => ?_) (fun _ => ?_)
      | refine Br.go (fun _ => ?_) (fun _ => ?_)
      | refine draw_go hT hP mixed ?_
      | refine round_go hT hP ?_
    all_goals clear hT hP
    · rename_i g
      have g : (j : Int) < (cs.length : Int) := g
      show 0 ≤ (j : Int) ∧ (j : Int) < (cs.length : Int)
      omega
    · rename_i g g2
      have g : (j : Int) < (cs.length : Int) := g
      have g2 : (stpE (cs.getD j (dflt StepT)) != 0) = true := g2
      have g3 : stpE (cs.getD j (dflt StepT)) ≠ 0 := by simpa using g2
      have e : stpE (cs.getD j (dflt StepT)) = cycE (cb, ca, cr, cs) := by
        rw [hD, ← hi2, errL_no (dflt StepT) (by omega) g3]
      refine .mk [] [] _ rfl rfl rfl rfl rfl rfl (imm_int ?_)
      show stpE (cs.getD j (dflt StepT)) = cycsE l
      rw [e]; exact hH _ hc (by rw [← e]; exact g3) hk2
    · rename_i g g2
      have g : (j : Int) < (cs.length : Int) := g
      have g2 : (stpE (cs.getD j (dflt StepT)) != 0) = false := g2
      apply Exists.intro
      apply Exists.intro ()
      refine And.intro (And.intro ?lt101 (And.intro ?ei101 ?inv101)) (Le.mk [] [] rfl rfl ?hh101 ?ht101)
      case hh101 => exact rfl
      case ht101 => repeat' first | exact trivial | exact ⟨rfl, rfl⟩ | refine And.intro ?_ ?_
      case lt101 => omega
      case ei101 => exact up_i (by omega)
      exact (errL_ok (dflt StepT) (by omega) (by simpa using g2)).symm.trans hi2
    · rename_i g
      have g : ¬ (j : Int) < (cs.length : Int) := g
      have e : cycE (cb, ca, cr, cs) = 0 := by
        rw [hD, ← hi2, List.drop_of_length_le (by omega)]; rfl
      apply Exists.intro
      apply Exists.intro ()
      refine And.intro (And.intro ?lt113 (And.intro ?ei113 ?inv113)) (Le.mk [] [] rfl rfl ?hh113 ?ht113)
      case hh113 => exact rfl
      case ht113 => repeat' first | exact trivial | exact ⟨rfl, rfl⟩ | refine And.intro ?_ ?_
      case lt113 => omega
      case ei113 => exact up_i (by omega)
      exact hN _ hc e hk2
  · have hn : cs.length ≤ 6 := headE_len hE
    have hD : cycE (cb, ca, cr, cs) = errL stpE cs := if_pos hE
    have hk2 : k < l.length := by omega
    refine up_go hT hP (A := Unit) cs.length (fun i _ => St.mk [.dead, .dead, .dead, .dead, .dead, .dead, .dead, .dead, .dead, .dead, .dead, .cell (.ro CycT l), I l.length, I k, .dead, .dead, .dead, .dead, .dead, .dead, .dead, .dead, .dead, .dead, .dead, .dead, .dead, .dead, .dead, .dead, .dead, .dead, .dead, .dead, .dead, .dead, .dead, .dead, .dead, .dead, .dead, .dead, .dead, .dead, .dead, .dead, .dead, .dead, .dead, .dead, .dead, .dead, .dead, .dead, .dead, .dead, .dead, .dead, .dead, .dead, .dead, .dead, .dead, .dead, .dead, .dead, .cell (.ro StepT cs), I cs.length, I i, .dead, .dead, .dead, .dead, .dead, .dead, .dead, .dead, .dead, .dead] [])
      (fun j _ => errL stpE (cs.drop j) = errL stpE cs) () (Le.mk [] [] rfl rfl rfl ?_) rfl fun j _ hj hi2 => ?_
    · repeat' first | exact trivial | exact ⟨rfl, rfl⟩ | refine And.intro ?_ ?_
    repeat' first
      | (refine Go.mk ?_; conv => whnf)
      | refine Need.go ?_ ?_
      | refine NilG.go (fun _ => ?_) (fun _ => ?_)
      | refine Br.dec (fun _ => ?_) (fun _ => ?_)
      | refine Br.go (fun _ => ?_) (fun _ => ?_)
      | refine draw_go hT hP mixed ?_
      | refine round_go hT hP ?_
    all_goals clear hT hP
    · rename_i g
      have g : (j : Int) < (cs.length : Int) := g
      show 0 ≤ (j : Int) ∧ (j : Int) < (cs.length : Int)
      omega
    · rename_i g g2
      have g : (j : Int) < (cs.length : Int) := g
      have g2 : (stpE (cs.getD j (dflt StepT)) != 0) = true := g2
      have g3 : stpE (cs.getD j (dflt StepT)) ≠ 0 := by simpa using g2
      have e : stpE (cs.getD j (dflt StepT)) = cycE (cb, ca, cr, cs) := by
        rw [hD, ← hi2, errL_no (dflt StepT) (by omega) g3]
      refine .mk [] [] _ rfl rfl rfl rfl rfl rfl (imm_int ?_)
      show stpE (cs.getD j (dflt StepT)) = cycsE l
      rw [e]; exact hH _ hc (by rw [← e]; exact g3) hk2
    · rename_i g g2
      have g : (j : Int) < (cs.length : Int) := g
      have g2 : (stpE (cs.getD j (dflt StepT)) != 0) = false := g2
      apply Exists.intro
      apply Exists.intro ()
      refine And.intro (And.intro ?lt152 (And.intro ?ei152 ?inv152)) (Le.mk [] [] rfl rfl ?hh152 ?ht152)
      case hh152 => exact rfl
      case ht152 => repeat' first | exact trivial | exact ⟨rfl, rfl⟩ | refine And.intro ?_ ?_
      case lt152 => omega
      case ei152 => exact up_i (by omega)
      exact (errL_ok (dflt StepT) (by omega) (by simpa using g2)).symm.trans hi2
    · rename_i g
      have g : ¬ (j : Int) < (cs.length : Int) := g
      have e : cycE (cb, ca, cr, cs) = 0 := by
        rw [hD, ← hi2, List.drop_of_length_le (by omega)]; rfl
      apply Exists.intro
      apply Exists.intro ()
      refine And.intro (And.intro ?lt164 (And.intro ?ei164 ?inv164)) (Le.mk [] [] rfl rfl ?hh164 ?ht164)
      case hh164 => exact rfl
      case ht164 => repeat' first | exact trivial | exact ⟨rfl, rfl⟩ | refine And.intro ?_ ?_
      case lt164 => omega
      case ei164 => exact up_i (by omega)
      exact hN _ hc e hk2
  · have hn : cs.length ≤ 6 := headE_len hE
    have hD : cycE (cb, ca, cr, cs) = errL stpE cs := if_pos hE
    have hk2 : k < l.length := by omega
    refine up_go hT hP (A := Unit) cs.length (fun i _ => St.mk [.dead, .dead, .dead, .dead, .dead, .dead, .dead, .dead, .dead, .dead, .dead, .cell (.ro CycT l), I l.length, I k, .dead, .dead, .dead, .dead, .dead, .dead, .dead, .dead, .dead, .dead, .dead, .dead, .dead, .dead, .dead, .dead, .dead, .dead, .dead, .dead, .dead, .dead, .dead, .dead, .dead, .dead, .dead, .dead, .dead, .dead, .dead, .dead, .dead, .dead, .dead, .dead, .dead, .dead, .dead, .dead, .dead, .dead, .dead, .dead, .dead, .dead, .dead, .dead, .dead, .dead, .dead, .dead, .cell (.ro StepT cs), I cs.length, I i, .dead, .dead, .dead, .dead, .dead, .dead, .dead, .dead, .dead, .dead] [])
      (fun j _ => errL stpE (cs.drop j) = errL stpE cs) () (Le.mk [] [] rfl rfl rfl ?_) rfl fun j _ hj hi2 => ?_
    · repeat' first | exact trivial | exact ⟨rfl, rfl⟩ | refine And.intro ?_ ?_
    repeat' first
      | (refine Go.mk ?_; conv => whnf)
      | refine Need.go ?_ ?_
      | refine NilG.go (fun _ => ?_) (fun _ => ?_)
      | refine Br.dec (fun _ => ?_) (fun _ => ?_)
      | refine Br.go (fun _ => ?_) (fun _ => ?_)
      | refine draw_go hT hP mixed ?_
      | refine round_go hT hP ?_
    all_goals clear hT hP
    · rename_i g
      have g : (j : Int) < (cs.length : Int) := g
      show 0 ≤ (j : Int) ∧ (j : Int) < (cs.length : Int)
      omega
    · rename_i g g2
      have g : (j : Int) < (cs.length : Int) := g
      have g2 : (stpE (cs.getD j (dflt StepT)) != 0) = true := g2
      have g3 : stpE (cs.getD j (dflt StepT)) ≠ 0 := by simpa using g2
      have e : stpE (cs.getD j (dflt StepT)) = cycE (cb, ca, cr, cs) := by
        rw [hD, ← hi2, errL_no (dflt StepT) (by omega) g3]
      refine .mk [] [] _ rfl rfl rfl rfl rfl rfl (imm_int ?_)
      show stpE (cs.getD j (dflt StepT)) = cycsE l
      rw [e]; exact hH _ hc (by rw [← e]; exact g3) hk2
    · rename_i g g2
      have g : (j : Int) < (cs.length : Int) := g
      have g2 : (stpE (cs.getD j (dflt StepT)) != 0) = false := g2
      apply Exists.intro
      apply Exists.intro ()
      refine And.intro (And.intro ?lt203 (And.intro ?ei203 ?inv203)) (Le.mk [] [] rfl rfl ?hh203 ?ht203)
      case hh203 => exact rfl
      case ht203 => repeat' first | exact trivial | exact ⟨rfl, rfl⟩ | refine And.intro ?_ ?_
      case lt203 => omega
      case ei203 => exact up_i (by omega)
      exact (errL_ok (dflt StepT) (by omega) (by simpa using g2)).symm.trans hi2
    · rename_i g
      have g : ¬ (j : Int) < (cs.length : Int) := g
      have e : cycE (cb, ca, cr, cs) = 0 := by
        rw [hD, ← hi2, List.drop_of_length_le (by omega)]; rfl
      apply Exists.intro
      apply Exists.intro ()
      refine And.intro (And.intro ?lt215 (And.intro ?ei215 ?inv215)) (Le.mk [] [] rfl rfl ?hh215 ?ht215)
      case hh215 => exact rfl
      case ht215 => repeat' first | exact trivial | exact ⟨rfl, rfl⟩ | refine And.intro ?_ ?_
      case lt215 => omega
      case ei215 => exact up_i (by omega)
      exact hN _ hc e hk2
  · have hn : cs.length ≤ 6 := headE_len hE
    have hD : cycE (cb, ca, cr, cs) = errL stpE cs := if_pos hE
    have hk2 : k < l.length := by omega
    refine up_go hT hP (A := Unit) cs.length (fun i _ => St.mk [.dead, .dead, .dead, .dead, .dead, .dead, .dead, .dead, .dead, .dead, .dead, .cell (.ro CycT l), I l.length, I k, .dead, .dead, .dead, .dead, .dead, .dead, .dead, .dead, .dead, .dead, .dead, .dead, .dead, .dead, .dead, .dead, .dead, .dead, .dead, .dead, .dead, .dead, .dead, .dead, .dead, .dead, .dead, .dead, .dead, .dead, .dead, .dead, .dead, .dead, .dead, .dead, .dead, .dead, .dead, .dead, .dead, .dead, .dead, .dead, .dead, .dead, .dead, .dead, .dead, .dead, .dead, .dead, .cell (.ro StepT cs), I cs.length, I i, .dead, .dead, .dead, .dead, .dead, .dead, .dead, .dead, .dead, .dead] [])
      (fun j _ => errL stpE (cs.drop j) = errL stpE cs) () (Le.mk [] [] rfl rfl rfl ?_) rfl fun j _ hj hi2 => ?_
    · repeat' first | exact trivial | exact ⟨rfl, rfl⟩ | refine And.intro ?_ ?_
    repeat' first
      | (refine Go.mk ?_; conv => whnf)
      | refine Need.go ?_ ?_
      | refine NilG.go (fun _ => ?_) (fun _ => ?_)
      | refine Br.dec (fun _ => ?_) (fun _ => ?_)
      | refine Br.go (fun _ => ?_) (fun _ => ?_)
      | refine draw_go hT hP mixed ?_
      | refine round_go hT hP ?_
    all_goals clear hT hP
    · rename_i g
      have g : (j : Int) < (cs.length : Int) := g
      show 0 ≤ (j : Int) ∧ (j : Int) < (cs.length : Int)
      omega
    · rename_i g g2
      have g : (j : Int) < (cs.length : Int) := g
      have g2 : (stpE (cs.getD j (dflt StepT)) != 0) = true := g2
      have g3 : stpE (cs.getD j (dflt StepT)) ≠ 0 := by simpa using g2
      have e : stpE (cs.getD j (dflt StepT)) = cycE (cb, ca, cr, cs) := by
        rw [hD, ← hi2, errL_no (dflt StepT) (by omega) g3]
      refine .mk [] [] _ rfl rfl rfl rfl rfl rfl (imm_int ?_)
      show stpE (cs.getD j (dflt StepT)) = cycsE l
      rw [e]; exact hH _ hc (by rw [← e]; exact g3) hk2
    · rename_i g g2
      have g : (j : Int) < (cs.length : Int) := g
      have g2 : (stpE (cs.getD j (dflt StepT)) != 0) = false := g2
      apply Exists.intro
      apply Exists.intro ()
      refine And.intro (And.intro ?lt254 (And.intro ?ei254 ?inv254)) (Le.mk [] [] rfl rfl ?hh254 ?ht254)
      case hh254 => exact rfl
      case ht254 => repeat' first | exact trivial | exact ⟨rfl, rfl⟩ | refine And.intro ?_ ?_
      case lt254 => omega
      case ei254 => exact up_i (by omega)
      exact (errL_ok (dflt StepT) (by omega) (by simpa using g2)).symm.trans hi2
    · rename_i g
      have g : ¬ (j : Int) < (cs.length : Int) := g
      have e : cycE (cb, ca, cr, cs) = 0 := by
        rw [hD, ← hi2, List.drop_of_length_le (by omega)]; rfl
      apply Exists.intro
      apply Exists.intro ()
      refine And.intro (And.intro ?lt266 (And.intro ?ei266 ?inv266)) (Le.mk [] [] rfl rfl ?hh266 ?ht266)
      case hh266 => exact rfl
      case ht266 => repeat' first | exact trivial | exact ⟨rfl, rfl⟩ | refine And.intro ?_ ?_
      case lt266 => omega
      case ei266 => exact up_i (by omega)
      exact hN _ hc e hk2
  · have hn : cs.length ≤ 6 := headE_len hE
    have hD : cycE (cb, ca, cr, cs) = errL stpE cs := if_pos hE
    have hk2 : k < l.length := by omega
    refine up_go hT hP (A := Unit) cs.length (fun i _ => St.mk [.dead, .dead, .dead, .dead, .dead, .dead, .dead, .dead, .dead, .dead, .dead, .cell (.ro CycT l), I l.length, I k, .dead, .dead, .dead, .dead, .dead, .dead, .dead, .dead, .dead, .dead, .dead, .dead, .dead, .dead, .dead, .dead, .dead, .dead, .dead, .dead, .dead, .dead, .dead, .dead, .dead, .dead, .dead, .dead, .dead, .dead, .dead, .dead, .dead, .dead, .dead, .dead, .dead, .dead, .dead, .dead, .dead, .dead, .dead, .dead, .dead, .dead, .dead, .dead, .dead, .dead, .dead, .dead, .cell (.ro StepT cs), I cs.length, I i, .dead, .dead, .dead, .dead, .dead, .dead, .dead, .dead, .dead, .dead] [])
      (fun j _ => errL stpE (cs.drop j) = errL stpE cs) () (Le.mk [] [] rfl rfl rfl ?_) rfl fun j _ hj hi2 => ?_
    · repeat' first | exact trivial | exact ⟨rfl, rfl⟩ | refine And.intro ?_ ?_
    repeat' first
      | (refine Go.mk ?_; conv => whnf)
      | refine Need.go ?_ ?_
      | refine NilG.go (fun _ => ?_) (fun _ => ?_)
      | refine Br.dec (fun _ => ?_) (fun _ => ?_)
      | refine Br.go (fun _ => ?_) (fun _ => ?_)
      | refine draw_go hT hP mixed ?_
      | refine round_go hT hP ?_
    all_goals clear hT hP
    · rename_i g
      have g : (j : Int) < (cs.length : Int) := g
      show 0 ≤ (j : Int) ∧ (j : Int) < (cs.length : Int)
      omega
    · rename_i g g2
      have g : (j : Int) < (cs.length : Int) := g
      have g2 : (stpE (cs.getD j (dflt StepT)) != 0) = true := g2
      have g3 : stpE (cs.getD j (dflt StepT)) ≠ 0 := by simpa using g2
      have e : stpE (cs.getD j (dflt StepT)) = cycE (cb, ca, cr, cs) := by
        rw [hD, ← hi2, errL_no (dflt StepT) (by omega) g3]
      refine .mk [] [] _ rfl rfl rfl rfl rfl rfl (imm_int ?_)
      show stpE (cs.getD j (dflt StepT)) = cycsE l
      rw [e]; exact hH _ hc (by rw [← e]; exact g3) hk2
    · rename_i g g2
      have g : (j : Int) < (cs.length : Int) := g
      have g2 : (stpE (cs.getD j (dflt StepT)) != 0) = false := g2
      apply Exists.intro
      apply Exists.intro ()
      refine And.intro (And.intro ?lt305 (And.intro ?ei305 ?inv305)) (Le.mk [] [] rfl rfl ?hh305 ?ht305)
      case hh305 => exact rfl
      case ht305 => repeat' first | exact trivial | exact ⟨rfl, rfl⟩ | refine And.intro ?_ ?_
      case lt305 => omega
      case ei305 => exact up_i (by omega)
      exact (errL_ok (dflt StepT) (by omega) (by simpa using g2)).symm.trans hi2
    · rename_i g
      have g : ¬ (j : Int) < (cs.length : Int) := g
      have e : cycE (cb, ca, cr, cs) = 0 := by
        rw [hD, ← hi2, List.drop_of_length_le (by omega)]; rfl
      apply Exists.intro
      apply Exists.intro ()
      refine And.intro (And.intro ?lt317 (And.intro ?ei317 ?inv317)) (Le.mk [] [] rfl rfl ?hh317 ?ht317)
      case hh317 => exact rfl
      case ht317 => repeat' first | exact trivial | exact ⟨rfl, rfl⟩ | refine And.intro ?_ ?_
      case lt317 => omega
      case ei317 => exact up_i (by omega)
      exact hN _ hc e hk2
  · have hn : cs.length ≤ 6 := headE_len hE
    have hD : cycE (cb, ca, cr, cs) = errL stpE cs := if_pos hE
    have hk2 : k < l.length := by omega
    refine up_go hT hP (A := Unit) cs.length (fun i _ => St.mk [.dead, .dead, .dead, .dead, .dead, .dead, .dead, .dead, .dead, .dead, .dead, .cell (.ro CycT l), I l.length, I k, .dead, .dead, .dead, .dead, .dead, .dead, .dead, .dead, .dead, .dead, .dead, .dead, .dead, .dead, .dead, .dead, .dead, .dead, .dead, .dead, .dead, .dead, .dead, .dead, .dead, .dead, .dead, .dead, .dead, .dead, .dead, .dead, .dead, .dead, .dead, .dead, .dead, .dead, .dead, .dead, .dead, .dead, .dead, .dead, .dead, .dead, .dead, .dead, .dead, .dead, .dead, .dead, .cell (.ro StepT cs), I cs.length, I i, .dead, .dead, .dead, .dead, .dead, .dead, .dead, .dead, .dead, .dead] [])
      (fun j _ => errL stpE (cs.drop j) = errL stpE cs) () (Le.mk [] [] rfl rfl rfl ?_) rfl fun j _ hj hi2 => ?_
    · repeat' first | exact trivial | exact ⟨rfl, rfl⟩ | refine And.intro ?_ ?_
    repeat' first
      | (refine Go.mk ?_; conv => whnf)
      | refine Need.go ?_ ?_
      | refine NilG.go (fun _ => ?_) (fun _ => ?_)
      | refine Br.dec (fun _ => ?_) (fun _ => ?_)
      | refine Br.go (fun _ => ?_) (fun _ => ?_)
      | refine draw_go hT hP mixed ?_
      | refine round_go hT hP ?_
    all_goals clear hT hP
    · rename_i g
      have g : (j : Int) < (cs.length : Int) := g
      show 0 ≤ (j : Int) ∧ (j : Int) < (cs.length : Int)
      omega
    · rename_i g g2
      have g : (j : Int) < (cs.length : Int) := g
      have g2 : (stpE (cs.getD j (dflt StepT)) != 0) = true := g2
      have g3 : stpE (cs.getD j (dflt StepT)) ≠ 0 := by simpa using g2
      have e : stpE (cs.getD j (dflt StepT)) = cycE (cb, ca, cr, cs) := by
        rw [hD, ← hi2, errL_no (dflt StepT) (by omega) g3]
      refine .mk [] [] _ rfl rfl rfl rfl rfl rfl (imm_int ?_)
      show stpE (cs.getD j (dflt StepT)) = cycsE l
      rw [e]; exact hH _ hc (by rw [← e]; exact g3) hk2
    · rename_i g g2
      have g : (j : Int) < (cs.length : Int) := g
      have g2 : (stpE (cs.getD j (dflt StepT)) != 0) = false := g2
      apply Exists.intro
      apply Exists.intro ()
      refine And.intro (And.intro ?lt356 (And.intro ?ei356 ?inv356)) (Le.mk [] [] rfl rfl ?hh356 ?ht356)
      case hh356 => exact rfl
      case ht356 => repeat' first | exact trivial | exact ⟨rfl, rfl⟩ | refine And.intro ?_ ?_
      case lt356 => omega
      case ei356 => exact up_i (by omega)
      exact (errL_ok (dflt StepT) (by omega) (by simpa using g2)).symm.trans hi2
    · rename_i g
      have g : ¬ (j : Int) < (cs.length : Int) := g
      have e : cycE (cb, ca, cr, cs) = 0 := by
        rw [hD, ← hi2, List.drop_of_length_le (by omega)]; rfl
      apply Exists.intro
      apply Exists.intro ()
      refine And.intro (And.intro ?lt368 (And.intro ?ei368 ?inv368)) (Le.mk [] [] rfl rfl ?hh368 ?ht368)
      case hh368 => exact rfl
      case ht368 => repeat' first | exact trivial | exact ⟨rfl, rfl⟩ | refine And.intro ?_ ?_
      case lt368 => omega
      case ei368 => exact up_i (by omega)
      exact hN _ hc e hk2
  · rename_i g
    have g : ¬ (k : Int) < (l.length : Int) := by assumption
    refine .mk [] [] _ rfl rfl rfl rfl rfl rfl (imm_int ?_)
    show 0 = cycsE l
    rw [hC, ← hi, List.drop_of_length_le (by omega)]; rfl

end Go.Proofs.YtofgbclopbmlcaaGreat

/- Instructions of the same name and mode (printed by genix2.py). -/
namespace Go.Proofs.YtofgbclopbmlcaaGreat
open Go.Fw
set_option linter.unusedVariables false
set_option linter.unusedSimpArgs false
set_option linter.constructorNameAsVariable false
set_option maxRecDepth 100000

def keyB (x y : Ins) : Bool := bif strEq y.2.1 x.2.1 then decide (y.2.2.1 = x.2.2.1) else false

def tkcRd : List V1 → List Blk → Option (Ins × Ins) := fun a b => match a, b with
  | [.agg [.imm (.int .i64 eo), .imm (.string en), .imm (.int .i64 em), .ro (.pair (.int .i64) (.pair (.int .i64) (.pair (.int .i64) (.sl (.pair (.int .i64) (.pair (.int .i64) (.pair (.int .i64) (.int .i64)))))))) ec], .c (.ptr 0 0)], [.var [.imm (.int .i64 co), .imm (.string cn), .imm (.int .i64 cm), .ro (.pair (.int .i64) (.pair (.int .i64) (.pair (.int .i64) (.sl (.pair (.int .i64) (.pair (.int .i64) (.pair (.int .i64) (.int .i64)))))))) cc]] => some ((eo, en, em, ec), (co, cn, cm, cc))
  | _, _ => none
theorem tkcRd_ok {a : List V1} {b : List Blk} {x : Ins × Ins} (h : tkcRd a b = some x) : a = [.agg [iv .i64 x.1.1, .imm (.string x.1.2.1), iv .i64 x.1.2.2.1, .ro CycT x.1.2.2.2], .c (.ptr 0 0)] ∧ b = [.var [iv .i64 x.2.1, .imm (.string x.2.2.1), iv .i64 x.2.2.2.1, .ro CycT x.2.2.2.2]] := by
  unfold tkcRd at h
  split at h
  · injection h with h; subst h; exact ⟨rfl, rfl⟩
  · cases h
def tkcS : WSpec := ⟨Ins × Ins, fun x => [.agg [iv .i64 x.1.1, .imm (.string x.1.2.1), iv .i64 x.1.2.2.1, .ro CycT x.1.2.2.2], .c (.ptr 0 0)], fun x => [.var [iv .i64 x.2.1, .imm (.string x.2.2.1), iv .i64 x.2.2.2.1, .ro CycT x.2.2.2.2]], tkcRd,
  fun x => (some ((fun _ => True) x.2), .cell (bv (keyB x.2 x.1)), [some (.var [iv .i64 x.2.1, .imm (.string x.2.2.1), iv .i64 x.2.2.2.1, .ro CycT x.2.2.2.2])], [])⟩
theorem tkc_ok : GoodF Tryz.prog 188 tkcS.spec := by
  have hT := tab_ok (fs := []) tree_ok
  have hP : SpecsOk Tryz.prog (tab tree []) := specs_nil
  refine tkcS.good (fn := Tryz.f188) hT hP Tryz.func188 (by kernel_rfl) rfl (fun _ _ _ h => tkcRd_ok h) fun (x : Ins × Ins) hq => ?_
  have hq : (fun _ => True) x.2 := hq _ rfl
  repeat' first
    | (refine Go.mk ?_; conv => whnf)
    | refine Need.go ?_ ?_
    | refine NilG.go (fun _ => ?_) (fun _ => ?_)
    | refine Br.dec (fun _ => ?_) (fun _ => ?_)
    | refine Br.go (fun _ => ?_) (fun _ => ?_)
    | refine draw_go hT hP mixed ?_
    | refine round_go hT hP ?_
  all_goals clear hT hP
  all_goals first
    | (rename_i g
       have g : strEq x.1.2.1 x.2.2.1 = true := g
       refine .mk [] [0] _ rfl rfl rfl rfl rfl rfl (imm_bool ?_)
       show _ = bif strEq x.1.2.1 x.2.2.1 then decide (x.1.2.2.1 = x.2.2.2.1) else false
       rw [g]; rfl)
    | (rename_i g
       have g : strEq x.1.2.1 x.2.2.1 = false := g
       refine .mk [] [0] _ rfl rfl rfl rfl rfl rfl (imm_bool ?_)
       show _ = bif strEq x.1.2.1 x.2.2.1 then decide (x.1.2.2.1 = x.2.2.2.1) else false
       rw [g]; rfl)
    | skip
structure tkX where
  l : List Ins
  d : Ins
def tkRd : List V1 → List Blk → Option tkX := fun a b => match a, b with
  | [.c (.ro (.pair (.int .i64) (.pair .str (.pair (.int .i64) (.sl (.pair (.int .i64) (.pair (.int .i64) (.pair (.int .i64) (.sl (.pair (.int .i64) (.pair (.int .i64) (.pair (.int .i64) (.int .i64))))))))))))  l), .c (.fn 188 [0])], [.var [.imm (.int .i64 co), .imm (.string cn), .imm (.int .i64 cm), .ro (.pair (.int .i64) (.pair (.int .i64) (.pair (.int .i64) (.sl (.pair (.int .i64) (.pair (.int .i64) (.pair (.int .i64) (.int .i64)))))))) cc]] => some ⟨l, (co, cn, cm, cc)⟩
  | _, _ => none
theorem tkRd_ok {a : List V1} {b : List Blk} {x : tkX} (h : tkRd a b = some x) : a = [.c (.ro InsT x.l), .c (.fn 188 [0])] ∧ b = [.var [iv .i64 x.d.1, .imm (.string x.d.2.1), iv .i64 x.d.2.2.1, .ro CycT x.d.2.2.2]] := by
  unfold tkRd at h
  split at h
  · injection h with h; subst h; exact ⟨rfl, rfl⟩
  · cases h
def tkiS : WSpec := ⟨tkX, fun x => [.c (.ro InsT x.l), .c (.fn 188 [0])], fun x => [.var [iv .i64 x.d.1, .imm (.string x.d.2.1), iv .i64 x.d.2.2.1, .ro CycT x.d.2.2.2]], tkRd,
  fun x => (some (x.l.length ≤ 4611686018427387904 ∧ (fun _ => True) x.d), I (fstI (keyB x.d) x.l), [some (.var [iv .i64 x.d.1, .imm (.string x.d.2.1), iv .i64 x.d.2.2.1, .ro CycT x.d.2.2.2])], [])⟩
theorem tki_ok : GoodF Tryz.prog 145 tkiS.spec := by
  have hT := tab_ok (fs := [(188, tkcS.spec)]) tree_ok
  have hP : SpecsOk Tryz.prog (tab tree [(188, tkcS.spec)]) := specs_cons tkc_ok specs_nil
  refine tkiS.good (fn := Tryz.f145) hT hP Tryz.func145 (by kernel_rfl) rfl (fun _ _ _ h => tkRd_ok h) fun (x : tkX) hq => ?_
  obtain ⟨hl, hq⟩ : x.l.length ≤ 4611686018427387904 ∧ (fun _ => True) x.d := hq _ rfl
  obtain ⟨l, d⟩ := x
  have hl : l.length ≤ 4611686018427387904 := hl
  repeat' first
    | (refine Go.mk ?_; conv => whnf)
    | refine Need.go ?_ ?_
    | refine NilG.go (fun _ => ?_) (fun _ => ?_)
    | refine Br.dec (fun _ => ?_) (fun _ => ?_)
    | refine Br.go (fun _ => ?_) (fun _ => ?_)
    | refine draw_go hT hP mixed ?_
    | refine round_go hT hP ?_
  refine up_go hT hP (A := Unit) l.length (fun i _ => St.mk [.cell (.ro InsT l), .cell (.fn 188 [0]), .dead, .dead, .dead, .dead, .dead, I l.length, I i, .dead, .dead, .dead, .dead, .dead, .dead, .dead, .dead, .dead, .dead] [some (.var [iv .i64 d.1, .imm (.string d.2.1), iv .i64 d.2.2.1, .ro CycT d.2.2.2])])
    (fun k _ => fstG (keyB d) (l.drop k) k = fstI (keyB d) l) () (Le.mk [] [0] rfl rfl rfl ?_) rfl fun k _ hk hi => ?_
  · repeat' first | exact trivial | exact ⟨rfl, rfl⟩ | refine And.intro ?_ ?_
  repeat' first
    | (refine Go.mk ?_; conv => whnf)
    | refine Need.go ?_ ?_
    | refine NilG.go (fun _ => ?_) (fun _ => ?_)
    | refine Br.dec (fun _ => ?_) (fun _ => ?_)
    | refine Br.go (fun _ => ?_) (fun _ => ?_)
    | refine draw_go hT hP mixed ?_
    | refine round_go hT hP ?_
  all_goals clear hT hP
  · rename_i g1
    have g1 : (k : Int) < (l.length : Int) := g1
    show 0 ≤ (k : Int) ∧ (k : Int) < (l.length : Int)
    omega
  · first | exact hq | exact trivial
  · rename_i g1 g2
    have g1 : (k : Int) < (l.length : Int) := g1
    exact .mk [] [0] _ rfl rfl rfl rfl rfl rfl (imm_int (fst_hit (dflt InsT) (by omega) g2 hi))
  · rename_i g1 g2
    have g1 : (k : Int) < (l.length : Int) := g1
    have hp : ¬ keyB d (l.getD k (dflt InsT)) = true := by
      have g2 : keyB d (l.getD k (dflt InsT)) = false := g2
      rw [g2]; decide
    apply Exists.intro
    apply Exists.intro ()
    refine And.intro (And.intro ?lt101 (And.intro ?ei101 ?inv101)) (Le.mk [] [0] rfl rfl ?hh101 ?ht101)
    case hh101 => exact rfl
    case ht101 => repeat' first | exact trivial | exact ⟨rfl, rfl⟩ | refine And.intro ?_ ?_
    case lt101 => omega
    case ei101 => exact up_i (by omega)
    exact fst_miss (dflt InsT) (by omega) hp hi
  · rename_i g1
    have g1 : ¬ (k : Int) < (l.length : Int) := g1
    exact .mk [] [0] _ rfl rfl rfl rfl rfl rfl (imm_int (fst_none (by omega) hi))

def tktS : WSpec := ⟨tkX, fun x => [.c (.ro InsT x.l), .c (.fn 188 [0])], fun x => [.var [iv .i64 x.d.1, .imm (.string x.d.2.1), iv .i64 x.d.2.2.1, .ro CycT x.d.2.2.2]], tkRd,
  fun x => (some (x.l.length ≤ 4611686018427387904 ∧ (fun _ => True) x.d), .cell (bv (x.l.any (keyB x.d))), [some (.var [iv .i64 x.d.1, .imm (.string x.d.2.1), iv .i64 x.d.2.2.1, .ro CycT x.d.2.2.2])], [])⟩
theorem tkt_ok : GoodF Tryz.prog 187 tktS.spec := by
  have hT := tab_ok (fs := [(145, tkiS.spec)]) tree_ok
  have hP : SpecsOk Tryz.prog (tab tree [(145, tkiS.spec)]) := specs_cons tki_ok specs_nil
  refine tktS.good (fn := Tryz.f187) hT hP Tryz.func187 (by kernel_rfl) rfl (fun _ _ _ h => tkRd_ok h) fun (x : tkX) hq => ?_
  have hq : x.l.length ≤ 4611686018427387904 ∧ (fun _ => True) x.d := hq _ rfl
  obtain ⟨l, d⟩ := x
  repeat' first
    | (refine Go.mk ?_; conv => whnf)
    | refine Need.go ?_ ?_
    | refine NilG.go (fun _ => ?_) (fun _ => ?_)
    | refine Br.dec (fun _ => ?_) (fun _ => ?_)
    | refine Br.go (fun _ => ?_) (fun _ => ?_)
    | refine draw_go hT hP mixed ?_
    | refine round_go hT hP ?_
  all_goals clear hT hP
  · first | exact hq | exact trivial
  · exact .mk [] [0] _ rfl rfl rfl rfl rfl rfl (imm_bool (fst_any (keyB d) l))

end Go.Proofs.YtofgbclopbmlcaaGreat

