/- The processor: what it asks of the bus. -/
import Derived.Test.YtblnigjmcjpopaaChip
import Derived.Test.YtblnigjmcjpopaaFw35
namespace Go.Proofs.Ytblnigjmcjpopaa
open Go.Fw
set_option linter.unusedVariables false
set_option linter.unusedSimpArgs false
set_option maxRecDepth 100000

abbrev StepT : Ty := .pair (.int .i64) (.pair (.int .i64) (.pair (.int .i64) (.int .i64)))
abbrev CycT : Ty := .pair (.int .i64) (.pair (.int .i64) (.pair (.int .i64) (.sl StepT)))
abbrev InsT : Ty := .pair (.int .i64) (.pair .str (.pair (.int .i64) (.sl CycT)))
abbrev CpuT : Ty := .pair .str (.pair (.sl InsT) (.pair (.sl CycT) (.pair (.sl CycT) (.sl CycT))))
abbrev CoreT : Ty := .pair (.ints .i64 9) (.pair (.int .i64) (.pair (.int .i64) .bool))
abbrev gR : Sig := ⟨true, .ints .i64 9⟩
abbrev gCpu : Sig := ⟨true, CpuT⟩
abbrev gK : Sig := ⟨true, CoreT⟩
abbrev gB : Sig := ⟨false, .bool⟩
abbrev Stp := Int × Int × Int × Int
abbrev Cyc := Int × Int × Int × List Stp
abbrev Ins := Int × ByteArray × Int × List Cyc
abbrev Cpu := ByteArray × List Ins × List Cyc × List Cyc × List Cyc
abbrev Kor := List Int × Int × Int × Bool

theorem w64e (x : Int) : IntKind.i64.wrap x = (x + 9223372036854775808) % 18446744073709551616 - 9223372036854775808 := by
  rw [IntKind.wrap_i64]
theorem up_i {k : Nat} (h : k ≤ 4611686018427387904) : IntKind.i64.wrap ((k : Int) + 1) = ((k + 1 : Nat) : Int) := by
  rw [w64 (by omega) (by omega)]; omega
theorem tmodE (x k : Int) : x.tmod k = if 0 ≤ x then x % k else -((-x) % k) := by
  split
  · rename_i h; exact Int.tmod_eq_emod_of_nonneg h
  · rename_i h
    have := Int.neg_tmod (-x) k
    rw [Int.neg_neg] at this
    rw [this, Int.tmod_eq_emod_of_nonneg (by omega)]
theorem tdivE (x k : Int) : x.tdiv k = if 0 ≤ x then x / k else -((-x) / k) := by
  split
  · rename_i h; exact Int.tdiv_eq_ediv_of_nonneg h
  · rename_i h
    have := Int.neg_tdiv (-x) k
    rw [Int.neg_neg] at this
    rw [this, Int.tdiv_eq_ediv_of_nonneg (by omega)]
def fitR (l : List Int) : List Int := [l.getD 0 0 % 256, l.getD 1 0 % 256, l.getD 2 0 % 256, l.getD 3 0 % 256, l.getD 4 0 % 256, l.getD 5 0 % 256, l.getD 6 0 % 256, l.getD 7 0 % 65536, l.getD 8 0 % 65536]
theorem nine {l : List Int} (h : l.length = 9) : ∃ a b c d e f g h i, l = [a, b, c, d, e, f, g, h, i] := by
  match l, h with
  | [a, b, c, d, e, f, g, h, i], _ => exact ⟨a, b, c, d, e, f, g, h, i, rfl⟩
theorem agg9 {l l' : List Int} (h : l = l') : AV.agg [.run .i64 9 l] = AV.agg [.run .i64 9 l'] := by rw [h]

def wideB (r : Int) : Bool := decide (r = 7 ∨ r = 8)
def narrowB (r : Int) : Bool := decide (0 ≤ r ∧ r ≤ 6)
def wideS : PSpec := ⟨[gi], fun (r, _) => (none, .cell (bv (wideB r)), [])⟩
def narrowS : PSpec := ⟨[gi], fun (r, _) => (none, .cell (bv (narrowB r)), [])⟩
theorem tWide_ok : Good Try.prog 20 wideS.spec := by
  have hT := tab_ok (fs := []) tree_ok
  have hP : SpecsOk Try.prog (tab tree []) := specs_nil
  refine wideS.good (fn := Try.f20) hT hP Try.func20 (by kernel_rfl) rfl fun (r : Int) _ => ?_
  repeat' first
    | (refine Go.mk ?_; conv => whnf)
    | refine Need.go ?_ ?_
    | refine NilG.go (fun _ => ?_) (fun _ => ?_)
    | refine Br.dec (fun _ => ?_) (fun _ => ?_)
    | refine Br.go (fun _ => ?_) (fun _ => ?_)
    | refine draw_go hT hP mixed ?_
    | refine round_go hT hP ?_
  all_goals
    refine .mk [] [] _ rfl rfl rfl rfl rfl rfl (imm_bool ?_)
    show _ = wideB r
    simp_all [wideB] <;> first | rfl | omega
theorem rWide_ok : Good Try.prog 82 wideS.spec := by
  have hT := tab_ok (fs := []) tree_ok
  have hP : SpecsOk Try.prog (tab tree []) := specs_nil
  refine wideS.good (fn := Try.f82) hT hP Try.func82 (by kernel_rfl) rfl fun (r : Int) _ => ?_
  repeat' first
    | (refine Go.mk ?_; conv => whnf)
    | refine Need.go ?_ ?_
    | refine NilG.go (fun _ => ?_) (fun _ => ?_)
    | refine Br.dec (fun _ => ?_) (fun _ => ?_)
    | refine Br.go (fun _ => ?_) (fun _ => ?_)
    | refine draw_go hT hP mixed ?_
    | refine round_go hT hP ?_
  all_goals
    refine .mk [] [] _ rfl rfl rfl rfl rfl rfl (imm_bool ?_)
    show _ = wideB r
    simp_all [wideB] <;> first | rfl | omega
theorem rNarrow_ok : Good Try.prog 81 narrowS.spec := by
  have hT := tab_ok (fs := []) tree_ok
  have hP : SpecsOk Try.prog (tab tree []) := specs_nil
  refine narrowS.good (fn := Try.f81) hT hP Try.func81 (by kernel_rfl) rfl fun (r : Int) _ => ?_
  repeat' first
    | (refine Go.mk ?_; conv => whnf)
    | refine Need.go ?_ ?_
    | refine NilG.go (fun _ => ?_) (fun _ => ?_)
    | refine Br.dec (fun _ => ?_) (fun _ => ?_)
    | refine Br.go (fun _ => ?_) (fun _ => ?_)
    | refine draw_go hT hP mixed ?_
    | refine round_go hT hP ?_
  all_goals
    refine .mk [] [] _ rfl rfl rfl rfl rfl rfl (imm_bool ?_)
    show _ = narrowB r
    simp_all [narrowB] <;> first | rfl | omega

def aBitsS : PSpec := ⟨[gi], fun (r, _) => (none, I (cond (wideB r) 16 8), [])⟩
theorem aBits_ok : Good Try.prog 136 aBitsS.spec := by
  have hT := tab_ok (fs := [(20, wideS.spec)]) tree_ok
  have hP : SpecsOk Try.prog (tab tree [(20, wideS.spec)]) := specs_cons tWide_ok specs_nil
  refine aBitsS.good (fn := Try.f136) hT hP Try.func136 (by kernel_rfl) rfl fun (r : Int) _ => ?_
  repeat' first
    | (refine Go.mk ?_; conv => whnf)
    | refine Need.go ?_ ?_
    | refine NilG.go (fun _ => ?_) (fun _ => ?_)
    | refine Br.dec (fun _ => ?_) (fun _ => ?_)
    | refine Br.go (fun _ => ?_) (fun _ => ?_)
    | refine draw_go hT hP mixed ?_
    | refine round_go hT hP ?_
  · rename_i h
    refine .mk [] [] _ rfl rfl rfl rfl rfl rfl (imm_int ?_)
    show _ = cond (wideB r) 16 8
    rw [show wideB r = true from decide_eq_true h]; rfl
  · rename_i h
    refine .mk [] [] _ rfl rfl rfl rfl rfl rfl (imm_int ?_)
    show _ = cond (wideB r) 16 8
    rw [show wideB r = false from decide_eq_false h]; rfl

def fitS : PSpec := ⟨[gR], fun (l, _) => (some (List.length l = 9), .agg [.run .i64 9 (fitR l)], [])⟩
theorem aFit_ok : Good Try.prog 71 fitS.spec := by
  have hT := tab_ok (fs := [(136, aBitsS.spec), (70, lowM.spec)]) tree_ok
  have hP : SpecsOk Try.prog (tab tree [(136, aBitsS.spec), (70, lowM.spec)]) := specs_cons aBits_ok (specs_cons lowM_ok specs_nil)
  refine fitS.good (fn := Try.f71) hT hP Try.func71 (by kernel_rfl) rfl fun (l : List Int) hp => ?_
  have hp : l.length = 9 := hp _ rfl
  obtain ⟨a, b, c, d, e, f, g, h, i, rfl⟩ := nine hp
  repeat' first
    | (refine Go.mk ?_; conv => whnf)
    | refine Need.go ?_ ?_
    | refine NilG.go (fun _ => ?_) (fun _ => ?_)
    | refine Br.dec (fun _ => ?_) (fun _ => ?_)
    | refine Br.go (fun _ => ?_) (fun _ => ?_)
    | refine draw_go hT hP mixed ?_
    | refine round_go hT hP ?_
  refine loop_unroll 10 ?_
  repeat' first
    | (refine Go.mk ?_; conv => whnf)
    | refine Need.go ?_ ?_
    | refine NilG.go (fun _ => ?_) (fun _ => ?_)
    | refine Br.dec (fun _ => ?_) (fun _ => ?_)
    | refine Br.go (fun _ => ?_) (fun _ => ?_)
    | refine draw_go hT hP mixed ?_
    | refine round_go hT hP ?_
  all_goals first
    | exact of_decide_eq_true rfl
    | exact .mk [] [] _ rfl rfl rfl rfl rfl rfl rfl

theorem rFit_ok : Good Try.prog 77 fitS.spec := by
  have hT := tab_ok (fs := [(82, wideS.spec), (76, modS.spec)]) tree_ok
  have hP : SpecsOk Try.prog (tab tree [(82, wideS.spec), (76, modS.spec)]) := specs_cons rWide_ok (specs_cons mod_ok specs_nil)
  refine fitS.good (fn := Try.f77) hT hP Try.func77 (by kernel_rfl) rfl fun (l : List Int) hp => ?_
  have hp : l.length = 9 := hp _ rfl
  obtain ⟨a, b, c, d, e, f, g, h, i, rfl⟩ := nine hp
  repeat' first
    | (refine Go.mk ?_; conv => whnf)
    | refine Need.go ?_ ?_
    | refine NilG.go (fun _ => ?_) (fun _ => ?_)
    | refine Br.dec (fun _ => ?_) (fun _ => ?_)
    | refine Br.go (fun _ => ?_) (fun _ => ?_)
    | refine draw_go hT hP mixed ?_
    | refine round_go hT hP ?_
  refine loop_unroll 10 ?_
  repeat' first
    | (refine Go.mk ?_; conv => whnf)
    | refine Need.go ?_ ?_
    | refine NilG.go (fun _ => ?_) (fun _ => ?_)
    | refine Br.dec (fun _ => ?_) (fun _ => ?_)
    | refine Br.go (fun _ => ?_) (fun _ => ?_)
    | refine draw_go hT hP mixed ?_
    | refine round_go hT hP ?_
  all_goals first
    | exact of_decide_eq_true rfl
    | exact .mk [] [] _ rfl rfl rfl rfl rfl rfl rfl

-- places

def fixF (a : Int) : Int := ([65534, 65535, 65530, 65531, 65532, 65533] : List Int).getD (a - 6).toNat 0
def plA (a : Int) (r : List Int) : Int :=
  if a = 0 ∨ a = 1 then r.getD 7 0 else if a = 2 then r.getD 8 0 else if a = 3 then (r.getD 8 0 + 1) % 65536 else if a = 4 then 256 + r.getD 3 0 else if a = 5 then 256 + (r.getD 3 0 + 1) % 256
  else if a < 0 ∨ a ≥ 12 then 0 else fixF a
def plR (a : Int) (r : List Int) : List Int :=
  if a = 0 then r.set 7 ((r.getD 7 0 + 1) % 65536) else if a = 4 then r.set 3 ((r.getD 3 0 - 1) % 256) else if a = 5 then r.set 3 ((r.getD 3 0 + 1) % 256) else r
theorem tupR {x y : Int} {l l' : List Int} (h : x = y) (h2 : l = l') : AV.tup [I1 x, .agg [.run .i64 9 l]] = AV.tup [I1 y, .agg [.run .i64 9 l']] := by rw [h, h2]

def fixS : PSpec := ⟨[gi], fun (a, _) => (some (6 ≤ a ∧ a < 12), I (fixF a), [])⟩
def placeRS : PSpec := ⟨[gi, gR], fun (a, r, _) => (some (∃ q, r = fitR q), .tup [I1 (plA a r), .agg [.run .i64 9 (plR a r)]], [])⟩
def addrS : PSpec := ⟨[gi, gR], fun (a, r, _) => (some (∃ q, r = fitR q), .tup [I1 (plA a r), .agg [.run .i64 9 (plR a r)]], [])⟩
def cycP (op : Int) (x : Ins) : Bool := decide (x.1 = op ∧ 0 ≤ op ∧ op ≤ 255)
def cycF (c : Cpu) (op : Int) : List Cyc :=
  if op = 256 then c.2.2.2.1 else if op = 257 then c.2.2.2.2 else if op = 258 then c.2.2.1 else match c.2.1.find? (cycP op) with | some x => x.2.2.2 | none => []
theorem find_at {α : Type} {l : List α} {p : α → Bool} {k : Nat} (d : α) (h0 : (l.take k).find? p = none) (h : k < l.length) (hp : p (l.getD k d) = true) : l.find? p = some (l.getD k d) := by
  have e : l = l.take k ++ l.drop k := (List.take_append_drop k l).symm
  have e2 : l.drop k = l.getD k d :: l.drop (k + 1) := by
    rw [List.drop_eq_getElem_cons h]; simp [h]
  have : (l.take k ++ l.drop k).find? p = some (l.getD k d) := by
    rw [List.find?_append, h0, e2, List.find?_cons, hp]; rfl
  rwa [List.take_append_drop] at this
theorem find_step {α : Type} {l : List α} {p : α → Bool} {k : Nat} (d : α) (h0 : (l.take k).find? p = none) (h : k < l.length) (hp : p (l.getD k d) = false) : (l.take (k + 1)).find? p = none := by
  have e2 : l.getD k d = l[k] := by simp [h]
  rw [e2] at hp
  rw [List.take_succ_eq_append_getElem h, List.find?_append, h0]
  simp [hp]
theorem find_end {α : Type} {l : List α} {p : α → Bool} {k : Nat} (h0 : (l.take k).find? p = none) (h : l.length ≤ k) : l.find? p = none := by
  rwa [List.take_of_length_le h] at h0
def cycS : PSpec := ⟨[gCpu, gi], fun (c, op, _) => (some (List.length c.2.1 ≤ 4611686018427387904), .cell (.ro CycT (cycF c op)), [])⟩
theorem cyc_ok : Good Try.prog 75 cycS.spec := by
  have hT := tab_ok (fs := []) tree_ok
  have hP : SpecsOk Try.prog (tab tree []) := specs_nil
  refine cycS.good (fn := Try.f75) hT hP Try.func75 (by kernel_rfl) rfl fun (c : Cpu) (op : Int) hp => ?_
  obtain ⟨cn, ci, cr, cq, cm⟩ := c
  have hp : ci.length ≤ 4611686018427387904 := hp _ rfl
  repeat' first
    | (refine Go.mk ?_; conv => whnf)
    | refine Need.go ?_ ?_
    | refine NilG.go (fun _ => ?_) (fun _ => ?_)
    | refine Br.dec (fun _ => ?_) (fun _ => ?_)
    | refine Br.go (fun _ => ?_) (fun _ => ?_)
    | refine draw_go hT hP mixed ?_
    | refine round_go hT hP ?_
  · rename_i h
    refine .mk [] [] _ rfl rfl rfl rfl rfl rfl (ro_eq ?_)
    simp_all [cycF]
  · rename_i h
    refine .mk [] [] _ rfl rfl rfl rfl rfl rfl (ro_eq ?_)
    simp_all [cycF]
  · rename_i h
    refine .mk [] [] _ rfl rfl rfl rfl rfl rfl (ro_eq ?_)
    simp_all [cycF]
  rename_i n1 n2 n3
  have n1 : ¬ op = 256 := n1
  have n2 : ¬ op = 257 := n2
  have n3 : ¬ op = 258 := n3
  have hF : cycF (cn, ci, cr, cq, cm) op = match ci.find? (cycP op) with | some x => x.2.2.2 | none => [] := by
    unfold cycF; rw [if_neg n1, if_neg n2, if_neg n3]
  refine up_go hT hP (A := Unit) ci.length (fun i _ => St.mk [.dead, I op, .dead, .dead, .dead, .dead, .dead, .dead, .dead, .dead, .dead, .dead, .dead, .dead, .dead, .dead, .dead, .dead, .dead, .dead, .dead, .cell (.ro InsT ci), I ci.length, I i, .dead, .dead, .dead, .dead, .dead, .dead, .dead, .dead, .dead, .dead, .dead, .dead, .dead, .dead, .dead, .dead, .dead, .dead] [])
    (fun k _ => (ci.take k).find? (cycP op) = none) () (Le.mk [] [] rfl rfl rfl ?_) (by simp) fun k _ hk hi => ?_
  rotate_right
  repeat' first
    | (refine Go.mk ?_; conv => whnf)
    | refine Need.go ?_ ?_
    | refine NilG.go (fun _ => ?_) (fun _ => ?_)
    | refine Br.dec (fun _ => ?_) (fun _ => ?_)
    | refine Br.go (fun _ => ?_) (fun _ => ?_)
    | refine draw_go hT hP mixed ?_
    | refine round_go hT hP ?_
  all_goals (try (dsimp only [gi, Den] at *; omega))
  · rename_i g1 g2 g3 g4
    have hlt : k < ci.length := by omega
    refine .mk [] [] _ rfl rfl rfl rfl rfl rfl (ro_eq ?_)
    show _ = cycF (cn, ci, cr, cq, cm) op
    rw [hF, find_at (dflt InsT) hi hlt (decide_eq_true ⟨g2, g3, g4⟩)]; rfl
  · rename_i g1 g2 g3 g4
    have hlt : k < ci.length := by omega
    apply Exists.intro
    apply Exists.intro ()
    refine And.intro (And.intro ?lt326 (And.intro ?ei326 ?inv326)) (Le.mk [] [] rfl rfl ?hh326 ?ht326)
    case hh326 => exact rfl
    case ht326 => repeat' first | exact trivial | exact ⟨rfl, rfl⟩ | refine And.intro ?_ ?_
    case lt326 => omega
    case ei326 => exact up_i (by omega)
    exact find_step (dflt InsT) hi hlt (decide_eq_false fun h => g4 h.2.2)
  · rename_i g1 g2 g3
    have hlt : k < ci.length := by omega
    apply Exists.intro
    apply Exists.intro ()
    refine And.intro (And.intro ?lt336 (And.intro ?ei336 ?inv336)) (Le.mk [] [] rfl rfl ?hh336 ?ht336)
    case hh336 => exact rfl
    case ht336 => repeat' first | exact trivial | exact ⟨rfl, rfl⟩ | refine And.intro ?_ ?_
    case lt336 => omega
    case ei336 => exact up_i (by omega)
    exact find_step (dflt InsT) hi hlt (decide_eq_false fun h => g3 h.2.1)
  · rename_i g1 g2
    have hlt : k < ci.length := by omega
    apply Exists.intro
    apply Exists.intro ()
    refine And.intro (And.intro ?lt346 (And.intro ?ei346 ?inv346)) (Le.mk [] [] rfl rfl ?hh346 ?ht346)
    case hh346 => exact rfl
    case ht346 => repeat' first | exact trivial | exact ⟨rfl, rfl⟩ | refine And.intro ?_ ?_
    case lt346 => omega
    case ei346 => exact up_i (by omega)
    exact find_step (dflt InsT) hi hlt (decide_eq_false fun h => g2 h.1)
  · rename_i g1
    refine .le (Le.nilro 4 CycT rfl) (.mk [] [] _ rfl rfl rfl rfl rfl rfl (ro_eq ?_))
    show _ = cycF (cn, ci, cr, cq, cm) op
    rw [hF, find_end hi (by omega)]
  · repeat' first | exact trivial | exact ⟨rfl, rfl⟩ | refine And.intro ?_ ?_

theorem cycOf_ok : Good Try.prog 80 cycS.spec := by
  have hT := tab_ok (fs := []) tree_ok
  have hP : SpecsOk Try.prog (tab tree []) := specs_nil
  refine cycS.good (fn := Try.f80) hT hP Try.func80 (by kernel_rfl) rfl fun (c : Cpu) (op : Int) hp => ?_
  obtain ⟨cn, ci, cr, cq, cm⟩ := c
  have hp : ci.length ≤ 4611686018427387904 := hp _ rfl
  repeat' first
    | (refine Go.mk ?_; conv => whnf)
    | refine Need.go ?_ ?_
    | refine NilG.go (fun _ => ?_) (fun _ => ?_)
    | refine Br.dec (fun _ => ?_) (fun _ => ?_)
    | refine Br.go (fun _ => ?_) (fun _ => ?_)
    | refine draw_go hT hP mixed ?_
    | refine round_go hT hP ?_
  · rename_i h
    refine .mk [] [] _ rfl rfl rfl rfl rfl rfl (ro_eq ?_)
    simp_all [cycF]
  · rename_i h
    refine .mk [] [] _ rfl rfl rfl rfl rfl rfl (ro_eq ?_)
    simp_all [cycF]
  · rename_i h
    refine .mk [] [] _ rfl rfl rfl rfl rfl rfl (ro_eq ?_)
    simp_all [cycF]
  rename_i n1 n2 n3
  have n1 : ¬ op = 256 := n1
  have n2 : ¬ op = 257 := n2
  have n3 : ¬ op = 258 := n3
  have hF : cycF (cn, ci, cr, cq, cm) op = match ci.find? (cycP op) with | some x => x.2.2.2 | none => [] := by
    unfold cycF; rw [if_neg n1, if_neg n2, if_neg n3]
  refine up_go hT hP (A := Unit) ci.length (fun i _ => St.mk [.dead, I op, .cell (.ptr 0 0), .dead, .dead, .dead, .dead, .dead, .dead, .dead, .dead, .dead, .dead, .dead, .dead, .dead, .dead, .dead, .dead, .dead, .dead, I ci.length, I i, .dead, .dead, .dead, .dead, .dead, .dead, .dead, .dead, .dead, .dead, .dead, .dead, .dead, .dead, .dead, .dead, .dead, .dead, .dead, .dead, .dead, .dead, .dead, .dead, .dead] [some (.var [.imm (.string cn), .ro InsT ci, .ro CycT cr, .ro CycT cq, .ro CycT cm])])
    (fun k _ => (ci.take k).find? (cycP op) = none) () (Le.mk [] [0] rfl rfl rfl ?_) (by simp) fun k _ hk hi => ?_
  rotate_right
  repeat' first
    | (refine Go.mk ?_; conv => whnf)
    | refine Need.go ?_ ?_
    | refine NilG.go (fun _ => ?_) (fun _ => ?_)
    | refine Br.dec (fun _ => ?_) (fun _ => ?_)
    | refine Br.go (fun _ => ?_) (fun _ => ?_)
    | refine draw_go hT hP mixed ?_
    | refine round_go hT hP ?_
  all_goals (try (dsimp only [gi, Den] at *; omega))
  · rename_i g1 g2 g3 g4
    have hlt : k < ci.length := by omega
    refine .mk [] [] _ rfl rfl rfl rfl rfl rfl (ro_eq ?_)
    show _ = cycF (cn, ci, cr, cq, cm) op
    rw [hF, find_at (dflt InsT) hi hlt (decide_eq_true ⟨g2, g3, g4⟩)]; rfl
  · rename_i g1 g2 g3 g4
    have hlt : k < ci.length := by omega
    apply Exists.intro
    apply Exists.intro ()
    refine And.intro (And.intro ?lt408 (And.intro ?ei408 ?inv408)) (Le.mk [] [0] rfl rfl ?hh408 ?ht408)
    case hh408 => exact rfl
    case ht408 => repeat' first | exact trivial | exact ⟨rfl, rfl⟩ | refine And.intro ?_ ?_
    case lt408 => omega
    case ei408 => exact up_i (by omega)
    exact find_step (dflt InsT) hi hlt (decide_eq_false fun h => g4 h.2.2)
  · rename_i g1 g2 g3
    have hlt : k < ci.length := by omega
    apply Exists.intro
    apply Exists.intro ()
    refine And.intro (And.intro ?lt418 (And.intro ?ei418 ?inv418)) (Le.mk [] [0] rfl rfl ?hh418 ?ht418)
    case hh418 => exact rfl
    case ht418 => repeat' first | exact trivial | exact ⟨rfl, rfl⟩ | refine And.intro ?_ ?_
    case lt418 => omega
    case ei418 => exact up_i (by omega)
    exact find_step (dflt InsT) hi hlt (decide_eq_false fun h => g3 h.2.1)
  · rename_i g1 g2
    have hlt : k < ci.length := by omega
    apply Exists.intro
    apply Exists.intro ()
    refine And.intro (And.intro ?lt428 (And.intro ?ei428 ?inv428)) (Le.mk [] [0] rfl rfl ?hh428 ?ht428)
    case hh428 => exact rfl
    case ht428 => repeat' first | exact trivial | exact ⟨rfl, rfl⟩ | refine And.intro ?_ ?_
    case lt428 => omega
    case ei428 => exact up_i (by omega)
    exact find_step (dflt InsT) hi hlt (decide_eq_false fun h => g2 h.1)
  · rename_i g1
    refine .le (Le.nilro 4 CycT rfl) (.mk [] [] _ rfl rfl rfl rfl rfl rfl (ro_eq ?_))
    show _ = cycF (cn, ci, cr, cq, cm) op
    rw [hF, find_end hi (by omega)]
  · repeat' first | exact trivial | exact ⟨rfl, rfl⟩ | refine And.intro ?_ ?_

-- the next cycle

def cycD : Cyc := (0, 0, 0, [])
def canB (c : Cpu) (op at_ : Int) : Bool := !decide (op = -1) && (decide (0 ≤ at_) && decide (at_ < (cycF c op).length))
def doF (c : Cpu) (op at_ : Int) : Cyc := if canB c op at_ then (cycF c op).getD at_.toNat cycD else cycD
theorem tupDo {a b c : Int} {l : List Stp} {o : Bool} {x : Cyc} {o' : Bool} (h : (a, b, c, l) = x) (h2 : o = o') : AV.tup [.agg [iv .i64 a, iv .i64 b, iv .i64 c, .ro StepT l], .c (bv o)] = AV.tup [.agg [iv .i64 x.1, iv .i64 x.2.1, iv .i64 x.2.2.1, .ro StepT x.2.2.2], .c (bv o')] := by subst h; subst h2; rfl
def doingS : PSpec := ⟨[gCpu, gK], fun (c, k, _) => (some (List.length c.2.1 ≤ 4611686018427387904), .tup [.agg [iv .i64 (doF c k.2.1 k.2.2.1).1, iv .i64 (doF c k.2.1 k.2.2.1).2.1, iv .i64 (doF c k.2.1 k.2.2.1).2.2.1, .ro StepT (doF c k.2.1 k.2.2.1).2.2.2], .c (bv (canB c k.2.1 k.2.2.1))], [])⟩
theorem doing_ok : Good Try.prog 72 doingS.spec := by
  have hT := tab_ok (fs := [(75, cycS.spec)]) tree_ok
  have hP : SpecsOk Try.prog (tab tree [(75, cycS.spec)]) := specs_cons cyc_ok specs_nil
  refine doingS.good (fn := Try.f72) hT hP Try.func72 (by kernel_rfl) rfl fun (c : Cpu) (k : Kor) hp => ?_
  obtain ⟨cn, ci, cr, cq, cm⟩ := c
  obtain ⟨r, op, at_, n⟩ := k
  have hp : ci.length ≤ 4611686018427387904 := hp _ rfl
  repeat' first
    | (refine Go.mk ?_; conv => whnf)
    | refine Need.go ?_ ?_
    | refine NilG.go (fun _ => ?_) (fun _ => ?_)
    | refine Br.dec (fun _ => ?_) (fun _ => ?_)
    | refine Br.go (fun _ => ?_) (fun _ => ?_)
    | refine draw_go hT hP mixed ?_
    | refine round_go hT hP ?_
  all_goals (try (dsimp only [gi, Den] at *; omega))
  · exact hp
  · rename_i g
    have g : op = -1 := g
    have hc : canB (cn, ci, cr, cq, cm) op at_ = false := by unfold canB; rw [decide_eq_true g]; rfl
    refine .le (Le.nilroH 2 _ [iv .i64 0, iv .i64 0, iv .i64 0, .ro StepT []] rfl ⟨.inl rfl, .inl rfl, .inl rfl, .inr ⟨rfl, _, rfl⟩, trivial⟩) (.mk [] [] _ rfl rfl rfl rfl rfl rfl (tupDo ?_ hc.symm))
    show cycD = doF _ _ _
    unfold doF; rw [if_neg (by rw [hc]; decide)]
  · rename_i g g2
    have g2 : at_ < 0 := g2
    have hc : canB (cn, ci, cr, cq, cm) op at_ = false := by unfold canB; rw [decide_eq_false (show ¬ 0 ≤ at_ by omega)]; simp
    refine .le (Le.nilroH 2 _ [iv .i64 0, iv .i64 0, iv .i64 0, .ro StepT []] rfl ⟨.inl rfl, .inl rfl, .inl rfl, .inr ⟨rfl, _, rfl⟩, trivial⟩) (.mk [] [] _ rfl rfl rfl rfl rfl rfl (tupDo ?_ hc.symm))
    show cycD = doF _ _ _
    unfold doF; rw [if_neg (by rw [hc]; decide)]
  · rename_i g g2 g3
    have g3 : at_ ≥ ((cycF (cn, ci, cr, cq, cm) op).length : Int) := g3
    have hc : canB (cn, ci, cr, cq, cm) op at_ = false := by unfold canB; rw [decide_eq_false (show ¬ at_ < ((cycF (cn, ci, cr, cq, cm) op).length : Int) by omega)]; simp
    refine .le (Le.nilroH 2 _ [iv .i64 0, iv .i64 0, iv .i64 0, .ro StepT []] rfl ⟨.inl rfl, .inl rfl, .inl rfl, .inr ⟨rfl, _, rfl⟩, trivial⟩) (.mk [] [] _ rfl rfl rfl rfl rfl rfl (tupDo ?_ hc.symm))
    show cycD = doF _ _ _
    unfold doF; rw [if_neg (by rw [hc]; decide)]
  · rename_i g g2 g3
    have g : ¬ op = -1 := g
    have g2 : ¬ at_ < 0 := g2
    have g3 : ¬ at_ ≥ ((cycF (cn, ci, cr, cq, cm) op).length : Int) := g3
    have hc : canB (cn, ci, cr, cq, cm) op at_ = true := by unfold canB; rw [decide_eq_false g, decide_eq_true (show 0 ≤ at_ by omega), decide_eq_true (show at_ < ((cycF (cn, ci, cr, cq, cm) op).length : Int) by omega)]; rfl
    refine .mk [] [] _ rfl rfl rfl rfl rfl rfl (tupDo ?_ hc.symm)
    unfold doF; rw [if_pos hc]; rfl

-- what begins between two instructions

theorem fin256 (p : Int → Prop) [DecidablePred p] (h : ∀ n : Fin 256, p (n.val : Int)) (x : Int) (h1 : 0 ≤ x) (h2 : x < 256) : p x := by
  have := h ⟨x.toNat, by omega⟩
  have e : ((x.toNat : Nat) : Int) = x := by omega
  simpa [e] using this
theorem land4 : ∀ x : Int, 0 ≤ x → x < 256 → (decide (land .i64 x 4 = 0)) = decide (x / 4 % 2 = 0) := fin256 (fun x => (decide (land .i64 x 4 = 0)) = decide (x / 4 % 2 = 0)) (by decide +kernel)
def startF (c : Cpu) (k : Kor) (irq : Bool) : Kor :=
  if (k.2.2.2 && decide (0 < c.2.2.2.2.length)) = true then (k.1, 257, 0, false) else if (irq && (decide (k.1.getD 4 0 / 4 % 2 = 0) && decide (0 < c.2.2.2.1.length))) = true then (k.1, 256, 0, k.2.2.2) else k
theorem aggK {r : List Int} {a b : Int} {n : Bool} {x : Kor} (h : (r, a, b, n) = x) : AV.agg [.run .i64 9 r, iv .i64 a, iv .i64 b, bv n] = AV.agg [.run .i64 9 x.1, iv .i64 x.2.1, iv .i64 x.2.2.1, bv x.2.2.2] := by subst h; rfl
def startS : PSpec := ⟨[gCpu, gK, gB], fun (c, k, i, _) => (some (List.length c.2.1 ≤ 4611686018427387904 ∧ ∃ q, k.1 = fitR q), .agg [.run .i64 9 (startF c k i).1, iv .i64 (startF c k i).2.1, iv .i64 (startF c k i).2.2.1, bv (startF c k i).2.2.2], [])⟩
end Go.Proofs.Ytblnigjmcjpopaa
