/- Part 9 of the proof: Tell2 Sames CoreLaw SoundTicks. No statement is handed in here; conditions: none. -/
import Derived.Test.YtanaaecfghmmaaaG6
import Derived.Test.YtanaaecfghmmaaaG8
import Derived.Test.YtanaaecfghmmaaaG7
/- What a processor does with a number from the bus. -/
namespace Go.Proofs.Ytanaaecfghmmaaa
open Go.Fw
set_option linter.unusedVariables false
set_option linter.unusedSimpArgs false
set_option linter.constructorNameAsVariable false
set_option maxRecDepth 100000

def opRd : List V1 → List Blk → Option (Ins × Int) := fun a b => match a, b with
  | [.agg [.imm (.int .i64 o), .imm (.string s), .imm (.int .i64 m), .ro (.pair (.int .i64) (.pair (.int .i64) (.pair (.int .i64) (.sl (.pair (.int .i64) (.pair (.int .i64) (.pair (.int .i64) (.int .i64)))))))) l], .c (.ptr 0 0)], [.var [.imm (.int .i64 op)]] => some ((o, s, m, l), op)
  | _, _ => none
theorem opRd_ok {a : List V1} {b : List Blk} {x : Ins × Int} (h : opRd a b = some x) : a = [.agg [iv .i64 x.1.1, .imm (.string x.1.2.1), iv .i64 x.1.2.2.1, .ro CycT x.1.2.2.2], .c (.ptr 0 0)] ∧ b = [.var [iv .i64 x.2]] := by
  unfold opRd at h
  split at h
  · injection h with h; subst h; exact ⟨rfl, rfl⟩
  · cases h
def opWS : WSpec := ⟨Ins × Int, fun x => [.agg [iv .i64 x.1.1, .imm (.string x.1.2.1), iv .i64 x.1.2.2.1, .ro CycT x.1.2.2.2], .c (.ptr 0 0)], fun x => [.var [iv .i64 x.2]], opRd,
  fun (x, op) => (none, .cell (bv (x.1 == op)), [some (.var [iv .i64 op])], [])⟩
theorem findOp_ok : GoodF Try.prog 64 opWS.spec := by
  have hT := tab_ok (fs := []) tree_ok
  have hP : SpecsOk Try.prog (tab tree []) := specs_nil
  refine opWS.good (fn := Try.f64) hT hP Try.func64 (by kernel_rfl) rfl (fun _ _ _ h => opRd_ok h) fun (((o, s, m, l), op) : Ins × Int) hq => ?_
  repeat' first
    | (refine Go.mk ?_; conv => whnf)
    | refine Need.go ?_ ?_
    | refine NilG.go (fun _ => ?_) (fun _ => ?_)
    | refine Br.dec (fun _ => ?_) (fun _ => ?_)
    | refine Br.go (fun _ => ?_) (fun _ => ?_)
    | refine draw_go hT hP mixed ?_
    | refine round_go hT hP ?_
  all_goals exact .mk [] [0] _ rfl rfl rfl rfl rfl rfl rfl
theorem ansOp_ok : GoodF Try.prog 76 opWS.spec := by
  have hT := tab_ok (fs := []) tree_ok
  have hP : SpecsOk Try.prog (tab tree []) := specs_nil
  refine opWS.good (fn := Try.f76) hT hP Try.func76 (by kernel_rfl) rfl (fun _ _ _ h => opRd_ok h) fun (((o, s, m, l), op) : Ins × Int) hq => ?_
  repeat' first
    | (refine Go.mk ?_; conv => whnf)
    | refine Need.go ?_ ?_
    | refine NilG.go (fun _ => ?_) (fun _ => ?_)
    | refine Br.dec (fun _ => ?_) (fun _ => ?_)
    | refine Br.go (fun _ => ?_) (fun _ => ?_)
    | refine draw_go hT hP mixed ?_
    | refine round_go hT hP ?_
  all_goals exact .mk [] [0] _ rfl rfl rfl rfl rfl rfl rfl

def idxG (p : Ins → Bool) : List Ins → Nat → Int
  | [], _ => -1
  | x :: r, k => if p x = true then (k : Int) else idxG p r (k + 1)
def opP (op : Int) (x : Ins) : Bool := x.1 == op
def idxI (l : List Ins) (op : Int) : Int := idxG (opP op) l 0
theorem insDrop {l : List Ins} {k : Nat} (h : k < l.length) : l.drop k = l.getD k (dflt InsT) :: l.drop (k + 1) := by
  rw [List.drop_eq_getElem_cons h, List.getD_eq_getElem?_getD, List.getElem?_eq_getElem h]; rfl
theorem idxG_in {p : Ins → Bool} : ∀ {l : List Ins} {k : Nat}, idxG p l k = -1 ∨ ((k : Int) ≤ idxG p l k ∧ idxG p l k < k + l.length)
  | [], k => .inl rfl
  | x :: r, k => by
    unfold idxG
    by_cases h : p x = true
    · rw [if_pos h]; right; simp only [List.length_cons]; omega
    · rw [if_neg h]
      rcases idxG_in (p := p) (l := r) (k := k + 1) with h1 | h1
      · exact .inl h1
      · right; simp only [List.length_cons]; omega
theorem idxI_in (l : List Ins) (op : Int) : idxI l op = -1 ∨ (0 ≤ idxI l op ∧ idxI l op < l.length) := by
  have := idxG_in (p := opP op) (l := l) (k := 0)
  unfold idxI
  simpa using this
structure IdxX where
  g : Nat
  l : List Ins
  op : Int
def idxRd : List V1 → List Blk → Option IdxX := fun a b => match a, b with
  | [.c (.ro (.pair (.int .i64) (.pair .str (.pair (.int .i64) (.sl (.pair (.int .i64) (.pair (.int .i64) (.pair (.int .i64) (.sl (.pair (.int .i64) (.pair (.int .i64) (.pair (.int .i64) (.int .i64)))))))))))) l), .c (.fn g [0])], [.var [.imm (.int .i64 op)]] => some ⟨g, l, op⟩
  | _, _ => none
theorem idxRd_ok {a : List V1} {b : List Blk} {x : IdxX} (h : idxRd a b = some x) : a = [.c (.ro InsT x.l), .c (.fn x.g [0])] ∧ b = [.var [iv .i64 x.op]] := by
  unfold idxRd at h
  split at h
  · injection h with h; subst h; exact ⟨rfl, rfl⟩
  · cases h
def idxWS : WSpec := ⟨IdxX, fun x => [.c (.ro InsT x.l), .c (.fn x.g [0])], fun x => [.var [iv .i64 x.op]], idxRd,
  fun ⟨g, l, op⟩ => (some ((g = 64 ∨ g = 76) ∧ l.length ≤ 4611686018427387904), I (idxI l op), [some (.var [iv .i64 op])], [])⟩
theorem idx_ok : GoodF Try.prog 63 idxWS.spec := by
  have hT := tab_ok (fs := [(64, opWS.spec), (76, opWS.spec)]) tree_ok
  have hP : SpecsOk Try.prog (tab tree [(64, opWS.spec), (76, opWS.spec)]) := specs_cons findOp_ok (specs_cons ansOp_ok specs_nil)
  refine idxWS.good (fn := Try.f63) hT hP Try.func63 (by kernel_rfl) rfl (fun _ _ _ h => idxRd_ok h) fun (⟨g, l, op⟩ : IdxX) hq => ?_
  obtain ⟨hg, hl⟩ : (g = 64 ∨ g = 76) ∧ l.length ≤ 4611686018427387904 := hq _ rfl
  clear hq
  rcases hg with rfl | rfl
  · repeat' first
      | (refine Go.mk ?_; conv => whnf)
      | refine Need.go ?_ ?_
      | refine NilG.go (fun _ => ?_) (fun _ => ?_)
      | refine Br.dec (fun _ => ?_) (fun _ => ?_)
      | refine Br.go (fun _ => ?_) (fun _ => ?_)
      | refine draw_go hT hP mixed ?_
      | refine round_go hT hP ?_
    refine up_go hT hP (A := Unit) l.length (fun i _ => St.mk [.cell (.ro InsT l), .cell (.fn 64 [0]), .dead, .dead, .dead, .dead, .dead, I l.length, I i, .dead, .dead, .dead, .dead, .dead, .dead, .dead, .dead, .dead, .dead] [some (.var [iv .i64 op])])
      (fun k _ => idxG (opP op) (l.drop k) k = idxI l op) () (Le.mk [] [0] rfl rfl rfl ?_) rfl fun k _ hk hi => ?_
    rotate_right
    repeat' first
      | (refine Go.mk ?_; conv => whnf)
      | refine Need.go ?_ ?_
      | refine NilG.go (fun _ => ?_) (fun _ => ?_)
      | refine Br.dec (fun _ => ?_) (fun _ => ?_)
      | refine Br.go (fun _ => ?_) (fun _ => ?_)
      | refine draw_go hT hP mixed ?_
      | refine round_go hT hP ?_
    all_goals (try (dsimp only [gi, Den] at *; omega))
    · rename_i g1 g2
      have hlt : k < l.length := by omega
      have hp : opP op (l.getD k (dflt InsT)) = true := beq_iff_eq.2 g2
      refine .mk [] [0] _ rfl rfl rfl rfl rfl rfl (imm_int ?_)
      rw [insDrop hlt, idxG, if_pos hp] at hi
      exact hi
    · rename_i g1 g2
      have hlt : k < l.length := by omega
      have hp : ¬ opP op (l.getD k (dflt InsT)) = true := fun h => g2 (beq_iff_eq.1 h)
      apply Exists.intro
      apply Exists.intro ()
      refine And.intro (And.intro ?lt119 (And.intro ?ei119 ?inv119)) (Le.mk [] [0] rfl rfl ?hh119 ?ht119)
      case hh119 => exact rfl
      case ht119 => repeat' first | exact trivial | exact ⟨rfl, rfl⟩ | refine And.intro ?_ ?_
      case lt119 => omega
      case ei119 => exact up_i (by omega)
      rw [insDrop hlt, idxG, if_neg hp] at hi
      exact hi
    · rename_i g1
      refine .mk [] [0] _ rfl rfl rfl rfl rfl rfl (imm_int ?_)
      rw [List.drop_of_length_le (by omega)] at hi
      exact hi
    · repeat' first | exact trivial | exact ⟨rfl, rfl⟩ | refine And.intro ?_ ?_
  · repeat' first
      | (refine Go.mk ?_; conv => whnf)
      | refine Need.go ?_ ?_
      | refine NilG.go (fun _ => ?_) (fun _ => ?_)
      | refine Br.dec (fun _ => ?_) (fun _ => ?_)
      | refine Br.go (fun _ => ?_) (fun _ => ?_)
      | refine draw_go hT hP mixed ?_
      | refine round_go hT hP ?_
    refine up_go hT hP (A := Unit) l.length (fun i _ => St.mk [.cell (.ro InsT l), .cell (.fn 76 [0]), .dead, .dead, .dead, .dead, .dead, I l.length, I i, .dead, .dead, .dead, .dead, .dead, .dead, .dead, .dead, .dead, .dead] [some (.var [iv .i64 op])])
      (fun k _ => idxG (opP op) (l.drop k) k = idxI l op) () (Le.mk [] [0] rfl rfl rfl ?_) rfl fun k _ hk hi => ?_
    rotate_right
    repeat' first
      | (refine Go.mk ?_; conv => whnf)
      | refine Need.go ?_ ?_
      | refine NilG.go (fun _ => ?_) (fun _ => ?_)
      | refine Br.dec (fun _ => ?_) (fun _ => ?_)
      | refine Br.go (fun _ => ?_) (fun _ => ?_)
      | refine draw_go hT hP mixed ?_
      | refine round_go hT hP ?_
    all_goals (try (dsimp only [gi, Den] at *; omega))
    · rename_i g1 g2
      have hlt : k < l.length := by omega
      have hp : opP op (l.getD k (dflt InsT)) = true := beq_iff_eq.2 g2
      refine .mk [] [0] _ rfl rfl rfl rfl rfl rfl (imm_int ?_)
      rw [insDrop hlt, idxG, if_pos hp] at hi
      exact hi
    · rename_i g1 g2
      have hlt : k < l.length := by omega
      have hp : ¬ opP op (l.getD k (dflt InsT)) = true := fun h => g2 (beq_iff_eq.1 h)
      apply Exists.intro
      apply Exists.intro ()
      refine And.intro (And.intro ?lt162 (And.intro ?ei162 ?inv162)) (Le.mk [] [0] rfl rfl ?hh162 ?ht162)
      case hh162 => exact rfl
      case ht162 => repeat' first | exact trivial | exact ⟨rfl, rfl⟩ | refine And.intro ?_ ?_
      case lt162 => omega
      case ei162 => exact up_i (by omega)
      rw [insDrop hlt, idxG, if_neg hp] at hi
      exact hi
    · rename_i g1
      refine .mk [] [0] _ rfl rfl rfl rfl rfl rfl (imm_int ?_)
      rw [List.drop_of_length_le (by omega)] at hi
      exact hi
    · repeat' first | exact trivial | exact ⟨rfl, rfl⟩ | refine And.intro ?_ ?_

-- copies

def gCyc : Sig := ⟨false, .sl CycT⟩
def gStp : Sig := ⟨false, .sl StepT⟩
def cloneCS : PSpec := ⟨[⟨false, .sl CycT⟩], fun (l, _) => (some (List.length l * 48 ≤ 140737488351232), .cell (.own 0), [.arr CycT l])⟩
theorem cloneC_ok : GoodF Try.prog 94 cloneCS.spec := by
  have hT := tab_ok (fs := []) tree_ok
  have hP : SpecsOk Try.prog (tab tree []) := specs_nil
  refine cloneCS.good (fn := Try.f94) hT hP Try.func94 (by kernel_rfl) rfl fun (l : List Cyc) hq => ?_
  have hl : l.length * 48 ≤ 140737488351232 := hq _ rfl
  clear hq
  repeat' first
    | (refine Go.mk ?_; conv => whnf)
    | refine Need.go ?_ ?_
    | refine NilG.go (fun _ => ?_) (fun _ => ?_)
    | refine Br.dec (fun _ => ?_) (fun _ => ?_)
    | refine Br.go (fun _ => ?_) (fun _ => ?_)
    | refine draw_go hT hP mixed ?_
    | refine round_go hT hP ?_
  all_goals first
    | exact of_decide_eq_true rfl
    | skip
  · rename_i h
    obtain rfl : l = [] := List.eq_nil_of_length_eq_zero h
    exact .le (Le.nil 2 CycT rfl) (.mk [] [0] _ rfl rfl rfl rfl rfl rfl rfl)
  · show (0 + l.length) * 48 ≤ 140737488355328
    omega
  · exact .mk [] [1] _ rfl rfl rfl rfl rfl rfl rfl
def cloneSS : PSpec := ⟨[⟨false, .sl StepT⟩], fun (l, _) => (some (List.length l * 32 ≤ 140737488351232), .cell (.own 0), [.arr StepT l])⟩
theorem cloneS_ok : GoodF Try.prog 95 cloneSS.spec := by
  have hT := tab_ok (fs := []) tree_ok
  have hP : SpecsOk Try.prog (tab tree []) := specs_nil
  refine cloneSS.good (fn := Try.f95) hT hP Try.func95 (by kernel_rfl) rfl fun (l : List Stp) hq => ?_
  have hl : l.length * 32 ≤ 140737488351232 := hq _ rfl
  clear hq
  repeat' first
    | (refine Go.mk ?_; conv => whnf)
    | refine Need.go ?_ ?_
    | refine NilG.go (fun _ => ?_) (fun _ => ?_)
    | refine Br.dec (fun _ => ?_) (fun _ => ?_)
    | refine Br.go (fun _ => ?_) (fun _ => ?_)
    | refine draw_go hT hP mixed ?_
    | refine round_go hT hP ?_
  all_goals first
    | exact of_decide_eq_true rfl
    | skip
  · rename_i h
    obtain rfl : l = [] := List.eq_nil_of_length_eq_zero h
    exact .le (Le.nil 2 StepT rfl) (.mk [] [0] _ rfl rfl rfl rfl rfl rfl rfl)
  · show (0 + l.length) * 32 ≤ 140737488355328
    omega
  · exact .mk [] [1] _ rfl rfl rfl rfl rfl rfl rfl

def okCyc (l : List Cyc) : Prop := l.length * 48 ≤ 140737488351232 ∧ ∀ x ∈ l, x.2.2.2.length * 32 ≤ 140737488351232
theorem cyc_mem {l : List Cyc} {k : Nat} (h : k < l.length) : l.getD k (dflt CycT) ∈ l := by
  rw [List.getD_eq_getElem?_getD, List.getElem?_eq_getElem h]
  exact List.getElem_mem h
theorem setD_self {α : Type} (l : List α) (n : Nat) (d : α) : l.set n (l.getD n d) = l := by
  apply List.ext_getElem?
  intro i
  rw [List.getElem?_set, List.getD_eq_getElem?_getD]
  by_cases h : n = i
  · subst h; by_cases h2 : n < l.length <;> simp [h2]
  · simp [h]
def copiesS : PSpec := ⟨[⟨false, .sl CycT⟩], fun (l, _) => (some (okCyc l), .cell (.own 0), [.arr CycT l])⟩
theorem copies_ok : GoodF Try.prog 69 copiesS.spec := by
  have hT := tab_ok (fs := [(94, cloneCS.spec), (95, cloneSS.spec)]) tree_ok
  have hP : SpecsOk Try.prog (tab tree [(94, cloneCS.spec), (95, cloneSS.spec)]) := specs_cons cloneC_ok (specs_cons cloneS_ok specs_nil)
  refine copiesS.good (fn := Try.f69) hT hP Try.func69 (by kernel_rfl) rfl fun (l : List Cyc) hq => ?_
  obtain ⟨h1, h2⟩ : okCyc l := hq _ rfl
  clear hq
  repeat' first
    | (refine Go.mk ?_; conv => whnf)
    | refine Need.go ?_ ?_
    | refine NilG.go (fun _ => ?_) (fun _ => ?_)
    | refine Br.dec (fun _ => ?_) (fun _ => ?_)
    | refine Br.go (fun _ => ?_) (fun _ => ?_)
    | refine draw_go hT hP mixed ?_
    | refine round_go hT hP ?_
  · exact h1
  refine up_go hT hP (A := Unit) l.length (fun i _ => St.mk [.dead, .dead, .dead, .cell (.own 0), .dead, .dead, .dead, .dead, I l.length, I i, .dead, .dead, .dead, .dead, .dead, .dead, .dead, .dead, .dead, .dead, .dead, .dead, .dead, .dead] [some (.arr CycT l)])
    (fun k _ => True) () (Le.mk [] [0] rfl rfl ?_ ?_) trivial fun k _ hk _ => ?_
  · exact rfl
  · repeat' first | exact trivial | exact ⟨rfl, rfl⟩ | refine And.intro ?_ ?_
  repeat' first
    | (refine Go.mk ?_; conv => whnf)
    | refine Need.go ?_ ?_
    | refine NilG.go (fun _ => ?_) (fun _ => ?_)
    | refine Br.dec (fun _ => ?_) (fun _ => ?_)
    | refine Br.go (fun _ => ?_) (fun _ => ?_)
    | refine draw_go hT hP mixed ?_
    | refine round_go hT hP ?_
  all_goals first
    | exact of_decide_eq_true rfl
    | skip
  all_goals first
    | exact .mk [] [0] _ rfl rfl rfl rfl rfl rfl rfl
    | (rename_i g1
       have g1 : (k : Int) < (l.length : Int) := g1
       first
         | (show 0 ≤ (k : Int) ∧ (k : Int) < (l.length : Int)
            omega)
         | (show k < l.length
            omega)
         | exact h2 _ (cyc_mem (k := k) (by omega)))
    | skip
  · rename_i g1
    have g1 : (k : Int) < (l.length : Int) := g1
    apply Exists.intro
    apply Exists.intro ()
    refine And.intro (And.intro ?lt (And.intro ?ei trivial)) (Le.mk [] [0] rfl rfl ?hh ?ht)
    case hh => exact congrArg (fun z => [some (Blk.arr CycT z)]) (setD_self l k (dflt CycT))
    case ht => repeat' first | exact trivial | exact ⟨rfl, rfl⟩ | refine And.intro ?_ ?_
    case lt => omega
    case ei => exact up_i (by omega)

abbrev gIns : Sig := ⟨true, InsT⟩
theorem agg_ins {o m : Int} {s : ByteArray} {l l' : List Cyc} (h : l = l') : AV.agg [iv .i64 o, .imm (.string s), iv .i64 m, .ro CycT l] = AV.agg [iv .i64 o, .imm (.string s), iv .i64 m, .ro CycT l'] := by rw [h]
def tcopyS : PSpec := ⟨[gIns], fun (x, _) => (some (okCyc x.2.2.2), .agg [iv .i64 x.1, .imm (.string x.2.1), iv .i64 x.2.2.1, .ro CycT x.2.2.2], [])⟩
theorem tcopy_ok : GoodF Try.prog 30 tcopyS.spec := by
  have hT := tab_ok (fs := [(69, copiesS.spec)]) tree_ok
  have hP : SpecsOk Try.prog (tab tree [(69, copiesS.spec)]) := specs_cons copies_ok specs_nil
  refine tcopyS.good (fn := Try.f30) hT hP Try.func30 (by kernel_rfl) rfl fun (x : Ins) hq => ?_
  obtain ⟨o, s, m, l⟩ := x
  have hl : okCyc l := hq _ rfl
  clear hq
  repeat' first
    | (refine Go.mk ?_; conv => whnf)
    | refine Need.go ?_ ?_
    | refine NilG.go (fun _ => ?_) (fun _ => ?_)
    | refine Br.dec (fun _ => ?_) (fun _ => ?_)
    | refine Br.go (fun _ => ?_) (fun _ => ?_)
    | refine draw_go hT hP mixed ?_
    | refine round_go hT hP ?_
  · exact hl
  · exact .mk [2] [] _ rfl rfl rfl rfl rfl rfl rfl
def cpuOk (c : Cpu) : Prop := c.2.1.length * 56 ≤ 140737488351232 ∧ ∀ x ∈ c.2.1, okCyc x.2.2.2
theorem ins_mem {l : List Ins} {k : Nat} (h : k < l.length) : l.getD k (dflt InsT) ∈ l := by
  rw [List.getD_eq_getElem?_getD, List.getElem?_eq_getElem h]
  exact List.getElem_mem h
def hasI (c : Cpu) (op : Int) : Bool := decide (0 ≤ idxI c.2.1 op)
def findI (c : Cpu) (op : Int) : Ins := if hasI c op = true then c.2.1.getD (idxI c.2.1 op).toNat (dflt InsT) else (0, ByteArray.empty, 0, [])
theorem tup_ins {x y : Ins} {b b' : Bool} (h : x = y) (h2 : b = b') : AV.tup [.agg [iv .i64 x.1, .imm (.string x.2.1), iv .i64 x.2.2.1, .ro CycT x.2.2.2], .c (bv b)] = AV.tup [.agg [iv .i64 y.1, .imm (.string y.2.1), iv .i64 y.2.2.1, .ro CycT y.2.2.2], .c (bv b')] := by rw [h, h2]
def tfindS : PSpec := ⟨[gCpu, gi], fun (c, op, _) => (some (cpuOk c), .tup [.agg [iv .i64 (findI c op).1, .imm (.string (findI c op).2.1), iv .i64 (findI c op).2.2.1, .ro CycT (findI c op).2.2.2], .c (bv (hasI c op))], [])⟩
theorem tfind_ok : GoodF Try.prog 27 tfindS.spec := by
  have hT := tab_ok (fs := [(30, tcopyS.spec), (63, idxWS.spec)]) tree_ok
  have hP : SpecsOk Try.prog (tab tree [(30, tcopyS.spec), (63, idxWS.spec)]) := specs_cons tcopy_ok (specs_cons idx_ok specs_nil)
  refine tfindS.good (fn := Try.f27) hT hP Try.func27 (by kernel_rfl) rfl fun (c : Cpu) (op : Int) hq => ?_
  obtain ⟨cn, ci, cr, cq, cm⟩ := c
  obtain ⟨h1, h2⟩ : cpuOk (cn, ci, cr, cq, cm) := hq _ rfl
  have h1 : ci.length * 56 ≤ 140737488351232 := h1
  have h2 : ∀ x ∈ ci, okCyc x.2.2.2 := h2
  clear hq
  repeat' first
    | (refine Go.mk ?_; conv => whnf)
    | refine Need.go ?_ ?_
    | refine NilG.go (fun _ => ?_) (fun _ => ?_)
    | refine Br.dec (fun _ => ?_) (fun _ => ?_)
    | refine Br.go (fun _ => ?_) (fun _ => ?_)
    | refine draw_go hT hP mixed ?_
    | refine round_go hT hP ?_
  all_goals first
    | exact of_decide_eq_true rfl
    | skip
  have hi := idxI_in ci op
  all_goals first
    | exact ⟨.inl rfl, by show ci.length ≤ _; omega⟩
    | (rename_i g1
       have g1 : ¬ idxI ci op < 0 := g1
       first
         | (show 0 ≤ idxI ci op ∧ idxI ci op < (ci.length : Int)
            have hi := idxI_in ci op
            omega)
         | (have hi := idxI_in ci op
            exact h2 _ (ins_mem (k := (idxI ci op).toNat) (by omega))))
    | skip
  · rename_i g1
    have g1 : idxI ci op < 0 := g1
    have hb : hasI (cn, ci, cr, cq, cm) op = false := decide_eq_false (by show ¬ 0 ≤ idxI ci op; omega)
    refine .le (Le.nilroH 2 [iv .i64 0, .imm (.string ByteArray.empty), iv .i64 0, .imm (.slice none 0 0)] [iv .i64 0, .imm (.string ByteArray.empty), iv .i64 0, .ro CycT []] rfl ⟨.inl rfl, .inl rfl, .inl rfl, .inr ⟨rfl, _, rfl⟩, trivial⟩)
      (.mk [] [] _ rfl rfl rfl rfl rfl rfl (tup_ins (x := (0, ByteArray.empty, 0, [])) ?_ ?_))
    · unfold findI; rw [hb]; rfl
    · exact hb.symm
  · rename_i g1
    have g1 : ¬ idxI ci op < 0 := g1
    have hb : hasI (cn, ci, cr, cq, cm) op = true := decide_eq_true (by show 0 ≤ idxI ci op; omega)
    refine .mk [] [] _ rfl rfl rfl rfl rfl rfl (tup_ins (x := ci.getD (idxI ci op).toNat (dflt InsT)) ?_ ?_)
    · unfold findI; rw [hb]; rfl
    · exact hb.symm


def runS : List Stp → List Int → List Int × Bool
  | [], r => (r, false)
  | s :: rest, r => if doE s r = true then (doR s r, true) else runS rest (doR s r)
theorem doR_len (s : Stp) (r : List Int) : (doR s r).length = 9 := by unfold doR; split <;> rfl
theorem stpDrop {l : List Stp} {k : Nat} (h : k < l.length) : l.drop k = l.getD k (dflt StepT) :: l.drop (k + 1) := by
  rw [List.drop_eq_getElem_cons h, List.getD_eq_getElem?_getD, List.getElem?_eq_getElem h]; rfl
def tellR (x : Cyc) (r : List Int) (D : Int) : List Int := if x.1 = 1 ∧ 0 ≤ x.2.2.1 ∧ x.2.2.1 < 9 then r.set x.2.2.1.toNat D else r
def tellF (c : Cpu) (k : Kor) (data : Int) : Kor :=
  if k.2.1 = -1 then (fitR k.1, if hasI c (data % 256) = true then (if 0 < (findI c (data % 256)).2.2.2.length then data % 256 else -1) else 259, 0, k.2.2.2)
  else if canB c k.2.1 k.2.2.1 = true then
    (if (runS (doF c k.2.1 k.2.2.1).2.2.2 (tellR (doF c k.2.1 k.2.2.1) (fitR k.1) (data % 256))).2 = true ∨ k.2.2.1 + 1 ≥ (cycF c k.2.1).length
     then ((runS (doF c k.2.1 k.2.2.1).2.2.2 (tellR (doF c k.2.1 k.2.2.1) (fitR k.1) (data % 256))).1, -1, 0, k.2.2.2)
     else ((runS (doF c k.2.1 k.2.2.1).2.2.2 (tellR (doF c k.2.1 k.2.2.1) (fitR k.1) (data % 256))).1, k.2.1, k.2.2.1 + 1, k.2.2.2))
  else if k.2.1 = 259 then (fitR k.1, 259, k.2.2.1, k.2.2.2) else (fitR k.1, -1, 0, k.2.2.2)
def tellP (c : Cpu) (k : Kor) : Prop := cpuOk c ∧ (okCyc c.2.2.1 ∧ okCyc c.2.2.2.1 ∧ okCyc c.2.2.2.2) ∧ k.1.length = 9
theorem okCyc_F {c : Cpu} (h : cpuOk c) (h2 : okCyc c.2.2.1 ∧ okCyc c.2.2.2.1 ∧ okCyc c.2.2.2.2) (op : Int) : okCyc (cycF c op) := by
  unfold cycF
  split
  · exact h2.2.1
  · split
    · exact h2.2.2
    · split
      · exact h2.1
      · split
        · rename_i x hx
          exact h.2 x (List.mem_of_find?_eq_some hx)
        · exact ⟨by simp, fun x hx => by cases hx⟩
theorem cycD_mem {l : List Cyc} {k : Nat} (h : k < l.length) : l.getD k cycD ∈ l := by
  rw [List.getD_eq_getElem?_getD, List.getElem?_eq_getElem h]
  exact List.getElem_mem h
theorem doF_len {c : Cpu} {op at_ : Int} (h : okCyc (cycF c op)) : (doF c op at_).2.2.2.length * 32 ≤ 140737488351232 := by
  unfold doF
  by_cases hb : canB c op at_ = true
  · rw [if_pos hb]
    have : 0 ≤ at_ ∧ at_ < (cycF c op).length := by
      unfold canB at hb
      simp at hb
      exact hb.2
    exact h.2 _ (cycD_mem (by omega))
  · rw [if_neg hb]; simp [cycD]
theorem agg_kor {x y : Kor} (h : x = y) : AV.agg [.run .i64 9 x.1, iv .i64 x.2.1, iv .i64 x.2.2.1, bv x.2.2.2] = AV.agg [.run .i64 9 y.1, iv .i64 y.2.1, iv .i64 y.2.2.1, bv y.2.2.2] := by rw [h]
def tellS : PSpec := ⟨[gCpu, gK, gi], fun (c, k, d, _) => (some (tellP c k), .agg [.run .i64 9 (tellF c k d).1, iv .i64 (tellF c k d).2.1, iv .i64 (tellF c k d).2.2.1, bv (tellF c k d).2.2.2], [])⟩
def endedS : PSpec := ⟨[gCpu, gK], fun (c, k, _) => (none, .agg [.run .i64 9 k.1, iv .i64 (if k.2.1 = 259 then 259 else -1), iv .i64 (if k.2.1 = 259 then k.2.2.1 else 0), bv k.2.2.2], [])⟩
theorem ended_ok : GoodF Try.prog 105 endedS.spec := by
  have hT := tab_ok (fs := []) tree_ok
  have hP : SpecsOk Try.prog (tab tree []) := specs_nil
  refine endedS.good (fn := Try.f105) hT hP Try.func105 (by kernel_rfl) rfl fun (c : Cpu) (k : Kor) hq => ?_
  obtain ⟨r, op, at_, nmi⟩ := k
  repeat' first
    | (refine Go.mk ?_; conv => whnf)
    | refine Need.go ?_ ?_
    | refine NilG.go (fun _ => ?_) (fun _ => ?_)
    | refine Br.dec (fun _ => ?_) (fun _ => ?_)
    | refine Br.go (fun _ => ?_) (fun _ => ?_)
    | refine draw_go hT hP mixed ?_
    | refine round_go hT hP ?_
  all_goals first
    | exact of_decide_eq_true rfl
    | skip
  all_goals (refine .mk [] [] _ rfl rfl rfl rfl rfl rfl (aggK (x := (r, if op = 259 then 259 else -1, if op = 259 then at_ else 0, nmi)) ?_))
  all_goals (simp_all)
theorem tellF_idle {c : Cpu} {r : List Int} {op at_ d : Int} {nmi : Bool} (h : op = -1) : tellF c (r, op, at_, nmi) d = (fitR r, if hasI c (d % 256) = true then (if 0 < (findI c (d % 256)).2.2.2.length then d % 256 else -1) else 259, 0, nmi) := by
  unfold tellF; rw [if_pos h]
theorem tellF_ended {c : Cpu} {r : List Int} {op at_ d : Int} {nmi : Bool} (h : ¬ op = -1) (hb : canB c op at_ = false) : tellF c (r, op, at_, nmi) d = (fitR r, if op = 259 then 259 else -1, if op = 259 then at_ else 0, nmi) := by
  unfold tellF
  rw [if_neg h, if_neg (by show ¬ canB c op at_ = true; rw [hb]; decide)]
  by_cases h9 : op = 259
  · rw [if_pos h9, if_pos h9, if_pos h9]
  · rw [if_neg h9, if_neg h9, if_neg h9]
theorem tellF_run {c : Cpu} {r z : List Int} {op at_ d : Int} {nmi e : Bool} {x : Cyc} (h : ¬ op = -1) (hb : canB c op at_ = true) (hx : doF c op at_ = x) (hz : runS x.2.2.2 (tellR x (fitR r) (d % 256)) = (z, e)) :
    tellF c (r, op, at_, nmi) d = if e = true ∨ at_ + 1 ≥ (cycF c op).length then (z, -1, 0, nmi) else (z, op, at_ + 1, nmi) := by
  unfold tellF
  rw [if_neg h, if_pos (show canB c op at_ = true from hb)]
  show (if (runS (doF c op at_).2.2.2 (tellR (doF c op at_) (fitR r) (d % 256))).2 = true ∨ _ then _ else _) = _
  rw [hx, hz]
theorem canB_in {c : Cpu} {op at_ : Int} (h : canB c op at_ = true) : 0 ≤ at_ ∧ at_ < (cycF c op).length := by
  unfold canB at h
  simp at h
  exact h.2
set_option maxHeartbeats 8000000 in
theorem tell_ok : GoodF Try.prog 80 tellS.spec := by
  have hT := tab_ok (fs := [(100, fitS.spec), (79, lowM.spec), (27, tfindS.spec), (103, doingS.spec), (105, endedS.spec), (106, doS.spec), (107, cycS.spec)]) tree_ok
  have hP : SpecsOk Try.prog (tab tree [(100, fitS.spec), (79, lowM.spec), (27, tfindS.spec), (103, doingS.spec), (105, endedS.spec), (106, doS.spec), (107, cycS.spec)]) := specs_cons aFit_ok (specs_cons lowM_ok (specs_cons tfind_ok (specs_cons doing_ok (specs_cons ended_ok (specs_cons do_ok (specs_cons cyc_ok specs_nil))))))
  refine tellS.good (fn := Try.f80) hT hP Try.func80 (by kernel_rfl) rfl fun (c : Cpu) (k : Kor) (data : Int) hq => ?_
  obtain ⟨cn, ci, cr, cq, cm⟩ := c
  obtain ⟨r, op, at_, nmi⟩ := k
  obtain ⟨h1, h2, h3⟩ : tellP (cn, ci, cr, cq, cm) (r, op, at_, nmi) := hq _ rfl
  clear hq
  have hC := okCyc_F h1 h2 op
  have hS := doF_len (at_ := at_) hC
  have h1' : ci.length * 56 ≤ 140737488351232 := h1.1
  repeat' first
    | (refine Go.mk ?_; conv => whnf)
    | refine Need.go ?_ ?_
    | refine NilG.go (fun _ => ?_) (fun _ => ?_)
    | refine Br.dec (fun _ => ?_) (fun _ => ?_)
    | refine Br.go (fun _ => ?_) (fun _ => ?_)
    | refine draw_go hT hP mixed ?_
    | refine round_go hT hP ?_
  all_goals first
    | exact of_decide_eq_true rfl
    | exact h3
    | exact h1
    | skip
  all_goals (try simp only [castL_eq] at *)
  all_goals (try dsimp only at *)
  all_goals (have h8 : data % 2 ^ (Int.toNat 8) = data % 256 := rfl)
  all_goals (try simp only [h8] at *)
  all_goals clear h8
  all_goals first
    | (show ci.length ≤ 4611686018427387904
       omega)
    | (show 0 ≤ (doF (cn, ci, cr, cq, cm) op at_).2.2.1 ∧ (doF (cn, ci, cr, cq, cm) op at_).2.2.1 < ((9 : Nat) : Int)
       omega)
    | (show (doF (cn, ci, cr, cq, cm) op at_).2.2.1.toNat < 9
       omega)
    | (refine .mk [] [] _ rfl rfl rfl rfl rfl rfl (aggK ?_)
       rw [tellF_idle (by assumption)]
       simp_all
       done)
    | (refine .mk [] [] _ rfl rfl rfl rfl rfl rfl (aggK ?_)
       rw [tellF_ended (by assumption) (by simp_all)]
       done)
    | skip
  all_goals
    have hb : canB (cn, ci, cr, cq, cm) op at_ = true := by simp_all
    have hin := canB_in hb
    have hCl : (cycF (cn, ci, cr, cq, cm) op).length * 48 ≤ 140737488351232 := hC.1
    have ewa : IntKind.i64.wrap (at_ + 1) = at_ + 1 := w64 (by omega) (by omega)
  all_goals first
    | (have hR : tellR (doF (cn, ci, cr, cq, cm) op at_) (fitR r) (data % 256) = ((fitR r).set (doF (cn, ci, cr, cq, cm) op at_).2.2.1.toNat (data % 256)) := if_pos ⟨by assumption, by omega, by omega⟩
       refine up_go hT hP (doF (cn, ci, cr, cq, cm) op at_).2.2.2.length (fun i (z : List Int) => St.mk [.dead, .dead, .dead, .cell (.ptr 0 0), .cell (.ptr 1 0), .dead, .cell (.ptr 2 0), .dead, .dead, .dead, .dead, .dead, .dead, .dead, .dead, .dead, .dead, .dead, .dead, .dead, .dead, .dead, .dead, .dead, .dead, .dead, .dead, .dead, .dead, .dead, .dead, .dead, .dead, .dead, .dead, .dead, .dead, .dead, .dead, .dead, .dead, .dead, .dead, .dead, .dead, .dead, .dead, .dead, .dead, .dead, .dead, .dead, .dead, .dead, .dead, .dead, .dead, .dead, .dead, .dead, .dead, .dead, .dead, .dead, .dead, .dead, .dead, .dead, .dead, .dead, .dead, .dead, .dead, .dead, .dead, .dead, .dead, .cell (.ro StepT (doF (cn, ci, cr, cq, cm) op at_).2.2.2), I ((doF (cn, ci, cr, cq, cm) op at_).2.2.2.length : Int), I i, .dead, .dead, .dead, .dead, .dead, .dead, .dead, .dead, .dead, .dead, .dead, .dead, .dead, .dead, .dead, .dead, .dead, .dead, .dead, .dead, .dead, .dead, .dead, .dead, .dead, .dead, .dead, .dead] [some (.var [.imm (.string cn), .ro InsT ci, .ro CycT cr, .ro CycT cq, .ro CycT cm]), some (.var [.run .i64 9 z, iv .i64 op, iv .i64 (IntKind.i64.wrap (at_ + 1)), bv nmi]), some (.var [.run .i64 9 [0, 0, 0, 0, 0, 0, 0, 0, 0], iv .i64 0, iv .i64 0, bv false])]) (fun j z => runS ((doF (cn, ci, cr, cq, cm) op at_).2.2.2.drop j) z = runS (doF (cn, ci, cr, cq, cm) op at_).2.2.2 (tellR (doF (cn, ci, cr, cq, cm) op at_) (fitR r) (data % 256)) ∧ z.length = 9) ((fitR r).set (doF (cn, ci, cr, cq, cm) op at_).2.2.1.toNat (data % 256)) (Le.mk [] [0, 1, 2] rfl rfl (by exact rfl) (by repeat' first | exact trivial | exact ⟨rfl, rfl⟩ | refine And.intro ?_ ?_)) ⟨by rw [hR]; rfl, by rw [List.length_set]; rfl⟩ fun j z hj hi => ?_)
    | (have hR : tellR (doF (cn, ci, cr, cq, cm) op at_) (fitR r) (data % 256) = fitR r := if_neg (fun ⟨a, b, c⟩ => by omega)
       refine up_go hT hP (doF (cn, ci, cr, cq, cm) op at_).2.2.2.length (fun i (z : List Int) => St.mk [.dead, .dead, .dead, .cell (.ptr 0 0), .cell (.ptr 1 0), .dead, .cell (.ptr 2 0), .dead, .dead, .dead, .dead, .dead, .dead, .dead, .dead, .dead, .dead, .dead, .dead, .dead, .dead, .dead, .dead, .dead, .dead, .dead, .dead, .dead, .dead, .dead, .dead, .dead, .dead, .dead, .dead, .dead, .dead, .dead, .dead, .dead, .dead, .dead, .dead, .dead, .dead, .dead, .dead, .dead, .dead, .dead, .dead, .dead, .dead, .dead, .dead, .dead, .dead, .dead, .dead, .dead, .dead, .dead, .dead, .dead, .dead, .dead, .dead, .dead, .dead, .dead, .dead, .dead, .dead, .dead, .dead, .dead, .dead, .cell (.ro StepT (doF (cn, ci, cr, cq, cm) op at_).2.2.2), I ((doF (cn, ci, cr, cq, cm) op at_).2.2.2.length : Int), I i, .dead, .dead, .dead, .dead, .dead, .dead, .dead, .dead, .dead, .dead, .dead, .dead, .dead, .dead, .dead, .dead, .dead, .dead, .dead, .dead, .dead, .dead, .dead, .dead, .dead, .dead, .dead, .dead] [some (.var [.imm (.string cn), .ro InsT ci, .ro CycT cr, .ro CycT cq, .ro CycT cm]), some (.var [.run .i64 9 z, iv .i64 op, iv .i64 (IntKind.i64.wrap (at_ + 1)), bv nmi]), some (.var [.run .i64 9 [0, 0, 0, 0, 0, 0, 0, 0, 0], iv .i64 0, iv .i64 0, bv false])]) (fun j z => runS ((doF (cn, ci, cr, cq, cm) op at_).2.2.2.drop j) z = runS (doF (cn, ci, cr, cq, cm) op at_).2.2.2 (tellR (doF (cn, ci, cr, cq, cm) op at_) (fitR r) (data % 256)) ∧ z.length = 9) (fitR r) (Le.mk [] [0, 1, 2] rfl rfl (by exact rfl) (by repeat' first | exact trivial | exact ⟨rfl, rfl⟩ | refine And.intro ?_ ?_)) ⟨by rw [hR]; rfl, rfl⟩ fun j z hj hi => ?_)
    | skip
  all_goals
    obtain ⟨hi, hz⟩ := hi
    repeat' first
      | (refine Go.mk ?_; conv => whnf)
      | refine Need.go ?_ ?_
      | refine NilG.go (fun _ => ?_) (fun _ => ?_)
      | refine Br.dec (fun _ => ?_) (fun _ => ?_)
      | refine Br.go (fun _ => ?_) (fun _ => ?_)
      | refine draw_go hT hP mixed ?_
      | refine round_go hT hP ?_
  all_goals (try simp only [castL_eq] at *)
  all_goals (try dsimp only at *)
  all_goals first
    | exact of_decide_eq_true rfl
    | exact hz
    | (show ci.length ≤ 4611686018427387904
       omega)
    | (show 0 ≤ (j : Int) ∧ (j : Int) < ((doF (cn, ci, cr, cq, cm) op at_).2.2.2.length : Int)
       omega)
    | (show j < (doF (cn, ci, cr, cq, cm) op at_).2.2.2.length
       omega)
    | skip
  all_goals clear hT hP
  all_goals first
    | (rename_i g1 h
       have g1 : (j : Int) < ((doF (cn, ci, cr, cq, cm) op at_).2.2.2.length : Int) := g1
       have he : doE ((doF (cn, ci, cr, cq, cm) op at_).2.2.2.getD j (dflt StepT)) z = true := h
       have hrun : runS (doF (cn, ci, cr, cq, cm) op at_).2.2.2 (tellR (doF (cn, ci, cr, cq, cm) op at_) (fitR r) (data % 256)) = (doR ((doF (cn, ci, cr, cq, cm) op at_).2.2.2.getD j (dflt StepT)) z, true) := by
         rw [← hi, stpDrop (by omega), runS, if_pos he]
       refine .mk [] [] _ rfl rfl rfl rfl rfl rfl (aggK ?_)
       rw [tellF_run (by assumption) hb rfl hrun, if_pos (.inl rfl)]; rfl)
    | (rename_i g1 h
       have g1 : (j : Int) < ((doF (cn, ci, cr, cq, cm) op at_).2.2.2.length : Int) := g1
       have he : ¬ doE ((doF (cn, ci, cr, cq, cm) op at_).2.2.2.getD j (dflt StepT)) z = true := fun e => by
         have h : doE ((doF (cn, ci, cr, cq, cm) op at_).2.2.2.getD j (dflt StepT)) z = false := h
         rw [h] at e; cases e
       apply Exists.intro
       apply Exists.intro (doR ((doF (cn, ci, cr, cq, cm) op at_).2.2.2.getD j (dflt StepT)) z)
       refine And.intro (And.intro ?lt (And.intro ?ei ?inv)) (Le.mk [] [0, 1, 2] rfl rfl ?hh ?ht)
       case hh => exact rfl
       case ht => repeat' first | exact trivial | exact ⟨rfl, rfl⟩ | refine And.intro ?_ ?_
       case lt => omega
       case ei => exact up_i (by omega)
       case inv =>
         rw [stpDrop (by omega), runS, if_neg he] at hi
         exact ⟨hi, doR_len _ _⟩)
    | (rename_i g1 h
       have g1 : ¬ (j : Int) < ((doF (cn, ci, cr, cq, cm) op at_).2.2.2.length : Int) := g1
       have h : IntKind.i64.wrap (at_ + 1) ≥ ((cycF (cn, ci, cr, cq, cm) op).length : Int) := h
       rw [ewa] at h
       have hrun : runS (doF (cn, ci, cr, cq, cm) op at_).2.2.2 (tellR (doF (cn, ci, cr, cq, cm) op at_) (fitR r) (data % 256)) = (z, false) := by
         rw [← hi, List.drop_of_length_le (by omega)]; rfl
       refine .mk [] [] _ rfl rfl rfl rfl rfl rfl (aggK ?_)
       rw [tellF_run (by assumption) hb rfl hrun, if_pos (.inr h)])
    | (rename_i g1 h
       have g1 : ¬ (j : Int) < ((doF (cn, ci, cr, cq, cm) op at_).2.2.2.length : Int) := g1
       have h : ¬ IntKind.i64.wrap (at_ + 1) ≥ ((cycF (cn, ci, cr, cq, cm) op).length : Int) := h
       have hrun : runS (doF (cn, ci, cr, cq, cm) op at_).2.2.2 (tellR (doF (cn, ci, cr, cq, cm) op at_) (fitR r) (data % 256)) = (z, false) := by
         rw [← hi, List.drop_of_length_le (by omega)]; rfl
       refine .mk [] [] _ rfl rfl rfl rfl rfl rfl (aggK ?_)
       rw [tellF_run (by assumption) hb rfl hrun, ewa, if_neg (fun e => e.elim (fun e => by cases e) (fun e => h (by rw [ewa]; exact e)))])
    | skip
  all_goals trace_state

end Go.Proofs.Ytanaaecfghmmaaa

/- Tables of instructions compared: steps, cycles. -/
namespace Go.Proofs.Ytanaaecfghmmaaa
open Go.Fw
set_option linter.unusedVariables false
set_option linter.unusedSimpArgs false
set_option linter.constructorNameAsVariable false
set_option maxRecDepth 100000

theorem eq_take {α : Type} {l m : List α} (h : l.length = m.length) {k : Nat} (hk : ¬ k < l.length) (h2 : l.take k = m.take k) : l = m := by
  rwa [List.take_of_length_le (by omega), List.take_of_length_le (by omega)] at h2
theorem take_eq {α : Type} {l m : List α} {k : Nat} (d : α) (h : k < l.length) (h3 : k < m.length) (h2 : l.take k = m.take k) (he : l.getD k d = m.getD k d) : l.take (k + 1) = m.take (k + 1) := by
  rw [List.getD_eq_getElem?_getD, List.getD_eq_getElem?_getD, List.getElem?_eq_getElem h, List.getElem?_eq_getElem h3] at he
  rw [List.take_add_one, List.take_add_one, h2, List.getElem?_eq_getElem h, List.getElem?_eq_getElem h3]
  have he : l[k] = m[k] := he
  rw [he]
theorem ne_at {α : Type} {l m : List α} {k : Nat} (d : α) (he : l.getD k d ≠ m.getD k d) : l ≠ m := fun e => he (by rw [e])
theorem stp_eq {x y : Stp} : denEq StepT x y = true ↔ x = y :=
  ⟨fun h => denEq_eq (u := StepT) rfl h, fun h => by subst h; simp [denEq]⟩
def eqStpS : PSpec := ⟨[⟨false, .sl StepT⟩, ⟨false, .sl StepT⟩], fun (l, m, _) => (some (List.length l ≤ 4611686018427387904), .cell (bv (decide ((l : List Stp) = m))), [])⟩
theorem eqStp_ok : GoodF Try.prog 68 eqStpS.spec := by
  have hT := tab_ok (fs := []) tree_ok
  have hP : SpecsOk Try.prog (tab tree []) := specs_nil
  refine eqStpS.good (fn := Try.f68) hT hP Try.func68 (by kernel_rfl) rfl fun (l m : List Stp) hq => ?_
  have hl : l.length ≤ 4611686018427387904 := hq _ rfl
  clear hq
  repeat' first
    | (refine Go.mk ?_; conv => whnf)
    | refine Need.go ?_ ?_
    | refine NilG.go (fun _ => ?_) (fun _ => ?_)
    | refine Br.dec (fun _ => ?_) (fun _ => ?_)
    | refine Br.go (fun _ => ?_) (fun _ => ?_)
    | refine draw_go hT hP mixed ?_
    | refine round_go hT hP ?_
  all_goals first
    | exact of_decide_eq_true rfl
    | skip
  · rename_i h
    have h : (l.length : Int) ≠ (m.length : Int) := by simpa using h
    refine .mk [] [] _ rfl rfl rfl rfl rfl rfl (imm_bool ?_)
    exact (decide_eq_false (fun e => h (by rw [e]))).symm
  rename_i h
  have h : (l.length : Int) = (m.length : Int) := by simpa using h
  have hm : l.length = m.length := by omega
  refine up_go hT hP (A := Unit) l.length (fun i _ => St.mk [.cell (.ro StepT l), .cell (.ro StepT m), .dead, .dead, .dead, .dead, .dead, .dead, .dead, .dead, .dead, .dead, I (l.length : Int), I i, .dead, .dead, .dead, .dead, .dead, .dead, .dead, .dead, .dead, .dead, .dead, .dead] [])
    (fun k _ => l.take k = m.take k) () (Le.mk [] [] rfl rfl rfl ?_) (by simp) fun k _ hk hi => ?_
  · repeat' first | exact trivial | exact ⟨rfl, rfl⟩ | refine And.intro ?_ ?_
  repeat' first
    | (refine Go.mk ?_; conv => whnf)
    | refine Need.go ?_ ?_
    | refine NilG.go (fun _ => ?_) (fun _ => ?_)
    | refine Br.dec (fun _ => ?_) (fun _ => ?_)
    | refine Br.go (fun _ => ?_) (fun _ => ?_)
    | refine draw_go hT hP mixed ?_
    | refine round_go hT hP ?_
  all_goals clear hT hP
  all_goals first
    | exact of_decide_eq_true rfl
    | (rename_i g1
       have g1 : (k : Int) < (l.length : Int) := g1
       show 0 ≤ (k : Int) ∧ (k : Int) < (l.length : Int)
       omega)
    | (rename_i g1
       have g1 : (k : Int) < (l.length : Int) := g1
       show 0 ≤ (k : Int) ∧ (k : Int) < (m.length : Int)
       omega)
    | (rename_i g1 h2
       have g1 : (k : Int) < (l.length : Int) := g1
       have h2 : (!denEq StepT (l.getD k (dflt StepT)) (m.getD k (dflt StepT))) = true := h2
       have hne : l.getD k (dflt StepT) ≠ m.getD k (dflt StepT) := fun e => by
         rw [stp_eq.2 e] at h2; cases h2
       refine .mk [] [] _ rfl rfl rfl rfl rfl rfl (imm_bool ?_)
       exact (decide_eq_false (ne_at (dflt StepT) hne)).symm)
    | (rename_i g1 h2
       have g1 : (k : Int) < (l.length : Int) := g1
       have h2 : (!denEq StepT (l.getD k (dflt StepT)) (m.getD k (dflt StepT))) = false := h2
       have he : l.getD k (dflt StepT) = m.getD k (dflt StepT) := stp_eq.1 (by simpa using h2)
       apply Exists.intro
       apply Exists.intro ()
       refine And.intro (And.intro ?lt (And.intro ?ei ?inv)) (Le.mk [] [] rfl rfl ?hh ?ht)
       case hh => exact rfl
       case ht => repeat' first | exact trivial | exact ⟨rfl, rfl⟩ | refine And.intro ?_ ?_
       case lt => omega
       case ei => exact up_i (by omega)
       case inv => exact take_eq (dflt StepT) (by omega) (by omega) hi he)
    | (rename_i g1
       have g1 : ¬ (k : Int) < (l.length : Int) := g1
       refine .mk [] [] _ rfl rfl rfl rfl rfl rfl (imm_bool ?_)
       exact (decide_eq_true (eq_take hm (by omega) hi)).symm)
    | skip
  all_goals trace_state

abbrev gCy : Sig := ⟨true, CycT⟩
def cycB (x y : Cyc) : Bool := decide (x.1 = y.1) && (decide (x.2.1 = y.2.1) && (decide (x.2.2.1 = y.2.2.1) && decide (x.2.2.2 = y.2.2.2)))
theorem cycB_iff {x y : Cyc} : cycB x y = true ↔ x = y := by
  obtain ⟨a, b, c, l⟩ := x
  obtain ⟨a', b', c', l'⟩ := y
  simp [cycB, Prod.mk.injEq]
def eqCycS : PSpec := ⟨[gCy, gCy], fun (x, y, _) => (some (x.2.2.2.length ≤ 4611686018427387904), .cell (bv (cycB x y)), [])⟩
theorem eqCyc2_ok : GoodF Try.prog 67 eqCycS.spec := by
  have hT := tab_ok (fs := [(68, eqStpS.spec)]) tree_ok
  have hP : SpecsOk Try.prog (tab tree [(68, eqStpS.spec)]) := specs_cons eqStp_ok specs_nil
  refine eqCycS.good (fn := Try.f67) hT hP Try.func67 (by kernel_rfl) rfl fun (x y : Cyc) hq => ?_
  obtain ⟨a, b, c, l⟩ := x
  obtain ⟨a', b', c', l'⟩ := y
  have hl : l.length ≤ 4611686018427387904 := hq _ rfl
  clear hq
  repeat' first
    | (refine Go.mk ?_; conv => whnf)
    | refine Need.go ?_ ?_
    | refine NilG.go (fun _ => ?_) (fun _ => ?_)
    | refine Br.dec (fun _ => ?_) (fun _ => ?_)
    | refine Br.go (fun _ => ?_) (fun _ => ?_)
    | refine draw_go hT hP mixed ?_
    | refine round_go hT hP ?_
  all_goals first
    | exact of_decide_eq_true rfl
    | exact hl
    | skip
  all_goals (refine .mk [] [] _ rfl rfl rfl rfl rfl rfl (imm_bool ?_))
  all_goals clear hT hP
  all_goals (show _ = (decide (a = a') && (decide (b = b') && (decide (c = c') && decide (l = l')))))
  all_goals (try simp only [castL_eq] at *)
  all_goals (simp_all)
  all_goals (by_cases h : l = l' <;> simp [h])

noncomputable def eqB {α : Type} (x y : α) : Bool := @decide (x = y) (Classical.propDecidable _)
theorem eqB_t {α : Type} {x y : α} (h : x = y) : eqB x y = true := @decide_eq_true _ (Classical.propDecidable _) h
theorem eqB_f {α : Type} {x y : α} (h : x ≠ y) : eqB x y = false := @decide_eq_false _ (Classical.propDecidable _) h
theorem eqB_iff {α : Type} {x y : α} : eqB x y = true ↔ x = y := ⟨fun h => @of_decide_eq_true _ (Classical.propDecidable _) h, eqB_t⟩
structure EqcX where
  g : Nat
  l : List Cyc
  m : List Cyc
def eqcRd : List V1 → List Blk → Option EqcX := fun a b => match a, b with
  | [.c (.ro (.pair (.int .i64) (.pair (.int .i64) (.pair (.int .i64) (.sl (.pair (.int .i64) (.pair (.int .i64) (.pair (.int .i64) (.int .i64)))))))) l), .c (.ro (.pair (.int .i64) (.pair (.int .i64) (.pair (.int .i64) (.sl (.pair (.int .i64) (.pair (.int .i64) (.pair (.int .i64) (.int .i64)))))))) m), .c (.fn g [])], [] => some ⟨g, l, m⟩
  | _, _ => none
theorem eqcRd_ok {a : List V1} {b : List Blk} {x : EqcX} (h : eqcRd a b = some x) : a = [.c (.ro CycT x.l), .c (.ro CycT x.m), .c (.fn x.g [])] ∧ b = [] := by
  unfold eqcRd at h
  split at h
  · injection h with h; subst h; exact ⟨rfl, rfl⟩
  · cases h
end Go.Proofs.Ytanaaecfghmmaaa

/- bakelaw1.CoreAsks answers true, whatever it is given. -/
namespace Go.Proofs.Ytanaaecfghmmaaa
open Go.Fw
set_option linter.unusedVariables false
set_option linter.unusedSimpArgs false
set_option maxRecDepth 100000

-- the law

theorem denEq_self : ∀ {u : Ty} {x : Den u}, u.flat = true → denEq u x x = true
  | .int _, x, _ => by simp [denEq]
  | .ints _ _, x, _ => by simp [denEq]
  | .bool, x, _ => by simp [denEq]
  | .str, x, _ => by simp [denEq, strEq]
  | .sl _, _, h => by cases h
  | .pair a b, x, h => by
    simp only [Ty.flat, Bool.and_eq_true] at h
    simp only [denEq, denEq_self h.1, denEq_self h.2, Bool.and_self]
def kNewS : PSpec := ⟨[], fun _ => (none, .agg [.run .i64 9 [0, 0, 0, 0, 4, 0, 0, 0, 0], iv .i64 258, iv .i64 0, bv false], [])⟩
def kNmiS : PSpec := ⟨[gK], fun (k, _) => (none, .agg [.run .i64 9 k.1, iv .i64 k.2.1, iv .i64 k.2.2.1, bv true], [])⟩
def coresS : PSpec := ⟨[], fun _ => (none, .cell (bv true), [])⟩
def caS : PSpec := ⟨[gCpu, gK, gB], fun (c, k, i, _) => (some (askP c k), .cell (bv true), [])⟩
end Go.Proofs.Ytanaaecfghmmaaa

/- bakelaw1.SoundTicks answers true, whatever it is given. -/
namespace Go.Proofs.Ytanaaecfghmmaaa
open Go.Fw
set_option linter.unusedVariables false
set_option linter.unusedSimpArgs false
set_option maxRecDepth 100000

theorem sndN_form (N : List Int) : sndN (sndN N) = sndN N := snd_idem (vo_ok N 0) (vo_ok N 6)
theorem iterW_form (N : List Int) (n : Nat) : sndN (iterF tickW n (sndN N)) = iterF tickW n (sndN N) := by
  have e : iterF tickW n (sndN N) = iterF (passV 1) n (vo N 0) ++ iterF (passV 1) n (vo N 6) := iterW (vo_ok N 0) (vo_ok N 6) n
  rw [e]
  exact snd_idem (iterP_ok (vo_ok N 0) n) (iterP_ok (vo_ok N 6) n)
theorem len12 {l : List Int} (h : sndN l = l) : l.length ≤ 4611686018427387904 := by
  rw [← h]; exact (by decide : 12 ≤ 4611686018427387904)
def otS : PSpec := ⟨[gD, gi], fun (d, k, _) => (none, .cell (bv true), [])⟩
end Go.Proofs.Ytanaaecfghmmaaa

