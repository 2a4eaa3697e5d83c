/- A machine's state as bytes: the reference's helper. -/
import Derived.Test.YthpijepbbpcjeaaEnc
namespace Go.Proofs.Ythpijepbbpcjeaa
open Go.Fw
set_option linter.unusedVariables false
set_option linter.unusedSimpArgs false
set_option linter.constructorNameAsVariable false
set_option maxRecDepth 100000

theorem getD_mem {l : List Int} {k : Nat} (h : k < l.length) : l.getD k 0 ∈ l := by
  rw [List.getD_eq_getElem?_getD, List.getElem?_eq_getElem h]
  exact List.getElem_mem h
theorem encAll_take {l : List Int} {k : Nat} (h : k < l.length) : encAll (l.take (k + 1)) = encAll (l.take k) ++ encI (l.getD k 0) := by
  rw [List.take_add_one, encAll_append, List.getD_eq_getElem?_getD, List.getElem?_eq_getElem h]
  simp [encAll]
theorem encAll_take_len {l : List Int} (h : ∀ n ∈ l, i64P n) (k : Nat) : (encAll (l.take k)).length ≤ 10 * l.length := by
  have h1 := encAll_len (l := l.take k) fun n hn => h n (List.mem_of_mem_take hn)
  have h2 : (l.take k).length ≤ l.length := by rw [List.length_take]; omega
  omega

inductive AddX where
  | N0 (l : List Int)
  | O1 (l o : List Int)
  | R1 (l o : List Int)
def AddX.l : AddX → List Int
  | .N0 l => l
  | .O1 l _ => l
  | .R1 l _ => l
def AddX.out : AddX → List Int
  | .N0 _ => []
  | .O1 _ o => o
  | .R1 _ o => o
def addRd : List V1 → List Blk → Option AddX := fun a b => match a, b with
  | [.c (.own 0), .c (.ptr 1 0)], [.arr (.int .i64) l, .var [.imm (.slice none 0 0)]] => some (.N0 l)
  | [.c (.own 0), .c (.ptr 1 0)], [.arr (.int .i64) l, .var [.own 2], .arr (.int .u8) o] => some (.O1 l o)
  | [.c (.ro (.int .i64) l), .c (.ptr 0 0)], [.var [.own 1], .arr (.int .u8) o] => some (.R1 l o)
  | _, _ => none
def addArgs : AddX → List V1
  | .N0 l => [.c (.own 0), .c (.ptr 1 0)]
  | .O1 l o => [.c (.own 0), .c (.ptr 1 0)]
  | .R1 l o => [.c (.ro (.int .i64) l), .c (.ptr 0 0)]
def addBl : AddX → List Blk
  | .N0 l => [.arr (.int .i64) l, .var [.imm (.slice none 0 0)]]
  | .O1 l o => [.arr (.int .i64) l, .var [.own 2], .arr (.int .u8) o]
  | .R1 l o => [.var [.own 1], .arr (.int .u8) o]
theorem addRd_ok {a : List V1} {b : List Blk} {x : AddX} (h : addRd a b = some x) : a = addArgs x ∧ b = addBl x := by
  unfold addRd at h
  split at h
  · injection h with h; subst h; exact ⟨rfl, rfl⟩
  · injection h with h; subst h; exact ⟨rfl, rfl⟩
  · injection h with h; subst h; exact ⟨rfl, rfl⟩
  · cases h
def addP (x : AddX) : Prop := (∀ n ∈ x.l, i64P n) ∧ x.out.length + 10 * x.l.length ≤ 35184372088832
def addOut (x : AddX) : Option Prop × AV × List (Option Blk) × List Blk := match x with
  | .N0 l => match l with
    | [] => (some (addP x), .tup [], [some (.arr (.int .i64) l), some (.var [.imm (.slice none 0 0)])], [])
    | _ :: _ => (some (addP x), .tup [], [some (.arr (.int .i64) l), some (.var [.own 2])], [.arr (.int .u8) (encAll l)])
  | .O1 l o => match l with
    | [] => (some (addP x), .tup [], [some (.arr (.int .i64) l), some (.var [.own 2]), some (.arr (.int .u8) o)], [])
    | _ :: _ => (some (addP x), .tup [], [some (.arr (.int .i64) l), some (.var [.own 3]), none], [.arr (.int .u8) (o ++ encAll l)])
  | .R1 l o => match l with
    | [] => (some (addP x), .tup [], [some (.var [.own 1]), some (.arr (.int .u8) o)], [])
    | _ :: _ => (some (addP x), .tup [], [some (.var [.own 2]), none], [.arr (.int .u8) (o ++ encAll l)])
def addWS : WSpec := ⟨AddX, addArgs, addBl, addRd, addOut⟩
def addS : AddX → Bool × Int × List Int → St := fun x (f, i, o') => match x with
  | .N0 l => match f with
    | true => St.mk [.dead, .cell (.ptr 1 0), .dead, .dead, .dead, .cell (.own 0), I (l.length : Int), I i, .dead, .dead, .dead, .dead, .dead, .dead, .dead, .dead] [some (.arr (.int .i64) l), some (.var [.imm (.slice none 0 0)])]
    | false => St.mk [.dead, .cell (.ptr 1 0), .dead, .dead, .dead, .cell (.own 0), I (l.length : Int), I i, .dead, .dead, .dead, .dead, .dead, .dead, .dead, .dead] [some (.arr (.int .i64) l), some (.var [.own 2]), some (.arr (.int .u8) o')]
  | .O1 l o => match f with
    | true => St.mk [.dead, .cell (.ptr 1 0), .dead, .dead, .dead, .cell (.own 0), I (l.length : Int), I i, .dead, .dead, .dead, .dead, .dead, .dead, .dead, .dead] [some (.arr (.int .i64) l), some (.var [.own 2]), some (.arr (.int .u8) o')]
    | false => St.mk [.dead, .cell (.ptr 1 0), .dead, .dead, .dead, .cell (.own 0), I (l.length : Int), I i, .dead, .dead, .dead, .dead, .dead, .dead, .dead, .dead] [some (.arr (.int .i64) l), some (.var [.own 3]), none, some (.arr (.int .u8) o')]
  | .R1 l o => match f with
    | true => St.mk [.dead, .cell (.ptr 0 0), .dead, .dead, .dead, .cell (.ro (.int .i64) l), I (l.length : Int), I i, .dead, .dead, .dead, .dead, .dead, .dead, .dead, .dead] [some (.var [.own 1]), some (.arr (.int .u8) o')]
    | false => St.mk [.dead, .cell (.ptr 0 0), .dead, .dead, .dead, .cell (.ro (.int .i64) l), I (l.length : Int), I i, .dead, .dead, .dead, .dead, .dead, .dead, .dead, .dead] [some (.var [.own 2]), none, some (.arr (.int .u8) o')]
def addI (x : AddX) : Bool × Int × List Int → Prop := fun (f, i, o') => ∃ k : Nat, i = k ∧ k ≤ x.l.length ∧ o' = x.out ++ encAll (x.l.take k) ∧ (f = true ↔ k = 0)
def addM (x : AddX) : Bool × Int × List Int → Nat := fun (f, i, o') => ((x.l.length : Int) - i).toNat
theorem addI_go {x : AddX} {f : Bool} {k : Nat} {o' : List Int} (hk : k < x.l.length) (ho : o' = x.out ++ encAll (x.l.take k)) (hl : k ≤ 4611686018427387904) : addI x (false, IntKind.i64.wrap ((k : Int) + 1), o' ++ encI (x.l.getD k 0)) :=
  ⟨k + 1, up_i hl, hk, by rw [ho, encAll_take hk, List.append_assoc], by simp⟩
set_option maxHeartbeats 8000000 in
theorem add_ok : Good Try.prog 102 addWS.spec := by
  have hT := tab_ok (fs := [(103, numS.spec)]) tree_ok
  have hP : SpecsOk Try.prog (tab tree [(103, numS.spec)]) := specs_cons num7_ok specs_nil
  refine addWS.good (fn := Try.f102) hT hP Try.func102 (by kernel_rfl) rfl (fun _ _ _ h => addRd_ok h) fun (x : AddX) hq => ?_
  have hp : addP x := by
    cases x with
    | N0 l => cases l <;> exact hq _ rfl
    | O1 l o => cases l <;> exact hq _ rfl
    | R1 l o => cases l <;> exact hq _ rfl
  clear hq
  obtain ⟨h1, h2⟩ := hp
  cases x with
  | N0 l =>
    have h1 : ∀ n ∈ l, i64P n := h1
    have h2 : ([] : List Int).length + 10 * l.length ≤ 35184372088832 := h2
    repeat' first
      | (refine Go.mk ?_; conv => whnf)
      | refine Need.go ?_ ?_
      | refine NilG.go (fun _ => ?_) (fun _ => ?_)
      | refine Br.dec (fun _ => ?_) (fun _ => ?_)
      | refine Br.go (fun _ => ?_) (fun _ => ?_)
      | refine draw_go hT hP mixed ?_
      | refine round_go hT hP ?_
    all_goals first
      | exact of_decide_eq_true rfl
      | skip
    refine loop_go hT hP (X := Bool × Int × List Int) (addS (.N0 l)) (addI (.N0 l)) (addM (.N0 l)) (true, 0, ([] : List Int)) (Le.mk [] [0, 1] rfl rfl ?_ ?_) ?_ fun (f, i, o') hi => ?_
    · exact rfl
    · repeat' first | exact trivial | exact ⟨rfl, rfl⟩ | refine And.intro ?_ ?_
    · exact ⟨0, rfl, Nat.zero_le _, by simp [encAll, AddX.out], by simp⟩
    obtain ⟨k, rfl, hk, ho, hf⟩ := hi
    have hk : k ≤ l.length := hk
    have ho : o' = ([] : List Int) ++ encAll (l.take k) := ho
    have hlo : o'.length ≤ ([] : List Int).length + 10 * l.length := by rw [ho, List.length_append]; have := encAll_take_len h1 k; omega
    cases f with
    | true =>
      obtain rfl : k = 0 := hf.1 rfl
      have ho2 : o' = ([] : List Int) := by rw [ho]; simp [encAll]
      repeat' first
        | (refine Go.mk ?_; conv => whnf)
        | refine Need.go ?_ ?_
        | refine NilG.go (fun _ => ?_) (fun _ => ?_)
        | refine Br.dec (fun _ => ?_) (fun _ => ?_)
        | refine Br.go (fun _ => ?_) (fun _ => ?_)
        | refine draw_go hT hP mixed ?_
        | refine round_go hT hP ?_
      all_goals first
        | exact of_decide_eq_true rfl
        | (show 0 ≤ ((0 : Nat) : Int) ∧ ((0 : Nat) : Int) < (l.length : Int)
           omega)
        | (show (((0 : Nat) : Int)).toNat < l.length
           omega)
        | (rename_i h
           have h : ((0 : Nat) : Int) < (l.length : Int) := h
           exact h1 _ (getD_mem (k := 0) (by omega)))
        | (rename_i h
           have h : ((0 : Nat) : Int) < (l.length : Int) := h
           have hz := encI_len (h1 _ (getD_mem (k := 0) (by omega)))
           show ((encI (l.getD 0 0)).length) * 1 ≤ 70368744177664
           omega)
        | (rename_i h
           have h : ((0 : Nat) : Int) < (l.length : Int) := h
           apply Exists.intro (false, _, _)
           refine And.intro ?_ (And.intro ?_ (Le.mk [] [0, 1, 3] rfl rfl ?hh ?ht))
           case hh => exact rfl
           case ht => repeat' first | exact trivial | exact ⟨rfl, rfl⟩ | refine And.intro ?_ ?_
           · exact addI_go (x := .N0 l) (f := true) (k := 0) (o' := []) (by show 0 < l.length; omega) (by simp [encAll, AddX.out]) (by omega)
           · show ((l.length : Int) - IntKind.i64.wrap (((0 : Nat) : Int) + 1)).toNat < ((l.length : Int) - ((0 : Nat) : Int)).toNat
             rw [up_i (by omega)]; omega)
        | (rename_i h
           have h : ¬ ((0 : Nat) : Int) < (l.length : Int) := h
           obtain rfl : l = [] := List.eq_nil_of_length_eq_zero (by omega)
           subst ho2
           exact .mk [] [0, 1] _ rfl rfl rfl rfl rfl rfl rfl)
        | skip
    | false =>
      repeat' first
        | (refine Go.mk ?_; conv => whnf)
        | refine Need.go ?_ ?_
        | refine NilG.go (fun _ => ?_) (fun _ => ?_)
        | refine Br.dec (fun _ => ?_) (fun _ => ?_)
        | refine Br.go (fun _ => ?_) (fun _ => ?_)
        | refine draw_go hT hP mixed ?_
        | refine round_go hT hP ?_
      all_goals first
        | exact of_decide_eq_true rfl
        | (show 0 ≤ (k : Int) ∧ (k : Int) < (l.length : Int)
           omega)
        | (show ((k : Int)).toNat < l.length
           omega)
        | (rename_i h
           have h : (k : Int) < (l.length : Int) := h
           exact h1 _ (getD_mem (k := k) (by omega)))
        | (rename_i h
           have h : (k : Int) < (l.length : Int) := h
           have hz := encI_len (h1 _ (getD_mem (k := k) (by omega)))
           show (o'.length + (encI (l.getD k 0)).length) * 1 ≤ 70368744177664
           omega)
        | (rename_i h
           have h : (k : Int) < (l.length : Int) := h
           apply Exists.intro (false, _, _)
           refine And.intro ?_ (And.intro ?_ (Le.mk [] [0, 1, 4] rfl rfl ?hh ?ht))
           case hh => exact rfl
           case ht => repeat' first | exact trivial | exact ⟨rfl, rfl⟩ | refine And.intro ?_ ?_
           · exact addI_go (x := .N0 l) (f := false) (k := k) (by show k < l.length; omega) ho (by omega)
           · show ((l.length : Int) - IntKind.i64.wrap ((k : Int) + 1)).toNat < ((l.length : Int) - (k : Int)).toNat
             rw [up_i (by omega)]; omega)
        | (rename_i h
           have h : ¬ (k : Int) < (l.length : Int) := h
           rw [List.take_of_length_le (by omega)] at ho
           subst ho
           cases l with
           | nil => exact absurd (hf.2 (by simp at hk; omega)) (by decide)
           | cons a r => exact .mk [] [0, 1, 2] _ rfl rfl rfl rfl rfl rfl rfl)
        | skip
  | O1 l o =>
    have h1 : ∀ n ∈ l, i64P n := h1
    have h2 : o.length + 10 * l.length ≤ 35184372088832 := h2
    repeat' first
      | (refine Go.mk ?_; conv => whnf)
      | refine Need.go ?_ ?_
      | refine NilG.go (fun _ => ?_) (fun _ => ?_)
      | refine Br.dec (fun _ => ?_) (fun _ => ?_)
      | refine Br.go (fun _ => ?_) (fun _ => ?_)
      | refine draw_go hT hP mixed ?_
      | refine round_go hT hP ?_
    all_goals first
      | exact of_decide_eq_true rfl
      | skip
    refine loop_go hT hP (X := Bool × Int × List Int) (addS (.O1 l o)) (addI (.O1 l o)) (addM (.O1 l o)) (true, 0, o) (Le.mk [] [0, 1, 2] rfl rfl ?_ ?_) ?_ fun (f, i, o') hi => ?_
    · exact rfl
    · repeat' first | exact trivial | exact ⟨rfl, rfl⟩ | refine And.intro ?_ ?_
    · exact ⟨0, rfl, Nat.zero_le _, by simp [encAll, AddX.out], by simp⟩
    obtain ⟨k, rfl, hk, ho, hf⟩ := hi
    have hk : k ≤ l.length := hk
    have ho : o' = o ++ encAll (l.take k) := ho
    have hlo : o'.length ≤ o.length + 10 * l.length := by rw [ho, List.length_append]; have := encAll_take_len h1 k; omega
    cases f with
    | true =>
      obtain rfl : k = 0 := hf.1 rfl
      have ho2 : o' = o := by rw [ho]; simp [encAll]
      repeat' first
        | (refine Go.mk ?_; conv => whnf)
        | refine Need.go ?_ ?_
        | refine NilG.go (fun _ => ?_) (fun _ => ?_)
        | refine Br.dec (fun _ => ?_) (fun _ => ?_)
        | refine Br.go (fun _ => ?_) (fun _ => ?_)
        | refine draw_go hT hP mixed ?_
        | refine round_go hT hP ?_
      all_goals first
        | exact of_decide_eq_true rfl
        | (show 0 ≤ ((0 : Nat) : Int) ∧ ((0 : Nat) : Int) < (l.length : Int)
           omega)
        | (show (((0 : Nat) : Int)).toNat < l.length
           omega)
        | (rename_i h
           have h : ((0 : Nat) : Int) < (l.length : Int) := h
           exact h1 _ (getD_mem (k := 0) (by omega)))
        | (rename_i h
           have h : ((0 : Nat) : Int) < (l.length : Int) := h
           have hz := encI_len (h1 _ (getD_mem (k := 0) (by omega)))
           show (o'.length + (encI (l.getD 0 0)).length) * 1 ≤ 70368744177664
           omega)
        | (rename_i h
           have h : ((0 : Nat) : Int) < (l.length : Int) := h
           apply Exists.intro (false, _, _)
           refine And.intro ?_ (And.intro ?_ (Le.mk [] [0, 1, 2, 4] rfl rfl ?hh ?ht))
           case hh => exact rfl
           case ht => repeat' first | exact trivial | exact ⟨rfl, rfl⟩ | refine And.intro ?_ ?_
           · exact addI_go (x := .O1 l o) (f := true) (k := 0) (by show 0 < l.length; omega) ho (by omega)
           · show ((l.length : Int) - IntKind.i64.wrap (((0 : Nat) : Int) + 1)).toNat < ((l.length : Int) - ((0 : Nat) : Int)).toNat
             rw [up_i (by omega)]; omega)
        | (rename_i h
           have h : ¬ ((0 : Nat) : Int) < (l.length : Int) := h
           obtain rfl : l = [] := List.eq_nil_of_length_eq_zero (by omega)
           subst ho2
           exact .mk [] [0, 1, 2] _ rfl rfl rfl rfl rfl rfl rfl)
        | skip
    | false =>
      repeat' first
        | (refine Go.mk ?_; conv => whnf)
        | refine Need.go ?_ ?_
        | refine NilG.go (fun _ => ?_) (fun _ => ?_)
        | refine Br.dec (fun _ => ?_) (fun _ => ?_)
        | refine Br.go (fun _ => ?_) (fun _ => ?_)
        | refine draw_go hT hP mixed ?_
        | refine round_go hT hP ?_
      all_goals first
        | exact of_decide_eq_true rfl
        | (show 0 ≤ (k : Int) ∧ (k : Int) < (l.length : Int)
           omega)
        | (show ((k : Int)).toNat < l.length
           omega)
        | (rename_i h
           have h : (k : Int) < (l.length : Int) := h
           exact h1 _ (getD_mem (k := k) (by omega)))
        | (rename_i h
           have h : (k : Int) < (l.length : Int) := h
           have hz := encI_len (h1 _ (getD_mem (k := k) (by omega)))
           show (o'.length + (encI (l.getD k 0)).length) * 1 ≤ 70368744177664
           omega)
        | (rename_i h
           have h : (k : Int) < (l.length : Int) := h
           apply Exists.intro (false, _, _)
           refine And.intro ?_ (And.intro ?_ (Le.mk [] [0, 1, 2, 5] rfl rfl ?hh ?ht))
           case hh => exact rfl
           case ht => repeat' first | exact trivial | exact ⟨rfl, rfl⟩ | refine And.intro ?_ ?_
           · exact addI_go (x := .O1 l o) (f := false) (k := k) (by show k < l.length; omega) ho (by omega)
           · show ((l.length : Int) - IntKind.i64.wrap ((k : Int) + 1)).toNat < ((l.length : Int) - (k : Int)).toNat
             rw [up_i (by omega)]; omega)
        | (rename_i h
           have h : ¬ (k : Int) < (l.length : Int) := h
           rw [List.take_of_length_le (by omega)] at ho
           subst ho
           cases l with
           | nil => exact absurd (hf.2 (by simp at hk; omega)) (by decide)
           | cons a r => exact .mk [] [0, 1, 2, 3] _ rfl rfl rfl rfl rfl rfl rfl)
        | skip
  | R1 l o =>
    have h1 : ∀ n ∈ l, i64P n := h1
    have h2 : o.length + 10 * l.length ≤ 35184372088832 := h2
    repeat' first
      | (refine Go.mk ?_; conv => whnf)
      | refine Need.go ?_ ?_
      | refine NilG.go (fun _ => ?_) (fun _ => ?_)
      | refine Br.dec (fun _ => ?_) (fun _ => ?_)
      | refine Br.go (fun _ => ?_) (fun _ => ?_)
      | refine draw_go hT hP mixed ?_
      | refine round_go hT hP ?_
    all_goals first
      | exact of_decide_eq_true rfl
      | skip
    refine loop_go hT hP (X := Bool × Int × List Int) (addS (.R1 l o)) (addI (.R1 l o)) (addM (.R1 l o)) (true, 0, o) (Le.mk [] [0, 1] rfl rfl ?_ ?_) ?_ fun (f, i, o') hi => ?_
    · exact rfl
    · repeat' first | exact trivial | exact ⟨rfl, rfl⟩ | refine And.intro ?_ ?_
    · exact ⟨0, rfl, Nat.zero_le _, by simp [encAll, AddX.out], by simp⟩
    obtain ⟨k, rfl, hk, ho, hf⟩ := hi
    have hk : k ≤ l.length := hk
    have ho : o' = o ++ encAll (l.take k) := ho
    have hlo : o'.length ≤ o.length + 10 * l.length := by rw [ho, List.length_append]; have := encAll_take_len h1 k; omega
    cases f with
    | true =>
      obtain rfl : k = 0 := hf.1 rfl
      have ho2 : o' = o := by rw [ho]; simp [encAll]
      repeat' first
        | (refine Go.mk ?_; conv => whnf)
        | refine Need.go ?_ ?_
        | refine NilG.go (fun _ => ?_) (fun _ => ?_)
        | refine Br.dec (fun _ => ?_) (fun _ => ?_)
        | refine Br.go (fun _ => ?_) (fun _ => ?_)
        | refine draw_go hT hP mixed ?_
        | refine round_go hT hP ?_
      all_goals first
        | exact of_decide_eq_true rfl
        | (show 0 ≤ ((0 : Nat) : Int) ∧ ((0 : Nat) : Int) < (l.length : Int)
           omega)
        | (show (((0 : Nat) : Int)).toNat < l.length
           omega)
        | (rename_i h
           have h : ((0 : Nat) : Int) < (l.length : Int) := h
           exact h1 _ (getD_mem (k := 0) (by omega)))
        | (rename_i h
           have h : ((0 : Nat) : Int) < (l.length : Int) := h
           have hz := encI_len (h1 _ (getD_mem (k := 0) (by omega)))
           show (o'.length + (encI (l.getD 0 0)).length) * 1 ≤ 70368744177664
           omega)
        | (rename_i h
           have h : ((0 : Nat) : Int) < (l.length : Int) := h
           apply Exists.intro (false, _, _)
           refine And.intro ?_ (And.intro ?_ (Le.mk [] [0, 1, 3] rfl rfl ?hh ?ht))
           case hh => exact rfl
           case ht => repeat' first | exact trivial | exact ⟨rfl, rfl⟩ | refine And.intro ?_ ?_
           · exact addI_go (x := .R1 l o) (f := true) (k := 0) (by show 0 < l.length; omega) ho (by omega)
           · show ((l.length : Int) - IntKind.i64.wrap (((0 : Nat) : Int) + 1)).toNat < ((l.length : Int) - ((0 : Nat) : Int)).toNat
             rw [up_i (by omega)]; omega)
        | (rename_i h
           have h : ¬ ((0 : Nat) : Int) < (l.length : Int) := h
           obtain rfl : l = [] := List.eq_nil_of_length_eq_zero (by omega)
           subst ho2
           exact .mk [] [0, 1] _ rfl rfl rfl rfl rfl rfl rfl)
        | skip
    | false =>
      repeat' first
        | (refine Go.mk ?_; conv => whnf)
        | refine Need.go ?_ ?_
        | refine NilG.go (fun _ => ?_) (fun _ => ?_)
        | refine Br.dec (fun _ => ?_) (fun _ => ?_)
        | refine Br.go (fun _ => ?_) (fun _ => ?_)
        | refine draw_go hT hP mixed ?_
        | refine round_go hT hP ?_
      all_goals first
        | exact of_decide_eq_true rfl
        | (show 0 ≤ (k : Int) ∧ (k : Int) < (l.length : Int)
           omega)
        | (show ((k : Int)).toNat < l.length
           omega)
        | (rename_i h
           have h : (k : Int) < (l.length : Int) := h
           exact h1 _ (getD_mem (k := k) (by omega)))
        | (rename_i h
           have h : (k : Int) < (l.length : Int) := h
           have hz := encI_len (h1 _ (getD_mem (k := k) (by omega)))
           show (o'.length + (encI (l.getD k 0)).length) * 1 ≤ 70368744177664
           omega)
        | (rename_i h
           have h : (k : Int) < (l.length : Int) := h
           apply Exists.intro (false, _, _)
           refine And.intro ?_ (And.intro ?_ (Le.mk [] [0, 1, 4] rfl rfl ?hh ?ht))
           case hh => exact rfl
           case ht => repeat' first | exact trivial | exact ⟨rfl, rfl⟩ | refine And.intro ?_ ?_
           · exact addI_go (x := .R1 l o) (f := false) (k := k) (by show k < l.length; omega) ho (by omega)
           · show ((l.length : Int) - IntKind.i64.wrap ((k : Int) + 1)).toNat < ((l.length : Int) - (k : Int)).toNat
             rw [up_i (by omega)]; omega)
        | (rename_i h
           have h : ¬ (k : Int) < (l.length : Int) := h
           rw [List.take_of_length_le (by omega)] at ho
           subst ho
           cases l with
           | nil => exact absurd (hf.2 (by simp at hk; omega)) (by decide)
           | cons a r => exact .mk [] [0, 1, 2] _ rfl rfl rfl rfl rfl rfl rfl)
        | skip

end Go.Proofs.Ythpijepbbpcjeaa
