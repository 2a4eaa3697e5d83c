/- Part 7 of the proof: Pack Pack2 Clones Pick Serial Drive Drive2. No statement is handed in here; conditions: none. -/
import Derived.Test.YtblnigjmcjpopaaGreatG6
/- A machine's state as bytes: the reference's helper. -/
namespace Go.Proofs.YtblnigjmcjpopaaGreat
open Go.Fw
set_option linter.unusedVariables false
set_option linter.unusedSimpArgs false
set_option linter.constructorNameAsVariable false
set_option maxRecDepth 100000

theorem getD_mem {l : List Int} {k : Nat} (h : k < l.length) : l.getD k 0 ∈ l := by
  rw [List.getD_eq_getElem?_getD, List.getElem?_eq_getElem h]
  exact List.getElem_mem h
theorem encAll_take {l : List Int} {k : Nat} (h : k < l.length) : encAll (l.take (k + 1)) = encAll (l.take k) ++ encI (l.getD k 0) := by
  rw [List.take_add_one, encAll_append, List.getD_eq_getElem?_getD, List.getElem?_eq_getElem h]
  simp [encAll]
theorem encAll_take_len {l : List Int} (h : ∀ n ∈ l, i64P n) (k : Nat) : (encAll (l.take k)).length ≤ 10 * l.length := by
  have h1 := encAll_len (l := l.take k) fun n hn => h n (List.mem_of_mem_take hn)
  have h2 : (l.take k).length ≤ l.length := by rw [List.length_take]; omega
  omega

inductive AddX where
  | N0 (l : List Int)
  | O1 (l o : List Int)
  | R1 (l o : List Int)
def AddX.l : AddX → List Int
  | .N0 l => l
  | .O1 l _ => l
  | .R1 l _ => l
def AddX.out : AddX → List Int
  | .N0 _ => []
  | .O1 _ o => o
  | .R1 _ o => o
def addRd : List V1 → List Blk → Option AddX := fun a b => match a, b with
  | [.c (.own 0), .c (.ptr 1 0)], [.arr (.int .i64) l, .var [.imm (.slice none 0 0)]] => some (.N0 l)
  | [.c (.own 0), .c (.ptr 1 0)], [.arr (.int .i64) l, .var [.own 2], .arr (.int .u8) o] => some (.O1 l o)
  | [.c (.ro (.int .i64) l), .c (.ptr 0 0)], [.var [.own 1], .arr (.int .u8) o] => some (.R1 l o)
  | _, _ => none
def addArgs : AddX → List V1
  | .N0 l => [.c (.own 0), .c (.ptr 1 0)]
  | .O1 l o => [.c (.own 0), .c (.ptr 1 0)]
  | .R1 l o => [.c (.ro (.int .i64) l), .c (.ptr 0 0)]
def addBl : AddX → List Blk
  | .N0 l => [.arr (.int .i64) l, .var [.imm (.slice none 0 0)]]
  | .O1 l o => [.arr (.int .i64) l, .var [.own 2], .arr (.int .u8) o]
  | .R1 l o => [.var [.own 1], .arr (.int .u8) o]
theorem addRd_ok {a : List V1} {b : List Blk} {x : AddX} (h : addRd a b = some x) : a = addArgs x ∧ b = addBl x := by
  unfold addRd at h
  split at h
  · injection h with h; subst h; exact ⟨rfl, rfl⟩
  · injection h with h; subst h; exact ⟨rfl, rfl⟩
  · injection h with h; subst h; exact ⟨rfl, rfl⟩
  · cases h
def addP (x : AddX) : Prop := (∀ n ∈ x.l, i64P n) ∧ x.out.length + 10 * x.l.length ≤ 35184372088832
def addOut (x : AddX) : Option Prop × AV × List (Option Blk) × List Blk := match x with
  | .N0 l => match l with
    | [] => (some (addP x), .tup [], [some (.arr (.int .i64) l), some (.var [.imm (.slice none 0 0)])], [])
    | _ :: _ => (some (addP x), .tup [], [some (.arr (.int .i64) l), some (.var [.own 2])], [.arr (.int .u8) (encAll l)])
  | .O1 l o => match l with
    | [] => (some (addP x), .tup [], [some (.arr (.int .i64) l), some (.var [.own 2]), some (.arr (.int .u8) o)], [])
    | _ :: _ => (some (addP x), .tup [], [some (.arr (.int .i64) l), some (.var [.own 3]), none], [.arr (.int .u8) (o ++ encAll l)])
  | .R1 l o => match l with
    | [] => (some (addP x), .tup [], [some (.var [.own 1]), some (.arr (.int .u8) o)], [])
    | _ :: _ => (some (addP x), .tup [], [some (.var [.own 2]), none], [.arr (.int .u8) (o ++ encAll l)])
def addWS : WSpec := ⟨AddX, addArgs, addBl, addRd, addOut⟩
def pkAddS : AddX → Bool × Int × List Int → St := fun x (f, i, o') => match x with
  | .N0 l => match f with
    | true => St.mk [.dead, .cell (.ptr 1 0), .dead, .dead, .dead, .cell (.own 0), I (l.length : Int), I i, .dead, .dead, .dead, .dead, .dead, .dead, .dead, .dead] [some (.arr (.int .i64) l), some (.var [.imm (.slice none 0 0)])]
    | false => St.mk [.dead, .cell (.ptr 1 0), .dead, .dead, .dead, .cell (.own 0), I (l.length : Int), I i, .dead, .dead, .dead, .dead, .dead, .dead, .dead, .dead] [some (.arr (.int .i64) l), some (.var [.own 2]), some (.arr (.int .u8) o')]
  | .O1 l o => match f with
    | true => St.mk [.dead, .cell (.ptr 1 0), .dead, .dead, .dead, .cell (.own 0), I (l.length : Int), I i, .dead, .dead, .dead, .dead, .dead, .dead, .dead, .dead] [some (.arr (.int .i64) l), some (.var [.own 2]), some (.arr (.int .u8) o')]
    | false => St.mk [.dead, .cell (.ptr 1 0), .dead, .dead, .dead, .cell (.own 0), I (l.length : Int), I i, .dead, .dead, .dead, .dead, .dead, .dead, .dead, .dead] [some (.arr (.int .i64) l), some (.var [.own 3]), none, some (.arr (.int .u8) o')]
  | .R1 l o => match f with
    | true => St.mk [.dead, .cell (.ptr 0 0), .dead, .dead, .dead, .cell (.ro (.int .i64) l), I (l.length : Int), I i, .dead, .dead, .dead, .dead, .dead, .dead, .dead, .dead] [some (.var [.own 1]), some (.arr (.int .u8) o')]
    | false => St.mk [.dead, .cell (.ptr 0 0), .dead, .dead, .dead, .cell (.ro (.int .i64) l), I (l.length : Int), I i, .dead, .dead, .dead, .dead, .dead, .dead, .dead, .dead] [some (.var [.own 2]), none, some (.arr (.int .u8) o')]
def addI (x : AddX) : Bool × Int × List Int → Prop := fun (f, i, o') => ∃ k : Nat, i = k ∧ k ≤ x.l.length ∧ o' = x.out ++ encAll (x.l.take k) ∧ (f = true ↔ k = 0)
def addM (x : AddX) : Bool × Int × List Int → Nat := fun (f, i, o') => ((x.l.length : Int) - i).toNat
theorem addI_go {x : AddX} {f : Bool} {k : Nat} {o' : List Int} (hk : k < x.l.length) (ho : o' = x.out ++ encAll (x.l.take k)) (hl : k ≤ 4611686018427387904) : addI x (false, IntKind.i64.wrap ((k : Int) + 1), o' ++ encI (x.l.getD k 0)) :=
  ⟨k + 1, up_i hl, hk, by rw [ho, encAll_take hk, List.append_assoc], by simp⟩
set_option maxHeartbeats 8000000 in
theorem pkAdd_ok : GoodF Tryz.prog 114 addWS.spec := by
  have hT := tab_ok (fs := [(115, num7S.spec)]) tree_ok
  have hP : SpecsOk Tryz.prog (tab tree [(115, num7S.spec)]) := specs_cons num7_ok specs_nil
  refine addWS.good (fn := Tryz.f114) hT hP Tryz.func114 (by kernel_rfl) rfl (fun _ _ _ h => addRd_ok h) fun (x : AddX) hq => ?_
  have hp : addP x := by
    cases x with
    | N0 l => cases l <;> exact hq _ rfl
    | O1 l o => cases l <;> exact hq _ rfl
    | R1 l o => cases l <;> exact hq _ rfl
  clear hq
  obtain ⟨h1, h2⟩ := hp
  cases x with
  | N0 l =>
    have h1 : ∀ n ∈ l, i64P n := h1
    have h2 : ([] : List Int).length + 10 * l.length ≤ 35184372088832 := h2
    repeat' first
      | (refine Go.mk ?_; conv => whnf)
      | refine Need.go ?_ ?_
      | refine NilG.go (fun _ => ?_) (fun _ => ?_)
      | refine Br.dec (fun _ => ?_) (fun _ => ?_)
      | refine Br.go (fun _ => ?_) (fun _ => ?_)
      | refine draw_go hT hP mixed ?_
      | refine round_go hT hP ?_
    all_goals first
      | exact of_decide_eq_true rfl
      | skip
    refine loop_go hT hP (X := Bool × Int × List Int) (pkAddS (.N0 l)) (addI (.N0 l)) (addM (.N0 l)) (true, 0, ([] : List Int)) (Le.mk [] [0, 1] rfl rfl ?_ ?_) ?_ fun (f, i, o') hi => ?_
    · exact rfl
    · repeat' first | exact trivial | exact ⟨rfl, rfl⟩ | refine And.intro ?_ ?_
    · exact ⟨0, rfl, Nat.zero_le _, by simp [encAll, AddX.out], by simp⟩
    obtain ⟨k, rfl, hk, ho, hf⟩ := hi
    have hk : k ≤ l.length := hk
    have ho : o' = ([] : List Int) ++ encAll (l.take k) := ho
    have hlo : o'.length ≤ ([] : List Int).length + 10 * l.length := by rw [ho, List.length_append]; have := encAll_take_len h1 k; omega
    cases f with
    | true =>
      obtain rfl : k = 0 := hf.1 rfl
      have ho2 : o' = ([] : List Int) := by rw [ho]; simp [encAll]
      repeat' first
        | (refine Go.mk ?_; conv => whnf)
        | refine Need.go ?_ ?_
        | refine NilG.go (fun _ => ?_) (fun _ => ?_)
        | refine Br.dec (fun _ => ?_) (fun _ => ?_)
        | refine Br.go (fun _ => ?_) (fun _ => ?_)
        | refine draw_go hT hP mixed ?_
        | refine round_go hT hP ?_
      all_goals first
        | exact of_decide_eq_true rfl
        | (show 0 ≤ ((0 : Nat) : Int) ∧ ((0 : Nat) : Int) < (l.length : Int)
           omega)
        | (show (((0 : Nat) : Int)).toNat < l.length
           omega)
        | (rename_i h
           have h : ((0 : Nat) : Int) < (l.length : Int) := h
           exact h1 _ (getD_mem (k := 0) (by omega)))
        | (rename_i h
           have h : ((0 : Nat) : Int) < (l.length : Int) := h
           have hz := encI_len (h1 _ (getD_mem (k := 0) (by omega)))
           show ((encI (l.getD 0 0)).length) * 1 ≤ 140737488355328
           omega)
        | (rename_i h
           have h : ((0 : Nat) : Int) < (l.length : Int) := h
           apply Exists.intro (false, _, _)
           refine And.intro ?_ (And.intro ?_ (Le.mk [] [0, 1, 3] rfl rfl ?hh ?ht))
           case hh => exact rfl
           case ht => repeat' first | exact trivial | exact ⟨rfl, rfl⟩ | refine And.intro ?_ ?_
           · exact addI_go (x := .N0 l) (f := true) (k := 0) (o' := []) (by show 0 < l.length; omega) (by simp [encAll, AddX.out]) (by omega)
           · show ((l.length : Int) - IntKind.i64.wrap (((0 : Nat) : Int) + 1)).toNat < ((l.length : Int) - ((0 : Nat) : Int)).toNat
             rw [up_i (by omega)]; omega)
        | (rename_i h
           have h : ¬ ((0 : Nat) : Int) < (l.length : Int) := h
           obtain rfl : l = [] := List.eq_nil_of_length_eq_zero (by omega)
           subst ho2
           exact .mk [] [0, 1] _ rfl rfl rfl rfl rfl rfl rfl)
        | skip
    | false =>
      repeat' first
        | (refine Go.mk ?_; conv => whnf)
        | refine Need.go ?_ ?_
        | refine NilG.go (fun _ => ?_) (fun _ => ?_)
        | refine Br.dec (fun _ => ?_) (fun _ => ?_)
        | refine Br.go (fun _ => ?_) (fun _ => ?_)
        | refine draw_go hT hP mixed ?_
        | refine round_go hT hP ?_
      all_goals first
        | exact of_decide_eq_true rfl
        | (show 0 ≤ (k : Int) ∧ (k : Int) < (l.length : Int)
           omega)
        | (show ((k : Int)).toNat < l.length
           omega)
        | (rename_i h
           have h : (k : Int) < (l.length : Int) := h
           exact h1 _ (getD_mem (k := k) (by omega)))
        | (rename_i h
           have h : (k : Int) < (l.length : Int) := h
           have hz := encI_len (h1 _ (getD_mem (k := k) (by omega)))
           show (o'.length + (encI (l.getD k 0)).length) * 1 ≤ 140737488355328
           omega)
        | (rename_i h
           have h : (k : Int) < (l.length : Int) := h
           apply Exists.intro (false, _, _)
           refine And.intro ?_ (And.intro ?_ (Le.mk [] [0, 1, 4] rfl rfl ?hh ?ht))
           case hh => exact rfl
           case ht => repeat' first | exact trivial | exact ⟨rfl, rfl⟩ | refine And.intro ?_ ?_
           · exact addI_go (x := .N0 l) (f := false) (k := k) (by show k < l.length; omega) ho (by omega)
           · show ((l.length : Int) - IntKind.i64.wrap ((k : Int) + 1)).toNat < ((l.length : Int) - (k : Int)).toNat
             rw [up_i (by omega)]; omega)
        | (rename_i h
           have h : ¬ (k : Int) < (l.length : Int) := h
           rw [List.take_of_length_le (by omega)] at ho
           subst ho
           cases l with
           | nil => exact absurd (hf.2 (by simp at hk; omega)) (by decide)
           | cons a r => exact .mk [] [0, 1, 2] _ rfl rfl rfl rfl rfl rfl rfl)
        | skip
  | O1 l o =>
    have h1 : ∀ n ∈ l, i64P n := h1
    have h2 : o.length + 10 * l.length ≤ 35184372088832 := h2
    repeat' first
      | (refine Go.mk ?_; conv => whnf)
      | refine Need.go ?_ ?_
      | refine NilG.go (fun _ => ?_) (fun _ => ?_)
      | refine Br.dec (fun _ => ?_) (fun _ => ?_)
      | refine Br.go (fun _ => ?_) (fun _ => ?_)
      | refine draw_go hT hP mixed ?_
      | refine round_go hT hP ?_
    all_goals first
      | exact of_decide_eq_true rfl
      | skip
    refine loop_go hT hP (X := Bool × Int × List Int) (pkAddS (.O1 l o)) (addI (.O1 l o)) (addM (.O1 l o)) (true, 0, o) (Le.mk [] [0, 1, 2] rfl rfl ?_ ?_) ?_ fun (f, i, o') hi => ?_
    · exact rfl
    · repeat' first | exact trivial | exact ⟨rfl, rfl⟩ | refine And.intro ?_ ?_
    · exact ⟨0, rfl, Nat.zero_le _, by simp [encAll, AddX.out], by simp⟩
    obtain ⟨k, rfl, hk, ho, hf⟩ := hi
    have hk : k ≤ l.length := hk
    have ho : o' = o ++ encAll (l.take k) := ho
    have hlo : o'.length ≤ o.length + 10 * l.length := by rw [ho, List.length_append]; have := encAll_take_len h1 k; omega
    cases f with
    | true =>
      obtain rfl : k = 0 := hf.1 rfl
      have ho2 : o' = o := by rw [ho]; simp [encAll]
      repeat' first
        | (refine Go.mk ?_; conv => whnf)
        | refine Need.go ?_ ?_
        | refine NilG.go (fun _ => ?_) (fun _ => ?_)
        | refine Br.dec (fun _ => ?_) (fun _ => ?_)
        | refine Br.go (fun _ => ?_) (fun _ => ?_)
        | refine draw_go hT hP mixed ?_
        | refine round_go hT hP ?_
      all_goals first
        | exact of_decide_eq_true rfl
        | (show 0 ≤ ((0 : Nat) : Int) ∧ ((0 : Nat) : Int) < (l.length : Int)
           omega)
        | (show (((0 : Nat) : Int)).toNat < l.length
           omega)
        | (rename_i h
           have h : ((0 : Nat) : Int) < (l.length : Int) := h
           exact h1 _ (getD_mem (k := 0) (by omega)))
        | (rename_i h
           have h : ((0 : Nat) : Int) < (l.length : Int) := h
           have hz := encI_len (h1 _ (getD_mem (k := 0) (by omega)))
           show (o'.length + (encI (l.getD 0 0)).length) * 1 ≤ 140737488355328
           omega)
        | (rename_i h
           have h : ((0 : Nat) : Int) < (l.length : Int) := h
           apply Exists.intro (false, _, _)
           refine And.intro ?_ (And.intro ?_ (Le.mk [] [0, 1, 2, 4] rfl rfl ?hh ?ht))
           case hh => exact rfl
           case ht => repeat' first | exact trivial | exact ⟨rfl, rfl⟩ | refine And.intro ?_ ?_
           · exact addI_go (x := .O1 l o) (f := true) (k := 0) (by show 0 < l.length; omega) ho (by omega)
           · show ((l.length : Int) - IntKind.i64.wrap (((0 : Nat) : Int) + 1)).toNat < ((l.length : Int) - ((0 : Nat) : Int)).toNat
             rw [up_i (by omega)]; omega)
        | (rename_i h
           have h : ¬ ((0 : Nat) : Int) < (l.length : Int) := h
           obtain rfl : l = [] := List.eq_nil_of_length_eq_zero (by omega)
           subst ho2
           exact .mk [] [0, 1, 2] _ rfl rfl rfl rfl rfl rfl rfl)
        | skip
    | false =>
      repeat' first
        | (refine Go.mk ?_; conv => whnf)
        | refine Need.go ?_ ?_
        | refine NilG.go (fun _ => ?_) (fun _ => ?_)
        | refine Br.dec (fun _ => ?_) (fun _ => ?_)
        | refine Br.go (fun _ => ?_) (fun _ => ?_)
        | refine draw_go hT hP mixed ?_
        | refine round_go hT hP ?_
      all_goals first
        | exact of_decide_eq_true rfl
        | (show 0 ≤ (k : Int) ∧ (k : Int) < (l.length : Int)
           omega)
        | (show ((k : Int)).toNat < l.length
           omega)
        | (rename_i h
           have h : (k : Int) < (l.length : Int) := h
           exact h1 _ (getD_mem (k := k) (by omega)))
        | (rename_i h
           have h : (k : Int) < (l.length : Int) := h
           have hz := encI_len (h1 _ (getD_mem (k := k) (by omega)))
           show (o'.length + (encI (l.getD k 0)).length) * 1 ≤ 140737488355328
           omega)
        | (rename_i h
           have h : (k : Int) < (l.length : Int) := h
           apply Exists.intro (false, _, _)
           refine And.intro ?_ (And.intro ?_ (Le.mk [] [0, 1, 2, 5] rfl rfl ?hh ?ht))
           case hh => exact rfl
           case ht => repeat' first | exact trivial | exact ⟨rfl, rfl⟩ | refine And.intro ?_ ?_
           · exact addI_go (x := .O1 l o) (f := false) (k := k) (by show k < l.length; omega) ho (by omega)
           · show ((l.length : Int) - IntKind.i64.wrap ((k : Int) + 1)).toNat < ((l.length : Int) - (k : Int)).toNat
             rw [up_i (by omega)]; omega)
        | (rename_i h
           have h : ¬ (k : Int) < (l.length : Int) := h
           rw [List.take_of_length_le (by omega)] at ho
           subst ho
           cases l with
           | nil => exact absurd (hf.2 (by simp at hk; omega)) (by decide)
           | cons a r => exact .mk [] [0, 1, 2, 3] _ rfl rfl rfl rfl rfl rfl rfl)
        | skip
  | R1 l o =>
    have h1 : ∀ n ∈ l, i64P n := h1
    have h2 : o.length + 10 * l.length ≤ 35184372088832 := h2
    repeat' first
      | (refine Go.mk ?_; conv => whnf)
      | refine Need.go ?_ ?_
      | refine NilG.go (fun _ => ?_) (fun _ => ?_)
      | refine Br.dec (fun _ => ?_) (fun _ => ?_)
      | refine Br.go (fun _ => ?_) (fun _ => ?_)
      | refine draw_go hT hP mixed ?_
      | refine round_go hT hP ?_
    all_goals first
      | exact of_decide_eq_true rfl
      | skip
    refine loop_go hT hP (X := Bool × Int × List Int) (pkAddS (.R1 l o)) (addI (.R1 l o)) (addM (.R1 l o)) (true, 0, o) (Le.mk [] [0, 1] rfl rfl ?_ ?_) ?_ fun (f, i, o') hi => ?_
    · exact rfl
    · repeat' first | exact trivial | exact ⟨rfl, rfl⟩ | refine And.intro ?_ ?_
    · exact ⟨0, rfl, Nat.zero_le _, by simp [encAll, AddX.out], by simp⟩
    obtain ⟨k, rfl, hk, ho, hf⟩ := hi
    have hk : k ≤ l.length := hk
    have ho : o' = o ++ encAll (l.take k) := ho
    have hlo : o'.length ≤ o.length + 10 * l.length := by rw [ho, List.length_append]; have := encAll_take_len h1 k; omega
    cases f with
    | true =>
      obtain rfl : k = 0 := hf.1 rfl
      have ho2 : o' = o := by rw [ho]; simp [encAll]
      repeat' first
        | (refine Go.mk ?_; conv => whnf)
        | refine Need.go ?_ ?_
        | refine NilG.go (fun _ => ?_) (fun _ => ?_)
        | refine Br.dec (fun _ => ?_) (fun _ => ?_)
        | refine Br.go (fun _ => ?_) (fun _ => ?_)
        | refine draw_go hT hP mixed ?_
        | refine round_go hT hP ?_
      all_goals first
        | exact of_decide_eq_true rfl
        | (show 0 ≤ ((0 : Nat) : Int) ∧ ((0 : Nat) : Int) < (l.length : Int)
           omega)
        | (show (((0 : Nat) : Int)).toNat < l.length
           omega)
        | (rename_i h
           have h : ((0 : Nat) : Int) < (l.length : Int) := h
           exact h1 _ (getD_mem (k := 0) (by omega)))
        | (rename_i h
           have h : ((0 : Nat) : Int) < (l.length : Int) := h
           have hz := encI_len (h1 _ (getD_mem (k := 0) (by omega)))
           show (o'.length + (encI (l.getD 0 0)).length) * 1 ≤ 140737488355328
           omega)
        | (rename_i h
           have h : ((0 : Nat) : Int) < (l.length : Int) := h
           apply Exists.intro (false, _, _)
           refine And.intro ?_ (And.intro ?_ (Le.mk [] [0, 1, 3] rfl rfl ?hh ?ht))
           case hh => exact rfl
           case ht => repeat' first | exact trivial | exact ⟨rfl, rfl⟩ | refine And.intro ?_ ?_
           · exact addI_go (x := .R1 l o) (f := true) (k := 0) (by show 0 < l.length; omega) ho (by omega)
           · show ((l.length : Int) - IntKind.i64.wrap (((0 : Nat) : Int) + 1)).toNat < ((l.length : Int) - ((0 : Nat) : Int)).toNat
             rw [up_i (by omega)]; omega)
        | (rename_i h
           have h : ¬ ((0 : Nat) : Int) < (l.length : Int) := h
           obtain rfl : l = [] := List.eq_nil_of_length_eq_zero (by omega)
           subst ho2
           exact .mk [] [0, 1] _ rfl rfl rfl rfl rfl rfl rfl)
        | skip
    | false =>
      repeat' first
        | (refine Go.mk ?_; conv => whnf)
        | refine Need.go ?_ ?_
        | refine NilG.go (fun _ => ?_) (fun _ => ?_)
        | refine Br.dec (fun _ => ?_) (fun _ => ?_)
        | refine Br.go (fun _ => ?_) (fun _ => ?_)
        | refine draw_go hT hP mixed ?_
        | refine round_go hT hP ?_
      all_goals first
        | exact of_decide_eq_true rfl
        | (show 0 ≤ (k : Int) ∧ (k : Int) < (l.length : Int)
           omega)
        | (show ((k : Int)).toNat < l.length
           omega)
        | (rename_i h
           have h : (k : Int) < (l.length : Int) := h
           exact h1 _ (getD_mem (k := k) (by omega)))
        | (rename_i h
           have h : (k : Int) < (l.length : Int) := h
           have hz := encI_len (h1 _ (getD_mem (k := k) (by omega)))
           show (o'.length + (encI (l.getD k 0)).length) * 1 ≤ 140737488355328
           omega)
        | (rename_i h
           have h : (k : Int) < (l.length : Int) := h
           apply Exists.intro (false, _, _)
           refine And.intro ?_ (And.intro ?_ (Le.mk [] [0, 1, 4] rfl rfl ?hh ?ht))
           case hh => exact rfl
           case ht => repeat' first | exact trivial | exact ⟨rfl, rfl⟩ | refine And.intro ?_ ?_
           · exact addI_go (x := .R1 l o) (f := false) (k := k) (by show k < l.length; omega) ho (by omega)
           · show ((l.length : Int) - IntKind.i64.wrap ((k : Int) + 1)).toNat < ((l.length : Int) - (k : Int)).toNat
             rw [up_i (by omega)]; omega)
        | (rename_i h
           have h : ¬ (k : Int) < (l.length : Int) := h
           rw [List.take_of_length_le (by omega)] at ho
           subst ho
           cases l with
           | nil => exact absurd (hf.2 (by simp at hk; omega)) (by decide)
           | cons a r => exact .mk [] [0, 1, 2] _ rfl rfl rfl rfl rfl rfl rfl)
        | skip

end Go.Proofs.YtblnigjmcjpopaaGreat

/- A machine's state as bytes: the reference. -/
namespace Go.Proofs.YtblnigjmcjpopaaGreat
open Go.Fw
set_option linter.unusedVariables false
set_option linter.unusedSimpArgs false
set_option linter.constructorNameAsVariable false
set_option maxRecDepth 100000

abbrev DevT : Ty := .pair (.sl (.int .i64)) (.sl (.int .u8))
abbrev MachT : Ty := .pair (.int .i64) (.pair CoreT (.pair (.sl DevT) (.pair (.int .i64) (.pair (.int .i64) (.int .i64)))))
abbrev gM : Sig := ⟨true, MachT⟩
abbrev Mach := Int × Kor × List Dv × Int × Int × Int
def headL (m : Mach) : List Int := [m.1] ++ m.2.1.1 ++ [m.2.1.2.1, m.2.1.2.2.1, cond m.2.1.2.2.2 1 0, m.2.2.2.1, m.2.2.2.2.1, m.2.2.2.2.2, (m.2.2.1.length : Int)]
def devL (d : Dv) : List Int := encI (d.1.length : Int) ++ encAll d.1 ++ encI (d.2.length : Int) ++ d.2
def packF (m : Mach) : List Int := encAll (headL m) ++ m.2.2.1.flatMap devL
def devSz (d : Dv) : Nat := 10 * d.1.length + d.2.length + 20
def packP (m : Mach) : Prop := (∀ n ∈ headL m, i64P n) ∧ (∀ d ∈ m.2.2.1, ∀ n ∈ d.1, i64P n) ∧ m.2.1.1.length = 9 ∧ (m.2.2.1.map devSz).sum ≤ 1099511627776

def seenbS : PSpec := ⟨[gB], fun (b, _) => (none, I (cond b 1 0), [])⟩
theorem seenb_ok : GoodF Tryz.prog 39 seenbS.spec := by
  have hT := tab_ok (fs := []) tree_ok
  have hP : SpecsOk Tryz.prog (tab tree []) := specs_nil
  refine seenbS.good (fn := Tryz.f39) hT hP Tryz.func39 (by kernel_rfl) rfl fun (b : Bool) _ => ?_
  cases b
  all_goals
    repeat' first
      | (refine Go.mk ?_; conv => whnf)
      | refine Need.go ?_ ?_
      | refine NilG.go (fun _ => ?_) (fun _ => ?_)
      | refine Br.dec (fun _ => ?_) (fun _ => ?_)
      | refine Br.go (fun _ => ?_) (fun _ => ?_)
      | refine draw_go hT hP mixed ?_
      | refine round_go hT hP ?_
  all_goals exact .mk [] [] _ rfl rfl rfl rfl rfl rfl rfl

theorem headL_len (m : Mach) (h : m.2.1.1.length = 9) : (headL m).length = 17 := by unfold headL; simp [h]
theorem sum_take_le (l : List Nat) (k : Nat) : (l.take k).sum ≤ l.sum := by
  have := List.sum_append_nat (l₁ := l.take k) (l₂ := l.drop k)
  rw [List.take_append_drop] at this
  omega
theorem devL_len {d : Dv} (h : ∀ n ∈ d.1, i64P n) (h2 : d.1.length ≤ 4611686018427387904) (h3 : d.2.length ≤ 4611686018427387904) : (devL d).length ≤ devSz d := by
  have a1 := encAll_len h
  have a2 := encI_len (n := (d.1.length : Int)) (by unfold i64P; omega)
  have a3 := encI_len (n := (d.2.length : Int)) (by unfold i64P; omega)
  unfold devL devSz
  simp only [List.length_append]
  omega
theorem flat_take {ds : List Dv} {k : Nat} (h : k < ds.length) : (ds.take (k + 1)).flatMap devL = (ds.take k).flatMap devL ++ devL (ds.getD k ([], [])) := by
  rw [List.take_add_one, List.flatMap_append, List.getD_eq_getElem?_getD, List.getElem?_eq_getElem h]
  simp
theorem dev_mem {ds : List Dv} {k : Nat} (h : k < ds.length) : ds.getD k ([], []) ∈ ds := by
  rw [List.getD_eq_getElem?_getD, List.getElem?_eq_getElem h]
  exact List.getElem_mem h
theorem devSz_le {ds : List Dv} {d : Dv} (h : d ∈ ds) : devSz d ≤ (ds.map devSz).sum := by
  induction ds with
  | nil => cases h
  | cons x r ih =>
    simp only [List.map_cons, List.sum_cons]
    rcases List.mem_cons.1 h with rfl | h
    · omega
    · have := ih h; omega
theorem devs_len (ds : List Dv) : 20 * ds.length ≤ (ds.map devSz).sum := by
  induction ds with
  | nil => simp
  | cons x r ih => simp only [List.map_cons, List.sum_cons, List.length_cons]; unfold devSz at *; omega
theorem flat_len {ds : List Dv} (h : ∀ d ∈ ds, ∀ n ∈ d.1, i64P n) (hs : (ds.map devSz).sum ≤ 1099511627776) : (ds.flatMap devL).length ≤ (ds.map devSz).sum := by
  induction ds with
  | nil => simp
  | cons x r ih =>
    have h1 := devSz_le (List.mem_cons_self (a := x) (l := r))
    have h2 : devSz x ≤ 1099511627776 := Nat.le_trans h1 hs
    unfold devSz at h2
    have h3 := devL_len (h x (List.mem_cons_self ..)) (by omega) (by omega)
    simp only [List.map_cons, List.sum_cons] at hs
    have h4 := ih (fun d hd => h d (List.mem_cons_of_mem _ hd)) (by omega)
    simp only [List.flatMap_cons, List.length_append, List.map_cons, List.sum_cons]
    omega
theorem flat_take_len {ds : List Dv} (h : ∀ d ∈ ds, ∀ n ∈ d.1, i64P n) (hs : (ds.map devSz).sum ≤ 1099511627776) (k : Nat) : ((ds.take k).flatMap devL).length ≤ (ds.map devSz).sum := by
  have e := sum_take_le (ds.map devSz) k
  rw [← List.map_take] at e
  exact Nat.le_trans (flat_len (fun d hd => h d (List.mem_of_mem_take hd)) (by omega)) e
def packS : PSpec := ⟨[gM], fun (m, _) => (some (packP m), .cell (.own 0), [.arr (.int .u8) (packF m)])⟩
set_option maxHeartbeats 8000000 in
theorem packed_ok : GoodF Tryz.prog 72 packS.spec := by
  have hT := tab_ok (fs := [(39, seenbS.spec), (114, addWS.spec)]) tree_ok
  have hP : SpecsOk Tryz.prog (tab tree [(39, seenbS.spec), (114, addWS.spec)]) := specs_cons seenb_ok (specs_cons pkAdd_ok specs_nil)
  refine packS.good (fn := Tryz.f72) hT hP Tryz.func72 (by kernel_rfl) rfl fun (m : Mach) hq => ?_
  have hp : packP m := hq _ rfl
  clear hq
  obtain ⟨tm, ⟨r, op, at_, nmi⟩, ds, bd, ba, bdt⟩ := m
  obtain ⟨h1, h2, h3, h4⟩ := hp
  have h3 : r.length = 9 := h3
  repeat' first
    | (refine Go.mk ?_; conv => whnf)
    | refine Need.go ?_ ?_
    | refine NilG.go (fun _ => ?_) (fun _ => ?_)
    | refine Br.dec (fun _ => ?_) (fun _ => ?_)
    | refine Br.go (fun _ => ?_) (fun _ => ?_)
    | refine draw_go hT hP mixed ?_
    | refine round_go hT hP ?_
  all_goals first
    | exact of_decide_eq_true rfl
    | skip
  all_goals
    have h1 : ∀ n ∈ headL (tm, (r, op, at_, nmi), ds, bd, ba, bdt), i64P n := h1
    have h2 : ∀ d ∈ ds, ∀ n ∈ d.1, i64P n := h2
    have h4 : (ds.map devSz).sum ≤ 1099511627776 := h4
    have hH := headL_len (tm, (r, op, at_, nmi), ds, bd, ba, bdt) h3
    have hHl := encAll_len h1
    rw [hH] at hHl
  · show (1 + r.length) * 8 ≤ 140737488355328
    omega
  · show (([tm] ++ r).length + 7) * 8 ≤ 140737488355328
    simp; omega
  · exact ⟨h1, by show 0 + 10 * (headL (tm, (r, op, at_, nmi), ds, bd, ba, bdt)).length ≤ _; omega⟩
  · have hds := devs_len ds
    refine up_go hT hP ds.length (fun i (o : List Int) => St.mk [.dead, .dead, .dead, .dead, .cell (.ptr 0 0), .cell (.fn 114 [0]), .dead, .dead, .dead, .dead, .dead, .dead, .dead, .dead, .dead, .dead, .dead, .dead, .dead, .dead, .dead, .dead, .dead, .dead, .dead, .dead, .dead, .dead, .dead, .dead, .dead, .dead, .dead, .dead, .dead, .dead, .dead, .dead, .dead, .dead, .dead, .dead, .dead, .dead, .dead, .dead, .dead, .dead, .cell (.ro DevT ds), I (ds.length : Int), I i, .dead, .dead, .dead, .dead, .dead, .dead, .dead, .dead, .dead, .dead, .dead, .dead, .dead, .dead, .dead, .dead, .dead, .dead, .dead, .dead, .dead, .dead, .dead, .dead, .dead] [some (.var [.own 1]), some (.arr (.int .u8) o)])
      (fun k o => o = encAll (headL (tm, (r, op, at_, nmi), ds, bd, ba, bdt)) ++ (ds.take k).flatMap devL) (encAll (headL (tm, (r, op, at_, nmi), ds, bd, ba, bdt))) (Le.mk [] [6, 7] rfl rfl ?_ ?_) ?_ fun k o hk hi => ?_
    · exact rfl
    · repeat' first | exact trivial | exact ⟨rfl, rfl⟩ | refine And.intro ?_ ?_
    · simp
    repeat' first
      | (refine Go.mk ?_; conv => whnf)
      | refine Need.go ?_ ?_
      | refine NilG.go (fun _ => ?_) (fun _ => ?_)
      | refine Br.dec (fun _ => ?_) (fun _ => ?_)
      | refine Br.go (fun _ => ?_) (fun _ => ?_)
      | refine draw_go hT hP mixed ?_
      | refine round_go hT hP ?_
    all_goals first
      | exact of_decide_eq_true rfl
      | skip
    · rename_i hlt
      have hlt : (k : Int) < (ds.length : Int) := hlt
      show 0 ≤ (k : Int) ∧ (k : Int) < (ds.length : Int)
      omega
    · rename_i hlt
      have hlt : (k : Int) < (ds.length : Int) := hlt
      have hm : List.getD (α := Den DevT) ds ((k : Int)).toNat (dflt DevT) ∈ ds := dev_mem (by omega)
      have hlo : o.length ≤ 170 + (ds.map devSz).sum := by
        rw [hi, List.length_append]
        have := flat_take_len h2 h4 k
        omega
      have hz := devSz_le hm
      generalize List.getD (α := Den DevT) ds ((k : Int)).toNat (dflt DevT) = D at *
      obtain ⟨N, M⟩ := D
      have hz : 10 * N.length + M.length + 20 ≤ (ds.map devSz).sum := hz
      refine ⟨fun n hn => ?_, ?_⟩
      · have hn : n ∈ [((N.length : Nat) : Int)] := hn
        rw [List.mem_singleton] at hn
        subst hn
        unfold i64P
        omega
      · show o.length + 10 * 1 ≤ 35184372088832
        omega
    · rename_i hlt
      have hlt : (k : Int) < (ds.length : Int) := hlt
      have hm : List.getD (α := Den DevT) ds ((k : Int)).toNat (dflt DevT) ∈ ds := dev_mem (by omega)
      have hft : (ds.take (k + 1)).flatMap devL = (ds.take k).flatMap devL ++ devL (List.getD (α := Den DevT) ds ((k : Int)).toNat (dflt DevT)) := flat_take (by omega)
      have hlo : o.length ≤ 170 + (ds.map devSz).sum := by
        rw [hi, List.length_append]
        have := flat_take_len h2 h4 k
        omega
      generalize List.getD (α := Den DevT) ds ((k : Int)).toNat (dflt DevT) = D at *
      have hD := h2 D hm
      have hz := devSz_le hm
      obtain ⟨N, M⟩ := D
      have hD : ∀ n ∈ N, i64P n := hD
      have hz : 10 * N.length + M.length + 20 ≤ (ds.map devSz).sum := hz
      cases N with
      | nil =>
        conv => whnf
        repeat' first
          | (refine Go.mk ?_; conv => whnf)
          | refine Need.go ?_ ?_
          | refine NilG.go (fun _ => ?_) (fun _ => ?_)
          | refine Br.dec (fun _ => ?_) (fun _ => ?_)
          | refine Br.go (fun _ => ?_) (fun _ => ?_)
          | refine draw_go hT hP mixed ?_
          | refine round_go hT hP ?_
        all_goals
          have eN := encI_len (n := (((([] : List Int)).length : Nat) : Int)) (by unfold i64P; omega)
          have eM := encI_len (n := ((M.length : Nat) : Int)) (by unfold i64P; omega)
          have eA := encAll_len hD
        all_goals first
          | exact of_decide_eq_true rfl
          | (refine ⟨hD, ?_⟩
             show (o ++ (encI (((([] : List Int)).length : Nat) : Int) ++ [])).length + 10 * (([] : List Int)).length ≤ 35184372088832
             simp only [List.length_append, List.length_nil]; first | omega | (simp only [List.length_nil] at eN; omega))
          | (refine ⟨fun n hn => ?_, ?_⟩
             · have hn : n ∈ [((M.length : Nat) : Int)] := hn
               rw [List.mem_singleton] at hn
               subst hn
               unfold i64P
               omega
             · show (o ++ (encI (((([] : List Int)).length : Nat) : Int) ++ [])).length + 10 * 1 ≤ 35184372088832
               simp only [List.length_append, List.length_nil]; first | omega | (simp only [List.length_nil] at eN; omega))
          | (show ((o ++ (encI (((([] : List Int)).length : Nat) : Int) ++ []) ++ (encI ((M.length : Nat) : Int) ++ [])).length + M.length) * 1 ≤ 140737488355328
             simp only [List.length_append, List.length_nil]; first | omega | (simp only [List.length_nil] at eN; omega))
          | skip
        apply Exists.intro
        apply Exists.intro _
        refine And.intro (And.intro ?lt201 (And.intro ?ei201 ?inv201)) (Le.mk [] [0, 7] rfl rfl ?hh201 ?ht201)
        case hh201 => exact rfl
        case ht201 => repeat' first | exact trivial | exact ⟨rfl, rfl⟩ | refine And.intro ?_ ?_
        case lt201 => omega
        case ei201 => exact up_i (by omega)
        · show o ++ (encI (((([] : List Int)).length : Nat) : Int) ++ []) ++ (encI ((M.length : Nat) : Int) ++ []) ++ M = _
          rw [hft, hi]
          simp [devL, encAll]
      | cons a N' =>
        conv => whnf
        repeat' first
          | (refine Go.mk ?_; conv => whnf)
          | refine Need.go ?_ ?_
          | refine NilG.go (fun _ => ?_) (fun _ => ?_)
          | refine Br.dec (fun _ => ?_) (fun _ => ?_)
          | refine Br.go (fun _ => ?_) (fun _ => ?_)
          | refine draw_go hT hP mixed ?_
          | refine round_go hT hP ?_
        all_goals
          have eN := encI_len (n := (((a :: N').length : Nat) : Int)) (by unfold i64P; omega)
          have eM := encI_len (n := ((M.length : Nat) : Int)) (by unfold i64P; omega)
          have eA := encAll_len hD
        all_goals first
          | exact of_decide_eq_true rfl
          | (refine ⟨hD, ?_⟩
             show (o ++ (encI (((a :: N').length : Nat) : Int) ++ [])).length + 10 * (a :: N').length ≤ 35184372088832
             simp only [List.length_append, List.length_nil]; first | omega | (simp only [List.length_nil] at eN; omega))
          | (refine ⟨fun n hn => ?_, ?_⟩
             · have hn : n ∈ [((M.length : Nat) : Int)] := hn
               rw [List.mem_singleton] at hn
               subst hn
               unfold i64P
               omega
             · show (o ++ (encI (((a :: N').length : Nat) : Int) ++ []) ++ encAll (a :: N')).length + 10 * 1 ≤ 35184372088832
               simp only [List.length_append, List.length_nil]; first | omega | (simp only [List.length_nil] at eN; omega))
          | (show ((o ++ (encI (((a :: N').length : Nat) : Int) ++ []) ++ encAll (a :: N') ++ (encI ((M.length : Nat) : Int) ++ [])).length + M.length) * 1 ≤ 140737488355328
             simp only [List.length_append, List.length_nil]; first | omega | (simp only [List.length_nil] at eN; omega))
          | skip
        apply Exists.intro
        apply Exists.intro _
        refine And.intro (And.intro ?lt241 (And.intro ?ei241 ?inv241)) (Le.mk [] [0, 8] rfl rfl ?hh241 ?ht241)
        case hh241 => exact rfl
        case ht241 => repeat' first | exact trivial | exact ⟨rfl, rfl⟩ | refine And.intro ?_ ?_
        case lt241 => omega
        case ei241 => exact up_i (by omega)
        · show o ++ (encI (((a :: N').length : Nat) : Int) ++ []) ++ encAll (a :: N') ++ (encI ((M.length : Nat) : Int) ++ []) ++ M = _
          rw [hft, hi]
          simp [devL, encAll]
    · rename_i hlt
      have hlt : ¬ (k : Int) < (ds.length : Int) := hlt
      refine .mk [] [1] _ rfl rfl rfl rfl rfl (blk_u8 ?_) rfl
      rw [hi, List.take_of_length_le (by omega)]; rfl

end Go.Proofs.YtblnigjmcjpopaaGreat

/- Slices cloned (printed by gensl.py). -/
namespace Go.Proofs.YtblnigjmcjpopaaGreat
open Go.Fw
set_option linter.unusedVariables false
set_option linter.unusedSimpArgs false
set_option linter.constructorNameAsVariable false
set_option maxRecDepth 100000
def clDevS : PSpec := ⟨[⟨false, .sl (DevT)⟩], fun (l, _) => (some (List.length l * 48 ≤ 140737488351232), .cell (.own 0), [.arr (DevT) l])⟩
theorem clDev_ok : GoodF Tryz.prog 26 clDevS.spec := by
  have hT := tab_ok (fs := []) tree_ok
  have hP : SpecsOk Tryz.prog (tab tree []) := specs_nil
  refine clDevS.good (fn := Tryz.f26) hT hP Tryz.func26 (by kernel_rfl) rfl fun (l : List (Den (DevT))) hq => ?_
  have hl : l.length * 48 ≤ 140737488351232 := hq _ rfl
  clear hq
  repeat' first
    | (refine Go.mk ?_; conv => whnf)
    | refine Need.go ?_ ?_
    | refine NilG.go (fun _ => ?_) (fun _ => ?_)
    | refine Br.dec (fun _ => ?_) (fun _ => ?_)
    | refine Br.go (fun _ => ?_) (fun _ => ?_)
    | refine draw_go hT hP mixed ?_
    | refine round_go hT hP ?_
  all_goals first
    | exact of_decide_eq_true rfl
    | skip
  · rename_i h
    obtain rfl : l = [] := List.eq_nil_of_length_eq_zero h
    exact .le (Le.nil 2 (DevT) rfl) (.mk [] [0] _ rfl rfl rfl rfl rfl rfl rfl)
  · show (0 + l.length) * 48 ≤ 140737488355328
    omega
  · exact .mk [] [1] _ rfl rfl rfl rfl rfl rfl rfl

def clIntS : PSpec := ⟨[⟨false, .sl (.int .i64)⟩], fun (l, _) => (some (List.length l * 8 ≤ 140737488351232), .cell (.own 0), [.arr (.int .i64) l])⟩
theorem clInt_ok : GoodF Tryz.prog 116 clIntS.spec := by
  have hT := tab_ok (fs := []) tree_ok
  have hP : SpecsOk Tryz.prog (tab tree []) := specs_nil
  refine clIntS.good (fn := Tryz.f116) hT hP Tryz.func116 (by kernel_rfl) rfl fun (l : List (Den (.int .i64))) hq => ?_
  have hl : l.length * 8 ≤ 140737488351232 := hq _ rfl
  clear hq
  repeat' first
    | (refine Go.mk ?_; conv => whnf)
    | refine Need.go ?_ ?_
    | refine NilG.go (fun _ => ?_) (fun _ => ?_)
    | refine Br.dec (fun _ => ?_) (fun _ => ?_)
    | refine Br.go (fun _ => ?_) (fun _ => ?_)
    | refine draw_go hT hP mixed ?_
    | refine round_go hT hP ?_
  all_goals first
    | exact of_decide_eq_true rfl
    | skip
  · rename_i h
    obtain rfl : l = [] := List.eq_nil_of_length_eq_zero h
    exact .le (Le.nil 2 (.int .i64) rfl) (.mk [] [0] _ rfl rfl rfl rfl rfl rfl rfl)
  · show (0 + l.length) * 8 ≤ 140737488355328
    omega
  · exact .mk [] [1] _ rfl rfl rfl rfl rfl rfl rfl

def clByteS : PSpec := ⟨[⟨false, .sl (.int .u8)⟩], fun (l, _) => (some (List.length l * 1 ≤ 140737488351232), .cell (.own 0), [.arr (.int .u8) l])⟩
theorem clByte_ok : GoodF Tryz.prog 117 clByteS.spec := by
  have hT := tab_ok (fs := []) tree_ok
  have hP : SpecsOk Tryz.prog (tab tree []) := specs_nil
  refine clByteS.good (fn := Tryz.f117) hT hP Tryz.func117 (by kernel_rfl) rfl fun (l : List (Den (.int .u8))) hq => ?_
  have hl : l.length * 1 ≤ 140737488351232 := hq _ rfl
  clear hq
  repeat' first
    | (refine Go.mk ?_; conv => whnf)
    | refine Need.go ?_ ?_
    | refine NilG.go (fun _ => ?_) (fun _ => ?_)
    | refine Br.dec (fun _ => ?_) (fun _ => ?_)
    | refine Br.go (fun _ => ?_) (fun _ => ?_)
    | refine draw_go hT hP mixed ?_
    | refine round_go hT hP ?_
  all_goals first
    | exact of_decide_eq_true rfl
    | skip
  · rename_i h
    obtain rfl : l = [] := List.eq_nil_of_length_eq_zero h
    exact .le (Le.nil 2 (.int .u8) rfl) (.mk [] [0] _ rfl rfl rfl rfl rfl rfl rfl)
  · show (0 + l.length) * 1 ≤ 140737488355328
    omega
  · exact .mk [] [1] _ rfl rfl rfl rfl rfl rfl rfl

end Go.Proofs.YtblnigjmcjpopaaGreat

/- What all chips share: their result, the choice of a register. -/
namespace Go.Proofs.YtblnigjmcjpopaaGreat
open Go.Fw
set_option linter.unusedVariables false
set_option linter.unusedSimpArgs false
set_option maxRecDepth 100000

abbrev devR : AV := .agg [.own 0, .imm (.slice none 0 0)]
def pickF (l : List Int) (a : Int) : Int := if a < 0 then 0 else if a ≥ l.length then 0 else l.getD a.toNat 0
def pickS : WSpec := ⟨List Int × Int, fun x => [.c (.own 0), .c (.ptr 1 0)], fun x => [.arr (.int .i64) x.1, .var [iv .i64 x.2]], fun a b => (match a, b with | [.c (.own 0), .c (.ptr 1 0)], [.arr (.int .i64) l, .var [.imm (.int .i64 n)]] => some (l, n) | _, _ => none),
  fun x => (none, I (pickF x.1 x.2), [some (.arr (.int .i64) x.1), some (.var [iv .i64 x.2])], [])⟩
theorem pick_ok : GoodF Tryz.prog 37 pickS.spec := by
  have hT := tab_ok (fs := []) tree_ok
  have hP : SpecsOk Tryz.prog (tab tree []) := specs_nil
  refine pickS.good (fn := Tryz.f37) hT hP Tryz.func37 (by kernel_rfl) rfl ?_ fun ((l, a) : List Int × Int) _ => ?_
  · intro a b x h
    simp only [pickS] at h
    split at h
    · injection h with h; subst h; exact ⟨rfl, rfl⟩
    · cases h
  repeat' first
    | (refine Go.mk ?_; conv => whnf)
    | refine Need.go ?_ ?_
    | refine NilG.go (fun _ => ?_) (fun _ => ?_)
    | refine Br.dec (fun _ => ?_) (fun _ => ?_)
    | refine Br.go (fun _ => ?_) (fun _ => ?_)
    | refine draw_go hT hP mixed ?_
    | refine round_go hT hP ?_
  · rename_i h
    refine .mk [] [0, 1] _ rfl rfl rfl rfl rfl rfl (imm_int ?_)
    show 0 = pickF l a
    rw [pickF, if_pos h]
  · rename_i h h2
    refine .mk [] [0, 1] _ rfl rfl rfl rfl rfl rfl (imm_int ?_)
    show 0 = pickF l a
    rw [pickF, if_neg h, if_pos h2]
  · dsimp only at *
    omega
  · dsimp only at *
    omega
  · rename_i h h2
    refine .mk [] [0, 1] _ rfl rfl rfl rfl rfl rfl (imm_int ?_)
    show _ = pickF l a
    rw [pickF, if_neg h, if_neg h2]; rfl

theorem pick_no {l : List Int} {a : Int} (h : ∀ i : Nat, i < l.length → ¬ a = i) : pickF l a = 0 := by
  unfold pickF
  split
  · rfl
  · split
    · rfl
    · rename_i h1 h2
      exact absurd (by omega : a = (a.toNat : Int)) (h a.toNat (by omega))

end Go.Proofs.YtblnigjmcjpopaaGreat

/- The chip that sends and receives bytes: forming, cycles. -/
namespace Go.Proofs.YtblnigjmcjpopaaGreat
open Go.Fw
set_option linter.unusedVariables false
set_option linter.unusedSimpArgs false
set_option maxRecDepth 100000

theorem blk_eqs {l l' : List Int} (h : l = l') : [some (Blk.arr (.int .i64) l)] = [some (Blk.arr (.int .i64) l')] := by rw [h]
def iterF (f : List Int → List Int) : Nat → List Int → List Int
  | 0, l => l
  | n + 1, l => iterF f n (f l)
theorem iterF_add (f : List Int → List Int) : ∀ (m n : Nat) (l : List Int), iterF f (m + n) l = iterF f n (iterF f m l)
  | 0, n, l => by rw [Nat.zero_add]; rfl
  | m + 1, n, l => by
    have e : m + 1 + n = (m + n) + 1 := by omega
    rw [e]
    exact iterF_add f m n (f l)
theorem iterF_succ (f : List Int → List Int) (n : Nat) (l : List Int) : iterF f (n + 1) l = f (iterF f n l) := by
  rw [iterF_add f n 1]; rfl
theorem iterF_fix {f : List Int → List Int} {l : List Int} (h : f l = l) : ∀ n, iterF f n l = l
  | 0 => rfl
  | n + 1 => by rw [iterF, h]; exact iterF_fix h n

def serC : Cv := (ByteArray.empty, 5, 0, 0, [])
abbrev s0 (N : List Int) : Int := N.getD 0 0 % 256
abbrev s1 (N : List Int) : Int := N.getD 1 0 % 64
abbrev s2 (N : List Int) : Int := N.getD 2 0 % 256
abbrev s3 (N : List Int) : Int := N.getD 3 0 % 2
abbrev s4 (N : List Int) : Int := N.getD 4 0 % 2
abbrev s5 (N : List Int) : Int := N.getD 5 0 % 4
abbrev s6 (N : List Int) : Int := N.getD 6 0 % 1048576
abbrev s7 (N : List Int) : Int := N.getD 7 0 % 256
def serN (N : List Int) : List Int := [s0 N, s1 N, s2 N, s3 N, s4 N, s5 N, s6 N, s7 N]
theorem serN_eq (N : List Int) : serN N = [s0 N, s1 N, s2 N, s3 N, s4 N, s5 N, s6 N, s7 N] := rfl
theorem sR (N : List Int) : (0 ≤ s0 N ∧ s0 N < 256) ∧ (0 ≤ s1 N ∧ s1 N < 64) ∧ (0 ≤ s2 N ∧ s2 N < 256) ∧ (0 ≤ s3 N ∧ s3 N < 2) ∧ (0 ≤ s4 N ∧ s4 N < 2) ∧ (0 ≤ s5 N ∧ s5 N < 4) ∧ (0 ≤ s6 N ∧ s6 N < 1048576) ∧ (0 ≤ s7 N ∧ s7 N < 256) := by
  unfold s0 s1 s2 s3 s4 s5 s6 s7; omega
def tickS : List Int → List Int
  | [a, l, g, f, o, c, s, z] => if l > 0 then (if l - 1 = 0 then [a, 0, g, f, o, c, (s + 1) % 1048576, a] else [a, l - 1, g, f, o, c, s, z]) else [a, l, g, f, o, c, s, z]
  | l => l
theorem serN_idem {a l g f o c s z : Int} (h0 : 0 ≤ a ∧ a < 256) (h1 : 0 ≤ l ∧ l < 64) (h2 : 0 ≤ g ∧ g < 256) (h3 : 0 ≤ f ∧ f < 2) (h4 : 0 ≤ o ∧ o < 2) (h5 : 0 ≤ c ∧ c < 4) (h6 : 0 ≤ s ∧ s < 1048576) (h7 : 0 ≤ z ∧ z < 256) :
    serN [a, l, g, f, o, c, s, z] = [a, l, g, f, o, c, s, z] := by
  show [a % 256, l % 64, g % 256, f % 2, o % 2, c % 4, s % 1048576, z % 256] = _
  rw [Int.emod_eq_of_lt h0.1 h0.2, Int.emod_eq_of_lt h1.1 h1.2, Int.emod_eq_of_lt h2.1 h2.2, Int.emod_eq_of_lt h3.1 h3.2, Int.emod_eq_of_lt h4.1 h4.2, Int.emod_eq_of_lt h5.1 h5.2, Int.emod_eq_of_lt h6.1 h6.2, Int.emod_eq_of_lt h7.1 h7.2]
theorem serN_form (N : List Int) : serN (serN N) = serN N := by
  obtain ⟨h0, h1, h2, h3, h4, h5, h6, h7⟩ := sR N
  exact serN_idem h0 h1 h2 h3 h4 h5 h6 h7
theorem tickS_form8 {a l g f o c s z : Int} (h0 : 0 ≤ a ∧ a < 256) (h1 : 0 ≤ l ∧ l < 64) (h2 : 0 ≤ g ∧ g < 256) (h3 : 0 ≤ f ∧ f < 2) (h4 : 0 ≤ o ∧ o < 2) (h5 : 0 ≤ c ∧ c < 4) (h6 : 0 ≤ s ∧ s < 1048576) (h7 : 0 ≤ z ∧ z < 256) :
    serN (tickS [a, l, g, f, o, c, s, z]) = tickS [a, l, g, f, o, c, s, z] := by
  by_cases e1 : l > 0
  · by_cases e2 : l - 1 = 0
    · have e : tickS [a, l, g, f, o, c, s, z] = [a, 0, g, f, o, c, (s + 1) % 1048576, a] := by rw [tickS, if_pos e1, if_pos e2]
      rw [e]; exact serN_idem h0 (by omega) h2 h3 h4 h5 (by omega) h0
    · have e : tickS [a, l, g, f, o, c, s, z] = [a, l - 1, g, f, o, c, s, z] := by rw [tickS, if_pos e1, if_neg e2]
      rw [e]; exact serN_idem h0 (by omega) h2 h3 h4 h5 h6 h7
  · have e : tickS [a, l, g, f, o, c, s, z] = [a, l, g, f, o, c, s, z] := by rw [tickS, if_neg e1]
    rw [e]; exact serN_idem h0 h1 h2 h3 h4 h5 h6 h7
theorem tickS_form {l : List Int} (h : serN l = l) : serN (tickS l) = tickS l := by
  obtain ⟨h0, h1, h2, h3, h4, h5, h6, h7⟩ := sR l
  have := tickS_form8 h0 h1 h2 h3 h4 h5 h6 h7
  rw [← serN_eq, h] at this
  exact this
theorem iterS_form (N : List Int) : ∀ n, serN (iterF tickS n (serN N)) = iterF tickS n (serN N)
  | 0 => serN_form N
  | n + 1 => by rw [iterF_succ]; exact tickS_form (iterS_form N n)
theorem len8 {l : List Int} (h : serN l = l) : l.length ≤ 4611686018427387904 := by
  rw [← h]; exact (by decide : 8 ≤ 4611686018427387904)
theorem its_zero {a g f o c s z : Int} (n : Nat) : iterF tickS n [a, 0, g, f, o, c, s, z] = [a, 0, g, f, o, c, s, z] := iterF_fix rfl n
theorem its_run {a g f o c s z : Int} : ∀ (n : Nat) (l : Int), (n : Int) < l → iterF tickS n [a, l, g, f, o, c, s, z] = [a, l - n, g, f, o, c, s, z]
  | 0, l, _ => by rw [iterF]; simp
  | n + 1, l, h => by
    rw [iterF, tickS, if_pos (by omega), if_neg (by omega), its_run n (l - 1) (by omega)]
    have : l - 1 - (n : Int) = l - ((n + 1 : Nat) : Int) := by omega
    rw [this]
theorem its_end {a l g f o c s z : Int} (hl : 0 < l) (n : Nat) (h : l ≤ n) : iterF tickS n [a, l, g, f, o, c, s, z] = [a, 0, g, f, o, c, (s + 1) % 1048576, a] := by
  have e : n = (l - 1).toNat + ((n - l.toNat) + 1) := by omega
  rw [e, iterF_add, its_run _ _ (by omega)]
  have e1 : l - (((l - 1).toNat : Nat) : Int) = 1 := by omega
  rw [e1, iterF, tickS, if_pos (by omega), if_pos (by omega)]
  exact its_zero _

def sformedS : PSpec := ⟨[gC, gD], fun (c, d, _) => (some (c.2.1 = 5), devR, [.arr (.int .i64) (serN d.1)])⟩
theorem sformed_ok : GoodF Tryz.prog 36 sformedS.spec := by
  have hT := tab_ok (fs := [(100, formS.spec)]) tree_ok
  have hP : SpecsOk Tryz.prog (tab tree [(100, formS.spec)]) := specs_cons form_ok specs_nil
  refine sformedS.good (fn := Tryz.f36) hT hP Tryz.func36 (by kernel_rfl) rfl fun (c : Cv) (d : Dv) hp => ?_
  obtain ⟨cn, ck, cb, cs, cd⟩ := c
  obtain rfl : ck = 5 := hp _ rfl
  obtain ⟨N, M⟩ := d
  repeat' first
    | (refine Go.mk ?_; conv => whnf)
    | refine Need.go ?_ ?_
    | refine NilG.go (fun _ => ?_) (fun _ => ?_)
    | refine Br.dec (fun _ => ?_) (fun _ => ?_)
    | refine Br.go (fun _ => ?_) (fun _ => ?_)
    | refine draw_go hT hP mixed ?_
    | refine round_go hT hP ?_
  · exact (by decide : ([256, 64, 256, 2, 2, 4, 1048576, 256] : List Int).length ≤ 1000 ∧ ∀ m ∈ ([256, 64, 256, 2, 2, 4, 1048576, 256] : List Int), 0 < m ∧ m ≤ 4611686018427387904)
  · exact .mk [] [5] _ rfl rfl rfl rfl rfl rfl rfl

def sfitS : PSpec := ⟨[gD], fun (d, _) => (none, .cell (.own 0), [.arr (.int .i64) (serN d.1)])⟩
theorem sfit_ok : GoodF Tryz.prog 91 sfitS.spec := by
  have hT := tab_ok (fs := [(75, lowM.spec)]) tree_ok
  have hP : SpecsOk Tryz.prog (tab tree [(75, lowM.spec)]) := specs_cons lowM_ok specs_nil
  refine sfitS.good (fn := Tryz.f91) hT hP Tryz.func91 (by kernel_rfl) rfl fun (d : Dv) _ => ?_
  obtain ⟨N, M⟩ := d
  repeat' first
    | (refine Go.mk ?_; conv => whnf)
    | refine Need.go ?_ ?_
    | refine NilG.go (fun _ => ?_) (fun _ => ?_)
    | refine Br.dec (fun _ => ?_) (fun _ => ?_)
    | refine Br.go (fun _ => ?_) (fun _ => ?_)
    | refine draw_go hT hP mixed ?_
    | refine round_go hT hP ?_
  · exact of_decide_eq_true rfl
  refine loop_unroll 9 ?_
  repeat' first
    | (refine Go.mk ?_; conv => whnf)
    | refine Need.go ?_ ?_
    | refine NilG.go (fun _ => ?_) (fun _ => ?_)
    | refine Br.dec (fun _ => ?_) (fun _ => ?_)
    | refine Br.go (fun _ => ?_) (fun _ => ?_)
    | refine draw_go hT hP mixed ?_
    | refine round_go hT hP ?_
  all_goals first
    | exact of_decide_eq_true rfl
    | exact .mk [] [1] _ rfl rfl rfl rfl rfl rfl rfl

def snewS : PSpec := ⟨[], fun _ => (none, devR, [.arr (.int .i64) [0, 0, 0, 0, 0, 0, 0, 0]])⟩
theorem snew_ok : GoodF Tryz.prog 79 snewS.spec := by
  have hT := tab_ok (fs := []) tree_ok
  have hP : SpecsOk Tryz.prog (tab tree []) := specs_nil
  refine snewS.good (fn := Tryz.f79) hT hP Tryz.func79 (by kernel_rfl) rfl fun _ => ?_
  repeat' first
    | (refine Go.mk ?_; conv => whnf)
    | refine Need.go ?_ ?_
    | refine NilG.go (fun _ => ?_) (fun _ => ?_)
    | refine Br.dec (fun _ => ?_) (fun _ => ?_)
    | refine Br.go (fun _ => ?_) (fun _ => ?_)
    | refine draw_go hT hP mixed ?_
    | refine round_go hT hP ?_
  all_goals first
    | exact of_decide_eq_true rfl
    | exact .mk [] [1] _ rfl rfl rfl rfl rfl rfl rfl

def stickedS : PSpec := ⟨[gC, gD], fun (c, d, _) => (some (c.2.1 = 5), devR, [.arr (.int .i64) (tickS (serN d.1))])⟩
def sskipS : PSpec := ⟨[gD, gi], fun (d, k, _) => (some (k ≤ 4611686018427387904), devR, [.arr (.int .i64) (iterF tickS k.toNat (serN d.1))])⟩
theorem sskip_ok : GoodF Tryz.prog 106 sskipS.spec := by
  have hT := tab_ok (fs := [(91, sfitS.spec), (75, lowM.spec)]) tree_ok
  have hP : SpecsOk Tryz.prog (tab tree [(91, sfitS.spec), (75, lowM.spec)]) := specs_cons sfit_ok (specs_cons lowM_ok specs_nil)
  refine sskipS.good (fn := Tryz.f106) hT hP Tryz.func106 (by kernel_rfl) rfl fun (d : Dv) (k : Int) hp => ?_
  have hp : k ≤ 4611686018427387904 := hp _ rfl
  obtain ⟨N, M⟩ := d
  obtain ⟨h0, h1, h2, h3, h4, h5, h6, h7⟩ := sR N
  repeat' first
    | (refine Go.mk ?_; conv => whnf)
    | refine Need.go ?_ ?_
    | refine NilG.go (fun _ => ?_) (fun _ => ?_)
    | refine Br.dec (fun _ => ?_) (fun _ => ?_)
    | refine Br.go (fun _ => ?_) (fun _ => ?_)
    | refine draw_go hT hP mixed ?_
    | refine round_go hT hP ?_
  all_goals first
    | exact rfl
    | exact of_decide_eq_true rfl
    | skip
  · rename_i g
    refine .mk [] [2] _ rfl rfl rfl rfl rfl (blk_eqs (l := serN N) ?_) rfl
    show _ = iterF tickS k.toNat (serN N)
    have : k.toNat = 0 := by omega
    rw [this]; rfl
  · rename_i g0 g
    have g : s1 N = 0 := g
    refine .mk [] [2] _ rfl rfl rfl rfl rfl (blk_eqs (l := serN N) ?_) rfl
    show _ = iterF tickS k.toNat (serN N)
    rw [serN_eq, g, its_zero]
  · rename_i g0 g g2
    have g2 : k < s1 N := g2
    refine .mk [] [2] _ rfl rfl rfl rfl rfl (blk_eqs (l := [s0 N, IntKind.i64.wrap (s1 N - k), s2 N, s3 N, s4 N, s5 N, s6 N, s7 N]) ?_) rfl
    show _ = iterF tickS k.toNat (serN N)
    rw [serN_eq, its_run _ _ (by omega), w64 (by omega) (by omega)]
    have : ((k.toNat : Nat) : Int) = k := by omega
    rw [this]
  · rename_i g0 g g2
    have g : ¬ s1 N = 0 := g
    have g2 : ¬ k < s1 N := g2
    refine .mk [] [2] _ rfl rfl rfl rfl rfl (blk_eqs (l := [s0 N, 0, s2 N, s3 N, s4 N, s5 N, IntKind.i64.wrap (s6 N + 1) % 1048576, s0 N]) ?_) rfl
    show _ = iterF tickS k.toNat (serN N)
    rw [serN_eq, its_end (by omega) _ (by omega), w64 (by omega) (by omega)]

def stickS : PSpec := ⟨[gD], fun (d, _) => (none, devR, [.arr (.int .i64) (tickS (serN d.1))])⟩
def sinN (N : List Int) (k : Int) : List Int := [s0 N, s1 N, if s3 N = 1 then s2 N else k % 256, 1, if s3 N = 1 then 1 else s4 N, s5 N, s6 N, s7 N]
def sinS : PSpec := ⟨[gD, gi], fun (d, k, _) => (none, devR, [.arr (.int .i64) (sinN d.1 k)])⟩
theorem sin_ok : GoodF Tryz.prog 51 sinS.spec := by
  have hT := tab_ok (fs := [(91, sfitS.spec), (75, lowM.spec)]) tree_ok
  have hP : SpecsOk Tryz.prog (tab tree [(91, sfitS.spec), (75, lowM.spec)]) := specs_cons sfit_ok (specs_cons lowM_ok specs_nil)
  refine sinS.good (fn := Tryz.f51) hT hP Tryz.func51 (by kernel_rfl) rfl fun (d : Dv) (k : Int) _ => ?_
  obtain ⟨N, M⟩ := d
  repeat' first
    | (refine Go.mk ?_; conv => whnf)
    | refine Need.go ?_ ?_
    | refine NilG.go (fun _ => ?_) (fun _ => ?_)
    | refine Br.dec (fun _ => ?_) (fun _ => ?_)
    | refine Br.go (fun _ => ?_) (fun _ => ?_)
    | refine draw_go hT hP mixed ?_
    | refine round_go hT hP ?_
  all_goals first
    | exact of_decide_eq_true rfl
    | (rename_i h
       have h : s3 N = 1 := h
       refine .mk [] [2] _ rfl rfl rfl rfl rfl (blk_eqs (l := [s0 N, s1 N, s2 N, s3 N, 1, s5 N, s6 N, s7 N]) ?_) rfl
       show _ = sinN N k
       rw [sinN, if_pos h, if_pos h, h])
    | (rename_i h
       have h : ¬ s3 N = 1 := h
       refine .mk [] [2] _ rfl rfl rfl rfl rfl (blk_eqs (l := [s0 N, s1 N, k % 2 ^ (8 : Int).toNat, 1, s4 N, s5 N, s6 N, s7 N]) ?_) rfl
       show _ = sinN N k
       rw [sinN, if_neg h, if_neg h]; rfl)

def bitI (b : Bool) : Int := match b with | true => 1 | false => 0
def truthS : PSpec := ⟨[⟨false, .bool⟩], fun (b, _) => (none, I (bitI b), [])⟩
theorem truth_ok : GoodF Tryz.prog 92 truthS.spec := by
  have hT := tab_ok (fs := []) tree_ok
  have hP : SpecsOk Tryz.prog (tab tree []) := specs_nil
  refine truthS.good (fn := Tryz.f92) hT hP Tryz.func92 (by kernel_rfl) rfl fun (b : Bool) _ => ?_
  repeat' first
    | (refine Go.mk ?_; conv => whnf)
    | refine Need.go ?_ ?_
    | refine NilG.go (fun _ => ?_) (fun _ => ?_)
    | refine Br.dec (fun _ => ?_) (fun _ => ?_)
    | refine Br.go (fun _ => ?_) (fun _ => ?_)
    | refine draw_go hT hP mixed ?_
    | refine round_go hT hP ?_
  all_goals
    rename_i h
    subst h
    exact .mk [] [] _ rfl rfl rfl rfl rfl rfl rfl
theorem seen_ok : GoodF Tryz.prog 39 truthS.spec := by
  have hT := tab_ok (fs := []) tree_ok
  have hP : SpecsOk Tryz.prog (tab tree []) := specs_nil
  refine truthS.good (fn := Tryz.f39) hT hP Tryz.func39 (by kernel_rfl) rfl fun (b : Bool) _ => ?_
  repeat' first
    | (refine Go.mk ?_; conv => whnf)
    | refine Need.go ?_ ?_
    | refine NilG.go (fun _ => ?_) (fun _ => ?_)
    | refine Br.dec (fun _ => ?_) (fun _ => ?_)
    | refine Br.go (fun _ => ?_) (fun _ => ?_)
    | refine draw_go hT hP mixed ?_
    | refine round_go hT hP ?_
  all_goals
    rename_i h
    subst h
    exact .mk [] [] _ rfl rfl rfl rfl rfl rfl rfl

/-- three bits of a number, put together by or -/
theorem or_bits (f o : Int) (b : Bool) (h3 : 0 ≤ f ∧ f < 2) (h4 : 0 ≤ o ∧ o < 2) : lor .i64 (lor .i64 f (shl .i64 (bitI b) 1)) (shl .i64 o 2) = f + 2 * bitI b + 4 * o := by
  have e1 : f = 0 ∨ f = 1 := by omega
  have e2 : o = 0 ∨ o = 1 := by omega
  rcases e1 with rfl | rfl <;> rcases e2 with rfl | rfl <;> cases b <;> decide +kernel
theorem tup_reads {x y : Int} (h2 : x = y) : AV.tup [.agg [.own 0, .imm (.slice none 0 0)], I1 x] = AV.tup [.agg [.own 0, .imm (.slice none 0 0)], I1 y] := by rw [h2]
def srF (N : List Int) (a : Int) : Int := pickF [s2 N, s3 N + 2 * bitI (decide (s1 N > 0)) + 4 * s4 N, s5 N] a
def srN (N : List Int) (a : Int) : List Int := [s0 N, s1 N, s2 N, if a = 0 then 0 else s3 N, if a = 1 then 0 else s4 N, s5 N, s6 N, s7 N]
def sreadS : PSpec := ⟨[gD, gi], fun (d, a, _) => (none, .tup [.agg [.own 0, .imm (.slice none 0 0)], I1 (srF d.1 a)], [.arr (.int .i64) (srN d.1 a)])⟩
theorem sread_ok : GoodF Tryz.prog 32 sreadS.spec := by
  have hT := tab_ok (fs := [(91, sfitS.spec), (92, truthS.spec)]) tree_ok
  have hP : SpecsOk Tryz.prog (tab tree [(91, sfitS.spec), (92, truthS.spec)]) := specs_cons sfit_ok (specs_cons truth_ok specs_nil)
  refine sreadS.good (fn := Tryz.f32) hT hP Tryz.func32 (by kernel_rfl) rfl fun (d : Dv) (a : Int) _ => ?_
  obtain ⟨N, M⟩ := d
  obtain ⟨h0, h1, h2, h3, h4, h5, h6, h7⟩ := sR N
  repeat' first
    | (refine Go.mk ?_; conv => whnf)
    | refine Need.go ?_ ?_
    | refine NilG.go (fun _ => ?_) (fun _ => ?_)
    | refine Br.dec (fun _ => ?_) (fun _ => ?_)
    | refine Br.go (fun _ => ?_) (fun _ => ?_)
    | refine draw_go hT hP mixed ?_
    | refine round_go hT hP ?_
  all_goals (try subst_vars)
  all_goals first
    | exact rfl
    | exact of_decide_eq_true rfl
    | exact .mk [] [2] _ rfl rfl rfl rfl rfl rfl rfl
    | skip
  · refine .mk [] [2] _ rfl rfl rfl rfl rfl rfl (tup_reads ?_)
    exact or_bits (s3 N) (s4 N) (decide (s1 N > 0)) h3 h4
  · rename_i g0 g1 g2
    have e : srF N a = 0 := pick_no fun i hi => by
      have : i < 3 := hi
      omega
    refine .mk [] [2] _ rfl rfl rfl rfl rfl (blk_eqs (l := serN N) ?_) (tup_reads e.symm)
    show _ = srN N a
    rw [serN_eq, srN, if_neg g0, if_neg g1]

def serialsS : PSpec := ⟨[], fun _ => (none, .cell (bv true), [])⟩
end Go.Proofs.YtblnigjmcjpopaaGreat

/- The chip that reads and writes disks: forming, a new one, reading. -/
namespace Go.Proofs.YtblnigjmcjpopaaGreat
open Go.Fw
set_option linter.unusedVariables false
set_option linter.unusedSimpArgs false
set_option maxRecDepth 100000

theorem over_take (M : List Int) {n : Nat} (h : n ≤ M.length) : over (List.replicate n 0) M 0 = M.take n := by
  rw [over_eq]
  simp [h]
def qF (M : List Int) : Nat := M.length / 256
def dM (M : List Int) : List Int := M.take (qF M * 256)
theorem qF_le (M : List Int) : qF M * 256 ≤ M.length := by unfold qF; omega
theorem dM_len (M : List Int) : (dM M).length = qF M * 256 := by
  unfold dM; rw [List.length_take]; have := qF_le M; omega
theorem qF_int (M : List Int) (h : M.length ≤ 140737488355328) : IntKind.i64.wrap (IntKind.i64.wrap (Int.tdiv (M.length : Int) 256) * 256) = ((qF M * 256 : Nat) : Int) := by
  rw [Int.tdiv_eq_ediv_of_nonneg (by omega), w64 (x := (M.length : Int) / 256) (by omega) (by omega), w64 (by omega) (by omega)]
  unfold qF; omega
def dN (N : List Int) (q : Nat) : List Int :=
  [if N.getD 0 0 % 256 > q then 0 else N.getD 0 0 % 256, N.getD 1 0 % 4, if N.getD 2 0 % 8 > 4 then 0 else N.getD 2 0 % 8, N.getD 3 0 % 4, N.getD 4 0 % 16, N.getD 5 0 % 64, N.getD 6 0 % 256, N.getD 7 0 % 2, N.getD 8 0 % 2, N.getD 9 0 % 2]
def dN0 (N : List Int) : List Int :=
  [N.getD 0 0 % 256, N.getD 1 0 % 4, N.getD 2 0 % 8, N.getD 3 0 % 4, N.getD 4 0 % 16, N.getD 5 0 % 64, N.getD 6 0 % 256, N.getD 7 0 % 2, N.getD 8 0 % 2, N.getD 9 0 % 2]
theorem tup_r2 {x y : Int} (h : x = y) : AV.tup [.agg [.own 0, .own 1], I1 x] = AV.tup [.agg [.own 0, .own 1], I1 y] := by rw [h]
theorem blk2_eq {l l' m m' : List Int} (h : l = l') (h2 : m = m') : [some (Blk.arr (.int .i64) l), some (Blk.arr (.int .u8) m)] = [some (Blk.arr (.int .i64) l'), some (Blk.arr (.int .u8) m')] := by rw [h, h2]

theorem over_get (N : List Int) : ∀ (l : List Int) (i k : Nat), k < l.length → (over l N i).getD k 0 = N.getD (i + k) (l.getD k 0)
  | d :: l, i, 0, _ => by simp [over]
  | d :: l, i, k + 1, h => by
    have := over_get N l (i + 1) k (by simpa using h)
    have e : i + 1 + k = i + (k + 1) := by omega
    rw [e] at this
    simpa [over] using this
theorem rep_get (n k : Nat) : (List.replicate n (0 : Int)).getD k 0 = 0 := by
  rw [List.getD_eq_getElem?_getD, List.getElem?_replicate]
  split <;> rfl
def dL (N : List Int) (x y : Int) : List Int := [x, N.getD 1 0 % 4, y, N.getD 3 0 % 4, N.getD 4 0 % 16, N.getD 5 0 % 64, N.getD 6 0 % 256, N.getD 7 0 % 2, N.getD 8 0 % 2, N.getD 9 0 % 2]
def bitsK (N C ms : List Int) (k : Nat) : List Int := formG N (ms.take k) 0 ++ C.drop k
theorem bitsK_len (N C ms : List Int) {k : Nat} (h : k ≤ ms.length) (hc : C.length = ms.length) : (bitsK N C ms k).length = ms.length := by
  simp [bitsK, formG_len]; omega
theorem bitsK_get (N C ms : List Int) {k : Nat} (h : k < ms.length) (hc : C.length = ms.length) : (bitsK N C ms k).getD k 0 = C.getD k 0 := by
  have hl : (formG N (ms.take k) 0).length = k := by rw [formG_len, List.length_take]; omega
  unfold bitsK
  rw [List.getD_eq_getElem?_getD, List.getElem?_append_right (by omega), hl, Nat.sub_self, List.getElem?_drop, List.getD_eq_getElem?_getD]
  rfl
theorem bitsK_set (N C ms : List Int) {k : Nat} (h : k < ms.length) (hc : C.length = ms.length) : (bitsK N C ms k).set k (N.getD k 0 % ms.getD k 0) = bitsK N C ms (k + 1) := by
  have hl : (formG N (ms.take k) 0).length = k := by rw [formG_len, List.length_take]; omega
  unfold bitsK
  rw [List.set_append, if_neg (by omega), hl, Nat.sub_self, List.drop_eq_getElem_cons (by omega), List.set_cons_zero, formG_take N ms 0 k h]
  simp
def dMods : List Int := [256, 4, 8, 4, 16, 64, 256, 2, 2, 2]
def dBits : List Int := [8, 2, 3, 2, 4, 6, 8, 1, 1, 1]
theorem dBits_ok : ∀ k, k < 10 → (0 ≤ dBits.getD k 0 ∧ dBits.getD k 0 ≤ 62) ∧ (2 : Int) ^ (dBits.getD k 0).toNat = dMods.getD k 0 := by decide +kernel
theorem dN_if (N : List Int) (q : Nat) : dN N q = [if N.getD 0 0 % 256 > q then 0 else N.getD 0 0 % 256, N.getD 1 0 % 4, if N.getD 2 0 % 8 > 4 then 0 else N.getD 2 0 % 8, N.getD 3 0 % 4, N.getD 4 0 % 16, N.getD 5 0 % 64, N.getD 6 0 % 256, N.getD 7 0 % 2, N.getD 8 0 % 2, N.getD 9 0 % 2] := rfl

def dfitS : PSpec := ⟨[gD], fun (d, _) => (some (List.length d.2 ≤ 140737488355328), .tup [.c (.own 0), .c (.own 1)], [.arr (.int .i64) (dN d.1 (qF d.2)), .arr (.int .u8) (dM d.2)])⟩
theorem dfit_ok : GoodF Tryz.prog 97 dfitS.spec := by
  have hT := tab_ok (fs := [(75, lowM.spec)]) tree_ok
  have hP : SpecsOk Tryz.prog (tab tree [(75, lowM.spec)]) := specs_cons lowM_ok specs_nil
  refine dfitS.good (fn := Tryz.f97) hT hP Tryz.func97 (by kernel_rfl) rfl fun (d : Dv) hp => ?_
  obtain ⟨N, M⟩ := d
  have hp : M.length ≤ 140737488355328 := hp _ rfl
  have hq := qF_int M hp
  have hq2 := qF_le M
  have hqi : IntKind.i64.wrap (Int.tdiv ((dM M).length : Int) 256) = ((qF M : Nat) : Int) := by
    rw [dM_len, Int.tdiv_eq_ediv_of_nonneg (by omega), w64 (by omega) (by omega)]; omega
  repeat' first
    | (refine Go.mk ?_; conv => whnf)
    | refine Need.go ?_ ?_
    | refine NilG.go (fun _ => ?_) (fun _ => ?_)
    | refine Br.dec (fun _ => ?_) (fun _ => ?_)
    | refine Br.go (fun _ => ?_) (fun _ => ?_)
    | refine draw_go hT hP mixed ?_
    | refine round_go hT hP ?_
  · exact of_decide_eq_true rfl
  have hC : ∀ k, k < 10 → (over (List.replicate 10 0) N 0).getD k 0 = N.getD k 0 := by
    intro k hk
    rw [over_get N _ 0 k (by simpa using hk), Nat.zero_add, rep_get 10 k]
  have hCl : (over (List.replicate 10 0) N 0).length = 10 := by rw [over_length]; rfl
  refine loop_go hT hP (X := Int × List Int) (fun (i, n) => St.mk [.dead, .cell (.ptr 0 0), .dead, .dead, .cell (.own 1), .dead, .dead, .dead, .dead, .dead, .dead, .dead, .dead, .agg [.run .i64 10 [8, 2, 3, 2, 4, 6, 8, 1, 1, 1]], I i, .dead, .dead, .dead, .dead, .dead, .dead, .dead, .dead, .dead, .dead, .dead, .dead, .dead, .dead, .dead, .dead, .dead, .dead, .dead, .dead, .dead, .dead, .dead, .dead, .dead, .dead, .dead, .dead, .dead, .dead, .dead, .dead, .dead, .dead, .dead, .dead, .dead, .dead, .dead, .dead] [some (.var [.ro (.int .i64) N, .ro (.int .u8) M]), some (.arr (.int .i64) n)])
    (fun (i, n) => ∃ k : Nat, i = k ∧ k ≤ 10 ∧ n = bitsK N (over (List.replicate 10 0) N 0) dMods k) (fun (i, _) => (10 - i).toNat) (0, over (List.replicate 10 0) N 0) (Le.mk [] [0, 1] rfl rfl ?_ ?_) ?_ fun (i, n) hi => ?_
  rotate_right
  repeat' first
    | (refine Go.mk ?_; conv => whnf)
    | refine Need.go ?_ ?_
    | refine NilG.go (fun _ => ?_) (fun _ => ?_)
    | refine Br.dec (fun _ => ?_) (fun _ => ?_)
    | refine Br.go (fun _ => ?_) (fun _ => ?_)
    | refine draw_go hT hP mixed ?_
    | refine round_go hT hP ?_
  rotate_right 3
  · exact rfl
  · repeat' first | exact trivial | exact ⟨rfl, rfl⟩ | refine And.intro ?_ ?_
  · exact ⟨0, rfl, by omega, rfl⟩
  all_goals first
    | exact of_decide_eq_true rfl
    | (obtain ⟨k, rfl, hk, rfl⟩ := hi; omega)
    | (obtain ⟨k, rfl, hk, rfl⟩ := hi; rw [bitsK_len _ _ _ hk hCl]; show _ ∧ _ < ((10 : Nat) : Int); omega)
    | (obtain ⟨k, rfl, hk, rfl⟩ := hi; rw [bitsK_len _ _ _ hk hCl]; show _ < 10; omega)
    | skip
  · obtain ⟨k, rfl, hk, rfl⟩ := hi
    exact (dBits_ok k (by omega)).1
  · obtain ⟨k, rfl, hk, rfl⟩ := hi
    have e : IntKind.i64.wrap ((k : Int) + 1) = ((k + 1 : Nat) : Int) := by rw [w64 (by omega) (by omega)]; omega
    have hk2 : k < 10 := by omega
    apply Exists.intro (_, _)
    refine And.intro ?_ (And.intro ?_ (Le.mk [] [0, 1] rfl rfl ?hh ?ht))
    case hh => exact rfl
    case ht => repeat' first | exact trivial | exact ⟨rfl, rfl⟩ | refine And.intro ?_ ?_
    · refine ⟨k + 1, e, by omega, ?_⟩
      show (bitsK N (over (List.replicate 10 0) N 0) dMods k).set k ((bitsK N (over (List.replicate 10 0) N 0) dMods k).getD k 0 % 2 ^ (dBits.getD k 0).toNat) = _
      rw [bitsK_get N _ dMods hk2 hCl, hC k hk2, (dBits_ok k hk2).2]
      exact bitsK_set N _ dMods hk2 hCl
    · show (10 - IntKind.i64.wrap ((k : Int) + 1)).toNat < (10 - (k : Int)).toNat
      rw [e]; omega
  all_goals
    obtain ⟨k, rfl, hk, rfl⟩ := hi
    obtain rfl : k = 10 := by omega
    have hm : over (List.replicate (IntKind.i64.wrap (IntKind.i64.wrap (Int.tdiv (M.length : Int) 256) * 256)).toNat 0) M 0 = dM M := by
      rw [hq]; exact over_take M hq2
    try exact of_decide_eq_true rfl
  · have e : ty5.bytes = 1 := rfl
    rw [e, show (List.length (N, M).2) = M.length from rfl, hq]
    omega
  · rename_i h1 h2
    have h1 : N.getD 0 0 % 256 > IntKind.i64.wrap (Int.tdiv ((over (List.replicate (IntKind.i64.wrap (IntKind.i64.wrap (Int.tdiv (M.length : Int) 256) * 256)).toNat 0) M 0).length : Int) 256) := h1
    have h2 : N.getD 2 0 % 8 > 4 := h2
    rw [hm, hqi] at h1
    refine .mk [] [1, 2] _ rfl rfl rfl rfl rfl (blk2_eq (l := dL N 0 0) (l' := dN N (qF M)) ?_ hm) rfl
    rw [dN_if, if_pos h1, if_pos h2]; rfl
  · rename_i h1 h2
    have h1 : N.getD 0 0 % 256 > IntKind.i64.wrap (Int.tdiv ((over (List.replicate (IntKind.i64.wrap (IntKind.i64.wrap (Int.tdiv (M.length : Int) 256) * 256)).toNat 0) M 0).length : Int) 256) := h1
    have h2 : ¬ N.getD 2 0 % 8 > 4 := h2
    rw [hm, hqi] at h1
    refine .mk [] [1, 2] _ rfl rfl rfl rfl rfl (blk2_eq (l := dL N 0 (N.getD 2 0 % 8)) (l' := dN N (qF M)) ?_ hm) rfl
    rw [dN_if, if_pos h1, if_neg h2]; rfl
  · rename_i h1 h2
    have h1 : ¬ N.getD 0 0 % 256 > IntKind.i64.wrap (Int.tdiv ((over (List.replicate (IntKind.i64.wrap (IntKind.i64.wrap (Int.tdiv (M.length : Int) 256) * 256)).toNat 0) M 0).length : Int) 256) := h1
    have h2 : N.getD 2 0 % 8 > 4 := h2
    rw [hm, hqi] at h1
    refine .mk [] [1, 2] _ rfl rfl rfl rfl rfl (blk2_eq (l := dL N (N.getD 0 0 % 256) 0) (l' := dN N (qF M)) ?_ hm) rfl
    rw [dN_if, if_neg h1, if_pos h2]; rfl
  · rename_i h1 h2
    have h1 : ¬ N.getD 0 0 % 256 > IntKind.i64.wrap (Int.tdiv ((over (List.replicate (IntKind.i64.wrap (IntKind.i64.wrap (Int.tdiv (M.length : Int) 256) * 256)).toNat 0) M 0).length : Int) 256) := h1
    have h2 : ¬ N.getD 2 0 % 8 > 4 := h2
    rw [hm, hqi] at h1
    refine .mk [] [1, 2] _ rfl rfl rfl rfl rfl (blk2_eq (l := dL N (N.getD 0 0 % 256) (N.getD 2 0 % 8)) (l' := dN N (qF M)) ?_ hm) rfl
    rw [dN_if, if_neg h1, if_neg h2]; rfl

def dnewS : PSpec := ⟨[gb], fun (b, _) => (some (List.length b ≤ 140737488355328), .agg [.own 0, .own 1], [.arr (.int .i64) [0, 0, 0, 0, 0, 0, 0, 0, 0, 0], .arr (.int .u8) (dM b)])⟩
theorem dnew_ok : GoodF Tryz.prog 82 dnewS.spec := by
  have hT := tab_ok (fs := []) tree_ok
  have hP : SpecsOk Tryz.prog (tab tree []) := specs_nil
  refine dnewS.good (fn := Tryz.f82) hT hP Tryz.func82 (by kernel_rfl) rfl fun (M : List Int) hp => ?_
  have hp : M.length ≤ 140737488355328 := hp _ rfl
  have hq := qF_int M hp
  have hq2 := qF_le M
  repeat' first
    | (refine Go.mk ?_; conv => whnf)
    | refine Need.go ?_ ?_
    | refine NilG.go (fun _ => ?_) (fun _ => ?_)
    | refine Br.dec (fun _ => ?_) (fun _ => ?_)
    | refine Br.go (fun _ => ?_) (fun _ => ?_)
    | refine draw_go hT hP mixed ?_
    | refine round_go hT hP ?_
  all_goals first
    | exact of_decide_eq_true rfl
    | skip
  · have e : ty5.bytes = 1 := rfl
    rw [e, hq]
    omega
  · have hm : over (List.replicate (IntKind.i64.wrap (IntKind.i64.wrap (Int.tdiv (M.length : Int) 256) * 256)).toNat 0) M 0 = dM M := by
      rw [hq]; exact over_take M hq2
    exact .mk [] [2, 1] _ rfl rfl rfl rfl rfl (blk2_eq (l := [0, 0, 0, 0, 0, 0, 0, 0, 0, 0]) rfl hm) rfl

def busyS : PSpec := ⟨[gl], fun (n, _) => (some (2 < List.length n), I (imin 1 (List.getD n 2 0)), [])⟩
theorem busy_ok : GoodF Tryz.prog 98 busyS.spec := by
  have hT := tab_ok (fs := []) tree_ok
  have hP : SpecsOk Tryz.prog (tab tree []) := specs_nil
  refine busyS.good (fn := Tryz.f98) hT hP Tryz.func98 (by kernel_rfl) rfl fun (n : List Int) hp => ?_
  have hp : 2 < n.length := hp _ rfl
  repeat' first
    | (refine Go.mk ?_; conv => whnf)
    | refine Need.go ?_ ?_
    | refine NilG.go (fun _ => ?_) (fun _ => ?_)
    | refine Br.dec (fun _ => ?_) (fun _ => ?_)
    | refine Br.go (fun _ => ?_) (fun _ => ?_)
    | refine draw_go hT hP mixed ?_
    | refine round_go hT hP ?_
  · omega
  · exact .mk [] [] _ rfl rfl rfl rfl rfl rfl rfl

/-- reading address 0 of a drive at rest without a disk -/
def dread0S : PSpec := ⟨[gD, gi], fun (d, a, _) => (some (a = 0 ∧ d.1 = [0, 0, 0, 0, 0, 0, 0, 0, 0, 0] ∧ d.2 = List.replicate 256 0), .tup [.agg [.own 0, .own 1], I1 8], [.arr (.int .i64) [0, 0, 0, 0, 0, 0, 0, 0, 0, 0], .arr (.int .u8) (List.replicate 256 0)])⟩
theorem dread0_ok : GoodF Tryz.prog 35 dread0S.spec := by
  have hT := tab_ok (fs := [(97, dfitS.spec), (98, busyS.spec)]) tree_ok
  have hP : SpecsOk Tryz.prog (tab tree [(97, dfitS.spec), (98, busyS.spec)]) := specs_cons dfit_ok (specs_cons busy_ok specs_nil)
  refine dread0S.good (fn := Tryz.f35) hT hP Tryz.func35 (by kernel_rfl) rfl fun (d : Dv) (a : Int) hp => ?_
  obtain ⟨N, M⟩ := d
  obtain ⟨rfl, rfl, rfl⟩ : a = 0 ∧ N = [0, 0, 0, 0, 0, 0, 0, 0, 0, 0] ∧ M = List.replicate 256 0 := hp _ rfl
  have hdM : dM (List.replicate 256 (0 : Int)) = List.replicate 256 0 := by decide +kernel
  repeat' first
    | (refine Go.mk ?_; conv => whnf)
    | refine Need.go ?_ ?_
    | refine NilG.go (fun _ => ?_) (fun _ => ?_)
    | refine Br.dec (fun _ => ?_) (fun _ => ?_)
    | refine Br.go (fun _ => ?_) (fun _ => ?_)
    | refine draw_go hT hP mixed ?_
    | refine round_go hT hP ?_
  all_goals first
    | exact rfl
    | exact of_decide_eq_true rfl
    | skip
  exact .mk [] [2, 3] _ rfl rfl rfl rfl rfl (blk2_eq (l := (dN [0, 0, 0, 0, 0, 0, 0, 0, 0, 0] (qF (List.replicate 256 0))).set 8 0) (by decide +kernel) hdM) (tup_r2 (by decide +kernel))

def drivesS : PSpec := ⟨[], fun _ => (none, .cell (bv true), [])⟩
theorem dmods_ok : ([256, 4, 8, 4, 16, 64, 256, 2, 2, 2] : List Int).length ≤ 1000 ∧ ∀ m ∈ ([256, 4, 8, 4, 16, 64, 256, 2, 2, 2] : List Int), 0 < m ∧ m ≤ 4611686018427387904 := by decide
def dformed0S : PSpec := ⟨[gC, gD], fun (c, d, _) => (some (c.2.1 = 8 ∧ List.length d.2 ≤ 140737488355328 ∧ qF d.2 = 0), .agg [.own 0, .imm (.slice none 0 0)], [.arr (.int .i64) (dN d.1 (qF d.2))])⟩
theorem dformed0_ok : GoodF Tryz.prog 36 dformed0S.spec := by
  have hT := tab_ok (fs := [(100, formS.spec)]) tree_ok
  have hP : SpecsOk Tryz.prog (tab tree [(100, formS.spec)]) := specs_cons form_ok specs_nil
  refine dformed0S.good (fn := Tryz.f36) hT hP Tryz.func36 (by kernel_rfl) rfl fun (c : Cv) (d : Dv) hp => ?_
  obtain ⟨cn, ck, cb, cs, cd⟩ := c
  obtain ⟨N, M⟩ := d
  obtain ⟨rfl, hl, h0⟩ : ck = 8 ∧ M.length ≤ 140737488355328 ∧ qF M = 0 := hp _ rfl
  have hq := qF_int M hl
  rw [h0] at hq
  repeat' first
    | (refine Go.mk ?_; conv => whnf)
    | refine Need.go ?_ ?_
    | refine NilG.go (fun _ => ?_) (fun _ => ?_)
    | refine Br.dec (fun _ => ?_) (fun _ => ?_)
    | refine Br.go (fun _ => ?_) (fun _ => ?_)
    | refine draw_go hT hP mixed ?_
    | refine round_go hT hP ?_
  all_goals first
    | exact dmods_ok
    | exact of_decide_eq_true rfl
    | skip
  all_goals first
    | (exfalso; rename_i h; have h : IntKind.i64.wrap (IntKind.i64.wrap (Int.tdiv (M.length : Int) 256) * 256) > 0 := h; rw [hq] at h; omega)
    | (rename_i h1 h2 h
       have h1 : IntKind.i64.wrap (N.getD 0 0 % 256 * 256) > IntKind.i64.wrap (IntKind.i64.wrap (Int.tdiv (M.length : Int) 256) * 256) := h1
       have h2 : N.getD 2 0 % 8 > 4 := h2
       rw [hq, w64 (by omega) (by omega)] at h1
       refine .mk [] [5] _ rfl rfl rfl rfl rfl (blk_eqs (l := dL N 0 0) (l' := dN N (qF M)) ?_) rfl
       rw [dN_if, if_pos (by omega), if_pos h2]; rfl)
    | (rename_i h1 h2 h
       have h1 : IntKind.i64.wrap (N.getD 0 0 % 256 * 256) > IntKind.i64.wrap (IntKind.i64.wrap (Int.tdiv (M.length : Int) 256) * 256) := h1
       have h2 : ¬ N.getD 2 0 % 8 > 4 := h2
       rw [hq, w64 (by omega) (by omega)] at h1
       refine .mk [] [5] _ rfl rfl rfl rfl rfl (blk_eqs (l := dL N 0 (N.getD 2 0 % 8)) (l' := dN N (qF M)) ?_) rfl
       rw [dN_if, if_pos (by omega), if_neg h2]; rfl)
    | (rename_i h1 h2 h
       have h1 : ¬ IntKind.i64.wrap (N.getD 0 0 % 256 * 256) > IntKind.i64.wrap (IntKind.i64.wrap (Int.tdiv (M.length : Int) 256) * 256) := h1
       have h2 : N.getD 2 0 % 8 > 4 := h2
       rw [hq, w64 (by omega) (by omega)] at h1
       refine .mk [] [5] _ rfl rfl rfl rfl rfl (blk_eqs (l := dL N (N.getD 0 0 % 256) 0) (l' := dN N (qF M)) ?_) rfl
       rw [dN_if, if_neg (by omega), if_pos h2]; rfl)
    | (rename_i h1 h2 h
       have h1 : ¬ IntKind.i64.wrap (N.getD 0 0 % 256 * 256) > IntKind.i64.wrap (IntKind.i64.wrap (Int.tdiv (M.length : Int) 256) * 256) := h1
       have h2 : ¬ N.getD 2 0 % 8 > 4 := h2
       rw [hq, w64 (by omega) (by omega)] at h1
       refine .mk [] [5] _ rfl rfl rfl rfl rfl (blk_eqs (l := dL N (N.getD 0 0 % 256) (N.getD 2 0 % 8)) (l' := dN N (qF M)) ?_) rfl
       rw [dN_if, if_neg (by omega), if_neg h2]; rfl)

def dformed1S : PSpec := ⟨[gC, gD], fun (c, d, _) => (some (c.2.1 = 8 ∧ List.length d.2 ≤ 140737488355328 ∧ 0 < qF d.2), .agg [.own 0, .own 1], [.arr (.int .i64) (dN d.1 (qF d.2)), .arr (.int .u8) (dM d.2)])⟩
theorem dformed1_ok : GoodF Tryz.prog 36 dformed1S.spec := by
  have hT := tab_ok (fs := [(100, formS.spec)]) tree_ok
  have hP : SpecsOk Tryz.prog (tab tree [(100, formS.spec)]) := specs_cons form_ok specs_nil
  refine dformed1S.good (fn := Tryz.f36) hT hP Tryz.func36 (by kernel_rfl) rfl fun (c : Cv) (d : Dv) hp => ?_
  obtain ⟨cn, ck, cb, cs, cd⟩ := c
  obtain ⟨N, M⟩ := d
  obtain ⟨rfl, hl, h0⟩ : ck = 8 ∧ M.length ≤ 140737488355328 ∧ 0 < qF M := hp _ rfl
  have hq := qF_int M hl
  have hq2 := qF_le M
  have hm : over (List.replicate (IntKind.i64.wrap (IntKind.i64.wrap (Int.tdiv (M.length : Int) 256) * 256)).toNat 0) M 0 = dM M := by
    rw [hq]; exact over_take M hq2
  repeat' first
    | (refine Go.mk ?_; conv => whnf)
    | refine Need.go ?_ ?_
    | refine NilG.go (fun _ => ?_) (fun _ => ?_)
    | refine Br.dec (fun _ => ?_) (fun _ => ?_)
    | refine Br.go (fun _ => ?_) (fun _ => ?_)
    | refine draw_go hT hP mixed ?_
    | refine round_go hT hP ?_
  all_goals first
    | exact dmods_ok
    | exact of_decide_eq_true rfl
    | skip
  all_goals first
    | (exfalso; rename_i h; have h : ¬ IntKind.i64.wrap (IntKind.i64.wrap (Int.tdiv (M.length : Int) 256) * 256) > 0 := h; rw [hq] at h; omega)
    | (have e : ty5.bytes = 1 := rfl
       rw [e, show (List.length (N, M).2) = M.length from rfl, hq]; omega)
    | (rename_i h1 h2 h
       have h1 : IntKind.i64.wrap (N.getD 0 0 % 256 * 256) > IntKind.i64.wrap (IntKind.i64.wrap (Int.tdiv (M.length : Int) 256) * 256) := h1
       have h2 : N.getD 2 0 % 8 > 4 := h2
       rw [hq, w64 (by omega) (by omega)] at h1
       refine .mk [] [5, 6] _ rfl rfl rfl rfl rfl (blk2_eq (l := dL N 0 0) (l' := dN N (qF M)) ?_ hm) rfl
       rw [dN_if, if_pos (by omega), if_pos h2]; rfl)
    | (rename_i h1 h2 h
       have h1 : IntKind.i64.wrap (N.getD 0 0 % 256 * 256) > IntKind.i64.wrap (IntKind.i64.wrap (Int.tdiv (M.length : Int) 256) * 256) := h1
       have h2 : ¬ N.getD 2 0 % 8 > 4 := h2
       rw [hq, w64 (by omega) (by omega)] at h1
       refine .mk [] [5, 6] _ rfl rfl rfl rfl rfl (blk2_eq (l := dL N 0 (N.getD 2 0 % 8)) (l' := dN N (qF M)) ?_ hm) rfl
       rw [dN_if, if_pos (by omega), if_neg h2]; rfl)
    | (rename_i h1 h2 h
       have h1 : ¬ IntKind.i64.wrap (N.getD 0 0 % 256 * 256) > IntKind.i64.wrap (IntKind.i64.wrap (Int.tdiv (M.length : Int) 256) * 256) := h1
       have h2 : N.getD 2 0 % 8 > 4 := h2
       rw [hq, w64 (by omega) (by omega)] at h1
       refine .mk [] [5, 6] _ rfl rfl rfl rfl rfl (blk2_eq (l := dL N (N.getD 0 0 % 256) 0) (l' := dN N (qF M)) ?_ hm) rfl
       rw [dN_if, if_neg (by omega), if_pos h2]; rfl)
    | (rename_i h1 h2 h
       have h1 : ¬ IntKind.i64.wrap (N.getD 0 0 % 256 * 256) > IntKind.i64.wrap (IntKind.i64.wrap (Int.tdiv (M.length : Int) 256) * 256) := h1
       have h2 : ¬ N.getD 2 0 % 8 > 4 := h2
       rw [hq, w64 (by omega) (by omega)] at h1
       refine .mk [] [5, 6] _ rfl rfl rfl rfl rfl (blk2_eq (l := dL N (N.getD 0 0 % 256) (N.getD 2 0 % 8)) (l' := dN N (qF M)) ?_ hm) rfl
       rw [dN_if, if_neg (by omega), if_neg h2]; rfl)

end Go.Proofs.YtblnigjmcjpopaaGreat

/- The chip that reads and writes disks: its first state. -/
namespace Go.Proofs.YtblnigjmcjpopaaGreat
open Go.Fw
set_option linter.unusedVariables false
set_option linter.unusedSimpArgs false
set_option maxRecDepth 100000

def dfresh0S : PSpec := ⟨[gC], fun (c, _) => (some (c.2.1 = 8 ∧ List.length c.2.2.2.2 ≤ 140737488355328 ∧ qF c.2.2.2.2 = 0), .agg [.own 0, .imm (.slice none 0 0)], [.arr (.int .i64) (dN [] (qF c.2.2.2.2))])⟩
def dfresh1S : PSpec := ⟨[gC], fun (c, _) => (some (c.2.1 = 8 ∧ List.length c.2.2.2.2 ≤ 140737488355328 ∧ 0 < qF c.2.2.2.2), .agg [.own 0, .own 1], [.arr (.int .i64) (dN [] (qF c.2.2.2.2)), .arr (.int .u8) (dM c.2.2.2.2)])⟩
theorem dN_nil (q : Nat) : dN [] q = [0, 0, 0, 0, 0, 0, 0, 0, 0, 0] := by
  rw [dN_if]
  have e : (([] : List Int).getD 0 0 % 256) = 0 := rfl
  rw [e, if_neg (by omega)]
  rfl

end Go.Proofs.YtblnigjmcjpopaaGreat

