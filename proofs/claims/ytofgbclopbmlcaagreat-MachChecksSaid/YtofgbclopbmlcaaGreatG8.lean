/- Part 8 of the proof: Enc Pack Pack2 Tables RefLaw PinLaw Pin Alu Alu2 Alu3 StepRef Stepped CoreAsks Tell2 Sames Clones CoreLaw CoreTells Cut TabStep TabStep0 TabStepA TabStepB TabStepC TabStep2 Save SoundTicks. No statement is handed in here; conditions: none. -/
import Derived.Test.YtofgbclopbmlcaaGreatG7
import Derived.Test.YtofgbclopbmlcaaGreatG6
import Derived.Laws.Bits64
/- Numbers as bytes: the two walks. -/
namespace Go.Proofs.YtofgbclopbmlcaaGreat
open Go.Fw
set_option linter.unusedVariables false
set_option linter.unusedSimpArgs false
set_option linter.constructorNameAsVariable false
set_option maxRecDepth 100000

structure PutX where
  nil : Bool
  l : List Int
  n : Int
theorem blk_u8 {l l' : List Int} (h : l = l') : [some (Blk.arr (.int .u8) l)] = [some (Blk.arr (.int .u8) l')] := by rw [h]
def numI (n : Int) (l : List Int) (d u : Int) : Prop := (0 ≤ u ∧ u < 18446744073709551616) ∧ (0 ≤ d ∧ d < 128) ∧ l ++ tail7 d u.toNat = encI n
theorem numI_len {l : List Int} {n d u : Int} (hn : i64P n) (h : numI n l d u) : l.length + 1 ≤ 10 := by
  have h1 := congrArg List.length h.2.2
  rw [List.length_append] at h1
  have h3 := encI_len hn
  have h2 : 0 < (tail7 d u.toNat).length := by unfold tail7; split <;> simp
  omega
theorem set_last (l : List Int) (d v : Int) {i : Int} (h : i = (l.length : Int)) : (l ++ [d]).set i.toNat v = l ++ [v] := by
  subst h
  rw [Int.toNat_natCast, List.set_append, if_neg (by omega), Nat.sub_self]; rfl
theorem get_last (l : List Int) (d : Int) {i : Int} (h : i = (l.length : Int)) : (l ++ [d]).getD i.toNat 0 = d := by
  subst h
  rw [Int.toNat_natCast, List.getD_eq_getElem?_getD, List.getElem?_append_right (by omega), Nat.sub_self]; rfl
theorem last_i {l : List Int} {d : Int} (h : l.length ≤ 100) : IntKind.i64.wrap (((l ++ [d]).length : Int) - 1) = (l.length : Int) := by
  have e : ((l ++ [d]).length : Int) = (l.length : Int) + 1 := by simp
  rw [e, w64 (by omega) (by omega)]; omega
theorem numI_go {l : List Int} {n d u : Int} (h : numI n l d u) (hu : u > 0) : numI n (l ++ [lor .u8 d 128]) (IntKind.u8.wrap (land .u64 u 127)) (shr .u64 u 7) := by
  obtain ⟨h1, h2, h3⟩ := h
  have a1 : lor .u8 d 128 = d + 128 := by rw [or128_u8 _ h2.1 (by omega)]; omega
  have a2 : IntKind.u8.wrap (land .u64 u 127) = ((u.toNat % 128 : Nat) : Int) := by rw [land127_u64 h1, wu8]; omega
  have a3 : (shr .u64 u 7).toNat = u.toNat / 128 := by rw [shr7_u64]; omega
  refine ⟨by rw [shr7_u64]; omega, by rw [a2]; omega, ?_⟩
  rw [a1, a2, a3, ← h3, tail7_go (u := u.toNat) (d := d) (by omega), List.append_assoc]; rfl
theorem numI_end {l : List Int} {n d u : Int} (h : numI n l d u) (hu : ¬ u > 0) : l ++ [d] = encI n := by
  obtain ⟨h1, h2, h3⟩ := h
  rw [← h3, tail7, if_pos (by omega)]
theorem num_hh {l : List Int} {d : Int} (h : l.length ≤ 100) : (l ++ [d]).set (IntKind.i64.wrap (((l ++ [d]).length : Int) - 1)).toNat (lor .u8 ((l ++ [d]).getD (IntKind.i64.wrap (((l ++ [d]).length : Int) - 1)).toNat 0) 128) = l ++ [lor .u8 d 128] := by
  rw [get_last l d (last_i h), set_last l d _ (last_i h)]
theorem numI_start {n U : Int} {b : Nat} (hb : b < 2) (hU : 0 ≤ U ∧ U < 9223372036854775808) (he : zig n = 2 * U.toNat + b) : numI n [] (U % 64 * 2 + b) (U / 64) := by
  refine ⟨by omega, by omega, ?_⟩
  show tail7 _ _ = enc7 _
  have e1 : U % 64 * 2 + (b : Int) = ((U.toNat % 64 * 2 + b : Nat) : Int) := by omega
  have e2 : (U / 64).toNat = U.toNat / 64 := by omega
  rw [he, ← tail7_first U.toNat b hb, e1, e2]
theorem numI_pos {n : Int} (hn : i64P n) (h : ¬ n < 0) : numI n [] (shl .u8 (IntKind.u8.wrap (land .u64 (IntKind.u64.wrap n) 63)) 1) (shr .u64 (IntKind.u64.wrap n) 6) := by
  unfold i64P at hn
  have e : IntKind.u64.wrap n = n := by rw [wu64]; omega
  have a1 : shl .u8 (IntKind.u8.wrap (land .u64 (IntKind.u64.wrap n) 63)) 1 = n % 64 * 2 + ((0 : Nat) : Int) := by rw [e, land63_u64 (by omega), wu8, shl1_u8]; omega
  rw [a1, e, shr6_u64]
  exact numI_start (by decide) (by omega) (by unfold zig; rw [if_neg h]; omega)
theorem numI_neg {n : Int} (hn : i64P n) (h : n < 0) : numI n [] (IntKind.u8.wrap (shl .u8 (IntKind.u8.wrap (land .u64 (IntKind.u64.wrap (IntKind.i64.wrap (0 - IntKind.i64.wrap (n + 1)))) 63)) 1 + 1)) (shr .u64 (IntKind.u64.wrap (IntKind.i64.wrap (0 - IntKind.i64.wrap (n + 1)))) 6) := by
  unfold i64P at hn
  have e : IntKind.u64.wrap (IntKind.i64.wrap (0 - IntKind.i64.wrap (n + 1))) = -n - 1 := by
    rw [w64 (x := n + 1) (by omega) (by omega), w64 (by omega) (by omega), wu64]; omega
  have a1 : IntKind.u8.wrap (shl .u8 (IntKind.u8.wrap (land .u64 (IntKind.u64.wrap (IntKind.i64.wrap (0 - IntKind.i64.wrap (n + 1)))) 63)) 1 + 1) = (-n - 1) % 64 * 2 + ((1 : Nat) : Int) := by rw [e, land63_u64 (by omega), wu8, wu8, shl1_u8]; omega
  rw [a1, e, shr6_u64]
  exact numI_start (by decide) (by omega) (by unfold zig; rw [if_pos h]; omega)
def num7S : PSpec := ⟨[gi], fun (n, _) => (some (i64P n), .cell (.own 0), [.arr (.int .u8) (encI n)])⟩
set_option maxHeartbeats 4000000 in
theorem num7_ok : GoodF Tryz.prog 121 num7S.spec := by
  have hT := tab_ok (fs := []) tree_ok
  have hP : SpecsOk Tryz.prog (tab tree []) := specs_nil
  refine num7S.good (fn := Tryz.f121) hT hP Tryz.func121 (by kernel_rfl) rfl fun (n : Int) hq => ?_
  have hn : i64P n := hq _ rfl
  clear hq
  have hn' := hn
  unfold i64P at hn'
  repeat' first
    | (refine Go.mk ?_; conv => whnf)
    | refine Need.go ?_ ?_
    | refine NilG.go (fun _ => ?_) (fun _ => ?_)
    | refine Br.dec (fun _ => ?_) (fun _ => ?_)
    | refine Br.go (fun _ => ?_) (fun _ => ?_)
    | refine draw_go hT hP mixed ?_
    | refine round_go hT hP ?_
  all_goals first
    | exact of_decide_eq_true rfl
    | skip
  all_goals first
    | (exfalso; simp_all; done)
    | refine loop_go hT hP (X := List Int × Int × Int) (fun (l, d, u) => St.mk [.dead, .dead, .dead, .cell (.own 0), .cell (iv .u64 u), .dead, .dead, .dead, .dead, .dead, .dead, .dead, .dead, .dead, .dead, .dead, .dead, .dead, .dead, .dead, .dead, .dead, .dead, .dead, .dead, .dead, .dead, .dead, .dead, .dead, .dead, .dead, .dead, .dead, .dead, .dead, .dead, .dead, .dead, .dead, .dead, .dead, .dead, .dead, .dead, .dead, .dead, .dead] [some (.arr (.int .u8) (l ++ [d]))]) (fun (l, d, u) => numI n l d u) (fun (l, d, u) => u.toNat) ([], shl .u8 (IntKind.u8.wrap (land .u64 (IntKind.u64.wrap n) 63)) 1, shr .u64 (IntKind.u64.wrap n) 6) (Le.mk [] [1] rfl rfl (by exact rfl) (by repeat' first | exact trivial | exact ⟨rfl, rfl⟩ | refine And.intro ?_ ?_)) (numI_pos hn (by assumption)) fun (l, d, u) hi => ?_
    | refine loop_go hT hP (X := List Int × Int × Int) (fun (l, d, u) => St.mk [.dead, .dead, .dead, .cell (.own 0), .cell (iv .u64 u), .dead, .dead, .dead, .dead, .dead, .dead, .dead, .dead, .dead, .dead, .dead, .dead, .dead, .dead, .dead, .dead, .dead, .dead, .dead, .dead, .dead, .dead, .dead, .dead, .dead, .dead, .dead, .dead, .dead, .dead, .dead, .dead, .dead, .dead, .dead, .dead, .dead, .dead, .dead, .dead, .dead, .dead, .dead] [some (.arr (.int .u8) (l ++ [d]))]) (fun (l, d, u) => numI n l d u) (fun (l, d, u) => u.toNat) ([], IntKind.u8.wrap (shl .u8 (IntKind.u8.wrap (land .u64 (IntKind.u64.wrap (IntKind.i64.wrap (0 - IntKind.i64.wrap (n + 1)))) 63)) 1 + 1), shr .u64 (IntKind.u64.wrap (IntKind.i64.wrap (0 - IntKind.i64.wrap (n + 1)))) 6) (Le.mk [] [1] rfl rfl (by exact rfl) (by repeat' first | exact trivial | exact ⟨rfl, rfl⟩ | refine And.intro ?_ ?_)) (numI_neg hn (by assumption)) fun (l, d, u) hi => ?_
  all_goals
    have hlen := numI_len hn hi
    have hla := last_i (l := l) (d := d) (by omega)
    repeat' first
      | (refine Go.mk ?_; conv => whnf)
      | refine Need.go ?_ ?_
      | refine NilG.go (fun _ => ?_) (fun _ => ?_)
      | refine Br.dec (fun _ => ?_) (fun _ => ?_)
      | refine Br.go (fun _ => ?_) (fun _ => ?_)
      | refine draw_go hT hP mixed ?_
      | refine round_go hT hP ?_
  all_goals
    have hL : (l ++ [d]).length = l.length + 1 := by simp
  all_goals first
    | exact of_decide_eq_true rfl
    | (show 0 ≤ IntKind.i64.wrap (((l ++ [d]).length : Int) - 1) ∧ IntKind.i64.wrap (((l ++ [d]).length : Int) - 1) < (((l ++ [d]).length : Nat) : Int)
       rw [hla, hL]; omega)
    | (show (IntKind.i64.wrap (((l ++ [d]).length : Int) - 1)).toNat < (l ++ [d]).length
       rw [hla, hL]; omega)
    | (rw [List.length_set]
       show ((l ++ [d]).length + 1) * 1 ≤ 140737488355328
       rw [hL]; omega)
    | (rename_i h
       have h : u > 0 := h
       apply Exists.intro (l ++ [lor .u8 d 128], IntKind.u8.wrap (land .u64 u 127), shr .u64 u 7)
       refine And.intro ?_ (And.intro ?_ (Le.mk [] [2] rfl rfl ?hh ?ht))
       case hh => exact blk_u8 (congrArg (· ++ [IntKind.u8.wrap (land .u64 u 127)]) (num_hh (by omega)))
       case ht => repeat' first | exact trivial | exact ⟨rfl, rfl⟩ | refine And.intro ?_ ?_
       · exact numI_go hi h
       · show (shr .u64 u 7).toNat < u.toNat
         rw [shr7_u64]; omega)
    | (rename_i h
       exact .mk [] [0] _ rfl rfl rfl rfl rfl (blk_u8 (numI_end hi h)) rfl)
    | skip

end Go.Proofs.YtofgbclopbmlcaaGreat

/- A machine's state as bytes: the reference's helper. -/
namespace Go.Proofs.YtofgbclopbmlcaaGreat
open Go.Fw
set_option linter.unusedVariables false
set_option linter.unusedSimpArgs false
set_option linter.constructorNameAsVariable false
set_option maxRecDepth 100000

theorem getD_mem {l : List Int} {k : Nat} (h : k < l.length) : l.getD k 0 ∈ l := by
  rw [List.getD_eq_getElem?_getD, List.getElem?_eq_getElem h]
  exact List.getElem_mem h
theorem encAll_take {l : List Int} {k : Nat} (h : k < l.length) : encAll (l.take (k + 1)) = encAll (l.take k) ++ encI (l.getD k 0) := by
  rw [List.take_add_one, encAll_append, List.getD_eq_getElem?_getD, List.getElem?_eq_getElem h]
  simp [encAll]
theorem encAll_take_len {l : List Int} (h : ∀ n ∈ l, i64P n) (k : Nat) : (encAll (l.take k)).length ≤ 10 * l.length := by
  have h1 := encAll_len (l := l.take k) fun n hn => h n (List.mem_of_mem_take hn)
  have h2 : (l.take k).length ≤ l.length := by rw [List.length_take]; omega
  omega

inductive AddX where
  | N0 (l : List Int)
  | O1 (l o : List Int)
  | R1 (l o : List Int)
def AddX.l : AddX → List Int
  | .N0 l => l
  | .O1 l _ => l
  | .R1 l _ => l
def AddX.out : AddX → List Int
  | .N0 _ => []
  | .O1 _ o => o
  | .R1 _ o => o
def addRd : List V1 → List Blk → Option AddX := fun a b => match a, b with
  | [.c (.own 0), .c (.ptr 1 0)], [.arr (.int .i64) l, .var [.imm (.slice none 0 0)]] => some (.N0 l)
  | [.c (.own 0), .c (.ptr 1 0)], [.arr (.int .i64) l, .var [.own 2], .arr (.int .u8) o] => some (.O1 l o)
  | [.c (.ro (.int .i64) l), .c (.ptr 0 0)], [.var [.own 1], .arr (.int .u8) o] => some (.R1 l o)
  | _, _ => none
def addArgs : AddX → List V1
  | .N0 l => [.c (.own 0), .c (.ptr 1 0)]
  | .O1 l o => [.c (.own 0), .c (.ptr 1 0)]
  | .R1 l o => [.c (.ro (.int .i64) l), .c (.ptr 0 0)]
def addBl : AddX → List Blk
  | .N0 l => [.arr (.int .i64) l, .var [.imm (.slice none 0 0)]]
  | .O1 l o => [.arr (.int .i64) l, .var [.own 2], .arr (.int .u8) o]
  | .R1 l o => [.var [.own 1], .arr (.int .u8) o]
theorem addRd_ok {a : List V1} {b : List Blk} {x : AddX} (h : addRd a b = some x) : a = addArgs x ∧ b = addBl x := by
  unfold addRd at h
  split at h
  · injection h with h; subst h; exact ⟨rfl, rfl⟩
  · injection h with h; subst h; exact ⟨rfl, rfl⟩
  · injection h with h; subst h; exact ⟨rfl, rfl⟩
  · cases h
def addP (x : AddX) : Prop := (∀ n ∈ x.l, i64P n) ∧ x.out.length + 10 * x.l.length ≤ 35184372088832
def addOut (x : AddX) : Option Prop × AV × List (Option Blk) × List Blk := match x with
  | .N0 l => match l with
    | [] => (some (addP x), .tup [], [some (.arr (.int .i64) l), some (.var [.imm (.slice none 0 0)])], [])
    | _ :: _ => (some (addP x), .tup [], [some (.arr (.int .i64) l), some (.var [.own 2])], [.arr (.int .u8) (encAll l)])
  | .O1 l o => match l with
    | [] => (some (addP x), .tup [], [some (.arr (.int .i64) l), some (.var [.own 2]), some (.arr (.int .u8) o)], [])
    | _ :: _ => (some (addP x), .tup [], [some (.arr (.int .i64) l), some (.var [.own 3]), none], [.arr (.int .u8) (o ++ encAll l)])
  | .R1 l o => match l with
    | [] => (some (addP x), .tup [], [some (.var [.own 1]), some (.arr (.int .u8) o)], [])
    | _ :: _ => (some (addP x), .tup [], [some (.var [.own 2]), none], [.arr (.int .u8) (o ++ encAll l)])
def addWS : WSpec := ⟨AddX, addArgs, addBl, addRd, addOut⟩
def pkAddS : AddX → Bool × Int × List Int → St := fun x (f, i, o') => match x with
  | .N0 l => match f with
    | true => St.mk [.dead, .cell (.ptr 1 0), .dead, .dead, .dead, .cell (.own 0), I (l.length : Int), I i, .dead, .dead, .dead, .dead, .dead, .dead, .dead, .dead] [some (.arr (.int .i64) l), some (.var [.imm (.slice none 0 0)])]
    | false => St.mk [.dead, .cell (.ptr 1 0), .dead, .dead, .dead, .cell (.own 0), I (l.length : Int), I i, .dead, .dead, .dead, .dead, .dead, .dead, .dead, .dead] [some (.arr (.int .i64) l), some (.var [.own 2]), some (.arr (.int .u8) o')]
  | .O1 l o => match f with
    | true => St.mk [.dead, .cell (.ptr 1 0), .dead, .dead, .dead, .cell (.own 0), I (l.length : Int), I i, .dead, .dead, .dead, .dead, .dead, .dead, .dead, .dead] [some (.arr (.int .i64) l), some (.var [.own 2]), some (.arr (.int .u8) o')]
    | false => St.mk [.dead, .cell (.ptr 1 0), .dead, .dead, .dead, .cell (.own 0), I (l.length : Int), I i, .dead, .dead, .dead, .dead, .dead, .dead, .dead, .dead] [some (.arr (.int .i64) l), some (.var [.own 3]), none, some (.arr (.int .u8) o')]
  | .R1 l o => match f with
    | true => St.mk [.dead, .cell (.ptr 0 0), .dead, .dead, .dead, .cell (.ro (.int .i64) l), I (l.length : Int), I i, .dead, .dead, .dead, .dead, .dead, .dead, .dead, .dead] [some (.var [.own 1]), some (.arr (.int .u8) o')]
    | false => St.mk [.dead, .cell (.ptr 0 0), .dead, .dead, .dead, .cell (.ro (.int .i64) l), I (l.length : Int), I i, .dead, .dead, .dead, .dead, .dead, .dead, .dead, .dead] [some (.var [.own 2]), none, some (.arr (.int .u8) o')]
def addI (x : AddX) : Bool × Int × List Int → Prop := fun (f, i, o') => ∃ k : Nat, i = k ∧ k ≤ x.l.length ∧ o' = x.out ++ encAll (x.l.take k) ∧ (f = true ↔ k = 0)
def addM (x : AddX) : Bool × Int × List Int → Nat := fun (f, i, o') => ((x.l.length : Int) - i).toNat
theorem addI_go {x : AddX} {f : Bool} {k : Nat} {o' : List Int} (hk : k < x.l.length) (ho : o' = x.out ++ encAll (x.l.take k)) (hl : k ≤ 4611686018427387904) : addI x (false, IntKind.i64.wrap ((k : Int) + 1), o' ++ encI (x.l.getD k 0)) :=
  ⟨k + 1, up_i hl, hk, by rw [ho, encAll_take hk, List.append_assoc], by simp⟩
set_option maxHeartbeats 8000000 in
theorem pkAdd_ok : GoodF Tryz.prog 120 addWS.spec := by
  have hT := tab_ok (fs := [(121, num7S.spec)]) tree_ok
  have hP : SpecsOk Tryz.prog (tab tree [(121, num7S.spec)]) := specs_cons num7_ok specs_nil
  refine addWS.good (fn := Tryz.f120) hT hP Tryz.func120 (by kernel_rfl) rfl (fun _ _ _ h => addRd_ok h) fun (x : AddX) hq => ?_
  have hp : addP x := by
    cases x with
    | N0 l => cases l <;> exact hq _ rfl
    | O1 l o => cases l <;> exact hq _ rfl
    | R1 l o => cases l <;> exact hq _ rfl
  clear hq
  obtain ⟨h1, h2⟩ := hp
  cases x with
  | N0 l =>
    have h1 : ∀ n ∈ l, i64P n := h1
    have h2 : ([] : List Int).length + 10 * l.length ≤ 35184372088832 := h2
    repeat' first
      | (refine Go.mk ?_; conv => whnf)
      | refine Need.go ?_ ?_
      | refine NilG.go (fun _ => ?_) (fun _ => ?_)
      | refine Br.dec (fun _ => ?_) (fun _ => ?_)
      | refine Br.go (fun _ => ?_) (fun _ => ?_)
      | refine draw_go hT hP mixed ?_
      | refine round_go hT hP ?_
    all_goals first
      | exact of_decide_eq_true rfl
      | skip
    refine loop_go hT hP (X := Bool × Int × List Int) (pkAddS (.N0 l)) (addI (.N0 l)) (addM (.N0 l)) (true, 0, ([] : List Int)) (Le.mk [] [0, 1] rfl rfl ?_ ?_) ?_ fun (f, i, o') hi => ?_
    · exact rfl
    · repeat' first | exact trivial | exact ⟨rfl, rfl⟩ | refine And.intro ?_ ?_
    · exact ⟨0, rfl, Nat.zero_le _, by simp [encAll, AddX.out], by simp⟩
    obtain ⟨k, rfl, hk, ho, hf⟩ := hi
    have hk : k ≤ l.length := hk
    have ho : o' = ([] : List Int) ++ encAll (l.take k) := ho
    have hlo : o'.length ≤ ([] : List Int).length + 10 * l.length := by rw [ho, List.length_append]; have := encAll_take_len h1 k; omega
    cases f with
    | true =>
      obtain rfl : k = 0 := hf.1 rfl
      have ho2 : o' = ([] : List Int) := by rw [ho]; simp [encAll]
      repeat' first
        | (refine Go.mk ?_; conv => whnf)
        | refine Need.go ?_ ?_
        | refine NilG.go (fun _ => ?_) (fun _ => ?_)
        | refine Br.dec (fun _ => ?_) (fun _ => ?_)
        | refine Br.go (fun _ => ?_) (fun _ => ?_)
        | refine draw_go hT hP mixed ?_
        | refine round_go hT hP ?_
      all_goals first
        | exact of_decide_eq_true rfl
        | (show 0 ≤ ((0 : Nat) : Int) ∧ ((0 : Nat) : Int) < (l.length : Int)
           omega)
        | (show (((0 : Nat) : Int)).toNat < l.length
           omega)
        | (rename_i h
           have h : ((0 : Nat) : Int) < (l.length : Int) := h
           exact h1 _ (getD_mem (k := 0) (by omega)))
        | (rename_i h
           have h : ((0 : Nat) : Int) < (l.length : Int) := h
           have hz := encI_len (h1 _ (getD_mem (k := 0) (by omega)))
           show ((encI (l.getD 0 0)).length) * 1 ≤ 140737488355328
           omega)
        | (rename_i h
           have h : ((0 : Nat) : Int) < (l.length : Int) := h
           apply Exists.intro (false, _, _)
           refine And.intro ?_ (And.intro ?_ (Le.mk [] [0, 1, 3] rfl rfl ?hh ?ht))
           case hh => exact rfl
           case ht => repeat' first | exact trivial | exact ⟨rfl, rfl⟩ | refine And.intro ?_ ?_
           · exact addI_go (x := .N0 l) (f := true) (k := 0) (o' := []) (by show 0 < l.length; omega) (by simp [encAll, AddX.out]) (by omega)
           · show ((l.length : Int) - IntKind.i64.wrap (((0 : Nat) : Int) + 1)).toNat < ((l.length : Int) - ((0 : Nat) : Int)).toNat
             rw [up_i (by omega)]; omega)
        | (rename_i h
           have h : ¬ ((0 : Nat) : Int) < (l.length : Int) := h
           obtain rfl : l = [] := List.eq_nil_of_length_eq_zero (by omega)
           subst ho2
           exact .mk [] [0, 1] _ rfl rfl rfl rfl rfl rfl rfl)
        | skip
    | false =>
      repeat' first
        | (refine Go.mk ?_; conv => whnf)
        | refine Need.go ?_ ?_
        | refine NilG.go (fun _ => ?_) (fun _ => ?_)
        | refine Br.dec (fun _ => ?_) (fun _ => ?_)
        | refine Br.go (fun _ => ?_) (fun _ => ?_)
        | refine draw_go hT hP mixed ?_
        | refine round_go hT hP ?_
      all_goals first
        | exact of_decide_eq_true rfl
        | (show 0 ≤ (k : Int) ∧ (k : Int) < (l.length : Int)
           omega)
        | (show ((k : Int)).toNat < l.length
           omega)
        | (rename_i h
           have h : (k : Int) < (l.length : Int) := h
           exact h1 _ (getD_mem (k := k) (by omega)))
        | (rename_i h
           have h : (k : Int) < (l.length : Int) := h
           have hz := encI_len (h1 _ (getD_mem (k := k) (by omega)))
           show (o'.length + (encI (l.getD k 0)).length) * 1 ≤ 140737488355328
           omega)
        | (rename_i h
           have h : (k : Int) < (l.length : Int) := h
           apply Exists.intro (false, _, _)
           refine And.intro ?_ (And.intro ?_ (Le.mk [] [0, 1, 4] rfl rfl ?hh ?ht))
           case hh => exact rfl
           case ht => repeat' first | exact trivial | exact ⟨rfl, rfl⟩ | refine And.intro ?_ ?_
           · exact addI_go (x := .N0 l) (f := false) (k := k) (by show k < l.length; omega) ho (by omega)
           · show ((l.length : Int) - IntKind.i64.wrap ((k : Int) + 1)).toNat < ((l.length : Int) - (k : Int)).toNat
             rw [up_i (by omega)]; omega)
        | (rename_i h
           have h : ¬ (k : Int) < (l.length : Int) := h
           rw [List.take_of_length_le (by omega)] at ho
           subst ho
           cases l with
           | nil => exact absurd (hf.2 (by simp at hk; omega)) (by decide)
           | cons a r => exact .mk [] [0, 1, 2] _ rfl rfl rfl rfl rfl rfl rfl)
        | skip
  | O1 l o =>
    have h1 : ∀ n ∈ l, i64P n := h1
    have h2 : o.length + 10 * l.length ≤ 35184372088832 := h2
    repeat' first
      | (refine Go.mk ?_; conv => whnf)
      | refine Need.go ?_ ?_
      | refine NilG.go (fun _ => ?_) (fun _ => ?_)
      | refine Br.dec (fun _ => ?_) (fun _ => ?_)
      | refine Br.go (fun _ => ?_) (fun _ => ?_)
      | refine draw_go hT hP mixed ?_
      | refine round_go hT hP ?_
    all_goals first
      | exact of_decide_eq_true rfl
      | skip
    refine loop_go hT hP (X := Bool × Int × List Int) (pkAddS (.O1 l o)) (addI (.O1 l o)) (addM (.O1 l o)) (true, 0, o) (Le.mk [] [0, 1, 2] rfl rfl ?_ ?_) ?_ fun (f, i, o') hi => ?_
    · exact rfl
    · repeat' first | exact trivial | exact ⟨rfl, rfl⟩ | refine And.intro ?_ ?_
    · exact ⟨0, rfl, Nat.zero_le _, by simp [encAll, AddX.out], by simp⟩
    obtain ⟨k, rfl, hk, ho, hf⟩ := hi
    have hk : k ≤ l.length := hk
    have ho : o' = o ++ encAll (l.take k) := ho
    have hlo : o'.length ≤ o.length + 10 * l.length := by rw [ho, List.length_append]; have := encAll_take_len h1 k; omega
    cases f with
    | true =>
      obtain rfl : k = 0 := hf.1 rfl
      have ho2 : o' = o := by rw [ho]; simp [encAll]
      repeat' first
        | (refine Go.mk ?_; conv => whnf)
        | refine Need.go ?_ ?_
        | refine NilG.go (fun _ => ?_) (fun _ => ?_)
        | refine Br.dec (fun _ => ?_) (fun _ => ?_)
        | refine Br.go (fun _ => ?_) (fun _ => ?_)
        | refine draw_go hT hP mixed ?_
        | refine round_go hT hP ?_
      all_goals first
        | exact of_decide_eq_true rfl
        | (show 0 ≤ ((0 : Nat) : Int) ∧ ((0 : Nat) : Int) < (l.length : Int)
           omega)
        | (show (((0 : Nat) : Int)).toNat < l.length
           omega)
        | (rename_i h
           have h : ((0 : Nat) : Int) < (l.length : Int) := h
           exact h1 _ (getD_mem (k := 0) (by omega)))
        | (rename_i h
           have h : ((0 : Nat) : Int) < (l.length : Int) := h
           have hz := encI_len (h1 _ (getD_mem (k := 0) (by omega)))
           show (o'.length + (encI (l.getD 0 0)).length) * 1 ≤ 140737488355328
           omega)
        | (rename_i h
           have h : ((0 : Nat) : Int) < (l.length : Int) := h
           apply Exists.intro (false, _, _)
           refine And.intro ?_ (And.intro ?_ (Le.mk [] [0, 1, 2, 4] rfl rfl ?hh ?ht))
           case hh => exact rfl
           case ht => repeat' first | exact trivial | exact ⟨rfl, rfl⟩ | refine And.intro ?_ ?_
           · exact addI_go (x := .O1 l o) (f := true) (k := 0) (by show 0 < l.length; omega) ho (by omega)
           · show ((l.length : Int) - IntKind.i64.wrap (((0 : Nat) : Int) + 1)).toNat < ((l.length : Int) - ((0 : Nat) : Int)).toNat
             rw [up_i (by omega)]; omega)
        | (rename_i h
           have h : ¬ ((0 : Nat) : Int) < (l.length : Int) := h
           obtain rfl : l = [] := List.eq_nil_of_length_eq_zero (by omega)
           subst ho2
           exact .mk [] [0, 1, 2] _ rfl rfl rfl rfl rfl rfl rfl)
        | skip
    | false =>
      repeat' first
        | (refine Go.mk ?_; conv => whnf)
        | refine Need.go ?_ ?_
        | refine NilG.go (fun _ => ?_) (fun _ => ?_)
        | refine Br.dec (fun _ => ?_) (fun _ => ?_)
        | refine Br.go (fun _ => ?_) (fun _ => ?_)
        | refine draw_go hT hP mixed ?_
        | refine round_go hT hP ?_
      all_goals first
        | exact of_decide_eq_true rfl
        | (show 0 ≤ (k : Int) ∧ (k : Int) < (l.length : Int)
           omega)
        | (show ((k : Int)).toNat < l.length
           omega)
        | (rename_i h
           have h : (k : Int) < (l.length : Int) := h
           exact h1 _ (getD_mem (k := k) (by omega)))
        | (rename_i h
           have h : (k : Int) < (l.length : Int) := h
           have hz := encI_len (h1 _ (getD_mem (k := k) (by omega)))
           show (o'.length + (encI (l.getD k 0)).length) * 1 ≤ 140737488355328
           omega)
        | (rename_i h
           have h : (k : Int) < (l.length : Int) := h
           apply Exists.intro (false, _, _)
           refine And.intro ?_ (And.intro ?_ (Le.mk [] [0, 1, 2, 5] rfl rfl ?hh ?ht))
           case hh => exact rfl
           case ht => repeat' first | exact trivial | exact ⟨rfl, rfl⟩ | refine And.intro ?_ ?_
           · exact addI_go (x := .O1 l o) (f := false) (k := k) (by show k < l.length; omega) ho (by omega)
           · show ((l.length : Int) - IntKind.i64.wrap ((k : Int) + 1)).toNat < ((l.length : Int) - (k : Int)).toNat
             rw [up_i (by omega)]; omega)
        | (rename_i h
           have h : ¬ (k : Int) < (l.length : Int) := h
           rw [List.take_of_length_le (by omega)] at ho
           subst ho
           cases l with
           | nil => exact absurd (hf.2 (by simp at hk; omega)) (by decide)
           | cons a r => exact .mk [] [0, 1, 2, 3] _ rfl rfl rfl rfl rfl rfl rfl)
        | skip
  | R1 l o =>
    have h1 : ∀ n ∈ l, i64P n := h1
    have h2 : o.length + 10 * l.length ≤ 35184372088832 := h2
    repeat' first
      | (refine Go.mk ?_; conv => whnf)
      | refine Need.go ?_ ?_
      | refine NilG.go (fun _ => ?_) (fun _ => ?_)
      | refine Br.dec (fun _ => ?_) (fun _ => ?_)
      | refine Br.go (fun _ => ?_) (fun _ => ?_)
      | refine draw_go hT hP mixed ?_
      | refine round_go hT hP ?_
    all_goals first
      | exact of_decide_eq_true rfl
      | skip
    refine loop_go hT hP (X := Bool × Int × List Int) (pkAddS (.R1 l o)) (addI (.R1 l o)) (addM (.R1 l o)) (true, 0, o) (Le.mk [] [0, 1] rfl rfl ?_ ?_) ?_ fun (f, i, o') hi => ?_
    · exact rfl
    · repeat' first | exact trivial | exact ⟨rfl, rfl⟩ | refine And.intro ?_ ?_
    · exact ⟨0, rfl, Nat.zero_le _, by simp [encAll, AddX.out], by simp⟩
    obtain ⟨k, rfl, hk, ho, hf⟩ := hi
    have hk : k ≤ l.length := hk
    have ho : o' = o ++ encAll (l.take k) := ho
    have hlo : o'.length ≤ o.length + 10 * l.length := by rw [ho, List.length_append]; have := encAll_take_len h1 k; omega
    cases f with
    | true =>
      obtain rfl : k = 0 := hf.1 rfl
      have ho2 : o' = o := by rw [ho]; simp [encAll]
      repeat' first
        | (refine Go.mk ?_; conv => whnf)
        | refine Need.go ?_ ?_
        | refine NilG.go (fun _ => ?_) (fun _ => ?_)
        | refine Br.dec (fun _ => ?_) (fun _ => ?_)
        | refine Br.go (fun _ => ?_) (fun _ => ?_)
        | refine draw_go hT hP mixed ?_
        | refine round_go hT hP ?_
      all_goals first
        | exact of_decide_eq_true rfl
        | (show 0 ≤ ((0 : Nat) : Int) ∧ ((0 : Nat) : Int) < (l.length : Int)
           omega)
        | (show (((0 : Nat) : Int)).toNat < l.length
           omega)
        | (rename_i h
           have h : ((0 : Nat) : Int) < (l.length : Int) := h
           exact h1 _ (getD_mem (k := 0) (by omega)))
        | (rename_i h
           have h : ((0 : Nat) : Int) < (l.length : Int) := h
           have hz := encI_len (h1 _ (getD_mem (k := 0) (by omega)))
           show (o'.length + (encI (l.getD 0 0)).length) * 1 ≤ 140737488355328
           omega)
        | (rename_i h
           have h : ((0 : Nat) : Int) < (l.length : Int) := h
           apply Exists.intro (false, _, _)
           refine And.intro ?_ (And.intro ?_ (Le.mk [] [0, 1, 3] rfl rfl ?hh ?ht))
           case hh => exact rfl
           case ht => repeat' first | exact trivial | exact ⟨rfl, rfl⟩ | refine And.intro ?_ ?_
           · exact addI_go (x := .R1 l o) (f := true) (k := 0) (by show 0 < l.length; omega) ho (by omega)
           · show ((l.length : Int) - IntKind.i64.wrap (((0 : Nat) : Int) + 1)).toNat < ((l.length : Int) - ((0 : Nat) : Int)).toNat
             rw [up_i (by omega)]; omega)
        | (rename_i h
           have h : ¬ ((0 : Nat) : Int) < (l.length : Int) := h
           obtain rfl : l = [] := List.eq_nil_of_length_eq_zero (by omega)
           subst ho2
           exact .mk [] [0, 1] _ rfl rfl rfl rfl rfl rfl rfl)
        | skip
    | false =>
      repeat' first
        | (refine Go.mk ?_; conv => whnf)
        | refine Need.go ?_ ?_
        | refine NilG.go (fun _ => ?_) (fun _ => ?_)
        | refine Br.dec (fun _ => ?_) (fun _ => ?_)
        | refine Br.go (fun _ => ?_) (fun _ => ?_)
        | refine draw_go hT hP mixed ?_
        | refine round_go hT hP ?_
      all_goals first
        | exact of_decide_eq_true rfl
        | (show 0 ≤ (k : Int) ∧ (k : Int) < (l.length : Int)
           omega)
        | (show ((k : Int)).toNat < l.length
           omega)
        | (rename_i h
           have h : (k : Int) < (l.length : Int) := h
           exact h1 _ (getD_mem (k := k) (by omega)))
        | (rename_i h
           have h : (k : Int) < (l.length : Int) := h
           have hz := encI_len (h1 _ (getD_mem (k := k) (by omega)))
           show (o'.length + (encI (l.getD k 0)).length) * 1 ≤ 140737488355328
           omega)
        | (rename_i h
           have h : (k : Int) < (l.length : Int) := h
           apply Exists.intro (false, _, _)
           refine And.intro ?_ (And.intro ?_ (Le.mk [] [0, 1, 4] rfl rfl ?hh ?ht))
           case hh => exact rfl
           case ht => repeat' first | exact trivial | exact ⟨rfl, rfl⟩ | refine And.intro ?_ ?_
           · exact addI_go (x := .R1 l o) (f := false) (k := k) (by show k < l.length; omega) ho (by omega)
           · show ((l.length : Int) - IntKind.i64.wrap ((k : Int) + 1)).toNat < ((l.length : Int) - (k : Int)).toNat
             rw [up_i (by omega)]; omega)
        | (rename_i h
           have h : ¬ (k : Int) < (l.length : Int) := h
           rw [List.take_of_length_le (by omega)] at ho
           subst ho
           cases l with
           | nil => exact absurd (hf.2 (by simp at hk; omega)) (by decide)
           | cons a r => exact .mk [] [0, 1, 2] _ rfl rfl rfl rfl rfl rfl rfl)
        | skip

end Go.Proofs.YtofgbclopbmlcaaGreat

/- A machine's state as bytes: the reference. -/
namespace Go.Proofs.YtofgbclopbmlcaaGreat
open Go.Fw
set_option linter.unusedVariables false
set_option linter.unusedSimpArgs false
set_option linter.constructorNameAsVariable false
set_option maxRecDepth 100000

abbrev DevT : Ty := .pair (.sl (.int .i64)) (.sl (.int .u8))
abbrev MachT : Ty := .pair (.int .i64) (.pair CoreT (.pair (.sl DevT) (.pair (.int .i64) (.pair (.int .i64) (.int .i64)))))
abbrev gM : Sig := ⟨true, MachT⟩
abbrev Mach := Int × Kor × List Dv × Int × Int × Int
def headL (m : Mach) : List Int := [m.1] ++ m.2.1.1 ++ [m.2.1.2.1, m.2.1.2.2.1, cond m.2.1.2.2.2 1 0, m.2.2.2.1, m.2.2.2.2.1, m.2.2.2.2.2, (m.2.2.1.length : Int)]
def devL (d : Dv) : List Int := encI (d.1.length : Int) ++ encAll d.1 ++ encI (d.2.length : Int) ++ d.2
def packF (m : Mach) : List Int := encAll (headL m) ++ m.2.2.1.flatMap devL
def devSz (d : Dv) : Nat := 10 * d.1.length + d.2.length + 20
def packP (m : Mach) : Prop := (∀ n ∈ headL m, i64P n) ∧ (∀ d ∈ m.2.2.1, ∀ n ∈ d.1, i64P n) ∧ m.2.1.1.length = 9 ∧ (m.2.2.1.map devSz).sum ≤ 1099511627776

def seenbS : PSpec := ⟨[gB], fun (b, _) => (none, I (cond b 1 0), [])⟩
theorem seenb_ok : GoodF Tryz.prog 119 seenbS.spec := by
  have hT := tab_ok (fs := []) tree_ok
  have hP : SpecsOk Tryz.prog (tab tree []) := specs_nil
  refine seenbS.good (fn := Tryz.f119) hT hP Tryz.func119 (by kernel_rfl) rfl fun (b : Bool) _ => ?_
  cases b
  all_goals
    repeat' first
      | (refine Go.mk ?_; conv => whnf)
      | refine Need.go ?_ ?_
      | refine NilG.go (fun _ => ?_) (fun _ => ?_)
      | refine Br.dec (fun _ => ?_) (fun _ => ?_)
      | refine Br.go (fun _ => ?_) (fun _ => ?_)
      | refine draw_go hT hP mixed ?_
      | refine round_go hT hP ?_
  all_goals exact .mk [] [] _ rfl rfl rfl rfl rfl rfl rfl

theorem headL_len (m : Mach) (h : m.2.1.1.length = 9) : (headL m).length = 17 := by unfold headL; simp [h]
theorem sum_take_le (l : List Nat) (k : Nat) : (l.take k).sum ≤ l.sum := by
  have := List.sum_append_nat (l₁ := l.take k) (l₂ := l.drop k)
  rw [List.take_append_drop] at this
  omega
theorem devL_len {d : Dv} (h : ∀ n ∈ d.1, i64P n) (h2 : d.1.length ≤ 4611686018427387904) (h3 : d.2.length ≤ 4611686018427387904) : (devL d).length ≤ devSz d := by
  have a1 := encAll_len h
  have a2 := encI_len (n := (d.1.length : Int)) (by unfold i64P; omega)
  have a3 := encI_len (n := (d.2.length : Int)) (by unfold i64P; omega)
  unfold devL devSz
  simp only [List.length_append]
  omega
theorem flat_take {ds : List Dv} {k : Nat} (h : k < ds.length) : (ds.take (k + 1)).flatMap devL = (ds.take k).flatMap devL ++ devL (ds.getD k ([], [])) := by
  rw [List.take_add_one, List.flatMap_append, List.getD_eq_getElem?_getD, List.getElem?_eq_getElem h]
  simp
theorem dev_mem {ds : List Dv} {k : Nat} (h : k < ds.length) : ds.getD k ([], []) ∈ ds := by
  rw [List.getD_eq_getElem?_getD, List.getElem?_eq_getElem h]
  exact List.getElem_mem h
theorem devSz_le {ds : List Dv} {d : Dv} (h : d ∈ ds) : devSz d ≤ (ds.map devSz).sum := by
  induction ds with
  | nil => cases h
  | cons x r ih =>
    simp only [List.map_cons, List.sum_cons]
    rcases List.mem_cons.1 h with rfl | h
    · omega
    · have := ih h; omega
theorem devs_len (ds : List Dv) : 20 * ds.length ≤ (ds.map devSz).sum := by
  induction ds with
  | nil => simp
  | cons x r ih => simp only [List.map_cons, List.sum_cons, List.length_cons]; unfold devSz at *; omega
theorem flat_len {ds : List Dv} (h : ∀ d ∈ ds, ∀ n ∈ d.1, i64P n) (hs : (ds.map devSz).sum ≤ 1099511627776) : (ds.flatMap devL).length ≤ (ds.map devSz).sum := by
  induction ds with
  | nil => simp
  | cons x r ih =>
    have h1 := devSz_le (List.mem_cons_self (a := x) (l := r))
    have h2 : devSz x ≤ 1099511627776 := Nat.le_trans h1 hs
    unfold devSz at h2
    have h3 := devL_len (h x (List.mem_cons_self ..)) (by omega) (by omega)
    simp only [List.map_cons, List.sum_cons] at hs
    have h4 := ih (fun d hd => h d (List.mem_cons_of_mem _ hd)) (by omega)
    simp only [List.flatMap_cons, List.length_append, List.map_cons, List.sum_cons]
    omega
theorem flat_take_len {ds : List Dv} (h : ∀ d ∈ ds, ∀ n ∈ d.1, i64P n) (hs : (ds.map devSz).sum ≤ 1099511627776) (k : Nat) : ((ds.take k).flatMap devL).length ≤ (ds.map devSz).sum := by
  have e := sum_take_le (ds.map devSz) k
  rw [← List.map_take] at e
  exact Nat.le_trans (flat_len (fun d hd => h d (List.mem_of_mem_take hd)) (by omega)) e
def packS : PSpec := ⟨[gM], fun (m, _) => (some (packP m), .cell (.own 0), [.arr (.int .u8) (packF m)])⟩
set_option maxHeartbeats 8000000 in
theorem packed_ok : GoodF Tryz.prog 65 packS.spec := by
  have hT := tab_ok (fs := [(119, seenbS.spec), (120, addWS.spec)]) tree_ok
  have hP : SpecsOk Tryz.prog (tab tree [(119, seenbS.spec), (120, addWS.spec)]) := specs_cons seenb_ok (specs_cons pkAdd_ok specs_nil)
  refine packS.good (fn := Tryz.f65) hT hP Tryz.func65 (by kernel_rfl) rfl fun (m : Mach) hq => ?_
  have hp : packP m := hq _ rfl
  clear hq
  obtain ⟨tm, ⟨r, op, at_, nmi⟩, ds, bd, ba, bdt⟩ := m
  obtain ⟨h1, h2, h3, h4⟩ := hp
  have h3 : r.length = 9 := h3
  repeat' first
    | (refine Go.mk ?_; conv => whnf)
    | refine Need.go ?_ ?_
    | refine NilG.go (fun _ => ?_) (fun _ => ?_)
    | refine Br.dec (fun _ => ?_) (fun _ => ?_)
    | refine Br.go (fun _ => ?_) (fun _ => ?_)
    | refine draw_go hT hP mixed ?_
    | refine round_go hT hP ?_
  all_goals first
    | exact of_decide_eq_true rfl
    | skip
  all_goals
    have h1 : ∀ n ∈ headL (tm, (r, op, at_, nmi), ds, bd, ba, bdt), i64P n := h1
    have h2 : ∀ d ∈ ds, ∀ n ∈ d.1, i64P n := h2
    have h4 : (ds.map devSz).sum ≤ 1099511627776 := h4
    have hH := headL_len (tm, (r, op, at_, nmi), ds, bd, ba, bdt) h3
    have hHl := encAll_len h1
    rw [hH] at hHl
  · show (1 + r.length) * 8 ≤ 140737488355328
    omega
  · show (([tm] ++ r).length + 7) * 8 ≤ 140737488355328
    simp; omega
  · exact ⟨h1, by show 0 + 10 * (headL (tm, (r, op, at_, nmi), ds, bd, ba, bdt)).length ≤ _; omega⟩
  · have hds := devs_len ds
    refine up_go hT hP ds.length (fun i (o : List Int) => St.mk [.dead, .dead, .dead, .dead, .cell (.ptr 0 0), .cell (.fn 120 [0]), .dead, .dead, .dead, .dead, .dead, .dead, .dead, .dead, .dead, .dead, .dead, .dead, .dead, .dead, .dead, .dead, .dead, .dead, .dead, .dead, .dead, .dead, .dead, .dead, .dead, .dead, .dead, .dead, .dead, .dead, .dead, .dead, .dead, .dead, .dead, .dead, .dead, .dead, .dead, .dead, .dead, .dead, .cell (.ro DevT ds), I (ds.length : Int), I i, .dead, .dead, .dead, .dead, .dead, .dead, .dead, .dead, .dead, .dead, .dead, .dead, .dead, .dead, .dead, .dead, .dead, .dead, .dead, .dead, .dead, .dead, .dead, .dead, .dead] [some (.var [.own 1]), some (.arr (.int .u8) o)])
      (fun k o => o = encAll (headL (tm, (r, op, at_, nmi), ds, bd, ba, bdt)) ++ (ds.take k).flatMap devL) (encAll (headL (tm, (r, op, at_, nmi), ds, bd, ba, bdt))) (Le.mk [] [6, 7] rfl rfl ?_ ?_) ?_ fun k o hk hi => ?_
    · exact rfl
    · repeat' first | exact trivial | exact ⟨rfl, rfl⟩ | refine And.intro ?_ ?_
    · simp
    repeat' first
      | (refine Go.mk ?_; conv => whnf)
      | refine Need.go ?_ ?_
      | refine NilG.go (fun _ => ?_) (fun _ => ?_)
      | refine Br.dec (fun _ => ?_) (fun _ => ?_)
      | refine Br.go (fun _ => ?_) (fun _ => ?_)
      | refine draw_go hT hP mixed ?_
      | refine round_go hT hP ?_
    all_goals first
      | exact of_decide_eq_true rfl
      | skip
    · rename_i hlt
      have hlt : (k : Int) < (ds.length : Int) := hlt
      show 0 ≤ (k : Int) ∧ (k : Int) < (ds.length : Int)
      omega
    · rename_i hlt
      have hlt : (k : Int) < (ds.length : Int) := hlt
      have hm : List.getD (α := Den DevT) ds ((k : Int)).toNat (dflt DevT) ∈ ds := dev_mem (by omega)
      have hlo : o.length ≤ 170 + (ds.map devSz).sum := by
        rw [hi, List.length_append]
        have := flat_take_len h2 h4 k
        omega
      have hz := devSz_le hm
      generalize List.getD (α := Den DevT) ds ((k : Int)).toNat (dflt DevT) = D at *
      obtain ⟨N, M⟩ := D
      have hz : 10 * N.length + M.length + 20 ≤ (ds.map devSz).sum := hz
      refine ⟨fun n hn => ?_, ?_⟩
      · have hn : n ∈ [((N.length : Nat) : Int)] := hn
        rw [List.mem_singleton] at hn
        subst hn
        unfold i64P
        omega
      · show o.length + 10 * 1 ≤ 35184372088832
        omega
    · rename_i hlt
      have hlt : (k : Int) < (ds.length : Int) := hlt
      have hm : List.getD (α := Den DevT) ds ((k : Int)).toNat (dflt DevT) ∈ ds := dev_mem (by omega)
      have hft : (ds.take (k + 1)).flatMap devL = (ds.take k).flatMap devL ++ devL (List.getD (α := Den DevT) ds ((k : Int)).toNat (dflt DevT)) := flat_take (by omega)
      have hlo : o.length ≤ 170 + (ds.map devSz).sum := by
        rw [hi, List.length_append]
        have := flat_take_len h2 h4 k
        omega
      generalize List.getD (α := Den DevT) ds ((k : Int)).toNat (dflt DevT) = D at *
      have hD := h2 D hm
      have hz := devSz_le hm
      obtain ⟨N, M⟩ := D
      have hD : ∀ n ∈ N, i64P n := hD
      have hz : 10 * N.length + M.length + 20 ≤ (ds.map devSz).sum := hz
      cases N with
      | nil =>
        conv => whnf
        repeat' first
          | (refine Go.mk ?_; conv => whnf)
          | refine Need.go ?_ ?_
          | refine NilG.go (fun _ => ?_) (fun _ => ?_)
          | refine Br.dec (fun _ => ?_) (fun _ => ?_)
          | refine Br.go (fun _ => ?_) (fun _ => ?_)
          | refine draw_go hT hP mixed ?_
          | refine round_go hT hP ?_
        all_goals
          have eN := encI_len (n := (((([] : List Int)).length : Nat) : Int)) (by unfold i64P; omega)
          have eM := encI_len (n := ((M.length : Nat) : Int)) (by unfold i64P; omega)
          have eA := encAll_len hD
        all_goals first
          | exact of_decide_eq_true rfl
          | (refine ⟨hD, ?_⟩
             show (o ++ (encI (((([] : List Int)).length : Nat) : Int) ++ [])).length + 10 * (([] : List Int)).length ≤ 35184372088832
             simp only [List.length_append, List.length_nil]; first | omega | (simp only [List.length_nil] at eN; omega))
          | (refine ⟨fun n hn => ?_, ?_⟩
             · have hn : n ∈ [((M.length : Nat) : Int)] := hn
               rw [List.mem_singleton] at hn
               subst hn
               unfold i64P
               omega
             · show (o ++ (encI (((([] : List Int)).length : Nat) : Int) ++ [])).length + 10 * 1 ≤ 35184372088832
               simp only [List.length_append, List.length_nil]; first | omega | (simp only [List.length_nil] at eN; omega))
          | (show ((o ++ (encI (((([] : List Int)).length : Nat) : Int) ++ []) ++ (encI ((M.length : Nat) : Int) ++ [])).length + M.length) * 1 ≤ 140737488355328
             simp only [List.length_append, List.length_nil]; first | omega | (simp only [List.length_nil] at eN; omega))
          | skip
        apply Exists.intro
        apply Exists.intro _
        refine And.intro (And.intro ?lt201 (And.intro ?ei201 ?inv201)) (Le.mk [] [0, 7] rfl rfl ?hh201 ?ht201)
        case hh201 => exact rfl
        case ht201 => repeat' first | exact trivial | exact ⟨rfl, rfl⟩ | refine And.intro ?_ ?_
        case lt201 => omega
        case ei201 => exact up_i (by omega)
        · show o ++ (encI (((([] : List Int)).length : Nat) : Int) ++ []) ++ (encI ((M.length : Nat) : Int) ++ []) ++ M = _
          rw [hft, hi]
          simp [devL, encAll]
      | cons a N' =>
        conv => whnf
        repeat' first
          | (refine Go.mk ?_; conv => whnf)
          | refine Need.go ?_ ?_
          | refine NilG.go (fun _ => ?_) (fun _ => ?_)
          | refine Br.dec (fun _ => ?_) (fun _ => ?_)
          | refine Br.go (fun _ => ?_) (fun _ => ?_)
          | refine draw_go hT hP mixed ?_
          | refine round_go hT hP ?_
        all_goals
          have eN := encI_len (n := (((a :: N').length : Nat) : Int)) (by unfold i64P; omega)
          have eM := encI_len (n := ((M.length : Nat) : Int)) (by unfold i64P; omega)
          have eA := encAll_len hD
        all_goals first
          | exact of_decide_eq_true rfl
          | (refine ⟨hD, ?_⟩
             show (o ++ (encI (((a :: N').length : Nat) : Int) ++ [])).length + 10 * (a :: N').length ≤ 35184372088832
             simp only [List.length_append, List.length_nil]; first | omega | (simp only [List.length_nil] at eN; omega))
          | (refine ⟨fun n hn => ?_, ?_⟩
             · have hn : n ∈ [((M.length : Nat) : Int)] := hn
               rw [List.mem_singleton] at hn
               subst hn
               unfold i64P
               omega
             · show (o ++ (encI (((a :: N').length : Nat) : Int) ++ []) ++ encAll (a :: N')).length + 10 * 1 ≤ 35184372088832
               simp only [List.length_append, List.length_nil]; first | omega | (simp only [List.length_nil] at eN; omega))
          | (show ((o ++ (encI (((a :: N').length : Nat) : Int) ++ []) ++ encAll (a :: N') ++ (encI ((M.length : Nat) : Int) ++ [])).length + M.length) * 1 ≤ 140737488355328
             simp only [List.length_append, List.length_nil]; first | omega | (simp only [List.length_nil] at eN; omega))
          | skip
        apply Exists.intro
        apply Exists.intro _
        refine And.intro (And.intro ?lt241 (And.intro ?ei241 ?inv241)) (Le.mk [] [0, 8] rfl rfl ?hh241 ?ht241)
        case hh241 => exact rfl
        case ht241 => repeat' first | exact trivial | exact ⟨rfl, rfl⟩ | refine And.intro ?_ ?_
        case lt241 => omega
        case ei241 => exact up_i (by omega)
        · show o ++ (encI (((a :: N').length : Nat) : Int) ++ []) ++ encAll (a :: N') ++ (encI ((M.length : Nat) : Int) ++ []) ++ M = _
          rw [hft, hi]
          simp [devL, encAll]
    · rename_i hlt
      have hlt : ¬ (k : Int) < (ds.length : Int) := hlt
      refine .mk [] [1] _ rfl rfl rfl rfl rfl (blk_u8 ?_) rfl
      rw [hi, List.take_of_length_le (by omega)]; rfl

end Go.Proofs.YtofgbclopbmlcaaGreat

/- Tables of instructions: how long an operand is; a table without instructions. -/
namespace Go.Proofs.YtofgbclopbmlcaaGreat
open Go.Fw
set_option linter.unusedVariables false
set_option linter.unusedSimpArgs false
set_option linter.constructorNameAsVariable false
set_option maxRecDepth 100000

def sizeI (m : Int) : Int := if m = 0 then 0 else if m = 4 ∨ m = 5 ∨ m = 6 then 2 else if m = 1 ∨ m = 2 ∨ m = 3 ∨ m = 7 ∨ m = 8 then 1 else -1
def tsizeS : PSpec := ⟨[gi], fun (m, _) => (none, I (sizeI m), [])⟩
theorem tSize_ok : GoodF Tryz.prog 186 tsizeS.spec := by
  have hT := tab_ok (fs := []) tree_ok
  have hP : SpecsOk Tryz.prog (tab tree []) := specs_nil
  refine tsizeS.good (fn := Tryz.f186) hT hP Tryz.func186 (by kernel_rfl) rfl fun (m : Int) _ => ?_
  repeat' first
    | (refine Go.mk ?_; conv => whnf)
    | refine Need.go ?_ ?_
    | refine NilG.go (fun _ => ?_) (fun _ => ?_)
    | refine Br.dec (fun _ => ?_) (fun _ => ?_)
    | refine Br.go (fun _ => ?_) (fun _ => ?_)
    | refine draw_go hT hP mixed ?_
    | refine round_go hT hP ?_
  all_goals (refine .mk [] [] _ rfl rfl rfl rfl rfl rfl (imm_int ?_))
  all_goals clear hT hP
  all_goals (show _ = sizeI m; unfold sizeI; dsimp only [gi, Den] at *)
  all_goals ((repeat' split) <;> first | rfl | omega)
theorem rOperand_ok : GoodF Tryz.prog 116 tsizeS.spec := by
  have hT := tab_ok (fs := []) tree_ok
  have hP : SpecsOk Tryz.prog (tab tree []) := specs_nil
  refine tsizeS.good (fn := Tryz.f116) hT hP Tryz.func116 (by kernel_rfl) rfl fun (m : Int) _ => ?_
  repeat' first
    | (refine Go.mk ?_; conv => whnf)
    | refine Need.go ?_ ?_
    | refine NilG.go (fun _ => ?_) (fun _ => ?_)
    | refine Br.dec (fun _ => ?_) (fun _ => ?_)
    | refine Br.go (fun _ => ?_) (fun _ => ?_)
    | refine draw_go hT hP mixed ?_
    | refine round_go hT hP ?_
  all_goals first
    | exact of_decide_eq_true rfl
    | (dsimp only [gi, Den] at *; simp only [List.length_cons, List.length_nil] at *; omega)
    | skip
  all_goals (refine .mk [] [] _ rfl rfl rfl rfl rfl rfl (imm_int ?_))
  all_goals clear hT hP
  all_goals (dsimp only [gi, Den] at *)
  all_goals (try simp only [List.length_cons, List.length_nil] at *)
  all_goals first
    | (show _ = sizeI m; unfold sizeI; (repeat' split) <;> first | rfl | omega)
    | skip
  · have hm : m = 0 ∨ m = 1 ∨ m = 2 ∨ m = 3 ∨ m = 4 ∨ m = 5 ∨ m = 6 ∨ m = 7 ∨ m = 8 := by omega
    rcases hm with rfl | rfl | rfl | rfl | rfl | rfl | rfl | rfl | rfl <;> rfl
def cycles0S : PSpec := ⟨[⟨false, .sl CycT⟩], fun (l, _) => (some (l = []), I 0, [])⟩
theorem cycles0_ok : GoodF Tryz.prog 189 cycles0S.spec := by
  have hT := tab_ok (fs := []) tree_ok
  have hP : SpecsOk Tryz.prog (tab tree []) := specs_nil
  refine cycles0S.good (fn := Tryz.f189) hT hP Tryz.func189 (by kernel_rfl) rfl fun (l : List Cyc) hq => ?_
  obtain rfl : l = [] := hq _ rfl
  clear hq
  repeat' first
    | (refine Go.mk ?_; conv => whnf)
    | refine Need.go ?_ ?_
    | refine NilG.go (fun _ => ?_) (fun _ => ?_)
    | refine Br.dec (fun _ => ?_) (fun _ => ?_)
    | refine Br.go (fun _ => ?_) (fun _ => ?_)
    | refine draw_go hT hP mixed ?_
    | refine round_go hT hP ?_
  refine loop_unroll 1 ?_
  repeat' first
    | (refine Go.mk ?_; conv => whnf)
    | refine Need.go ?_ ?_
    | refine NilG.go (fun _ => ?_) (fun _ => ?_)
    | refine Br.dec (fun _ => ?_) (fun _ => ?_)
    | refine Br.go (fun _ => ?_) (fun _ => ?_)
    | refine draw_go hT hP mixed ?_
    | refine round_go hT hP ?_
  all_goals exact .mk [] [] _ rfl rfl rfl rfl rfl rfl rfl
def check0S : PSpec := ⟨[gCpu], fun (c, _) => (some (c.2 = ([], [], [], [])), I (if nameB (bytesOf c.1) = true then 0 else 15), [])⟩
theorem check0_ok : GoodF Tryz.prog 101 check0S.spec := by
  have hT := tab_ok (fs := [(100, nameS.spec), (189, cycles0S.spec)]) tree_ok
  have hP : SpecsOk Tryz.prog (tab tree [(100, nameS.spec), (189, cycles0S.spec)]) := specs_cons tName_ok (specs_cons cycles0_ok specs_nil)
  refine check0S.good (fn := Tryz.f101) hT hP Tryz.func101 (by kernel_rfl) rfl fun (c : Cpu) hq => ?_
  obtain ⟨cn, c2⟩ := c
  obtain rfl : c2 = ([], [], [], []) := hq _ rfl
  clear hq
  repeat' first
    | (refine Go.mk ?_; conv => whnf)
    | refine Need.go ?_ ?_
    | refine NilG.go (fun _ => ?_) (fun _ => ?_)
    | refine Br.dec (fun _ => ?_) (fun _ => ?_)
    | refine Br.go (fun _ => ?_) (fun _ => ?_)
    | refine draw_go hT hP mixed ?_
    | refine round_go hT hP ?_
  all_goals first
    | exact of_decide_eq_true rfl
    | skip
  · rename_i h
    have hn : nameB (bytesOf cn) = false := by
      have h : (!nameB (bytesOf cn)) = true := h
      simpa using h
    refine .mk [] [] _ rfl rfl rfl rfl rfl rfl (imm_int ?_)
    show 15 = if nameB (bytesOf cn) = true then 0 else 15
    rw [hn]; rfl
  rename_i h
  have hn : nameB (bytesOf cn) = true := by
    have h : (!nameB (bytesOf cn)) = false := h
    simpa using h
  refine loop_unroll 1 ?_
  repeat' first
    | (refine Go.mk ?_; conv => whnf)
    | refine Need.go ?_ ?_
    | refine NilG.go (fun _ => ?_) (fun _ => ?_)
    | refine Br.dec (fun _ => ?_) (fun _ => ?_)
    | refine Br.go (fun _ => ?_) (fun _ => ?_)
    | refine draw_go hT hP mixed ?_
    | refine round_go hT hP ?_
  refine loop_unroll 4 ?_
  repeat' first
    | (refine Go.mk ?_; conv => whnf)
    | refine Need.go ?_ ?_
    | refine NilG.go (fun _ => ?_) (fun _ => ?_)
    | refine Br.dec (fun _ => ?_) (fun _ => ?_)
    | refine Br.go (fun _ => ?_) (fun _ => ?_)
    | refine draw_go hT hP mixed ?_
    | refine round_go hT hP ?_
  all_goals first
    | exact of_decide_eq_true rfl
    | exact rfl
    | skip
  all_goals (refine .mk [] [] _ rfl rfl rfl rfl rfl rfl (imm_int ?_))
  all_goals (show 0 = if nameB (bytesOf cn) = true then 0 else 15; rw [hn]; rfl)

end Go.Proofs.YtofgbclopbmlcaaGreat





/- The functions of package pin, and bakeref1's lines. -/
namespace Go.Proofs.YtofgbclopbmlcaaGreat
open Go.Fw
set_option linter.unusedVariables false
set_option linter.unusedSimpArgs false
set_option maxRecDepth 100000

def idxF (p : Int → Bool) : List Int → Int → Int
  | [], _ => -1
  | a :: l, i => if p a = true then i else idxF p l (i + 1)
theorem idxF_any (p : Int → Bool) : ∀ (l : List Int) (i : Int), 0 ≤ i → decide (idxF p l i ≥ 0) = l.any p
  | [], i, h => by simp [idxF]
  | a :: l, i, h => by
    unfold idxF
    rw [List.any_cons]
    cases hp : p a with
    | true => simpa using h
    | false => simpa using idxF_any p l (i + 1) (by omega)
theorem idxF_step (p : Int → Bool) {l : List Int} {k : Nat} (h : k < l.length) : idxF p (l.drop k) k = if p (l.getD k 0) = true then (k : Int) else idxF p (l.drop (k + 1)) ((k : Int) + 1) := by
  rw [List.drop_eq_getElem_cons h, idxF]
  simp [h]

def indexS : PSpec := ⟨[gl, gi], fun (l, v, _) => (some (List.length l ≤ 4611686018427387904), I (idxF (fun a => decide (v = a)) l 0), [])⟩
theorem index_ok : GoodF Tryz.prog 195 indexS.spec := by
  have hT := tab_ok (fs := []) tree_ok
  have hP : SpecsOk Tryz.prog (tab tree []) := specs_nil
  refine indexS.good (fn := Tryz.f195) hT hP Tryz.func195 (by kernel_rfl) rfl fun (l : List Int) (v : Int) hp => ?_
  have hp : l.length ≤ 4611686018427387904 := hp _ rfl
  repeat' first
    | (refine Go.mk ?_; conv => whnf)
    | refine Need.go ?_ ?_
    | refine NilG.go (fun _ => ?_) (fun _ => ?_)
    | refine Br.dec (fun _ => ?_) (fun _ => ?_)
    | refine Br.go (fun _ => ?_) (fun _ => ?_)
    | refine draw_go hT hP mixed ?_
    | refine round_go hT hP ?_
  refine loop_go hT hP (X := Int) (fun i => St.mk [.cell (.ro (.int .i64) l), I v, .dead, .dead, .dead, .dead, .dead, I l.length, I i, .dead, .dead, .dead, .dead, .dead, .dead, .dead, .dead, .dead, .dead] [])
    (fun i => ∃ k : Nat, i = k ∧ k ≤ l.length ∧ idxF (fun a => decide (v = a)) l 0 = idxF (fun a => decide (v = a)) (l.drop k) k) (fun i => (l.length - i).toNat) 0 (Le.mk [] [] rfl rfl rfl ?_) ?_ fun i hi => ?_
  rotate_right
  repeat' first
    | (refine Go.mk ?_; conv => whnf)
    | refine Need.go ?_ ?_
    | refine NilG.go (fun _ => ?_) (fun _ => ?_)
    | refine Br.dec (fun _ => ?_) (fun _ => ?_)
    | refine Br.go (fun _ => ?_) (fun _ => ?_)
    | refine draw_go hT hP mixed ?_
    | refine round_go hT hP ?_
  · obtain ⟨k, rfl, hk, h0⟩ := hi
    omega
  · rename_i hz
    obtain ⟨k, rfl, hk, h0⟩ := hi
    have hlt : k < l.length := by omega
    have hz : v = l.getD k 0 := by simpa [dflt] using hz
    refine .mk [] [] _ rfl rfl rfl rfl rfl rfl (imm_int ?_)
    show (k : Int) = idxF (fun a => decide (v = a)) l 0
    rw [h0, idxF_step _ hlt, if_pos (decide_eq_true hz)]
  · rename_i hz
    obtain ⟨k, rfl, hk, h0⟩ := hi
    have hlt : k < l.length := by omega
    have hz : ¬ v = l.getD k 0 := by simpa [dflt] using hz
    have e : IntKind.i64.wrap ((k : Int) + 1) = ((k + 1 : Nat) : Int) := by rw [w64 (by omega) (by omega)]; omega
    apply Exists.intro _
    refine And.intro ?_ (And.intro ?_ (Le.mk [] [] rfl rfl ?hh ?ht))
    case hh => exact rfl
    case ht => repeat' first | exact trivial | exact ⟨rfl, rfl⟩ | refine And.intro ?_ ?_
    · refine ⟨k + 1, e, by omega, ?_⟩
      rw [h0, idxF_step _ hlt, if_neg (by simpa using hz)]
      rfl
    · show (l.length - IntKind.i64.wrap ((k : Int) + 1)).toNat < (l.length - (k : Int)).toNat
      rw [e]; omega
  · obtain ⟨k, rfl, hk, h0⟩ := hi
    refine .mk [] [] _ rfl rfl rfl rfl rfl rfl (imm_int ?_)
    show -1 = idxF (fun a => decide (v = a)) l 0
    rw [h0, List.drop_of_length_le (by omega)]; rfl
  · repeat' first | exact trivial | exact ⟨rfl, rfl⟩ | refine And.intro ?_ ?_
  · exact ⟨0, rfl, by omega, rfl⟩

def containsS : PSpec := ⟨[gl, gi], fun (l, v, _) => (some (List.length l ≤ 4611686018427387904), .cell (bv (l.any fun a => decide (v = a))), [])⟩
theorem contains_ok : GoodF Tryz.prog 105 containsS.spec := by
  have hT := tab_ok (fs := [(195, indexS.spec)]) tree_ok
  have hP : SpecsOk Tryz.prog (tab tree [(195, indexS.spec)]) := specs_cons index_ok specs_nil
  refine containsS.good (fn := Tryz.f105) hT hP Tryz.func105 (by kernel_rfl) rfl fun (l : List Int) (v : Int) hp => ?_
  have hp : l.length ≤ 4611686018427387904 := hp _ rfl
  repeat' first
    | (refine Go.mk ?_; conv => whnf)
    | refine Need.go ?_ ?_
    | refine NilG.go (fun _ => ?_) (fun _ => ?_)
    | refine Br.dec (fun _ => ?_) (fun _ => ?_)
    | refine Br.go (fun _ => ?_) (fun _ => ?_)
    | refine draw_go hT hP mixed ?_
    | refine round_go hT hP ?_
  · exact hp
  · refine .mk [] [] _ rfl rfl rfl rfl rfl rfl (imm_bool ?_)
    exact idxF_any _ l 0 (by omega)

end Go.Proofs.YtofgbclopbmlcaaGreat













/- What a processor does with a number from the bus. -/
namespace Go.Proofs.YtofgbclopbmlcaaGreat
open Go.Fw
set_option linter.unusedVariables false
set_option linter.unusedSimpArgs false
set_option linter.constructorNameAsVariable false
set_option maxRecDepth 100000

structure IdxX where
  g : Nat
  l : List Ins
  op : Int
-- copies

theorem setD_self {α : Type} (l : List α) (n : Nat) (d : α) : l.set n (l.getD n d) = l := by
  apply List.ext_getElem?
  intro i
  rw [List.getElem?_set, List.getD_eq_getElem?_getD]
  by_cases h : n = i
  · subst h; by_cases h2 : n < l.length <;> simp [h2]
  · simp [h]
end Go.Proofs.YtofgbclopbmlcaaGreat

/- Tables of instructions compared: steps, cycles. -/
namespace Go.Proofs.YtofgbclopbmlcaaGreat
open Go.Fw
set_option linter.unusedVariables false
set_option linter.unusedSimpArgs false
set_option linter.constructorNameAsVariable false
set_option maxRecDepth 100000

structure EqcX where
  g : Nat
  l : List Cyc
  m : List Cyc
end Go.Proofs.YtofgbclopbmlcaaGreat

/- Slices cloned (printed by gensl.py). -/
namespace Go.Proofs.YtofgbclopbmlcaaGreat
open Go.Fw
set_option linter.unusedVariables false
set_option linter.unusedSimpArgs false
set_option linter.constructorNameAsVariable false
set_option maxRecDepth 100000
def clDevS : PSpec := ⟨[⟨false, .sl (DevT)⟩], fun (l, _) => (some (List.length l * 48 ≤ 140737488351232), .cell (.own 0), [.arr (DevT) l])⟩
theorem clDev_ok : GoodF Tryz.prog 71 clDevS.spec := by
  have hT := tab_ok (fs := []) tree_ok
  have hP : SpecsOk Tryz.prog (tab tree []) := specs_nil
  refine clDevS.good (fn := Tryz.f71) hT hP Tryz.func71 (by kernel_rfl) rfl fun (l : List (Den (DevT))) hq => ?_
  have hl : l.length * 48 ≤ 140737488351232 := hq _ rfl
  clear hq
  repeat' first
    | (refine Go.mk ?_; conv => whnf)
    | refine Need.go ?_ ?_
    | refine NilG.go (fun _ => ?_) (fun _ => ?_)
    | refine Br.dec (fun _ => ?_) (fun _ => ?_)
    | refine Br.go (fun _ => ?_) (fun _ => ?_)
    | refine draw_go hT hP mixed ?_
    | refine round_go hT hP ?_
  all_goals first
    | exact of_decide_eq_true rfl
    | skip
  · rename_i h
    obtain rfl : l = [] := List.eq_nil_of_length_eq_zero h
    exact .le (Le.nil 2 (DevT) rfl) (.mk [] [0] _ rfl rfl rfl rfl rfl rfl rfl)
  · show (0 + l.length) * 48 ≤ 140737488355328
    omega
  · exact .mk [] [1] _ rfl rfl rfl rfl rfl rfl rfl

def clIntS : PSpec := ⟨[⟨false, .sl (.int .i64)⟩], fun (l, _) => (some (List.length l * 8 ≤ 140737488351232), .cell (.own 0), [.arr (.int .i64) l])⟩
theorem clInt_ok : GoodF Tryz.prog 128 clIntS.spec := by
  have hT := tab_ok (fs := []) tree_ok
  have hP : SpecsOk Tryz.prog (tab tree []) := specs_nil
  refine clIntS.good (fn := Tryz.f128) hT hP Tryz.func128 (by kernel_rfl) rfl fun (l : List (Den (.int .i64))) hq => ?_
  have hl : l.length * 8 ≤ 140737488351232 := hq _ rfl
  clear hq
  repeat' first
    | (refine Go.mk ?_; conv => whnf)
    | refine Need.go ?_ ?_
    | refine NilG.go (fun _ => ?_) (fun _ => ?_)
    | refine Br.dec (fun _ => ?_) (fun _ => ?_)
    | refine Br.go (fun _ => ?_) (fun _ => ?_)
    | refine draw_go hT hP mixed ?_
    | refine round_go hT hP ?_
  all_goals first
    | exact of_decide_eq_true rfl
    | skip
  · rename_i h
    obtain rfl : l = [] := List.eq_nil_of_length_eq_zero h
    exact .le (Le.nil 2 (.int .i64) rfl) (.mk [] [0] _ rfl rfl rfl rfl rfl rfl rfl)
  · show (0 + l.length) * 8 ≤ 140737488355328
    omega
  · exact .mk [] [1] _ rfl rfl rfl rfl rfl rfl rfl

def clByteS : PSpec := ⟨[⟨false, .sl (.int .u8)⟩], fun (l, _) => (some (List.length l * 1 ≤ 140737488351232), .cell (.own 0), [.arr (.int .u8) l])⟩
theorem clByte_ok : GoodF Tryz.prog 129 clByteS.spec := by
  have hT := tab_ok (fs := []) tree_ok
  have hP : SpecsOk Tryz.prog (tab tree []) := specs_nil
  refine clByteS.good (fn := Tryz.f129) hT hP Tryz.func129 (by kernel_rfl) rfl fun (l : List (Den (.int .u8))) hq => ?_
  have hl : l.length * 1 ≤ 140737488351232 := hq _ rfl
  clear hq
  repeat' first
    | (refine Go.mk ?_; conv => whnf)
    | refine Need.go ?_ ?_
    | refine NilG.go (fun _ => ?_) (fun _ => ?_)
    | refine Br.dec (fun _ => ?_) (fun _ => ?_)
    | refine Br.go (fun _ => ?_) (fun _ => ?_)
    | refine draw_go hT hP mixed ?_
    | refine round_go hT hP ?_
  all_goals first
    | exact of_decide_eq_true rfl
    | skip
  · rename_i h
    obtain rfl : l = [] := List.eq_nil_of_length_eq_zero h
    exact .le (Le.nil 2 (.int .u8) rfl) (.mk [] [0] _ rfl rfl rfl rfl rfl rfl rfl)
  · show (0 + l.length) * 1 ≤ 140737488355328
    omega
  · exact .mk [] [1] _ rfl rfl rfl rfl rfl rfl rfl

end Go.Proofs.YtofgbclopbmlcaaGreat

/- bakelaw1.CoreAsks answers true, whatever it is given. -/
namespace Go.Proofs.YtofgbclopbmlcaaGreat
open Go.Fw
set_option linter.unusedVariables false
set_option linter.unusedSimpArgs false
set_option maxRecDepth 100000

-- the law

theorem denEq_self : ∀ {u : Ty} {x : Den u}, u.flat = true → denEq u x x = true
  | .int _, x, _ => by simp [denEq]
  | .ints _ _, x, _ => by simp [denEq]
  | .bool, x, _ => by simp [denEq]
  | .str, x, _ => by simp [denEq, strEq]
  | .sl _, _, h => by cases h
  | .pair a b, x, h => by
    simp only [Ty.flat, Bool.and_eq_true] at h
    simp only [denEq, denEq_self h.1, denEq_self h.2, Bool.and_self]
end Go.Proofs.YtofgbclopbmlcaaGreat



/- strings.Cut at a dot. -/
namespace Go.Proofs.YtofgbclopbmlcaaGreat
open Go.Fw
set_option linter.unusedVariables false
set_option linter.unusedSimpArgs false
set_option linter.constructorNameAsVariable false
set_option maxRecDepth 100000

def dotS : ByteArray := ⟨#[46]⟩
def dotI (s : ByteArray) : Int := Lib.indexByte s.data.toList 46
def idxDotS : PSpec := ⟨[gStr, gStr], fun (s, p, _) => (some (p = dotS), I (dotI s), [])⟩
theorem idxDot_ok : GoodF Tryz.prog 263 idxDotS.spec := by
  have hT := tab_ok (fs := [(118, idxbS.spec)]) tree_ok
  have hP : SpecsOk Tryz.prog (tab tree [(118, idxbS.spec)]) := specs_cons idxb_ok specs_nil
  refine idxDotS.good (fn := Tryz.f263) hT hP Tryz.func263 (by kernel_rfl) rfl fun (s p : ByteArray) hq => ?_
  obtain rfl : p = dotS := hq _ rfl
  clear hq
  repeat' first
    | (refine Go.mk ?_; conv => whnf)
    | refine Need.go ?_ ?_
    | refine NilG.go (fun _ => ?_) (fun _ => ?_)
    | refine Br.dec (fun _ => ?_) (fun _ => ?_)
    | refine Br.go (fun _ => ?_) (fun _ => ?_)
    | refine draw_go hT hP mixed ?_
    | refine round_go hT hP ?_
  · rename_i g
    have g : strEq dotS s = true := g
    have e : dotS = s := (Lib.bytes_beq_iff _ _).1 g
    subst e
    refine .mk [] [] _ rfl rfl rfl rfl rfl rfl (imm_int ?_)
    show 0 = dotI dotS
    decide +kernel
  · exact of_decide_eq_true rfl
  · exact .mk [] [] _ rfl rfl rfl rfl rfl rfl rfl

theorem indexB_in (c : UInt8) : ∀ l : List UInt8, Lib.indexByte l c = -1 ∨ (0 ≤ Lib.indexByte l c ∧ Lib.indexByte l c < l.length)
  | [] => .inl rfl
  | x :: r => by
    have ih := indexB_in c r
    have hl : (x :: r).length = r.length + 1 := rfl
    unfold Lib.indexByte
    by_cases h1 : (x == c) = true
    · rw [if_pos h1, hl]; right; omega
    · rw [if_neg h1]
      by_cases h2 : (Lib.indexByte r c == -1) = true
      · rw [if_pos h2]; exact .inl rfl
      · rw [if_neg h2, hl]
        have h3 : Lib.indexByte r c ≠ -1 := fun h => h2 (beq_iff_eq.2 h)
        right; omega
theorem dotI_in {s : ByteArray} (h : dotI s ≥ 0) : dotI s < s.size := by
  have := indexB_in 46 s.data.toList
  have e : s.data.toList.length = s.size := Array.length_toList
  unfold dotI at *
  omega
def cutB (s : ByteArray) : ByteArray := if 0 ≤ dotI s then s.extract 0 (dotI s).toNat else s
def cutA (s : ByteArray) : ByteArray := if 0 ≤ dotI s then s.extract (dotI s + 1).toNat s.size else ⟨#[]⟩
def cutS : PSpec := ⟨[gStr, gStr], fun (s, p, _) => (some (p = dotS ∧ s.size ≤ 140737488351232), .tup [.c (.imm (.string (cutB s))), .c (.imm (.string (cutA s))), .c (bv (decide (0 ≤ dotI s)))], [])⟩
theorem slCut_ok : GoodF Tryz.prog 240 cutS.spec := by
  have hT := tab_ok (fs := [(263, idxDotS.spec)]) tree_ok
  have hP : SpecsOk Tryz.prog (tab tree [(263, idxDotS.spec)]) := specs_cons idxDot_ok specs_nil
  refine cutS.good (fn := Tryz.f240) hT hP Tryz.func240 (by kernel_rfl) rfl fun (s p : ByteArray) hq => ?_
  obtain ⟨hp, hl⟩ : p = dotS ∧ s.size ≤ 140737488351232 := hq _ rfl
  clear hq
  subst hp
  repeat' first
    | (refine Go.mk ?_; conv => whnf)
    | refine Need.go ?_ ?_
    | refine NilG.go (fun _ => ?_) (fun _ => ?_)
    | refine Br.dec (fun _ => ?_) (fun _ => ?_)
    | refine Br.go (fun _ => ?_) (fun _ => ?_)
    | refine draw_go hT hP mixed ?_
    | refine round_go hT hP ?_
  · exact rfl
  · rename_i g
    have g : dotI s ≥ 0 := g
    have := dotI_in g
    show 0 ≤ dotI s ∧ dotI s ≤ (s.size : Int)
    omega
  · rename_i g
    have g : dotI s ≥ 0 := g
    have := dotI_in g
    show 0 ≤ IntKind.i64.wrap (dotI s + 1) ∧ IntKind.i64.wrap (dotI s + 1) ≤ (s.size : Int)
    rw [w64 (by omega) (by omega)]; omega
  · rename_i g
    have g : dotI s ≥ 0 := g
    have hin := dotI_in g
    have hw : IntKind.i64.wrap (dotI s + 1) = dotI s + 1 := w64 (by omega) (by omega)
    have e1 : cutB s = s.extract 0 (dotI s).toNat := if_pos g
    have e2 : cutA s = s.extract (IntKind.i64.wrap (dotI s + 1)).toNat s.size := by rw [hw]; exact if_pos g
    refine .mk [] [] _ rfl rfl rfl rfl rfl rfl ?_
    show AV.tup [.c (.imm (.string (s.extract 0 (dotI s).toNat))), .c (.imm (.string (s.extract (IntKind.i64.wrap (dotI s + 1)).toNat s.size))), .c (bv true)] = AV.tup [.c (.imm (.string (cutB s))), .c (.imm (.string (cutA s))), .c (bv (decide (0 ≤ dotI s)))]
    rw [e1, e2, decide_eq_true (show 0 ≤ dotI s from g)]
  · rename_i g
    have g : ¬ dotI s ≥ 0 := g
    have e1 : cutB s = s := if_neg g
    have e2 : cutA s = ⟨#[]⟩ := if_neg g
    refine .mk [] [] _ rfl rfl rfl rfl rfl rfl ?_
    show AV.tup [.c (.imm (.string s)), .c (.imm (.string ⟨#[]⟩)), .c (bv false)] = AV.tup [.c (.imm (.string (cutB s))), .c (.imm (.string (cutA s))), .c (bv (decide (0 ≤ dotI s)))]
    rw [e1, e2, decide_eq_false (show ¬ 0 ≤ dotI s from g)]
theorem cut_ok : GoodF Tryz.prog 193 cutS.spec := by
  have hT := tab_ok (fs := [(240, cutS.spec)]) tree_ok
  have hP : SpecsOk Tryz.prog (tab tree [(240, cutS.spec)]) := specs_cons slCut_ok specs_nil
  refine cutS.good (fn := Tryz.f193) hT hP Tryz.func193 (by kernel_rfl) rfl fun (s p : ByteArray) hq => ?_
  have hp : p = dotS ∧ s.size ≤ 140737488351232 := hq _ rfl
  clear hq
  repeat' first
    | (refine Go.mk ?_; conv => whnf)
    | refine Need.go ?_ ?_
    | refine NilG.go (fun _ => ?_) (fun _ => ?_)
    | refine Br.dec (fun _ => ?_) (fun _ => ?_)
    | refine Br.go (fun _ => ?_) (fun _ => ?_)
    | refine draw_go hT hP mixed ?_
    | refine round_go hT hP ?_
  · exact hp
  · exact .mk [] [] _ rfl rfl rfl rfl rfl rfl rfl

end Go.Proofs.YtofgbclopbmlcaaGreat

/- Steps of a cycle: are they well-formed? -/
namespace Go.Proofs.YtofgbclopbmlcaaGreat
open Go.Fw
set_option linter.unusedVariables false
set_option linter.unusedSimpArgs false
set_option linter.constructorNameAsVariable false
set_option maxRecDepth 100000

def regB (r : Int) : Bool := bif decide (r ≥ 0) then decide (r < 9) else false
def tregS : PSpec := ⟨[gi], fun (r, _) => (none, .cell (bv (regB r)), [])⟩
theorem treg_ok : GoodF Tryz.prog 261 tregS.spec := by
  have hT := tab_ok (fs := []) tree_ok
  have hP : SpecsOk Tryz.prog (tab tree []) := specs_nil
  refine tregS.good (fn := Tryz.f261) hT hP Tryz.func261 (by kernel_rfl) rfl fun (r : Int) _ => ?_
  repeat' first
    | (refine Go.mk ?_; conv => whnf)
    | refine Need.go ?_ ?_
    | refine NilG.go (fun _ => ?_) (fun _ => ?_)
    | refine Br.dec (fun _ => ?_) (fun _ => ?_)
    | refine Br.go (fun _ => ?_) (fun _ => ?_)
    | refine draw_go hT hP mixed ?_
    | refine round_go hT hP ?_
  all_goals (refine .mk [] [] _ rfl rfl rfl rfl rfl rfl (imm_bool ?_))
  all_goals (unfold regB; simp_all)
  all_goals omega
def useT (d : Int) : Int × Int × Bool :=
  if d = 1 then (115, 115, false) else if d = 2 then (97, 0, true) else if d = 3 ∨ d = 12 ∨ d = 13 ∨ d = 14 ∨ d = 15 then (98, 0, false) else if d = 4 ∨ d = 5 ∨ d = 6 ∨ d = 7 ∨ d = 8 ∨ d = 9 then (98, 98, false)
  else if d = 10 ∨ d = 11 then (97, 0, false) else if d = 16 ∨ d = 17 then (0, 0, true) else if d = 18 ∨ d = 19 ∨ d = 22 ∨ d = 23 then (119, 98, false) else if d = 20 ∨ d = 21 then (98, 119, false) else (0, 0, false)
def tusesS : PSpec := ⟨[gi], fun (d, _) => (none, .tup [.c (.imm (.int .u8 (useT d).1)), .c (.imm (.int .u8 (useT d).2.1)), .c (bv (useT d).2.2)], [])⟩
theorem tup_u {x y : Int × Int × Bool} (h : x = y) : AV.tup [.c (.imm (.int .u8 x.1)), .c (.imm (.int .u8 x.2.1)), .c (bv x.2.2)] = AV.tup [.c (.imm (.int .u8 y.1)), .c (.imm (.int .u8 y.2.1)), .c (bv y.2.2)] := by rw [h]
theorem tuses_ok : GoodF Tryz.prog 270 tusesS.spec := by
  have hT := tab_ok (fs := []) tree_ok
  have hP : SpecsOk Tryz.prog (tab tree []) := specs_nil
  refine tusesS.good (fn := Tryz.f270) hT hP Tryz.func270 (by kernel_rfl) rfl fun (d : Int) _ => ?_
  repeat' first
    | (refine Go.mk ?_; conv => whnf)
    | refine Need.go ?_ ?_
    | refine NilG.go (fun _ => ?_) (fun _ => ?_)
    | refine Br.dec (fun _ => ?_) (fun _ => ?_)
    | refine Br.go (fun _ => ?_) (fun _ => ?_)
    | refine draw_go hT hP mixed ?_
    | refine round_go hT hP ?_
  all_goals clear hT hP
  all_goals first
    | (rename_i g
       have g : d = _ := g
       subst g
       exact .mk [] [] _ rfl rfl rfl rfl rfl rfl rfl)
    | skip
  refine .mk [] [] _ rfl rfl rfl rfl rfl rfl (tup_u (x := (0, 0, false)) ?_)
  unfold useT
  simp_all
def fitB (r n : Int) : Bool := if n = 0 then decide (r = 0) else if n = 119 then (bif regB r then wideB r else false) else if n = 98 then (bif regB r then !wideB r else false) else regB r
def tfitsS : PSpec := ⟨[gi, ⟨false, .int .u8⟩], fun (r, n, _) => (none, .cell (bv (fitB r n)), [])⟩
theorem tfits_ok : GoodF Tryz.prog 271 tfitsS.spec := by
  have hT := tab_ok (fs := [(261, tregS.spec), (250, wideS.spec)]) tree_ok
  have hP : SpecsOk Tryz.prog (tab tree [(261, tregS.spec), (250, wideS.spec)]) := specs_cons treg_ok (specs_cons tWide_ok specs_nil)
  refine tfitsS.good (fn := Tryz.f271) hT hP Tryz.func271 (by kernel_rfl) rfl fun (r n : Int) _ => ?_
  repeat' first
    | (refine Go.mk ?_; conv => whnf)
    | refine Need.go ?_ ?_
    | refine NilG.go (fun _ => ?_) (fun _ => ?_)
    | refine Br.dec (fun _ => ?_) (fun _ => ?_)
    | refine Br.go (fun _ => ?_) (fun _ => ?_)
    | refine draw_go hT hP mixed ?_
    | refine round_go hT hP ?_
  all_goals clear hT hP
  all_goals (refine .mk [] [] _ rfl rfl rfl rfl rfl rfl (imm_bool ?_))
  all_goals (show _ = fitB r n; unfold fitB; simp_all)
  all_goals rfl
/-- what is wrong with a step (8: its kind, 1: its arguments) -/
def mostI (s : Stp) : Int := if (useT s.1).2.2 = false then 0 else if s.1 = 2 ∧ (regB s.2.1 = true ∧ wideB s.2.1 = true) then 65535 else 255
def stpE (s : Stp) : Int :=
  if s.1 < 0 ∨ s.1 ≥ 25 then 8 else
  if s.1 = 24 then (if s.2.1 ≠ 0 ∨ s.2.2.1 < 0 ∨ s.2.2.1 > 1 ∨ s.2.2.2 < 0 ∨ s.2.2.2 > 255 then 1 else 0) else
  if fitB s.2.1 (useT s.1).1 = false ∨ fitB s.2.2.1 (useT s.1).2.1 = false ∨ ((useT s.1).1 = 115 ∧ wideB s.2.1 ≠ wideB s.2.2.1) ∨ s.2.2.2 < 0 ∨ s.2.2.2 > mostI s then 1 else 0
abbrev gStep : Sig := ⟨true, StepT⟩
def tstepS : PSpec := ⟨[gStep], fun (s, _) => (none, I (stpE s), [])⟩
set_option maxHeartbeats 4000000 in
theorem tstep_ok : GoodF Tryz.prog 262 tstepS.spec := by
  have hT := tab_ok (fs := [(261, tregS.spec), (250, wideS.spec), (270, tusesS.spec), (271, tfitsS.spec)]) tree_ok
  have hP : SpecsOk Tryz.prog (tab tree [(261, tregS.spec), (250, wideS.spec), (270, tusesS.spec), (271, tfitsS.spec)]) := specs_cons treg_ok (specs_cons tWide_ok (specs_cons tuses_ok (specs_cons tfits_ok specs_nil)))
  refine tstepS.good (fn := Tryz.f262) hT hP Tryz.func262 (by kernel_rfl) rfl fun (s : Stp) _ => ?_
  obtain ⟨sd, st, sf, sn⟩ := s
  repeat' first
    | (refine Go.mk ?_; conv => whnf)
    | refine Need.go ?_ ?_
    | refine NilG.go (fun _ => ?_) (fun _ => ?_)
    | refine Br.dec (fun _ => ?_) (fun _ => ?_)
    | refine Br.go (fun _ => ?_) (fun _ => ?_)
    | refine draw_go hT hP mixed ?_
    | refine round_go hT hP ?_
  all_goals clear hT hP
  all_goals (refine .mk [] [] _ rfl rfl rfl rfl rfl rfl (imm_int ?_))
  all_goals (show _ = stpE (sd, st, sf, sn); unfold stpE mostI wideB)
  all_goals (simp_all)
  all_goals (try omega)
  all_goals first
    | (exfalso
       have h2 : (useT 2).1 = 115 := by assumption
       exact absurd h2 (by decide))
    | (simp_all [wideB]; done)
    | (simp_all [wideB]; omega)

end Go.Proofs.YtofgbclopbmlcaaGreat

/- Steps of a cycle: what the reference says, the contract. -/
namespace Go.Proofs.YtofgbclopbmlcaaGreat
open Go.Fw
set_option linter.unusedVariables false
set_option linter.unusedSimpArgs false
set_option linter.constructorNameAsVariable false
set_option maxRecDepth 100000

theorem do_in {k : Int} (h : k < 0 ∨ k > 24) (g : ¬ k < 0) (g2 : ¬ k > 24) : False := by omega
def rstepS (d : Int) : PSpec := ⟨[gStep], fun (s, _) => (some (s.1 = d), I (stpE s), [])⟩
def rstepXS : PSpec := ⟨[gStep], fun (s, _) => (some (s.1 < 0 ∨ s.1 > 24), I (stpE s), [])⟩

end Go.Proofs.YtofgbclopbmlcaaGreat

/- Steps of a cycle: what the reference says, kind by kind (printed by genstep.py). -/
namespace Go.Proofs.YtofgbclopbmlcaaGreat
open Go.Fw
set_option linter.unusedVariables false
set_option linter.unusedSimpArgs false
set_option linter.constructorNameAsVariable false
set_option maxRecDepth 100000

set_option maxHeartbeats 4000000 in
theorem rStep0_ok : GoodF Tryz.prog 199 (rstepS 0).spec := by
  have hT := tab_ok (fs := [(139, narrowS.spec), (140, wideS.spec)]) tree_ok
  have hP : SpecsOk Tryz.prog (tab tree [(139, narrowS.spec), (140, wideS.spec)]) := specs_cons rNarrow_ok (specs_cons rWide_ok specs_nil)
  refine (rstepS 0).good (fn := Tryz.f199) hT hP Tryz.func199 (by kernel_rfl) rfl fun (s : Stp) hq => ?_
  obtain ⟨sd, st, sf, sn⟩ := s
  have hd : sd = 0 := hq _ rfl
  clear hq
  subst hd
  repeat' first
    | (refine Go.mk ?_; conv => whnf)
    | refine Need.go ?_ ?_
    | refine NilG.go (fun _ => ?_) (fun _ => ?_)
    | refine Br.dec (fun _ => ?_) (fun _ => ?_)
    | refine Br.go (fun _ => ?_) (fun _ => ?_)
    | refine draw_go hT hP mixed ?_
    | refine round_go hT hP ?_
  all_goals clear hT hP
  all_goals (refine .mk [] [] _ rfl rfl rfl rfl rfl rfl (imm_int ?_))
  all_goals (show _ = stpE (0, st, sf, sn))
  all_goals (simp [stpE, mostI, useT, fitB, regB, wideB, narrowB] at *)
  all_goals first
    | omega
    | (simp_all; done)
    | (simp_all; omega)
    | (refine ⟨by omega, by omega, ?_, by omega, by omega⟩; rw [Bool.eq_iff_iff]; simp; omega)
    | skip

set_option maxHeartbeats 4000000 in
theorem rStep1_ok : GoodF Tryz.prog 199 (rstepS 1).spec := by
  have hT := tab_ok (fs := [(139, narrowS.spec), (140, wideS.spec)]) tree_ok
  have hP : SpecsOk Tryz.prog (tab tree [(139, narrowS.spec), (140, wideS.spec)]) := specs_cons rNarrow_ok (specs_cons rWide_ok specs_nil)
  refine (rstepS 1).good (fn := Tryz.f199) hT hP Tryz.func199 (by kernel_rfl) rfl fun (s : Stp) hq => ?_
  obtain ⟨sd, st, sf, sn⟩ := s
  have hd : sd = 1 := hq _ rfl
  clear hq
  subst hd
  repeat' first
    | (refine Go.mk ?_; conv => whnf)
    | refine Need.go ?_ ?_
    | refine NilG.go (fun _ => ?_) (fun _ => ?_)
    | refine Br.dec (fun _ => ?_) (fun _ => ?_)
    | refine Br.go (fun _ => ?_) (fun _ => ?_)
    | refine draw_go hT hP mixed ?_
    | refine round_go hT hP ?_
  all_goals clear hT hP
  all_goals (refine .mk [] [] _ rfl rfl rfl rfl rfl rfl (imm_int ?_))
  all_goals (show _ = stpE (1, st, sf, sn))
  all_goals (simp [stpE, mostI, useT, fitB, regB, wideB, narrowB] at *)
  all_goals first
    | omega
    | (simp_all; done)
    | (simp_all; omega)
    | (refine ⟨by omega, by omega, ?_, by omega, by omega⟩; rw [Bool.eq_iff_iff]; simp; omega)
    | skip

set_option maxHeartbeats 4000000 in
theorem rStep2_ok : GoodF Tryz.prog 199 (rstepS 2).spec := by
  have hT := tab_ok (fs := [(139, narrowS.spec), (140, wideS.spec)]) tree_ok
  have hP : SpecsOk Tryz.prog (tab tree [(139, narrowS.spec), (140, wideS.spec)]) := specs_cons rNarrow_ok (specs_cons rWide_ok specs_nil)
  refine (rstepS 2).good (fn := Tryz.f199) hT hP Tryz.func199 (by kernel_rfl) rfl fun (s : Stp) hq => ?_
  obtain ⟨sd, st, sf, sn⟩ := s
  have hd : sd = 2 := hq _ rfl
  clear hq
  subst hd
  repeat' first
    | (refine Go.mk ?_; conv => whnf)
    | refine Need.go ?_ ?_
    | refine NilG.go (fun _ => ?_) (fun _ => ?_)
    | refine Br.dec (fun _ => ?_) (fun _ => ?_)
    | refine Br.go (fun _ => ?_) (fun _ => ?_)
    | refine draw_go hT hP mixed ?_
    | refine round_go hT hP ?_
  all_goals clear hT hP
  all_goals (refine .mk [] [] _ rfl rfl rfl rfl rfl rfl (imm_int ?_))
  all_goals (show _ = stpE (2, st, sf, sn))
  all_goals (simp [stpE, mostI, useT, fitB, regB, wideB, narrowB] at *)
  all_goals first
    | omega
    | (simp_all; done)
    | (simp_all; omega)
    | (refine ⟨by omega, by omega, ?_, by omega, by omega⟩; rw [Bool.eq_iff_iff]; simp; omega)
    | skip

set_option maxHeartbeats 4000000 in
theorem rStep3_ok : GoodF Tryz.prog 199 (rstepS 3).spec := by
  have hT := tab_ok (fs := [(139, narrowS.spec), (140, wideS.spec)]) tree_ok
  have hP : SpecsOk Tryz.prog (tab tree [(139, narrowS.spec), (140, wideS.spec)]) := specs_cons rNarrow_ok (specs_cons rWide_ok specs_nil)
  refine (rstepS 3).good (fn := Tryz.f199) hT hP Tryz.func199 (by kernel_rfl) rfl fun (s : Stp) hq => ?_
  obtain ⟨sd, st, sf, sn⟩ := s
  have hd : sd = 3 := hq _ rfl
  clear hq
  subst hd
  repeat' first
    | (refine Go.mk ?_; conv => whnf)
    | refine Need.go ?_ ?_
    | refine NilG.go (fun _ => ?_) (fun _ => ?_)
    | refine Br.dec (fun _ => ?_) (fun _ => ?_)
    | refine Br.go (fun _ => ?_) (fun _ => ?_)
    | refine draw_go hT hP mixed ?_
    | refine round_go hT hP ?_
  all_goals clear hT hP
  all_goals (refine .mk [] [] _ rfl rfl rfl rfl rfl rfl (imm_int ?_))
  all_goals (show _ = stpE (3, st, sf, sn))
  all_goals (simp [stpE, mostI, useT, fitB, regB, wideB, narrowB] at *)
  all_goals first
    | omega
    | (simp_all; done)
    | (simp_all; omega)
    | (refine ⟨by omega, by omega, ?_, by omega, by omega⟩; rw [Bool.eq_iff_iff]; simp; omega)
    | skip

set_option maxHeartbeats 4000000 in
theorem rStep4_ok : GoodF Tryz.prog 199 (rstepS 4).spec := by
  have hT := tab_ok (fs := [(139, narrowS.spec), (140, wideS.spec)]) tree_ok
  have hP : SpecsOk Tryz.prog (tab tree [(139, narrowS.spec), (140, wideS.spec)]) := specs_cons rNarrow_ok (specs_cons rWide_ok specs_nil)
  refine (rstepS 4).good (fn := Tryz.f199) hT hP Tryz.func199 (by kernel_rfl) rfl fun (s : Stp) hq => ?_
  obtain ⟨sd, st, sf, sn⟩ := s
  have hd : sd = 4 := hq _ rfl
  clear hq
  subst hd
  repeat' first
    | (refine Go.mk ?_; conv => whnf)
    | refine Need.go ?_ ?_
    | refine NilG.go (fun _ => ?_) (fun _ => ?_)
    | refine Br.dec (fun _ => ?_) (fun _ => ?_)
    | refine Br.go (fun _ => ?_) (fun _ => ?_)
    | refine draw_go hT hP mixed ?_
    | refine round_go hT hP ?_
  all_goals clear hT hP
  all_goals (refine .mk [] [] _ rfl rfl rfl rfl rfl rfl (imm_int ?_))
  all_goals (show _ = stpE (4, st, sf, sn))
  all_goals (simp [stpE, mostI, useT, fitB, regB, wideB, narrowB] at *)
  all_goals first
    | omega
    | (simp_all; done)
    | (simp_all; omega)
    | (refine ⟨by omega, by omega, ?_, by omega, by omega⟩; rw [Bool.eq_iff_iff]; simp; omega)
    | skip

set_option maxHeartbeats 4000000 in
theorem rStep5_ok : GoodF Tryz.prog 199 (rstepS 5).spec := by
  have hT := tab_ok (fs := [(139, narrowS.spec), (140, wideS.spec)]) tree_ok
  have hP : SpecsOk Tryz.prog (tab tree [(139, narrowS.spec), (140, wideS.spec)]) := specs_cons rNarrow_ok (specs_cons rWide_ok specs_nil)
  refine (rstepS 5).good (fn := Tryz.f199) hT hP Tryz.func199 (by kernel_rfl) rfl fun (s : Stp) hq => ?_
  obtain ⟨sd, st, sf, sn⟩ := s
  have hd : sd = 5 := hq _ rfl
  clear hq
  subst hd
  repeat' first
    | (refine Go.mk ?_; conv => whnf)
    | refine Need.go ?_ ?_
    | refine NilG.go (fun _ => ?_) (fun _ => ?_)
    | refine Br.dec (fun _ => ?_) (fun _ => ?_)
    | refine Br.go (fun _ => ?_) (fun _ => ?_)
    | refine draw_go hT hP mixed ?_
    | refine round_go hT hP ?_
  all_goals clear hT hP
  all_goals (refine .mk [] [] _ rfl rfl rfl rfl rfl rfl (imm_int ?_))
  all_goals (show _ = stpE (5, st, sf, sn))
  all_goals (simp [stpE, mostI, useT, fitB, regB, wideB, narrowB] at *)
  all_goals first
    | omega
    | (simp_all; done)
    | (simp_all; omega)
    | (refine ⟨by omega, by omega, ?_, by omega, by omega⟩; rw [Bool.eq_iff_iff]; simp; omega)
    | skip

set_option maxHeartbeats 4000000 in
theorem rStep6_ok : GoodF Tryz.prog 199 (rstepS 6).spec := by
  have hT := tab_ok (fs := [(139, narrowS.spec), (140, wideS.spec)]) tree_ok
  have hP : SpecsOk Tryz.prog (tab tree [(139, narrowS.spec), (140, wideS.spec)]) := specs_cons rNarrow_ok (specs_cons rWide_ok specs_nil)
  refine (rstepS 6).good (fn := Tryz.f199) hT hP Tryz.func199 (by kernel_rfl) rfl fun (s : Stp) hq => ?_
  obtain ⟨sd, st, sf, sn⟩ := s
  have hd : sd = 6 := hq _ rfl
  clear hq
  subst hd
  repeat' first
    | (refine Go.mk ?_; conv => whnf)
    | refine Need.go ?_ ?_
    | refine NilG.go (fun _ => ?_) (fun _ => ?_)
    | refine Br.dec (fun _ => ?_) (fun _ => ?_)
    | refine Br.go (fun _ => ?_) (fun _ => ?_)
    | refine draw_go hT hP mixed ?_
    | refine round_go hT hP ?_
  all_goals clear hT hP
  all_goals (refine .mk [] [] _ rfl rfl rfl rfl rfl rfl (imm_int ?_))
  all_goals (show _ = stpE (6, st, sf, sn))
  all_goals (simp [stpE, mostI, useT, fitB, regB, wideB, narrowB] at *)
  all_goals first
    | omega
    | (simp_all; done)
    | (simp_all; omega)
    | (refine ⟨by omega, by omega, ?_, by omega, by omega⟩; rw [Bool.eq_iff_iff]; simp; omega)
    | skip

set_option maxHeartbeats 4000000 in
theorem rStep7_ok : GoodF Tryz.prog 199 (rstepS 7).spec := by
  have hT := tab_ok (fs := [(139, narrowS.spec), (140, wideS.spec)]) tree_ok
  have hP : SpecsOk Tryz.prog (tab tree [(139, narrowS.spec), (140, wideS.spec)]) := specs_cons rNarrow_ok (specs_cons rWide_ok specs_nil)
  refine (rstepS 7).good (fn := Tryz.f199) hT hP Tryz.func199 (by kernel_rfl) rfl fun (s : Stp) hq => ?_
  obtain ⟨sd, st, sf, sn⟩ := s
  have hd : sd = 7 := hq _ rfl
  clear hq
  subst hd
  repeat' first
    | (refine Go.mk ?_; conv => whnf)
    | refine Need.go ?_ ?_
    | refine NilG.go (fun _ => ?_) (fun _ => ?_)
    | refine Br.dec (fun _ => ?_) (fun _ => ?_)
    | refine Br.go (fun _ => ?_) (fun _ => ?_)
    | refine draw_go hT hP mixed ?_
    | refine round_go hT hP ?_
  all_goals clear hT hP
  all_goals (refine .mk [] [] _ rfl rfl rfl rfl rfl rfl (imm_int ?_))
  all_goals (show _ = stpE (7, st, sf, sn))
  all_goals (simp [stpE, mostI, useT, fitB, regB, wideB, narrowB] at *)
  all_goals first
    | omega
    | (simp_all; done)
    | (simp_all; omega)
    | (refine ⟨by omega, by omega, ?_, by omega, by omega⟩; rw [Bool.eq_iff_iff]; simp; omega)
    | skip

set_option maxHeartbeats 4000000 in
theorem rStep8_ok : GoodF Tryz.prog 199 (rstepS 8).spec := by
  have hT := tab_ok (fs := [(139, narrowS.spec), (140, wideS.spec)]) tree_ok
  have hP : SpecsOk Tryz.prog (tab tree [(139, narrowS.spec), (140, wideS.spec)]) := specs_cons rNarrow_ok (specs_cons rWide_ok specs_nil)
  refine (rstepS 8).good (fn := Tryz.f199) hT hP Tryz.func199 (by kernel_rfl) rfl fun (s : Stp) hq => ?_
  obtain ⟨sd, st, sf, sn⟩ := s
  have hd : sd = 8 := hq _ rfl
  clear hq
  subst hd
  repeat' first
    | (refine Go.mk ?_; conv => whnf)
    | refine Need.go ?_ ?_
    | refine NilG.go (fun _ => ?_) (fun _ => ?_)
    | refine Br.dec (fun _ => ?_) (fun _ => ?_)
    | refine Br.go (fun _ => ?_) (fun _ => ?_)
    | refine draw_go hT hP mixed ?_
    | refine round_go hT hP ?_
  all_goals clear hT hP
  all_goals (refine .mk [] [] _ rfl rfl rfl rfl rfl rfl (imm_int ?_))
  all_goals (show _ = stpE (8, st, sf, sn))
  all_goals (simp [stpE, mostI, useT, fitB, regB, wideB, narrowB] at *)
  all_goals first
    | omega
    | (simp_all; done)
    | (simp_all; omega)
    | (refine ⟨by omega, by omega, ?_, by omega, by omega⟩; rw [Bool.eq_iff_iff]; simp; omega)
    | skip

end Go.Proofs.YtofgbclopbmlcaaGreat

/- Steps of a cycle: what the reference says, kind by kind (printed by genstep.py). -/
namespace Go.Proofs.YtofgbclopbmlcaaGreat
open Go.Fw
set_option linter.unusedVariables false
set_option linter.unusedSimpArgs false
set_option linter.constructorNameAsVariable false
set_option maxRecDepth 100000

set_option maxHeartbeats 4000000 in
theorem rStep9_ok : GoodF Tryz.prog 199 (rstepS 9).spec := by
  have hT := tab_ok (fs := [(139, narrowS.spec), (140, wideS.spec)]) tree_ok
  have hP : SpecsOk Tryz.prog (tab tree [(139, narrowS.spec), (140, wideS.spec)]) := specs_cons rNarrow_ok (specs_cons rWide_ok specs_nil)
  refine (rstepS 9).good (fn := Tryz.f199) hT hP Tryz.func199 (by kernel_rfl) rfl fun (s : Stp) hq => ?_
  obtain ⟨sd, st, sf, sn⟩ := s
  have hd : sd = 9 := hq _ rfl
  clear hq
  subst hd
  repeat' first
    | (refine Go.mk ?_; conv => whnf)
    | refine Need.go ?_ ?_
    | refine NilG.go (fun _ => ?_) (fun _ => ?_)
    | refine Br.dec (fun _ => ?_) (fun _ => ?_)
    | refine Br.go (fun _ => ?_) (fun _ => ?_)
    | refine draw_go hT hP mixed ?_
    | refine round_go hT hP ?_
  all_goals clear hT hP
  all_goals (refine .mk [] [] _ rfl rfl rfl rfl rfl rfl (imm_int ?_))
  all_goals (show _ = stpE (9, st, sf, sn))
  all_goals (simp [stpE, mostI, useT, fitB, regB, wideB, narrowB] at *)
  all_goals first
    | omega
    | (simp_all; done)
    | (simp_all; omega)
    | (refine ⟨by omega, by omega, ?_, by omega, by omega⟩; rw [Bool.eq_iff_iff]; simp; omega)
    | skip

set_option maxHeartbeats 4000000 in
theorem rStep10_ok : GoodF Tryz.prog 199 (rstepS 10).spec := by
  have hT := tab_ok (fs := [(139, narrowS.spec), (140, wideS.spec)]) tree_ok
  have hP : SpecsOk Tryz.prog (tab tree [(139, narrowS.spec), (140, wideS.spec)]) := specs_cons rNarrow_ok (specs_cons rWide_ok specs_nil)
  refine (rstepS 10).good (fn := Tryz.f199) hT hP Tryz.func199 (by kernel_rfl) rfl fun (s : Stp) hq => ?_
  obtain ⟨sd, st, sf, sn⟩ := s
  have hd : sd = 10 := hq _ rfl
  clear hq
  subst hd
  repeat' first
    | (refine Go.mk ?_; conv => whnf)
    | refine Need.go ?_ ?_
    | refine NilG.go (fun _ => ?_) (fun _ => ?_)
    | refine Br.dec (fun _ => ?_) (fun _ => ?_)
    | refine Br.go (fun _ => ?_) (fun _ => ?_)
    | refine draw_go hT hP mixed ?_
    | refine round_go hT hP ?_
  all_goals clear hT hP
  all_goals (refine .mk [] [] _ rfl rfl rfl rfl rfl rfl (imm_int ?_))
  all_goals (show _ = stpE (10, st, sf, sn))
  all_goals (simp [stpE, mostI, useT, fitB, regB, wideB, narrowB] at *)
  all_goals first
    | omega
    | (simp_all; done)
    | (simp_all; omega)
    | (refine ⟨by omega, by omega, ?_, by omega, by omega⟩; rw [Bool.eq_iff_iff]; simp; omega)
    | skip

set_option maxHeartbeats 4000000 in
theorem rStep11_ok : GoodF Tryz.prog 199 (rstepS 11).spec := by
  have hT := tab_ok (fs := [(139, narrowS.spec), (140, wideS.spec)]) tree_ok
  have hP : SpecsOk Tryz.prog (tab tree [(139, narrowS.spec), (140, wideS.spec)]) := specs_cons rNarrow_ok (specs_cons rWide_ok specs_nil)
  refine (rstepS 11).good (fn := Tryz.f199) hT hP Tryz.func199 (by kernel_rfl) rfl fun (s : Stp) hq => ?_
  obtain ⟨sd, st, sf, sn⟩ := s
  have hd : sd = 11 := hq _ rfl
  clear hq
  subst hd
  repeat' first
    | (refine Go.mk ?_; conv => whnf)
    | refine Need.go ?_ ?_
    | refine NilG.go (fun _ => ?_) (fun _ => ?_)
    | refine Br.dec (fun _ => ?_) (fun _ => ?_)
    | refine Br.go (fun _ => ?_) (fun _ => ?_)
    | refine draw_go hT hP mixed ?_
    | refine round_go hT hP ?_
  all_goals clear hT hP
  all_goals (refine .mk [] [] _ rfl rfl rfl rfl rfl rfl (imm_int ?_))
  all_goals (show _ = stpE (11, st, sf, sn))
  all_goals (simp [stpE, mostI, useT, fitB, regB, wideB, narrowB] at *)
  all_goals first
    | omega
    | (simp_all; done)
    | (simp_all; omega)
    | (refine ⟨by omega, by omega, ?_, by omega, by omega⟩; rw [Bool.eq_iff_iff]; simp; omega)
    | skip

set_option maxHeartbeats 4000000 in
theorem rStep12_ok : GoodF Tryz.prog 199 (rstepS 12).spec := by
  have hT := tab_ok (fs := [(139, narrowS.spec), (140, wideS.spec)]) tree_ok
  have hP : SpecsOk Tryz.prog (tab tree [(139, narrowS.spec), (140, wideS.spec)]) := specs_cons rNarrow_ok (specs_cons rWide_ok specs_nil)
  refine (rstepS 12).good (fn := Tryz.f199) hT hP Tryz.func199 (by kernel_rfl) rfl fun (s : Stp) hq => ?_
  obtain ⟨sd, st, sf, sn⟩ := s
  have hd : sd = 12 := hq _ rfl
  clear hq
  subst hd
  repeat' first
    | (refine Go.mk ?_; conv => whnf)
    | refine Need.go ?_ ?_
    | refine NilG.go (fun _ => ?_) (fun _ => ?_)
    | refine Br.dec (fun _ => ?_) (fun _ => ?_)
    | refine Br.go (fun _ => ?_) (fun _ => ?_)
    | refine draw_go hT hP mixed ?_
    | refine round_go hT hP ?_
  all_goals clear hT hP
  all_goals (refine .mk [] [] _ rfl rfl rfl rfl rfl rfl (imm_int ?_))
  all_goals (show _ = stpE (12, st, sf, sn))
  all_goals (simp [stpE, mostI, useT, fitB, regB, wideB, narrowB] at *)
  all_goals first
    | omega
    | (simp_all; done)
    | (simp_all; omega)
    | (refine ⟨by omega, by omega, ?_, by omega, by omega⟩; rw [Bool.eq_iff_iff]; simp; omega)
    | skip

set_option maxHeartbeats 4000000 in
theorem rStep13_ok : GoodF Tryz.prog 199 (rstepS 13).spec := by
  have hT := tab_ok (fs := [(139, narrowS.spec), (140, wideS.spec)]) tree_ok
  have hP : SpecsOk Tryz.prog (tab tree [(139, narrowS.spec), (140, wideS.spec)]) := specs_cons rNarrow_ok (specs_cons rWide_ok specs_nil)
  refine (rstepS 13).good (fn := Tryz.f199) hT hP Tryz.func199 (by kernel_rfl) rfl fun (s : Stp) hq => ?_
  obtain ⟨sd, st, sf, sn⟩ := s
  have hd : sd = 13 := hq _ rfl
  clear hq
  subst hd
  repeat' first
    | (refine Go.mk ?_; conv => whnf)
    | refine Need.go ?_ ?_
    | refine NilG.go (fun _ => ?_) (fun _ => ?_)
    | refine Br.dec (fun _ => ?_) (fun _ => ?_)
    | refine Br.go (fun _ => ?_) (fun _ => ?_)
    | refine draw_go hT hP mixed ?_
    | refine round_go hT hP ?_
  all_goals clear hT hP
  all_goals (refine .mk [] [] _ rfl rfl rfl rfl rfl rfl (imm_int ?_))
  all_goals (show _ = stpE (13, st, sf, sn))
  all_goals (simp [stpE, mostI, useT, fitB, regB, wideB, narrowB] at *)
  all_goals first
    | omega
    | (simp_all; done)
    | (simp_all; omega)
    | (refine ⟨by omega, by omega, ?_, by omega, by omega⟩; rw [Bool.eq_iff_iff]; simp; omega)
    | skip

set_option maxHeartbeats 4000000 in
theorem rStep14_ok : GoodF Tryz.prog 199 (rstepS 14).spec := by
  have hT := tab_ok (fs := [(139, narrowS.spec), (140, wideS.spec)]) tree_ok
  have hP : SpecsOk Tryz.prog (tab tree [(139, narrowS.spec), (140, wideS.spec)]) := specs_cons rNarrow_ok (specs_cons rWide_ok specs_nil)
  refine (rstepS 14).good (fn := Tryz.f199) hT hP Tryz.func199 (by kernel_rfl) rfl fun (s : Stp) hq => ?_
  obtain ⟨sd, st, sf, sn⟩ := s
  have hd : sd = 14 := hq _ rfl
  clear hq
  subst hd
  repeat' first
    | (refine Go.mk ?_; conv => whnf)
    | refine Need.go ?_ ?_
    | refine NilG.go (fun _ => ?_) (fun _ => ?_)
    | refine Br.dec (fun _ => ?_) (fun _ => ?_)
    | refine Br.go (fun _ => ?_) (fun _ => ?_)
    | refine draw_go hT hP mixed ?_
    | refine round_go hT hP ?_
  all_goals clear hT hP
  all_goals (refine .mk [] [] _ rfl rfl rfl rfl rfl rfl (imm_int ?_))
  all_goals (show _ = stpE (14, st, sf, sn))
  all_goals (simp [stpE, mostI, useT, fitB, regB, wideB, narrowB] at *)
  all_goals first
    | omega
    | (simp_all; done)
    | (simp_all; omega)
    | (refine ⟨by omega, by omega, ?_, by omega, by omega⟩; rw [Bool.eq_iff_iff]; simp; omega)
    | skip

set_option maxHeartbeats 4000000 in
theorem rStep15_ok : GoodF Tryz.prog 199 (rstepS 15).spec := by
  have hT := tab_ok (fs := [(139, narrowS.spec), (140, wideS.spec)]) tree_ok
  have hP : SpecsOk Tryz.prog (tab tree [(139, narrowS.spec), (140, wideS.spec)]) := specs_cons rNarrow_ok (specs_cons rWide_ok specs_nil)
  refine (rstepS 15).good (fn := Tryz.f199) hT hP Tryz.func199 (by kernel_rfl) rfl fun (s : Stp) hq => ?_
  obtain ⟨sd, st, sf, sn⟩ := s
  have hd : sd = 15 := hq _ rfl
  clear hq
  subst hd
  repeat' first
    | (refine Go.mk ?_; conv => whnf)
    | refine Need.go ?_ ?_
    | refine NilG.go (fun _ => ?_) (fun _ => ?_)
    | refine Br.dec (fun _ => ?_) (fun _ => ?_)
    | refine Br.go (fun _ => ?_) (fun _ => ?_)
    | refine draw_go hT hP mixed ?_
    | refine round_go hT hP ?_
  all_goals clear hT hP
  all_goals (refine .mk [] [] _ rfl rfl rfl rfl rfl rfl (imm_int ?_))
  all_goals (show _ = stpE (15, st, sf, sn))
  all_goals (simp [stpE, mostI, useT, fitB, regB, wideB, narrowB] at *)
  all_goals first
    | omega
    | (simp_all; done)
    | (simp_all; omega)
    | (refine ⟨by omega, by omega, ?_, by omega, by omega⟩; rw [Bool.eq_iff_iff]; simp; omega)
    | skip

set_option maxHeartbeats 4000000 in
theorem rStep16_ok : GoodF Tryz.prog 199 (rstepS 16).spec := by
  have hT := tab_ok (fs := [(139, narrowS.spec), (140, wideS.spec)]) tree_ok
  have hP : SpecsOk Tryz.prog (tab tree [(139, narrowS.spec), (140, wideS.spec)]) := specs_cons rNarrow_ok (specs_cons rWide_ok specs_nil)
  refine (rstepS 16).good (fn := Tryz.f199) hT hP Tryz.func199 (by kernel_rfl) rfl fun (s : Stp) hq => ?_
  obtain ⟨sd, st, sf, sn⟩ := s
  have hd : sd = 16 := hq _ rfl
  clear hq
  subst hd
  repeat' first
    | (refine Go.mk ?_; conv => whnf)
    | refine Need.go ?_ ?_
    | refine NilG.go (fun _ => ?_) (fun _ => ?_)
    | refine Br.dec (fun _ => ?_) (fun _ => ?_)
    | refine Br.go (fun _ => ?_) (fun _ => ?_)
    | refine draw_go hT hP mixed ?_
    | refine round_go hT hP ?_
  all_goals clear hT hP
  all_goals (refine .mk [] [] _ rfl rfl rfl rfl rfl rfl (imm_int ?_))
  all_goals (show _ = stpE (16, st, sf, sn))
  all_goals (simp [stpE, mostI, useT, fitB, regB, wideB, narrowB] at *)
  all_goals first
    | omega
    | (simp_all; done)
    | (simp_all; omega)
    | (refine ⟨by omega, by omega, ?_, by omega, by omega⟩; rw [Bool.eq_iff_iff]; simp; omega)
    | skip

set_option maxHeartbeats 4000000 in
theorem rStep17_ok : GoodF Tryz.prog 199 (rstepS 17).spec := by
  have hT := tab_ok (fs := [(139, narrowS.spec), (140, wideS.spec)]) tree_ok
  have hP : SpecsOk Tryz.prog (tab tree [(139, narrowS.spec), (140, wideS.spec)]) := specs_cons rNarrow_ok (specs_cons rWide_ok specs_nil)
  refine (rstepS 17).good (fn := Tryz.f199) hT hP Tryz.func199 (by kernel_rfl) rfl fun (s : Stp) hq => ?_
  obtain ⟨sd, st, sf, sn⟩ := s
  have hd : sd = 17 := hq _ rfl
  clear hq
  subst hd
  repeat' first
    | (refine Go.mk ?_; conv => whnf)
    | refine Need.go ?_ ?_
    | refine NilG.go (fun _ => ?_) (fun _ => ?_)
    | refine Br.dec (fun _ => ?_) (fun _ => ?_)
    | refine Br.go (fun _ => ?_) (fun _ => ?_)
    | refine draw_go hT hP mixed ?_
    | refine round_go hT hP ?_
  all_goals clear hT hP
  all_goals (refine .mk [] [] _ rfl rfl rfl rfl rfl rfl (imm_int ?_))
  all_goals (show _ = stpE (17, st, sf, sn))
  all_goals (simp [stpE, mostI, useT, fitB, regB, wideB, narrowB] at *)
  all_goals first
    | omega
    | (simp_all; done)
    | (simp_all; omega)
    | (refine ⟨by omega, by omega, ?_, by omega, by omega⟩; rw [Bool.eq_iff_iff]; simp; omega)
    | skip

end Go.Proofs.YtofgbclopbmlcaaGreat

/- Steps of a cycle: what the reference says, kind by kind (printed by genstep.py). -/
namespace Go.Proofs.YtofgbclopbmlcaaGreat
open Go.Fw
set_option linter.unusedVariables false
set_option linter.unusedSimpArgs false
set_option linter.constructorNameAsVariable false
set_option maxRecDepth 100000

set_option maxHeartbeats 4000000 in
theorem rStep18_ok : GoodF Tryz.prog 199 (rstepS 18).spec := by
  have hT := tab_ok (fs := [(139, narrowS.spec), (140, wideS.spec)]) tree_ok
  have hP : SpecsOk Tryz.prog (tab tree [(139, narrowS.spec), (140, wideS.spec)]) := specs_cons rNarrow_ok (specs_cons rWide_ok specs_nil)
  refine (rstepS 18).good (fn := Tryz.f199) hT hP Tryz.func199 (by kernel_rfl) rfl fun (s : Stp) hq => ?_
  obtain ⟨sd, st, sf, sn⟩ := s
  have hd : sd = 18 := hq _ rfl
  clear hq
  subst hd
  repeat' first
    | (refine Go.mk ?_; conv => whnf)
    | refine Need.go ?_ ?_
    | refine NilG.go (fun _ => ?_) (fun _ => ?_)
    | refine Br.dec (fun _ => ?_) (fun _ => ?_)
    | refine Br.go (fun _ => ?_) (fun _ => ?_)
    | refine draw_go hT hP mixed ?_
    | refine round_go hT hP ?_
  all_goals clear hT hP
  all_goals (refine .mk [] [] _ rfl rfl rfl rfl rfl rfl (imm_int ?_))
  all_goals (show _ = stpE (18, st, sf, sn))
  all_goals (simp [stpE, mostI, useT, fitB, regB, wideB, narrowB] at *)
  all_goals first
    | omega
    | (simp_all; done)
    | (simp_all; omega)
    | (refine ⟨by omega, by omega, ?_, by omega, by omega⟩; rw [Bool.eq_iff_iff]; simp; omega)
    | skip

set_option maxHeartbeats 4000000 in
theorem rStep19_ok : GoodF Tryz.prog 199 (rstepS 19).spec := by
  have hT := tab_ok (fs := [(139, narrowS.spec), (140, wideS.spec)]) tree_ok
  have hP : SpecsOk Tryz.prog (tab tree [(139, narrowS.spec), (140, wideS.spec)]) := specs_cons rNarrow_ok (specs_cons rWide_ok specs_nil)
  refine (rstepS 19).good (fn := Tryz.f199) hT hP Tryz.func199 (by kernel_rfl) rfl fun (s : Stp) hq => ?_
  obtain ⟨sd, st, sf, sn⟩ := s
  have hd : sd = 19 := hq _ rfl
  clear hq
  subst hd
  repeat' first
    | (refine Go.mk ?_; conv => whnf)
    | refine Need.go ?_ ?_
    | refine NilG.go (fun _ => ?_) (fun _ => ?_)
    | refine Br.dec (fun _ => ?_) (fun _ => ?_)
    | refine Br.go (fun _ => ?_) (fun _ => ?_)
    | refine draw_go hT hP mixed ?_
    | refine round_go hT hP ?_
  all_goals clear hT hP
  all_goals (refine .mk [] [] _ rfl rfl rfl rfl rfl rfl (imm_int ?_))
  all_goals (show _ = stpE (19, st, sf, sn))
  all_goals (simp [stpE, mostI, useT, fitB, regB, wideB, narrowB] at *)
  all_goals first
    | omega
    | (simp_all; done)
    | (simp_all; omega)
    | (refine ⟨by omega, by omega, ?_, by omega, by omega⟩; rw [Bool.eq_iff_iff]; simp; omega)
    | skip

set_option maxHeartbeats 4000000 in
theorem rStep20_ok : GoodF Tryz.prog 199 (rstepS 20).spec := by
  have hT := tab_ok (fs := [(139, narrowS.spec), (140, wideS.spec)]) tree_ok
  have hP : SpecsOk Tryz.prog (tab tree [(139, narrowS.spec), (140, wideS.spec)]) := specs_cons rNarrow_ok (specs_cons rWide_ok specs_nil)
  refine (rstepS 20).good (fn := Tryz.f199) hT hP Tryz.func199 (by kernel_rfl) rfl fun (s : Stp) hq => ?_
  obtain ⟨sd, st, sf, sn⟩ := s
  have hd : sd = 20 := hq _ rfl
  clear hq
  subst hd
  repeat' first
    | (refine Go.mk ?_; conv => whnf)
    | refine Need.go ?_ ?_
    | refine NilG.go (fun _ => ?_) (fun _ => ?_)
    | refine Br.dec (fun _ => ?_) (fun _ => ?_)
    | refine Br.go (fun _ => ?_) (fun _ => ?_)
    | refine draw_go hT hP mixed ?_
    | refine round_go hT hP ?_
  all_goals clear hT hP
  all_goals (refine .mk [] [] _ rfl rfl rfl rfl rfl rfl (imm_int ?_))
  all_goals (show _ = stpE (20, st, sf, sn))
  all_goals (simp [stpE, mostI, useT, fitB, regB, wideB, narrowB] at *)
  all_goals first
    | omega
    | (simp_all; done)
    | (simp_all; omega)
    | (refine ⟨by omega, by omega, ?_, by omega, by omega⟩; rw [Bool.eq_iff_iff]; simp; omega)
    | skip

set_option maxHeartbeats 4000000 in
theorem rStep21_ok : GoodF Tryz.prog 199 (rstepS 21).spec := by
  have hT := tab_ok (fs := [(139, narrowS.spec), (140, wideS.spec)]) tree_ok
  have hP : SpecsOk Tryz.prog (tab tree [(139, narrowS.spec), (140, wideS.spec)]) := specs_cons rNarrow_ok (specs_cons rWide_ok specs_nil)
  refine (rstepS 21).good (fn := Tryz.f199) hT hP Tryz.func199 (by kernel_rfl) rfl fun (s : Stp) hq => ?_
  obtain ⟨sd, st, sf, sn⟩ := s
  have hd : sd = 21 := hq _ rfl
  clear hq
  subst hd
  repeat' first
    | (refine Go.mk ?_; conv => whnf)
    | refine Need.go ?_ ?_
    | refine NilG.go (fun _ => ?_) (fun _ => ?_)
    | refine Br.dec (fun _ => ?_) (fun _ => ?_)
    | refine Br.go (fun _ => ?_) (fun _ => ?_)
    | refine draw_go hT hP mixed ?_
    | refine round_go hT hP ?_
  all_goals clear hT hP
  all_goals (refine .mk [] [] _ rfl rfl rfl rfl rfl rfl (imm_int ?_))
  all_goals (show _ = stpE (21, st, sf, sn))
  all_goals (simp [stpE, mostI, useT, fitB, regB, wideB, narrowB] at *)
  all_goals first
    | omega
    | (simp_all; done)
    | (simp_all; omega)
    | (refine ⟨by omega, by omega, ?_, by omega, by omega⟩; rw [Bool.eq_iff_iff]; simp; omega)
    | skip

set_option maxHeartbeats 4000000 in
theorem rStep22_ok : GoodF Tryz.prog 199 (rstepS 22).spec := by
  have hT := tab_ok (fs := [(139, narrowS.spec), (140, wideS.spec)]) tree_ok
  have hP : SpecsOk Tryz.prog (tab tree [(139, narrowS.spec), (140, wideS.spec)]) := specs_cons rNarrow_ok (specs_cons rWide_ok specs_nil)
  refine (rstepS 22).good (fn := Tryz.f199) hT hP Tryz.func199 (by kernel_rfl) rfl fun (s : Stp) hq => ?_
  obtain ⟨sd, st, sf, sn⟩ := s
  have hd : sd = 22 := hq _ rfl
  clear hq
  subst hd
  repeat' first
    | (refine Go.mk ?_; conv => whnf)
    | refine Need.go ?_ ?_
    | refine NilG.go (fun _ => ?_) (fun _ => ?_)
    | refine Br.dec (fun _ => ?_) (fun _ => ?_)
    | refine Br.go (fun _ => ?_) (fun _ => ?_)
    | refine draw_go hT hP mixed ?_
    | refine round_go hT hP ?_
  all_goals clear hT hP
  all_goals (refine .mk [] [] _ rfl rfl rfl rfl rfl rfl (imm_int ?_))
  all_goals (show _ = stpE (22, st, sf, sn))
  all_goals (simp [stpE, mostI, useT, fitB, regB, wideB, narrowB] at *)
  all_goals first
    | omega
    | (simp_all; done)
    | (simp_all; omega)
    | (refine ⟨by omega, by omega, ?_, by omega, by omega⟩; rw [Bool.eq_iff_iff]; simp; omega)
    | skip

set_option maxHeartbeats 4000000 in
theorem rStep23_ok : GoodF Tryz.prog 199 (rstepS 23).spec := by
  have hT := tab_ok (fs := [(139, narrowS.spec), (140, wideS.spec)]) tree_ok
  have hP : SpecsOk Tryz.prog (tab tree [(139, narrowS.spec), (140, wideS.spec)]) := specs_cons rNarrow_ok (specs_cons rWide_ok specs_nil)
  refine (rstepS 23).good (fn := Tryz.f199) hT hP Tryz.func199 (by kernel_rfl) rfl fun (s : Stp) hq => ?_
  obtain ⟨sd, st, sf, sn⟩ := s
  have hd : sd = 23 := hq _ rfl
  clear hq
  subst hd
  repeat' first
    | (refine Go.mk ?_; conv => whnf)
    | refine Need.go ?_ ?_
    | refine NilG.go (fun _ => ?_) (fun _ => ?_)
    | refine Br.dec (fun _ => ?_) (fun _ => ?_)
    | refine Br.go (fun _ => ?_) (fun _ => ?_)
    | refine draw_go hT hP mixed ?_
    | refine round_go hT hP ?_
  all_goals clear hT hP
  all_goals (refine .mk [] [] _ rfl rfl rfl rfl rfl rfl (imm_int ?_))
  all_goals (show _ = stpE (23, st, sf, sn))
  all_goals (simp [stpE, mostI, useT, fitB, regB, wideB, narrowB] at *)
  all_goals first
    | omega
    | (simp_all; done)
    | (simp_all; omega)
    | (refine ⟨by omega, by omega, ?_, by omega, by omega⟩; rw [Bool.eq_iff_iff]; simp; omega)
    | skip

set_option maxHeartbeats 4000000 in
theorem rStep24_ok : GoodF Tryz.prog 199 (rstepS 24).spec := by
  have hT := tab_ok (fs := [(139, narrowS.spec), (140, wideS.spec)]) tree_ok
  have hP : SpecsOk Tryz.prog (tab tree [(139, narrowS.spec), (140, wideS.spec)]) := specs_cons rNarrow_ok (specs_cons rWide_ok specs_nil)
  refine (rstepS 24).good (fn := Tryz.f199) hT hP Tryz.func199 (by kernel_rfl) rfl fun (s : Stp) hq => ?_
  obtain ⟨sd, st, sf, sn⟩ := s
  have hd : sd = 24 := hq _ rfl
  clear hq
  subst hd
  repeat' first
    | (refine Go.mk ?_; conv => whnf)
    | refine Need.go ?_ ?_
    | refine NilG.go (fun _ => ?_) (fun _ => ?_)
    | refine Br.dec (fun _ => ?_) (fun _ => ?_)
    | refine Br.go (fun _ => ?_) (fun _ => ?_)
    | refine draw_go hT hP mixed ?_
    | refine round_go hT hP ?_
  all_goals clear hT hP
  all_goals (refine .mk [] [] _ rfl rfl rfl rfl rfl rfl (imm_int ?_))
  all_goals (show _ = stpE (24, st, sf, sn))
  all_goals (simp [stpE, mostI, useT, fitB, regB, wideB, narrowB] at *)
  all_goals first
    | omega
    | (simp_all; done)
    | (simp_all; omega)
    | (refine ⟨by omega, by omega, ?_, by omega, by omega⟩; rw [Bool.eq_iff_iff]; simp; omega)
    | skip
theorem rStepX_ok : GoodF Tryz.prog 199 rstepXS.spec := by
  have hT := tab_ok (fs := [(139, narrowS.spec), (140, wideS.spec)]) tree_ok
  have hP : SpecsOk Tryz.prog (tab tree [(139, narrowS.spec), (140, wideS.spec)]) := specs_cons rNarrow_ok (specs_cons rWide_ok specs_nil)
  refine rstepXS.good (fn := Tryz.f199) hT hP Tryz.func199 (by kernel_rfl) rfl fun (s : Stp) hq => ?_
  obtain ⟨sd, st, sf, sn⟩ := s
  have hx : sd < 0 ∨ sd > 24 := hq _ rfl
  clear hq
  repeat' first
    | (exfalso; rename_i g h; exact do_in hx g h)
    | (refine Go.mk ?_; conv => whnf)
    | refine Need.go ?_ ?_
    | refine NilG.go (fun _ => ?_) (fun _ => ?_)
    | refine Br.dec (fun _ => ?_) (fun _ => ?_)
    | refine Br.go (fun _ => ?_) (fun _ => ?_)
    | refine draw_go hT hP mixed ?_
    | refine round_go hT hP ?_
  all_goals clear hT hP
  all_goals (refine .mk [] [] _ rfl rfl rfl rfl rfl rfl (imm_int ?_))
  all_goals (show 8 = stpE (sd, st, sf, sn); unfold stpE)
  all_goals (rw [if_pos]; show sd < 0 ∨ sd ≥ 25; omega)

end Go.Proofs.YtofgbclopbmlcaaGreat

/- Steps of a cycle: what the reference says. -/
namespace Go.Proofs.YtofgbclopbmlcaaGreat
open Go.Fw
set_option linter.unusedVariables false
set_option linter.unusedSimpArgs false
set_option linter.constructorNameAsVariable false
set_option maxRecDepth 100000

theorem doings (d : Int) : (d < 0 ∨ d > 24) ∨ d = 0 ∨ d = 1 ∨ d = 2 ∨ d = 3 ∨ d = 4 ∨ d = 5 ∨ d = 6 ∨ d = 7 ∨ d = 8 ∨ d = 9 ∨ d = 10 ∨ d = 11 ∨ d = 12 ∨ d = 13 ∨ d = 14 ∨ d = 15 ∨ d = 16 ∨ d = 17 ∨ d = 18 ∨ d = 19 ∨ d = 20 ∨ d = 21 ∨ d = 22 ∨ d = 23 ∨ d = 24 := by omega
theorem rStep_ok : GoodF Tryz.prog 199 tstepS.spec := by
  refine GoodF.sel rStepX_ok fun (s, _) hp => ?_
  obtain ⟨sd, st, sf, sn⟩ := s
  clear hp
  show ∃ o1 : Args [gStep] → Option Prop × AV × List Blk, _
  rcases doings sd with hx | rfl | rfl | rfl | rfl | rfl | rfl | rfl | rfl | rfl | rfl | rfl | rfl | rfl | rfl | rfl | rfl | rfl | rfl | rfl | rfl | rfl | rfl | rfl | rfl | rfl
  · exact ⟨_, rStepX_ok, fun q hq => by cases hq; exact hx, .refl⟩
  · exact ⟨_, rStep0_ok, fun q hq => by cases hq; rfl, .refl⟩
  · exact ⟨_, rStep1_ok, fun q hq => by cases hq; rfl, .refl⟩
  · exact ⟨_, rStep2_ok, fun q hq => by cases hq; rfl, .refl⟩
  · exact ⟨_, rStep3_ok, fun q hq => by cases hq; rfl, .refl⟩
  · exact ⟨_, rStep4_ok, fun q hq => by cases hq; rfl, .refl⟩
  · exact ⟨_, rStep5_ok, fun q hq => by cases hq; rfl, .refl⟩
  · exact ⟨_, rStep6_ok, fun q hq => by cases hq; rfl, .refl⟩
  · exact ⟨_, rStep7_ok, fun q hq => by cases hq; rfl, .refl⟩
  · exact ⟨_, rStep8_ok, fun q hq => by cases hq; rfl, .refl⟩
  · exact ⟨_, rStep9_ok, fun q hq => by cases hq; rfl, .refl⟩
  · exact ⟨_, rStep10_ok, fun q hq => by cases hq; rfl, .refl⟩
  · exact ⟨_, rStep11_ok, fun q hq => by cases hq; rfl, .refl⟩
  · exact ⟨_, rStep12_ok, fun q hq => by cases hq; rfl, .refl⟩
  · exact ⟨_, rStep13_ok, fun q hq => by cases hq; rfl, .refl⟩
  · exact ⟨_, rStep14_ok, fun q hq => by cases hq; rfl, .refl⟩
  · exact ⟨_, rStep15_ok, fun q hq => by cases hq; rfl, .refl⟩
  · exact ⟨_, rStep16_ok, fun q hq => by cases hq; rfl, .refl⟩
  · exact ⟨_, rStep17_ok, fun q hq => by cases hq; rfl, .refl⟩
  · exact ⟨_, rStep18_ok, fun q hq => by cases hq; rfl, .refl⟩
  · exact ⟨_, rStep19_ok, fun q hq => by cases hq; rfl, .refl⟩
  · exact ⟨_, rStep20_ok, fun q hq => by cases hq; rfl, .refl⟩
  · exact ⟨_, rStep21_ok, fun q hq => by cases hq; rfl, .refl⟩
  · exact ⟨_, rStep22_ok, fun q hq => by cases hq; rfl, .refl⟩
  · exact ⟨_, rStep23_ok, fun q hq => by cases hq; rfl, .refl⟩
  · exact ⟨_, rStep24_ok, fun q hq => by cases hq; rfl, .refl⟩

end Go.Proofs.YtofgbclopbmlcaaGreat





