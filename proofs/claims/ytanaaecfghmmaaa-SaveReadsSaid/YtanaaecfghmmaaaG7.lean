/- Part 7 of the proof: Enc Pack Pack2 Save Pick Serial Name Tables TabStep TabStep0. No statement is handed in here; conditions: none. -/
import Derived.Test.YtanaaecfghmmaaaG6
/- Numbers as bytes: the two walks. -/
namespace Go.Proofs.Ytanaaecfghmmaaa
open Go.Fw
set_option linter.unusedVariables false
set_option linter.unusedSimpArgs false
set_option linter.constructorNameAsVariable false
set_option maxRecDepth 100000

structure PutX where
  nil : Bool
  l : List Int
  n : Int
def putRd : List V1 → List Blk → Option PutX := fun a b => match a, b with
  | [.c (.imm (.slice none 0 0)), .c (.imm (.int .i64 n))], [] => some ⟨true, [], n⟩
  | [.c (.own 0), .c (.imm (.int .i64 n))], [.arr (.int .u8) l] => some ⟨false, l, n⟩
  | _, _ => none
def putArgs : PutX → List V1
  | ⟨true, _, n⟩ => [.c (.imm (.slice none 0 0)), .c (iv .i64 n)]
  | ⟨false, _, n⟩ => [.c (.own 0), .c (iv .i64 n)]
def putBl : PutX → List Blk
  | ⟨true, _, _⟩ => []
  | ⟨false, l, _⟩ => [.arr (.int .u8) l]
theorem putRd_ok {a : List V1} {b : List Blk} {x : PutX} (h : putRd a b = some x) : a = putArgs x ∧ b = putBl x := by
  unfold putRd at h
  split at h
  · injection h with h; subst h; exact ⟨rfl, rfl⟩
  · injection h with h; subst h; exact ⟨rfl, rfl⟩
  · cases h
def putP (x : PutX) : Prop := i64P x.n ∧ x.l.length ≤ 35184372088832 ∧ (x.nil = true → x.l = [])
def putOut : PutX → Option Prop × AV × List (Option Blk) × List Blk
  | ⟨true, l, n⟩ => (some (putP ⟨true, l, n⟩), .cell (.own 0), [], [.arr (.int .u8) (encI n)])
  | ⟨false, l, n⟩ => (some (putP ⟨false, l, n⟩), .cell (.own 1), [none], [.arr (.int .u8) (l ++ encI n)])
def putWS : WSpec := ⟨PutX, putArgs, putBl, putRd, putOut⟩
theorem blk_u8 {l l' : List Int} (h : l = l') : [some (Blk.arr (.int .u8) l)] = [some (Blk.arr (.int .u8) l')] := by rw [h]
def putI (l0 : List Int) (n : Int) (f : Bool) (l : List Int) (u : Int) : Prop := (0 ≤ u ∧ u < 18446744073709551616) ∧ l ++ enc7 u.toNat = l0 ++ encI n ∧ (f = true → l = l0)
theorem putI_len {l0 l : List Int} {n u : Int} {f : Bool} (hn : i64P n) (h : putI l0 n f l u) : l.length + 1 ≤ l0.length + 10 := by
  have h1 := congrArg List.length h.2.1
  rw [List.length_append, List.length_append] at h1
  have h2 := enc7_pos u.toNat
  have h3 := encI_len hn
  omega
theorem putI_go {l0 l : List Int} {n u : Int} {f : Bool} (h : putI l0 n f l u) (hu : u ≥ 128) : putI l0 n false (l ++ [lor .u8 (IntKind.u8.wrap u) 128]) (shr .u64 u 7) := by
  obtain ⟨h1, h2, h3⟩ := h
  refine ⟨by rw [shr7_u64]; omega, ?_, fun h => by cases h⟩
  rw [enc7_ge (by omega)] at h2
  rw [← h2, shr7_u64, wu8, or128_u8 _ (by omega) (by omega), List.append_assoc]
  congr 2
  simp only [List.singleton_append]
  congr 1
  · omega
  · congr 1; omega
theorem putI_end {l0 l : List Int} {n u : Int} {f : Bool} (h : putI l0 n f l u) (hu : ¬ u ≥ 128) : l ++ [IntKind.u8.wrap u] = l0 ++ encI n := by
  obtain ⟨h1, h2, h3⟩ := h
  rw [enc7_lt (by omega)] at h2
  rw [← h2, wu8]
  congr 2
  omega
theorem putI_pos {l0 : List Int} {n : Int} {f : Bool} (hn : i64P n) (h : ¬ n < 0) : putI l0 n f l0 (shl .u64 (IntKind.u64.wrap n) 1) := by
  unfold i64P at hn
  rw [wu64, shl1_u64]
  refine ⟨by omega, ?_, fun _ => rfl⟩
  unfold encI zig
  rw [if_neg h]
  congr 2; omega
theorem putI_neg {l0 : List Int} {n : Int} {f : Bool} (hn : i64P n) (h : n < 0) : putI l0 n f l0 (lxor .u64 (if IntKind.u64.signed then -1 else IntKind.u64.max) (shl .u64 (IntKind.u64.wrap n) 1)) := by
  unfold i64P at hn
  rw [wu64, shl1_u64, lnot_u64 (by omega)]
  refine ⟨by omega, ?_, fun _ => rfl⟩
  unfold encI zig
  rw [if_pos h]
  congr 2; omega
theorem blk_n8 {l l' : List Int} (h : l = l') : [none, some (Blk.arr (.int .u8) l)] = [none, some (Blk.arr (.int .u8) l')] := by rw [h]
def putS1 : Bool × List Int × Int → St := fun (f, l, u) => match f with
  | true => St.mk [.cell (.imm (.slice none 0 0)), .dead, .dead, .dead, .dead, .cell (iv .u64 u), .dead, .dead, .dead, .dead, .dead, .dead, .dead, .dead, .dead, .dead, .dead, .dead, .dead, .dead, .dead, .dead, .dead, .dead, .dead, .dead, .dead, .dead] []
  | false => St.mk [.cell (.own 0), .dead, .dead, .dead, .dead, .cell (iv .u64 u), .dead, .dead, .dead, .dead, .dead, .dead, .dead, .dead, .dead, .dead, .dead, .dead, .dead, .dead, .dead, .dead, .dead, .dead, .dead, .dead, .dead, .dead] [some (.arr (.int .u8) l)]
def putS2 : Bool × List Int × Int → St := fun (f, l, u) => match f with
  | true => St.mk [.cell (.own 0), .dead, .dead, .dead, .dead, .cell (iv .u64 u), .dead, .dead, .dead, .dead, .dead, .dead, .dead, .dead, .dead, .dead, .dead, .dead, .dead, .dead, .dead, .dead, .dead, .dead, .dead, .dead, .dead, .dead] [some (.arr (.int .u8) l)]
  | false => St.mk [.cell (.own 1), .dead, .dead, .dead, .dead, .cell (iv .u64 u), .dead, .dead, .dead, .dead, .dead, .dead, .dead, .dead, .dead, .dead, .dead, .dead, .dead, .dead, .dead, .dead, .dead, .dead, .dead, .dead, .dead, .dead] [none, some (.arr (.int .u8) l)]
set_option maxHeartbeats 4000000 in
theorem saveput_ok : GoodF Try.prog 87 putWS.spec := by
  have hT := tab_ok (fs := []) tree_ok
  have hP : SpecsOk Try.prog (tab tree []) := specs_nil
  refine putWS.good (fn := Try.f87) hT hP Try.func87 (by kernel_rfl) rfl (fun _ _ _ h => putRd_ok h) fun (x : PutX) hq => ?_
  obtain ⟨nil, l, n⟩ := x
  cases nil with
  | true =>
    obtain ⟨hn, hl, hx⟩ : putP ⟨true, l, n⟩ := hq _ rfl
    obtain rfl : l = [] := hx rfl
    clear hq
    repeat' first
      | (refine Go.mk ?_; conv => whnf)
      | refine Need.go ?_ ?_
      | refine NilG.go (fun _ => ?_) (fun _ => ?_)
      | refine Br.dec (fun _ => ?_) (fun _ => ?_)
      | refine Br.go (fun _ => ?_) (fun _ => ?_)
      | refine draw_go hT hP mixed ?_
      | refine round_go hT hP ?_
    all_goals first
      | exact of_decide_eq_true rfl
      | skip
    all_goals first
    | refine loop_go hT hP (X := Bool × List Int × Int) putS1 (fun (f, l, u) => putI [] n f l u) (fun (f, l, u) => u.toNat) (true, [], shl .u64 (IntKind.u64.wrap n) 1) (Le.mk [] [] rfl rfl (by exact rfl) (by repeat' first | exact trivial | exact ⟨rfl, rfl⟩ | refine And.intro ?_ ?_)) (putI_pos hn (by assumption)) fun (f, l', u) hi => ?_
    | refine loop_go hT hP (X := Bool × List Int × Int) putS1 (fun (f, l, u) => putI [] n f l u) (fun (f, l, u) => u.toNat) (true, [], lxor .u64 (if IntKind.u64.signed then -1 else IntKind.u64.max) (shl .u64 (IntKind.u64.wrap n) 1)) (Le.mk [] [] rfl rfl (by exact rfl) (by repeat' first | exact trivial | exact ⟨rfl, rfl⟩ | refine And.intro ?_ ?_)) (putI_neg hn (by assumption)) fun (f, l', u) hi => ?_
    all_goals
      have hlen := putI_len hn hi
      cases f with
      | true =>
        obtain rfl : l' = [] := hi.2.2 rfl
        repeat' first
          | (refine Go.mk ?_; conv => whnf)
          | refine Need.go ?_ ?_
          | refine NilG.go (fun _ => ?_) (fun _ => ?_)
          | refine Br.dec (fun _ => ?_) (fun _ => ?_)
          | refine Br.go (fun _ => ?_) (fun _ => ?_)
          | refine draw_go hT hP mixed ?_
          | refine round_go hT hP ?_
        all_goals first
          | exact of_decide_eq_true rfl
          | (show (l'.length + 1) * 1 ≤ 140737488355328
             simp only [List.length_nil] at hlen
             omega)
          | (rename_i h
             exact .mk [] [1] _ rfl rfl rfl rfl rfl (blk_u8 (putI_end hi h)) rfl)
          | (rename_i h
             have h : u ≥ 128 := h
             apply Exists.intro (false, _, _)
             refine And.intro ?_ (And.intro ?_ (Le.mk [] [1] rfl rfl ?hh ?ht))
             case hh => exact rfl
             case ht => repeat' first | exact trivial | exact ⟨rfl, rfl⟩ | refine And.intro ?_ ?_
             · exact putI_go hi h
             · show (shr .u64 u 7).toNat < u.toNat
               rw [shr7_u64]; omega)
          | skip
      | false =>
        repeat' first
          | (refine Go.mk ?_; conv => whnf)
          | refine Need.go ?_ ?_
          | refine NilG.go (fun _ => ?_) (fun _ => ?_)
          | refine Br.dec (fun _ => ?_) (fun _ => ?_)
          | refine Br.go (fun _ => ?_) (fun _ => ?_)
          | refine draw_go hT hP mixed ?_
          | refine round_go hT hP ?_
        all_goals first
          | exact of_decide_eq_true rfl
          | (show (l'.length + 1) * 1 ≤ 140737488355328
             simp only [List.length_nil] at hlen
             omega)
          | (rename_i h
             exact .mk [] [2] _ rfl rfl rfl rfl rfl (blk_u8 (putI_end hi h)) rfl)
          | (rename_i h
             have h : u ≥ 128 := h
             apply Exists.intro (false, _, _)
             refine And.intro ?_ (And.intro ?_ (Le.mk [] [2] rfl rfl ?hh ?ht))
             case hh => exact rfl
             case ht => repeat' first | exact trivial | exact ⟨rfl, rfl⟩ | refine And.intro ?_ ?_
             · exact putI_go hi h
             · show (shr .u64 u 7).toNat < u.toNat
               rw [shr7_u64]; omega)
          | skip
  | false =>
    obtain ⟨hn, hl, hx⟩ : putP ⟨false, l, n⟩ := hq _ rfl
    clear hq
    repeat' first
      | (refine Go.mk ?_; conv => whnf)
      | refine Need.go ?_ ?_
      | refine NilG.go (fun _ => ?_) (fun _ => ?_)
      | refine Br.dec (fun _ => ?_) (fun _ => ?_)
      | refine Br.go (fun _ => ?_) (fun _ => ?_)
      | refine draw_go hT hP mixed ?_
      | refine round_go hT hP ?_
    all_goals first
      | exact of_decide_eq_true rfl
      | skip
    all_goals first
    | refine loop_go hT hP (X := Bool × List Int × Int) putS2 (fun (f, l', u) => putI l n f l' u) (fun (f, l, u) => u.toNat) (true, l, shl .u64 (IntKind.u64.wrap n) 1) (Le.mk [] [0] rfl rfl (by exact rfl) (by repeat' first | exact trivial | exact ⟨rfl, rfl⟩ | refine And.intro ?_ ?_)) (putI_pos hn (by assumption)) fun (f, l', u) hi => ?_
    | refine loop_go hT hP (X := Bool × List Int × Int) putS2 (fun (f, l', u) => putI l n f l' u) (fun (f, l, u) => u.toNat) (true, l, lxor .u64 (if IntKind.u64.signed then -1 else IntKind.u64.max) (shl .u64 (IntKind.u64.wrap n) 1)) (Le.mk [] [0] rfl rfl (by exact rfl) (by repeat' first | exact trivial | exact ⟨rfl, rfl⟩ | refine And.intro ?_ ?_)) (putI_neg hn (by assumption)) fun (f, l', u) hi => ?_
    all_goals
      have hlen := putI_len hn hi
      cases f with
      | true =>
        obtain rfl : l' = l := hi.2.2 rfl
        repeat' first
          | (refine Go.mk ?_; conv => whnf)
          | refine Need.go ?_ ?_
          | refine NilG.go (fun _ => ?_) (fun _ => ?_)
          | refine Br.dec (fun _ => ?_) (fun _ => ?_)
          | refine Br.go (fun _ => ?_) (fun _ => ?_)
          | refine draw_go hT hP mixed ?_
          | refine round_go hT hP ?_
        all_goals first
          | exact of_decide_eq_true rfl
          | (show (l'.length + 1) * 1 ≤ 140737488355328
             have hl : l'.length ≤ 35184372088832 := hl
             omega)
          | (rename_i h
             exact .mk [] [0, 2] _ rfl rfl rfl rfl rfl (blk_n8 (putI_end hi h)) rfl)
          | (rename_i h
             have h : u ≥ 128 := h
             apply Exists.intro (false, _, _)
             refine And.intro ?_ (And.intro ?_ (Le.mk [] [0, 2] rfl rfl ?hh ?ht))
             case hh => exact rfl
             case ht => repeat' first | exact trivial | exact ⟨rfl, rfl⟩ | refine And.intro ?_ ?_
             · exact putI_go hi h
             · show (shr .u64 u 7).toNat < u.toNat
               rw [shr7_u64]; omega)
          | skip
      | false =>
        repeat' first
          | (refine Go.mk ?_; conv => whnf)
          | refine Need.go ?_ ?_
          | refine NilG.go (fun _ => ?_) (fun _ => ?_)
          | refine Br.dec (fun _ => ?_) (fun _ => ?_)
          | refine Br.go (fun _ => ?_) (fun _ => ?_)
          | refine draw_go hT hP mixed ?_
          | refine round_go hT hP ?_
        all_goals first
          | exact of_decide_eq_true rfl
          | (show (l'.length + 1) * 1 ≤ 140737488355328
             have hl : l.length ≤ 35184372088832 := hl
             omega)
          | (rename_i h
             exact .mk [] [0, 3] _ rfl rfl rfl rfl rfl (blk_n8 (putI_end hi h)) rfl)
          | (rename_i h
             have h : u ≥ 128 := h
             apply Exists.intro (false, _, _)
             refine And.intro ?_ (And.intro ?_ (Le.mk [] [0, 3] rfl rfl ?hh ?ht))
             case hh => exact rfl
             case ht => repeat' first | exact trivial | exact ⟨rfl, rfl⟩ | refine And.intro ?_ ?_
             · exact putI_go hi h
             · show (shr .u64 u 7).toNat < u.toNat
               rw [shr7_u64]; omega)
          | skip

def numI (n : Int) (l : List Int) (d u : Int) : Prop := (0 ≤ u ∧ u < 18446744073709551616) ∧ (0 ≤ d ∧ d < 128) ∧ l ++ tail7 d u.toNat = encI n
theorem numI_len {l : List Int} {n d u : Int} (hn : i64P n) (h : numI n l d u) : l.length + 1 ≤ 10 := by
  have h1 := congrArg List.length h.2.2
  rw [List.length_append] at h1
  have h3 := encI_len hn
  have h2 : 0 < (tail7 d u.toNat).length := by unfold tail7; split <;> simp
  omega
theorem set_last (l : List Int) (d v : Int) {i : Int} (h : i = (l.length : Int)) : (l ++ [d]).set i.toNat v = l ++ [v] := by
  subst h
  rw [Int.toNat_natCast, List.set_append, if_neg (by omega), Nat.sub_self]; rfl
theorem get_last (l : List Int) (d : Int) {i : Int} (h : i = (l.length : Int)) : (l ++ [d]).getD i.toNat 0 = d := by
  subst h
  rw [Int.toNat_natCast, List.getD_eq_getElem?_getD, List.getElem?_append_right (by omega), Nat.sub_self]; rfl
theorem last_i {l : List Int} {d : Int} (h : l.length ≤ 100) : IntKind.i64.wrap (((l ++ [d]).length : Int) - 1) = (l.length : Int) := by
  have e : ((l ++ [d]).length : Int) = (l.length : Int) + 1 := by simp
  rw [e, w64 (by omega) (by omega)]; omega
theorem numI_go {l : List Int} {n d u : Int} (h : numI n l d u) (hu : u > 0) : numI n (l ++ [lor .u8 d 128]) (IntKind.u8.wrap (land .u64 u 127)) (shr .u64 u 7) := by
  obtain ⟨h1, h2, h3⟩ := h
  have a1 : lor .u8 d 128 = d + 128 := by rw [or128_u8 _ h2.1 (by omega)]; omega
  have a2 : IntKind.u8.wrap (land .u64 u 127) = ((u.toNat % 128 : Nat) : Int) := by rw [land127_u64 h1, wu8]; omega
  have a3 : (shr .u64 u 7).toNat = u.toNat / 128 := by rw [shr7_u64]; omega
  refine ⟨by rw [shr7_u64]; omega, by rw [a2]; omega, ?_⟩
  rw [a1, a2, a3, ← h3, tail7_go (u := u.toNat) (d := d) (by omega), List.append_assoc]; rfl
theorem numI_end {l : List Int} {n d u : Int} (h : numI n l d u) (hu : ¬ u > 0) : l ++ [d] = encI n := by
  obtain ⟨h1, h2, h3⟩ := h
  rw [← h3, tail7, if_pos (by omega)]
theorem num_hh {l : List Int} {d : Int} (h : l.length ≤ 100) : (l ++ [d]).set (IntKind.i64.wrap (((l ++ [d]).length : Int) - 1)).toNat (lor .u8 ((l ++ [d]).getD (IntKind.i64.wrap (((l ++ [d]).length : Int) - 1)).toNat 0) 128) = l ++ [lor .u8 d 128] := by
  rw [get_last l d (last_i h), set_last l d _ (last_i h)]
theorem numI_start {n U : Int} {b : Nat} (hb : b < 2) (hU : 0 ≤ U ∧ U < 9223372036854775808) (he : zig n = 2 * U.toNat + b) : numI n [] (U % 64 * 2 + b) (U / 64) := by
  refine ⟨by omega, by omega, ?_⟩
  show tail7 _ _ = enc7 _
  have e1 : U % 64 * 2 + (b : Int) = ((U.toNat % 64 * 2 + b : Nat) : Int) := by omega
  have e2 : (U / 64).toNat = U.toNat / 64 := by omega
  rw [he, ← tail7_first U.toNat b hb, e1, e2]
theorem numI_pos {n : Int} (hn : i64P n) (h : ¬ n < 0) : numI n [] (shl .u8 (IntKind.u8.wrap (land .u64 (IntKind.u64.wrap n) 63)) 1) (shr .u64 (IntKind.u64.wrap n) 6) := by
  unfold i64P at hn
  have e : IntKind.u64.wrap n = n := by rw [wu64]; omega
  have a1 : shl .u8 (IntKind.u8.wrap (land .u64 (IntKind.u64.wrap n) 63)) 1 = n % 64 * 2 + ((0 : Nat) : Int) := by rw [e, land63_u64 (by omega), wu8, shl1_u8]; omega
  rw [a1, e, shr6_u64]
  exact numI_start (by decide) (by omega) (by unfold zig; rw [if_neg h]; omega)
theorem numI_neg {n : Int} (hn : i64P n) (h : n < 0) : numI n [] (IntKind.u8.wrap (shl .u8 (IntKind.u8.wrap (land .u64 (IntKind.u64.wrap (IntKind.i64.wrap (0 - IntKind.i64.wrap (n + 1)))) 63)) 1 + 1)) (shr .u64 (IntKind.u64.wrap (IntKind.i64.wrap (0 - IntKind.i64.wrap (n + 1)))) 6) := by
  unfold i64P at hn
  have e : IntKind.u64.wrap (IntKind.i64.wrap (0 - IntKind.i64.wrap (n + 1))) = -n - 1 := by
    rw [w64 (x := n + 1) (by omega) (by omega), w64 (by omega) (by omega), wu64]; omega
  have a1 : IntKind.u8.wrap (shl .u8 (IntKind.u8.wrap (land .u64 (IntKind.u64.wrap (IntKind.i64.wrap (0 - IntKind.i64.wrap (n + 1)))) 63)) 1 + 1) = (-n - 1) % 64 * 2 + ((1 : Nat) : Int) := by rw [e, land63_u64 (by omega), wu8, wu8, shl1_u8]; omega
  rw [a1, e, shr6_u64]
  exact numI_start (by decide) (by omega) (by unfold zig; rw [if_pos h]; omega)
def num7S : PSpec := ⟨[gi], fun (n, _) => (some (i64P n), .cell (.own 0), [.arr (.int .u8) (encI n)])⟩
set_option maxHeartbeats 4000000 in
theorem num7_ok : GoodF Try.prog 90 num7S.spec := by
  have hT := tab_ok (fs := []) tree_ok
  have hP : SpecsOk Try.prog (tab tree []) := specs_nil
  refine num7S.good (fn := Try.f90) hT hP Try.func90 (by kernel_rfl) rfl fun (n : Int) hq => ?_
  have hn : i64P n := hq _ rfl
  clear hq
  have hn' := hn
  unfold i64P at hn'
  repeat' first
    | (refine Go.mk ?_; conv => whnf)
    | refine Need.go ?_ ?_
    | refine NilG.go (fun _ => ?_) (fun _ => ?_)
    | refine Br.dec (fun _ => ?_) (fun _ => ?_)
    | refine Br.go (fun _ => ?_) (fun _ => ?_)
    | refine draw_go hT hP mixed ?_
    | refine round_go hT hP ?_
  all_goals first
    | exact of_decide_eq_true rfl
    | skip
  all_goals first
    | (exfalso; simp_all; done)
    | refine loop_go hT hP (X := List Int × Int × Int) (fun (l, d, u) => St.mk [.dead, .dead, .dead, .cell (.own 0), .cell (iv .u64 u), .dead, .dead, .dead, .dead, .dead, .dead, .dead, .dead, .dead, .dead, .dead, .dead, .dead, .dead, .dead, .dead, .dead, .dead, .dead, .dead, .dead, .dead, .dead, .dead, .dead, .dead, .dead, .dead, .dead, .dead, .dead, .dead, .dead, .dead, .dead, .dead, .dead, .dead, .dead, .dead, .dead, .dead, .dead] [some (.arr (.int .u8) (l ++ [d]))]) (fun (l, d, u) => numI n l d u) (fun (l, d, u) => u.toNat) ([], shl .u8 (IntKind.u8.wrap (land .u64 (IntKind.u64.wrap n) 63)) 1, shr .u64 (IntKind.u64.wrap n) 6) (Le.mk [] [1] rfl rfl (by exact rfl) (by repeat' first | exact trivial | exact ⟨rfl, rfl⟩ | refine And.intro ?_ ?_)) (numI_pos hn (by assumption)) fun (l, d, u) hi => ?_
    | refine loop_go hT hP (X := List Int × Int × Int) (fun (l, d, u) => St.mk [.dead, .dead, .dead, .cell (.own 0), .cell (iv .u64 u), .dead, .dead, .dead, .dead, .dead, .dead, .dead, .dead, .dead, .dead, .dead, .dead, .dead, .dead, .dead, .dead, .dead, .dead, .dead, .dead, .dead, .dead, .dead, .dead, .dead, .dead, .dead, .dead, .dead, .dead, .dead, .dead, .dead, .dead, .dead, .dead, .dead, .dead, .dead, .dead, .dead, .dead, .dead] [some (.arr (.int .u8) (l ++ [d]))]) (fun (l, d, u) => numI n l d u) (fun (l, d, u) => u.toNat) ([], IntKind.u8.wrap (shl .u8 (IntKind.u8.wrap (land .u64 (IntKind.u64.wrap (IntKind.i64.wrap (0 - IntKind.i64.wrap (n + 1)))) 63)) 1 + 1), shr .u64 (IntKind.u64.wrap (IntKind.i64.wrap (0 - IntKind.i64.wrap (n + 1)))) 6) (Le.mk [] [1] rfl rfl (by exact rfl) (by repeat' first | exact trivial | exact ⟨rfl, rfl⟩ | refine And.intro ?_ ?_)) (numI_neg hn (by assumption)) fun (l, d, u) hi => ?_
  all_goals
    have hlen := numI_len hn hi
    have hla := last_i (l := l) (d := d) (by omega)
    repeat' first
      | (refine Go.mk ?_; conv => whnf)
      | refine Need.go ?_ ?_
      | refine NilG.go (fun _ => ?_) (fun _ => ?_)
      | refine Br.dec (fun _ => ?_) (fun _ => ?_)
      | refine Br.go (fun _ => ?_) (fun _ => ?_)
      | refine draw_go hT hP mixed ?_
      | refine round_go hT hP ?_
  all_goals
    have hL : (l ++ [d]).length = l.length + 1 := by simp
  all_goals first
    | exact of_decide_eq_true rfl
    | (show 0 ≤ IntKind.i64.wrap (((l ++ [d]).length : Int) - 1) ∧ IntKind.i64.wrap (((l ++ [d]).length : Int) - 1) < (((l ++ [d]).length : Nat) : Int)
       rw [hla, hL]; omega)
    | (show (IntKind.i64.wrap (((l ++ [d]).length : Int) - 1)).toNat < (l ++ [d]).length
       rw [hla, hL]; omega)
    | (rw [List.length_set]
       show ((l ++ [d]).length + 1) * 1 ≤ 140737488355328
       rw [hL]; omega)
    | (rename_i h
       have h : u > 0 := h
       apply Exists.intro (l ++ [lor .u8 d 128], IntKind.u8.wrap (land .u64 u 127), shr .u64 u 7)
       refine And.intro ?_ (And.intro ?_ (Le.mk [] [2] rfl rfl ?hh ?ht))
       case hh => exact blk_u8 (congrArg (· ++ [IntKind.u8.wrap (land .u64 u 127)]) (num_hh (by omega)))
       case ht => repeat' first | exact trivial | exact ⟨rfl, rfl⟩ | refine And.intro ?_ ?_
       · exact numI_go hi h
       · show (shr .u64 u 7).toNat < u.toNat
         rw [shr7_u64]; omega)
    | (rename_i h
       exact .mk [] [0] _ rfl rfl rfl rfl rfl (blk_u8 (numI_end hi h)) rfl)
    | skip

end Go.Proofs.Ytanaaecfghmmaaa

/- A machine's state as bytes: the reference's helper. -/
namespace Go.Proofs.Ytanaaecfghmmaaa
open Go.Fw
set_option linter.unusedVariables false
set_option linter.unusedSimpArgs false
set_option linter.constructorNameAsVariable false
set_option maxRecDepth 100000

theorem getD_mem {l : List Int} {k : Nat} (h : k < l.length) : l.getD k 0 ∈ l := by
  rw [List.getD_eq_getElem?_getD, List.getElem?_eq_getElem h]
  exact List.getElem_mem h
theorem encAll_take {l : List Int} {k : Nat} (h : k < l.length) : encAll (l.take (k + 1)) = encAll (l.take k) ++ encI (l.getD k 0) := by
  rw [List.take_add_one, encAll_append, List.getD_eq_getElem?_getD, List.getElem?_eq_getElem h]
  simp [encAll]
theorem encAll_take_len {l : List Int} (h : ∀ n ∈ l, i64P n) (k : Nat) : (encAll (l.take k)).length ≤ 10 * l.length := by
  have h1 := encAll_len (l := l.take k) fun n hn => h n (List.mem_of_mem_take hn)
  have h2 : (l.take k).length ≤ l.length := by rw [List.length_take]; omega
  omega

inductive AddX where
  | N0 (l : List Int)
  | O1 (l o : List Int)
  | R1 (l o : List Int)
def AddX.l : AddX → List Int
  | .N0 l => l
  | .O1 l _ => l
  | .R1 l _ => l
def AddX.out : AddX → List Int
  | .N0 _ => []
  | .O1 _ o => o
  | .R1 _ o => o
def addRd : List V1 → List Blk → Option AddX := fun a b => match a, b with
  | [.c (.own 0), .c (.ptr 1 0)], [.arr (.int .i64) l, .var [.imm (.slice none 0 0)]] => some (.N0 l)
  | [.c (.own 0), .c (.ptr 1 0)], [.arr (.int .i64) l, .var [.own 2], .arr (.int .u8) o] => some (.O1 l o)
  | [.c (.ro (.int .i64) l), .c (.ptr 0 0)], [.var [.own 1], .arr (.int .u8) o] => some (.R1 l o)
  | _, _ => none
def addArgs : AddX → List V1
  | .N0 l => [.c (.own 0), .c (.ptr 1 0)]
  | .O1 l o => [.c (.own 0), .c (.ptr 1 0)]
  | .R1 l o => [.c (.ro (.int .i64) l), .c (.ptr 0 0)]
def addBl : AddX → List Blk
  | .N0 l => [.arr (.int .i64) l, .var [.imm (.slice none 0 0)]]
  | .O1 l o => [.arr (.int .i64) l, .var [.own 2], .arr (.int .u8) o]
  | .R1 l o => [.var [.own 1], .arr (.int .u8) o]
theorem addRd_ok {a : List V1} {b : List Blk} {x : AddX} (h : addRd a b = some x) : a = addArgs x ∧ b = addBl x := by
  unfold addRd at h
  split at h
  · injection h with h; subst h; exact ⟨rfl, rfl⟩
  · injection h with h; subst h; exact ⟨rfl, rfl⟩
  · injection h with h; subst h; exact ⟨rfl, rfl⟩
  · cases h
def addP (x : AddX) : Prop := (∀ n ∈ x.l, i64P n) ∧ x.out.length + 10 * x.l.length ≤ 35184372088832
def addOut (x : AddX) : Option Prop × AV × List (Option Blk) × List Blk := match x with
  | .N0 l => match l with
    | [] => (some (addP x), .tup [], [some (.arr (.int .i64) l), some (.var [.imm (.slice none 0 0)])], [])
    | _ :: _ => (some (addP x), .tup [], [some (.arr (.int .i64) l), some (.var [.own 2])], [.arr (.int .u8) (encAll l)])
  | .O1 l o => match l with
    | [] => (some (addP x), .tup [], [some (.arr (.int .i64) l), some (.var [.own 2]), some (.arr (.int .u8) o)], [])
    | _ :: _ => (some (addP x), .tup [], [some (.arr (.int .i64) l), some (.var [.own 3]), none], [.arr (.int .u8) (o ++ encAll l)])
  | .R1 l o => match l with
    | [] => (some (addP x), .tup [], [some (.var [.own 1]), some (.arr (.int .u8) o)], [])
    | _ :: _ => (some (addP x), .tup [], [some (.var [.own 2]), none], [.arr (.int .u8) (o ++ encAll l)])
def addWS : WSpec := ⟨AddX, addArgs, addBl, addRd, addOut⟩
def pkAddS : AddX → Bool × Int × List Int → St := fun x (f, i, o') => match x with
  | .N0 l => match f with
    | true => St.mk [.dead, .cell (.ptr 1 0), .dead, .dead, .dead, .cell (.own 0), I (l.length : Int), I i, .dead, .dead, .dead, .dead, .dead, .dead, .dead, .dead] [some (.arr (.int .i64) l), some (.var [.imm (.slice none 0 0)])]
    | false => St.mk [.dead, .cell (.ptr 1 0), .dead, .dead, .dead, .cell (.own 0), I (l.length : Int), I i, .dead, .dead, .dead, .dead, .dead, .dead, .dead, .dead] [some (.arr (.int .i64) l), some (.var [.own 2]), some (.arr (.int .u8) o')]
  | .O1 l o => match f with
    | true => St.mk [.dead, .cell (.ptr 1 0), .dead, .dead, .dead, .cell (.own 0), I (l.length : Int), I i, .dead, .dead, .dead, .dead, .dead, .dead, .dead, .dead] [some (.arr (.int .i64) l), some (.var [.own 2]), some (.arr (.int .u8) o')]
    | false => St.mk [.dead, .cell (.ptr 1 0), .dead, .dead, .dead, .cell (.own 0), I (l.length : Int), I i, .dead, .dead, .dead, .dead, .dead, .dead, .dead, .dead] [some (.arr (.int .i64) l), some (.var [.own 3]), none, some (.arr (.int .u8) o')]
  | .R1 l o => match f with
    | true => St.mk [.dead, .cell (.ptr 0 0), .dead, .dead, .dead, .cell (.ro (.int .i64) l), I (l.length : Int), I i, .dead, .dead, .dead, .dead, .dead, .dead, .dead, .dead] [some (.var [.own 1]), some (.arr (.int .u8) o')]
    | false => St.mk [.dead, .cell (.ptr 0 0), .dead, .dead, .dead, .cell (.ro (.int .i64) l), I (l.length : Int), I i, .dead, .dead, .dead, .dead, .dead, .dead, .dead, .dead] [some (.var [.own 2]), none, some (.arr (.int .u8) o')]
def addI (x : AddX) : Bool × Int × List Int → Prop := fun (f, i, o') => ∃ k : Nat, i = k ∧ k ≤ x.l.length ∧ o' = x.out ++ encAll (x.l.take k) ∧ (f = true ↔ k = 0)
def addM (x : AddX) : Bool × Int × List Int → Nat := fun (f, i, o') => ((x.l.length : Int) - i).toNat
theorem addI_go {x : AddX} {f : Bool} {k : Nat} {o' : List Int} (hk : k < x.l.length) (ho : o' = x.out ++ encAll (x.l.take k)) (hl : k ≤ 4611686018427387904) : addI x (false, IntKind.i64.wrap ((k : Int) + 1), o' ++ encI (x.l.getD k 0)) :=
  ⟨k + 1, up_i hl, hk, by rw [ho, encAll_take hk, List.append_assoc], by simp⟩
set_option maxHeartbeats 8000000 in
theorem pkAdd_ok : GoodF Try.prog 89 addWS.spec := by
  have hT := tab_ok (fs := [(90, num7S.spec)]) tree_ok
  have hP : SpecsOk Try.prog (tab tree [(90, num7S.spec)]) := specs_cons num7_ok specs_nil
  refine addWS.good (fn := Try.f89) hT hP Try.func89 (by kernel_rfl) rfl (fun _ _ _ h => addRd_ok h) fun (x : AddX) hq => ?_
  have hp : addP x := by
    cases x with
    | N0 l => cases l <;> exact hq _ rfl
    | O1 l o => cases l <;> exact hq _ rfl
    | R1 l o => cases l <;> exact hq _ rfl
  clear hq
  obtain ⟨h1, h2⟩ := hp
  cases x with
  | N0 l =>
    have h1 : ∀ n ∈ l, i64P n := h1
    have h2 : ([] : List Int).length + 10 * l.length ≤ 35184372088832 := h2
    repeat' first
      | (refine Go.mk ?_; conv => whnf)
      | refine Need.go ?_ ?_
      | refine NilG.go (fun _ => ?_) (fun _ => ?_)
      | refine Br.dec (fun _ => ?_) (fun _ => ?_)
      | refine Br.go (fun _ => ?_) (fun _ => ?_)
      | refine draw_go hT hP mixed ?_
      | refine round_go hT hP ?_
    all_goals first
      | exact of_decide_eq_true rfl
      | skip
    refine loop_go hT hP (X := Bool × Int × List Int) (pkAddS (.N0 l)) (addI (.N0 l)) (addM (.N0 l)) (true, 0, ([] : List Int)) (Le.mk [] [0, 1] rfl rfl ?_ ?_) ?_ fun (f, i, o') hi => ?_
    · exact rfl
    · repeat' first | exact trivial | exact ⟨rfl, rfl⟩ | refine And.intro ?_ ?_
    · exact ⟨0, rfl, Nat.zero_le _, by simp [encAll, AddX.out], by simp⟩
    obtain ⟨k, rfl, hk, ho, hf⟩ := hi
    have hk : k ≤ l.length := hk
    have ho : o' = ([] : List Int) ++ encAll (l.take k) := ho
    have hlo : o'.length ≤ ([] : List Int).length + 10 * l.length := by rw [ho, List.length_append]; have := encAll_take_len h1 k; omega
    cases f with
    | true =>
      obtain rfl : k = 0 := hf.1 rfl
      have ho2 : o' = ([] : List Int) := by rw [ho]; simp [encAll]
      repeat' first
        | (refine Go.mk ?_; conv => whnf)
        | refine Need.go ?_ ?_
        | refine NilG.go (fun _ => ?_) (fun _ => ?_)
        | refine Br.dec (fun _ => ?_) (fun _ => ?_)
        | refine Br.go (fun _ => ?_) (fun _ => ?_)
        | refine draw_go hT hP mixed ?_
        | refine round_go hT hP ?_
      all_goals first
        | exact of_decide_eq_true rfl
        | (show 0 ≤ ((0 : Nat) : Int) ∧ ((0 : Nat) : Int) < (l.length : Int)
           omega)
        | (show (((0 : Nat) : Int)).toNat < l.length
           omega)
        | (rename_i h
           have h : ((0 : Nat) : Int) < (l.length : Int) := h
           exact h1 _ (getD_mem (k := 0) (by omega)))
        | (rename_i h
           have h : ((0 : Nat) : Int) < (l.length : Int) := h
           have hz := encI_len (h1 _ (getD_mem (k := 0) (by omega)))
           show ((encI (l.getD 0 0)).length) * 1 ≤ 140737488355328
           omega)
        | (rename_i h
           have h : ((0 : Nat) : Int) < (l.length : Int) := h
           apply Exists.intro (false, _, _)
           refine And.intro ?_ (And.intro ?_ (Le.mk [] [0, 1, 3] rfl rfl ?hh ?ht))
           case hh => exact rfl
           case ht => repeat' first | exact trivial | exact ⟨rfl, rfl⟩ | refine And.intro ?_ ?_
           · exact addI_go (x := .N0 l) (f := true) (k := 0) (o' := []) (by show 0 < l.length; omega) (by simp [encAll, AddX.out]) (by omega)
           · show ((l.length : Int) - IntKind.i64.wrap (((0 : Nat) : Int) + 1)).toNat < ((l.length : Int) - ((0 : Nat) : Int)).toNat
             rw [up_i (by omega)]; omega)
        | (rename_i h
           have h : ¬ ((0 : Nat) : Int) < (l.length : Int) := h
           obtain rfl : l = [] := List.eq_nil_of_length_eq_zero (by omega)
           subst ho2
           exact .mk [] [0, 1] _ rfl rfl rfl rfl rfl rfl rfl)
        | skip
    | false =>
      repeat' first
        | (refine Go.mk ?_; conv => whnf)
        | refine Need.go ?_ ?_
        | refine NilG.go (fun _ => ?_) (fun _ => ?_)
        | refine Br.dec (fun _ => ?_) (fun _ => ?_)
        | refine Br.go (fun _ => ?_) (fun _ => ?_)
        | refine draw_go hT hP mixed ?_
        | refine round_go hT hP ?_
      all_goals first
        | exact of_decide_eq_true rfl
        | (show 0 ≤ (k : Int) ∧ (k : Int) < (l.length : Int)
           omega)
        | (show ((k : Int)).toNat < l.length
           omega)
        | (rename_i h
           have h : (k : Int) < (l.length : Int) := h
           exact h1 _ (getD_mem (k := k) (by omega)))
        | (rename_i h
           have h : (k : Int) < (l.length : Int) := h
           have hz := encI_len (h1 _ (getD_mem (k := k) (by omega)))
           show (o'.length + (encI (l.getD k 0)).length) * 1 ≤ 140737488355328
           omega)
        | (rename_i h
           have h : (k : Int) < (l.length : Int) := h
           apply Exists.intro (false, _, _)
           refine And.intro ?_ (And.intro ?_ (Le.mk [] [0, 1, 4] rfl rfl ?hh ?ht))
           case hh => exact rfl
           case ht => repeat' first | exact trivial | exact ⟨rfl, rfl⟩ | refine And.intro ?_ ?_
           · exact addI_go (x := .N0 l) (f := false) (k := k) (by show k < l.length; omega) ho (by omega)
           · show ((l.length : Int) - IntKind.i64.wrap ((k : Int) + 1)).toNat < ((l.length : Int) - (k : Int)).toNat
             rw [up_i (by omega)]; omega)
        | (rename_i h
           have h : ¬ (k : Int) < (l.length : Int) := h
           rw [List.take_of_length_le (by omega)] at ho
           subst ho
           cases l with
           | nil => exact absurd (hf.2 (by simp at hk; omega)) (by decide)
           | cons a r => exact .mk [] [0, 1, 2] _ rfl rfl rfl rfl rfl rfl rfl)
        | skip
  | O1 l o =>
    have h1 : ∀ n ∈ l, i64P n := h1
    have h2 : o.length + 10 * l.length ≤ 35184372088832 := h2
    repeat' first
      | (refine Go.mk ?_; conv => whnf)
      | refine Need.go ?_ ?_
      | refine NilG.go (fun _ => ?_) (fun _ => ?_)
      | refine Br.dec (fun _ => ?_) (fun _ => ?_)
      | refine Br.go (fun _ => ?_) (fun _ => ?_)
      | refine draw_go hT hP mixed ?_
      | refine round_go hT hP ?_
    all_goals first
      | exact of_decide_eq_true rfl
      | skip
    refine loop_go hT hP (X := Bool × Int × List Int) (pkAddS (.O1 l o)) (addI (.O1 l o)) (addM (.O1 l o)) (true, 0, o) (Le.mk [] [0, 1, 2] rfl rfl ?_ ?_) ?_ fun (f, i, o') hi => ?_
    · exact rfl
    · repeat' first | exact trivial | exact ⟨rfl, rfl⟩ | refine And.intro ?_ ?_
    · exact ⟨0, rfl, Nat.zero_le _, by simp [encAll, AddX.out], by simp⟩
    obtain ⟨k, rfl, hk, ho, hf⟩ := hi
    have hk : k ≤ l.length := hk
    have ho : o' = o ++ encAll (l.take k) := ho
    have hlo : o'.length ≤ o.length + 10 * l.length := by rw [ho, List.length_append]; have := encAll_take_len h1 k; omega
    cases f with
    | true =>
      obtain rfl : k = 0 := hf.1 rfl
      have ho2 : o' = o := by rw [ho]; simp [encAll]
      repeat' first
        | (refine Go.mk ?_; conv => whnf)
        | refine Need.go ?_ ?_
        | refine NilG.go (fun _ => ?_) (fun _ => ?_)
        | refine Br.dec (fun _ => ?_) (fun _ => ?_)
        | refine Br.go (fun _ => ?_) (fun _ => ?_)
        | refine draw_go hT hP mixed ?_
        | refine round_go hT hP ?_
      all_goals first
        | exact of_decide_eq_true rfl
        | (show 0 ≤ ((0 : Nat) : Int) ∧ ((0 : Nat) : Int) < (l.length : Int)
           omega)
        | (show (((0 : Nat) : Int)).toNat < l.length
           omega)
        | (rename_i h
           have h : ((0 : Nat) : Int) < (l.length : Int) := h
           exact h1 _ (getD_mem (k := 0) (by omega)))
        | (rename_i h
           have h : ((0 : Nat) : Int) < (l.length : Int) := h
           have hz := encI_len (h1 _ (getD_mem (k := 0) (by omega)))
           show (o'.length + (encI (l.getD 0 0)).length) * 1 ≤ 140737488355328
           omega)
        | (rename_i h
           have h : ((0 : Nat) : Int) < (l.length : Int) := h
           apply Exists.intro (false, _, _)
           refine And.intro ?_ (And.intro ?_ (Le.mk [] [0, 1, 2, 4] rfl rfl ?hh ?ht))
           case hh => exact rfl
           case ht => repeat' first | exact trivial | exact ⟨rfl, rfl⟩ | refine And.intro ?_ ?_
           · exact addI_go (x := .O1 l o) (f := true) (k := 0) (by show 0 < l.length; omega) ho (by omega)
           · show ((l.length : Int) - IntKind.i64.wrap (((0 : Nat) : Int) + 1)).toNat < ((l.length : Int) - ((0 : Nat) : Int)).toNat
             rw [up_i (by omega)]; omega)
        | (rename_i h
           have h : ¬ ((0 : Nat) : Int) < (l.length : Int) := h
           obtain rfl : l = [] := List.eq_nil_of_length_eq_zero (by omega)
           subst ho2
           exact .mk [] [0, 1, 2] _ rfl rfl rfl rfl rfl rfl rfl)
        | skip
    | false =>
      repeat' first
        | (refine Go.mk ?_; conv => whnf)
        | refine Need.go ?_ ?_
        | refine NilG.go (fun _ => ?_) (fun _ => ?_)
        | refine Br.dec (fun _ => ?_) (fun _ => ?_)
        | refine Br.go (fun _ => ?_) (fun _ => ?_)
        | refine draw_go hT hP mixed ?_
        | refine round_go hT hP ?_
      all_goals first
        | exact of_decide_eq_true rfl
        | (show 0 ≤ (k : Int) ∧ (k : Int) < (l.length : Int)
           omega)
        | (show ((k : Int)).toNat < l.length
           omega)
        | (rename_i h
           have h : (k : Int) < (l.length : Int) := h
           exact h1 _ (getD_mem (k := k) (by omega)))
        | (rename_i h
           have h : (k : Int) < (l.length : Int) := h
           have hz := encI_len (h1 _ (getD_mem (k := k) (by omega)))
           show (o'.length + (encI (l.getD k 0)).length) * 1 ≤ 140737488355328
           omega)
        | (rename_i h
           have h : (k : Int) < (l.length : Int) := h
           apply Exists.intro (false, _, _)
           refine And.intro ?_ (And.intro ?_ (Le.mk [] [0, 1, 2, 5] rfl rfl ?hh ?ht))
           case hh => exact rfl
           case ht => repeat' first | exact trivial | exact ⟨rfl, rfl⟩ | refine And.intro ?_ ?_
           · exact addI_go (x := .O1 l o) (f := false) (k := k) (by show k < l.length; omega) ho (by omega)
           · show ((l.length : Int) - IntKind.i64.wrap ((k : Int) + 1)).toNat < ((l.length : Int) - (k : Int)).toNat
             rw [up_i (by omega)]; omega)
        | (rename_i h
           have h : ¬ (k : Int) < (l.length : Int) := h
           rw [List.take_of_length_le (by omega)] at ho
           subst ho
           cases l with
           | nil => exact absurd (hf.2 (by simp at hk; omega)) (by decide)
           | cons a r => exact .mk [] [0, 1, 2, 3] _ rfl rfl rfl rfl rfl rfl rfl)
        | skip
  | R1 l o =>
    have h1 : ∀ n ∈ l, i64P n := h1
    have h2 : o.length + 10 * l.length ≤ 35184372088832 := h2
    repeat' first
      | (refine Go.mk ?_; conv => whnf)
      | refine Need.go ?_ ?_
      | refine NilG.go (fun _ => ?_) (fun _ => ?_)
      | refine Br.dec (fun _ => ?_) (fun _ => ?_)
      | refine Br.go (fun _ => ?_) (fun _ => ?_)
      | refine draw_go hT hP mixed ?_
      | refine round_go hT hP ?_
    all_goals first
      | exact of_decide_eq_true rfl
      | skip
    refine loop_go hT hP (X := Bool × Int × List Int) (pkAddS (.R1 l o)) (addI (.R1 l o)) (addM (.R1 l o)) (true, 0, o) (Le.mk [] [0, 1] rfl rfl ?_ ?_) ?_ fun (f, i, o') hi => ?_
    · exact rfl
    · repeat' first | exact trivial | exact ⟨rfl, rfl⟩ | refine And.intro ?_ ?_
    · exact ⟨0, rfl, Nat.zero_le _, by simp [encAll, AddX.out], by simp⟩
    obtain ⟨k, rfl, hk, ho, hf⟩ := hi
    have hk : k ≤ l.length := hk
    have ho : o' = o ++ encAll (l.take k) := ho
    have hlo : o'.length ≤ o.length + 10 * l.length := by rw [ho, List.length_append]; have := encAll_take_len h1 k; omega
    cases f with
    | true =>
      obtain rfl : k = 0 := hf.1 rfl
      have ho2 : o' = o := by rw [ho]; simp [encAll]
      repeat' first
        | (refine Go.mk ?_; conv => whnf)
        | refine Need.go ?_ ?_
        | refine NilG.go (fun _ => ?_) (fun _ => ?_)
        | refine Br.dec (fun _ => ?_) (fun _ => ?_)
        | refine Br.go (fun _ => ?_) (fun _ => ?_)
        | refine draw_go hT hP mixed ?_
        | refine round_go hT hP ?_
      all_goals first
        | exact of_decide_eq_true rfl
        | (show 0 ≤ ((0 : Nat) : Int) ∧ ((0 : Nat) : Int) < (l.length : Int)
           omega)
        | (show (((0 : Nat) : Int)).toNat < l.length
           omega)
        | (rename_i h
           have h : ((0 : Nat) : Int) < (l.length : Int) := h
           exact h1 _ (getD_mem (k := 0) (by omega)))
        | (rename_i h
           have h : ((0 : Nat) : Int) < (l.length : Int) := h
           have hz := encI_len (h1 _ (getD_mem (k := 0) (by omega)))
           show (o'.length + (encI (l.getD 0 0)).length) * 1 ≤ 140737488355328
           omega)
        | (rename_i h
           have h : ((0 : Nat) : Int) < (l.length : Int) := h
           apply Exists.intro (false, _, _)
           refine And.intro ?_ (And.intro ?_ (Le.mk [] [0, 1, 3] rfl rfl ?hh ?ht))
           case hh => exact rfl
           case ht => repeat' first | exact trivial | exact ⟨rfl, rfl⟩ | refine And.intro ?_ ?_
           · exact addI_go (x := .R1 l o) (f := true) (k := 0) (by show 0 < l.length; omega) ho (by omega)
           · show ((l.length : Int) - IntKind.i64.wrap (((0 : Nat) : Int) + 1)).toNat < ((l.length : Int) - ((0 : Nat) : Int)).toNat
             rw [up_i (by omega)]; omega)
        | (rename_i h
           have h : ¬ ((0 : Nat) : Int) < (l.length : Int) := h
           obtain rfl : l = [] := List.eq_nil_of_length_eq_zero (by omega)
           subst ho2
           exact .mk [] [0, 1] _ rfl rfl rfl rfl rfl rfl rfl)
        | skip
    | false =>
      repeat' first
        | (refine Go.mk ?_; conv => whnf)
        | refine Need.go ?_ ?_
        | refine NilG.go (fun _ => ?_) (fun _ => ?_)
        | refine Br.dec (fun _ => ?_) (fun _ => ?_)
        | refine Br.go (fun _ => ?_) (fun _ => ?_)
        | refine draw_go hT hP mixed ?_
        | refine round_go hT hP ?_
      all_goals first
        | exact of_decide_eq_true rfl
        | (show 0 ≤ (k : Int) ∧ (k : Int) < (l.length : Int)
           omega)
        | (show ((k : Int)).toNat < l.length
           omega)
        | (rename_i h
           have h : (k : Int) < (l.length : Int) := h
           exact h1 _ (getD_mem (k := k) (by omega)))
        | (rename_i h
           have h : (k : Int) < (l.length : Int) := h
           have hz := encI_len (h1 _ (getD_mem (k := k) (by omega)))
           show (o'.length + (encI (l.getD k 0)).length) * 1 ≤ 140737488355328
           omega)
        | (rename_i h
           have h : (k : Int) < (l.length : Int) := h
           apply Exists.intro (false, _, _)
           refine And.intro ?_ (And.intro ?_ (Le.mk [] [0, 1, 4] rfl rfl ?hh ?ht))
           case hh => exact rfl
           case ht => repeat' first | exact trivial | exact ⟨rfl, rfl⟩ | refine And.intro ?_ ?_
           · exact addI_go (x := .R1 l o) (f := false) (k := k) (by show k < l.length; omega) ho (by omega)
           · show ((l.length : Int) - IntKind.i64.wrap ((k : Int) + 1)).toNat < ((l.length : Int) - (k : Int)).toNat
             rw [up_i (by omega)]; omega)
        | (rename_i h
           have h : ¬ (k : Int) < (l.length : Int) := h
           rw [List.take_of_length_le (by omega)] at ho
           subst ho
           cases l with
           | nil => exact absurd (hf.2 (by simp at hk; omega)) (by decide)
           | cons a r => exact .mk [] [0, 1, 2] _ rfl rfl rfl rfl rfl rfl rfl)
        | skip

end Go.Proofs.Ytanaaecfghmmaaa

/- A machine's state as bytes: the reference. -/
namespace Go.Proofs.Ytanaaecfghmmaaa
open Go.Fw
set_option linter.unusedVariables false
set_option linter.unusedSimpArgs false
set_option linter.constructorNameAsVariable false
set_option maxRecDepth 100000

abbrev DevT : Ty := .pair (.sl (.int .i64)) (.sl (.int .u8))
abbrev MachT : Ty := .pair (.int .i64) (.pair CoreT (.pair (.sl DevT) (.pair (.int .i64) (.pair (.int .i64) (.int .i64)))))
abbrev gM : Sig := ⟨true, MachT⟩
abbrev Mach := Int × Kor × List Dv × Int × Int × Int
def headL (m : Mach) : List Int := [m.1] ++ m.2.1.1 ++ [m.2.1.2.1, m.2.1.2.2.1, cond m.2.1.2.2.2 1 0, m.2.2.2.1, m.2.2.2.2.1, m.2.2.2.2.2, (m.2.2.1.length : Int)]
def devL (d : Dv) : List Int := encI (d.1.length : Int) ++ encAll d.1 ++ encI (d.2.length : Int) ++ d.2
def packF (m : Mach) : List Int := encAll (headL m) ++ m.2.2.1.flatMap devL
def devSz (d : Dv) : Nat := 10 * d.1.length + d.2.length + 20
def packP (m : Mach) : Prop := (∀ n ∈ headL m, i64P n) ∧ (∀ d ∈ m.2.2.1, ∀ n ∈ d.1, i64P n) ∧ m.2.1.1.length = 9 ∧ (m.2.2.1.map devSz).sum ≤ 1099511627776

def seenbS : PSpec := ⟨[gB], fun (b, _) => (none, I (cond b 1 0), [])⟩
theorem seenb_ok : GoodF Try.prog 88 seenbS.spec := by
  have hT := tab_ok (fs := []) tree_ok
  have hP : SpecsOk Try.prog (tab tree []) := specs_nil
  refine seenbS.good (fn := Try.f88) hT hP Try.func88 (by kernel_rfl) rfl fun (b : Bool) _ => ?_
  cases b
  all_goals
    repeat' first
      | (refine Go.mk ?_; conv => whnf)
      | refine Need.go ?_ ?_
      | refine NilG.go (fun _ => ?_) (fun _ => ?_)
      | refine Br.dec (fun _ => ?_) (fun _ => ?_)
      | refine Br.go (fun _ => ?_) (fun _ => ?_)
      | refine draw_go hT hP mixed ?_
      | refine round_go hT hP ?_
  all_goals exact .mk [] [] _ rfl rfl rfl rfl rfl rfl rfl

theorem headL_len (m : Mach) (h : m.2.1.1.length = 9) : (headL m).length = 17 := by unfold headL; simp [h]
theorem sum_take_le (l : List Nat) (k : Nat) : (l.take k).sum ≤ l.sum := by
  have := List.sum_append_nat (l₁ := l.take k) (l₂ := l.drop k)
  rw [List.take_append_drop] at this
  omega
theorem devL_len {d : Dv} (h : ∀ n ∈ d.1, i64P n) (h2 : d.1.length ≤ 4611686018427387904) (h3 : d.2.length ≤ 4611686018427387904) : (devL d).length ≤ devSz d := by
  have a1 := encAll_len h
  have a2 := encI_len (n := (d.1.length : Int)) (by unfold i64P; omega)
  have a3 := encI_len (n := (d.2.length : Int)) (by unfold i64P; omega)
  unfold devL devSz
  simp only [List.length_append]
  omega
theorem flat_take {ds : List Dv} {k : Nat} (h : k < ds.length) : (ds.take (k + 1)).flatMap devL = (ds.take k).flatMap devL ++ devL (ds.getD k ([], [])) := by
  rw [List.take_add_one, List.flatMap_append, List.getD_eq_getElem?_getD, List.getElem?_eq_getElem h]
  simp
theorem dev_mem {ds : List Dv} {k : Nat} (h : k < ds.length) : ds.getD k ([], []) ∈ ds := by
  rw [List.getD_eq_getElem?_getD, List.getElem?_eq_getElem h]
  exact List.getElem_mem h
theorem devSz_le {ds : List Dv} {d : Dv} (h : d ∈ ds) : devSz d ≤ (ds.map devSz).sum := by
  induction ds with
  | nil => cases h
  | cons x r ih =>
    simp only [List.map_cons, List.sum_cons]
    rcases List.mem_cons.1 h with rfl | h
    · omega
    · have := ih h; omega
theorem devs_len (ds : List Dv) : 20 * ds.length ≤ (ds.map devSz).sum := by
  induction ds with
  | nil => simp
  | cons x r ih => simp only [List.map_cons, List.sum_cons, List.length_cons]; unfold devSz at *; omega
theorem flat_len {ds : List Dv} (h : ∀ d ∈ ds, ∀ n ∈ d.1, i64P n) (hs : (ds.map devSz).sum ≤ 1099511627776) : (ds.flatMap devL).length ≤ (ds.map devSz).sum := by
  induction ds with
  | nil => simp
  | cons x r ih =>
    have h1 := devSz_le (List.mem_cons_self (a := x) (l := r))
    have h2 : devSz x ≤ 1099511627776 := Nat.le_trans h1 hs
    unfold devSz at h2
    have h3 := devL_len (h x (List.mem_cons_self ..)) (by omega) (by omega)
    simp only [List.map_cons, List.sum_cons] at hs
    have h4 := ih (fun d hd => h d (List.mem_cons_of_mem _ hd)) (by omega)
    simp only [List.flatMap_cons, List.length_append, List.map_cons, List.sum_cons]
    omega
theorem flat_take_len {ds : List Dv} (h : ∀ d ∈ ds, ∀ n ∈ d.1, i64P n) (hs : (ds.map devSz).sum ≤ 1099511627776) (k : Nat) : ((ds.take k).flatMap devL).length ≤ (ds.map devSz).sum := by
  have e := sum_take_le (ds.map devSz) k
  rw [← List.map_take] at e
  exact Nat.le_trans (flat_len (fun d hd => h d (List.mem_of_mem_take hd)) (by omega)) e
def packS : PSpec := ⟨[gM], fun (m, _) => (some (packP m), .cell (.own 0), [.arr (.int .u8) (packF m)])⟩
set_option maxHeartbeats 8000000 in
theorem packed_ok : GoodF Try.prog 53 packS.spec := by
  have hT := tab_ok (fs := [(88, seenbS.spec), (89, addWS.spec)]) tree_ok
  have hP : SpecsOk Try.prog (tab tree [(88, seenbS.spec), (89, addWS.spec)]) := specs_cons seenb_ok (specs_cons pkAdd_ok specs_nil)
  refine packS.good (fn := Try.f53) hT hP Try.func53 (by kernel_rfl) rfl fun (m : Mach) hq => ?_
  have hp : packP m := hq _ rfl
  clear hq
  obtain ⟨tm, ⟨r, op, at_, nmi⟩, ds, bd, ba, bdt⟩ := m
  obtain ⟨h1, h2, h3, h4⟩ := hp
  have h3 : r.length = 9 := h3
  repeat' first
    | (refine Go.mk ?_; conv => whnf)
    | refine Need.go ?_ ?_
    | refine NilG.go (fun _ => ?_) (fun _ => ?_)
    | refine Br.dec (fun _ => ?_) (fun _ => ?_)
    | refine Br.go (fun _ => ?_) (fun _ => ?_)
    | refine draw_go hT hP mixed ?_
    | refine round_go hT hP ?_
  all_goals first
    | exact of_decide_eq_true rfl
    | skip
  all_goals
    have h1 : ∀ n ∈ headL (tm, (r, op, at_, nmi), ds, bd, ba, bdt), i64P n := h1
    have h2 : ∀ d ∈ ds, ∀ n ∈ d.1, i64P n := h2
    have h4 : (ds.map devSz).sum ≤ 1099511627776 := h4
    have hH := headL_len (tm, (r, op, at_, nmi), ds, bd, ba, bdt) h3
    have hHl := encAll_len h1
    rw [hH] at hHl
  · show (1 + r.length) * 8 ≤ 140737488355328
    omega
  · show (([tm] ++ r).length + 7) * 8 ≤ 140737488355328
    simp; omega
  · exact ⟨h1, by show 0 + 10 * (headL (tm, (r, op, at_, nmi), ds, bd, ba, bdt)).length ≤ _; omega⟩
  · have hds := devs_len ds
    refine up_go hT hP ds.length (fun i (o : List Int) => St.mk [.dead, .dead, .dead, .dead, .cell (.ptr 0 0), .cell (.fn 89 [0]), .dead, .dead, .dead, .dead, .dead, .dead, .dead, .dead, .dead, .dead, .dead, .dead, .dead, .dead, .dead, .dead, .dead, .dead, .dead, .dead, .dead, .dead, .dead, .dead, .dead, .dead, .dead, .dead, .dead, .dead, .dead, .dead, .dead, .dead, .dead, .dead, .dead, .dead, .dead, .dead, .dead, .dead, .cell (.ro DevT ds), I (ds.length : Int), I i, .dead, .dead, .dead, .dead, .dead, .dead, .dead, .dead, .dead, .dead, .dead, .dead, .dead, .dead, .dead, .dead, .dead, .dead, .dead, .dead, .dead, .dead, .dead, .dead, .dead] [some (.var [.own 1]), some (.arr (.int .u8) o)])
      (fun k o => o = encAll (headL (tm, (r, op, at_, nmi), ds, bd, ba, bdt)) ++ (ds.take k).flatMap devL) (encAll (headL (tm, (r, op, at_, nmi), ds, bd, ba, bdt))) (Le.mk [] [6, 7] rfl rfl ?_ ?_) ?_ fun k o hk hi => ?_
    · exact rfl
    · repeat' first | exact trivial | exact ⟨rfl, rfl⟩ | refine And.intro ?_ ?_
    · simp
    repeat' first
      | (refine Go.mk ?_; conv => whnf)
      | refine Need.go ?_ ?_
      | refine NilG.go (fun _ => ?_) (fun _ => ?_)
      | refine Br.dec (fun _ => ?_) (fun _ => ?_)
      | refine Br.go (fun _ => ?_) (fun _ => ?_)
      | refine draw_go hT hP mixed ?_
      | refine round_go hT hP ?_
    all_goals first
      | exact of_decide_eq_true rfl
      | skip
    · rename_i hlt
      have hlt : (k : Int) < (ds.length : Int) := hlt
      show 0 ≤ (k : Int) ∧ (k : Int) < (ds.length : Int)
      omega
    · rename_i hlt
      have hlt : (k : Int) < (ds.length : Int) := hlt
      have hm : List.getD (α := Den DevT) ds ((k : Int)).toNat (dflt DevT) ∈ ds := dev_mem (by omega)
      have hlo : o.length ≤ 170 + (ds.map devSz).sum := by
        rw [hi, List.length_append]
        have := flat_take_len h2 h4 k
        omega
      have hz := devSz_le hm
      generalize List.getD (α := Den DevT) ds ((k : Int)).toNat (dflt DevT) = D at *
      obtain ⟨N, M⟩ := D
      have hz : 10 * N.length + M.length + 20 ≤ (ds.map devSz).sum := hz
      refine ⟨fun n hn => ?_, ?_⟩
      · have hn : n ∈ [((N.length : Nat) : Int)] := hn
        rw [List.mem_singleton] at hn
        subst hn
        unfold i64P
        omega
      · show o.length + 10 * 1 ≤ 35184372088832
        omega
    · rename_i hlt
      have hlt : (k : Int) < (ds.length : Int) := hlt
      have hm : List.getD (α := Den DevT) ds ((k : Int)).toNat (dflt DevT) ∈ ds := dev_mem (by omega)
      have hft : (ds.take (k + 1)).flatMap devL = (ds.take k).flatMap devL ++ devL (List.getD (α := Den DevT) ds ((k : Int)).toNat (dflt DevT)) := flat_take (by omega)
      have hlo : o.length ≤ 170 + (ds.map devSz).sum := by
        rw [hi, List.length_append]
        have := flat_take_len h2 h4 k
        omega
      generalize List.getD (α := Den DevT) ds ((k : Int)).toNat (dflt DevT) = D at *
      have hD := h2 D hm
      have hz := devSz_le hm
      obtain ⟨N, M⟩ := D
      have hD : ∀ n ∈ N, i64P n := hD
      have hz : 10 * N.length + M.length + 20 ≤ (ds.map devSz).sum := hz
      cases N with
      | nil =>
        conv => whnf
        repeat' first
          | (refine Go.mk ?_; conv => whnf)
          | refine Need.go ?_ ?_
          | refine NilG.go (fun _ => ?_) (fun _ => ?_)
          | refine Br.dec (fun _ => ?_) (fun _ => ?_)
          | refine Br.go (fun _ => ?_) (fun _ => ?_)
          | refine draw_go hT hP mixed ?_
          | refine round_go hT hP ?_
        all_goals
          have eN := encI_len (n := (((([] : List Int)).length : Nat) : Int)) (by unfold i64P; omega)
          have eM := encI_len (n := ((M.length : Nat) : Int)) (by unfold i64P; omega)
          have eA := encAll_len hD
        all_goals first
          | exact of_decide_eq_true rfl
          | (refine ⟨hD, ?_⟩
             show (o ++ (encI (((([] : List Int)).length : Nat) : Int) ++ [])).length + 10 * (([] : List Int)).length ≤ 35184372088832
             simp only [List.length_append, List.length_nil]; first | omega | (simp only [List.length_nil] at eN; omega))
          | (refine ⟨fun n hn => ?_, ?_⟩
             · have hn : n ∈ [((M.length : Nat) : Int)] := hn
               rw [List.mem_singleton] at hn
               subst hn
               unfold i64P
               omega
             · show (o ++ (encI (((([] : List Int)).length : Nat) : Int) ++ [])).length + 10 * 1 ≤ 35184372088832
               simp only [List.length_append, List.length_nil]; first | omega | (simp only [List.length_nil] at eN; omega))
          | (show ((o ++ (encI (((([] : List Int)).length : Nat) : Int) ++ []) ++ (encI ((M.length : Nat) : Int) ++ [])).length + M.length) * 1 ≤ 140737488355328
             simp only [List.length_append, List.length_nil]; first | omega | (simp only [List.length_nil] at eN; omega))
          | skip
        apply Exists.intro
        apply Exists.intro _
        refine And.intro (And.intro ?lt201 (And.intro ?ei201 ?inv201)) (Le.mk [] [0, 7] rfl rfl ?hh201 ?ht201)
        case hh201 => exact rfl
        case ht201 => repeat' first | exact trivial | exact ⟨rfl, rfl⟩ | refine And.intro ?_ ?_
        case lt201 => omega
        case ei201 => exact up_i (by omega)
        · show o ++ (encI (((([] : List Int)).length : Nat) : Int) ++ []) ++ (encI ((M.length : Nat) : Int) ++ []) ++ M = _
          rw [hft, hi]
          simp [devL, encAll]
      | cons a N' =>
        conv => whnf
        repeat' first
          | (refine Go.mk ?_; conv => whnf)
          | refine Need.go ?_ ?_
          | refine NilG.go (fun _ => ?_) (fun _ => ?_)
          | refine Br.dec (fun _ => ?_) (fun _ => ?_)
          | refine Br.go (fun _ => ?_) (fun _ => ?_)
          | refine draw_go hT hP mixed ?_
          | refine round_go hT hP ?_
        all_goals
          have eN := encI_len (n := (((a :: N').length : Nat) : Int)) (by unfold i64P; omega)
          have eM := encI_len (n := ((M.length : Nat) : Int)) (by unfold i64P; omega)
          have eA := encAll_len hD
        all_goals first
          | exact of_decide_eq_true rfl
          | (refine ⟨hD, ?_⟩
             show (o ++ (encI (((a :: N').length : Nat) : Int) ++ [])).length + 10 * (a :: N').length ≤ 35184372088832
             simp only [List.length_append, List.length_nil]; first | omega | (simp only [List.length_nil] at eN; omega))
          | (refine ⟨fun n hn => ?_, ?_⟩
             · have hn : n ∈ [((M.length : Nat) : Int)] := hn
               rw [List.mem_singleton] at hn
               subst hn
               unfold i64P
               omega
             · show (o ++ (encI (((a :: N').length : Nat) : Int) ++ []) ++ encAll (a :: N')).length + 10 * 1 ≤ 35184372088832
               simp only [List.length_append, List.length_nil]; first | omega | (simp only [List.length_nil] at eN; omega))
          | (show ((o ++ (encI (((a :: N').length : Nat) : Int) ++ []) ++ encAll (a :: N') ++ (encI ((M.length : Nat) : Int) ++ [])).length + M.length) * 1 ≤ 140737488355328
             simp only [List.length_append, List.length_nil]; first | omega | (simp only [List.length_nil] at eN; omega))
          | skip
        apply Exists.intro
        apply Exists.intro _
        refine And.intro (And.intro ?lt241 (And.intro ?ei241 ?inv241)) (Le.mk [] [0, 8] rfl rfl ?hh241 ?ht241)
        case hh241 => exact rfl
        case ht241 => repeat' first | exact trivial | exact ⟨rfl, rfl⟩ | refine And.intro ?_ ?_
        case lt241 => omega
        case ei241 => exact up_i (by omega)
        · show o ++ (encI (((a :: N').length : Nat) : Int) ++ []) ++ encAll (a :: N') ++ (encI ((M.length : Nat) : Int) ++ []) ++ M = _
          rw [hft, hi]
          simp [devL, encAll]
    · rename_i hlt
      have hlt : ¬ (k : Int) < (ds.length : Int) := hlt
      refine .mk [] [1] _ rfl rfl rfl rfl rfl (blk_u8 ?_) rfl
      rw [hi, List.take_of_length_le (by omega)]; rfl

end Go.Proofs.Ytanaaecfghmmaaa

/- A machine's state as bytes. -/
namespace Go.Proofs.Ytanaaecfghmmaaa
open Go.Fw
set_option linter.unusedVariables false
set_option linter.unusedSimpArgs false
set_option linter.constructorNameAsVariable false
set_option maxRecDepth 100000

set_option maxHeartbeats 8000000 in
theorem bytes_ok : GoodF Try.prog 49 packS.spec := by
  have hT := tab_ok (fs := [(87, putWS.spec)]) tree_ok
  have hP : SpecsOk Try.prog (tab tree [(87, putWS.spec)]) := specs_cons saveput_ok specs_nil
  refine packS.good (fn := Try.f49) hT hP Try.func49 (by kernel_rfl) rfl fun (m : Mach) hq => ?_
  have hp : packP m := hq _ rfl
  clear hq
  obtain ⟨tm, ⟨r, op, at_, nmi⟩, ds, bd, ba, bdt⟩ := m
  obtain ⟨g1, g2, g3, g4⟩ := hp
  have h3 : r.length = 9 := g3
  have h1 : ∀ n ∈ headL (tm, (r, op, at_, nmi), ds, bd, ba, bdt), i64P n := g1
  have h2 : ∀ d ∈ ds, ∀ n ∈ d.1, i64P n := g2
  have h4 : (ds.map devSz).sum ≤ 1099511627776 := g4
  clear g1 g2 g3 g4
  have hr : ∀ n ∈ r, i64P n := fun n hn => h1 n (by unfold headL; simp [hn])
  have ht : i64P tm := h1 tm (by unfold headL; simp)
  have lt := encI_len ht
  repeat' first
    | (refine Go.mk ?_; conv => whnf)
    | refine Need.go ?_ ?_
    | refine NilG.go (fun _ => ?_) (fun _ => ?_)
    | refine Br.dec (fun _ => ?_) (fun _ => ?_)
    | refine Br.go (fun _ => ?_) (fun _ => ?_)
    | refine draw_go hT hP mixed ?_
    | refine round_go hT hP ?_
  · exact ⟨ht, by simp, fun _ => rfl⟩
  refine up_go hT hP 9 (fun i (o : List Int) => St.mk [.dead, .cell (.ptr 0 0), .dead, .cell (.own 1), .dead, .dead, .dead, .dead, .dead, .dead, .dead, .dead, .dead, .dead, .dead, .dead, .dead, .dead, .agg [.run .i64 9 r], I i, .dead, .dead, .dead, .dead, .dead, .dead, .dead, .dead, .dead, .dead, .dead, .dead, .dead, .dead, .dead, .dead, .dead, .dead, .dead, .dead, .dead, .dead, .dead, .dead, .dead, .dead, .dead, .dead, .dead, .dead, .dead, .dead, .dead, .dead, .dead, .dead, .dead, .dead, .dead, .dead, .dead, .dead, .dead, .dead, .dead, .dead, .dead, .dead, .dead, .dead, .dead, .dead, .dead, .dead, .dead, .dead, .dead, .dead, .dead, .dead, .dead, .dead, .dead, .dead, .dead, .dead, .dead, .dead, .dead, .dead, .dead] [some (.var [iv .i64 tm, .run .i64 9 r, iv .i64 op, iv .i64 at_, bv nmi, .ro DevT ds, iv .i64 bd, iv .i64 ba, iv .i64 bdt]), some (.arr (.int .u8) o)])
    (fun k o => o = encI tm ++ encAll (r.take k)) (encI tm) (Le.mk [] [0, 1] rfl rfl ?_ ?_) ?_ fun k o hk hi => ?_
  · exact rfl
  · repeat' first | exact trivial | exact ⟨rfl, rfl⟩ | refine And.intro ?_ ?_
  · simp [encAll]
  have hlo : o.length ≤ 100 := by
    rw [hi, List.length_append]
    have := encAll_take_len hr k
    omega
  repeat' first
    | (refine Go.mk ?_; conv => whnf)
    | refine Need.go ?_ ?_
    | refine NilG.go (fun _ => ?_) (fun _ => ?_)
    | refine Br.dec (fun _ => ?_) (fun _ => ?_)
    | refine Br.go (fun _ => ?_) (fun _ => ?_)
    | refine draw_go hT hP mixed ?_
    | refine round_go hT hP ?_
  all_goals first
    | exact of_decide_eq_true rfl
    | skip
  · show 0 ≤ (k : Int) ∧ (k : Int) < ((9 : Nat) : Int)
    omega
  · exact ⟨hr _ (getD_mem (l := r) (k := k) (by omega)), by show o.length ≤ _; omega, fun h => by cases h⟩
  · apply Exists.intro
    apply Exists.intro _
    refine And.intro (And.intro ?lt58 (And.intro ?ei58 ?inv58)) (Le.mk [] [0, 2] rfl rfl ?hh58 ?ht58)
    case hh58 => exact rfl
    case ht58 => repeat' first | exact trivial | exact ⟨rfl, rfl⟩ | refine And.intro ?_ ?_
    case lt58 => omega
    case ei58 => exact up_i (by omega)
    · show o ++ encI (r.getD k 0) = _
      rw [encAll_take (by omega), ← List.append_assoc, ← hi]
  · rename_i hk9 hnm
    have hk9 : ¬ (k : Int) < 9 := hk9
    obtain rfl : nmi = true := by cases nmi <;> simp_all
    rw [List.take_of_length_le (by omega)] at hi
    have hL : ∀ n ∈ [op, at_, 1, bd, ba, bdt, ((ds.length : Nat) : Int)], i64P n := fun n hn => h1 n (List.mem_append.2 (.inr hn))
    have he : encAll (headL (tm, (r, op, at_, true), ds, bd, ba, bdt)) = o ++ encAll [op, at_, 1, bd, ba, bdt, ((ds.length : Nat) : Int)] := by
      rw [hi]; unfold headL; simp only [encAll_append]; rw [List.append_assoc, List.append_assoc]; congr 1
      simp [encAll]
    clear hi
    refine up_go hT hP 7 (fun i (o : List Int) => St.mk [.dead, .cell (.ptr 0 0), .dead, .cell (.own 1), .dead, .dead, .dead, .dead, .dead, .dead, .dead, .dead, .dead, .dead, .dead, .dead, .dead, .dead, .dead, .dead, .dead, .dead, .dead, .dead, .dead, .dead, .dead, .dead, .dead, .dead, .dead, .dead, .dead, .dead, .dead, .dead, .dead, .dead, .dead, .dead, .dead, .dead, .dead, .dead, .dead, .dead, .dead, .dead, .cell (.own 2), I 7, I i, .dead, .dead, .dead, .dead, .dead, .dead, .dead, .dead, .dead, .dead, .dead, .dead, .dead, .dead, .dead, .dead, .dead, .dead, .dead, .dead, .dead, .dead, .dead, .dead, .dead, .dead, .dead, .dead, .dead, .dead, .dead, .dead, .dead, .dead, .dead, .dead, .dead, .dead, .dead, .dead] [some (.var [iv .i64 tm, .run .i64 9 r, iv .i64 op, iv .i64 at_, bv true, .ro DevT ds, iv .i64 bd, iv .i64 ba, iv .i64 bdt]), some (.arr (.int .u8) o), some (.arr (.int .i64) [op, at_, 1, bd, ba, bdt, ((ds.length : Nat) : Int)])])
      (fun k o' => o' = o ++ encAll ([op, at_, 1, bd, ba, bdt, ((ds.length : Nat) : Int)].take k)) o (Le.mk [] [0, 1, 2] rfl rfl ?_ ?_) ?_ fun j o' hj hij => ?_
    · exact rfl
    · repeat' first | exact trivial | exact ⟨rfl, rfl⟩ | refine And.intro ?_ ?_
    · simp [encAll]
    have hlo' : o'.length ≤ 200 := by
      rw [hij, List.length_append]
      have := encAll_take_len hL j
      simp only [List.length_cons, List.length_nil] at this
      omega
    repeat' first
      | (refine Go.mk ?_; conv => whnf)
      | refine Need.go ?_ ?_
      | refine NilG.go (fun _ => ?_) (fun _ => ?_)
      | refine Br.dec (fun _ => ?_) (fun _ => ?_)
      | refine Br.go (fun _ => ?_) (fun _ => ?_)
      | refine draw_go hT hP mixed ?_
      | refine round_go hT hP ?_
    all_goals first
      | exact of_decide_eq_true rfl
      | skip
    · show 0 ≤ (j : Int) ∧ (j : Int) < ((7 : Nat) : Int)
      omega
    · show j < 7
      omega
    · exact ⟨hL _ (getD_mem (k := j) (by show j < 7; omega)), by show o'.length ≤ _; omega, fun h => by cases h⟩
    · apply Exists.intro
      apply Exists.intro _
      refine And.intro (And.intro ?lt102 (And.intro ?ei102 ?inv102)) (Le.mk [] [0, 3, 2] rfl rfl ?hh102 ?ht102)
      case hh102 => exact rfl
      case ht102 => repeat' first | exact trivial | exact ⟨rfl, rfl⟩ | refine And.intro ?_ ?_
      case lt102 => omega
      case ei102 => exact up_i (by omega)
      · show o' ++ encI (List.getD _ j 0) = _
        rw [encAll_take (by show j < 7; omega), ← List.append_assoc, ← hij]
    · rename_i hj7
      have hj7 : ¬ (j : Int) < 7 := hj7
      rw [List.take_of_length_le (by show 7 ≤ j; omega)] at hij
      rw [← hij] at he
      clear hij hlo hlo' hL
      have hH := encAll_len h1
      rw [headL_len _ h3, he] at hH
      have hds := devs_len ds
      refine up_go hT hP ds.length (fun i (o : List Int) => St.mk [.dead, .dead, .dead, .cell (.own 0), .dead, .dead, .dead, .dead, .dead, .dead, .dead, .dead, .dead, .dead, .dead, .dead, .dead, .dead, .dead, .dead, .dead, .dead, .dead, .dead, .dead, .dead, .dead, .dead, .dead, .dead, .dead, .dead, .dead, .dead, .dead, .dead, .dead, .dead, .dead, .dead, .dead, .dead, .dead, .dead, .dead, .dead, .dead, .dead, .dead, .dead, .dead, .dead, .dead, .dead, .dead, .dead, .dead, .dead, .dead, .cell (.ro DevT ds), I (ds.length : Int), I i, .dead, .dead, .dead, .dead, .dead, .dead, .dead, .dead, .dead, .dead, .dead, .dead, .dead, .dead, .dead, .dead, .dead, .dead, .dead, .dead, .dead, .dead, .dead, .dead, .dead, .dead, .dead, .dead, .dead] [some (.arr (.int .u8) o)])
        (fun k o => o = o' ++ (ds.take k).flatMap devL) o' (Le.mk [] [1] rfl rfl ?_ ?_) ?_ fun k o hk hi => ?_
      · exact rfl
      · repeat' first | exact trivial | exact ⟨rfl, rfl⟩ | refine And.intro ?_ ?_
      · simp
      repeat' first
        | (refine Go.mk ?_; conv => whnf)
        | refine Need.go ?_ ?_
        | refine NilG.go (fun _ => ?_) (fun _ => ?_)
        | refine Br.dec (fun _ => ?_) (fun _ => ?_)
        | refine Br.go (fun _ => ?_) (fun _ => ?_)
        | refine draw_go hT hP mixed ?_
        | refine round_go hT hP ?_
      all_goals first
        | exact of_decide_eq_true rfl
        | skip
      · rename_i hlt
        have hlt : (k : Int) < (ds.length : Int) := hlt
        show 0 ≤ (k : Int) ∧ (k : Int) < (ds.length : Int)
        omega
      · rename_i hlt
        have hlt : (k : Int) < (ds.length : Int) := hlt
        have hm : List.getD (α := Den DevT) ds ((k : Int)).toNat (dflt DevT) ∈ ds := dev_mem (by omega)
        have hlo : o.length ≤ 170 + (ds.map devSz).sum := by
          rw [hi, List.length_append]
          have := flat_take_len h2 h4 k
          omega
        generalize List.getD (α := Den DevT) ds ((k : Int)).toNat (dflt DevT) = D at *
        have hz := devSz_le hm
        obtain ⟨N, M⟩ := D
        have hz : 10 * N.length + M.length + 20 ≤ (ds.map devSz).sum := hz
        exact ⟨by show i64P ((N.length : Nat) : Int); unfold i64P; omega, by show o.length ≤ _; omega, fun h => by cases h⟩
      · rename_i hlt
        have hlt : (k : Int) < (ds.length : Int) := hlt
        have hm : List.getD (α := Den DevT) ds ((k : Int)).toNat (dflt DevT) ∈ ds := dev_mem (by omega)
        have hft : (ds.take (k + 1)).flatMap devL = (ds.take k).flatMap devL ++ devL (List.getD (α := Den DevT) ds ((k : Int)).toNat (dflt DevT)) := flat_take (by omega)
        have hlo : o.length ≤ 170 + (ds.map devSz).sum := by
          rw [hi, List.length_append]
          have := flat_take_len h2 h4 k
          omega
        generalize List.getD (α := Den DevT) ds ((k : Int)).toNat (dflt DevT) = D at *
        have hD := h2 D hm
        have hz := devSz_le hm
        obtain ⟨N, M⟩ := D
        have hD : ∀ n ∈ N, i64P n := hD
        have hz : 10 * N.length + M.length + 20 ≤ (ds.map devSz).sum := hz
        have eN := encI_len (n := ((N.length : Nat) : Int)) (by unfold i64P; omega)
        have eM := encI_len (n := ((M.length : Nat) : Int)) (by unfold i64P; omega)
        refine up_go hT hP N.length (fun i (o : List Int) => St.mk [.dead, .dead, .dead, .cell (.own 1), .dead, .dead, .dead, .dead, .dead, .dead, .cell (.ptr 0 0), .dead, .dead, .dead, .dead, .dead, .dead, .dead, .dead, .dead, .dead, .dead, .dead, .dead, .dead, .dead, .dead, .dead, .dead, .dead, .dead, .dead, .dead, .dead, .dead, .dead, .dead, .dead, .dead, .dead, .dead, .dead, .dead, .dead, .dead, .dead, .dead, .dead, .dead, .dead, .dead, .dead, .dead, .dead, .dead, .dead, .dead, .dead, .dead, .cell (.ro DevT ds), I (ds.length : Int), I (k : Int), .dead, .dead, .dead, .dead, .dead, .dead, .dead, .dead, .dead, .cell (.ro (.int .i64) N), I (N.length : Int), I i, .dead, .dead, .dead, .dead, .dead, .dead, .dead, .dead, .dead, .dead, .dead, .dead, .dead, .dead, .dead, .dead, .dead] [some (.var [.ro (.int .i64) N, .ro (.int .u8) M]), some (.arr (.int .u8) o)])
          (fun j o2 => o2 = (o ++ encI ((N.length : Nat) : Int)) ++ encAll (N.take j)) (o ++ encI ((N.length : Nat) : Int)) (Le.mk [] [1, 2] rfl rfl ?_ ?_) ?_ fun j2 o2 hj2 hi2 => ?_
        · exact rfl
        · repeat' first | exact trivial | exact ⟨rfl, rfl⟩ | refine And.intro ?_ ?_
        · simp [encAll]
        have hlo2 : o2.length ≤ o.length + 10 + 10 * N.length := by
          rw [hi2, List.length_append, List.length_append]
          have := encAll_take_len hD j2
          omega
        repeat' first
          | (refine Go.mk ?_; conv => whnf)
          | refine Need.go ?_ ?_
          | refine NilG.go (fun _ => ?_) (fun _ => ?_)
          | refine Br.dec (fun _ => ?_) (fun _ => ?_)
          | refine Br.go (fun _ => ?_) (fun _ => ?_)
          | refine draw_go hT hP mixed ?_
          | refine round_go hT hP ?_
        all_goals first
          | exact of_decide_eq_true rfl
          | skip
        · rename_i hlt2
          have hlt2 : (j2 : Int) < (N.length : Int) := hlt2
          show 0 ≤ (j2 : Int) ∧ (j2 : Int) < (N.length : Int)
          omega
        · rename_i hlt2
          have hlt2 : (j2 : Int) < (N.length : Int) := hlt2
          exact ⟨hD _ (getD_mem (k := j2) (by omega)), by show o2.length ≤ _; omega, fun h => by cases h⟩
        · rename_i hlt2
          have hlt2 : (j2 : Int) < (N.length : Int) := hlt2
          apply Exists.intro
          apply Exists.intro _
          refine And.intro (And.intro ?lt196 (And.intro ?ei196 ?inv196)) (Le.mk [] [0, 2] rfl rfl ?hh196 ?ht196)
          case hh196 => exact rfl
          case ht196 => repeat' first | exact trivial | exact ⟨rfl, rfl⟩ | refine And.intro ?_ ?_
          case lt196 => omega
          case ei196 => exact up_i (by omega)
          · show o2 ++ encI (List.getD N j2 0) = _
            rw [encAll_take (by omega), ← List.append_assoc, ← hi2]
        · exact ⟨by show i64P ((M.length : Nat) : Int); unfold i64P; omega, by show o2.length ≤ _; omega, fun h => by cases h⟩
        · show ((o2 ++ encI ((M.length : Nat) : Int)).length + M.length) * 1 ≤ 140737488355328
          rw [List.length_append]; omega
        · rename_i hge
          have hge : ¬ (j2 : Int) < (N.length : Int) := hge
          apply Exists.intro
          apply Exists.intro _
          refine And.intro (And.intro ?lt210 (And.intro ?ei210 ?inv210)) (Le.mk [] [3] rfl rfl ?hh210 ?ht210)
          case hh210 => exact rfl
          case ht210 => repeat' first | exact trivial | exact ⟨rfl, rfl⟩ | refine And.intro ?_ ?_
          case lt210 => omega
          case ei210 => exact up_i (by omega)
          · show o2 ++ encI ((M.length : Nat) : Int) ++ M = _
            rw [hft, hi2, hi, show N.take j2 = N from List.take_of_length_le (by omega)]
            simp [devL]
      · rename_i hlt
        have hlt : ¬ (k : Int) < (ds.length : Int) := hlt
        refine .mk [] [0] _ rfl rfl rfl rfl rfl (blk_u8 ?_) rfl
        rw [hi, List.take_of_length_le (by omega), ← he]; rfl
  · rename_i hk9 hnm
    have hk9 : ¬ (k : Int) < 9 := hk9
    obtain rfl : nmi = false := by cases nmi <;> simp_all
    rw [List.take_of_length_le (by omega)] at hi
    have hL : ∀ n ∈ [op, at_, 0, bd, ba, bdt, ((ds.length : Nat) : Int)], i64P n := fun n hn => h1 n (List.mem_append.2 (.inr hn))
    have he : encAll (headL (tm, (r, op, at_, false), ds, bd, ba, bdt)) = o ++ encAll [op, at_, 0, bd, ba, bdt, ((ds.length : Nat) : Int)] := by
      rw [hi]; unfold headL; simp only [encAll_append]; rw [List.append_assoc, List.append_assoc]; congr 1
      simp [encAll]
    clear hi
    refine up_go hT hP 7 (fun i (o : List Int) => St.mk [.dead, .cell (.ptr 0 0), .dead, .cell (.own 1), .dead, .dead, .dead, .dead, .dead, .dead, .dead, .dead, .dead, .dead, .dead, .dead, .dead, .dead, .dead, .dead, .dead, .dead, .dead, .dead, .dead, .dead, .dead, .dead, .dead, .dead, .dead, .dead, .dead, .dead, .dead, .dead, .dead, .dead, .dead, .dead, .dead, .dead, .dead, .dead, .dead, .dead, .dead, .dead, .cell (.own 2), I 7, I i, .dead, .dead, .dead, .dead, .dead, .dead, .dead, .dead, .dead, .dead, .dead, .dead, .dead, .dead, .dead, .dead, .dead, .dead, .dead, .dead, .dead, .dead, .dead, .dead, .dead, .dead, .dead, .dead, .dead, .dead, .dead, .dead, .dead, .dead, .dead, .dead, .dead, .dead, .dead, .dead] [some (.var [iv .i64 tm, .run .i64 9 r, iv .i64 op, iv .i64 at_, bv false, .ro DevT ds, iv .i64 bd, iv .i64 ba, iv .i64 bdt]), some (.arr (.int .u8) o), some (.arr (.int .i64) [op, at_, 0, bd, ba, bdt, ((ds.length : Nat) : Int)])])
      (fun k o' => o' = o ++ encAll ([op, at_, 0, bd, ba, bdt, ((ds.length : Nat) : Int)].take k)) o (Le.mk [] [0, 1, 2] rfl rfl ?_ ?_) ?_ fun j o' hj hij => ?_
    · exact rfl
    · repeat' first | exact trivial | exact ⟨rfl, rfl⟩ | refine And.intro ?_ ?_
    · simp [encAll]
    have hlo' : o'.length ≤ 200 := by
      rw [hij, List.length_append]
      have := encAll_take_len hL j
      simp only [List.length_cons, List.length_nil] at this
      omega
    repeat' first
      | (refine Go.mk ?_; conv => whnf)
      | refine Need.go ?_ ?_
      | refine NilG.go (fun _ => ?_) (fun _ => ?_)
      | refine Br.dec (fun _ => ?_) (fun _ => ?_)
      | refine Br.go (fun _ => ?_) (fun _ => ?_)
      | refine draw_go hT hP mixed ?_
      | refine round_go hT hP ?_
    all_goals first
      | exact of_decide_eq_true rfl
      | skip
    · show 0 ≤ (j : Int) ∧ (j : Int) < ((7 : Nat) : Int)
      omega
    · show j < 7
      omega
    · exact ⟨hL _ (getD_mem (k := j) (by show j < 7; omega)), by show o'.length ≤ _; omega, fun h => by cases h⟩
    · apply Exists.intro
      apply Exists.intro _
      refine And.intro (And.intro ?lt259 (And.intro ?ei259 ?inv259)) (Le.mk [] [0, 3, 2] rfl rfl ?hh259 ?ht259)
      case hh259 => exact rfl
      case ht259 => repeat' first | exact trivial | exact ⟨rfl, rfl⟩ | refine And.intro ?_ ?_
      case lt259 => omega
      case ei259 => exact up_i (by omega)
      · show o' ++ encI (List.getD _ j 0) = _
        rw [encAll_take (by show j < 7; omega), ← List.append_assoc, ← hij]
    · rename_i hj7
      have hj7 : ¬ (j : Int) < 7 := hj7
      rw [List.take_of_length_le (by show 7 ≤ j; omega)] at hij
      rw [← hij] at he
      clear hij hlo hlo' hL
      have hH := encAll_len h1
      rw [headL_len _ h3, he] at hH
      have hds := devs_len ds
      refine up_go hT hP ds.length (fun i (o : List Int) => St.mk [.dead, .dead, .dead, .cell (.own 0), .dead, .dead, .dead, .dead, .dead, .dead, .dead, .dead, .dead, .dead, .dead, .dead, .dead, .dead, .dead, .dead, .dead, .dead, .dead, .dead, .dead, .dead, .dead, .dead, .dead, .dead, .dead, .dead, .dead, .dead, .dead, .dead, .dead, .dead, .dead, .dead, .dead, .dead, .dead, .dead, .dead, .dead, .dead, .dead, .dead, .dead, .dead, .dead, .dead, .dead, .dead, .dead, .dead, .dead, .dead, .cell (.ro DevT ds), I (ds.length : Int), I i, .dead, .dead, .dead, .dead, .dead, .dead, .dead, .dead, .dead, .dead, .dead, .dead, .dead, .dead, .dead, .dead, .dead, .dead, .dead, .dead, .dead, .dead, .dead, .dead, .dead, .dead, .dead, .dead, .dead] [some (.arr (.int .u8) o)])
        (fun k o => o = o' ++ (ds.take k).flatMap devL) o' (Le.mk [] [1] rfl rfl ?_ ?_) ?_ fun k o hk hi => ?_
      · exact rfl
      · repeat' first | exact trivial | exact ⟨rfl, rfl⟩ | refine And.intro ?_ ?_
      · simp
      repeat' first
        | (refine Go.mk ?_; conv => whnf)
        | refine Need.go ?_ ?_
        | refine NilG.go (fun _ => ?_) (fun _ => ?_)
        | refine Br.dec (fun _ => ?_) (fun _ => ?_)
        | refine Br.go (fun _ => ?_) (fun _ => ?_)
        | refine draw_go hT hP mixed ?_
        | refine round_go hT hP ?_
      all_goals first
        | exact of_decide_eq_true rfl
        | skip
      · rename_i hlt
        have hlt : (k : Int) < (ds.length : Int) := hlt
        show 0 ≤ (k : Int) ∧ (k : Int) < (ds.length : Int)
        omega
      · rename_i hlt
        have hlt : (k : Int) < (ds.length : Int) := hlt
        have hm : List.getD (α := Den DevT) ds ((k : Int)).toNat (dflt DevT) ∈ ds := dev_mem (by omega)
        have hlo : o.length ≤ 170 + (ds.map devSz).sum := by
          rw [hi, List.length_append]
          have := flat_take_len h2 h4 k
          omega
        generalize List.getD (α := Den DevT) ds ((k : Int)).toNat (dflt DevT) = D at *
        have hz := devSz_le hm
        obtain ⟨N, M⟩ := D
        have hz : 10 * N.length + M.length + 20 ≤ (ds.map devSz).sum := hz
        exact ⟨by show i64P ((N.length : Nat) : Int); unfold i64P; omega, by show o.length ≤ _; omega, fun h => by cases h⟩
      · rename_i hlt
        have hlt : (k : Int) < (ds.length : Int) := hlt
        have hm : List.getD (α := Den DevT) ds ((k : Int)).toNat (dflt DevT) ∈ ds := dev_mem (by omega)
        have hft : (ds.take (k + 1)).flatMap devL = (ds.take k).flatMap devL ++ devL (List.getD (α := Den DevT) ds ((k : Int)).toNat (dflt DevT)) := flat_take (by omega)
        have hlo : o.length ≤ 170 + (ds.map devSz).sum := by
          rw [hi, List.length_append]
          have := flat_take_len h2 h4 k
          omega
        generalize List.getD (α := Den DevT) ds ((k : Int)).toNat (dflt DevT) = D at *
        have hD := h2 D hm
        have hz := devSz_le hm
        obtain ⟨N, M⟩ := D
        have hD : ∀ n ∈ N, i64P n := hD
        have hz : 10 * N.length + M.length + 20 ≤ (ds.map devSz).sum := hz
        have eN := encI_len (n := ((N.length : Nat) : Int)) (by unfold i64P; omega)
        have eM := encI_len (n := ((M.length : Nat) : Int)) (by unfold i64P; omega)
        refine up_go hT hP N.length (fun i (o : List Int) => St.mk [.dead, .dead, .dead, .cell (.own 1), .dead, .dead, .dead, .dead, .dead, .dead, .cell (.ptr 0 0), .dead, .dead, .dead, .dead, .dead, .dead, .dead, .dead, .dead, .dead, .dead, .dead, .dead, .dead, .dead, .dead, .dead, .dead, .dead, .dead, .dead, .dead, .dead, .dead, .dead, .dead, .dead, .dead, .dead, .dead, .dead, .dead, .dead, .dead, .dead, .dead, .dead, .dead, .dead, .dead, .dead, .dead, .dead, .dead, .dead, .dead, .dead, .dead, .cell (.ro DevT ds), I (ds.length : Int), I (k : Int), .dead, .dead, .dead, .dead, .dead, .dead, .dead, .dead, .dead, .cell (.ro (.int .i64) N), I (N.length : Int), I i, .dead, .dead, .dead, .dead, .dead, .dead, .dead, .dead, .dead, .dead, .dead, .dead, .dead, .dead, .dead, .dead, .dead] [some (.var [.ro (.int .i64) N, .ro (.int .u8) M]), some (.arr (.int .u8) o)])
          (fun j o2 => o2 = (o ++ encI ((N.length : Nat) : Int)) ++ encAll (N.take j)) (o ++ encI ((N.length : Nat) : Int)) (Le.mk [] [1, 2] rfl rfl ?_ ?_) ?_ fun j2 o2 hj2 hi2 => ?_
        · exact rfl
        · repeat' first | exact trivial | exact ⟨rfl, rfl⟩ | refine And.intro ?_ ?_
        · simp [encAll]
        have hlo2 : o2.length ≤ o.length + 10 + 10 * N.length := by
          rw [hi2, List.length_append, List.length_append]
          have := encAll_take_len hD j2
          omega
        repeat' first
          | (refine Go.mk ?_; conv => whnf)
          | refine Need.go ?_ ?_
          | refine NilG.go (fun _ => ?_) (fun _ => ?_)
          | refine Br.dec (fun _ => ?_) (fun _ => ?_)
          | refine Br.go (fun _ => ?_) (fun _ => ?_)
          | refine draw_go hT hP mixed ?_
          | refine round_go hT hP ?_
        all_goals first
          | exact of_decide_eq_true rfl
          | skip
        · rename_i hlt2
          have hlt2 : (j2 : Int) < (N.length : Int) := hlt2
          show 0 ≤ (j2 : Int) ∧ (j2 : Int) < (N.length : Int)
          omega
        · rename_i hlt2
          have hlt2 : (j2 : Int) < (N.length : Int) := hlt2
          exact ⟨hD _ (getD_mem (k := j2) (by omega)), by show o2.length ≤ _; omega, fun h => by cases h⟩
        · rename_i hlt2
          have hlt2 : (j2 : Int) < (N.length : Int) := hlt2
          apply Exists.intro
          apply Exists.intro _
          refine And.intro (And.intro ?lt353 (And.intro ?ei353 ?inv353)) (Le.mk [] [0, 2] rfl rfl ?hh353 ?ht353)
          case hh353 => exact rfl
          case ht353 => repeat' first | exact trivial | exact ⟨rfl, rfl⟩ | refine And.intro ?_ ?_
          case lt353 => omega
          case ei353 => exact up_i (by omega)
          · show o2 ++ encI (List.getD N j2 0) = _
            rw [encAll_take (by omega), ← List.append_assoc, ← hi2]
        · exact ⟨by show i64P ((M.length : Nat) : Int); unfold i64P; omega, by show o2.length ≤ _; omega, fun h => by cases h⟩
        · show ((o2 ++ encI ((M.length : Nat) : Int)).length + M.length) * 1 ≤ 140737488355328
          rw [List.length_append]; omega
        · rename_i hge
          have hge : ¬ (j2 : Int) < (N.length : Int) := hge
          apply Exists.intro
          apply Exists.intro _
          refine And.intro (And.intro ?lt367 (And.intro ?ei367 ?inv367)) (Le.mk [] [3] rfl rfl ?hh367 ?ht367)
          case hh367 => exact rfl
          case ht367 => repeat' first | exact trivial | exact ⟨rfl, rfl⟩ | refine And.intro ?_ ?_
          case lt367 => omega
          case ei367 => exact up_i (by omega)
          · show o2 ++ encI ((M.length : Nat) : Int) ++ M = _
            rw [hft, hi2, hi, show N.take j2 = N from List.take_of_length_le (by omega)]
            simp [devL]
      · rename_i hlt
        have hlt : ¬ (k : Int) < (ds.length : Int) := hlt
        refine .mk [] [0] _ rfl rfl rfl rfl rfl (blk_u8 ?_) rfl
        rw [hi, List.take_of_length_le (by omega), ← he]; rfl

end Go.Proofs.Ytanaaecfghmmaaa

/- What all chips share: their result, the choice of a register. -/
namespace Go.Proofs.Ytanaaecfghmmaaa
open Go.Fw
set_option linter.unusedVariables false
set_option linter.unusedSimpArgs false
set_option maxRecDepth 100000

abbrev devR : AV := .agg [.own 0, .imm (.slice none 0 0)]
def pickF (l : List Int) (a : Int) : Int := if a < 0 then 0 else if a ≥ l.length then 0 else l.getD a.toNat 0
def pickS : WSpec := ⟨List Int × Int, fun x => [.c (.own 0), .c (.ptr 1 0)], fun x => [.arr (.int .i64) x.1, .var [iv .i64 x.2]], fun a b => (match a, b with | [.c (.own 0), .c (.ptr 1 0)], [.arr (.int .i64) l, .var [.imm (.int .i64 n)]] => some (l, n) | _, _ => none),
  fun x => (none, I (pickF x.1 x.2), [some (.arr (.int .i64) x.1), some (.var [iv .i64 x.2])], [])⟩
theorem pick_no {l : List Int} {a : Int} (h : ∀ i : Nat, i < l.length → ¬ a = i) : pickF l a = 0 := by
  unfold pickF
  split
  · rfl
  · split
    · rfl
    · rename_i h1 h2
      exact absurd (by omega : a = (a.toNat : Int)) (h a.toNat (by omega))

end Go.Proofs.Ytanaaecfghmmaaa

/- The chip that sends and receives bytes: forming, cycles. -/
namespace Go.Proofs.Ytanaaecfghmmaaa
open Go.Fw
set_option linter.unusedVariables false
set_option linter.unusedSimpArgs false
set_option maxRecDepth 100000

theorem blk_eqs {l l' : List Int} (h : l = l') : [some (Blk.arr (.int .i64) l)] = [some (Blk.arr (.int .i64) l')] := by rw [h]
def iterF (f : List Int → List Int) : Nat → List Int → List Int
  | 0, l => l
  | n + 1, l => iterF f n (f l)
theorem iterF_add (f : List Int → List Int) : ∀ (m n : Nat) (l : List Int), iterF f (m + n) l = iterF f n (iterF f m l)
  | 0, n, l => by rw [Nat.zero_add]; rfl
  | m + 1, n, l => by
    have e : m + 1 + n = (m + n) + 1 := by omega
    rw [e]
    exact iterF_add f m n (f l)
theorem iterF_succ (f : List Int → List Int) (n : Nat) (l : List Int) : iterF f (n + 1) l = f (iterF f n l) := by
  rw [iterF_add f n 1]; rfl
theorem iterF_fix {f : List Int → List Int} {l : List Int} (h : f l = l) : ∀ n, iterF f n l = l
  | 0 => rfl
  | n + 1 => by rw [iterF, h]; exact iterF_fix h n

def serC : Cv := (ByteArray.empty, 5, 0, 0, [])
abbrev s0 (N : List Int) : Int := N.getD 0 0 % 256
abbrev s1 (N : List Int) : Int := N.getD 1 0 % 64
abbrev s2 (N : List Int) : Int := N.getD 2 0 % 256
abbrev s3 (N : List Int) : Int := N.getD 3 0 % 2
abbrev s4 (N : List Int) : Int := N.getD 4 0 % 2
abbrev s5 (N : List Int) : Int := N.getD 5 0 % 4
abbrev s6 (N : List Int) : Int := N.getD 6 0 % 1048576
abbrev s7 (N : List Int) : Int := N.getD 7 0 % 256
def serN (N : List Int) : List Int := [s0 N, s1 N, s2 N, s3 N, s4 N, s5 N, s6 N, s7 N]
theorem serN_eq (N : List Int) : serN N = [s0 N, s1 N, s2 N, s3 N, s4 N, s5 N, s6 N, s7 N] := rfl
theorem sR (N : List Int) : (0 ≤ s0 N ∧ s0 N < 256) ∧ (0 ≤ s1 N ∧ s1 N < 64) ∧ (0 ≤ s2 N ∧ s2 N < 256) ∧ (0 ≤ s3 N ∧ s3 N < 2) ∧ (0 ≤ s4 N ∧ s4 N < 2) ∧ (0 ≤ s5 N ∧ s5 N < 4) ∧ (0 ≤ s6 N ∧ s6 N < 1048576) ∧ (0 ≤ s7 N ∧ s7 N < 256) := by
  unfold s0 s1 s2 s3 s4 s5 s6 s7; omega
def tickS : List Int → List Int
  | [a, l, g, f, o, c, s, z] => if l > 0 then (if l - 1 = 0 then [a, 0, g, f, o, c, (s + 1) % 1048576, a] else [a, l - 1, g, f, o, c, s, z]) else [a, l, g, f, o, c, s, z]
  | l => l
theorem serN_idem {a l g f o c s z : Int} (h0 : 0 ≤ a ∧ a < 256) (h1 : 0 ≤ l ∧ l < 64) (h2 : 0 ≤ g ∧ g < 256) (h3 : 0 ≤ f ∧ f < 2) (h4 : 0 ≤ o ∧ o < 2) (h5 : 0 ≤ c ∧ c < 4) (h6 : 0 ≤ s ∧ s < 1048576) (h7 : 0 ≤ z ∧ z < 256) :
    serN [a, l, g, f, o, c, s, z] = [a, l, g, f, o, c, s, z] := by
  show [a % 256, l % 64, g % 256, f % 2, o % 2, c % 4, s % 1048576, z % 256] = _
  rw [Int.emod_eq_of_lt h0.1 h0.2, Int.emod_eq_of_lt h1.1 h1.2, Int.emod_eq_of_lt h2.1 h2.2, Int.emod_eq_of_lt h3.1 h3.2, Int.emod_eq_of_lt h4.1 h4.2, Int.emod_eq_of_lt h5.1 h5.2, Int.emod_eq_of_lt h6.1 h6.2, Int.emod_eq_of_lt h7.1 h7.2]
theorem serN_form (N : List Int) : serN (serN N) = serN N := by
  obtain ⟨h0, h1, h2, h3, h4, h5, h6, h7⟩ := sR N
  exact serN_idem h0 h1 h2 h3 h4 h5 h6 h7
theorem tickS_form8 {a l g f o c s z : Int} (h0 : 0 ≤ a ∧ a < 256) (h1 : 0 ≤ l ∧ l < 64) (h2 : 0 ≤ g ∧ g < 256) (h3 : 0 ≤ f ∧ f < 2) (h4 : 0 ≤ o ∧ o < 2) (h5 : 0 ≤ c ∧ c < 4) (h6 : 0 ≤ s ∧ s < 1048576) (h7 : 0 ≤ z ∧ z < 256) :
    serN (tickS [a, l, g, f, o, c, s, z]) = tickS [a, l, g, f, o, c, s, z] := by
  by_cases e1 : l > 0
  · by_cases e2 : l - 1 = 0
    · have e : tickS [a, l, g, f, o, c, s, z] = [a, 0, g, f, o, c, (s + 1) % 1048576, a] := by rw [tickS, if_pos e1, if_pos e2]
      rw [e]; exact serN_idem h0 (by omega) h2 h3 h4 h5 (by omega) h0
    · have e : tickS [a, l, g, f, o, c, s, z] = [a, l - 1, g, f, o, c, s, z] := by rw [tickS, if_pos e1, if_neg e2]
      rw [e]; exact serN_idem h0 (by omega) h2 h3 h4 h5 h6 h7
  · have e : tickS [a, l, g, f, o, c, s, z] = [a, l, g, f, o, c, s, z] := by rw [tickS, if_neg e1]
    rw [e]; exact serN_idem h0 h1 h2 h3 h4 h5 h6 h7
theorem tickS_form {l : List Int} (h : serN l = l) : serN (tickS l) = tickS l := by
  obtain ⟨h0, h1, h2, h3, h4, h5, h6, h7⟩ := sR l
  have := tickS_form8 h0 h1 h2 h3 h4 h5 h6 h7
  rw [← serN_eq, h] at this
  exact this
theorem iterS_form (N : List Int) : ∀ n, serN (iterF tickS n (serN N)) = iterF tickS n (serN N)
  | 0 => serN_form N
  | n + 1 => by rw [iterF_succ]; exact tickS_form (iterS_form N n)
theorem len8 {l : List Int} (h : serN l = l) : l.length ≤ 4611686018427387904 := by
  rw [← h]; exact (by decide : 8 ≤ 4611686018427387904)
theorem its_zero {a g f o c s z : Int} (n : Nat) : iterF tickS n [a, 0, g, f, o, c, s, z] = [a, 0, g, f, o, c, s, z] := iterF_fix rfl n
theorem its_run {a g f o c s z : Int} : ∀ (n : Nat) (l : Int), (n : Int) < l → iterF tickS n [a, l, g, f, o, c, s, z] = [a, l - n, g, f, o, c, s, z]
  | 0, l, _ => by rw [iterF]; simp
  | n + 1, l, h => by
    rw [iterF, tickS, if_pos (by omega), if_neg (by omega), its_run n (l - 1) (by omega)]
    have : l - 1 - (n : Int) = l - ((n + 1 : Nat) : Int) := by omega
    rw [this]
theorem its_end {a l g f o c s z : Int} (hl : 0 < l) (n : Nat) (h : l ≤ n) : iterF tickS n [a, l, g, f, o, c, s, z] = [a, 0, g, f, o, c, (s + 1) % 1048576, a] := by
  have e : n = (l - 1).toNat + ((n - l.toNat) + 1) := by omega
  rw [e, iterF_add, its_run _ _ (by omega)]
  have e1 : l - (((l - 1).toNat : Nat) : Int) = 1 := by omega
  rw [e1, iterF, tickS, if_pos (by omega), if_pos (by omega)]
  exact its_zero _

def sformedS : PSpec := ⟨[gC, gD], fun (c, d, _) => (some (c.2.1 = 5), devR, [.arr (.int .i64) (serN d.1)])⟩
def sfitS : PSpec := ⟨[gD], fun (d, _) => (none, .cell (.own 0), [.arr (.int .i64) (serN d.1)])⟩
def snewS : PSpec := ⟨[], fun _ => (none, devR, [.arr (.int .i64) [0, 0, 0, 0, 0, 0, 0, 0]])⟩
def stickedS : PSpec := ⟨[gC, gD], fun (c, d, _) => (some (c.2.1 = 5), devR, [.arr (.int .i64) (tickS (serN d.1))])⟩
def sskipS : PSpec := ⟨[gD, gi], fun (d, k, _) => (some (k ≤ 4611686018427387904), devR, [.arr (.int .i64) (iterF tickS k.toNat (serN d.1))])⟩
def stickS : PSpec := ⟨[gD], fun (d, _) => (none, devR, [.arr (.int .i64) (tickS (serN d.1))])⟩
def sinN (N : List Int) (k : Int) : List Int := [s0 N, s1 N, if s3 N = 1 then s2 N else k % 256, 1, if s3 N = 1 then 1 else s4 N, s5 N, s6 N, s7 N]
def sinS : PSpec := ⟨[gD, gi], fun (d, k, _) => (none, devR, [.arr (.int .i64) (sinN d.1 k)])⟩
def bitI (b : Bool) : Int := match b with | true => 1 | false => 0
def truthS : PSpec := ⟨[⟨false, .bool⟩], fun (b, _) => (none, I (bitI b), [])⟩
theorem seen_ok : GoodF Try.prog 88 truthS.spec := by
  have hT := tab_ok (fs := []) tree_ok
  have hP : SpecsOk Try.prog (tab tree []) := specs_nil
  refine truthS.good (fn := Try.f88) hT hP Try.func88 (by kernel_rfl) rfl fun (b : Bool) _ => ?_
  repeat' first
    | (refine Go.mk ?_; conv => whnf)
    | refine Need.go ?_ ?_
    | refine NilG.go (fun _ => ?_) (fun _ => ?_)
    | refine Br.dec (fun _ => ?_) (fun _ => ?_)
    | refine Br.go (fun _ => ?_) (fun _ => ?_)
    | refine draw_go hT hP mixed ?_
    | refine round_go hT hP ?_
  all_goals
    rename_i h
    subst h
    exact .mk [] [] _ rfl rfl rfl rfl rfl rfl rfl

/-- three bits of a number, put together by or -/
theorem or_bits (f o : Int) (b : Bool) (h3 : 0 ≤ f ∧ f < 2) (h4 : 0 ≤ o ∧ o < 2) : lor .i64 (lor .i64 f (shl .i64 (bitI b) 1)) (shl .i64 o 2) = f + 2 * bitI b + 4 * o := by
  have e1 : f = 0 ∨ f = 1 := by omega
  have e2 : o = 0 ∨ o = 1 := by omega
  rcases e1 with rfl | rfl <;> rcases e2 with rfl | rfl <;> cases b <;> decide +kernel
theorem tup_reads {x y : Int} (h2 : x = y) : AV.tup [.agg [.own 0, .imm (.slice none 0 0)], I1 x] = AV.tup [.agg [.own 0, .imm (.slice none 0 0)], I1 y] := by rw [h2]
def srF (N : List Int) (a : Int) : Int := pickF [s2 N, s3 N + 2 * bitI (decide (s1 N > 0)) + 4 * s4 N, s5 N] a
def srN (N : List Int) (a : Int) : List Int := [s0 N, s1 N, s2 N, if a = 0 then 0 else s3 N, if a = 1 then 0 else s4 N, s5 N, s6 N, s7 N]
def sreadS : PSpec := ⟨[gD, gi], fun (d, a, _) => (none, .tup [.agg [.own 0, .imm (.slice none 0 0)], I1 (srF d.1 a)], [.arr (.int .i64) (srN d.1 a)])⟩
def serialsS : PSpec := ⟨[], fun _ => (none, .cell (bv true), [])⟩
end Go.Proofs.Ytanaaecfghmmaaa

/- Names: what counts as one. -/
namespace Go.Proofs.Ytanaaecfghmmaaa
open Go.Fw
set_option linter.unusedVariables false
set_option linter.unusedSimpArgs false
set_option linter.constructorNameAsVariable false
set_option maxRecDepth 100000

abbrev gStr : Sig := ⟨false, .str⟩
def letB (c : Int) : Bool := decide ((97 ≤ c ∧ c ≤ 122) ∨ (48 ≤ c ∧ c ≤ 57) ∨ c = 45)
def nameB (l : List Int) : Bool := decide (l.length ≠ 0 ∧ l.length ≤ 20 ∧ 97 ≤ l.getD 0 0 ∧ l.getD 0 0 ≤ 122) && l.all letB
theorem bytes_len (s : ByteArray) : (bytesOf s).length = s.size := by
  unfold bytesOf
  rw [List.length_map, Array.length_toList]; rfl
theorem byte_at (s : ByteArray) (i : Nat) : byteAt s i = (bytesOf s).getD i 0 := by
  unfold byteAt bytesOf
  rw [List.getD_eq_getElem?_getD, List.getD_eq_getElem?_getD, List.getElem?_map]
  cases s.data.toList[i]? <;> rfl
theorem bytes_in (s : ByteArray) : ∀ c ∈ bytesOf s, 0 ≤ c ∧ c < 256 := by
  intro c hc
  unfold bytesOf at hc
  obtain ⟨b, _, rfl⟩ := List.mem_map.1 hc
  have := b.toNat_lt
  omega
theorem strEq_nil {s : ByteArray} : strEq s ⟨#[]⟩ = decide ((bytesOf s).length = 0) := by
  unfold strEq bytesOf
  rw [ByteArray.toList_eq, ByteArray.toList_eq, List.length_map]
  cases s.data.toList with
  | nil => rfl
  | cons a r => rfl
theorem name_no {l : List Int} (h : l.length = 0 ∨ l.length > 20 ∨ l.getD 0 0 < 97 ∨ l.getD 0 0 > 122 ∨ l.all letB = false) : nameB l = false := by
  unfold nameB
  by_cases h2 : l.all letB = false
  · rw [h2, Bool.and_false]
  · rw [decide_eq_false (by rcases h with h | h | h | h | h <;> first | omega | exact absurd h h2), Bool.false_and]
theorem all_take {l : List Int} {k : Nat} (h : k < l.length) (h1 : (l.take k).all letB = true) (h2 : letB (l.getD k 0) = true) : (l.take (k + 1)).all letB = true := by
  rw [List.getD_eq_getElem?_getD, List.getElem?_eq_getElem h] at h2
  rw [List.take_add_one, List.all_append, h1, List.getElem?_eq_getElem h]
  simpa using h2
theorem all_no {l : List Int} {k : Nat} (h : k < l.length) (h2 : letB (l.getD k 0) = false) : l.all letB = false := by
  rw [List.getD_eq_getElem?_getD, List.getElem?_eq_getElem h] at h2
  rw [← Bool.not_eq_true]
  intro e
  have := List.all_eq_true.1 e _ (List.getElem_mem h)
  have h2 : letB l[k] = false := h2
  rw [h2] at this
  cases this
def nameS : PSpec := ⟨[gStr], fun (s, _) => (none, .cell (bv (nameB (bytesOf s))), [])⟩
theorem tName_ok : GoodF Try.prog 19 nameS.spec := by
  have hT := tab_ok (fs := []) tree_ok
  have hP : SpecsOk Try.prog (tab tree []) := specs_nil
  refine nameS.good (fn := Try.f19) hT hP Try.func19 (by kernel_rfl) rfl fun (s : ByteArray) _ => ?_
  repeat' first
    | (refine Go.mk ?_; conv => whnf)
    | refine Need.go ?_ ?_
    | refine NilG.go (fun _ => ?_) (fun _ => ?_)
    | refine Br.dec (fun _ => ?_) (fun _ => ?_)
    | refine Br.go (fun _ => ?_) (fun _ => ?_)
    | refine draw_go hT hP mixed ?_
    | refine round_go hT hP ?_
  all_goals first
    | exact of_decide_eq_true rfl
    | skip
  all_goals (have hL := bytes_len s)
  all_goals (simp only [strEq_nil, byte_at] at *)
  all_goals (have h0 : Int.toNat 0 = 0 := rfl)
  all_goals (try simp only [h0] at *)
  all_goals first
    | (rename_i h
       have h := of_decide_eq_true h
       exact .mk [] [] _ rfl rfl rfl rfl rfl rfl (imm_bool (name_no (.inl h)).symm))
    | (have h : (s.size : Int) > 20 := by assumption
       refine .mk [] [] _ rfl rfl rfl rfl rfl rfl (imm_bool (name_no (.inr (.inl ?_))).symm)
       rw [hL]
       omega)
    | (have h1 : decide ((bytesOf s).length = 0) = false := by assumption
       have h1 := of_decide_eq_false h1
       show 0 ≤ (0 : Int) ∧ (0 : Int) < (s.size : Int)
       omega)
    | (rename_i h
       exact .mk [] [] _ rfl rfl rfl rfl rfl rfl (imm_bool (name_no (.inr (.inr (.inl h)))).symm))
    | (rename_i h
       exact .mk [] [] _ rfl rfl rfl rfl rfl rfl (imm_bool (name_no (.inr (.inr (.inr (.inl h))))).symm))
    | skip
  have g1 : decide ((bytesOf s).length = 0) = false := by assumption
  have g1 := of_decide_eq_false g1
  have g2 : ¬ (s.size : Int) > 20 := by assumption
  have g3 : ¬ (bytesOf s).getD 0 0 < 97 := by assumption
  have g4 : ¬ (bytesOf s).getD 0 0 > 122 := by assumption
  have hF : nameB (bytesOf s) = (bytesOf s).all letB := by
    unfold nameB
    rw [decide_eq_true ⟨g1, by omega, by omega, by omega⟩, Bool.true_and]
  refine up_go hT hP (A := Unit) (bytesOf s).length (fun i _ => St.mk [.dead, .dead, .dead, .dead, .dead, .dead, .dead, .dead, .dead, .dead, .dead, .dead, .dead, .dead, .dead, .dead, .dead, .dead, .dead, .dead, .dead, .dead, .dead, .cell (.ro (.int .u8) (bytesOf s)), I ((bytesOf s).length : Int), I i, .dead, .dead, .dead, .dead, .dead, .dead, .dead, .dead, .dead, .dead, .dead, .dead, .dead, .dead, .dead, .dead, .dead, .dead, .dead, .dead, .dead, .dead, .dead] [])
    (fun k _ => ((bytesOf s).take k).all letB = true) () (Le.mk [] [] rfl rfl rfl ?_) (by simp) fun k _ hk hi => ?_
  · repeat' first | exact trivial | exact ⟨rfl, rfl⟩ | refine And.intro ?_ ?_
  repeat' first
    | (refine Go.mk ?_; conv => whnf)
    | refine Need.go ?_ ?_
    | refine NilG.go (fun _ => ?_) (fun _ => ?_)
    | refine Br.dec (fun _ => ?_) (fun _ => ?_)
    | refine Br.go (fun _ => ?_) (fun _ => ?_)
    | refine draw_go hT hP mixed ?_
    | refine round_go hT hP ?_
  all_goals
    have ec : List.getD (α := Den (.int .u8)) (bytesOf s) ((k : Int)).toNat (dflt (.int .u8)) = (bytesOf s).getD k 0 := rfl
    try simp only [ec] at *
    clear ec
  all_goals clear hT hP
  all_goals
    generalize hc : (bytesOf s).getD k 0 = c at *
  all_goals (try simp only [cond_false, Bool.not_eq_true', Bool.not_eq_false', beq_iff_eq, beq_eq_false_iff_ne] at *)
  have hlen : (bytesOf s).length ≤ 20 := by omega
  all_goals first
    | exact of_decide_eq_true rfl
    | (show 0 ≤ (k : Int) ∧ (k : Int) < ((bytesOf s).length : Int)
       omega)
    | (have hb : letB c = false := decide_eq_false (by omega)
       refine .mk [] [] _ rfl rfl rfl rfl rfl rfl (imm_bool ?_)
       rw [hF, all_no (k := k) (by omega) (by rw [hc]; exact hb)])
    | (have hb : letB c = true := decide_eq_true (by omega)
       apply Exists.intro
       apply Exists.intro ()
       refine And.intro (And.intro ?lt (And.intro ?ei ?inv)) (Le.mk [] [] rfl rfl ?hh ?ht)
       case hh => exact rfl
       case ht => repeat' first | exact trivial | exact ⟨rfl, rfl⟩ | refine And.intro ?_ ?_
       case lt => omega
       case ei => exact up_i (by omega)
       case inv => exact all_take (by omega) hi (by rw [hc]; exact hb))
    | (refine .mk [] [] _ rfl rfl rfl rfl rfl rfl (imm_bool ?_)
       rw [hF]
       rw [List.take_of_length_le (by omega)] at hi
       exact hi.symm)
    | skip
  all_goals trace_state

end Go.Proofs.Ytanaaecfghmmaaa

/- Tables of instructions: how long an operand is; a table without instructions. -/
namespace Go.Proofs.Ytanaaecfghmmaaa
open Go.Fw
set_option linter.unusedVariables false
set_option linter.unusedSimpArgs false
set_option linter.constructorNameAsVariable false
set_option maxRecDepth 100000

def sizeI (m : Int) : Int := if m = 0 then 0 else if m = 4 ∨ m = 5 ∨ m = 6 then 2 else if m = 1 ∨ m = 2 ∨ m = 3 ∨ m = 7 ∨ m = 8 then 1 else -1
def tsizeS : PSpec := ⟨[gi], fun (m, _) => (none, I (sizeI m), [])⟩
theorem tSize_ok : GoodF Try.prog 23 tsizeS.spec := by
  have hT := tab_ok (fs := []) tree_ok
  have hP : SpecsOk Try.prog (tab tree []) := specs_nil
  refine tsizeS.good (fn := Try.f23) hT hP Try.func23 (by kernel_rfl) rfl fun (m : Int) _ => ?_
  repeat' first
    | (refine Go.mk ?_; conv => whnf)
    | refine Need.go ?_ ?_
    | refine NilG.go (fun _ => ?_) (fun _ => ?_)
    | refine Br.dec (fun _ => ?_) (fun _ => ?_)
    | refine Br.go (fun _ => ?_) (fun _ => ?_)
    | refine draw_go hT hP mixed ?_
    | refine round_go hT hP ?_
  all_goals (refine .mk [] [] _ rfl rfl rfl rfl rfl rfl (imm_int ?_))
  all_goals clear hT hP
  all_goals (show _ = sizeI m; unfold sizeI; dsimp only [gi, Den] at *)
  all_goals ((repeat' split) <;> first | rfl | omega)
theorem rOperand_ok : GoodF Try.prog 24 tsizeS.spec := by
  have hT := tab_ok (fs := []) tree_ok
  have hP : SpecsOk Try.prog (tab tree []) := specs_nil
  refine tsizeS.good (fn := Try.f24) hT hP Try.func24 (by kernel_rfl) rfl fun (m : Int) _ => ?_
  repeat' first
    | (refine Go.mk ?_; conv => whnf)
    | refine Need.go ?_ ?_
    | refine NilG.go (fun _ => ?_) (fun _ => ?_)
    | refine Br.dec (fun _ => ?_) (fun _ => ?_)
    | refine Br.go (fun _ => ?_) (fun _ => ?_)
    | refine draw_go hT hP mixed ?_
    | refine round_go hT hP ?_
  all_goals first
    | exact of_decide_eq_true rfl
    | (dsimp only [gi, Den] at *; simp only [List.length_cons, List.length_nil] at *; omega)
    | skip
  all_goals (refine .mk [] [] _ rfl rfl rfl rfl rfl rfl (imm_int ?_))
  all_goals clear hT hP
  all_goals (dsimp only [gi, Den] at *)
  all_goals (try simp only [List.length_cons, List.length_nil] at *)
  all_goals first
    | (show _ = sizeI m; unfold sizeI; (repeat' split) <;> first | rfl | omega)
    | skip
  · have hm : m = 0 ∨ m = 1 ∨ m = 2 ∨ m = 3 ∨ m = 4 ∨ m = 5 ∨ m = 6 ∨ m = 7 ∨ m = 8 := by omega
    rcases hm with rfl | rfl | rfl | rfl | rfl | rfl | rfl | rfl | rfl <;> rfl
def cycles0S : PSpec := ⟨[⟨false, .sl CycT⟩], fun (l, _) => (some (l = []), I 0, [])⟩
theorem cycles0_ok : GoodF Try.prog 59 cycles0S.spec := by
  have hT := tab_ok (fs := []) tree_ok
  have hP : SpecsOk Try.prog (tab tree []) := specs_nil
  refine cycles0S.good (fn := Try.f59) hT hP Try.func59 (by kernel_rfl) rfl fun (l : List Cyc) hq => ?_
  obtain rfl : l = [] := hq _ rfl
  clear hq
  repeat' first
    | (refine Go.mk ?_; conv => whnf)
    | refine Need.go ?_ ?_
    | refine NilG.go (fun _ => ?_) (fun _ => ?_)
    | refine Br.dec (fun _ => ?_) (fun _ => ?_)
    | refine Br.go (fun _ => ?_) (fun _ => ?_)
    | refine draw_go hT hP mixed ?_
    | refine round_go hT hP ?_
  refine loop_unroll 1 ?_
  repeat' first
    | (refine Go.mk ?_; conv => whnf)
    | refine Need.go ?_ ?_
    | refine NilG.go (fun _ => ?_) (fun _ => ?_)
    | refine Br.dec (fun _ => ?_) (fun _ => ?_)
    | refine Br.go (fun _ => ?_) (fun _ => ?_)
    | refine draw_go hT hP mixed ?_
    | refine round_go hT hP ?_
  all_goals exact .mk [] [] _ rfl rfl rfl rfl rfl rfl rfl
def check0S : PSpec := ⟨[gCpu], fun (c, _) => (some (c.2 = ([], [], [], [])), I (if nameB (bytesOf c.1) = true then 0 else 15), [])⟩
theorem check0_ok : GoodF Try.prog 21 check0S.spec := by
  have hT := tab_ok (fs := [(19, nameS.spec), (59, cycles0S.spec)]) tree_ok
  have hP : SpecsOk Try.prog (tab tree [(19, nameS.spec), (59, cycles0S.spec)]) := specs_cons tName_ok (specs_cons cycles0_ok specs_nil)
  refine check0S.good (fn := Try.f21) hT hP Try.func21 (by kernel_rfl) rfl fun (c : Cpu) hq => ?_
  obtain ⟨cn, c2⟩ := c
  obtain rfl : c2 = ([], [], [], []) := hq _ rfl
  clear hq
  repeat' first
    | (refine Go.mk ?_; conv => whnf)
    | refine Need.go ?_ ?_
    | refine NilG.go (fun _ => ?_) (fun _ => ?_)
    | refine Br.dec (fun _ => ?_) (fun _ => ?_)
    | refine Br.go (fun _ => ?_) (fun _ => ?_)
    | refine draw_go hT hP mixed ?_
    | refine round_go hT hP ?_
  all_goals first
    | exact of_decide_eq_true rfl
    | skip
  · rename_i h
    have hn : nameB (bytesOf cn) = false := by
      have h : (!nameB (bytesOf cn)) = true := h
      simpa using h
    refine .mk [] [] _ rfl rfl rfl rfl rfl rfl (imm_int ?_)
    show 15 = if nameB (bytesOf cn) = true then 0 else 15
    rw [hn]; rfl
  rename_i h
  have hn : nameB (bytesOf cn) = true := by
    have h : (!nameB (bytesOf cn)) = false := h
    simpa using h
  refine loop_unroll 1 ?_
  repeat' first
    | (refine Go.mk ?_; conv => whnf)
    | refine Need.go ?_ ?_
    | refine NilG.go (fun _ => ?_) (fun _ => ?_)
    | refine Br.dec (fun _ => ?_) (fun _ => ?_)
    | refine Br.go (fun _ => ?_) (fun _ => ?_)
    | refine draw_go hT hP mixed ?_
    | refine round_go hT hP ?_
  refine loop_unroll 4 ?_
  repeat' first
    | (refine Go.mk ?_; conv => whnf)
    | refine Need.go ?_ ?_
    | refine NilG.go (fun _ => ?_) (fun _ => ?_)
    | refine Br.dec (fun _ => ?_) (fun _ => ?_)
    | refine Br.go (fun _ => ?_) (fun _ => ?_)
    | refine draw_go hT hP mixed ?_
    | refine round_go hT hP ?_
  all_goals first
    | exact of_decide_eq_true rfl
    | exact rfl
    | skip
  all_goals (refine .mk [] [] _ rfl rfl rfl rfl rfl rfl (imm_int ?_))
  all_goals (show 0 = if nameB (bytesOf cn) = true then 0 else 15; rw [hn]; rfl)

def tablesS : PSpec := ⟨[], fun _ => (none, .cell (bv true), [])⟩
theorem tables_ok : GoodF Try.prog 18 tablesS.spec := by
  have hT := tab_ok (fs := [(23, tsizeS.spec), (21, check0S.spec)]) tree_ok
  have hP : SpecsOk Try.prog (tab tree [(23, tsizeS.spec), (21, check0S.spec)]) := specs_cons tSize_ok (specs_cons check0_ok specs_nil)
  refine tablesS.good (fn := Try.f18) hT hP Try.func18 (by kernel_rfl) rfl fun _ => ?_
  repeat' first
    | (refine Go.mk ?_; conv => whnf)
    | refine Need.go ?_ ?_
    | refine NilG.go (fun _ => ?_) (fun _ => ?_)
    | refine Br.dec (fun _ => ?_) (fun _ => ?_)
    | refine Br.go (fun _ => ?_) (fun _ => ?_)
    | refine draw_go hT hP mixed ?_
    | refine round_go hT hP ?_
  all_goals first
    | exact of_decide_eq_true rfl
    | exact rfl
    | skip
  refine .mk [] [] _ rfl rfl rfl rfl rfl rfl (imm_bool ?_)
  decide +kernel

end Go.Proofs.Ytanaaecfghmmaaa

/- Steps of a cycle: are they well-formed? -/
namespace Go.Proofs.Ytanaaecfghmmaaa
open Go.Fw
set_option linter.unusedVariables false
set_option linter.unusedSimpArgs false
set_option linter.constructorNameAsVariable false
set_option maxRecDepth 100000

def regB (r : Int) : Bool := bif decide (r ≥ 0) then decide (r < 9) else false
def tregS : PSpec := ⟨[gi], fun (r, _) => (none, .cell (bv (regB r)), [])⟩
theorem treg_ok : GoodF Try.prog 114 tregS.spec := by
  have hT := tab_ok (fs := []) tree_ok
  have hP : SpecsOk Try.prog (tab tree []) := specs_nil
  refine tregS.good (fn := Try.f114) hT hP Try.func114 (by kernel_rfl) rfl fun (r : Int) _ => ?_
  repeat' first
    | (refine Go.mk ?_; conv => whnf)
    | refine Need.go ?_ ?_
    | refine NilG.go (fun _ => ?_) (fun _ => ?_)
    | refine Br.dec (fun _ => ?_) (fun _ => ?_)
    | refine Br.go (fun _ => ?_) (fun _ => ?_)
    | refine draw_go hT hP mixed ?_
    | refine round_go hT hP ?_
  all_goals (refine .mk [] [] _ rfl rfl rfl rfl rfl rfl (imm_bool ?_))
  all_goals (unfold regB; simp_all)
  all_goals omega
def useT (d : Int) : Int × Int × Bool :=
  if d = 1 then (115, 115, false) else if d = 2 then (97, 0, true) else if d = 3 ∨ d = 12 ∨ d = 13 ∨ d = 14 ∨ d = 15 then (98, 0, false) else if d = 4 ∨ d = 5 ∨ d = 6 ∨ d = 7 ∨ d = 8 ∨ d = 9 then (98, 98, false)
  else if d = 10 ∨ d = 11 then (97, 0, false) else if d = 16 ∨ d = 17 then (0, 0, true) else if d = 18 ∨ d = 19 ∨ d = 22 ∨ d = 23 then (119, 98, false) else if d = 20 ∨ d = 21 then (98, 119, false) else (0, 0, false)
def tusesS : PSpec := ⟨[gi], fun (d, _) => (none, .tup [.c (.imm (.int .u8 (useT d).1)), .c (.imm (.int .u8 (useT d).2.1)), .c (bv (useT d).2.2)], [])⟩
theorem tup_u {x y : Int × Int × Bool} (h : x = y) : AV.tup [.c (.imm (.int .u8 x.1)), .c (.imm (.int .u8 x.2.1)), .c (bv x.2.2)] = AV.tup [.c (.imm (.int .u8 y.1)), .c (.imm (.int .u8 y.2.1)), .c (bv y.2.2)] := by rw [h]
theorem tuses_ok : GoodF Try.prog 129 tusesS.spec := by
  have hT := tab_ok (fs := []) tree_ok
  have hP : SpecsOk Try.prog (tab tree []) := specs_nil
  refine tusesS.good (fn := Try.f129) hT hP Try.func129 (by kernel_rfl) rfl fun (d : Int) _ => ?_
  repeat' first
    | (refine Go.mk ?_; conv => whnf)
    | refine Need.go ?_ ?_
    | refine NilG.go (fun _ => ?_) (fun _ => ?_)
    | refine Br.dec (fun _ => ?_) (fun _ => ?_)
    | refine Br.go (fun _ => ?_) (fun _ => ?_)
    | refine draw_go hT hP mixed ?_
    | refine round_go hT hP ?_
  all_goals clear hT hP
  all_goals first
    | (rename_i g
       have g : d = _ := g
       subst g
       exact .mk [] [] _ rfl rfl rfl rfl rfl rfl rfl)
    | skip
  refine .mk [] [] _ rfl rfl rfl rfl rfl rfl (tup_u (x := (0, 0, false)) ?_)
  unfold useT
  simp_all
def fitB (r n : Int) : Bool := if n = 0 then decide (r = 0) else if n = 119 then (bif regB r then wideB r else false) else if n = 98 then (bif regB r then !wideB r else false) else regB r
def tfitsS : PSpec := ⟨[gi, ⟨false, .int .u8⟩], fun (r, n, _) => (none, .cell (bv (fitB r n)), [])⟩
theorem tfits_ok : GoodF Try.prog 130 tfitsS.spec := by
  have hT := tab_ok (fs := [(114, tregS.spec), (25, wideS.spec)]) tree_ok
  have hP : SpecsOk Try.prog (tab tree [(114, tregS.spec), (25, wideS.spec)]) := specs_cons treg_ok (specs_cons tWide_ok specs_nil)
  refine tfitsS.good (fn := Try.f130) hT hP Try.func130 (by kernel_rfl) rfl fun (r n : Int) _ => ?_
  repeat' first
    | (refine Go.mk ?_; conv => whnf)
    | refine Need.go ?_ ?_
    | refine NilG.go (fun _ => ?_) (fun _ => ?_)
    | refine Br.dec (fun _ => ?_) (fun _ => ?_)
    | refine Br.go (fun _ => ?_) (fun _ => ?_)
    | refine draw_go hT hP mixed ?_
    | refine round_go hT hP ?_
  all_goals clear hT hP
  all_goals (refine .mk [] [] _ rfl rfl rfl rfl rfl rfl (imm_bool ?_))
  all_goals (show _ = fitB r n; unfold fitB; simp_all)
  all_goals rfl
/-- what is wrong with a step (8: its kind, 1: its arguments) -/
def mostI (s : Stp) : Int := if (useT s.1).2.2 = false then 0 else if s.1 = 2 ∧ (regB s.2.1 = true ∧ wideB s.2.1 = true) then 65535 else 255
def stpE (s : Stp) : Int :=
  if s.1 < 0 ∨ s.1 ≥ 25 then 8 else
  if s.1 = 24 then (if s.2.1 ≠ 0 ∨ s.2.2.1 < 0 ∨ s.2.2.1 > 1 ∨ s.2.2.2 < 0 ∨ s.2.2.2 > 255 then 1 else 0) else
  if fitB s.2.1 (useT s.1).1 = false ∨ fitB s.2.2.1 (useT s.1).2.1 = false ∨ ((useT s.1).1 = 115 ∧ wideB s.2.1 ≠ wideB s.2.2.1) ∨ s.2.2.2 < 0 ∨ s.2.2.2 > mostI s then 1 else 0
abbrev gStep : Sig := ⟨true, StepT⟩
def tstepS : PSpec := ⟨[gStep], fun (s, _) => (none, I (stpE s), [])⟩
set_option maxHeartbeats 4000000 in
theorem tstep_ok : GoodF Try.prog 115 tstepS.spec := by
  have hT := tab_ok (fs := [(114, tregS.spec), (25, wideS.spec), (129, tusesS.spec), (130, tfitsS.spec)]) tree_ok
  have hP : SpecsOk Try.prog (tab tree [(114, tregS.spec), (25, wideS.spec), (129, tusesS.spec), (130, tfitsS.spec)]) := specs_cons treg_ok (specs_cons tWide_ok (specs_cons tuses_ok (specs_cons tfits_ok specs_nil)))
  refine tstepS.good (fn := Try.f115) hT hP Try.func115 (by kernel_rfl) rfl fun (s : Stp) _ => ?_
  obtain ⟨sd, st, sf, sn⟩ := s
  repeat' first
    | (refine Go.mk ?_; conv => whnf)
    | refine Need.go ?_ ?_
    | refine NilG.go (fun _ => ?_) (fun _ => ?_)
    | refine Br.dec (fun _ => ?_) (fun _ => ?_)
    | refine Br.go (fun _ => ?_) (fun _ => ?_)
    | refine draw_go hT hP mixed ?_
    | refine round_go hT hP ?_
  all_goals clear hT hP
  all_goals (refine .mk [] [] _ rfl rfl rfl rfl rfl rfl (imm_int ?_))
  all_goals (show _ = stpE (sd, st, sf, sn); unfold stpE mostI wideB)
  all_goals (simp_all)
  all_goals (try omega)
  all_goals first
    | (exfalso
       have h2 : (useT 2).1 = 115 := by assumption
       exact absurd h2 (by decide))
    | (simp_all [wideB]; done)
    | (simp_all [wideB]; omega)

end Go.Proofs.Ytanaaecfghmmaaa

/- Steps of a cycle: what the reference says, the contract. -/
namespace Go.Proofs.Ytanaaecfghmmaaa
open Go.Fw
set_option linter.unusedVariables false
set_option linter.unusedSimpArgs false
set_option linter.constructorNameAsVariable false
set_option maxRecDepth 100000

theorem do_in {k : Int} (h : k < 0 ∨ k > 24) (g : ¬ k < 0) (g2 : ¬ k > 24) : False := by omega
def rstepS (d : Int) : PSpec := ⟨[gStep], fun (s, _) => (some (s.1 = d), I (stpE s), [])⟩
def rstepXS : PSpec := ⟨[gStep], fun (s, _) => (some (s.1 < 0 ∨ s.1 > 24), I (stpE s), [])⟩

end Go.Proofs.Ytanaaecfghmmaaa

