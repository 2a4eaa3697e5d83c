/- Numbers as bytes: the two walks. -/
import Derived.Test.YthpijepbbpcjeaaEncLaw
namespace Go.Proofs.Ythpijepbbpcjeaa
open Go.Fw
set_option linter.unusedVariables false
set_option linter.unusedSimpArgs false
set_option linter.constructorNameAsVariable false
set_option maxRecDepth 100000

structure PutX where
  nil : Bool
  l : List Int
  n : Int
def putRd : List V1 → List Blk → Option PutX := fun a b => match a, b with
  | [.c (.imm (.slice none 0 0)), .c (.imm (.int .i64 n))], [] => some ⟨true, [], n⟩
  | [.c (.own 0), .c (.imm (.int .i64 n))], [.arr (.int .u8) l] => some ⟨false, l, n⟩
  | _, _ => none
def putArgs : PutX → List V1
  | ⟨true, _, n⟩ => [.c (.imm (.slice none 0 0)), .c (iv .i64 n)]
  | ⟨false, _, n⟩ => [.c (.own 0), .c (iv .i64 n)]
def putBl : PutX → List Blk
  | ⟨true, _, _⟩ => []
  | ⟨false, l, _⟩ => [.arr (.int .u8) l]
theorem putRd_ok {a : List V1} {b : List Blk} {x : PutX} (h : putRd a b = some x) : a = putArgs x ∧ b = putBl x := by
  unfold putRd at h
  split at h
  · injection h with h; subst h; exact ⟨rfl, rfl⟩
  · injection h with h; subst h; exact ⟨rfl, rfl⟩
  · cases h
def putP (x : PutX) : Prop := i64P x.n ∧ x.l.length ≤ 35184372088832 ∧ (x.nil = true → x.l = [])
def putOut : PutX → Option Prop × AV × List (Option Blk) × List Blk
  | ⟨true, l, n⟩ => (some (putP ⟨true, l, n⟩), .cell (.own 0), [], [.arr (.int .u8) (encI n)])
  | ⟨false, l, n⟩ => (some (putP ⟨false, l, n⟩), .cell (.own 1), [none], [.arr (.int .u8) (l ++ encI n)])
def putWS : WSpec := ⟨PutX, putArgs, putBl, putRd, putOut⟩
theorem blk_u8 {l l' : List Int} (h : l = l') : [some (Blk.arr (.int .u8) l)] = [some (Blk.arr (.int .u8) l')] := by rw [h]
def putI (l0 : List Int) (n : Int) (f : Bool) (l : List Int) (u : Int) : Prop := (0 ≤ u ∧ u < 18446744073709551616) ∧ l ++ enc7 u.toNat = l0 ++ encI n ∧ (f = true → l = l0)
theorem putI_len {l0 l : List Int} {n u : Int} {f : Bool} (hn : i64P n) (h : putI l0 n f l u) : l.length + 1 ≤ l0.length + 10 := by
  have h1 := congrArg List.length h.2.1
  rw [List.length_append, List.length_append] at h1
  have h2 := enc7_pos u.toNat
  have h3 := encI_len hn
  omega
theorem putI_go {l0 l : List Int} {n u : Int} {f : Bool} (h : putI l0 n f l u) (hu : u ≥ 128) : putI l0 n false (l ++ [lor .u8 (IntKind.u8.wrap u) 128]) (shr .u64 u 7) := by
  obtain ⟨h1, h2, h3⟩ := h
  refine ⟨by rw [shr7_u64]; omega, ?_, fun h => by cases h⟩
  rw [enc7_ge (by omega)] at h2
  rw [← h2, shr7_u64, wu8, or128_u8 _ (by omega) (by omega), List.append_assoc]
  congr 2
  simp only [List.singleton_append]
  congr 1
  · omega
  · congr 1; omega
theorem putI_end {l0 l : List Int} {n u : Int} {f : Bool} (h : putI l0 n f l u) (hu : ¬ u ≥ 128) : l ++ [IntKind.u8.wrap u] = l0 ++ encI n := by
  obtain ⟨h1, h2, h3⟩ := h
  rw [enc7_lt (by omega)] at h2
  rw [← h2, wu8]
  congr 2
  omega
theorem putI_pos {l0 : List Int} {n : Int} {f : Bool} (hn : i64P n) (h : ¬ n < 0) : putI l0 n f l0 (shl .u64 (IntKind.u64.wrap n) 1) := by
  unfold i64P at hn
  rw [wu64, shl1_u64]
  refine ⟨by omega, ?_, fun _ => rfl⟩
  unfold encI zig
  rw [if_neg h]
  congr 2; omega
theorem putI_neg {l0 : List Int} {n : Int} {f : Bool} (hn : i64P n) (h : n < 0) : putI l0 n f l0 (lxor .u64 (if IntKind.u64.signed then -1 else IntKind.u64.max) (shl .u64 (IntKind.u64.wrap n) 1)) := by
  unfold i64P at hn
  rw [wu64, shl1_u64, lnot_u64 (by omega)]
  refine ⟨by omega, ?_, fun _ => rfl⟩
  unfold encI zig
  rw [if_pos h]
  congr 2; omega
theorem blk_n8 {l l' : List Int} (h : l = l') : [none, some (Blk.arr (.int .u8) l)] = [none, some (Blk.arr (.int .u8) l')] := by rw [h]
def putS1 : Bool × List Int × Int → St := fun (f, l, u) => match f with
  | true => St.mk [.cell (.imm (.slice none 0 0)), .dead, .dead, .dead, .dead, .cell (iv .u64 u), .dead, .dead, .dead, .dead, .dead, .dead, .dead, .dead, .dead, .dead, .dead, .dead, .dead, .dead, .dead, .dead, .dead, .dead, .dead, .dead, .dead, .dead] []
  | false => St.mk [.cell (.own 0), .dead, .dead, .dead, .dead, .cell (iv .u64 u), .dead, .dead, .dead, .dead, .dead, .dead, .dead, .dead, .dead, .dead, .dead, .dead, .dead, .dead, .dead, .dead, .dead, .dead, .dead, .dead, .dead, .dead] [some (.arr (.int .u8) l)]
def putS2 : Bool × List Int × Int → St := fun (f, l, u) => match f with
  | true => St.mk [.cell (.own 0), .dead, .dead, .dead, .dead, .cell (iv .u64 u), .dead, .dead, .dead, .dead, .dead, .dead, .dead, .dead, .dead, .dead, .dead, .dead, .dead, .dead, .dead, .dead, .dead, .dead, .dead, .dead, .dead, .dead] [some (.arr (.int .u8) l)]
  | false => St.mk [.cell (.own 1), .dead, .dead, .dead, .dead, .cell (iv .u64 u), .dead, .dead, .dead, .dead, .dead, .dead, .dead, .dead, .dead, .dead, .dead, .dead, .dead, .dead, .dead, .dead, .dead, .dead, .dead, .dead, .dead, .dead] [none, some (.arr (.int .u8) l)]
set_option maxHeartbeats 4000000 in
theorem saveput_ok : Good Try.prog 101 putWS.spec := by
  have hT := tab_ok (fs := []) tree_ok
  have hP : SpecsOk Try.prog (tab tree []) := specs_nil
  refine putWS.good (fn := Try.f101) hT hP Try.func101 (by kernel_rfl) rfl (fun _ _ _ h => putRd_ok h) fun (x : PutX) hq => ?_
  obtain ⟨nil, l, n⟩ := x
  cases nil with
  | true =>
    obtain ⟨hn, hl, hx⟩ : putP ⟨true, l, n⟩ := hq _ rfl
    obtain rfl : l = [] := hx rfl
    clear hq
    repeat' first
      | (refine Go.mk ?_; conv => whnf)
      | refine Need.go ?_ ?_
      | refine NilG.go (fun _ => ?_) (fun _ => ?_)
      | refine Br.dec (fun _ => ?_) (fun _ => ?_)
      | refine Br.go (fun _ => ?_) (fun _ => ?_)
      | refine draw_go hT hP mixed ?_
      | refine round_go hT hP ?_
    all_goals first
      | exact of_decide_eq_true rfl
      | skip
    all_goals first
    | refine loop_go hT hP (X := Bool × List Int × Int) putS1 (fun (f, l, u) => putI [] n f l u) (fun (f, l, u) => u.toNat) (true, [], shl .u64 (IntKind.u64.wrap n) 1) (Le.mk [] [] rfl rfl (by exact rfl) (by repeat' first | exact trivial | exact ⟨rfl, rfl⟩ | refine And.intro ?_ ?_)) (putI_pos hn (by assumption)) fun (f, l', u) hi => ?_
    | refine loop_go hT hP (X := Bool × List Int × Int) putS1 (fun (f, l, u) => putI [] n f l u) (fun (f, l, u) => u.toNat) (true, [], lxor .u64 (if IntKind.u64.signed then -1 else IntKind.u64.max) (shl .u64 (IntKind.u64.wrap n) 1)) (Le.mk [] [] rfl rfl (by exact rfl) (by repeat' first | exact trivial | exact ⟨rfl, rfl⟩ | refine And.intro ?_ ?_)) (putI_neg hn (by assumption)) fun (f, l', u) hi => ?_
    all_goals
      have hlen := putI_len hn hi
      cases f with
      | true =>
        obtain rfl : l' = [] := hi.2.2 rfl
        repeat' first
          | (refine Go.mk ?_; conv => whnf)
          | refine Need.go ?_ ?_
          | refine NilG.go (fun _ => ?_) (fun _ => ?_)
          | refine Br.dec (fun _ => ?_) (fun _ => ?_)
          | refine Br.go (fun _ => ?_) (fun _ => ?_)
          | refine draw_go hT hP mixed ?_
          | refine round_go hT hP ?_
        all_goals first
          | exact of_decide_eq_true rfl
          | (show (l'.length + 1) * 1 ≤ 70368744177664
             simp only [List.length_nil] at hlen
             omega)
          | (rename_i h
             exact .mk [] [1] _ rfl rfl rfl rfl rfl (blk_u8 (putI_end hi h)) rfl)
          | (rename_i h
             have h : u ≥ 128 := h
             apply Exists.intro (false, _, _)
             refine And.intro ?_ (And.intro ?_ (Le.mk [] [1] rfl rfl ?hh ?ht))
             case hh => exact rfl
             case ht => repeat' first | exact trivial | exact ⟨rfl, rfl⟩ | refine And.intro ?_ ?_
             · exact putI_go hi h
             · show (shr .u64 u 7).toNat < u.toNat
               rw [shr7_u64]; omega)
          | skip
      | false =>
        repeat' first
          | (refine Go.mk ?_; conv => whnf)
          | refine Need.go ?_ ?_
          | refine NilG.go (fun _ => ?_) (fun _ => ?_)
          | refine Br.dec (fun _ => ?_) (fun _ => ?_)
          | refine Br.go (fun _ => ?_) (fun _ => ?_)
          | refine draw_go hT hP mixed ?_
          | refine round_go hT hP ?_
        all_goals first
          | exact of_decide_eq_true rfl
          | (show (l'.length + 1) * 1 ≤ 70368744177664
             simp only [List.length_nil] at hlen
             omega)
          | (rename_i h
             exact .mk [] [2] _ rfl rfl rfl rfl rfl (blk_u8 (putI_end hi h)) rfl)
          | (rename_i h
             have h : u ≥ 128 := h
             apply Exists.intro (false, _, _)
             refine And.intro ?_ (And.intro ?_ (Le.mk [] [2] rfl rfl ?hh ?ht))
             case hh => exact rfl
             case ht => repeat' first | exact trivial | exact ⟨rfl, rfl⟩ | refine And.intro ?_ ?_
             · exact putI_go hi h
             · show (shr .u64 u 7).toNat < u.toNat
               rw [shr7_u64]; omega)
          | skip
  | false =>
    obtain ⟨hn, hl, hx⟩ : putP ⟨false, l, n⟩ := hq _ rfl
    clear hq
    repeat' first
      | (refine Go.mk ?_; conv => whnf)
      | refine Need.go ?_ ?_
      | refine NilG.go (fun _ => ?_) (fun _ => ?_)
      | refine Br.dec (fun _ => ?_) (fun _ => ?_)
      | refine Br.go (fun _ => ?_) (fun _ => ?_)
      | refine draw_go hT hP mixed ?_
      | refine round_go hT hP ?_
    all_goals first
      | exact of_decide_eq_true rfl
      | skip
    all_goals first
    | refine loop_go hT hP (X := Bool × List Int × Int) putS2 (fun (f, l', u) => putI l n f l' u) (fun (f, l, u) => u.toNat) (true, l, shl .u64 (IntKind.u64.wrap n) 1) (Le.mk [] [0] rfl rfl (by exact rfl) (by repeat' first | exact trivial | exact ⟨rfl, rfl⟩ | refine And.intro ?_ ?_)) (putI_pos hn (by assumption)) fun (f, l', u) hi => ?_
    | refine loop_go hT hP (X := Bool × List Int × Int) putS2 (fun (f, l', u) => putI l n f l' u) (fun (f, l, u) => u.toNat) (true, l, lxor .u64 (if IntKind.u64.signed then -1 else IntKind.u64.max) (shl .u64 (IntKind.u64.wrap n) 1)) (Le.mk [] [0] rfl rfl (by exact rfl) (by repeat' first | exact trivial | exact ⟨rfl, rfl⟩ | refine And.intro ?_ ?_)) (putI_neg hn (by assumption)) fun (f, l', u) hi => ?_
    all_goals
      have hlen := putI_len hn hi
      cases f with
      | true =>
        obtain rfl : l' = l := hi.2.2 rfl
        repeat' first
          | (refine Go.mk ?_; conv => whnf)
          | refine Need.go ?_ ?_
          | refine NilG.go (fun _ => ?_) (fun _ => ?_)
          | refine Br.dec (fun _ => ?_) (fun _ => ?_)
          | refine Br.go (fun _ => ?_) (fun _ => ?_)
          | refine draw_go hT hP mixed ?_
          | refine round_go hT hP ?_
        all_goals first
          | exact of_decide_eq_true rfl
          | (show (l'.length + 1) * 1 ≤ 70368744177664
             have hl : l'.length ≤ 35184372088832 := hl
             omega)
          | (rename_i h
             exact .mk [] [0, 2] _ rfl rfl rfl rfl rfl (blk_n8 (putI_end hi h)) rfl)
          | (rename_i h
             have h : u ≥ 128 := h
             apply Exists.intro (false, _, _)
             refine And.intro ?_ (And.intro ?_ (Le.mk [] [0, 2] rfl rfl ?hh ?ht))
             case hh => exact rfl
             case ht => repeat' first | exact trivial | exact ⟨rfl, rfl⟩ | refine And.intro ?_ ?_
             · exact putI_go hi h
             · show (shr .u64 u 7).toNat < u.toNat
               rw [shr7_u64]; omega)
          | skip
      | false =>
        repeat' first
          | (refine Go.mk ?_; conv => whnf)
          | refine Need.go ?_ ?_
          | refine NilG.go (fun _ => ?_) (fun _ => ?_)
          | refine Br.dec (fun _ => ?_) (fun _ => ?_)
          | refine Br.go (fun _ => ?_) (fun _ => ?_)
          | refine draw_go hT hP mixed ?_
          | refine round_go hT hP ?_
        all_goals first
          | exact of_decide_eq_true rfl
          | (show (l'.length + 1) * 1 ≤ 70368744177664
             have hl : l.length ≤ 35184372088832 := hl
             omega)
          | (rename_i h
             exact .mk [] [0, 3] _ rfl rfl rfl rfl rfl (blk_n8 (putI_end hi h)) rfl)
          | (rename_i h
             have h : u ≥ 128 := h
             apply Exists.intro (false, _, _)
             refine And.intro ?_ (And.intro ?_ (Le.mk [] [0, 3] rfl rfl ?hh ?ht))
             case hh => exact rfl
             case ht => repeat' first | exact trivial | exact ⟨rfl, rfl⟩ | refine And.intro ?_ ?_
             · exact putI_go hi h
             · show (shr .u64 u 7).toNat < u.toNat
               rw [shr7_u64]; omega)
          | skip

def numI (n : Int) (l : List Int) (d u : Int) : Prop := (0 ≤ u ∧ u < 18446744073709551616) ∧ (0 ≤ d ∧ d < 128) ∧ l ++ tail7 d u.toNat = encI n
theorem numI_len {l : List Int} {n d u : Int} (hn : i64P n) (h : numI n l d u) : l.length + 1 ≤ 10 := by
  have h1 := congrArg List.length h.2.2
  rw [List.length_append] at h1
  have h3 := encI_len hn
  have h2 : 0 < (tail7 d u.toNat).length := by unfold tail7; split <;> simp
  omega
theorem set_last (l : List Int) (d v : Int) {i : Int} (h : i = (l.length : Int)) : (l ++ [d]).set i.toNat v = l ++ [v] := by
  subst h
  rw [Int.toNat_natCast, List.set_append, if_neg (by omega), Nat.sub_self]; rfl
theorem get_last (l : List Int) (d : Int) {i : Int} (h : i = (l.length : Int)) : (l ++ [d]).getD i.toNat 0 = d := by
  subst h
  rw [Int.toNat_natCast, List.getD_eq_getElem?_getD, List.getElem?_append_right (by omega), Nat.sub_self]; rfl
theorem last_i {l : List Int} {d : Int} (h : l.length ≤ 100) : IntKind.i64.wrap (((l ++ [d]).length : Int) - 1) = (l.length : Int) := by
  have e : ((l ++ [d]).length : Int) = (l.length : Int) + 1 := by simp
  rw [e, w64 (by omega) (by omega)]; omega
theorem numI_go {l : List Int} {n d u : Int} (h : numI n l d u) (hu : u > 0) : numI n (l ++ [lor .u8 d 128]) (IntKind.u8.wrap (land .u64 u 127)) (shr .u64 u 7) := by
  obtain ⟨h1, h2, h3⟩ := h
  have a1 : lor .u8 d 128 = d + 128 := by rw [or128_u8 _ h2.1 (by omega)]; omega
  have a2 : IntKind.u8.wrap (land .u64 u 127) = ((u.toNat % 128 : Nat) : Int) := by rw [land127_u64 h1, wu8]; omega
  have a3 : (shr .u64 u 7).toNat = u.toNat / 128 := by rw [shr7_u64]; omega
  refine ⟨by rw [shr7_u64]; omega, by rw [a2]; omega, ?_⟩
  rw [a1, a2, a3, ← h3, tail7_go (u := u.toNat) (d := d) (by omega), List.append_assoc]; rfl
theorem numI_end {l : List Int} {n d u : Int} (h : numI n l d u) (hu : ¬ u > 0) : l ++ [d] = encI n := by
  obtain ⟨h1, h2, h3⟩ := h
  rw [← h3, tail7, if_pos (by omega)]
theorem num_hh {l : List Int} {d : Int} (h : l.length ≤ 100) : (l ++ [d]).set (IntKind.i64.wrap (((l ++ [d]).length : Int) - 1)).toNat (lor .u8 ((l ++ [d]).getD (IntKind.i64.wrap (((l ++ [d]).length : Int) - 1)).toNat 0) 128) = l ++ [lor .u8 d 128] := by
  rw [get_last l d (last_i h), set_last l d _ (last_i h)]
theorem numI_start {n U : Int} {b : Nat} (hb : b < 2) (hU : 0 ≤ U ∧ U < 9223372036854775808) (he : zig n = 2 * U.toNat + b) : numI n [] (U % 64 * 2 + b) (U / 64) := by
  refine ⟨by omega, by omega, ?_⟩
  show tail7 _ _ = enc7 _
  have e1 : U % 64 * 2 + (b : Int) = ((U.toNat % 64 * 2 + b : Nat) : Int) := by omega
  have e2 : (U / 64).toNat = U.toNat / 64 := by omega
  rw [he, ← tail7_first U.toNat b hb, e1, e2]
theorem numI_pos {n : Int} (hn : i64P n) (h : ¬ n < 0) : numI n [] (shl .u8 (IntKind.u8.wrap (land .u64 (IntKind.u64.wrap n) 63)) 1) (shr .u64 (IntKind.u64.wrap n) 6) := by
  unfold i64P at hn
  have e : IntKind.u64.wrap n = n := by rw [wu64]; omega
  have a1 : shl .u8 (IntKind.u8.wrap (land .u64 (IntKind.u64.wrap n) 63)) 1 = n % 64 * 2 + ((0 : Nat) : Int) := by rw [e, land63_u64 (by omega), wu8, shl1_u8]; omega
  rw [a1, e, shr6_u64]
  exact numI_start (by decide) (by omega) (by unfold zig; rw [if_neg h]; omega)
theorem numI_neg {n : Int} (hn : i64P n) (h : n < 0) : numI n [] (IntKind.u8.wrap (shl .u8 (IntKind.u8.wrap (land .u64 (IntKind.u64.wrap (IntKind.i64.wrap (0 - IntKind.i64.wrap (n + 1)))) 63)) 1 + 1)) (shr .u64 (IntKind.u64.wrap (IntKind.i64.wrap (0 - IntKind.i64.wrap (n + 1)))) 6) := by
  unfold i64P at hn
  have e : IntKind.u64.wrap (IntKind.i64.wrap (0 - IntKind.i64.wrap (n + 1))) = -n - 1 := by
    rw [w64 (x := n + 1) (by omega) (by omega), w64 (by omega) (by omega), wu64]; omega
  have a1 : IntKind.u8.wrap (shl .u8 (IntKind.u8.wrap (land .u64 (IntKind.u64.wrap (IntKind.i64.wrap (0 - IntKind.i64.wrap (n + 1)))) 63)) 1 + 1) = (-n - 1) % 64 * 2 + ((1 : Nat) : Int) := by rw [e, land63_u64 (by omega), wu8, wu8, shl1_u8]; omega
  rw [a1, e, shr6_u64]
  exact numI_start (by decide) (by omega) (by unfold zig; rw [if_pos h]; omega)
def numS : PSpec := ⟨[gi], fun (n, _) => (some (i64P n), .cell (.own 0), [.arr (.int .u8) (encI n)])⟩
set_option maxHeartbeats 4000000 in
theorem num7_ok : Good Try.prog 103 numS.spec := by
  have hT := tab_ok (fs := []) tree_ok
  have hP : SpecsOk Try.prog (tab tree []) := specs_nil
  refine numS.good (fn := Try.f103) hT hP Try.func103 (by kernel_rfl) rfl fun (n : Int) hq => ?_
  have hn : i64P n := hq _ rfl
  clear hq
  have hn' := hn
  unfold i64P at hn'
  repeat' first
    | (refine Go.mk ?_; conv => whnf)
    | refine Need.go ?_ ?_
    | refine NilG.go (fun _ => ?_) (fun _ => ?_)
    | refine Br.dec (fun _ => ?_) (fun _ => ?_)
    | refine Br.go (fun _ => ?_) (fun _ => ?_)
    | refine draw_go hT hP mixed ?_
    | refine round_go hT hP ?_
  all_goals first
    | exact of_decide_eq_true rfl
    | skip
  all_goals first
    | (exfalso; simp_all; done)
    | refine loop_go hT hP (X := List Int × Int × Int) (fun (l, d, u) => St.mk [.dead, .dead, .dead, .cell (.own 0), .cell (iv .u64 u), .dead, .dead, .dead, .dead, .dead, .dead, .dead, .dead, .dead, .dead, .dead, .dead, .dead, .dead, .dead, .dead, .dead, .dead, .dead, .dead, .dead, .dead, .dead, .dead, .dead, .dead, .dead, .dead, .dead, .dead, .dead, .dead, .dead, .dead, .dead, .dead, .dead, .dead, .dead, .dead, .dead, .dead, .dead] [some (.arr (.int .u8) (l ++ [d]))]) (fun (l, d, u) => numI n l d u) (fun (l, d, u) => u.toNat) ([], shl .u8 (IntKind.u8.wrap (land .u64 (IntKind.u64.wrap n) 63)) 1, shr .u64 (IntKind.u64.wrap n) 6) (Le.mk [] [1] rfl rfl (by exact rfl) (by repeat' first | exact trivial | exact ⟨rfl, rfl⟩ | refine And.intro ?_ ?_)) (numI_pos hn (by assumption)) fun (l, d, u) hi => ?_
    | refine loop_go hT hP (X := List Int × Int × Int) (fun (l, d, u) => St.mk [.dead, .dead, .dead, .cell (.own 0), .cell (iv .u64 u), .dead, .dead, .dead, .dead, .dead, .dead, .dead, .dead, .dead, .dead, .dead, .dead, .dead, .dead, .dead, .dead, .dead, .dead, .dead, .dead, .dead, .dead, .dead, .dead, .dead, .dead, .dead, .dead, .dead, .dead, .dead, .dead, .dead, .dead, .dead, .dead, .dead, .dead, .dead, .dead, .dead, .dead, .dead] [some (.arr (.int .u8) (l ++ [d]))]) (fun (l, d, u) => numI n l d u) (fun (l, d, u) => u.toNat) ([], IntKind.u8.wrap (shl .u8 (IntKind.u8.wrap (land .u64 (IntKind.u64.wrap (IntKind.i64.wrap (0 - IntKind.i64.wrap (n + 1)))) 63)) 1 + 1), shr .u64 (IntKind.u64.wrap (IntKind.i64.wrap (0 - IntKind.i64.wrap (n + 1)))) 6) (Le.mk [] [1] rfl rfl (by exact rfl) (by repeat' first | exact trivial | exact ⟨rfl, rfl⟩ | refine And.intro ?_ ?_)) (numI_neg hn (by assumption)) fun (l, d, u) hi => ?_
  all_goals
    have hlen := numI_len hn hi
    have hla := last_i (l := l) (d := d) (by omega)
    repeat' first
      | (refine Go.mk ?_; conv => whnf)
      | refine Need.go ?_ ?_
      | refine NilG.go (fun _ => ?_) (fun _ => ?_)
      | refine Br.dec (fun _ => ?_) (fun _ => ?_)
      | refine Br.go (fun _ => ?_) (fun _ => ?_)
      | refine draw_go hT hP mixed ?_
      | refine round_go hT hP ?_
  all_goals
    have hL : (l ++ [d]).length = l.length + 1 := by simp
  all_goals first
    | exact of_decide_eq_true rfl
    | (show 0 ≤ IntKind.i64.wrap (((l ++ [d]).length : Int) - 1) ∧ IntKind.i64.wrap (((l ++ [d]).length : Int) - 1) < (((l ++ [d]).length : Nat) : Int)
       rw [hla, hL]; omega)
    | (show (IntKind.i64.wrap (((l ++ [d]).length : Int) - 1)).toNat < (l ++ [d]).length
       rw [hla, hL]; omega)
    | (rw [List.length_set]
       show ((l ++ [d]).length + 1) * 1 ≤ 70368744177664
       rw [hL]; omega)
    | (rename_i h
       have h : u > 0 := h
       apply Exists.intro (l ++ [lor .u8 d 128], IntKind.u8.wrap (land .u64 u 127), shr .u64 u 7)
       refine And.intro ?_ (And.intro ?_ (Le.mk [] [2] rfl rfl ?hh ?ht))
       case hh => exact blk_u8 (congrArg (· ++ [IntKind.u8.wrap (land .u64 u 127)]) (num_hh (by omega)))
       case ht => repeat' first | exact trivial | exact ⟨rfl, rfl⟩ | refine And.intro ?_ ?_
       · exact numI_go hi h
       · show (shr .u64 u 7).toNat < u.toNat
         rw [shr7_u64]; omega)
    | (rename_i h
       exact .mk [] [0] _ rfl rfl rfl rfl rfl (blk_u8 (numI_end hi h)) rfl)
    | skip

end Go.Proofs.Ythpijepbbpcjeaa
