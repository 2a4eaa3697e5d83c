/- What a machine's state that reads well, up to a bulk, keeps to. -/
import Derived.Test.YthpijepbbpcjeaaSaveBytes
import Derived.Test.YthpijepbbpcjeaaFw32
namespace Go.Proofs.Ythpijepbbpcjeaa
open Go.Fw
set_option linter.unusedVariables false
set_option linter.unusedSimpArgs false
open Go.ChangeShapes Go.WideShapes in
theorem wf_i64P {x : Int} (h : (Lit.int .i64 x).wf = true) : i64P x := by
  have : -9223372036854775808 ≤ x ∧ x ≤ 9223372036854775807 := by simpa [Lit.wf, IntKind.min, IntKind.max, IntKind.signed, IntKind.bits] using h
  exact this
theorem sum_ones {k : IntKind} (l : List Int) : (List.map (bd (.int k)) l).sum = l.length := by
  induction l with
  | nil => rfl
  | cons x r ih =>
    show bd (.int k) x + (List.map (bd (.int k)) r).sum = _
    rw [ih, List.length_cons]
    show 1 + r.length = r.length + 1
    omega
theorem bd_dev (d : Dv) : devSz d ≤ 10 * bd DevT d := by
  have e : bd DevT d = ((List.map (bd (.int .i64)) d.1).sum + 1) + ((List.map (bd (.int .u8)) d.2).sum + 1) := rfl
  rw [e, sum_ones, sum_ones]
  unfold devSz
  omega
theorem bd_devs (ds : List Dv) : (ds.map devSz).sum ≤ 10 * (List.map (bd DevT) ds).sum := by
  induction ds with
  | nil => simp
  | cons x r ih =>
    have := bd_dev x
    show devSz x + (r.map devSz).sum ≤ 10 * (bd DevT x + (List.map (bd DevT) r).sum)
    omega
theorem packP_of {m : Mach} (h : Wf MachT m) (hb : bd MachT m ≤ 1048576) : packP m := by
  obtain ⟨tm, ⟨r, op, at_, nmi⟩, ds, b1, b2, b3⟩ := m
  obtain ⟨w1, ⟨⟨w2, w3⟩, w4, w5, _⟩, ⟨w6, w7⟩, w8, w9, w10⟩ := h
  have e : bd MachT (tm, (r, op, at_, nmi), ds, b1, b2, b3) = 1 + ((9 + (1 + (1 + 1))) + (((List.map (bd DevT) ds).sum + 1) + (1 + (1 + 1)))) := rfl
  rw [e] at hb
  have h1 := bd_devs ds
  have h2 := devs_len ds
  refine ⟨?_, fun d hd n hn => wf_i64P ((w7 d hd).1.2 n hn), w2, by show (ds.map devSz).sum ≤ _; omega⟩
  intro n hn
  have hn : n ∈ [tm] ++ r ++ [op, at_, cond nmi 1 0, b1, b2, b3, (ds.length : Int)] := hn
  rcases List.mem_append.1 hn with hn | hn
  · rcases List.mem_append.1 hn with hn | hn
    · rw [List.mem_singleton] at hn; subst hn; exact wf_i64P w1
    · exact wf_i64P (w3 n hn)
  · simp only [List.mem_cons, List.not_mem_nil, or_false] at hn
    rcases hn with rfl | rfl | rfl | rfl | rfl | rfl | rfl
    · exact wf_i64P w4
    · exact wf_i64P w5
    · cases nmi <;> (unfold i64P; decide)
    · exact wf_i64P w8
    · exact wf_i64P w9
    · exact wf_i64P w10
    · unfold i64P; omega
theorem sb_pre (xs : Args sbS.gs) (hw : WfA sbS.gs xs) (hb : bdA sbS.gs xs ≤ 1048576) : packP xs.1 := packP_of hw.1 (Nat.le_trans (Nat.le_add_right _ _) hb)

end Go.Proofs.Ythpijepbbpcjeaa
