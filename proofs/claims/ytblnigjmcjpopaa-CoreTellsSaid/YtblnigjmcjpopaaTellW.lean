/- What a processor that reads well, up to a bulk, keeps to. -/
import Derived.Test.YtblnigjmcjpopaaCoreTells
import Derived.Test.YtblnigjmcjpopaaFw32
namespace Go.Proofs.Ytblnigjmcjpopaa
open Go.Fw
set_option linter.unusedVariables false
set_option linter.unusedSimpArgs false
theorem sum_mem {α : Type} (m : α → Nat) : ∀ {l : List α} {x : α}, x ∈ l → m x ≤ (l.map m).sum
  | [], _, h => by cases h
  | y :: r, x, h => by
    rw [List.map_cons, List.sum_cons]
    rcases List.mem_cons.1 h with rfl | h
    · omega
    · have := sum_mem m h; omega
theorem sum_len {α : Type} (m : α → Nat) (hm : ∀ x, 1 ≤ m x) : ∀ l : List α, l.length ≤ (l.map m).sum
  | [] => Nat.le_refl _
  | y :: r => by
    rw [List.map_cons, List.sum_cons, List.length_cons]
    have := sum_len m hm r
    have := hm y
    omega
theorem bd_stp (s : Stp) : 1 ≤ bd StepT s := by show 1 ≤ 1 + (1 + (1 + 1)); omega
theorem bd_cyc (x : Cyc) : bd CycT x = 1 + (1 + (1 + ((List.map (bd StepT) x.2.2.2).sum + 1))) := rfl
theorem bd_ins (x : Ins) : bd InsT x = 1 + ((ByteArray.size x.2.1 + 1) + (1 + ((List.map (bd CycT) x.2.2.2).sum + 1))) := rfl
theorem okCyc_of {l : List Cyc} (h : Wf (.sl CycT) l) : okCyc l := ⟨h.1, fun x hx => (h.2 x hx).2.2.2.1⟩
theorem cpuP_of {c : Cpu} (h : Wf CpuT c) : cpuOk c ∧ (okCyc c.2.2.1 ∧ okCyc c.2.2.2.1 ∧ okCyc c.2.2.2.2) :=
  ⟨⟨h.2.1.1, fun x hx => okCyc_of (h.2.1.2 x hx).2.2.2⟩, okCyc_of h.2.2.1, okCyc_of h.2.2.2.1, okCyc_of h.2.2.2.2⟩
theorem tellP_of {c : Cpu} {k : Kor} (hk : k.1.length = 9) (h : Wf CpuT c) : tellP c k := ⟨(cpuP_of h).1, (cpuP_of h).2, hk⟩
theorem tl_pre (xs : Args tlS.gs) (hw : WfA tlS.gs xs) : tellP xs.1 xs.2.1 := tellP_of hw.2.1.1.1 hw.1

end Go.Proofs.Ytblnigjmcjpopaa
