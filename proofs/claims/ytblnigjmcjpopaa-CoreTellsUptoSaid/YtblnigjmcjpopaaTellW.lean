/- What a processor that reads well, up to a bulk, keeps to. -/
import Derived.Test.YtblnigjmcjpopaaCoreTells
import Derived.Test.YtblnigjmcjpopaaFw32
namespace Go.Proofs.Ytblnigjmcjpopaa
open Go.Fw
set_option linter.unusedVariables false
set_option linter.unusedSimpArgs false
theorem sum_mem {α : Type} (m : α → Nat) : ∀ {l : List α} {x : α}, x ∈ l → m x ≤ (l.map m).sum
  | [], _, h => by cases h
  | y :: r, x, h => by
    rw [List.map_cons, List.sum_cons]
    rcases List.mem_cons.1 h with rfl | h
    · omega
    · have := sum_mem m h; omega
theorem sum_len {α : Type} (m : α → Nat) (hm : ∀ x, 1 ≤ m x) : ∀ l : List α, l.length ≤ (l.map m).sum
  | [] => Nat.le_refl _
  | y :: r => by
    rw [List.map_cons, List.sum_cons, List.length_cons]
    have := sum_len m hm r
    have := hm y
    omega
theorem bd_stp (s : Stp) : 1 ≤ bd StepT s := by show 1 ≤ 1 + (1 + (1 + 1)); omega
theorem bd_cyc (x : Cyc) : bd CycT x = 1 + (1 + (1 + ((List.map (bd StepT) x.2.2.2).sum + 1))) := rfl
theorem bd_ins (x : Ins) : bd InsT x = 1 + ((ByteArray.size x.2.1 + 1) + (1 + ((List.map (bd CycT) x.2.2.2).sum + 1))) := rfl
theorem okCyc_of {l : List Cyc} (h : (List.map (bd CycT) l).sum ≤ 1048576) : okCyc l := by
  refine ⟨Nat.le_trans (sum_len (bd CycT) (fun x => by rw [bd_cyc]; omega) l) h, fun x hx => ?_⟩
  have h1 := sum_mem (bd CycT) hx
  rw [bd_cyc] at h1
  have h2 := sum_len (bd StepT) bd_stp x.2.2.2
  omega
theorem tellP_of {c : Cpu} {k : Kor} (hk : k.1.length = 9) (hb : bd CpuT c ≤ 1048576) : tellP c k := by
  obtain ⟨cn, ci, cr, cq, cm⟩ := c
  have e : bd CpuT (cn, ci, cr, cq, cm) = (ByteArray.size cn + 1) + (((List.map (bd InsT) ci).sum + 1) + (((List.map (bd CycT) cr).sum + 1) + (((List.map (bd CycT) cq).sum + 1) + ((List.map (bd CycT) cm).sum + 1)))) := rfl
  rw [e] at hb
  refine ⟨⟨?_, fun x hx => okCyc_of ?_⟩, ⟨okCyc_of ?_, okCyc_of ?_, okCyc_of ?_⟩, hk⟩
  · show ci.length ≤ 1048576
    have := sum_len (bd InsT) (fun x => by rw [bd_ins]; omega) ci
    omega
  · have h1 := sum_mem (bd InsT) (show x ∈ ci from hx)
    rw [bd_ins] at h1
    omega
  · show (List.map (bd CycT) cr).sum ≤ _
    omega
  · show (List.map (bd CycT) cq).sum ≤ _
    omega
  · show (List.map (bd CycT) cm).sum ≤ _
    omega
theorem tl_pre (xs : Args tlS.gs) (hw : WfA tlS.gs xs) (hb : bdA tlS.gs xs ≤ 1048576) : tellP xs.1 xs.2.1 := tellP_of hw.2.1.1.1 (Nat.le_trans (Nat.le_add_right _ _) hb)

end Go.Proofs.Ytblnigjmcjpopaa
