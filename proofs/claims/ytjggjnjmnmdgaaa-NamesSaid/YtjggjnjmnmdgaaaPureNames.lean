import Derived.Test.YtjggjnjmnmdgaaaPNamesx1
namespace Go.Proofs.Ytjggjnjmnmdgaaa.Pure
open Go.RowKit Go.Proofs.Ytjggjnjmnmdgaaa.PNames Go.Proofs.YtjggjnjmnmdgaaaW.PrintWords Go.Proofs.YtjggjnjmnmdgaaaW.PrintLast

/-- YOURS: ∃ k, bakelaw1_Names.f k  = some true
What it reaches (each with k first where it has rounds; `.mono`: more rounds tell the same; `.l0`, ..: its loops, with `.mono_l`): bit_width.f, bit_Low.f, bit_Add.f, bakelaw1_bits.f, bakelaw1_Names.f -/
theorem Names : bakelaw1_Names.Pure := ⟨30, by kernel_rfl⟩

end Go.Proofs.Ytjggjnjmnmdgaaa.Pure
