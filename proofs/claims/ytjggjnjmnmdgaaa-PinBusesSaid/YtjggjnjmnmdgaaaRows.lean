/-
  No cell of these rows narrows 'for every input' (looked for: loops, veiled, ifaces, maps, wideKeys, modest, calm, conditions, laid).
  DERIVED. THE GIVEN ROWS OF THIS SEAT. 13 by the template 'for every input the law returns true; each argument reads behind the call as it read before'; 0 by the template 'total and deterministic' (their statements: YtjggjnjmnmdgaaaTotals.lean).
  GIVEN WITH THE SEED: the statements are not yours to turn. If you find one false, say at which input.
  Laid BY PROGRAM, IN A SANDBOX (cutbox-rows.mjs): the forced cells as the released guide's own fill.sh prints them over the translation d7408f92e6ef71c9… (all of the seat's roots in one cut). By AI agents, Wed Nov 11 2026. No macro, syntax, notation, axiom, sorry.
-/
import Derived.Test.YtjggjnjmnmdgaaaChecked
import GoSem.Claim
import GoSem.ClaimJoined
import GoSem.ClaimMapViews
import Derived.JoinedTies
import Derived.KernelRfl
namespace Go.Proofs.Ytjggjnjmnmdgaaa
/- THE CELL 'sum', in the pinned program and in every row, IS THE sha256 OF THE DUMP (.gsa) THAT YtjggjnjmnmdgaaaProg.lean LOADS. Nothing in Lean hashes anything: it is a label: what it is worth is what the hold of that sum in a sandbox is worth. -/
noncomputable def Try.pinned : Pinned := { name := "ytjggjnjmnmdgaaa", sum := "d7408f92e6ef71c9eb7fb878fe66c9556a6f54dc7df9d3211b7baa481a045fdc", checked := Try.checked }
namespace Rows
def none {H : Type} : Left H := { results := [], args := [] }

/-- 'bakelaw1.Names': WHATEVER THE INPUT: true; the input reads as it did. -/
def namesSpec : ChangeSpec := { name := "names", fn := fun _ => fun
  | [] => { results := [.lit (.bool true)], args := [] }
  | _ => none }
def namesRow : OpenClaim := { program := "ytjggjnjmnmdgaaa", sum := "d7408f92e6ef71c9eb7fb878fe66c9556a6f54dc7df9d3211b7baa481a045fdc", func := "bakelite/bakelaw1.Names", spec := "names", apart := false }
def NamesSaid : Prop := namesRow.holds Try.pinned (OpenSpec.ofChange namesSpec)

/-- ITS FALSE NEIGHBOUR: 'it returns false'. Refute it at one input. -/
def namesWrong : ChangeSpec := { name := "names", fn := fun _ => fun
  | [] => { results := [.lit (.bool false)], args := [] }
  | _ => none }
def NamesWrongFalsely : Prop := namesRow.holds Try.pinned (OpenSpec.ofChange namesWrong)

/-- 'bakelaw1.BitFields': WHATEVER THE INPUT: true; the input reads as it did. -/
def bitFieldsSpec : ChangeSpec := { name := "bitFields", fn := fun _ => fun
  | [d1, d2, d3, d4] => { results := [.lit (.bool true)], args := [d1, d2, d3, d4] }
  | _ => none }
def bitFieldsRow : OpenClaim := { program := "ytjggjnjmnmdgaaa", sum := "d7408f92e6ef71c9eb7fb878fe66c9556a6f54dc7df9d3211b7baa481a045fdc", func := "bakelite/bakelaw1.BitFields", spec := "bitFields", apart := false }
def BitFieldsSaid : Prop := bitFieldsRow.holds Try.pinned (OpenSpec.ofChange bitFieldsSpec)

/-- ITS FALSE NEIGHBOUR: 'it returns false'. Refute it at one input. -/
def bitFieldsWrong : ChangeSpec := { name := "bitFields", fn := fun _ => fun
  | [d1, d2, d3, d4] => { results := [.lit (.bool false)], args := [d1, d2, d3, d4] }
  | _ => none }
def BitFieldsWrongFalsely : Prop := bitFieldsRow.holds Try.pinned (OpenSpec.ofChange bitFieldsWrong)

/-- 'bakelaw1.BitAdds': WHATEVER THE INPUT: true; the input reads as it did. -/
def bitAddsSpec : ChangeSpec := { name := "bitAdds", fn := fun _ => fun
  | [d1, d2, d3, d4] => { results := [.lit (.bool true)], args := [d1, d2, d3, d4] }
  | _ => none }
def bitAddsRow : OpenClaim := { program := "ytjggjnjmnmdgaaa", sum := "d7408f92e6ef71c9eb7fb878fe66c9556a6f54dc7df9d3211b7baa481a045fdc", func := "bakelite/bakelaw1.BitAdds", spec := "bitAdds", apart := false }
def BitAddsSaid : Prop := bitAddsRow.holds Try.pinned (OpenSpec.ofChange bitAddsSpec)

/-- ITS FALSE NEIGHBOUR: 'it returns false'. Refute it at one input. -/
def bitAddsWrong : ChangeSpec := { name := "bitAdds", fn := fun _ => fun
  | [d1, d2, d3, d4] => { results := [.lit (.bool false)], args := [d1, d2, d3, d4] }
  | _ => none }
def BitAddsWrongFalsely : Prop := bitAddsRow.holds Try.pinned (OpenSpec.ofChange bitAddsWrong)

/-- 'bakelaw1.BitDigits': WHATEVER THE INPUT: true; the input reads as it did. -/
def bitDigitsSpec : ChangeSpec := { name := "bitDigits", fn := fun _ => fun
  | [d1, d2] => { results := [.lit (.bool true)], args := [d1, d2] }
  | _ => none }
def bitDigitsRow : OpenClaim := { program := "ytjggjnjmnmdgaaa", sum := "d7408f92e6ef71c9eb7fb878fe66c9556a6f54dc7df9d3211b7baa481a045fdc", func := "bakelite/bakelaw1.BitDigits", spec := "bitDigits", apart := false }
def BitDigitsSaid : Prop := bitDigitsRow.holds Try.pinned (OpenSpec.ofChange bitDigitsSpec)

/-- ITS FALSE NEIGHBOUR: 'it returns false'. Refute it at one input. -/
def bitDigitsWrong : ChangeSpec := { name := "bitDigits", fn := fun _ => fun
  | [d1, d2] => { results := [.lit (.bool false)], args := [d1, d2] }
  | _ => none }
def BitDigitsWrongFalsely : Prop := bitDigitsRow.holds Try.pinned (OpenSpec.ofChange bitDigitsWrong)

/-- 'bakelaw1.BitLows': WHATEVER THE INPUT: true; the input reads as it did. -/
def bitLowsSpec : ChangeSpec := { name := "bitLows", fn := fun _ => fun
  | [d1, d2] => { results := [.lit (.bool true)], args := [d1, d2] }
  | _ => none }
def bitLowsRow : OpenClaim := { program := "ytjggjnjmnmdgaaa", sum := "d7408f92e6ef71c9eb7fb878fe66c9556a6f54dc7df9d3211b7baa481a045fdc", func := "bakelite/bakelaw1.BitLows", spec := "bitLows", apart := false }
def BitLowsSaid : Prop := bitLowsRow.holds Try.pinned (OpenSpec.ofChange bitLowsSpec)

/-- ITS FALSE NEIGHBOUR: 'it returns false'. Refute it at one input. -/
def bitLowsWrong : ChangeSpec := { name := "bitLows", fn := fun _ => fun
  | [d1, d2] => { results := [.lit (.bool false)], args := [d1, d2] }
  | _ => none }
def BitLowsWrongFalsely : Prop := bitLowsRow.holds Try.pinned (OpenSpec.ofChange bitLowsWrong)

/-- 'bakelaw1.PortActs': WHATEVER THE INPUT: true; the input reads as it did. -/
def portActsSpec : ChangeSpec := { name := "portActs", fn := fun _ => fun
  | [d1, d2, d3] => { results := [.lit (.bool true)], args := [d1, d2, d3] }
  | _ => none }
def portActsRow : OpenClaim := { program := "ytjggjnjmnmdgaaa", sum := "d7408f92e6ef71c9eb7fb878fe66c9556a6f54dc7df9d3211b7baa481a045fdc", func := "bakelite/bakelaw1.PortActs", spec := "portActs", unfollowed := true, recurses := true, apart := false }
def PortActsSaid : Prop := portActsRow.holds Try.pinned (OpenSpec.ofChange portActsSpec)

/-- ITS FALSE NEIGHBOUR: 'it returns false'. Refute it at one input. -/
def portActsWrong : ChangeSpec := { name := "portActs", fn := fun _ => fun
  | [d1, d2, d3] => { results := [.lit (.bool false)], args := [d1, d2, d3] }
  | _ => none }
def PortActsWrongFalsely : Prop := portActsRow.holds Try.pinned (OpenSpec.ofChange portActsWrong)

/-- 'bakelaw1.PinBuses': WHATEVER THE INPUT: true; the input reads as it did. -/
def pinBusesSpec : ChangeSpec := { name := "pinBuses", fn := fun _ => fun
  | [d1, d2] => { results := [.lit (.bool true)], args := [d1, d2] }
  | _ => none }
def pinBusesRow : OpenClaim := { program := "ytjggjnjmnmdgaaa", sum := "d7408f92e6ef71c9eb7fb878fe66c9556a6f54dc7df9d3211b7baa481a045fdc", func := "bakelite/bakelaw1.PinBuses", spec := "pinBuses", apart := false }
def PinBusesSaid : Prop := pinBusesRow.holds Try.pinned (OpenSpec.ofChange pinBusesSpec)

/-- ITS FALSE NEIGHBOUR: 'it returns false'. Refute it at one input. -/
def pinBusesWrong : ChangeSpec := { name := "pinBuses", fn := fun _ => fun
  | [d1, d2] => { results := [.lit (.bool false)], args := [d1, d2] }
  | _ => none }
def PinBusesWrongFalsely : Prop := pinBusesRow.holds Try.pinned (OpenSpec.ofChange pinBusesWrong)

/-- 'bakelaw1.TimerTicks': WHATEVER THE INPUT: true; the input reads as it did. -/
def timerTicksSpec : ChangeSpec := { name := "timerTicks", fn := fun _ => fun
  | [d1, d2] => { results := [.lit (.bool true)], args := [d1, d2] }
  | _ => none }
def timerTicksRow : OpenClaim := { program := "ytjggjnjmnmdgaaa", sum := "d7408f92e6ef71c9eb7fb878fe66c9556a6f54dc7df9d3211b7baa481a045fdc", func := "bakelite/bakelaw1.TimerTicks", spec := "timerTicks", apart := false }
def TimerTicksSaid : Prop := timerTicksRow.holds Try.pinned (OpenSpec.ofChange timerTicksSpec)

/-- ITS FALSE NEIGHBOUR: 'it returns false'. Refute it at one input. -/
def timerTicksWrong : ChangeSpec := { name := "timerTicks", fn := fun _ => fun
  | [d1, d2] => { results := [.lit (.bool false)], args := [d1, d2] }
  | _ => none }
def TimerTicksWrongFalsely : Prop := timerTicksRow.holds Try.pinned (OpenSpec.ofChange timerTicksWrong)

/-- 'bakelaw1.DriveDisks': WHATEVER THE INPUT: true; the input reads as it did. -/
def driveDisksSpec : ChangeSpec := { name := "driveDisks", fn := fun _ => fun
  | [d] => { results := [.lit (.bool true)], args := [d] }
  | _ => none }
def driveDisksRow : OpenClaim := { program := "ytjggjnjmnmdgaaa", sum := "d7408f92e6ef71c9eb7fb878fe66c9556a6f54dc7df9d3211b7baa481a045fdc", func := "bakelite/bakelaw1.DriveDisks", spec := "driveDisks", apart := false }
def DriveDisksSaid : Prop := driveDisksRow.holds Try.pinned (OpenSpec.ofChange driveDisksSpec)

/-- ITS FALSE NEIGHBOUR: 'it returns false'. Refute it at one input. -/
def driveDisksWrong : ChangeSpec := { name := "driveDisks", fn := fun _ => fun
  | [d] => { results := [.lit (.bool false)], args := [d] }
  | _ => none }
def DriveDisksWrongFalsely : Prop := driveDisksRow.holds Try.pinned (OpenSpec.ofChange driveDisksWrong)

/-- 'bakelaw1.WholeTells': WHATEVER THE INPUT: true; the input reads as it did. -/
def wholeTellsSpec : ChangeSpec := { name := "wholeTells", fn := fun _ => fun
  | [d1, d2] => { results := [.lit (.bool true)], args := [d1, d2] }
  | _ => none }
def wholeTellsRow : OpenClaim := { program := "ytjggjnjmnmdgaaa", sum := "d7408f92e6ef71c9eb7fb878fe66c9556a6f54dc7df9d3211b7baa481a045fdc", func := "bakelite/bakelaw1.WholeTells", spec := "wholeTells", unfollowed := true, recurses := true, apart := false }
def WholeTellsSaid : Prop := wholeTellsRow.holds Try.pinned (OpenSpec.ofChange wholeTellsSpec)

/-- ITS FALSE NEIGHBOUR: 'it returns false'. Refute it at one input. -/
def wholeTellsWrong : ChangeSpec := { name := "wholeTells", fn := fun _ => fun
  | [d1, d2] => { results := [.lit (.bool false)], args := [d1, d2] }
  | _ => none }
def WholeTellsWrongFalsely : Prop := wholeTellsRow.holds Try.pinned (OpenSpec.ofChange wholeTellsWrong)

/-- 'bakelaw1.PinJoins': WHATEVER THE INPUT: true; the input reads as it did. -/
def pinJoinsSpec : ChangeSpec := { name := "pinJoins", fn := fun _ => fun
  | [d1, d2, d3] => { results := [.lit (.bool true)], args := [d1, d2, d3] }
  | _ => none }
def pinJoinsRow : OpenClaim := { program := "ytjggjnjmnmdgaaa", sum := "d7408f92e6ef71c9eb7fb878fe66c9556a6f54dc7df9d3211b7baa481a045fdc", func := "bakelite/bakelaw1.PinJoins", spec := "pinJoins", unfollowed := true, recurses := true, apart := false }
def PinJoinsSaid : Prop := pinJoinsRow.holds Try.pinned (OpenSpec.ofChange pinJoinsSpec)

/-- ITS FALSE NEIGHBOUR: 'it returns false'. Refute it at one input. -/
def pinJoinsWrong : ChangeSpec := { name := "pinJoins", fn := fun _ => fun
  | [d1, d2, d3] => { results := [.lit (.bool false)], args := [d1, d2, d3] }
  | _ => none }
def PinJoinsWrongFalsely : Prop := pinJoinsRow.holds Try.pinned (OpenSpec.ofChange pinJoinsWrong)

/-- 'bakelaw1.SerialTicks': WHATEVER THE INPUT: true; the input reads as it did. -/
def serialTicksSpec : ChangeSpec := { name := "serialTicks", fn := fun _ => fun
  | [d1, d2] => { results := [.lit (.bool true)], args := [d1, d2] }
  | _ => none }
def serialTicksRow : OpenClaim := { program := "ytjggjnjmnmdgaaa", sum := "d7408f92e6ef71c9eb7fb878fe66c9556a6f54dc7df9d3211b7baa481a045fdc", func := "bakelite/bakelaw1.SerialTicks", spec := "serialTicks", apart := false }
def SerialTicksSaid : Prop := serialTicksRow.holds Try.pinned (OpenSpec.ofChange serialTicksSpec)

/-- ITS FALSE NEIGHBOUR: 'it returns false'. Refute it at one input. -/
def serialTicksWrong : ChangeSpec := { name := "serialTicks", fn := fun _ => fun
  | [d1, d2] => { results := [.lit (.bool false)], args := [d1, d2] }
  | _ => none }
def SerialTicksWrongFalsely : Prop := serialTicksRow.holds Try.pinned (OpenSpec.ofChange serialTicksWrong)

/-- 'bakelaw1.TimerActs': WHATEVER THE INPUT: true; the input reads as it did. -/
def timerActsSpec : ChangeSpec := { name := "timerActs", fn := fun _ => fun
  | [d1, d2, d3] => { results := [.lit (.bool true)], args := [d1, d2, d3] }
  | _ => none }
def timerActsRow : OpenClaim := { program := "ytjggjnjmnmdgaaa", sum := "d7408f92e6ef71c9eb7fb878fe66c9556a6f54dc7df9d3211b7baa481a045fdc", func := "bakelite/bakelaw1.TimerActs", spec := "timerActs", unfollowed := true, recurses := true, apart := false }
def TimerActsSaid : Prop := timerActsRow.holds Try.pinned (OpenSpec.ofChange timerActsSpec)

/-- ITS FALSE NEIGHBOUR: 'it returns false'. Refute it at one input. -/
def timerActsWrong : ChangeSpec := { name := "timerActs", fn := fun _ => fun
  | [d1, d2, d3] => { results := [.lit (.bool false)], args := [d1, d2, d3] }
  | _ => none }
def TimerActsWrongFalsely : Prop := timerActsRow.holds Try.pinned (OpenSpec.ofChange timerActsWrong)

/- THE SECOND FORM. 'bulk': how many values and letters a reading holds, each counted each time it is reached (what is shared counts as often as it is met; a slice's spare places count too). A statement '..UptoSaid' is the law's where the arguments, and the package variables that the reading takes, are together of bulk at most 1048576: NARROWER than '..Said'. Prove '..Said' where nothing that the law and all that it calls make is longer than what came in: it says more and counts as full. Else prove '..UptoSaid'. A law counts once. -/
mutual
def uptoBulk {H : Type} : DataW H → Nat
  | .lit (.string bytes) => bytes.length + 1
  | .lit _ => 1
  | .nil => 1
  | .ptr d => uptoBulk d + 1
  | .slice elems spare => uptoBulkAll elems + uptoBulkAll spare + 1
  | .agg parts => uptoBulkAll parts + 1
  | .iface _ d => uptoBulk d + 1
  | .map entries => uptoBulkEntries entries + 1
  | .held _ => 1
def uptoBulkAll {H : Type} : List (DataW H) → Nat
  | [] => 0
  | d :: r => uptoBulk d + uptoBulkAll r
def uptoBulkEntries {H : Type} : List (Lit × DataW H) → Nat
  | [] => 0
  | x :: r => uptoBulkEntry x + uptoBulkEntries r
def uptoBulkEntry {H : Type} : Lit × DataW H → Nat
  | (.string bytes, d) => bytes.length + uptoBulk d + 1
  | (_, d) => uptoBulk d + 1
 end
def uptoSmall : (H : Type) → List (DataW H) → Bool := fun _ ds => decide (uptoBulkAll ds ≤ 1048576)
def OpenSpec.upto (s : _root_.Go.ChangeSpec) : _root_.Go.OpenSpec := { _root_.Go.OpenSpec.ofChange s with cond := some uptoSmall }

/-- 'bakelaw1.Names', WHERE WHAT IT READS IS OF BULK AT MOST 1048576: true; the input reads as it did. -/
def namesUptoRow : OpenClaim := { program := "ytjggjnjmnmdgaaa", sum := "d7408f92e6ef71c9eb7fb878fe66c9556a6f54dc7df9d3211b7baa481a045fdc", func := "bakelite/bakelaw1.Names", spec := "names", apart := false, narrowed := true }
def NamesUptoSaid : Prop := namesUptoRow.holds Try.pinned (OpenSpec.upto namesSpec)

/-- 'bakelaw1.BitFields', WHERE WHAT IT READS IS OF BULK AT MOST 1048576: true; the input reads as it did. -/
def bitFieldsUptoRow : OpenClaim := { program := "ytjggjnjmnmdgaaa", sum := "d7408f92e6ef71c9eb7fb878fe66c9556a6f54dc7df9d3211b7baa481a045fdc", func := "bakelite/bakelaw1.BitFields", spec := "bitFields", apart := false, narrowed := true }
def BitFieldsUptoSaid : Prop := bitFieldsUptoRow.holds Try.pinned (OpenSpec.upto bitFieldsSpec)

/-- 'bakelaw1.BitAdds', WHERE WHAT IT READS IS OF BULK AT MOST 1048576: true; the input reads as it did. -/
def bitAddsUptoRow : OpenClaim := { program := "ytjggjnjmnmdgaaa", sum := "d7408f92e6ef71c9eb7fb878fe66c9556a6f54dc7df9d3211b7baa481a045fdc", func := "bakelite/bakelaw1.BitAdds", spec := "bitAdds", apart := false, narrowed := true }
def BitAddsUptoSaid : Prop := bitAddsUptoRow.holds Try.pinned (OpenSpec.upto bitAddsSpec)

/-- 'bakelaw1.BitDigits', WHERE WHAT IT READS IS OF BULK AT MOST 1048576: true; the input reads as it did. -/
def bitDigitsUptoRow : OpenClaim := { program := "ytjggjnjmnmdgaaa", sum := "d7408f92e6ef71c9eb7fb878fe66c9556a6f54dc7df9d3211b7baa481a045fdc", func := "bakelite/bakelaw1.BitDigits", spec := "bitDigits", apart := false, narrowed := true }
def BitDigitsUptoSaid : Prop := bitDigitsUptoRow.holds Try.pinned (OpenSpec.upto bitDigitsSpec)

/-- 'bakelaw1.BitLows', WHERE WHAT IT READS IS OF BULK AT MOST 1048576: true; the input reads as it did. -/
def bitLowsUptoRow : OpenClaim := { program := "ytjggjnjmnmdgaaa", sum := "d7408f92e6ef71c9eb7fb878fe66c9556a6f54dc7df9d3211b7baa481a045fdc", func := "bakelite/bakelaw1.BitLows", spec := "bitLows", apart := false, narrowed := true }
def BitLowsUptoSaid : Prop := bitLowsUptoRow.holds Try.pinned (OpenSpec.upto bitLowsSpec)

/-- 'bakelaw1.PortActs', WHERE WHAT IT READS IS OF BULK AT MOST 1048576: true; the input reads as it did. -/
def portActsUptoRow : OpenClaim := { program := "ytjggjnjmnmdgaaa", sum := "d7408f92e6ef71c9eb7fb878fe66c9556a6f54dc7df9d3211b7baa481a045fdc", func := "bakelite/bakelaw1.PortActs", spec := "portActs", unfollowed := true, recurses := true, apart := false, narrowed := true }
def PortActsUptoSaid : Prop := portActsUptoRow.holds Try.pinned (OpenSpec.upto portActsSpec)

/-- 'bakelaw1.PinBuses', WHERE WHAT IT READS IS OF BULK AT MOST 1048576: true; the input reads as it did. -/
def pinBusesUptoRow : OpenClaim := { program := "ytjggjnjmnmdgaaa", sum := "d7408f92e6ef71c9eb7fb878fe66c9556a6f54dc7df9d3211b7baa481a045fdc", func := "bakelite/bakelaw1.PinBuses", spec := "pinBuses", apart := false, narrowed := true }
def PinBusesUptoSaid : Prop := pinBusesUptoRow.holds Try.pinned (OpenSpec.upto pinBusesSpec)

/-- 'bakelaw1.TimerTicks', WHERE WHAT IT READS IS OF BULK AT MOST 1048576: true; the input reads as it did. -/
def timerTicksUptoRow : OpenClaim := { program := "ytjggjnjmnmdgaaa", sum := "d7408f92e6ef71c9eb7fb878fe66c9556a6f54dc7df9d3211b7baa481a045fdc", func := "bakelite/bakelaw1.TimerTicks", spec := "timerTicks", apart := false, narrowed := true }
def TimerTicksUptoSaid : Prop := timerTicksUptoRow.holds Try.pinned (OpenSpec.upto timerTicksSpec)

/-- 'bakelaw1.DriveDisks', WHERE WHAT IT READS IS OF BULK AT MOST 1048576: true; the input reads as it did. -/
def driveDisksUptoRow : OpenClaim := { program := "ytjggjnjmnmdgaaa", sum := "d7408f92e6ef71c9eb7fb878fe66c9556a6f54dc7df9d3211b7baa481a045fdc", func := "bakelite/bakelaw1.DriveDisks", spec := "driveDisks", apart := false, narrowed := true }
def DriveDisksUptoSaid : Prop := driveDisksUptoRow.holds Try.pinned (OpenSpec.upto driveDisksSpec)

/-- 'bakelaw1.WholeTells', WHERE WHAT IT READS IS OF BULK AT MOST 1048576: true; the input reads as it did. -/
def wholeTellsUptoRow : OpenClaim := { program := "ytjggjnjmnmdgaaa", sum := "d7408f92e6ef71c9eb7fb878fe66c9556a6f54dc7df9d3211b7baa481a045fdc", func := "bakelite/bakelaw1.WholeTells", spec := "wholeTells", unfollowed := true, recurses := true, apart := false, narrowed := true }
def WholeTellsUptoSaid : Prop := wholeTellsUptoRow.holds Try.pinned (OpenSpec.upto wholeTellsSpec)

/-- 'bakelaw1.PinJoins', WHERE WHAT IT READS IS OF BULK AT MOST 1048576: true; the input reads as it did. -/
def pinJoinsUptoRow : OpenClaim := { program := "ytjggjnjmnmdgaaa", sum := "d7408f92e6ef71c9eb7fb878fe66c9556a6f54dc7df9d3211b7baa481a045fdc", func := "bakelite/bakelaw1.PinJoins", spec := "pinJoins", unfollowed := true, recurses := true, apart := false, narrowed := true }
def PinJoinsUptoSaid : Prop := pinJoinsUptoRow.holds Try.pinned (OpenSpec.upto pinJoinsSpec)

/-- 'bakelaw1.SerialTicks', WHERE WHAT IT READS IS OF BULK AT MOST 1048576: true; the input reads as it did. -/
def serialTicksUptoRow : OpenClaim := { program := "ytjggjnjmnmdgaaa", sum := "d7408f92e6ef71c9eb7fb878fe66c9556a6f54dc7df9d3211b7baa481a045fdc", func := "bakelite/bakelaw1.SerialTicks", spec := "serialTicks", apart := false, narrowed := true }
def SerialTicksUptoSaid : Prop := serialTicksUptoRow.holds Try.pinned (OpenSpec.upto serialTicksSpec)

/-- 'bakelaw1.TimerActs', WHERE WHAT IT READS IS OF BULK AT MOST 1048576: true; the input reads as it did. -/
def timerActsUptoRow : OpenClaim := { program := "ytjggjnjmnmdgaaa", sum := "d7408f92e6ef71c9eb7fb878fe66c9556a6f54dc7df9d3211b7baa481a045fdc", func := "bakelite/bakelaw1.TimerActs", spec := "timerActs", unfollowed := true, recurses := true, apart := false, narrowed := true }
def TimerActsUptoSaid : Prop := timerActsUptoRow.holds Try.pinned (OpenSpec.upto timerActsSpec)

end Rows
end Go.Proofs.Ytjggjnjmnmdgaaa
