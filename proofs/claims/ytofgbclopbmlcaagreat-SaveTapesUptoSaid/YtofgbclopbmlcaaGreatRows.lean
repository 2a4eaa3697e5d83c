/-
  No cell of these rows narrows 'for every input' (looked for: loops, veiled, ifaces, maps, wideKeys, modest, calm, conditions, laid).
  DERIVED. THE GIVEN ROWS OF THIS SEAT. 7 by the template 'for every input the law returns true; each argument reads behind the call as it read before'; 0 by the template 'total and deterministic' (their statements: YtofgbclopbmlcaaGreatTotals.lean).
  GIVEN WITH THE SEED: the statements are not yours to turn. If you find one false, say at which input.
  Laid BY PROGRAM, IN A SANDBOX (cutbox-rows.mjs): the forced cells as the released guide's own fill.sh prints them over the translation 7293c0b35472d446… (all of the seat's roots in one cut). By AI agents, Wed Nov 11 2026. No macro, syntax, notation, axiom, sorry.
-/
import Derived.Test.YtofgbclopbmlcaaGreatChecked
import GoSem.Claim
import GoSem.ClaimJoined
import GoSem.ClaimMapViews
import Derived.JoinedTies
import Derived.KernelRfl
namespace Go.Proofs.YtofgbclopbmlcaaGreat
/- THE CELL 'sum', in the pinned program and in every row, IS THE sha256 OF THE DUMP (.gsa) THAT YtofgbclopbmlcaaGreatProg.lean LOADS. Nothing in Lean hashes anything: it is a label: what it is worth is what the hold of that sum in a sandbox is worth. -/
noncomputable def Tryz.pinned : Pinned := { name := "ytofgbclopbmlcaagreat", sum := "7293c0b35472d4465934976933edb7c3554626e05c945ca277c7ea87982bbc35", checked := Tryz.checked }
namespace Rows
def none {H : Type} : Left H := { results := [], args := [] }

/-- 'bakelaw1.LinkChecks': WHATEVER THE INPUT: true; the input reads as it did. -/
def linkChecksSpec : ChangeSpec := { name := "linkChecks", fn := fun _ => fun
  | [d1, d2] => { results := [.lit (.bool true)], args := [d1, d2] }
  | _ => none }
def linkChecksRow : OpenClaim := { program := "ytofgbclopbmlcaagreat", sum := "7293c0b35472d4465934976933edb7c3554626e05c945ca277c7ea87982bbc35", func := "bakelite/bakelaw1.LinkChecks", spec := "linkChecks", inPlace := ["internal/bytealg.IndexByteString", "internal/bytealg.IndexString"], unfollowed := true, recurses := true, named := ["internal/bytealg.MaxLen"], plainKeys := false, apart := false }
def LinkChecksSaid : Prop := linkChecksRow.holds Tryz.pinned (OpenSpec.ofChange linkChecksSpec)

/-- ITS FALSE NEIGHBOUR: 'it returns false'. Refute it at one input. -/
def linkChecksWrong : ChangeSpec := { name := "linkChecks", fn := fun _ => fun
  | [d1, d2] => { results := [.lit (.bool false)], args := [d1, d2] }
  | _ => none }
def LinkChecksWrongFalsely : Prop := linkChecksRow.holds Tryz.pinned (OpenSpec.ofChange linkChecksWrong)

/-- 'bakelaw1.MachChecks': WHATEVER THE INPUT: true; the input reads as it did. -/
def machChecksSpec : ChangeSpec := { name := "machChecks", fn := fun _ => fun
  | [d1, d2, d3] => { results := [.lit (.bool true)], args := [d1, d2, d3] }
  | _ => none }
def machChecksRow : OpenClaim := { program := "ytofgbclopbmlcaagreat", sum := "7293c0b35472d4465934976933edb7c3554626e05c945ca277c7ea87982bbc35", func := "bakelite/bakelaw1.MachChecks", spec := "machChecks", inPlace := ["internal/bytealg.IndexByteString", "internal/bytealg.IndexString"], unfollowed := true, recurses := true, named := ["internal/bytealg.MaxLen"], plainKeys := false, apart := false }
def MachChecksSaid : Prop := machChecksRow.holds Tryz.pinned (OpenSpec.ofChange machChecksSpec)

/-- ITS FALSE NEIGHBOUR: 'it returns false'. Refute it at one input. -/
def machChecksWrong : ChangeSpec := { name := "machChecks", fn := fun _ => fun
  | [d1, d2, d3] => { results := [.lit (.bool false)], args := [d1, d2, d3] }
  | _ => none }
def MachChecksWrongFalsely : Prop := machChecksRow.holds Tryz.pinned (OpenSpec.ofChange machChecksWrong)

/-- 'bakelaw1.MachRuns': WHATEVER THE INPUT: true; the input reads as it did. -/
def machRunsSpec : ChangeSpec := { name := "machRuns", fn := fun _ => fun
  | [d1, d2, d3, d4] => { results := [.lit (.bool true)], args := [d1, d2, d3, d4] }
  | _ => none }
def machRunsRow : OpenClaim := { program := "ytofgbclopbmlcaagreat", sum := "7293c0b35472d4465934976933edb7c3554626e05c945ca277c7ea87982bbc35", func := "bakelite/bakelaw1.MachRuns", spec := "machRuns", inPlace := ["internal/bytealg.IndexByteString", "internal/bytealg.IndexString"], unfollowed := true, recurses := true, named := ["internal/bytealg.MaxLen"], plainKeys := false, apart := false }
def MachRunsSaid : Prop := machRunsRow.holds Tryz.pinned (OpenSpec.ofChange machRunsSpec)

/-- ITS FALSE NEIGHBOUR: 'it returns false'. Refute it at one input. -/
def machRunsWrong : ChangeSpec := { name := "machRuns", fn := fun _ => fun
  | [d1, d2, d3, d4] => { results := [.lit (.bool false)], args := [d1, d2, d3, d4] }
  | _ => none }
def MachRunsWrongFalsely : Prop := machRunsRow.holds Tryz.pinned (OpenSpec.ofChange machRunsWrong)

/-- 'bakelaw1.QuickSafes': WHATEVER THE INPUT: true; the input reads as it did. -/
def quickSafesSpec : ChangeSpec := { name := "quickSafes", fn := fun _ => fun
  | [d1, d2] => { results := [.lit (.bool true)], args := [d1, d2] }
  | _ => none }
def quickSafesRow : OpenClaim := { program := "ytofgbclopbmlcaagreat", sum := "7293c0b35472d4465934976933edb7c3554626e05c945ca277c7ea87982bbc35", func := "bakelite/bakelaw1.QuickSafes", spec := "quickSafes", inPlace := ["internal/bytealg.IndexByteString", "internal/bytealg.IndexString"], unfollowed := true, recurses := true, named := ["internal/bytealg.MaxLen"], plainKeys := false, apart := false }
def QuickSafesSaid : Prop := quickSafesRow.holds Tryz.pinned (OpenSpec.ofChange quickSafesSpec)

/-- ITS FALSE NEIGHBOUR: 'it returns false'. Refute it at one input. -/
def quickSafesWrong : ChangeSpec := { name := "quickSafes", fn := fun _ => fun
  | [d1, d2] => { results := [.lit (.bool false)], args := [d1, d2] }
  | _ => none }
def QuickSafesWrongFalsely : Prop := quickSafesRow.holds Tryz.pinned (OpenSpec.ofChange quickSafesWrong)

/-- 'bakelaw1.QuickRuns': WHATEVER THE INPUT: true; the input reads as it did. -/
def quickRunsSpec : ChangeSpec := { name := "quickRuns", fn := fun _ => fun
  | [d1, d2, d3, d4] => { results := [.lit (.bool true)], args := [d1, d2, d3, d4] }
  | _ => none }
def quickRunsRow : OpenClaim := { program := "ytofgbclopbmlcaagreat", sum := "7293c0b35472d4465934976933edb7c3554626e05c945ca277c7ea87982bbc35", func := "bakelite/bakelaw1.QuickRuns", spec := "quickRuns", inPlace := ["internal/bytealg.IndexByteString", "internal/bytealg.IndexString"], unfollowed := true, recurses := true, named := ["internal/bytealg.MaxLen"], plainKeys := false, apart := false }
def QuickRunsSaid : Prop := quickRunsRow.holds Tryz.pinned (OpenSpec.ofChange quickRunsSpec)

/-- ITS FALSE NEIGHBOUR: 'it returns false'. Refute it at one input. -/
def quickRunsWrong : ChangeSpec := { name := "quickRuns", fn := fun _ => fun
  | [d1, d2, d3, d4] => { results := [.lit (.bool false)], args := [d1, d2, d3, d4] }
  | _ => none }
def QuickRunsWrongFalsely : Prop := quickRunsRow.holds Tryz.pinned (OpenSpec.ofChange quickRunsWrong)

/-- 'bakelaw1.LinkRuns': WHATEVER THE INPUT: true; the input reads as it did. -/
def linkRunsSpec : ChangeSpec := { name := "linkRuns", fn := fun _ => fun
  | [d1, d2, d3] => { results := [.lit (.bool true)], args := [d1, d2, d3] }
  | _ => none }
def linkRunsRow : OpenClaim := { program := "ytofgbclopbmlcaagreat", sum := "7293c0b35472d4465934976933edb7c3554626e05c945ca277c7ea87982bbc35", func := "bakelite/bakelaw1.LinkRuns", spec := "linkRuns", inPlace := ["internal/bytealg.IndexByteString", "internal/bytealg.IndexString"], unfollowed := true, recurses := true, named := ["internal/bytealg.MaxLen"], plainKeys := false, apart := false }
def LinkRunsSaid : Prop := linkRunsRow.holds Tryz.pinned (OpenSpec.ofChange linkRunsSpec)

/-- ITS FALSE NEIGHBOUR: 'it returns false'. Refute it at one input. -/
def linkRunsWrong : ChangeSpec := { name := "linkRuns", fn := fun _ => fun
  | [d1, d2, d3] => { results := [.lit (.bool false)], args := [d1, d2, d3] }
  | _ => none }
def LinkRunsWrongFalsely : Prop := linkRunsRow.holds Tryz.pinned (OpenSpec.ofChange linkRunsWrong)

/-- 'bakelaw1.SaveTapes': WHATEVER THE INPUT: true; the input reads as it did. -/
def saveTapesSpec : ChangeSpec := { name := "saveTapes", fn := fun _ => fun
  | [d1, d2, d3, d4, d5] => { results := [.lit (.bool true)], args := [d1, d2, d3, d4, d5] }
  | _ => none }
def saveTapesRow : OpenClaim := { program := "ytofgbclopbmlcaagreat", sum := "7293c0b35472d4465934976933edb7c3554626e05c945ca277c7ea87982bbc35", func := "bakelite/bakelaw1.SaveTapes", spec := "saveTapes", inPlace := ["internal/bytealg.IndexByteString", "internal/bytealg.IndexString"], unfollowed := true, recurses := true, named := ["internal/bytealg.MaxLen"], plainKeys := false, apart := false }
def SaveTapesSaid : Prop := saveTapesRow.holds Tryz.pinned (OpenSpec.ofChange saveTapesSpec)

/-- ITS FALSE NEIGHBOUR: 'it returns false'. Refute it at one input. -/
def saveTapesWrong : ChangeSpec := { name := "saveTapes", fn := fun _ => fun
  | [d1, d2, d3, d4, d5] => { results := [.lit (.bool false)], args := [d1, d2, d3, d4, d5] }
  | _ => none }
def SaveTapesWrongFalsely : Prop := saveTapesRow.holds Tryz.pinned (OpenSpec.ofChange saveTapesWrong)

/- THE SECOND FORM. 'bulk': how many values and letters a reading holds, each counted each time it is reached (what is shared counts as often as it is met; a slice's spare places count too). A statement '..UptoSaid' is the law's where the arguments, and the package variables that the reading takes, are together of bulk at most 1048576: NARROWER than '..Said'. Prove '..Said' where nothing that the law and all that it calls make is longer than what came in: it says more and counts as full. Else prove '..UptoSaid'. A law counts once. -/
mutual
def uptoBulk {H : Type} : DataW H → Nat
  | .lit (.string bytes) => bytes.length + 1
  | .lit _ => 1
  | .nil => 1
  | .ptr d => uptoBulk d + 1
  | .slice elems spare => uptoBulkAll elems + uptoBulkAll spare + 1
  | .agg parts => uptoBulkAll parts + 1
  | .iface _ d => uptoBulk d + 1
  | .map entries => uptoBulkEntries entries + 1
  | .held _ => 1
def uptoBulkAll {H : Type} : List (DataW H) → Nat
  | [] => 0
  | d :: r => uptoBulk d + uptoBulkAll r
def uptoBulkEntries {H : Type} : List (Lit × DataW H) → Nat
  | [] => 0
  | x :: r => uptoBulkEntry x + uptoBulkEntries r
def uptoBulkEntry {H : Type} : Lit × DataW H → Nat
  | (.string bytes, d) => bytes.length + uptoBulk d + 1
  | (_, d) => uptoBulk d + 1
 end
def uptoSmall : (H : Type) → List (DataW H) → Bool := fun _ ds => decide (uptoBulkAll ds ≤ 1048576)
def OpenSpec.upto (s : _root_.Go.ChangeSpec) : _root_.Go.OpenSpec := { _root_.Go.OpenSpec.ofChange s with cond := some uptoSmall }

/-- 'bakelaw1.LinkChecks', WHERE WHAT IT READS IS OF BULK AT MOST 1048576: true; the input reads as it did. -/
def linkChecksUptoRow : OpenClaim := { program := "ytofgbclopbmlcaagreat", sum := "7293c0b35472d4465934976933edb7c3554626e05c945ca277c7ea87982bbc35", func := "bakelite/bakelaw1.LinkChecks", spec := "linkChecks", inPlace := ["internal/bytealg.IndexByteString", "internal/bytealg.IndexString"], unfollowed := true, recurses := true, named := ["internal/bytealg.MaxLen"], plainKeys := false, apart := false, narrowed := true }
def LinkChecksUptoSaid : Prop := linkChecksUptoRow.holds Tryz.pinned (OpenSpec.upto linkChecksSpec)

/-- 'bakelaw1.MachChecks', WHERE WHAT IT READS IS OF BULK AT MOST 1048576: true; the input reads as it did. -/
def machChecksUptoRow : OpenClaim := { program := "ytofgbclopbmlcaagreat", sum := "7293c0b35472d4465934976933edb7c3554626e05c945ca277c7ea87982bbc35", func := "bakelite/bakelaw1.MachChecks", spec := "machChecks", inPlace := ["internal/bytealg.IndexByteString", "internal/bytealg.IndexString"], unfollowed := true, recurses := true, named := ["internal/bytealg.MaxLen"], plainKeys := false, apart := false, narrowed := true }
def MachChecksUptoSaid : Prop := machChecksUptoRow.holds Tryz.pinned (OpenSpec.upto machChecksSpec)

/-- 'bakelaw1.MachRuns', WHERE WHAT IT READS IS OF BULK AT MOST 1048576: true; the input reads as it did. -/
def machRunsUptoRow : OpenClaim := { program := "ytofgbclopbmlcaagreat", sum := "7293c0b35472d4465934976933edb7c3554626e05c945ca277c7ea87982bbc35", func := "bakelite/bakelaw1.MachRuns", spec := "machRuns", inPlace := ["internal/bytealg.IndexByteString", "internal/bytealg.IndexString"], unfollowed := true, recurses := true, named := ["internal/bytealg.MaxLen"], plainKeys := false, apart := false, narrowed := true }
def MachRunsUptoSaid : Prop := machRunsUptoRow.holds Tryz.pinned (OpenSpec.upto machRunsSpec)

/-- 'bakelaw1.QuickSafes', WHERE WHAT IT READS IS OF BULK AT MOST 1048576: true; the input reads as it did. -/
def quickSafesUptoRow : OpenClaim := { program := "ytofgbclopbmlcaagreat", sum := "7293c0b35472d4465934976933edb7c3554626e05c945ca277c7ea87982bbc35", func := "bakelite/bakelaw1.QuickSafes", spec := "quickSafes", inPlace := ["internal/bytealg.IndexByteString", "internal/bytealg.IndexString"], unfollowed := true, recurses := true, named := ["internal/bytealg.MaxLen"], plainKeys := false, apart := false, narrowed := true }
def QuickSafesUptoSaid : Prop := quickSafesUptoRow.holds Tryz.pinned (OpenSpec.upto quickSafesSpec)

/-- 'bakelaw1.QuickRuns', WHERE WHAT IT READS IS OF BULK AT MOST 1048576: true; the input reads as it did. -/
def quickRunsUptoRow : OpenClaim := { program := "ytofgbclopbmlcaagreat", sum := "7293c0b35472d4465934976933edb7c3554626e05c945ca277c7ea87982bbc35", func := "bakelite/bakelaw1.QuickRuns", spec := "quickRuns", inPlace := ["internal/bytealg.IndexByteString", "internal/bytealg.IndexString"], unfollowed := true, recurses := true, named := ["internal/bytealg.MaxLen"], plainKeys := false, apart := false, narrowed := true }
def QuickRunsUptoSaid : Prop := quickRunsUptoRow.holds Tryz.pinned (OpenSpec.upto quickRunsSpec)

/-- 'bakelaw1.LinkRuns', WHERE WHAT IT READS IS OF BULK AT MOST 1048576: true; the input reads as it did. -/
def linkRunsUptoRow : OpenClaim := { program := "ytofgbclopbmlcaagreat", sum := "7293c0b35472d4465934976933edb7c3554626e05c945ca277c7ea87982bbc35", func := "bakelite/bakelaw1.LinkRuns", spec := "linkRuns", inPlace := ["internal/bytealg.IndexByteString", "internal/bytealg.IndexString"], unfollowed := true, recurses := true, named := ["internal/bytealg.MaxLen"], plainKeys := false, apart := false, narrowed := true }
def LinkRunsUptoSaid : Prop := linkRunsUptoRow.holds Tryz.pinned (OpenSpec.upto linkRunsSpec)

/-- 'bakelaw1.SaveTapes', WHERE WHAT IT READS IS OF BULK AT MOST 1048576: true; the input reads as it did. -/
def saveTapesUptoRow : OpenClaim := { program := "ytofgbclopbmlcaagreat", sum := "7293c0b35472d4465934976933edb7c3554626e05c945ca277c7ea87982bbc35", func := "bakelite/bakelaw1.SaveTapes", spec := "saveTapes", inPlace := ["internal/bytealg.IndexByteString", "internal/bytealg.IndexString"], unfollowed := true, recurses := true, named := ["internal/bytealg.MaxLen"], plainKeys := false, apart := false, narrowed := true }
def SaveTapesUptoSaid : Prop := saveTapesUptoRow.holds Tryz.pinned (OpenSpec.upto saveTapesSpec)

end Rows
end Go.Proofs.YtofgbclopbmlcaaGreat
