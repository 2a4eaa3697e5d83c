/-
  No cell of these rows narrows 'for every input' (looked for: loops, veiled, ifaces, maps, wideKeys, modest, calm, conditions, laid).
  DERIVED. THE GIVEN ROWS OF THIS SEAT. 9 by the template 'for every input the law returns true; each argument reads behind the call as it read before'; 0 by the template 'total and deterministic' (their statements: YtblnigjmcjpopaaTotals.lean).
  GIVEN WITH THE SEED: the statements are not yours to turn. If you find one false, say at which input.
  Laid BY PROGRAM, IN A SANDBOX (cutbox-rows.mjs): the forced cells as the released guide's own fill.sh prints them over the translation d2d31e17f68c3c57… (all of the seat's roots in one cut). By AI agents, Wed Nov 11 2026. No macro, syntax, notation, axiom, sorry.
-/
import Derived.Test.YtblnigjmcjpopaaChecked
import GoSem.Claim
import GoSem.ClaimJoined
import GoSem.ClaimMapViews
import Derived.JoinedTies
import Derived.KernelRfl
namespace Go.Proofs.Ytblnigjmcjpopaa
/- THE CELL 'sum', in the pinned program and in every row, IS THE sha256 OF THE DUMP (.gsa) THAT YtblnigjmcjpopaaProg.lean LOADS. Nothing in Lean hashes anything: it is a label: what it is worth is what the hold of that sum in a sandbox is worth. -/
noncomputable def Try.pinned : Pinned := { name := "ytblnigjmcjpopaa", sum := "d2d31e17f68c3c57c3620dc1303aa8ebb067b905c0fab3e578af1e477d643214", checked := Try.checked }
namespace Rows
def none {H : Type} : Left H := { results := [], args := [] }

/-- 'bakelaw1.TableSames': WHATEVER THE INPUT: true; the input reads as it did. -/
def tableSamesSpec : ChangeSpec := { name := "tableSames", fn := fun _ => fun
  | [d1, d2] => { results := [.lit (.bool true)], args := [d1, d2] }
  | _ => none }
def tableSamesRow : OpenClaim := { program := "ytblnigjmcjpopaa", sum := "d2d31e17f68c3c57c3620dc1303aa8ebb067b905c0fab3e578af1e477d643214", func := "bakelite/bakelaw1.TableSames", spec := "tableSames", unfollowed := true, recurses := true, plainKeys := false, apart := false }
def TableSamesSaid : Prop := tableSamesRow.holds Try.pinned (OpenSpec.ofChange tableSamesSpec)

/-- ITS FALSE NEIGHBOUR: 'it returns false'. Refute it at one input. -/
def tableSamesWrong : ChangeSpec := { name := "tableSames", fn := fun _ => fun
  | [d1, d2] => { results := [.lit (.bool false)], args := [d1, d2] }
  | _ => none }
def TableSamesWrongFalsely : Prop := tableSamesRow.holds Try.pinned (OpenSpec.ofChange tableSamesWrong)

/-- 'bakelaw1.TableFinds': WHATEVER THE INPUT: true; the input reads as it did. -/
def tableFindsSpec : ChangeSpec := { name := "tableFinds", fn := fun _ => fun
  | [d1, d2, d3, d4, d5] => { results := [.lit (.bool true)], args := [d1, d2, d3, d4, d5] }
  | _ => none }
def tableFindsRow : OpenClaim := { program := "ytblnigjmcjpopaa", sum := "d2d31e17f68c3c57c3620dc1303aa8ebb067b905c0fab3e578af1e477d643214", func := "bakelite/bakelaw1.TableFinds", spec := "tableFinds", unfollowed := true, recurses := true, plainKeys := false, apart := false }
def TableFindsSaid : Prop := tableFindsRow.holds Try.pinned (OpenSpec.ofChange tableFindsSpec)

/-- ITS FALSE NEIGHBOUR: 'it returns false'. Refute it at one input. -/
def tableFindsWrong : ChangeSpec := { name := "tableFinds", fn := fun _ => fun
  | [d1, d2, d3, d4, d5] => { results := [.lit (.bool false)], args := [d1, d2, d3, d4, d5] }
  | _ => none }
def TableFindsWrongFalsely : Prop := tableFindsRow.holds Try.pinned (OpenSpec.ofChange tableFindsWrong)

/-- 'bakelaw1.CoreTells': WHATEVER THE INPUT: true; the input reads as it did. -/
def coreTellsSpec : ChangeSpec := { name := "coreTells", fn := fun _ => fun
  | [d1, d2, d3] => { results := [.lit (.bool true)], args := [d1, d2, d3] }
  | _ => none }
def coreTellsRow : OpenClaim := { program := "ytblnigjmcjpopaa", sum := "d2d31e17f68c3c57c3620dc1303aa8ebb067b905c0fab3e578af1e477d643214", func := "bakelite/bakelaw1.CoreTells", spec := "coreTells", unfollowed := true, recurses := true, plainKeys := false, apart := false }
def CoreTellsSaid : Prop := coreTellsRow.holds Try.pinned (OpenSpec.ofChange coreTellsSpec)

/-- ITS FALSE NEIGHBOUR: 'it returns false'. Refute it at one input. -/
def coreTellsWrong : ChangeSpec := { name := "coreTells", fn := fun _ => fun
  | [d1, d2, d3] => { results := [.lit (.bool false)], args := [d1, d2, d3] }
  | _ => none }
def CoreTellsWrongFalsely : Prop := coreTellsRow.holds Try.pinned (OpenSpec.ofChange coreTellsWrong)

/-- 'bakelaw1.BoardChecks': WHATEVER THE INPUT: true; the input reads as it did. -/
def boardChecksSpec : ChangeSpec := { name := "boardChecks", fn := fun _ => fun
  | [d1, d2] => { results := [.lit (.bool true)], args := [d1, d2] }
  | _ => none }
def boardChecksRow : OpenClaim := { program := "ytblnigjmcjpopaa", sum := "d2d31e17f68c3c57c3620dc1303aa8ebb067b905c0fab3e578af1e477d643214", func := "bakelite/bakelaw1.BoardChecks", spec := "boardChecks", inPlace := ["internal/bytealg.IndexByteString", "internal/bytealg.IndexString"], unfollowed := true, recurses := true, named := ["internal/bytealg.MaxLen"], plainKeys := false, apart := false }
def BoardChecksSaid : Prop := boardChecksRow.holds Try.pinned (OpenSpec.ofChange boardChecksSpec)

/-- ITS FALSE NEIGHBOUR: 'it returns false'. Refute it at one input. -/
def boardChecksWrong : ChangeSpec := { name := "boardChecks", fn := fun _ => fun
  | [d1, d2] => { results := [.lit (.bool false)], args := [d1, d2] }
  | _ => none }
def BoardChecksWrongFalsely : Prop := boardChecksRow.holds Try.pinned (OpenSpec.ofChange boardChecksWrong)

/-- 'bakelaw1.BoardMaps': WHATEVER THE INPUT: true; the input reads as it did. -/
def boardMapsSpec : ChangeSpec := { name := "boardMaps", fn := fun _ => fun
  | [d] => { results := [.lit (.bool true)], args := [d] }
  | _ => none }
def boardMapsRow : OpenClaim := { program := "ytblnigjmcjpopaa", sum := "d2d31e17f68c3c57c3620dc1303aa8ebb067b905c0fab3e578af1e477d643214", func := "bakelite/bakelaw1.BoardMaps", spec := "boardMaps", inPlace := ["internal/bytealg.IndexByteString", "internal/bytealg.IndexString"], unfollowed := true, recurses := true, named := ["internal/bytealg.MaxLen"], plainKeys := false, apart := false }
def BoardMapsSaid : Prop := boardMapsRow.holds Try.pinned (OpenSpec.ofChange boardMapsSpec)

/-- ITS FALSE NEIGHBOUR: 'it returns false'. Refute it at one input. -/
def boardMapsWrong : ChangeSpec := { name := "boardMaps", fn := fun _ => fun
  | [d] => { results := [.lit (.bool false)], args := [d] }
  | _ => none }
def BoardMapsWrongFalsely : Prop := boardMapsRow.holds Try.pinned (OpenSpec.ofChange boardMapsWrong)

/-- 'bakelaw1.BoardFinds': WHATEVER THE INPUT: true; the input reads as it did. -/
def boardFindsSpec : ChangeSpec := { name := "boardFinds", fn := fun _ => fun
  | [d1, d2] => { results := [.lit (.bool true)], args := [d1, d2] }
  | _ => none }
def boardFindsRow : OpenClaim := { program := "ytblnigjmcjpopaa", sum := "d2d31e17f68c3c57c3620dc1303aa8ebb067b905c0fab3e578af1e477d643214", func := "bakelite/bakelaw1.BoardFinds", spec := "boardFinds", inPlace := ["internal/bytealg.IndexByteString", "internal/bytealg.IndexString"], unfollowed := true, recurses := true, named := ["internal/bytealg.MaxLen"], plainKeys := false, apart := false }
def BoardFindsSaid : Prop := boardFindsRow.holds Try.pinned (OpenSpec.ofChange boardFindsSpec)

/-- ITS FALSE NEIGHBOUR: 'it returns false'. Refute it at one input. -/
def boardFindsWrong : ChangeSpec := { name := "boardFinds", fn := fun _ => fun
  | [d1, d2] => { results := [.lit (.bool false)], args := [d1, d2] }
  | _ => none }
def BoardFindsWrongFalsely : Prop := boardFindsRow.holds Try.pinned (OpenSpec.ofChange boardFindsWrong)

/-- 'bakelaw1.ChipChecks': WHATEVER THE INPUT: true; the input reads as it did. -/
def chipChecksSpec : ChangeSpec := { name := "chipChecks", fn := fun _ => fun
  | [d] => { results := [.lit (.bool true)], args := [d] }
  | _ => none }
def chipChecksRow : OpenClaim := { program := "ytblnigjmcjpopaa", sum := "d2d31e17f68c3c57c3620dc1303aa8ebb067b905c0fab3e578af1e477d643214", func := "bakelite/bakelaw1.ChipChecks", spec := "chipChecks", inPlace := ["internal/bytealg.IndexByteString"], plainKeys := false, apart := false }
def ChipChecksSaid : Prop := chipChecksRow.holds Try.pinned (OpenSpec.ofChange chipChecksSpec)

/-- ITS FALSE NEIGHBOUR: 'it returns false'. Refute it at one input. -/
def chipChecksWrong : ChangeSpec := { name := "chipChecks", fn := fun _ => fun
  | [d] => { results := [.lit (.bool false)], args := [d] }
  | _ => none }
def ChipChecksWrongFalsely : Prop := chipChecksRow.holds Try.pinned (OpenSpec.ofChange chipChecksWrong)

/-- 'bakelaw1.BoardSames': WHATEVER THE INPUT: true; the input reads as it did. -/
def boardSamesSpec : ChangeSpec := { name := "boardSames", fn := fun _ => fun
  | [d1, d2] => { results := [.lit (.bool true)], args := [d1, d2] }
  | _ => none }
def boardSamesRow : OpenClaim := { program := "ytblnigjmcjpopaa", sum := "d2d31e17f68c3c57c3620dc1303aa8ebb067b905c0fab3e578af1e477d643214", func := "bakelite/bakelaw1.BoardSames", spec := "boardSames", inPlace := ["internal/bytealg.IndexByteString", "internal/bytealg.IndexString"], unfollowed := true, recurses := true, named := ["internal/bytealg.MaxLen"], plainKeys := false, apart := false }
def BoardSamesSaid : Prop := boardSamesRow.holds Try.pinned (OpenSpec.ofChange boardSamesSpec)

/-- ITS FALSE NEIGHBOUR: 'it returns false'. Refute it at one input. -/
def boardSamesWrong : ChangeSpec := { name := "boardSames", fn := fun _ => fun
  | [d1, d2] => { results := [.lit (.bool false)], args := [d1, d2] }
  | _ => none }
def BoardSamesWrongFalsely : Prop := boardSamesRow.holds Try.pinned (OpenSpec.ofChange boardSamesWrong)

/-- 'bakelaw1.ChipTicks': WHATEVER THE INPUT: true; the input reads as it did. -/
def chipTicksSpec : ChangeSpec := { name := "chipTicks", fn := fun _ => fun
  | [d1, d2, d3] => { results := [.lit (.bool true)], args := [d1, d2, d3] }
  | _ => none }
def chipTicksRow : OpenClaim := { program := "ytblnigjmcjpopaa", sum := "d2d31e17f68c3c57c3620dc1303aa8ebb067b905c0fab3e578af1e477d643214", func := "bakelite/bakelaw1.ChipTicks", spec := "chipTicks", plainKeys := false, apart := false }
def ChipTicksSaid : Prop := chipTicksRow.holds Try.pinned (OpenSpec.ofChange chipTicksSpec)

/-- ITS FALSE NEIGHBOUR: 'it returns false'. Refute it at one input. -/
def chipTicksWrong : ChangeSpec := { name := "chipTicks", fn := fun _ => fun
  | [d1, d2, d3] => { results := [.lit (.bool false)], args := [d1, d2, d3] }
  | _ => none }
def ChipTicksWrongFalsely : Prop := chipTicksRow.holds Try.pinned (OpenSpec.ofChange chipTicksWrong)

/- THE SECOND FORM. 'bulk': how many values and letters a reading holds, each counted each time it is reached (what is shared counts as often as it is met; a slice's spare places count too). A statement '..UptoSaid' is the law's where the arguments, and the package variables that the reading takes, are together of bulk at most 1048576: NARROWER than '..Said'. Prove '..Said' where nothing that the law and all that it calls make is longer than what came in: it says more and counts as full. Else prove '..UptoSaid'. A law counts once. -/
mutual
def uptoBulk {H : Type} : DataW H → Nat
  | .lit (.string bytes) => bytes.length + 1
  | .lit _ => 1
  | .nil => 1
  | .ptr d => uptoBulk d + 1
  | .slice elems spare => uptoBulkAll elems + uptoBulkAll spare + 1
  | .agg parts => uptoBulkAll parts + 1
  | .iface _ d => uptoBulk d + 1
  | .map entries => uptoBulkEntries entries + 1
  | .held _ => 1
def uptoBulkAll {H : Type} : List (DataW H) → Nat
  | [] => 0
  | d :: r => uptoBulk d + uptoBulkAll r
def uptoBulkEntries {H : Type} : List (Lit × DataW H) → Nat
  | [] => 0
  | x :: r => uptoBulkEntry x + uptoBulkEntries r
def uptoBulkEntry {H : Type} : Lit × DataW H → Nat
  | (.string bytes, d) => bytes.length + uptoBulk d + 1
  | (_, d) => uptoBulk d + 1
 end
def uptoSmall : (H : Type) → List (DataW H) → Bool := fun _ ds => decide (uptoBulkAll ds ≤ 1048576)
def OpenSpec.upto (s : _root_.Go.ChangeSpec) : _root_.Go.OpenSpec := { _root_.Go.OpenSpec.ofChange s with cond := some uptoSmall }

/-- 'bakelaw1.TableSames', WHERE WHAT IT READS IS OF BULK AT MOST 1048576: true; the input reads as it did. -/
def tableSamesUptoRow : OpenClaim := { program := "ytblnigjmcjpopaa", sum := "d2d31e17f68c3c57c3620dc1303aa8ebb067b905c0fab3e578af1e477d643214", func := "bakelite/bakelaw1.TableSames", spec := "tableSames", unfollowed := true, recurses := true, plainKeys := false, apart := false, narrowed := true }
def TableSamesUptoSaid : Prop := tableSamesUptoRow.holds Try.pinned (OpenSpec.upto tableSamesSpec)

/-- 'bakelaw1.TableFinds', WHERE WHAT IT READS IS OF BULK AT MOST 1048576: true; the input reads as it did. -/
def tableFindsUptoRow : OpenClaim := { program := "ytblnigjmcjpopaa", sum := "d2d31e17f68c3c57c3620dc1303aa8ebb067b905c0fab3e578af1e477d643214", func := "bakelite/bakelaw1.TableFinds", spec := "tableFinds", unfollowed := true, recurses := true, plainKeys := false, apart := false, narrowed := true }
def TableFindsUptoSaid : Prop := tableFindsUptoRow.holds Try.pinned (OpenSpec.upto tableFindsSpec)

/-- 'bakelaw1.CoreTells', WHERE WHAT IT READS IS OF BULK AT MOST 1048576: true; the input reads as it did. -/
def coreTellsUptoRow : OpenClaim := { program := "ytblnigjmcjpopaa", sum := "d2d31e17f68c3c57c3620dc1303aa8ebb067b905c0fab3e578af1e477d643214", func := "bakelite/bakelaw1.CoreTells", spec := "coreTells", unfollowed := true, recurses := true, plainKeys := false, apart := false, narrowed := true }
def CoreTellsUptoSaid : Prop := coreTellsUptoRow.holds Try.pinned (OpenSpec.upto coreTellsSpec)

/-- 'bakelaw1.BoardChecks', WHERE WHAT IT READS IS OF BULK AT MOST 1048576: true; the input reads as it did. -/
def boardChecksUptoRow : OpenClaim := { program := "ytblnigjmcjpopaa", sum := "d2d31e17f68c3c57c3620dc1303aa8ebb067b905c0fab3e578af1e477d643214", func := "bakelite/bakelaw1.BoardChecks", spec := "boardChecks", inPlace := ["internal/bytealg.IndexByteString", "internal/bytealg.IndexString"], unfollowed := true, recurses := true, named := ["internal/bytealg.MaxLen"], plainKeys := false, apart := false, narrowed := true }
def BoardChecksUptoSaid : Prop := boardChecksUptoRow.holds Try.pinned (OpenSpec.upto boardChecksSpec)

/-- 'bakelaw1.BoardMaps', WHERE WHAT IT READS IS OF BULK AT MOST 1048576: true; the input reads as it did. -/
def boardMapsUptoRow : OpenClaim := { program := "ytblnigjmcjpopaa", sum := "d2d31e17f68c3c57c3620dc1303aa8ebb067b905c0fab3e578af1e477d643214", func := "bakelite/bakelaw1.BoardMaps", spec := "boardMaps", inPlace := ["internal/bytealg.IndexByteString", "internal/bytealg.IndexString"], unfollowed := true, recurses := true, named := ["internal/bytealg.MaxLen"], plainKeys := false, apart := false, narrowed := true }
def BoardMapsUptoSaid : Prop := boardMapsUptoRow.holds Try.pinned (OpenSpec.upto boardMapsSpec)

/-- 'bakelaw1.BoardFinds', WHERE WHAT IT READS IS OF BULK AT MOST 1048576: true; the input reads as it did. -/
def boardFindsUptoRow : OpenClaim := { program := "ytblnigjmcjpopaa", sum := "d2d31e17f68c3c57c3620dc1303aa8ebb067b905c0fab3e578af1e477d643214", func := "bakelite/bakelaw1.BoardFinds", spec := "boardFinds", inPlace := ["internal/bytealg.IndexByteString", "internal/bytealg.IndexString"], unfollowed := true, recurses := true, named := ["internal/bytealg.MaxLen"], plainKeys := false, apart := false, narrowed := true }
def BoardFindsUptoSaid : Prop := boardFindsUptoRow.holds Try.pinned (OpenSpec.upto boardFindsSpec)

/-- 'bakelaw1.ChipChecks', WHERE WHAT IT READS IS OF BULK AT MOST 1048576: true; the input reads as it did. -/
def chipChecksUptoRow : OpenClaim := { program := "ytblnigjmcjpopaa", sum := "d2d31e17f68c3c57c3620dc1303aa8ebb067b905c0fab3e578af1e477d643214", func := "bakelite/bakelaw1.ChipChecks", spec := "chipChecks", inPlace := ["internal/bytealg.IndexByteString"], plainKeys := false, apart := false, narrowed := true }
def ChipChecksUptoSaid : Prop := chipChecksUptoRow.holds Try.pinned (OpenSpec.upto chipChecksSpec)

/-- 'bakelaw1.BoardSames', WHERE WHAT IT READS IS OF BULK AT MOST 1048576: true; the input reads as it did. -/
def boardSamesUptoRow : OpenClaim := { program := "ytblnigjmcjpopaa", sum := "d2d31e17f68c3c57c3620dc1303aa8ebb067b905c0fab3e578af1e477d643214", func := "bakelite/bakelaw1.BoardSames", spec := "boardSames", inPlace := ["internal/bytealg.IndexByteString", "internal/bytealg.IndexString"], unfollowed := true, recurses := true, named := ["internal/bytealg.MaxLen"], plainKeys := false, apart := false, narrowed := true }
def BoardSamesUptoSaid : Prop := boardSamesUptoRow.holds Try.pinned (OpenSpec.upto boardSamesSpec)

/-- 'bakelaw1.ChipTicks', WHERE WHAT IT READS IS OF BULK AT MOST 1048576: true; the input reads as it did. -/
def chipTicksUptoRow : OpenClaim := { program := "ytblnigjmcjpopaa", sum := "d2d31e17f68c3c57c3620dc1303aa8ebb067b905c0fab3e578af1e477d643214", func := "bakelite/bakelaw1.ChipTicks", spec := "chipTicks", plainKeys := false, apart := false, narrowed := true }
def ChipTicksUptoSaid : Prop := chipTicksUptoRow.holds Try.pinned (OpenSpec.upto chipTicksSpec)

end Rows
end Go.Proofs.Ytblnigjmcjpopaa
