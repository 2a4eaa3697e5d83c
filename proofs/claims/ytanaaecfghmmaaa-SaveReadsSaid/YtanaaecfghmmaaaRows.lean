/-
  No cell of these rows narrows 'for every input' (looked for: loops, veiled, ifaces, maps, wideKeys, modest, calm, conditions, laid).
  DERIVED. THE GIVEN ROWS OF THIS SEAT. 6 by the template 'for every input the law returns true; each argument reads behind the call as it read before'; 0 by the template 'total and deterministic' (their statements: YtanaaecfghmmaaaTotals.lean).
  GIVEN WITH THE SEED: the statements are not yours to turn. If you find one false, say at which input.
  Laid BY PROGRAM, IN A SANDBOX (cutbox-rows.mjs): the forced cells as the released guide's own fill.sh prints them over the translation 801300d5e06a58a2… (all of the seat's roots in one cut). By AI agents, Wed Nov 11 2026. No macro, syntax, notation, axiom, sorry.
-/
import Derived.Test.YtanaaecfghmmaaaChecked
import GoSem.Claim
import GoSem.ClaimJoined
import GoSem.ClaimMapViews
import Derived.JoinedTies
import Derived.KernelRfl
namespace Go.Proofs.Ytanaaecfghmmaaa
/- THE CELL 'sum', in the pinned program and in every row, IS THE sha256 OF THE DUMP (.gsa) THAT YtanaaecfghmmaaaProg.lean LOADS. Nothing in Lean hashes anything: it is a label: what it is worth is what the hold of that sum in a sandbox is worth. -/
noncomputable def Try.pinned : Pinned := { name := "ytanaaecfghmmaaa", sum := "801300d5e06a58a2c6bb5c321f2726c1e88cada036a6718f6e63b14a4f45f94b", checked := Try.checked }
namespace Rows
def none {H : Type} : Left H := { results := [], args := [] }

/-- 'bakelaw1.WholeTells': WHATEVER THE INPUT: true; the input reads as it did. -/
def wholeTellsSpec : ChangeSpec := { name := "wholeTells", fn := fun _ => fun
  | [d1, d2] => { results := [.lit (.bool true)], args := [d1, d2] }
  | _ => none }
def wholeTellsRow : OpenClaim := { program := "ytanaaecfghmmaaa", sum := "801300d5e06a58a2c6bb5c321f2726c1e88cada036a6718f6e63b14a4f45f94b", func := "bakelite/bakelaw1.WholeTells", spec := "wholeTells", unfollowed := true, recurses := true, plainKeys := false, apart := false }
def WholeTellsSaid : Prop := wholeTellsRow.holds Try.pinned (OpenSpec.ofChange wholeTellsSpec)

/-- ITS FALSE NEIGHBOUR: 'it returns false'. Refute it at one input. -/
def wholeTellsWrong : ChangeSpec := { name := "wholeTells", fn := fun _ => fun
  | [d1, d2] => { results := [.lit (.bool false)], args := [d1, d2] }
  | _ => none }
def WholeTellsWrongFalsely : Prop := wholeTellsRow.holds Try.pinned (OpenSpec.ofChange wholeTellsWrong)

/-- 'bakelaw1.SaveReads': WHATEVER THE INPUT: true; the input reads as it did. -/
def saveReadsSpec : ChangeSpec := { name := "saveReads", fn := fun _ => fun
  | [d] => { results := [.lit (.bool true)], args := [d] }
  | _ => none }
def saveReadsRow : OpenClaim := { program := "ytanaaecfghmmaaa", sum := "801300d5e06a58a2c6bb5c321f2726c1e88cada036a6718f6e63b14a4f45f94b", func := "bakelite/bakelaw1.SaveReads", spec := "saveReads", unfollowed := true, recurses := true, plainKeys := false, apart := false }
def SaveReadsSaid : Prop := saveReadsRow.holds Try.pinned (OpenSpec.ofChange saveReadsSpec)

/-- ITS FALSE NEIGHBOUR: 'it returns false'. Refute it at one input. -/
def saveReadsWrong : ChangeSpec := { name := "saveReads", fn := fun _ => fun
  | [d] => { results := [.lit (.bool false)], args := [d] }
  | _ => none }
def SaveReadsWrongFalsely : Prop := saveReadsRow.holds Try.pinned (OpenSpec.ofChange saveReadsWrong)

/-- 'bakelaw1.TableChecks': WHATEVER THE INPUT: true; the input reads as it did. -/
def tableChecksSpec : ChangeSpec := { name := "tableChecks", fn := fun _ => fun
  | [d1, d2] => { results := [.lit (.bool true)], args := [d1, d2] }
  | _ => none }
def tableChecksRow : OpenClaim := { program := "ytanaaecfghmmaaa", sum := "801300d5e06a58a2c6bb5c321f2726c1e88cada036a6718f6e63b14a4f45f94b", func := "bakelite/bakelaw1.TableChecks", spec := "tableChecks", inPlace := ["internal/bytealg.IndexByteString"], unfollowed := true, recurses := true, plainKeys := false, apart := false }
def TableChecksSaid : Prop := tableChecksRow.holds Try.pinned (OpenSpec.ofChange tableChecksSpec)

/-- ITS FALSE NEIGHBOUR: 'it returns false'. Refute it at one input. -/
def tableChecksWrong : ChangeSpec := { name := "tableChecks", fn := fun _ => fun
  | [d1, d2] => { results := [.lit (.bool false)], args := [d1, d2] }
  | _ => none }
def TableChecksWrongFalsely : Prop := tableChecksRow.holds Try.pinned (OpenSpec.ofChange tableChecksWrong)

/-- 'bakelaw1.TableFinds': WHATEVER THE INPUT: true; the input reads as it did. -/
def tableFindsSpec : ChangeSpec := { name := "tableFinds", fn := fun _ => fun
  | [d1, d2, d3, d4, d5] => { results := [.lit (.bool true)], args := [d1, d2, d3, d4, d5] }
  | _ => none }
def tableFindsRow : OpenClaim := { program := "ytanaaecfghmmaaa", sum := "801300d5e06a58a2c6bb5c321f2726c1e88cada036a6718f6e63b14a4f45f94b", func := "bakelite/bakelaw1.TableFinds", spec := "tableFinds", unfollowed := true, recurses := true, plainKeys := false, apart := false }
def TableFindsSaid : Prop := tableFindsRow.holds Try.pinned (OpenSpec.ofChange tableFindsSpec)

/-- ITS FALSE NEIGHBOUR: 'it returns false'. Refute it at one input. -/
def tableFindsWrong : ChangeSpec := { name := "tableFinds", fn := fun _ => fun
  | [d1, d2, d3, d4, d5] => { results := [.lit (.bool false)], args := [d1, d2, d3, d4, d5] }
  | _ => none }
def TableFindsWrongFalsely : Prop := tableFindsRow.holds Try.pinned (OpenSpec.ofChange tableFindsWrong)

/-- 'bakelaw1.WholeRuns': WHATEVER THE INPUT: true; the input reads as it did. -/
def wholeRunsSpec : ChangeSpec := { name := "wholeRuns", fn := fun _ => fun
  | [d1, d2, d3, d4] => { results := [.lit (.bool true)], args := [d1, d2, d3, d4] }
  | _ => none }
def wholeRunsRow : OpenClaim := { program := "ytanaaecfghmmaaa", sum := "801300d5e06a58a2c6bb5c321f2726c1e88cada036a6718f6e63b14a4f45f94b", func := "bakelite/bakelaw1.WholeRuns", spec := "wholeRuns", unfollowed := true, recurses := true, plainKeys := false, apart := false }
def WholeRunsSaid : Prop := wholeRunsRow.holds Try.pinned (OpenSpec.ofChange wholeRunsSpec)

/-- ITS FALSE NEIGHBOUR: 'it returns false'. Refute it at one input. -/
def wholeRunsWrong : ChangeSpec := { name := "wholeRuns", fn := fun _ => fun
  | [d1, d2, d3, d4] => { results := [.lit (.bool false)], args := [d1, d2, d3, d4] }
  | _ => none }
def WholeRunsWrongFalsely : Prop := wholeRunsRow.holds Try.pinned (OpenSpec.ofChange wholeRunsWrong)

/-- 'bakelaw1.BoardChecks': WHATEVER THE INPUT: true; the input reads as it did. -/
def boardChecksSpec : ChangeSpec := { name := "boardChecks", fn := fun _ => fun
  | [d1, d2] => { results := [.lit (.bool true)], args := [d1, d2] }
  | _ => none }
def boardChecksRow : OpenClaim := { program := "ytanaaecfghmmaaa", sum := "801300d5e06a58a2c6bb5c321f2726c1e88cada036a6718f6e63b14a4f45f94b", func := "bakelite/bakelaw1.BoardChecks", spec := "boardChecks", inPlace := ["internal/bytealg.IndexByteString", "internal/bytealg.IndexString"], unfollowed := true, recurses := true, named := ["internal/bytealg.MaxLen"], plainKeys := false, apart := false }
def BoardChecksSaid : Prop := boardChecksRow.holds Try.pinned (OpenSpec.ofChange boardChecksSpec)

/-- ITS FALSE NEIGHBOUR: 'it returns false'. Refute it at one input. -/
def boardChecksWrong : ChangeSpec := { name := "boardChecks", fn := fun _ => fun
  | [d1, d2] => { results := [.lit (.bool false)], args := [d1, d2] }
  | _ => none }
def BoardChecksWrongFalsely : Prop := boardChecksRow.holds Try.pinned (OpenSpec.ofChange boardChecksWrong)

/- THE SECOND FORM. 'bulk': how many values and letters a reading holds, each counted each time it is reached (what is shared counts as often as it is met; a slice's spare places count too). A statement '..UptoSaid' is the law's where the arguments, and the package variables that the reading takes, are together of bulk at most 1048576: NARROWER than '..Said'. Prove '..Said' where nothing that the law and all that it calls make is longer than what came in: it says more and counts as full. Else prove '..UptoSaid'. A law counts once. -/
mutual
def uptoBulk {H : Type} : DataW H → Nat
  | .lit (.string bytes) => bytes.length + 1
  | .lit _ => 1
  | .nil => 1
  | .ptr d => uptoBulk d + 1
  | .slice elems spare => uptoBulkAll elems + uptoBulkAll spare + 1
  | .agg parts => uptoBulkAll parts + 1
  | .iface _ d => uptoBulk d + 1
  | .map entries => uptoBulkEntries entries + 1
  | .held _ => 1
def uptoBulkAll {H : Type} : List (DataW H) → Nat
  | [] => 0
  | d :: r => uptoBulk d + uptoBulkAll r
def uptoBulkEntries {H : Type} : List (Lit × DataW H) → Nat
  | [] => 0
  | x :: r => uptoBulkEntry x + uptoBulkEntries r
def uptoBulkEntry {H : Type} : Lit × DataW H → Nat
  | (.string bytes, d) => bytes.length + uptoBulk d + 1
  | (_, d) => uptoBulk d + 1
 end
def uptoSmall : (H : Type) → List (DataW H) → Bool := fun _ ds => decide (uptoBulkAll ds ≤ 1048576)
def OpenSpec.upto (s : _root_.Go.ChangeSpec) : _root_.Go.OpenSpec := { _root_.Go.OpenSpec.ofChange s with cond := some uptoSmall }

/-- 'bakelaw1.WholeTells', WHERE WHAT IT READS IS OF BULK AT MOST 1048576: true; the input reads as it did. -/
def wholeTellsUptoRow : OpenClaim := { program := "ytanaaecfghmmaaa", sum := "801300d5e06a58a2c6bb5c321f2726c1e88cada036a6718f6e63b14a4f45f94b", func := "bakelite/bakelaw1.WholeTells", spec := "wholeTells", unfollowed := true, recurses := true, plainKeys := false, apart := false, narrowed := true }
def WholeTellsUptoSaid : Prop := wholeTellsUptoRow.holds Try.pinned (OpenSpec.upto wholeTellsSpec)

/-- 'bakelaw1.SaveReads', WHERE WHAT IT READS IS OF BULK AT MOST 1048576: true; the input reads as it did. -/
def saveReadsUptoRow : OpenClaim := { program := "ytanaaecfghmmaaa", sum := "801300d5e06a58a2c6bb5c321f2726c1e88cada036a6718f6e63b14a4f45f94b", func := "bakelite/bakelaw1.SaveReads", spec := "saveReads", unfollowed := true, recurses := true, plainKeys := false, apart := false, narrowed := true }
def SaveReadsUptoSaid : Prop := saveReadsUptoRow.holds Try.pinned (OpenSpec.upto saveReadsSpec)

/-- 'bakelaw1.TableChecks', WHERE WHAT IT READS IS OF BULK AT MOST 1048576: true; the input reads as it did. -/
def tableChecksUptoRow : OpenClaim := { program := "ytanaaecfghmmaaa", sum := "801300d5e06a58a2c6bb5c321f2726c1e88cada036a6718f6e63b14a4f45f94b", func := "bakelite/bakelaw1.TableChecks", spec := "tableChecks", inPlace := ["internal/bytealg.IndexByteString"], unfollowed := true, recurses := true, plainKeys := false, apart := false, narrowed := true }
def TableChecksUptoSaid : Prop := tableChecksUptoRow.holds Try.pinned (OpenSpec.upto tableChecksSpec)

/-- 'bakelaw1.TableFinds', WHERE WHAT IT READS IS OF BULK AT MOST 1048576: true; the input reads as it did. -/
def tableFindsUptoRow : OpenClaim := { program := "ytanaaecfghmmaaa", sum := "801300d5e06a58a2c6bb5c321f2726c1e88cada036a6718f6e63b14a4f45f94b", func := "bakelite/bakelaw1.TableFinds", spec := "tableFinds", unfollowed := true, recurses := true, plainKeys := false, apart := false, narrowed := true }
def TableFindsUptoSaid : Prop := tableFindsUptoRow.holds Try.pinned (OpenSpec.upto tableFindsSpec)

/-- 'bakelaw1.WholeRuns', WHERE WHAT IT READS IS OF BULK AT MOST 1048576: true; the input reads as it did. -/
def wholeRunsUptoRow : OpenClaim := { program := "ytanaaecfghmmaaa", sum := "801300d5e06a58a2c6bb5c321f2726c1e88cada036a6718f6e63b14a4f45f94b", func := "bakelite/bakelaw1.WholeRuns", spec := "wholeRuns", unfollowed := true, recurses := true, plainKeys := false, apart := false, narrowed := true }
def WholeRunsUptoSaid : Prop := wholeRunsUptoRow.holds Try.pinned (OpenSpec.upto wholeRunsSpec)

/-- 'bakelaw1.BoardChecks', WHERE WHAT IT READS IS OF BULK AT MOST 1048576: true; the input reads as it did. -/
def boardChecksUptoRow : OpenClaim := { program := "ytanaaecfghmmaaa", sum := "801300d5e06a58a2c6bb5c321f2726c1e88cada036a6718f6e63b14a4f45f94b", func := "bakelite/bakelaw1.BoardChecks", spec := "boardChecks", inPlace := ["internal/bytealg.IndexByteString", "internal/bytealg.IndexString"], unfollowed := true, recurses := true, named := ["internal/bytealg.MaxLen"], plainKeys := false, apart := false, narrowed := true }
def BoardChecksUptoSaid : Prop := boardChecksUptoRow.holds Try.pinned (OpenSpec.upto boardChecksSpec)

end Rows
end Go.Proofs.Ytanaaecfghmmaaa
