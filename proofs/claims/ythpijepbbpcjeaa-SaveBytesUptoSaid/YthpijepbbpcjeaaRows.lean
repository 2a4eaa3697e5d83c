/-
  No cell of these rows narrows 'for every input' (looked for: loops, veiled, ifaces, maps, wideKeys, modest, calm, conditions, laid).
  DERIVED. THE GIVEN ROWS OF THIS SEAT. 12 by the template 'for every input the law returns true; each argument reads behind the call as it read before'; 0 by the template 'total and deterministic' (their statements: YthpijepbbpcjeaaTotals.lean).
  GIVEN WITH THE SEED: the statements are not yours to turn. If you find one false, say at which input.
  Laid BY PROGRAM, IN A SANDBOX (cutbox-rows.mjs): the forced cells as the released guide's own fill.sh prints them over the translation ccc6f809715f0bc4… (all of the seat's roots in one cut). By AI agents, Wed Nov 11 2026. No macro, syntax, notation, axiom, sorry.
-/
import Derived.Test.YthpijepbbpcjeaaChecked
import GoSem.Claim
import GoSem.ClaimJoined
import GoSem.ClaimMapViews
import Derived.JoinedTies
import Derived.KernelRfl
namespace Go.Proofs.Ythpijepbbpcjeaa
/- THE CELL 'sum', in the pinned program and in every row, IS THE sha256 OF THE DUMP (.gsa) THAT YthpijepbbpcjeaaProg.lean LOADS. Nothing in Lean hashes anything: it is a label: what it is worth is what the hold of that sum in a sandbox is worth. -/
noncomputable def Try.pinned : Pinned := { name := "ythpijepbbpcjeaa", sum := "ccc6f809715f0bc4accf1bad05ebab5a3e863be805c910e455cacd76f6f159e2", checked := Try.checked }
namespace Rows
def none {H : Type} : Left H := { results := [], args := [] }

/-- 'bakelaw1.VideoTicks': WHATEVER THE INPUT: true; the input reads as it did. -/
def videoTicksSpec : ChangeSpec := { name := "videoTicks", fn := fun _ => fun
  | [d1, d2] => { results := [.lit (.bool true)], args := [d1, d2] }
  | _ => none }
def videoTicksRow : OpenClaim := { program := "ythpijepbbpcjeaa", sum := "ccc6f809715f0bc4accf1bad05ebab5a3e863be805c910e455cacd76f6f159e2", func := "bakelite/bakelaw1.VideoTicks", spec := "videoTicks", plainKeys := false, apart := false }
def VideoTicksSaid : Prop := videoTicksRow.holds Try.pinned (OpenSpec.ofChange videoTicksSpec)

/-- ITS FALSE NEIGHBOUR: 'it returns false'. Refute it at one input. -/
def videoTicksWrong : ChangeSpec := { name := "videoTicks", fn := fun _ => fun
  | [d1, d2] => { results := [.lit (.bool false)], args := [d1, d2] }
  | _ => none }
def VideoTicksWrongFalsely : Prop := videoTicksRow.holds Try.pinned (OpenSpec.ofChange videoTicksWrong)

/-- 'bakelaw1.SerialActs': WHATEVER THE INPUT: true; the input reads as it did. -/
def serialActsSpec : ChangeSpec := { name := "serialActs", fn := fun _ => fun
  | [d1, d2, d3] => { results := [.lit (.bool true)], args := [d1, d2, d3] }
  | _ => none }
def serialActsRow : OpenClaim := { program := "ythpijepbbpcjeaa", sum := "ccc6f809715f0bc4accf1bad05ebab5a3e863be805c910e455cacd76f6f159e2", func := "bakelite/bakelaw1.SerialActs", spec := "serialActs", unfollowed := true, recurses := true, plainKeys := false, apart := false }
def SerialActsSaid : Prop := serialActsRow.holds Try.pinned (OpenSpec.ofChange serialActsSpec)

/-- ITS FALSE NEIGHBOUR: 'it returns false'. Refute it at one input. -/
def serialActsWrong : ChangeSpec := { name := "serialActs", fn := fun _ => fun
  | [d1, d2, d3] => { results := [.lit (.bool false)], args := [d1, d2, d3] }
  | _ => none }
def SerialActsWrongFalsely : Prop := serialActsRow.holds Try.pinned (OpenSpec.ofChange serialActsWrong)

/-- 'bakelaw1.VideoActs': WHATEVER THE INPUT: true; the input reads as it did. -/
def videoActsSpec : ChangeSpec := { name := "videoActs", fn := fun _ => fun
  | [d1, d2, d3] => { results := [.lit (.bool true)], args := [d1, d2, d3] }
  | _ => none }
def videoActsRow : OpenClaim := { program := "ythpijepbbpcjeaa", sum := "ccc6f809715f0bc4accf1bad05ebab5a3e863be805c910e455cacd76f6f159e2", func := "bakelite/bakelaw1.VideoActs", spec := "videoActs", unfollowed := true, recurses := true, plainKeys := false, apart := false }
def VideoActsSaid : Prop := videoActsRow.holds Try.pinned (OpenSpec.ofChange videoActsSpec)

/-- ITS FALSE NEIGHBOUR: 'it returns false'. Refute it at one input. -/
def videoActsWrong : ChangeSpec := { name := "videoActs", fn := fun _ => fun
  | [d1, d2, d3] => { results := [.lit (.bool false)], args := [d1, d2, d3] }
  | _ => none }
def VideoActsWrongFalsely : Prop := videoActsRow.holds Try.pinned (OpenSpec.ofChange videoActsWrong)

/-- 'bakelaw1.SoundTicks': WHATEVER THE INPUT: true; the input reads as it did. -/
def soundTicksSpec : ChangeSpec := { name := "soundTicks", fn := fun _ => fun
  | [d1, d2] => { results := [.lit (.bool true)], args := [d1, d2] }
  | _ => none }
def soundTicksRow : OpenClaim := { program := "ythpijepbbpcjeaa", sum := "ccc6f809715f0bc4accf1bad05ebab5a3e863be805c910e455cacd76f6f159e2", func := "bakelite/bakelaw1.SoundTicks", spec := "soundTicks", plainKeys := false, apart := false }
def SoundTicksSaid : Prop := soundTicksRow.holds Try.pinned (OpenSpec.ofChange soundTicksSpec)

/-- ITS FALSE NEIGHBOUR: 'it returns false'. Refute it at one input. -/
def soundTicksWrong : ChangeSpec := { name := "soundTicks", fn := fun _ => fun
  | [d1, d2] => { results := [.lit (.bool false)], args := [d1, d2] }
  | _ => none }
def SoundTicksWrongFalsely : Prop := soundTicksRow.holds Try.pinned (OpenSpec.ofChange soundTicksWrong)

/-- 'bakelaw1.SaveBytes': WHATEVER THE INPUT: true; the input reads as it did. -/
def saveBytesSpec : ChangeSpec := { name := "saveBytes", fn := fun _ => fun
  | [d] => { results := [.lit (.bool true)], args := [d] }
  | _ => none }
def saveBytesRow : OpenClaim := { program := "ythpijepbbpcjeaa", sum := "ccc6f809715f0bc4accf1bad05ebab5a3e863be805c910e455cacd76f6f159e2", func := "bakelite/bakelaw1.SaveBytes", spec := "saveBytes", unfollowed := true, recurses := true, plainKeys := false, apart := false }
def SaveBytesSaid : Prop := saveBytesRow.holds Try.pinned (OpenSpec.ofChange saveBytesSpec)

/-- ITS FALSE NEIGHBOUR: 'it returns false'. Refute it at one input. -/
def saveBytesWrong : ChangeSpec := { name := "saveBytes", fn := fun _ => fun
  | [d] => { results := [.lit (.bool false)], args := [d] }
  | _ => none }
def SaveBytesWrongFalsely : Prop := saveBytesRow.holds Try.pinned (OpenSpec.ofChange saveBytesWrong)

/-- 'bakelaw1.SaveReads': WHATEVER THE INPUT: true; the input reads as it did. -/
def saveReadsSpec : ChangeSpec := { name := "saveReads", fn := fun _ => fun
  | [d] => { results := [.lit (.bool true)], args := [d] }
  | _ => none }
def saveReadsRow : OpenClaim := { program := "ythpijepbbpcjeaa", sum := "ccc6f809715f0bc4accf1bad05ebab5a3e863be805c910e455cacd76f6f159e2", func := "bakelite/bakelaw1.SaveReads", spec := "saveReads", unfollowed := true, recurses := true, plainKeys := false, apart := false }
def SaveReadsSaid : Prop := saveReadsRow.holds Try.pinned (OpenSpec.ofChange saveReadsSpec)

/-- ITS FALSE NEIGHBOUR: 'it returns false'. Refute it at one input. -/
def saveReadsWrong : ChangeSpec := { name := "saveReads", fn := fun _ => fun
  | [d] => { results := [.lit (.bool false)], args := [d] }
  | _ => none }
def SaveReadsWrongFalsely : Prop := saveReadsRow.holds Try.pinned (OpenSpec.ofChange saveReadsWrong)

/-- 'bakelaw1.DriveTicks': WHATEVER THE INPUT: true; the input reads as it did. -/
def driveTicksSpec : ChangeSpec := { name := "driveTicks", fn := fun _ => fun
  | [d1, d2] => { results := [.lit (.bool true)], args := [d1, d2] }
  | _ => none }
def driveTicksRow : OpenClaim := { program := "ythpijepbbpcjeaa", sum := "ccc6f809715f0bc4accf1bad05ebab5a3e863be805c910e455cacd76f6f159e2", func := "bakelite/bakelaw1.DriveTicks", spec := "driveTicks", plainKeys := false, apart := false }
def DriveTicksSaid : Prop := driveTicksRow.holds Try.pinned (OpenSpec.ofChange driveTicksSpec)

/-- ITS FALSE NEIGHBOUR: 'it returns false'. Refute it at one input. -/
def driveTicksWrong : ChangeSpec := { name := "driveTicks", fn := fun _ => fun
  | [d1, d2] => { results := [.lit (.bool false)], args := [d1, d2] }
  | _ => none }
def DriveTicksWrongFalsely : Prop := driveTicksRow.holds Try.pinned (OpenSpec.ofChange driveTicksWrong)

/-- 'bakelaw1.DriveActs': WHATEVER THE INPUT: true; the input reads as it did. -/
def driveActsSpec : ChangeSpec := { name := "driveActs", fn := fun _ => fun
  | [d1, d2, d3] => { results := [.lit (.bool true)], args := [d1, d2, d3] }
  | _ => none }
def driveActsRow : OpenClaim := { program := "ythpijepbbpcjeaa", sum := "ccc6f809715f0bc4accf1bad05ebab5a3e863be805c910e455cacd76f6f159e2", func := "bakelite/bakelaw1.DriveActs", spec := "driveActs", unfollowed := true, recurses := true, plainKeys := false, apart := false }
def DriveActsSaid : Prop := driveActsRow.holds Try.pinned (OpenSpec.ofChange driveActsSpec)

/-- ITS FALSE NEIGHBOUR: 'it returns false'. Refute it at one input. -/
def driveActsWrong : ChangeSpec := { name := "driveActs", fn := fun _ => fun
  | [d1, d2, d3] => { results := [.lit (.bool false)], args := [d1, d2, d3] }
  | _ => none }
def DriveActsWrongFalsely : Prop := driveActsRow.holds Try.pinned (OpenSpec.ofChange driveActsWrong)

/-- 'bakelaw1.CoreAsks': WHATEVER THE INPUT: true; the input reads as it did. -/
def coreAsksSpec : ChangeSpec := { name := "coreAsks", fn := fun _ => fun
  | [d1, d2, d3] => { results := [.lit (.bool true)], args := [d1, d2, d3] }
  | _ => none }
def coreAsksRow : OpenClaim := { program := "ythpijepbbpcjeaa", sum := "ccc6f809715f0bc4accf1bad05ebab5a3e863be805c910e455cacd76f6f159e2", func := "bakelite/bakelaw1.CoreAsks", spec := "coreAsks", plainKeys := false, apart := false }
def CoreAsksSaid : Prop := coreAsksRow.holds Try.pinned (OpenSpec.ofChange coreAsksSpec)

/-- ITS FALSE NEIGHBOUR: 'it returns false'. Refute it at one input. -/
def coreAsksWrong : ChangeSpec := { name := "coreAsks", fn := fun _ => fun
  | [d1, d2, d3] => { results := [.lit (.bool false)], args := [d1, d2, d3] }
  | _ => none }
def CoreAsksWrongFalsely : Prop := coreAsksRow.holds Try.pinned (OpenSpec.ofChange coreAsksWrong)

/-- 'bakelaw1.SoundActs': WHATEVER THE INPUT: true; the input reads as it did. -/
def soundActsSpec : ChangeSpec := { name := "soundActs", fn := fun _ => fun
  | [d1, d2, d3] => { results := [.lit (.bool true)], args := [d1, d2, d3] }
  | _ => none }
def soundActsRow : OpenClaim := { program := "ythpijepbbpcjeaa", sum := "ccc6f809715f0bc4accf1bad05ebab5a3e863be805c910e455cacd76f6f159e2", func := "bakelite/bakelaw1.SoundActs", spec := "soundActs", unfollowed := true, recurses := true, plainKeys := false, apart := false }
def SoundActsSaid : Prop := soundActsRow.holds Try.pinned (OpenSpec.ofChange soundActsSpec)

/-- ITS FALSE NEIGHBOUR: 'it returns false'. Refute it at one input. -/
def soundActsWrong : ChangeSpec := { name := "soundActs", fn := fun _ => fun
  | [d1, d2, d3] => { results := [.lit (.bool false)], args := [d1, d2, d3] }
  | _ => none }
def SoundActsWrongFalsely : Prop := soundActsRow.holds Try.pinned (OpenSpec.ofChange soundActsWrong)

/-- 'bakelaw1.AluDoes': WHATEVER THE INPUT: true; the input reads as it did. -/
def aluDoesSpec : ChangeSpec := { name := "aluDoes", fn := fun _ => fun
  | [d1, d2] => { results := [.lit (.bool true)], args := [d1, d2] }
  | _ => none }
def aluDoesRow : OpenClaim := { program := "ythpijepbbpcjeaa", sum := "ccc6f809715f0bc4accf1bad05ebab5a3e863be805c910e455cacd76f6f159e2", func := "bakelite/bakelaw1.AluDoes", spec := "aluDoes", plainKeys := false, apart := false }
def AluDoesSaid : Prop := aluDoesRow.holds Try.pinned (OpenSpec.ofChange aluDoesSpec)

/-- ITS FALSE NEIGHBOUR: 'it returns false'. Refute it at one input. -/
def aluDoesWrong : ChangeSpec := { name := "aluDoes", fn := fun _ => fun
  | [d1, d2] => { results := [.lit (.bool false)], args := [d1, d2] }
  | _ => none }
def AluDoesWrongFalsely : Prop := aluDoesRow.holds Try.pinned (OpenSpec.ofChange aluDoesWrong)

/-- 'bakelaw1.TableChecks': WHATEVER THE INPUT: true; the input reads as it did. -/
def tableChecksSpec : ChangeSpec := { name := "tableChecks", fn := fun _ => fun
  | [d1, d2] => { results := [.lit (.bool true)], args := [d1, d2] }
  | _ => none }
def tableChecksRow : OpenClaim := { program := "ythpijepbbpcjeaa", sum := "ccc6f809715f0bc4accf1bad05ebab5a3e863be805c910e455cacd76f6f159e2", func := "bakelite/bakelaw1.TableChecks", spec := "tableChecks", inPlace := ["internal/bytealg.IndexByteString"], unfollowed := true, recurses := true, plainKeys := false, apart := false }
def TableChecksSaid : Prop := tableChecksRow.holds Try.pinned (OpenSpec.ofChange tableChecksSpec)

/-- ITS FALSE NEIGHBOUR: 'it returns false'. Refute it at one input. -/
def tableChecksWrong : ChangeSpec := { name := "tableChecks", fn := fun _ => fun
  | [d1, d2] => { results := [.lit (.bool false)], args := [d1, d2] }
  | _ => none }
def TableChecksWrongFalsely : Prop := tableChecksRow.holds Try.pinned (OpenSpec.ofChange tableChecksWrong)

/- THE SECOND FORM. 'bulk': how many values and letters a reading holds, each counted each time it is reached (what is shared counts as often as it is met; a slice's spare places count too). A statement '..UptoSaid' is the law's where the arguments, and the package variables that the reading takes, are together of bulk at most 1048576: NARROWER than '..Said'. Prove '..Said' where nothing that the law and all that it calls make is longer than what came in: it says more and counts as full. Else prove '..UptoSaid'. A law counts once. -/
mutual
def uptoBulk {H : Type} : DataW H → Nat
  | .lit (.string bytes) => bytes.length + 1
  | .lit _ => 1
  | .nil => 1
  | .ptr d => uptoBulk d + 1
  | .slice elems spare => uptoBulkAll elems + uptoBulkAll spare + 1
  | .agg parts => uptoBulkAll parts + 1
  | .iface _ d => uptoBulk d + 1
  | .map entries => uptoBulkEntries entries + 1
  | .held _ => 1
def uptoBulkAll {H : Type} : List (DataW H) → Nat
  | [] => 0
  | d :: r => uptoBulk d + uptoBulkAll r
def uptoBulkEntries {H : Type} : List (Lit × DataW H) → Nat
  | [] => 0
  | x :: r => uptoBulkEntry x + uptoBulkEntries r
def uptoBulkEntry {H : Type} : Lit × DataW H → Nat
  | (.string bytes, d) => bytes.length + uptoBulk d + 1
  | (_, d) => uptoBulk d + 1
 end
def uptoSmall : (H : Type) → List (DataW H) → Bool := fun _ ds => decide (uptoBulkAll ds ≤ 1048576)
def OpenSpec.upto (s : _root_.Go.ChangeSpec) : _root_.Go.OpenSpec := { _root_.Go.OpenSpec.ofChange s with cond := some uptoSmall }

/-- 'bakelaw1.VideoTicks', WHERE WHAT IT READS IS OF BULK AT MOST 1048576: true; the input reads as it did. -/
def videoTicksUptoRow : OpenClaim := { program := "ythpijepbbpcjeaa", sum := "ccc6f809715f0bc4accf1bad05ebab5a3e863be805c910e455cacd76f6f159e2", func := "bakelite/bakelaw1.VideoTicks", spec := "videoTicks", plainKeys := false, apart := false, narrowed := true }
def VideoTicksUptoSaid : Prop := videoTicksUptoRow.holds Try.pinned (OpenSpec.upto videoTicksSpec)

/-- 'bakelaw1.SerialActs', WHERE WHAT IT READS IS OF BULK AT MOST 1048576: true; the input reads as it did. -/
def serialActsUptoRow : OpenClaim := { program := "ythpijepbbpcjeaa", sum := "ccc6f809715f0bc4accf1bad05ebab5a3e863be805c910e455cacd76f6f159e2", func := "bakelite/bakelaw1.SerialActs", spec := "serialActs", unfollowed := true, recurses := true, plainKeys := false, apart := false, narrowed := true }
def SerialActsUptoSaid : Prop := serialActsUptoRow.holds Try.pinned (OpenSpec.upto serialActsSpec)

/-- 'bakelaw1.VideoActs', WHERE WHAT IT READS IS OF BULK AT MOST 1048576: true; the input reads as it did. -/
def videoActsUptoRow : OpenClaim := { program := "ythpijepbbpcjeaa", sum := "ccc6f809715f0bc4accf1bad05ebab5a3e863be805c910e455cacd76f6f159e2", func := "bakelite/bakelaw1.VideoActs", spec := "videoActs", unfollowed := true, recurses := true, plainKeys := false, apart := false, narrowed := true }
def VideoActsUptoSaid : Prop := videoActsUptoRow.holds Try.pinned (OpenSpec.upto videoActsSpec)

/-- 'bakelaw1.SoundTicks', WHERE WHAT IT READS IS OF BULK AT MOST 1048576: true; the input reads as it did. -/
def soundTicksUptoRow : OpenClaim := { program := "ythpijepbbpcjeaa", sum := "ccc6f809715f0bc4accf1bad05ebab5a3e863be805c910e455cacd76f6f159e2", func := "bakelite/bakelaw1.SoundTicks", spec := "soundTicks", plainKeys := false, apart := false, narrowed := true }
def SoundTicksUptoSaid : Prop := soundTicksUptoRow.holds Try.pinned (OpenSpec.upto soundTicksSpec)

/-- 'bakelaw1.SaveBytes', WHERE WHAT IT READS IS OF BULK AT MOST 1048576: true; the input reads as it did. -/
def saveBytesUptoRow : OpenClaim := { program := "ythpijepbbpcjeaa", sum := "ccc6f809715f0bc4accf1bad05ebab5a3e863be805c910e455cacd76f6f159e2", func := "bakelite/bakelaw1.SaveBytes", spec := "saveBytes", unfollowed := true, recurses := true, plainKeys := false, apart := false, narrowed := true }
def SaveBytesUptoSaid : Prop := saveBytesUptoRow.holds Try.pinned (OpenSpec.upto saveBytesSpec)

/-- 'bakelaw1.SaveReads', WHERE WHAT IT READS IS OF BULK AT MOST 1048576: true; the input reads as it did. -/
def saveReadsUptoRow : OpenClaim := { program := "ythpijepbbpcjeaa", sum := "ccc6f809715f0bc4accf1bad05ebab5a3e863be805c910e455cacd76f6f159e2", func := "bakelite/bakelaw1.SaveReads", spec := "saveReads", unfollowed := true, recurses := true, plainKeys := false, apart := false, narrowed := true }
def SaveReadsUptoSaid : Prop := saveReadsUptoRow.holds Try.pinned (OpenSpec.upto saveReadsSpec)

/-- 'bakelaw1.DriveTicks', WHERE WHAT IT READS IS OF BULK AT MOST 1048576: true; the input reads as it did. -/
def driveTicksUptoRow : OpenClaim := { program := "ythpijepbbpcjeaa", sum := "ccc6f809715f0bc4accf1bad05ebab5a3e863be805c910e455cacd76f6f159e2", func := "bakelite/bakelaw1.DriveTicks", spec := "driveTicks", plainKeys := false, apart := false, narrowed := true }
def DriveTicksUptoSaid : Prop := driveTicksUptoRow.holds Try.pinned (OpenSpec.upto driveTicksSpec)

/-- 'bakelaw1.DriveActs', WHERE WHAT IT READS IS OF BULK AT MOST 1048576: true; the input reads as it did. -/
def driveActsUptoRow : OpenClaim := { program := "ythpijepbbpcjeaa", sum := "ccc6f809715f0bc4accf1bad05ebab5a3e863be805c910e455cacd76f6f159e2", func := "bakelite/bakelaw1.DriveActs", spec := "driveActs", unfollowed := true, recurses := true, plainKeys := false, apart := false, narrowed := true }
def DriveActsUptoSaid : Prop := driveActsUptoRow.holds Try.pinned (OpenSpec.upto driveActsSpec)

/-- 'bakelaw1.CoreAsks', WHERE WHAT IT READS IS OF BULK AT MOST 1048576: true; the input reads as it did. -/
def coreAsksUptoRow : OpenClaim := { program := "ythpijepbbpcjeaa", sum := "ccc6f809715f0bc4accf1bad05ebab5a3e863be805c910e455cacd76f6f159e2", func := "bakelite/bakelaw1.CoreAsks", spec := "coreAsks", plainKeys := false, apart := false, narrowed := true }
def CoreAsksUptoSaid : Prop := coreAsksUptoRow.holds Try.pinned (OpenSpec.upto coreAsksSpec)

/-- 'bakelaw1.SoundActs', WHERE WHAT IT READS IS OF BULK AT MOST 1048576: true; the input reads as it did. -/
def soundActsUptoRow : OpenClaim := { program := "ythpijepbbpcjeaa", sum := "ccc6f809715f0bc4accf1bad05ebab5a3e863be805c910e455cacd76f6f159e2", func := "bakelite/bakelaw1.SoundActs", spec := "soundActs", unfollowed := true, recurses := true, plainKeys := false, apart := false, narrowed := true }
def SoundActsUptoSaid : Prop := soundActsUptoRow.holds Try.pinned (OpenSpec.upto soundActsSpec)

/-- 'bakelaw1.AluDoes', WHERE WHAT IT READS IS OF BULK AT MOST 1048576: true; the input reads as it did. -/
def aluDoesUptoRow : OpenClaim := { program := "ythpijepbbpcjeaa", sum := "ccc6f809715f0bc4accf1bad05ebab5a3e863be805c910e455cacd76f6f159e2", func := "bakelite/bakelaw1.AluDoes", spec := "aluDoes", plainKeys := false, apart := false, narrowed := true }
def AluDoesUptoSaid : Prop := aluDoesUptoRow.holds Try.pinned (OpenSpec.upto aluDoesSpec)

/-- 'bakelaw1.TableChecks', WHERE WHAT IT READS IS OF BULK AT MOST 1048576: true; the input reads as it did. -/
def tableChecksUptoRow : OpenClaim := { program := "ythpijepbbpcjeaa", sum := "ccc6f809715f0bc4accf1bad05ebab5a3e863be805c910e455cacd76f6f159e2", func := "bakelite/bakelaw1.TableChecks", spec := "tableChecks", inPlace := ["internal/bytealg.IndexByteString"], unfollowed := true, recurses := true, plainKeys := false, apart := false, narrowed := true }
def TableChecksUptoSaid : Prop := tableChecksUptoRow.holds Try.pinned (OpenSpec.upto tableChecksSpec)

end Rows
end Go.Proofs.Ythpijepbbpcjeaa
