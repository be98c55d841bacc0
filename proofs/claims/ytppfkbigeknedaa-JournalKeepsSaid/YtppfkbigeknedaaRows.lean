/-
  No cell of these rows narrows 'for every input' (looked for: loops, veiled, ifaces, maps, wideKeys, modest, calm, conditions, laid).
  DERIVED. THE GIVEN ROWS OF THIS SEAT. 15 by the template 'for every input the law returns true; each argument reads behind the call as it read before'; 0 by the template 'total and deterministic' (their statements: YtppfkbigeknedaaTotals.lean).
  GIVEN WITH THE SEED: the statements are not yours to turn. If you find one false, say at which input.
  Laid BY PROGRAM, IN A SANDBOX (cutbox-rows.mjs): the forced cells as the released guide's own fill.sh prints them over the translation 3a868c3fa7b95011… (all of the seat's roots in one cut). By AI agents, Wed Nov 11 2026. No macro, syntax, notation, axiom, sorry.
-/
import Derived.Test.YtppfkbigeknedaaChecked
import GoSem.Claim
import GoSem.ClaimJoined
import GoSem.ClaimMapViews
import Derived.JoinedTies
import Derived.KernelRfl
namespace Go.Proofs.Ytppfkbigeknedaa
/- THE CELL 'sum', in the pinned program and in every row, IS THE sha256 OF THE DUMP (.gsa) THAT YtppfkbigeknedaaProg.lean LOADS. Nothing in Lean hashes anything: it is a label: what it is worth is what the hold of that sum in a sandbox is worth. -/
noncomputable def Try.pinned : Pinned := { name := "ytppfkbigeknedaa", sum := "3a868c3fa7b95011074fb293664a20271af49f48d0de650b900dc7509a223b2b", checked := Try.checked }
namespace Rows
def none {H : Type} : Left H := { results := [], args := [] }

/-- 'dunnagelaw17.KeyTells': WHATEVER THE INPUT: true; the input reads as it did. -/
def keyTellsSpec : ChangeSpec := { name := "keyTells", fn := fun _ => fun
  | [d] => { results := [.lit (.bool true)], args := [d] }
  | _ => none }
def keyTellsRow : OpenClaim := { program := "ytppfkbigeknedaa", sum := "3a868c3fa7b95011074fb293664a20271af49f48d0de650b900dc7509a223b2b", func := "dunnage/dunnagelaw17.KeyTells", spec := "keyTells", apart := false }
def KeyTellsSaid : Prop := keyTellsRow.holds Try.pinned (OpenSpec.ofChange keyTellsSpec)

/-- ITS FALSE NEIGHBOUR: 'it returns false'. Refute it at one input. -/
def keyTellsWrong : ChangeSpec := { name := "keyTells", fn := fun _ => fun
  | [d] => { results := [.lit (.bool false)], args := [d] }
  | _ => none }
def KeyTellsWrongFalsely : Prop := keyTellsRow.holds Try.pinned (OpenSpec.ofChange keyTellsWrong)

/-- 'dunnagelaw17.KeyLeast': WHATEVER THE INPUT: true; the input reads as it did. -/
def keyLeastSpec : ChangeSpec := { name := "keyLeast", fn := fun _ => fun
  | [d] => { results := [.lit (.bool true)], args := [d] }
  | _ => none }
def keyLeastRow : OpenClaim := { program := "ytppfkbigeknedaa", sum := "3a868c3fa7b95011074fb293664a20271af49f48d0de650b900dc7509a223b2b", func := "dunnage/dunnagelaw17.KeyLeast", spec := "keyLeast", apart := false }
def KeyLeastSaid : Prop := keyLeastRow.holds Try.pinned (OpenSpec.ofChange keyLeastSpec)

/-- ITS FALSE NEIGHBOUR: 'it returns false'. Refute it at one input. -/
def keyLeastWrong : ChangeSpec := { name := "keyLeast", fn := fun _ => fun
  | [d] => { results := [.lit (.bool false)], args := [d] }
  | _ => none }
def KeyLeastWrongFalsely : Prop := keyLeastRow.holds Try.pinned (OpenSpec.ofChange keyLeastWrong)

/-- 'dunnagelaw01.VecAll': WHATEVER THE INPUT: true; the input reads as it did. -/
def vecAllSpec : ChangeSpec := { name := "vecAll", fn := fun _ => fun
  | [d] => { results := [.lit (.bool true)], args := [d] }
  | _ => none }
def vecAllRow : OpenClaim := { program := "ytppfkbigeknedaa", sum := "3a868c3fa7b95011074fb293664a20271af49f48d0de650b900dc7509a223b2b", func := "dunnage/dunnagelaw01.VecAll", spec := "vecAll", inPlace := ["math/bits.Add64"], unfollowed := true, recurses := true, apart := false }
def VecAllSaid : Prop := vecAllRow.holds Try.pinned (OpenSpec.ofChange vecAllSpec)

/-- ITS FALSE NEIGHBOUR: 'it returns false'. Refute it at one input. -/
def vecAllWrong : ChangeSpec := { name := "vecAll", fn := fun _ => fun
  | [d] => { results := [.lit (.bool false)], args := [d] }
  | _ => none }
def VecAllWrongFalsely : Prop := vecAllRow.holds Try.pinned (OpenSpec.ofChange vecAllWrong)

/-- 'dunnagelaw01.VecSums': WHATEVER THE INPUT: true; the input reads as it did. -/
def vecSumsSpec : ChangeSpec := { name := "vecSums", fn := fun _ => fun
  | [d1, d2] => { results := [.lit (.bool true)], args := [d1, d2] }
  | _ => none }
def vecSumsRow : OpenClaim := { program := "ytppfkbigeknedaa", sum := "3a868c3fa7b95011074fb293664a20271af49f48d0de650b900dc7509a223b2b", func := "dunnage/dunnagelaw01.VecSums", spec := "vecSums", inPlace := ["math/bits.Add64"], unfollowed := true, recurses := true, apart := false }
def VecSumsSaid : Prop := vecSumsRow.holds Try.pinned (OpenSpec.ofChange vecSumsSpec)

/-- ITS FALSE NEIGHBOUR: 'it returns false'. Refute it at one input. -/
def vecSumsWrong : ChangeSpec := { name := "vecSums", fn := fun _ => fun
  | [d1, d2] => { results := [.lit (.bool false)], args := [d1, d2] }
  | _ => none }
def VecSumsWrongFalsely : Prop := vecSumsRow.holds Try.pinned (OpenSpec.ofChange vecSumsWrong)

/-- 'dunnagelaw21.DiskBegins': WHATEVER THE INPUT: true; the input reads as it did. -/
def diskBeginsSpec : ChangeSpec := { name := "diskBegins", fn := fun _ => fun
  | [d1, d2, d3, d4] => { results := [.lit (.bool true)], args := [d1, d2, d3, d4] }
  | _ => none }
def diskBeginsRow : OpenClaim := { program := "ytppfkbigeknedaa", sum := "3a868c3fa7b95011074fb293664a20271af49f48d0de650b900dc7509a223b2b", func := "dunnage/dunnagelaw21.DiskBegins", spec := "diskBegins", apart := false }
def DiskBeginsSaid : Prop := diskBeginsRow.holds Try.pinned (OpenSpec.ofChange diskBeginsSpec)

/-- ITS FALSE NEIGHBOUR: 'it returns false'. Refute it at one input. -/
def diskBeginsWrong : ChangeSpec := { name := "diskBegins", fn := fun _ => fun
  | [d1, d2, d3, d4] => { results := [.lit (.bool false)], args := [d1, d2, d3, d4] }
  | _ => none }
def DiskBeginsWrongFalsely : Prop := diskBeginsRow.holds Try.pinned (OpenSpec.ofChange diskBeginsWrong)

/-- 'dunnagelaw17.KeyOne': WHATEVER THE INPUT: true; the input reads as it did. -/
def keyOneSpec : ChangeSpec := { name := "keyOne", fn := fun _ => fun
  | [d1, d2] => { results := [.lit (.bool true)], args := [d1, d2] }
  | _ => none }
def keyOneRow : OpenClaim := { program := "ytppfkbigeknedaa", sum := "3a868c3fa7b95011074fb293664a20271af49f48d0de650b900dc7509a223b2b", func := "dunnage/dunnagelaw17.KeyOne", spec := "keyOne", apart := false }
def KeyOneSaid : Prop := keyOneRow.holds Try.pinned (OpenSpec.ofChange keyOneSpec)

/-- ITS FALSE NEIGHBOUR: 'it returns false'. Refute it at one input. -/
def keyOneWrong : ChangeSpec := { name := "keyOne", fn := fun _ => fun
  | [d1, d2] => { results := [.lit (.bool false)], args := [d1, d2] }
  | _ => none }
def KeyOneWrongFalsely : Prop := keyOneRow.holds Try.pinned (OpenSpec.ofChange keyOneWrong)

/-- 'dunnagelaw01.VecTimes': WHATEVER THE INPUT: true; the input reads as it did. -/
def vecTimesSpec : ChangeSpec := { name := "vecTimes", fn := fun _ => fun
  | [d1, d2] => { results := [.lit (.bool true)], args := [d1, d2] }
  | _ => none }
def vecTimesRow : OpenClaim := { program := "ytppfkbigeknedaa", sum := "3a868c3fa7b95011074fb293664a20271af49f48d0de650b900dc7509a223b2b", func := "dunnage/dunnagelaw01.VecTimes", spec := "vecTimes", inPlace := ["math/bits.Add64"], unfollowed := true, recurses := true, apart := false }
def VecTimesSaid : Prop := vecTimesRow.holds Try.pinned (OpenSpec.ofChange vecTimesSpec)

/-- ITS FALSE NEIGHBOUR: 'it returns false'. Refute it at one input. -/
def vecTimesWrong : ChangeSpec := { name := "vecTimes", fn := fun _ => fun
  | [d1, d2] => { results := [.lit (.bool false)], args := [d1, d2] }
  | _ => none }
def VecTimesWrongFalsely : Prop := vecTimesRow.holds Try.pinned (OpenSpec.ofChange vecTimesWrong)

/-- 'dunnagelaw22.JournalWrites': WHATEVER THE INPUT: true; the input reads as it did. -/
def journalWritesSpec : ChangeSpec := { name := "journalWrites", fn := fun _ => fun
  | [d] => { results := [.lit (.bool true)], args := [d] }
  | _ => none }
def journalWritesRow : OpenClaim := { program := "ytppfkbigeknedaa", sum := "3a868c3fa7b95011074fb293664a20271af49f48d0de650b900dc7509a223b2b", func := "dunnage/dunnagelaw22.JournalWrites", spec := "journalWrites", apart := false }
def JournalWritesSaid : Prop := journalWritesRow.holds Try.pinned (OpenSpec.ofChange journalWritesSpec)

/-- ITS FALSE NEIGHBOUR: 'it returns false'. Refute it at one input. -/
def journalWritesWrong : ChangeSpec := { name := "journalWrites", fn := fun _ => fun
  | [d] => { results := [.lit (.bool false)], args := [d] }
  | _ => none }
def JournalWritesWrongFalsely : Prop := journalWritesRow.holds Try.pinned (OpenSpec.ofChange journalWritesWrong)

/-- 'dunnagelaw10.PriorOne': WHATEVER THE INPUT: true; the input reads as it did. -/
def priorOneSpec : ChangeSpec := { name := "priorOne", fn := fun _ => fun
  | [d1, d2, d3, d4] => { results := [.lit (.bool true)], args := [d1, d2, d3, d4] }
  | _ => none }
def priorOneRow : OpenClaim := { program := "ytppfkbigeknedaa", sum := "3a868c3fa7b95011074fb293664a20271af49f48d0de650b900dc7509a223b2b", func := "dunnage/dunnagelaw10.PriorOne", spec := "priorOne", unfollowed := true, recurses := true, apart := false }
def PriorOneSaid : Prop := priorOneRow.holds Try.pinned (OpenSpec.ofChange priorOneSpec)

/-- ITS FALSE NEIGHBOUR: 'it returns false'. Refute it at one input. -/
def priorOneWrong : ChangeSpec := { name := "priorOne", fn := fun _ => fun
  | [d1, d2, d3, d4] => { results := [.lit (.bool false)], args := [d1, d2, d3, d4] }
  | _ => none }
def PriorOneWrongFalsely : Prop := priorOneRow.holds Try.pinned (OpenSpec.ofChange priorOneWrong)

/-- 'dunnagelaw10.PriorVictims': WHATEVER THE INPUT: true; the input reads as it did. -/
def priorVictimsSpec : ChangeSpec := { name := "priorVictims", fn := fun _ => fun
  | [d1, d2, d3] => { results := [.lit (.bool true)], args := [d1, d2, d3] }
  | _ => none }
def priorVictimsRow : OpenClaim := { program := "ytppfkbigeknedaa", sum := "3a868c3fa7b95011074fb293664a20271af49f48d0de650b900dc7509a223b2b", func := "dunnage/dunnagelaw10.PriorVictims", spec := "priorVictims", unfollowed := true, recurses := true, apart := false }
def PriorVictimsSaid : Prop := priorVictimsRow.holds Try.pinned (OpenSpec.ofChange priorVictimsSpec)

/-- ITS FALSE NEIGHBOUR: 'it returns false'. Refute it at one input. -/
def priorVictimsWrong : ChangeSpec := { name := "priorVictims", fn := fun _ => fun
  | [d1, d2, d3] => { results := [.lit (.bool false)], args := [d1, d2, d3] }
  | _ => none }
def PriorVictimsWrongFalsely : Prop := priorVictimsRow.holds Try.pinned (OpenSpec.ofChange priorVictimsWrong)

/-- 'dunnagelaw22.JournalPlays': WHATEVER THE INPUT: true; the input reads as it did. -/
def journalPlaysSpec : ChangeSpec := { name := "journalPlays", fn := fun _ => fun
  | [d1, d2, d3] => { results := [.lit (.bool true)], args := [d1, d2, d3] }
  | _ => none }
def journalPlaysRow : OpenClaim := { program := "ytppfkbigeknedaa", sum := "3a868c3fa7b95011074fb293664a20271af49f48d0de650b900dc7509a223b2b", func := "dunnage/dunnagelaw22.JournalPlays", spec := "journalPlays", apart := false }
def JournalPlaysSaid : Prop := journalPlaysRow.holds Try.pinned (OpenSpec.ofChange journalPlaysSpec)

/-- ITS FALSE NEIGHBOUR: 'it returns false'. Refute it at one input. -/
def journalPlaysWrong : ChangeSpec := { name := "journalPlays", fn := fun _ => fun
  | [d1, d2, d3] => { results := [.lit (.bool false)], args := [d1, d2, d3] }
  | _ => none }
def JournalPlaysWrongFalsely : Prop := journalPlaysRow.holds Try.pinned (OpenSpec.ofChange journalPlaysWrong)

/-- 'dunnagelaw22.JournalKeeps': WHATEVER THE INPUT: true; the input reads as it did. -/
def journalKeepsSpec : ChangeSpec := { name := "journalKeeps", fn := fun _ => fun
  | [d1, d2, d3, d4] => { results := [.lit (.bool true)], args := [d1, d2, d3, d4] }
  | _ => none }
def journalKeepsRow : OpenClaim := { program := "ytppfkbigeknedaa", sum := "3a868c3fa7b95011074fb293664a20271af49f48d0de650b900dc7509a223b2b", func := "dunnage/dunnagelaw22.JournalKeeps", spec := "journalKeeps", apart := false }
def JournalKeepsSaid : Prop := journalKeepsRow.holds Try.pinned (OpenSpec.ofChange journalKeepsSpec)

/-- ITS FALSE NEIGHBOUR: 'it returns false'. Refute it at one input. -/
def journalKeepsWrong : ChangeSpec := { name := "journalKeeps", fn := fun _ => fun
  | [d1, d2, d3, d4] => { results := [.lit (.bool false)], args := [d1, d2, d3, d4] }
  | _ => none }
def JournalKeepsWrongFalsely : Prop := journalKeepsRow.holds Try.pinned (OpenSpec.ofChange journalKeepsWrong)

/-- 'dunnagelaw15.VictimLeast': WHATEVER THE INPUT: true; the input reads as it did. -/
def victimLeastSpec : ChangeSpec := { name := "victimLeast", fn := fun _ => fun
  | [d1, d2, d3, d4, d5] => { results := [.lit (.bool true)], args := [d1, d2, d3, d4, d5] }
  | _ => none }
def victimLeastRow : OpenClaim := { program := "ytppfkbigeknedaa", sum := "3a868c3fa7b95011074fb293664a20271af49f48d0de650b900dc7509a223b2b", func := "dunnage/dunnagelaw15.VictimLeast", spec := "victimLeast", inPlace := ["math/bits.Add64"], unfollowed := true, recurses := true, apart := false }
def VictimLeastSaid : Prop := victimLeastRow.holds Try.pinned (OpenSpec.ofChange victimLeastSpec)

/-- ITS FALSE NEIGHBOUR: 'it returns false'. Refute it at one input. -/
def victimLeastWrong : ChangeSpec := { name := "victimLeast", fn := fun _ => fun
  | [d1, d2, d3, d4, d5] => { results := [.lit (.bool false)], args := [d1, d2, d3, d4, d5] }
  | _ => none }
def VictimLeastWrongFalsely : Prop := victimLeastRow.holds Try.pinned (OpenSpec.ofChange victimLeastWrong)

/-- 'dunnagelaw14.FitTells': WHATEVER THE INPUT: true; the input reads as it did. -/
def fitTellsSpec : ChangeSpec := { name := "fitTells", fn := fun _ => fun
  | [d1, d2, d3, d4] => { results := [.lit (.bool true)], args := [d1, d2, d3, d4] }
  | _ => none }
def fitTellsRow : OpenClaim := { program := "ytppfkbigeknedaa", sum := "3a868c3fa7b95011074fb293664a20271af49f48d0de650b900dc7509a223b2b", func := "dunnage/dunnagelaw14.FitTells", spec := "fitTells", inPlace := ["math/bits.Add64"], unfollowed := true, recurses := true, apart := false }
def FitTellsSaid : Prop := fitTellsRow.holds Try.pinned (OpenSpec.ofChange fitTellsSpec)

/-- ITS FALSE NEIGHBOUR: 'it returns false'. Refute it at one input. -/
def fitTellsWrong : ChangeSpec := { name := "fitTells", fn := fun _ => fun
  | [d1, d2, d3, d4] => { results := [.lit (.bool false)], args := [d1, d2, d3, d4] }
  | _ => none }
def FitTellsWrongFalsely : Prop := fitTellsRow.holds Try.pinned (OpenSpec.ofChange fitTellsWrong)

/-- 'dunnagelaw14.FitTight': WHATEVER THE INPUT: true; the input reads as it did. -/
def fitTightSpec : ChangeSpec := { name := "fitTight", fn := fun _ => fun
  | [d1, d2, d3] => { results := [.lit (.bool true)], args := [d1, d2, d3] }
  | _ => none }
def fitTightRow : OpenClaim := { program := "ytppfkbigeknedaa", sum := "3a868c3fa7b95011074fb293664a20271af49f48d0de650b900dc7509a223b2b", func := "dunnage/dunnagelaw14.FitTight", spec := "fitTight", inPlace := ["math/bits.Add64"], unfollowed := true, recurses := true, apart := false }
def FitTightSaid : Prop := fitTightRow.holds Try.pinned (OpenSpec.ofChange fitTightSpec)

/-- ITS FALSE NEIGHBOUR: 'it returns false'. Refute it at one input. -/
def fitTightWrong : ChangeSpec := { name := "fitTight", fn := fun _ => fun
  | [d1, d2, d3] => { results := [.lit (.bool false)], args := [d1, d2, d3] }
  | _ => none }
def FitTightWrongFalsely : Prop := fitTightRow.holds Try.pinned (OpenSpec.ofChange fitTightWrong)

/- THE SECOND FORM. 'bulk': how many values and letters a reading holds, each counted each time it is reached (what is shared counts as often as it is met; a slice's spare places count too). A statement '..UptoSaid' is the law's where the arguments, and the package variables that the reading takes, are together of bulk at most 1048576: NARROWER than '..Said'. Prove '..Said' where nothing that the law and all that it calls make is longer than what came in: it says more and counts as full. Else prove '..UptoSaid'. A law counts once. -/
mutual
def uptoBulk {H : Type} : DataW H → Nat
  | .lit (.string bytes) => bytes.length + 1
  | .lit _ => 1
  | .nil => 1
  | .ptr d => uptoBulk d + 1
  | .slice elems spare => uptoBulkAll elems + uptoBulkAll spare + 1
  | .agg parts => uptoBulkAll parts + 1
  | .iface _ d => uptoBulk d + 1
  | .map entries => uptoBulkEntries entries + 1
  | .held _ => 1
def uptoBulkAll {H : Type} : List (DataW H) → Nat
  | [] => 0
  | d :: r => uptoBulk d + uptoBulkAll r
def uptoBulkEntries {H : Type} : List (Lit × DataW H) → Nat
  | [] => 0
  | x :: r => uptoBulkEntry x + uptoBulkEntries r
def uptoBulkEntry {H : Type} : Lit × DataW H → Nat
  | (.string bytes, d) => bytes.length + uptoBulk d + 1
  | (_, d) => uptoBulk d + 1
 end
def uptoSmall : (H : Type) → List (DataW H) → Bool := fun _ ds => decide (uptoBulkAll ds ≤ 1048576)
def OpenSpec.upto (s : _root_.Go.ChangeSpec) : _root_.Go.OpenSpec := { _root_.Go.OpenSpec.ofChange s with cond := some uptoSmall }

/-- 'dunnagelaw17.KeyTells', WHERE WHAT IT READS IS OF BULK AT MOST 1048576: true; the input reads as it did. -/
def keyTellsUptoRow : OpenClaim := { program := "ytppfkbigeknedaa", sum := "3a868c3fa7b95011074fb293664a20271af49f48d0de650b900dc7509a223b2b", func := "dunnage/dunnagelaw17.KeyTells", spec := "keyTells", apart := false, narrowed := true }
def KeyTellsUptoSaid : Prop := keyTellsUptoRow.holds Try.pinned (OpenSpec.upto keyTellsSpec)

/-- 'dunnagelaw17.KeyLeast', WHERE WHAT IT READS IS OF BULK AT MOST 1048576: true; the input reads as it did. -/
def keyLeastUptoRow : OpenClaim := { program := "ytppfkbigeknedaa", sum := "3a868c3fa7b95011074fb293664a20271af49f48d0de650b900dc7509a223b2b", func := "dunnage/dunnagelaw17.KeyLeast", spec := "keyLeast", apart := false, narrowed := true }
def KeyLeastUptoSaid : Prop := keyLeastUptoRow.holds Try.pinned (OpenSpec.upto keyLeastSpec)

/-- 'dunnagelaw01.VecAll', WHERE WHAT IT READS IS OF BULK AT MOST 1048576: true; the input reads as it did. -/
def vecAllUptoRow : OpenClaim := { program := "ytppfkbigeknedaa", sum := "3a868c3fa7b95011074fb293664a20271af49f48d0de650b900dc7509a223b2b", func := "dunnage/dunnagelaw01.VecAll", spec := "vecAll", inPlace := ["math/bits.Add64"], unfollowed := true, recurses := true, apart := false, narrowed := true }
def VecAllUptoSaid : Prop := vecAllUptoRow.holds Try.pinned (OpenSpec.upto vecAllSpec)

/-- 'dunnagelaw01.VecSums', WHERE WHAT IT READS IS OF BULK AT MOST 1048576: true; the input reads as it did. -/
def vecSumsUptoRow : OpenClaim := { program := "ytppfkbigeknedaa", sum := "3a868c3fa7b95011074fb293664a20271af49f48d0de650b900dc7509a223b2b", func := "dunnage/dunnagelaw01.VecSums", spec := "vecSums", inPlace := ["math/bits.Add64"], unfollowed := true, recurses := true, apart := false, narrowed := true }
def VecSumsUptoSaid : Prop := vecSumsUptoRow.holds Try.pinned (OpenSpec.upto vecSumsSpec)

/-- 'dunnagelaw21.DiskBegins', WHERE WHAT IT READS IS OF BULK AT MOST 1048576: true; the input reads as it did. -/
def diskBeginsUptoRow : OpenClaim := { program := "ytppfkbigeknedaa", sum := "3a868c3fa7b95011074fb293664a20271af49f48d0de650b900dc7509a223b2b", func := "dunnage/dunnagelaw21.DiskBegins", spec := "diskBegins", apart := false, narrowed := true }
def DiskBeginsUptoSaid : Prop := diskBeginsUptoRow.holds Try.pinned (OpenSpec.upto diskBeginsSpec)

/-- 'dunnagelaw17.KeyOne', WHERE WHAT IT READS IS OF BULK AT MOST 1048576: true; the input reads as it did. -/
def keyOneUptoRow : OpenClaim := { program := "ytppfkbigeknedaa", sum := "3a868c3fa7b95011074fb293664a20271af49f48d0de650b900dc7509a223b2b", func := "dunnage/dunnagelaw17.KeyOne", spec := "keyOne", apart := false, narrowed := true }
def KeyOneUptoSaid : Prop := keyOneUptoRow.holds Try.pinned (OpenSpec.upto keyOneSpec)

/-- 'dunnagelaw01.VecTimes', WHERE WHAT IT READS IS OF BULK AT MOST 1048576: true; the input reads as it did. -/
def vecTimesUptoRow : OpenClaim := { program := "ytppfkbigeknedaa", sum := "3a868c3fa7b95011074fb293664a20271af49f48d0de650b900dc7509a223b2b", func := "dunnage/dunnagelaw01.VecTimes", spec := "vecTimes", inPlace := ["math/bits.Add64"], unfollowed := true, recurses := true, apart := false, narrowed := true }
def VecTimesUptoSaid : Prop := vecTimesUptoRow.holds Try.pinned (OpenSpec.upto vecTimesSpec)

/-- 'dunnagelaw22.JournalWrites', WHERE WHAT IT READS IS OF BULK AT MOST 1048576: true; the input reads as it did. -/
def journalWritesUptoRow : OpenClaim := { program := "ytppfkbigeknedaa", sum := "3a868c3fa7b95011074fb293664a20271af49f48d0de650b900dc7509a223b2b", func := "dunnage/dunnagelaw22.JournalWrites", spec := "journalWrites", apart := false, narrowed := true }
def JournalWritesUptoSaid : Prop := journalWritesUptoRow.holds Try.pinned (OpenSpec.upto journalWritesSpec)

/-- 'dunnagelaw10.PriorOne', WHERE WHAT IT READS IS OF BULK AT MOST 1048576: true; the input reads as it did. -/
def priorOneUptoRow : OpenClaim := { program := "ytppfkbigeknedaa", sum := "3a868c3fa7b95011074fb293664a20271af49f48d0de650b900dc7509a223b2b", func := "dunnage/dunnagelaw10.PriorOne", spec := "priorOne", unfollowed := true, recurses := true, apart := false, narrowed := true }
def PriorOneUptoSaid : Prop := priorOneUptoRow.holds Try.pinned (OpenSpec.upto priorOneSpec)

/-- 'dunnagelaw10.PriorVictims', WHERE WHAT IT READS IS OF BULK AT MOST 1048576: true; the input reads as it did. -/
def priorVictimsUptoRow : OpenClaim := { program := "ytppfkbigeknedaa", sum := "3a868c3fa7b95011074fb293664a20271af49f48d0de650b900dc7509a223b2b", func := "dunnage/dunnagelaw10.PriorVictims", spec := "priorVictims", unfollowed := true, recurses := true, apart := false, narrowed := true }
def PriorVictimsUptoSaid : Prop := priorVictimsUptoRow.holds Try.pinned (OpenSpec.upto priorVictimsSpec)

/-- 'dunnagelaw22.JournalPlays', WHERE WHAT IT READS IS OF BULK AT MOST 1048576: true; the input reads as it did. -/
def journalPlaysUptoRow : OpenClaim := { program := "ytppfkbigeknedaa", sum := "3a868c3fa7b95011074fb293664a20271af49f48d0de650b900dc7509a223b2b", func := "dunnage/dunnagelaw22.JournalPlays", spec := "journalPlays", apart := false, narrowed := true }
def JournalPlaysUptoSaid : Prop := journalPlaysUptoRow.holds Try.pinned (OpenSpec.upto journalPlaysSpec)

/-- 'dunnagelaw22.JournalKeeps', WHERE WHAT IT READS IS OF BULK AT MOST 1048576: true; the input reads as it did. -/
def journalKeepsUptoRow : OpenClaim := { program := "ytppfkbigeknedaa", sum := "3a868c3fa7b95011074fb293664a20271af49f48d0de650b900dc7509a223b2b", func := "dunnage/dunnagelaw22.JournalKeeps", spec := "journalKeeps", apart := false, narrowed := true }
def JournalKeepsUptoSaid : Prop := journalKeepsUptoRow.holds Try.pinned (OpenSpec.upto journalKeepsSpec)

/-- 'dunnagelaw15.VictimLeast', WHERE WHAT IT READS IS OF BULK AT MOST 1048576: true; the input reads as it did. -/
def victimLeastUptoRow : OpenClaim := { program := "ytppfkbigeknedaa", sum := "3a868c3fa7b95011074fb293664a20271af49f48d0de650b900dc7509a223b2b", func := "dunnage/dunnagelaw15.VictimLeast", spec := "victimLeast", inPlace := ["math/bits.Add64"], unfollowed := true, recurses := true, apart := false, narrowed := true }
def VictimLeastUptoSaid : Prop := victimLeastUptoRow.holds Try.pinned (OpenSpec.upto victimLeastSpec)

/-- 'dunnagelaw14.FitTells', WHERE WHAT IT READS IS OF BULK AT MOST 1048576: true; the input reads as it did. -/
def fitTellsUptoRow : OpenClaim := { program := "ytppfkbigeknedaa", sum := "3a868c3fa7b95011074fb293664a20271af49f48d0de650b900dc7509a223b2b", func := "dunnage/dunnagelaw14.FitTells", spec := "fitTells", inPlace := ["math/bits.Add64"], unfollowed := true, recurses := true, apart := false, narrowed := true }
def FitTellsUptoSaid : Prop := fitTellsUptoRow.holds Try.pinned (OpenSpec.upto fitTellsSpec)

/-- 'dunnagelaw14.FitTight', WHERE WHAT IT READS IS OF BULK AT MOST 1048576: true; the input reads as it did. -/
def fitTightUptoRow : OpenClaim := { program := "ytppfkbigeknedaa", sum := "3a868c3fa7b95011074fb293664a20271af49f48d0de650b900dc7509a223b2b", func := "dunnage/dunnagelaw14.FitTight", spec := "fitTight", inPlace := ["math/bits.Add64"], unfollowed := true, recurses := true, apart := false, narrowed := true }
def FitTightUptoSaid : Prop := fitTightUptoRow.holds Try.pinned (OpenSpec.upto fitTightSpec)

end Rows
end Go.Proofs.Ytppfkbigeknedaa
