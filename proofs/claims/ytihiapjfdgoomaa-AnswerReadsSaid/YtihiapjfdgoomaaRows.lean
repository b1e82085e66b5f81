/-
  No cell of these rows narrows 'for every input' (looked for: loops, veiled, ifaces, maps, wideKeys, modest, calm, conditions, laid).
  DERIVED. THE GIVEN ROWS OF THIS SEAT. 4 by the template 'for every input the law returns true; each argument reads behind the call as it read before'; 0 by the template 'total and deterministic' (their statements: YtihiapjfdgoomaaTotals.lean).
  GIVEN WITH THE SEED: the statements are not yours to turn. If you find one false, say at which input.
  Laid BY PROGRAM, IN A SANDBOX (cutbox-rows.mjs): the forced cells as the released guide's own fill.sh prints them over the translation 4f38e5c31b7e3f14… (all of the seat's roots in one cut). By AI agents, Wed Nov 11 2026. No macro, syntax, notation, axiom, sorry.
-/
import Derived.Test.YtihiapjfdgoomaaChecked
import GoSem.Claim
import GoSem.ClaimJoined
import GoSem.ClaimMapViews
import Derived.JoinedTies
import Derived.KernelRfl
namespace Go.Proofs.Ytihiapjfdgoomaa
/- THE CELL 'sum', in the pinned program and in every row, IS THE sha256 OF THE DUMP (.gsa) THAT YtihiapjfdgoomaaProg.lean LOADS. Nothing in Lean hashes anything: it is a label: what it is worth is what the hold of that sum in a sandbox is worth. -/
noncomputable def Try.pinned : Pinned := { name := "ytihiapjfdgoomaa", sum := "4f38e5c31b7e3f1478365dc3d5f1ceba8971e40c7d4afaf8007f7ec2a9ea467b", checked := Try.checked }
namespace Rows
def none {H : Type} : Left H := { results := [], args := [] }

/-- 'platenlaw20.AnswerWrites': WHATEVER THE INPUT: true; the input reads as it did. -/
def answerWritesSpec : ChangeSpec := { name := "answerWrites", fn := fun _ => fun
  | [d1, d2] => { results := [.lit (.bool true)], args := [d1, d2] }
  | _ => none }
def answerWritesRow : OpenClaim := { program := "ytihiapjfdgoomaa", sum := "4f38e5c31b7e3f1478365dc3d5f1ceba8971e40c7d4afaf8007f7ec2a9ea467b", func := "platen/platenlaw20.AnswerWrites", spec := "answerWrites", apart := false }
def AnswerWritesSaid : Prop := answerWritesRow.holds Try.pinned (OpenSpec.ofChange answerWritesSpec)

/-- ITS FALSE NEIGHBOUR: 'it returns false'. Refute it at one input. -/
def answerWritesWrong : ChangeSpec := { name := "answerWrites", fn := fun _ => fun
  | [d1, d2] => { results := [.lit (.bool false)], args := [d1, d2] }
  | _ => none }
def AnswerWritesWrongFalsely : Prop := answerWritesRow.holds Try.pinned (OpenSpec.ofChange answerWritesWrong)

/-- 'platenlaw20.AnswerReads': WHATEVER THE INPUT: true; the input reads as it did. -/
def answerReadsSpec : ChangeSpec := { name := "answerReads", fn := fun _ => fun
  | [d1, d2] => { results := [.lit (.bool true)], args := [d1, d2] }
  | _ => none }
def answerReadsRow : OpenClaim := { program := "ytihiapjfdgoomaa", sum := "4f38e5c31b7e3f1478365dc3d5f1ceba8971e40c7d4afaf8007f7ec2a9ea467b", func := "platen/platenlaw20.AnswerReads", spec := "answerReads", apart := false }
def AnswerReadsSaid : Prop := answerReadsRow.holds Try.pinned (OpenSpec.ofChange answerReadsSpec)

/-- ITS FALSE NEIGHBOUR: 'it returns false'. Refute it at one input. -/
def answerReadsWrong : ChangeSpec := { name := "answerReads", fn := fun _ => fun
  | [d1, d2] => { results := [.lit (.bool false)], args := [d1, d2] }
  | _ => none }
def AnswerReadsWrongFalsely : Prop := answerReadsRow.holds Try.pinned (OpenSpec.ofChange answerReadsWrong)

/-- 'platenlaw20.AnswerBack': WHATEVER THE INPUT: true; the input reads as it did. -/
def answerBackSpec : ChangeSpec := { name := "answerBack", fn := fun _ => fun
  | [d1, d2] => { results := [.lit (.bool true)], args := [d1, d2] }
  | _ => none }
def answerBackRow : OpenClaim := { program := "ytihiapjfdgoomaa", sum := "4f38e5c31b7e3f1478365dc3d5f1ceba8971e40c7d4afaf8007f7ec2a9ea467b", func := "platen/platenlaw20.AnswerBack", spec := "answerBack", apart := false }
def AnswerBackSaid : Prop := answerBackRow.holds Try.pinned (OpenSpec.ofChange answerBackSpec)

/-- ITS FALSE NEIGHBOUR: 'it returns false'. Refute it at one input. -/
def answerBackWrong : ChangeSpec := { name := "answerBack", fn := fun _ => fun
  | [d1, d2] => { results := [.lit (.bool false)], args := [d1, d2] }
  | _ => none }
def AnswerBackWrongFalsely : Prop := answerBackRow.holds Try.pinned (OpenSpec.ofChange answerBackWrong)

/-- 'platenlaw20.AnswerTurned': WHATEVER THE INPUT: true; the input reads as it did. -/
def answerTurnedSpec : ChangeSpec := { name := "answerTurned", fn := fun _ => fun
  | [d1, d2, d3, d4] => { results := [.lit (.bool true)], args := [d1, d2, d3, d4] }
  | _ => none }
def answerTurnedRow : OpenClaim := { program := "ytihiapjfdgoomaa", sum := "4f38e5c31b7e3f1478365dc3d5f1ceba8971e40c7d4afaf8007f7ec2a9ea467b", func := "platen/platenlaw20.AnswerTurned", spec := "answerTurned", apart := false }
def AnswerTurnedSaid : Prop := answerTurnedRow.holds Try.pinned (OpenSpec.ofChange answerTurnedSpec)

/-- ITS FALSE NEIGHBOUR: 'it returns false'. Refute it at one input. -/
def answerTurnedWrong : ChangeSpec := { name := "answerTurned", fn := fun _ => fun
  | [d1, d2, d3, d4] => { results := [.lit (.bool false)], args := [d1, d2, d3, d4] }
  | _ => none }
def AnswerTurnedWrongFalsely : Prop := answerTurnedRow.holds Try.pinned (OpenSpec.ofChange answerTurnedWrong)

/- THE SECOND FORM. 'bulk': how many values and letters a reading holds, each counted each time it is reached (what is shared counts as often as it is met; a slice's spare places count too). A statement '..UptoSaid' is the law's where the arguments, and the package variables that the reading takes, are together of bulk at most 1048576: NARROWER than '..Said'. Prove '..Said' where nothing that the law and all that it calls make is longer than what came in: it says more and counts as full. Else prove '..UptoSaid'. A law counts once. -/
mutual
def uptoBulk {H : Type} : DataW H → Nat
  | .lit (.string bytes) => bytes.length + 1
  | .lit _ => 1
  | .nil => 1
  | .ptr d => uptoBulk d + 1
  | .slice elems spare => uptoBulkAll elems + uptoBulkAll spare + 1
  | .agg parts => uptoBulkAll parts + 1
  | .iface _ d => uptoBulk d + 1
  | .map entries => uptoBulkEntries entries + 1
  | .held _ => 1
def uptoBulkAll {H : Type} : List (DataW H) → Nat
  | [] => 0
  | d :: r => uptoBulk d + uptoBulkAll r
def uptoBulkEntries {H : Type} : List (Lit × DataW H) → Nat
  | [] => 0
  | x :: r => uptoBulkEntry x + uptoBulkEntries r
def uptoBulkEntry {H : Type} : Lit × DataW H → Nat
  | (.string bytes, d) => bytes.length + uptoBulk d + 1
  | (_, d) => uptoBulk d + 1
 end
def uptoSmall : (H : Type) → List (DataW H) → Bool := fun _ ds => decide (uptoBulkAll ds ≤ 1048576)
def OpenSpec.upto (s : _root_.Go.ChangeSpec) : _root_.Go.OpenSpec := { _root_.Go.OpenSpec.ofChange s with cond := some uptoSmall }

/-- 'platenlaw20.AnswerWrites', WHERE WHAT IT READS IS OF BULK AT MOST 1048576: true; the input reads as it did. -/
def answerWritesUptoRow : OpenClaim := { program := "ytihiapjfdgoomaa", sum := "4f38e5c31b7e3f1478365dc3d5f1ceba8971e40c7d4afaf8007f7ec2a9ea467b", func := "platen/platenlaw20.AnswerWrites", spec := "answerWrites", apart := false, narrowed := true }
def AnswerWritesUptoSaid : Prop := answerWritesUptoRow.holds Try.pinned (OpenSpec.upto answerWritesSpec)

/-- 'platenlaw20.AnswerReads', WHERE WHAT IT READS IS OF BULK AT MOST 1048576: true; the input reads as it did. -/
def answerReadsUptoRow : OpenClaim := { program := "ytihiapjfdgoomaa", sum := "4f38e5c31b7e3f1478365dc3d5f1ceba8971e40c7d4afaf8007f7ec2a9ea467b", func := "platen/platenlaw20.AnswerReads", spec := "answerReads", apart := false, narrowed := true }
def AnswerReadsUptoSaid : Prop := answerReadsUptoRow.holds Try.pinned (OpenSpec.upto answerReadsSpec)

/-- 'platenlaw20.AnswerBack', WHERE WHAT IT READS IS OF BULK AT MOST 1048576: true; the input reads as it did. -/
def answerBackUptoRow : OpenClaim := { program := "ytihiapjfdgoomaa", sum := "4f38e5c31b7e3f1478365dc3d5f1ceba8971e40c7d4afaf8007f7ec2a9ea467b", func := "platen/platenlaw20.AnswerBack", spec := "answerBack", apart := false, narrowed := true }
def AnswerBackUptoSaid : Prop := answerBackUptoRow.holds Try.pinned (OpenSpec.upto answerBackSpec)

/-- 'platenlaw20.AnswerTurned', WHERE WHAT IT READS IS OF BULK AT MOST 1048576: true; the input reads as it did. -/
def answerTurnedUptoRow : OpenClaim := { program := "ytihiapjfdgoomaa", sum := "4f38e5c31b7e3f1478365dc3d5f1ceba8971e40c7d4afaf8007f7ec2a9ea467b", func := "platen/platenlaw20.AnswerTurned", spec := "answerTurned", apart := false, narrowed := true }
def AnswerTurnedUptoSaid : Prop := answerTurnedUptoRow.holds Try.pinned (OpenSpec.upto answerTurnedSpec)

end Rows
end Go.Proofs.Ytihiapjfdgoomaa
