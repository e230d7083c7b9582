/-
  No cell of these rows narrows 'for every input' (looked for: loops, veiled, ifaces, maps, wideKeys, modest, calm, conditions, laid).
  DERIVED. THE GIVEN ROWS OF THIS SEAT. 9 by the template 'for every input the law returns true; each argument reads behind the call as it read before'; 0 by the template 'total and deterministic' (their statements: YtmencoknmmfdmaaTotals.lean).
  GIVEN WITH THE SEED: the statements are not yours to turn. If you find one false, say at which input.
  Laid BY PROGRAM, IN A SANDBOX (cutbox-rows.mjs): the forced cells as the released guide's own fill.sh prints them over the translation 3e66dd803e8b1204… (all of the seat's roots in one cut). By AI agents, Wed Nov 11 2026. No macro, syntax, notation, axiom, sorry.
-/
import Derived.Test.YtmencoknmmfdmaaChecked
import GoSem.Claim
import GoSem.ClaimJoined
import GoSem.ClaimMapViews
import Derived.JoinedTies
import Derived.KernelRfl
namespace Go.Proofs.Ytmencoknmmfdmaa
/- THE CELL 'sum', in the pinned program and in every row, IS THE sha256 OF THE DUMP (.gsa) THAT YtmencoknmmfdmaaProg.lean LOADS. Nothing in Lean hashes anything: it is a label: what it is worth is what the hold of that sum in a sandbox is worth. -/
noncomputable def Try.pinned : Pinned := { name := "ytmencoknmmfdmaa", sum := "3e66dd803e8b12048bf5a83db6c2de9c77ce188cb9081b0a0d157e0508a1dccc", checked := Try.checked }
namespace Rows
def none {H : Type} : Left H := { results := [], args := [] }

/-- 'roundhouselaw11.HeadErrs': WHATEVER THE INPUT: true; the input reads as it did. -/
def headErrsSpec : ChangeSpec := { name := "headErrs", fn := fun _ => fun
  | [d1, d2, d3, d4] => { results := [.lit (.bool true)], args := [d1, d2, d3, d4] }
  | _ => none }
def headErrsRow : OpenClaim := { program := "ytmencoknmmfdmaa", sum := "3e66dd803e8b12048bf5a83db6c2de9c77ce188cb9081b0a0d157e0508a1dccc", func := "roundhouse/roundhouselaw11.HeadErrs", spec := "headErrs", apart := false }
def HeadErrsSaid : Prop := headErrsRow.holds Try.pinned (OpenSpec.ofChange headErrsSpec)

/-- ITS FALSE NEIGHBOUR: 'it returns false'. Refute it at one input. -/
def headErrsWrong : ChangeSpec := { name := "headErrs", fn := fun _ => fun
  | [d1, d2, d3, d4] => { results := [.lit (.bool false)], args := [d1, d2, d3, d4] }
  | _ => none }
def HeadErrsWrongFalsely : Prop := headErrsRow.holds Try.pinned (OpenSpec.ofChange headErrsWrong)

/-- 'roundhouselaw11.HeadBarrier': WHATEVER THE INPUT: true; the input reads as it did. -/
def headBarrierSpec : ChangeSpec := { name := "headBarrier", fn := fun _ => fun
  | [d1, d2, d3, d4] => { results := [.lit (.bool true)], args := [d1, d2, d3, d4] }
  | _ => none }
def headBarrierRow : OpenClaim := { program := "ytmencoknmmfdmaa", sum := "3e66dd803e8b12048bf5a83db6c2de9c77ce188cb9081b0a0d157e0508a1dccc", func := "roundhouse/roundhouselaw11.HeadBarrier", spec := "headBarrier", apart := false }
def HeadBarrierSaid : Prop := headBarrierRow.holds Try.pinned (OpenSpec.ofChange headBarrierSpec)

/-- ITS FALSE NEIGHBOUR: 'it returns false'. Refute it at one input. -/
def headBarrierWrong : ChangeSpec := { name := "headBarrier", fn := fun _ => fun
  | [d1, d2, d3, d4] => { results := [.lit (.bool false)], args := [d1, d2, d3, d4] }
  | _ => none }
def HeadBarrierWrongFalsely : Prop := headBarrierRow.holds Try.pinned (OpenSpec.ofChange headBarrierWrong)

/-- 'roundhouselaw11.HeadSends': WHATEVER THE INPUT: true; the input reads as it did. -/
def headSendsSpec : ChangeSpec := { name := "headSends", fn := fun _ => fun
  | [d1, d2, d3] => { results := [.lit (.bool true)], args := [d1, d2, d3] }
  | _ => none }
def headSendsRow : OpenClaim := { program := "ytmencoknmmfdmaa", sum := "3e66dd803e8b12048bf5a83db6c2de9c77ce188cb9081b0a0d157e0508a1dccc", func := "roundhouse/roundhouselaw11.HeadSends", spec := "headSends", apart := false }
def HeadSendsSaid : Prop := headSendsRow.holds Try.pinned (OpenSpec.ofChange headSendsSpec)

/-- ITS FALSE NEIGHBOUR: 'it returns false'. Refute it at one input. -/
def headSendsWrong : ChangeSpec := { name := "headSends", fn := fun _ => fun
  | [d1, d2, d3] => { results := [.lit (.bool false)], args := [d1, d2, d3] }
  | _ => none }
def HeadSendsWrongFalsely : Prop := headSendsRow.holds Try.pinned (OpenSpec.ofChange headSendsWrong)

/-- 'roundhouselaw11.HeadBoots': WHATEVER THE INPUT: true; the input reads as it did. -/
def headBootsSpec : ChangeSpec := { name := "headBoots", fn := fun _ => fun
  | [d1, d2, d3, d4] => { results := [.lit (.bool true)], args := [d1, d2, d3, d4] }
  | _ => none }
def headBootsRow : OpenClaim := { program := "ytmencoknmmfdmaa", sum := "3e66dd803e8b12048bf5a83db6c2de9c77ce188cb9081b0a0d157e0508a1dccc", func := "roundhouse/roundhouselaw11.HeadBoots", spec := "headBoots", apart := false }
def HeadBootsSaid : Prop := headBootsRow.holds Try.pinned (OpenSpec.ofChange headBootsSpec)

/-- ITS FALSE NEIGHBOUR: 'it returns false'. Refute it at one input. -/
def headBootsWrong : ChangeSpec := { name := "headBoots", fn := fun _ => fun
  | [d1, d2, d3, d4] => { results := [.lit (.bool false)], args := [d1, d2, d3, d4] }
  | _ => none }
def HeadBootsWrongFalsely : Prop := headBootsRow.holds Try.pinned (OpenSpec.ofChange headBootsWrong)

/-- 'roundhouselaw11.HeadGoes': WHATEVER THE INPUT: true; the input reads as it did. -/
def headGoesSpec : ChangeSpec := { name := "headGoes", fn := fun _ => fun
  | [d1, d2, d3] => { results := [.lit (.bool true)], args := [d1, d2, d3] }
  | _ => none }
def headGoesRow : OpenClaim := { program := "ytmencoknmmfdmaa", sum := "3e66dd803e8b12048bf5a83db6c2de9c77ce188cb9081b0a0d157e0508a1dccc", func := "roundhouse/roundhouselaw11.HeadGoes", spec := "headGoes", apart := false }
def HeadGoesSaid : Prop := headGoesRow.holds Try.pinned (OpenSpec.ofChange headGoesSpec)

/-- ITS FALSE NEIGHBOUR: 'it returns false'. Refute it at one input. -/
def headGoesWrong : ChangeSpec := { name := "headGoes", fn := fun _ => fun
  | [d1, d2, d3] => { results := [.lit (.bool false)], args := [d1, d2, d3] }
  | _ => none }
def HeadGoesWrongFalsely : Prop := headGoesRow.holds Try.pinned (OpenSpec.ofChange headGoesWrong)

/-- 'roundhouselaw11.HeadDeaf': WHATEVER THE INPUT: true; the input reads as it did. -/
def headDeafSpec : ChangeSpec := { name := "headDeaf", fn := fun _ => fun
  | [d1, d2, d3] => { results := [.lit (.bool true)], args := [d1, d2, d3] }
  | _ => none }
def headDeafRow : OpenClaim := { program := "ytmencoknmmfdmaa", sum := "3e66dd803e8b12048bf5a83db6c2de9c77ce188cb9081b0a0d157e0508a1dccc", func := "roundhouse/roundhouselaw11.HeadDeaf", spec := "headDeaf", apart := false }
def HeadDeafSaid : Prop := headDeafRow.holds Try.pinned (OpenSpec.ofChange headDeafSpec)

/-- ITS FALSE NEIGHBOUR: 'it returns false'. Refute it at one input. -/
def headDeafWrong : ChangeSpec := { name := "headDeaf", fn := fun _ => fun
  | [d1, d2, d3] => { results := [.lit (.bool false)], args := [d1, d2, d3] }
  | _ => none }
def HeadDeafWrongFalsely : Prop := headDeafRow.holds Try.pinned (OpenSpec.ofChange headDeafWrong)

/-- 'roundhouselaw11.HeadLate': WHATEVER THE INPUT: true; the input reads as it did. -/
def headLateSpec : ChangeSpec := { name := "headLate", fn := fun _ => fun
  | [d1, d2, d3, d4] => { results := [.lit (.bool true)], args := [d1, d2, d3, d4] }
  | _ => none }
def headLateRow : OpenClaim := { program := "ytmencoknmmfdmaa", sum := "3e66dd803e8b12048bf5a83db6c2de9c77ce188cb9081b0a0d157e0508a1dccc", func := "roundhouse/roundhouselaw11.HeadLate", spec := "headLate", apart := false }
def HeadLateSaid : Prop := headLateRow.holds Try.pinned (OpenSpec.ofChange headLateSpec)

/-- ITS FALSE NEIGHBOUR: 'it returns false'. Refute it at one input. -/
def headLateWrong : ChangeSpec := { name := "headLate", fn := fun _ => fun
  | [d1, d2, d3, d4] => { results := [.lit (.bool false)], args := [d1, d2, d3, d4] }
  | _ => none }
def HeadLateWrongFalsely : Prop := headLateRow.holds Try.pinned (OpenSpec.ofChange headLateWrong)

/-- 'roundhouselaw11.HeadNotes': WHATEVER THE INPUT: true; the input reads as it did. -/
def headNotesSpec : ChangeSpec := { name := "headNotes", fn := fun _ => fun
  | [d1, d2, d3] => { results := [.lit (.bool true)], args := [d1, d2, d3] }
  | _ => none }
def headNotesRow : OpenClaim := { program := "ytmencoknmmfdmaa", sum := "3e66dd803e8b12048bf5a83db6c2de9c77ce188cb9081b0a0d157e0508a1dccc", func := "roundhouse/roundhouselaw11.HeadNotes", spec := "headNotes", apart := false }
def HeadNotesSaid : Prop := headNotesRow.holds Try.pinned (OpenSpec.ofChange headNotesSpec)

/-- ITS FALSE NEIGHBOUR: 'it returns false'. Refute it at one input. -/
def headNotesWrong : ChangeSpec := { name := "headNotes", fn := fun _ => fun
  | [d1, d2, d3] => { results := [.lit (.bool false)], args := [d1, d2, d3] }
  | _ => none }
def HeadNotesWrongFalsely : Prop := headNotesRow.holds Try.pinned (OpenSpec.ofChange headNotesWrong)

/-- 'roundhouselaw11.HeadApart': WHATEVER THE INPUT: true; the input reads as it did. -/
def headApartSpec : ChangeSpec := { name := "headApart", fn := fun _ => fun
  | [d1, d2] => { results := [.lit (.bool true)], args := [d1, d2] }
  | _ => none }
def headApartRow : OpenClaim := { program := "ytmencoknmmfdmaa", sum := "3e66dd803e8b12048bf5a83db6c2de9c77ce188cb9081b0a0d157e0508a1dccc", func := "roundhouse/roundhouselaw11.HeadApart", spec := "headApart", apart := false }
def HeadApartSaid : Prop := headApartRow.holds Try.pinned (OpenSpec.ofChange headApartSpec)

/-- ITS FALSE NEIGHBOUR: 'it returns false'. Refute it at one input. -/
def headApartWrong : ChangeSpec := { name := "headApart", fn := fun _ => fun
  | [d1, d2] => { results := [.lit (.bool false)], args := [d1, d2] }
  | _ => none }
def HeadApartWrongFalsely : Prop := headApartRow.holds Try.pinned (OpenSpec.ofChange headApartWrong)

/- THE SECOND FORM. 'bulk': how many values and letters a reading holds, each counted each time it is reached (what is shared counts as often as it is met; a slice's spare places count too). A statement '..UptoSaid' is the law's where the arguments, and the package variables that the reading takes, are together of bulk at most 1048576: NARROWER than '..Said'. Prove '..Said' where nothing that the law and all that it calls make is longer than what came in: it says more and counts as full. Else prove '..UptoSaid'. A law counts once. -/
mutual
def uptoBulk {H : Type} : DataW H → Nat
  | .lit (.string bytes) => bytes.length + 1
  | .lit _ => 1
  | .nil => 1
  | .ptr d => uptoBulk d + 1
  | .slice elems spare => uptoBulkAll elems + uptoBulkAll spare + 1
  | .agg parts => uptoBulkAll parts + 1
  | .iface _ d => uptoBulk d + 1
  | .map entries => uptoBulkEntries entries + 1
  | .held _ => 1
def uptoBulkAll {H : Type} : List (DataW H) → Nat
  | [] => 0
  | d :: r => uptoBulk d + uptoBulkAll r
def uptoBulkEntries {H : Type} : List (Lit × DataW H) → Nat
  | [] => 0
  | x :: r => uptoBulkEntry x + uptoBulkEntries r
def uptoBulkEntry {H : Type} : Lit × DataW H → Nat
  | (.string bytes, d) => bytes.length + uptoBulk d + 1
  | (_, d) => uptoBulk d + 1
 end
def uptoSmall : (H : Type) → List (DataW H) → Bool := fun _ ds => decide (uptoBulkAll ds ≤ 1048576)
def OpenSpec.upto (s : _root_.Go.ChangeSpec) : _root_.Go.OpenSpec := { _root_.Go.OpenSpec.ofChange s with cond := some uptoSmall }

/-- 'roundhouselaw11.HeadErrs', WHERE WHAT IT READS IS OF BULK AT MOST 1048576: true; the input reads as it did. -/
def headErrsUptoRow : OpenClaim := { program := "ytmencoknmmfdmaa", sum := "3e66dd803e8b12048bf5a83db6c2de9c77ce188cb9081b0a0d157e0508a1dccc", func := "roundhouse/roundhouselaw11.HeadErrs", spec := "headErrs", apart := false, narrowed := true }
def HeadErrsUptoSaid : Prop := headErrsUptoRow.holds Try.pinned (OpenSpec.upto headErrsSpec)

/-- 'roundhouselaw11.HeadBarrier', WHERE WHAT IT READS IS OF BULK AT MOST 1048576: true; the input reads as it did. -/
def headBarrierUptoRow : OpenClaim := { program := "ytmencoknmmfdmaa", sum := "3e66dd803e8b12048bf5a83db6c2de9c77ce188cb9081b0a0d157e0508a1dccc", func := "roundhouse/roundhouselaw11.HeadBarrier", spec := "headBarrier", apart := false, narrowed := true }
def HeadBarrierUptoSaid : Prop := headBarrierUptoRow.holds Try.pinned (OpenSpec.upto headBarrierSpec)

/-- 'roundhouselaw11.HeadSends', WHERE WHAT IT READS IS OF BULK AT MOST 1048576: true; the input reads as it did. -/
def headSendsUptoRow : OpenClaim := { program := "ytmencoknmmfdmaa", sum := "3e66dd803e8b12048bf5a83db6c2de9c77ce188cb9081b0a0d157e0508a1dccc", func := "roundhouse/roundhouselaw11.HeadSends", spec := "headSends", apart := false, narrowed := true }
def HeadSendsUptoSaid : Prop := headSendsUptoRow.holds Try.pinned (OpenSpec.upto headSendsSpec)

/-- 'roundhouselaw11.HeadBoots', WHERE WHAT IT READS IS OF BULK AT MOST 1048576: true; the input reads as it did. -/
def headBootsUptoRow : OpenClaim := { program := "ytmencoknmmfdmaa", sum := "3e66dd803e8b12048bf5a83db6c2de9c77ce188cb9081b0a0d157e0508a1dccc", func := "roundhouse/roundhouselaw11.HeadBoots", spec := "headBoots", apart := false, narrowed := true }
def HeadBootsUptoSaid : Prop := headBootsUptoRow.holds Try.pinned (OpenSpec.upto headBootsSpec)

/-- 'roundhouselaw11.HeadGoes', WHERE WHAT IT READS IS OF BULK AT MOST 1048576: true; the input reads as it did. -/
def headGoesUptoRow : OpenClaim := { program := "ytmencoknmmfdmaa", sum := "3e66dd803e8b12048bf5a83db6c2de9c77ce188cb9081b0a0d157e0508a1dccc", func := "roundhouse/roundhouselaw11.HeadGoes", spec := "headGoes", apart := false, narrowed := true }
def HeadGoesUptoSaid : Prop := headGoesUptoRow.holds Try.pinned (OpenSpec.upto headGoesSpec)

/-- 'roundhouselaw11.HeadDeaf', WHERE WHAT IT READS IS OF BULK AT MOST 1048576: true; the input reads as it did. -/
def headDeafUptoRow : OpenClaim := { program := "ytmencoknmmfdmaa", sum := "3e66dd803e8b12048bf5a83db6c2de9c77ce188cb9081b0a0d157e0508a1dccc", func := "roundhouse/roundhouselaw11.HeadDeaf", spec := "headDeaf", apart := false, narrowed := true }
def HeadDeafUptoSaid : Prop := headDeafUptoRow.holds Try.pinned (OpenSpec.upto headDeafSpec)

/-- 'roundhouselaw11.HeadLate', WHERE WHAT IT READS IS OF BULK AT MOST 1048576: true; the input reads as it did. -/
def headLateUptoRow : OpenClaim := { program := "ytmencoknmmfdmaa", sum := "3e66dd803e8b12048bf5a83db6c2de9c77ce188cb9081b0a0d157e0508a1dccc", func := "roundhouse/roundhouselaw11.HeadLate", spec := "headLate", apart := false, narrowed := true }
def HeadLateUptoSaid : Prop := headLateUptoRow.holds Try.pinned (OpenSpec.upto headLateSpec)

/-- 'roundhouselaw11.HeadNotes', WHERE WHAT IT READS IS OF BULK AT MOST 1048576: true; the input reads as it did. -/
def headNotesUptoRow : OpenClaim := { program := "ytmencoknmmfdmaa", sum := "3e66dd803e8b12048bf5a83db6c2de9c77ce188cb9081b0a0d157e0508a1dccc", func := "roundhouse/roundhouselaw11.HeadNotes", spec := "headNotes", apart := false, narrowed := true }
def HeadNotesUptoSaid : Prop := headNotesUptoRow.holds Try.pinned (OpenSpec.upto headNotesSpec)

/-- 'roundhouselaw11.HeadApart', WHERE WHAT IT READS IS OF BULK AT MOST 1048576: true; the input reads as it did. -/
def headApartUptoRow : OpenClaim := { program := "ytmencoknmmfdmaa", sum := "3e66dd803e8b12048bf5a83db6c2de9c77ce188cb9081b0a0d157e0508a1dccc", func := "roundhouse/roundhouselaw11.HeadApart", spec := "headApart", apart := false, narrowed := true }
def HeadApartUptoSaid : Prop := headApartUptoRow.holds Try.pinned (OpenSpec.upto headApartSpec)

end Rows
end Go.Proofs.Ytmencoknmmfdmaa
