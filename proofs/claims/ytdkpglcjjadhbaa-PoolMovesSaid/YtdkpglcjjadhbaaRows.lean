/-
  No cell of these rows narrows 'for every input' (looked for: loops, veiled, ifaces, maps, wideKeys, modest, calm, conditions, laid).
  DERIVED. THE GIVEN ROWS OF THIS SEAT. 11 by the template 'for every input the law returns true; each argument reads behind the call as it read before'; 0 by the template 'total and deterministic' (their statements: YtdkpglcjjadhbaaTotals.lean).
  GIVEN WITH THE SEED: the statements are not yours to turn. If you find one false, say at which input.
  Laid BY PROGRAM, IN A SANDBOX (cutbox-rows.mjs): the forced cells as the released guide's own fill.sh prints them over the translation 05dd112cdac64c4f… (all of the seat's roots in one cut). By AI agents, Wed Nov 11 2026. No macro, syntax, notation, axiom, sorry.
-/
import Derived.Test.YtdkpglcjjadhbaaChecked
import GoSem.Claim
import GoSem.ClaimJoined
import GoSem.ClaimMapViews
import Derived.JoinedTies
import Derived.KernelRfl
namespace Go.Proofs.Ytdkpglcjjadhbaa
/- THE CELL 'sum', in the pinned program and in every row, IS THE sha256 OF THE DUMP (.gsa) THAT YtdkpglcjjadhbaaProg.lean LOADS. Nothing in Lean hashes anything: it is a label: what it is worth is what the hold of that sum in a sandbox is worth. -/
noncomputable def Try.pinned : Pinned := { name := "ytdkpglcjjadhbaa", sum := "05dd112cdac64c4fac9756f4dda1e4912e972e080bcbfc50cab8b7a78a35976d", checked := Try.checked }
namespace Rows
def none {H : Type} : Left H := { results := [], args := [] }

/-- 'roundhouselaw6.PoolPlays': WHATEVER THE INPUT: true; the input reads as it did. -/
def poolPlaysSpec : ChangeSpec := { name := "poolPlays", fn := fun _ => fun
  | [d1, d2, d3] => { results := [.lit (.bool true)], args := [d1, d2, d3] }
  | _ => none }
def poolPlaysRow : OpenClaim := { program := "ytdkpglcjjadhbaa", sum := "05dd112cdac64c4fac9756f4dda1e4912e972e080bcbfc50cab8b7a78a35976d", func := "roundhouse/roundhouselaw6.PoolPlays", spec := "poolPlays", apart := false }
def PoolPlaysSaid : Prop := poolPlaysRow.holds Try.pinned (OpenSpec.ofChange poolPlaysSpec)

/-- ITS FALSE NEIGHBOUR: 'it returns false'. Refute it at one input. -/
def poolPlaysWrong : ChangeSpec := { name := "poolPlays", fn := fun _ => fun
  | [d1, d2, d3] => { results := [.lit (.bool false)], args := [d1, d2, d3] }
  | _ => none }
def PoolPlaysWrongFalsely : Prop := poolPlaysRow.holds Try.pinned (OpenSpec.ofChange poolPlaysWrong)

/-- 'roundhouselaw6.PoolChecks': WHATEVER THE INPUT: true; the input reads as it did. -/
def poolChecksSpec : ChangeSpec := { name := "poolChecks", fn := fun _ => fun
  | [d1, d2, d3, d4, d5, d6] => { results := [.lit (.bool true)], args := [d1, d2, d3, d4, d5, d6] }
  | _ => none }
def poolChecksRow : OpenClaim := { program := "ytdkpglcjjadhbaa", sum := "05dd112cdac64c4fac9756f4dda1e4912e972e080bcbfc50cab8b7a78a35976d", func := "roundhouse/roundhouselaw6.PoolChecks", spec := "poolChecks", apart := false }
def PoolChecksSaid : Prop := poolChecksRow.holds Try.pinned (OpenSpec.ofChange poolChecksSpec)

/-- ITS FALSE NEIGHBOUR: 'it returns false'. Refute it at one input. -/
def poolChecksWrong : ChangeSpec := { name := "poolChecks", fn := fun _ => fun
  | [d1, d2, d3, d4, d5, d6] => { results := [.lit (.bool false)], args := [d1, d2, d3, d4, d5, d6] }
  | _ => none }
def PoolChecksWrongFalsely : Prop := poolChecksRow.holds Try.pinned (OpenSpec.ofChange poolChecksWrong)

/-- 'roundhouselaw6.PoolAlls': WHATEVER THE INPUT: true; the input reads as it did. -/
def poolAllsSpec : ChangeSpec := { name := "poolAlls", fn := fun _ => fun
  | [d1, d2] => { results := [.lit (.bool true)], args := [d1, d2] }
  | _ => none }
def poolAllsRow : OpenClaim := { program := "ytdkpglcjjadhbaa", sum := "05dd112cdac64c4fac9756f4dda1e4912e972e080bcbfc50cab8b7a78a35976d", func := "roundhouse/roundhouselaw6.PoolAlls", spec := "poolAlls", apart := false }
def PoolAllsSaid : Prop := poolAllsRow.holds Try.pinned (OpenSpec.ofChange poolAllsSpec)

/-- ITS FALSE NEIGHBOUR: 'it returns false'. Refute it at one input. -/
def poolAllsWrong : ChangeSpec := { name := "poolAlls", fn := fun _ => fun
  | [d1, d2] => { results := [.lit (.bool false)], args := [d1, d2] }
  | _ => none }
def PoolAllsWrongFalsely : Prop := poolAllsRow.holds Try.pinned (OpenSpec.ofChange poolAllsWrong)

/-- 'roundhouselaw6.PoolFinds': WHATEVER THE INPUT: true; the input reads as it did. -/
def poolFindsSpec : ChangeSpec := { name := "poolFinds", fn := fun _ => fun
  | [d1, d2, d3, d4, d5] => { results := [.lit (.bool true)], args := [d1, d2, d3, d4, d5] }
  | _ => none }
def poolFindsRow : OpenClaim := { program := "ytdkpglcjjadhbaa", sum := "05dd112cdac64c4fac9756f4dda1e4912e972e080bcbfc50cab8b7a78a35976d", func := "roundhouse/roundhouselaw6.PoolFinds", spec := "poolFinds", apart := false }
def PoolFindsSaid : Prop := poolFindsRow.holds Try.pinned (OpenSpec.ofChange poolFindsSpec)

/-- ITS FALSE NEIGHBOUR: 'it returns false'. Refute it at one input. -/
def poolFindsWrong : ChangeSpec := { name := "poolFinds", fn := fun _ => fun
  | [d1, d2, d3, d4, d5] => { results := [.lit (.bool false)], args := [d1, d2, d3, d4, d5] }
  | _ => none }
def PoolFindsWrongFalsely : Prop := poolFindsRow.holds Try.pinned (OpenSpec.ofChange poolFindsWrong)

/-- 'roundhouselaw6.PoolQuiet': WHATEVER THE INPUT: true; the input reads as it did. -/
def poolQuietSpec : ChangeSpec := { name := "poolQuiet", fn := fun _ => fun
  | [d1, d2, d3] => { results := [.lit (.bool true)], args := [d1, d2, d3] }
  | _ => none }
def poolQuietRow : OpenClaim := { program := "ytdkpglcjjadhbaa", sum := "05dd112cdac64c4fac9756f4dda1e4912e972e080bcbfc50cab8b7a78a35976d", func := "roundhouse/roundhouselaw6.PoolQuiet", spec := "poolQuiet", apart := false }
def PoolQuietSaid : Prop := poolQuietRow.holds Try.pinned (OpenSpec.ofChange poolQuietSpec)

/-- ITS FALSE NEIGHBOUR: 'it returns false'. Refute it at one input. -/
def poolQuietWrong : ChangeSpec := { name := "poolQuiet", fn := fun _ => fun
  | [d1, d2, d3] => { results := [.lit (.bool false)], args := [d1, d2, d3] }
  | _ => none }
def PoolQuietWrongFalsely : Prop := poolQuietRow.holds Try.pinned (OpenSpec.ofChange poolQuietWrong)

/-- 'roundhouselaw6.PoolMoves': WHATEVER THE INPUT: true; the input reads as it did. -/
def poolMovesSpec : ChangeSpec := { name := "poolMoves", fn := fun _ => fun
  | [d1, d2, d3, d4] => { results := [.lit (.bool true)], args := [d1, d2, d3, d4] }
  | _ => none }
def poolMovesRow : OpenClaim := { program := "ytdkpglcjjadhbaa", sum := "05dd112cdac64c4fac9756f4dda1e4912e972e080bcbfc50cab8b7a78a35976d", func := "roundhouse/roundhouselaw6.PoolMoves", spec := "poolMoves", apart := false }
def PoolMovesSaid : Prop := poolMovesRow.holds Try.pinned (OpenSpec.ofChange poolMovesSpec)

/-- ITS FALSE NEIGHBOUR: 'it returns false'. Refute it at one input. -/
def poolMovesWrong : ChangeSpec := { name := "poolMoves", fn := fun _ => fun
  | [d1, d2, d3, d4] => { results := [.lit (.bool false)], args := [d1, d2, d3, d4] }
  | _ => none }
def PoolMovesWrongFalsely : Prop := poolMovesRow.holds Try.pinned (OpenSpec.ofChange poolMovesWrong)

/-- 'roundhouselaw6.PoolTwo': WHATEVER THE INPUT: true; the input reads as it did. -/
def poolTwoSpec : ChangeSpec := { name := "poolTwo", fn := fun _ => fun
  | [d1, d2, d3] => { results := [.lit (.bool true)], args := [d1, d2, d3] }
  | _ => none }
def poolTwoRow : OpenClaim := { program := "ytdkpglcjjadhbaa", sum := "05dd112cdac64c4fac9756f4dda1e4912e972e080bcbfc50cab8b7a78a35976d", func := "roundhouse/roundhouselaw6.PoolTwo", spec := "poolTwo", apart := false }
def PoolTwoSaid : Prop := poolTwoRow.holds Try.pinned (OpenSpec.ofChange poolTwoSpec)

/-- ITS FALSE NEIGHBOUR: 'it returns false'. Refute it at one input. -/
def poolTwoWrong : ChangeSpec := { name := "poolTwo", fn := fun _ => fun
  | [d1, d2, d3] => { results := [.lit (.bool false)], args := [d1, d2, d3] }
  | _ => none }
def PoolTwoWrongFalsely : Prop := poolTwoRow.holds Try.pinned (OpenSpec.ofChange poolTwoWrong)

/-- 'roundhouselaw6.PoolCounts': WHATEVER THE INPUT: true; the input reads as it did. -/
def poolCountsSpec : ChangeSpec := { name := "poolCounts", fn := fun _ => fun
  | [d1, d2] => { results := [.lit (.bool true)], args := [d1, d2] }
  | _ => none }
def poolCountsRow : OpenClaim := { program := "ytdkpglcjjadhbaa", sum := "05dd112cdac64c4fac9756f4dda1e4912e972e080bcbfc50cab8b7a78a35976d", func := "roundhouse/roundhouselaw6.PoolCounts", spec := "poolCounts", apart := false }
def PoolCountsSaid : Prop := poolCountsRow.holds Try.pinned (OpenSpec.ofChange poolCountsSpec)

/-- ITS FALSE NEIGHBOUR: 'it returns false'. Refute it at one input. -/
def poolCountsWrong : ChangeSpec := { name := "poolCounts", fn := fun _ => fun
  | [d1, d2] => { results := [.lit (.bool false)], args := [d1, d2] }
  | _ => none }
def PoolCountsWrongFalsely : Prop := poolCountsRow.holds Try.pinned (OpenSpec.ofChange poolCountsWrong)

/-- 'roundhouselaw6.PoolRings': WHATEVER THE INPUT: true; the input reads as it did. -/
def poolRingsSpec : ChangeSpec := { name := "poolRings", fn := fun _ => fun
  | [d1, d2, d3, d4] => { results := [.lit (.bool true)], args := [d1, d2, d3, d4] }
  | _ => none }
def poolRingsRow : OpenClaim := { program := "ytdkpglcjjadhbaa", sum := "05dd112cdac64c4fac9756f4dda1e4912e972e080bcbfc50cab8b7a78a35976d", func := "roundhouse/roundhouselaw6.PoolRings", spec := "poolRings", apart := false }
def PoolRingsSaid : Prop := poolRingsRow.holds Try.pinned (OpenSpec.ofChange poolRingsSpec)

/-- ITS FALSE NEIGHBOUR: 'it returns false'. Refute it at one input. -/
def poolRingsWrong : ChangeSpec := { name := "poolRings", fn := fun _ => fun
  | [d1, d2, d3, d4] => { results := [.lit (.bool false)], args := [d1, d2, d3, d4] }
  | _ => none }
def PoolRingsWrongFalsely : Prop := poolRingsRow.holds Try.pinned (OpenSpec.ofChange poolRingsWrong)

/-- 'roundhouselaw6.PoolSplit': WHATEVER THE INPUT: true; the input reads as it did. -/
def poolSplitSpec : ChangeSpec := { name := "poolSplit", fn := fun _ => fun
  | [d1, d2, d3] => { results := [.lit (.bool true)], args := [d1, d2, d3] }
  | _ => none }
def poolSplitRow : OpenClaim := { program := "ytdkpglcjjadhbaa", sum := "05dd112cdac64c4fac9756f4dda1e4912e972e080bcbfc50cab8b7a78a35976d", func := "roundhouse/roundhouselaw6.PoolSplit", spec := "poolSplit", apart := false }
def PoolSplitSaid : Prop := poolSplitRow.holds Try.pinned (OpenSpec.ofChange poolSplitSpec)

/-- ITS FALSE NEIGHBOUR: 'it returns false'. Refute it at one input. -/
def poolSplitWrong : ChangeSpec := { name := "poolSplit", fn := fun _ => fun
  | [d1, d2, d3] => { results := [.lit (.bool false)], args := [d1, d2, d3] }
  | _ => none }
def PoolSplitWrongFalsely : Prop := poolSplitRow.holds Try.pinned (OpenSpec.ofChange poolSplitWrong)

/-- 'roundhouselaw6.PoolOwn': WHATEVER THE INPUT: true; the input reads as it did. -/
def poolOwnSpec : ChangeSpec := { name := "poolOwn", fn := fun _ => fun
  | [d1, d2] => { results := [.lit (.bool true)], args := [d1, d2] }
  | _ => none }
def poolOwnRow : OpenClaim := { program := "ytdkpglcjjadhbaa", sum := "05dd112cdac64c4fac9756f4dda1e4912e972e080bcbfc50cab8b7a78a35976d", func := "roundhouse/roundhouselaw6.PoolOwn", spec := "poolOwn", apart := false }
def PoolOwnSaid : Prop := poolOwnRow.holds Try.pinned (OpenSpec.ofChange poolOwnSpec)

/-- ITS FALSE NEIGHBOUR: 'it returns false'. Refute it at one input. -/
def poolOwnWrong : ChangeSpec := { name := "poolOwn", fn := fun _ => fun
  | [d1, d2] => { results := [.lit (.bool false)], args := [d1, d2] }
  | _ => none }
def PoolOwnWrongFalsely : Prop := poolOwnRow.holds Try.pinned (OpenSpec.ofChange poolOwnWrong)

/- THE SECOND FORM. 'bulk': how many values and letters a reading holds, each counted each time it is reached (what is shared counts as often as it is met; a slice's spare places count too). A statement '..UptoSaid' is the law's where the arguments, and the package variables that the reading takes, are together of bulk at most 1048576: NARROWER than '..Said'. Prove '..Said' where nothing that the law and all that it calls make is longer than what came in: it says more and counts as full. Else prove '..UptoSaid'. A law counts once. -/
mutual
def uptoBulk {H : Type} : DataW H → Nat
  | .lit (.string bytes) => bytes.length + 1
  | .lit _ => 1
  | .nil => 1
  | .ptr d => uptoBulk d + 1
  | .slice elems spare => uptoBulkAll elems + uptoBulkAll spare + 1
  | .agg parts => uptoBulkAll parts + 1
  | .iface _ d => uptoBulk d + 1
  | .map entries => uptoBulkEntries entries + 1
  | .held _ => 1
def uptoBulkAll {H : Type} : List (DataW H) → Nat
  | [] => 0
  | d :: r => uptoBulk d + uptoBulkAll r
def uptoBulkEntries {H : Type} : List (Lit × DataW H) → Nat
  | [] => 0
  | x :: r => uptoBulkEntry x + uptoBulkEntries r
def uptoBulkEntry {H : Type} : Lit × DataW H → Nat
  | (.string bytes, d) => bytes.length + uptoBulk d + 1
  | (_, d) => uptoBulk d + 1
 end
def uptoSmall : (H : Type) → List (DataW H) → Bool := fun _ ds => decide (uptoBulkAll ds ≤ 1048576)
def OpenSpec.upto (s : _root_.Go.ChangeSpec) : _root_.Go.OpenSpec := { _root_.Go.OpenSpec.ofChange s with cond := some uptoSmall }

/-- 'roundhouselaw6.PoolPlays', WHERE WHAT IT READS IS OF BULK AT MOST 1048576: true; the input reads as it did. -/
def poolPlaysUptoRow : OpenClaim := { program := "ytdkpglcjjadhbaa", sum := "05dd112cdac64c4fac9756f4dda1e4912e972e080bcbfc50cab8b7a78a35976d", func := "roundhouse/roundhouselaw6.PoolPlays", spec := "poolPlays", apart := false, narrowed := true }
def PoolPlaysUptoSaid : Prop := poolPlaysUptoRow.holds Try.pinned (OpenSpec.upto poolPlaysSpec)

/-- 'roundhouselaw6.PoolChecks', WHERE WHAT IT READS IS OF BULK AT MOST 1048576: true; the input reads as it did. -/
def poolChecksUptoRow : OpenClaim := { program := "ytdkpglcjjadhbaa", sum := "05dd112cdac64c4fac9756f4dda1e4912e972e080bcbfc50cab8b7a78a35976d", func := "roundhouse/roundhouselaw6.PoolChecks", spec := "poolChecks", apart := false, narrowed := true }
def PoolChecksUptoSaid : Prop := poolChecksUptoRow.holds Try.pinned (OpenSpec.upto poolChecksSpec)

/-- 'roundhouselaw6.PoolAlls', WHERE WHAT IT READS IS OF BULK AT MOST 1048576: true; the input reads as it did. -/
def poolAllsUptoRow : OpenClaim := { program := "ytdkpglcjjadhbaa", sum := "05dd112cdac64c4fac9756f4dda1e4912e972e080bcbfc50cab8b7a78a35976d", func := "roundhouse/roundhouselaw6.PoolAlls", spec := "poolAlls", apart := false, narrowed := true }
def PoolAllsUptoSaid : Prop := poolAllsUptoRow.holds Try.pinned (OpenSpec.upto poolAllsSpec)

/-- 'roundhouselaw6.PoolFinds', WHERE WHAT IT READS IS OF BULK AT MOST 1048576: true; the input reads as it did. -/
def poolFindsUptoRow : OpenClaim := { program := "ytdkpglcjjadhbaa", sum := "05dd112cdac64c4fac9756f4dda1e4912e972e080bcbfc50cab8b7a78a35976d", func := "roundhouse/roundhouselaw6.PoolFinds", spec := "poolFinds", apart := false, narrowed := true }
def PoolFindsUptoSaid : Prop := poolFindsUptoRow.holds Try.pinned (OpenSpec.upto poolFindsSpec)

/-- 'roundhouselaw6.PoolQuiet', WHERE WHAT IT READS IS OF BULK AT MOST 1048576: true; the input reads as it did. -/
def poolQuietUptoRow : OpenClaim := { program := "ytdkpglcjjadhbaa", sum := "05dd112cdac64c4fac9756f4dda1e4912e972e080bcbfc50cab8b7a78a35976d", func := "roundhouse/roundhouselaw6.PoolQuiet", spec := "poolQuiet", apart := false, narrowed := true }
def PoolQuietUptoSaid : Prop := poolQuietUptoRow.holds Try.pinned (OpenSpec.upto poolQuietSpec)

/-- 'roundhouselaw6.PoolMoves', WHERE WHAT IT READS IS OF BULK AT MOST 1048576: true; the input reads as it did. -/
def poolMovesUptoRow : OpenClaim := { program := "ytdkpglcjjadhbaa", sum := "05dd112cdac64c4fac9756f4dda1e4912e972e080bcbfc50cab8b7a78a35976d", func := "roundhouse/roundhouselaw6.PoolMoves", spec := "poolMoves", apart := false, narrowed := true }
def PoolMovesUptoSaid : Prop := poolMovesUptoRow.holds Try.pinned (OpenSpec.upto poolMovesSpec)

/-- 'roundhouselaw6.PoolTwo', WHERE WHAT IT READS IS OF BULK AT MOST 1048576: true; the input reads as it did. -/
def poolTwoUptoRow : OpenClaim := { program := "ytdkpglcjjadhbaa", sum := "05dd112cdac64c4fac9756f4dda1e4912e972e080bcbfc50cab8b7a78a35976d", func := "roundhouse/roundhouselaw6.PoolTwo", spec := "poolTwo", apart := false, narrowed := true }
def PoolTwoUptoSaid : Prop := poolTwoUptoRow.holds Try.pinned (OpenSpec.upto poolTwoSpec)

/-- 'roundhouselaw6.PoolCounts', WHERE WHAT IT READS IS OF BULK AT MOST 1048576: true; the input reads as it did. -/
def poolCountsUptoRow : OpenClaim := { program := "ytdkpglcjjadhbaa", sum := "05dd112cdac64c4fac9756f4dda1e4912e972e080bcbfc50cab8b7a78a35976d", func := "roundhouse/roundhouselaw6.PoolCounts", spec := "poolCounts", apart := false, narrowed := true }
def PoolCountsUptoSaid : Prop := poolCountsUptoRow.holds Try.pinned (OpenSpec.upto poolCountsSpec)

/-- 'roundhouselaw6.PoolRings', WHERE WHAT IT READS IS OF BULK AT MOST 1048576: true; the input reads as it did. -/
def poolRingsUptoRow : OpenClaim := { program := "ytdkpglcjjadhbaa", sum := "05dd112cdac64c4fac9756f4dda1e4912e972e080bcbfc50cab8b7a78a35976d", func := "roundhouse/roundhouselaw6.PoolRings", spec := "poolRings", apart := false, narrowed := true }
def PoolRingsUptoSaid : Prop := poolRingsUptoRow.holds Try.pinned (OpenSpec.upto poolRingsSpec)

/-- 'roundhouselaw6.PoolSplit', WHERE WHAT IT READS IS OF BULK AT MOST 1048576: true; the input reads as it did. -/
def poolSplitUptoRow : OpenClaim := { program := "ytdkpglcjjadhbaa", sum := "05dd112cdac64c4fac9756f4dda1e4912e972e080bcbfc50cab8b7a78a35976d", func := "roundhouse/roundhouselaw6.PoolSplit", spec := "poolSplit", apart := false, narrowed := true }
def PoolSplitUptoSaid : Prop := poolSplitUptoRow.holds Try.pinned (OpenSpec.upto poolSplitSpec)

/-- 'roundhouselaw6.PoolOwn', WHERE WHAT IT READS IS OF BULK AT MOST 1048576: true; the input reads as it did. -/
def poolOwnUptoRow : OpenClaim := { program := "ytdkpglcjjadhbaa", sum := "05dd112cdac64c4fac9756f4dda1e4912e972e080bcbfc50cab8b7a78a35976d", func := "roundhouse/roundhouselaw6.PoolOwn", spec := "poolOwn", apart := false, narrowed := true }
def PoolOwnUptoSaid : Prop := poolOwnUptoRow.holds Try.pinned (OpenSpec.upto poolOwnSpec)

end Rows
end Go.Proofs.Ytdkpglcjjadhbaa
