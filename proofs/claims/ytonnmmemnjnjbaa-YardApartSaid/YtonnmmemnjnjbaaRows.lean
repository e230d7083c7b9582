/-
  No cell of these rows narrows 'for every input' (looked for: loops, veiled, ifaces, maps, wideKeys, modest, calm, conditions, laid).
  DERIVED. THE GIVEN ROWS OF THIS SEAT. 6 by the template 'for every input the law returns true; each argument reads behind the call as it read before'; 0 by the template 'total and deterministic' (their statements: YtonnmmemnjnjbaaTotals.lean).
  GIVEN WITH THE SEED: the statements are not yours to turn. If you find one false, say at which input.
  Laid BY PROGRAM, IN A SANDBOX (cutbox-rows.mjs): the forced cells as the released guide's own fill.sh prints them over the translation 04ebcea845358b50… (all of the seat's roots in one cut). By AI agents, Wed Nov 11 2026. No macro, syntax, notation, axiom, sorry.
-/
import Derived.Test.YtonnmmemnjnjbaaChecked
import GoSem.Claim
import GoSem.ClaimJoined
import GoSem.ClaimMapViews
import Derived.JoinedTies
import Derived.KernelRfl
namespace Go.Proofs.Ytonnmmemnjnjbaa
/- THE CELL 'sum', in the pinned program and in every row, IS THE sha256 OF THE DUMP (.gsa) THAT YtonnmmemnjnjbaaProg.lean LOADS. Nothing in Lean hashes anything: it is a label: what it is worth is what the hold of that sum in a sandbox is worth. -/
noncomputable def Try.pinned : Pinned := { name := "ytonnmmemnjnjbaa", sum := "04ebcea845358b5060a6caa8d096fb15f1be4a1f0fb6967ddfe0c9ebe426cf4c", checked := Try.checked }
namespace Rows
def none {H : Type} : Left H := { results := [], args := [] }

/-- 'roundhouselaw12.YardTwice': WHATEVER THE INPUT: true; the input reads as it did. -/
def yardTwiceSpec : ChangeSpec := { name := "yardTwice", fn := fun _ => fun
  | [d1, d2, d3] => { results := [.lit (.bool true)], args := [d1, d2, d3] }
  | _ => none }
def yardTwiceRow : OpenClaim := { program := "ytonnmmemnjnjbaa", sum := "04ebcea845358b5060a6caa8d096fb15f1be4a1f0fb6967ddfe0c9ebe426cf4c", func := "roundhouse/roundhouselaw12.YardTwice", spec := "yardTwice", apart := false }
def YardTwiceSaid : Prop := yardTwiceRow.holds Try.pinned (OpenSpec.ofChange yardTwiceSpec)

/-- ITS FALSE NEIGHBOUR: 'it returns false'. Refute it at one input. -/
def yardTwiceWrong : ChangeSpec := { name := "yardTwice", fn := fun _ => fun
  | [d1, d2, d3] => { results := [.lit (.bool false)], args := [d1, d2, d3] }
  | _ => none }
def YardTwiceWrongFalsely : Prop := yardTwiceRow.holds Try.pinned (OpenSpec.ofChange yardTwiceWrong)

/-- 'roundhouselaw12.YardLosses': WHATEVER THE INPUT: true; the input reads as it did. -/
def yardLossesSpec : ChangeSpec := { name := "yardLosses", fn := fun _ => fun
  | [d1, d2, d3] => { results := [.lit (.bool true)], args := [d1, d2, d3] }
  | _ => none }
def yardLossesRow : OpenClaim := { program := "ytonnmmemnjnjbaa", sum := "04ebcea845358b5060a6caa8d096fb15f1be4a1f0fb6967ddfe0c9ebe426cf4c", func := "roundhouse/roundhouselaw12.YardLosses", spec := "yardLosses", apart := false }
def YardLossesSaid : Prop := yardLossesRow.holds Try.pinned (OpenSpec.ofChange yardLossesSpec)

/-- ITS FALSE NEIGHBOUR: 'it returns false'. Refute it at one input. -/
def yardLossesWrong : ChangeSpec := { name := "yardLosses", fn := fun _ => fun
  | [d1, d2, d3] => { results := [.lit (.bool false)], args := [d1, d2, d3] }
  | _ => none }
def YardLossesWrongFalsely : Prop := yardLossesRow.holds Try.pinned (OpenSpec.ofChange yardLossesWrong)

/-- 'roundhouselaw12.YardLate': WHATEVER THE INPUT: true; the input reads as it did. -/
def yardLateSpec : ChangeSpec := { name := "yardLate", fn := fun _ => fun
  | [d1, d2, d3, d4] => { results := [.lit (.bool true)], args := [d1, d2, d3, d4] }
  | _ => none }
def yardLateRow : OpenClaim := { program := "ytonnmmemnjnjbaa", sum := "04ebcea845358b5060a6caa8d096fb15f1be4a1f0fb6967ddfe0c9ebe426cf4c", func := "roundhouse/roundhouselaw12.YardLate", spec := "yardLate", apart := false }
def YardLateSaid : Prop := yardLateRow.holds Try.pinned (OpenSpec.ofChange yardLateSpec)

/-- ITS FALSE NEIGHBOUR: 'it returns false'. Refute it at one input. -/
def yardLateWrong : ChangeSpec := { name := "yardLate", fn := fun _ => fun
  | [d1, d2, d3, d4] => { results := [.lit (.bool false)], args := [d1, d2, d3, d4] }
  | _ => none }
def YardLateWrongFalsely : Prop := yardLateRow.holds Try.pinned (OpenSpec.ofChange yardLateWrong)

/-- 'roundhouselaw12.YardWishes': WHATEVER THE INPUT: true; the input reads as it did. -/
def yardWishesSpec : ChangeSpec := { name := "yardWishes", fn := fun _ => fun
  | [d1, d2, d3] => { results := [.lit (.bool true)], args := [d1, d2, d3] }
  | _ => none }
def yardWishesRow : OpenClaim := { program := "ytonnmmemnjnjbaa", sum := "04ebcea845358b5060a6caa8d096fb15f1be4a1f0fb6967ddfe0c9ebe426cf4c", func := "roundhouse/roundhouselaw12.YardWishes", spec := "yardWishes", apart := false }
def YardWishesSaid : Prop := yardWishesRow.holds Try.pinned (OpenSpec.ofChange yardWishesSpec)

/-- ITS FALSE NEIGHBOUR: 'it returns false'. Refute it at one input. -/
def yardWishesWrong : ChangeSpec := { name := "yardWishes", fn := fun _ => fun
  | [d1, d2, d3] => { results := [.lit (.bool false)], args := [d1, d2, d3] }
  | _ => none }
def YardWishesWrongFalsely : Prop := yardWishesRow.holds Try.pinned (OpenSpec.ofChange yardWishesWrong)

/-- 'roundhouselaw12.YardApart': WHATEVER THE INPUT: true; the input reads as it did. -/
def yardApartSpec : ChangeSpec := { name := "yardApart", fn := fun _ => fun
  | [d1, d2] => { results := [.lit (.bool true)], args := [d1, d2] }
  | _ => none }
def yardApartRow : OpenClaim := { program := "ytonnmmemnjnjbaa", sum := "04ebcea845358b5060a6caa8d096fb15f1be4a1f0fb6967ddfe0c9ebe426cf4c", func := "roundhouse/roundhouselaw12.YardApart", spec := "yardApart", apart := false }
def YardApartSaid : Prop := yardApartRow.holds Try.pinned (OpenSpec.ofChange yardApartSpec)

/-- ITS FALSE NEIGHBOUR: 'it returns false'. Refute it at one input. -/
def yardApartWrong : ChangeSpec := { name := "yardApart", fn := fun _ => fun
  | [d1, d2] => { results := [.lit (.bool false)], args := [d1, d2] }
  | _ => none }
def YardApartWrongFalsely : Prop := yardApartRow.holds Try.pinned (OpenSpec.ofChange yardApartWrong)

/-- 'roundhouselaw12.YardRounds': WHATEVER THE INPUT: true; the input reads as it did. -/
def yardRoundsSpec : ChangeSpec := { name := "yardRounds", fn := fun _ => fun
  | [d1, d2, d3, d4, d5] => { results := [.lit (.bool true)], args := [d1, d2, d3, d4, d5] }
  | _ => none }
def yardRoundsRow : OpenClaim := { program := "ytonnmmemnjnjbaa", sum := "04ebcea845358b5060a6caa8d096fb15f1be4a1f0fb6967ddfe0c9ebe426cf4c", func := "roundhouse/roundhouselaw12.YardRounds", spec := "yardRounds", apart := false }
def YardRoundsSaid : Prop := yardRoundsRow.holds Try.pinned (OpenSpec.ofChange yardRoundsSpec)

/-- ITS FALSE NEIGHBOUR: 'it returns false'. Refute it at one input. -/
def yardRoundsWrong : ChangeSpec := { name := "yardRounds", fn := fun _ => fun
  | [d1, d2, d3, d4, d5] => { results := [.lit (.bool false)], args := [d1, d2, d3, d4, d5] }
  | _ => none }
def YardRoundsWrongFalsely : Prop := yardRoundsRow.holds Try.pinned (OpenSpec.ofChange yardRoundsWrong)

/- THE SECOND FORM. 'bulk': how many values and letters a reading holds, each counted each time it is reached (what is shared counts as often as it is met; a slice's spare places count too). A statement '..UptoSaid' is the law's where the arguments, and the package variables that the reading takes, are together of bulk at most 1048576: NARROWER than '..Said'. Prove '..Said' where nothing that the law and all that it calls make is longer than what came in: it says more and counts as full. Else prove '..UptoSaid'. A law counts once. -/
mutual
def uptoBulk {H : Type} : DataW H → Nat
  | .lit (.string bytes) => bytes.length + 1
  | .lit _ => 1
  | .nil => 1
  | .ptr d => uptoBulk d + 1
  | .slice elems spare => uptoBulkAll elems + uptoBulkAll spare + 1
  | .agg parts => uptoBulkAll parts + 1
  | .iface _ d => uptoBulk d + 1
  | .map entries => uptoBulkEntries entries + 1
  | .held _ => 1
def uptoBulkAll {H : Type} : List (DataW H) → Nat
  | [] => 0
  | d :: r => uptoBulk d + uptoBulkAll r
def uptoBulkEntries {H : Type} : List (Lit × DataW H) → Nat
  | [] => 0
  | x :: r => uptoBulkEntry x + uptoBulkEntries r
def uptoBulkEntry {H : Type} : Lit × DataW H → Nat
  | (.string bytes, d) => bytes.length + uptoBulk d + 1
  | (_, d) => uptoBulk d + 1
 end
def uptoSmall : (H : Type) → List (DataW H) → Bool := fun _ ds => decide (uptoBulkAll ds ≤ 1048576)
def OpenSpec.upto (s : _root_.Go.ChangeSpec) : _root_.Go.OpenSpec := { _root_.Go.OpenSpec.ofChange s with cond := some uptoSmall }

/-- 'roundhouselaw12.YardTwice', WHERE WHAT IT READS IS OF BULK AT MOST 1048576: true; the input reads as it did. -/
def yardTwiceUptoRow : OpenClaim := { program := "ytonnmmemnjnjbaa", sum := "04ebcea845358b5060a6caa8d096fb15f1be4a1f0fb6967ddfe0c9ebe426cf4c", func := "roundhouse/roundhouselaw12.YardTwice", spec := "yardTwice", apart := false, narrowed := true }
def YardTwiceUptoSaid : Prop := yardTwiceUptoRow.holds Try.pinned (OpenSpec.upto yardTwiceSpec)

/-- 'roundhouselaw12.YardLosses', WHERE WHAT IT READS IS OF BULK AT MOST 1048576: true; the input reads as it did. -/
def yardLossesUptoRow : OpenClaim := { program := "ytonnmmemnjnjbaa", sum := "04ebcea845358b5060a6caa8d096fb15f1be4a1f0fb6967ddfe0c9ebe426cf4c", func := "roundhouse/roundhouselaw12.YardLosses", spec := "yardLosses", apart := false, narrowed := true }
def YardLossesUptoSaid : Prop := yardLossesUptoRow.holds Try.pinned (OpenSpec.upto yardLossesSpec)

/-- 'roundhouselaw12.YardLate', WHERE WHAT IT READS IS OF BULK AT MOST 1048576: true; the input reads as it did. -/
def yardLateUptoRow : OpenClaim := { program := "ytonnmmemnjnjbaa", sum := "04ebcea845358b5060a6caa8d096fb15f1be4a1f0fb6967ddfe0c9ebe426cf4c", func := "roundhouse/roundhouselaw12.YardLate", spec := "yardLate", apart := false, narrowed := true }
def YardLateUptoSaid : Prop := yardLateUptoRow.holds Try.pinned (OpenSpec.upto yardLateSpec)

/-- 'roundhouselaw12.YardWishes', WHERE WHAT IT READS IS OF BULK AT MOST 1048576: true; the input reads as it did. -/
def yardWishesUptoRow : OpenClaim := { program := "ytonnmmemnjnjbaa", sum := "04ebcea845358b5060a6caa8d096fb15f1be4a1f0fb6967ddfe0c9ebe426cf4c", func := "roundhouse/roundhouselaw12.YardWishes", spec := "yardWishes", apart := false, narrowed := true }
def YardWishesUptoSaid : Prop := yardWishesUptoRow.holds Try.pinned (OpenSpec.upto yardWishesSpec)

/-- 'roundhouselaw12.YardApart', WHERE WHAT IT READS IS OF BULK AT MOST 1048576: true; the input reads as it did. -/
def yardApartUptoRow : OpenClaim := { program := "ytonnmmemnjnjbaa", sum := "04ebcea845358b5060a6caa8d096fb15f1be4a1f0fb6967ddfe0c9ebe426cf4c", func := "roundhouse/roundhouselaw12.YardApart", spec := "yardApart", apart := false, narrowed := true }
def YardApartUptoSaid : Prop := yardApartUptoRow.holds Try.pinned (OpenSpec.upto yardApartSpec)

/-- 'roundhouselaw12.YardRounds', WHERE WHAT IT READS IS OF BULK AT MOST 1048576: true; the input reads as it did. -/
def yardRoundsUptoRow : OpenClaim := { program := "ytonnmmemnjnjbaa", sum := "04ebcea845358b5060a6caa8d096fb15f1be4a1f0fb6967ddfe0c9ebe426cf4c", func := "roundhouse/roundhouselaw12.YardRounds", spec := "yardRounds", apart := false, narrowed := true }
def YardRoundsUptoSaid : Prop := yardRoundsUptoRow.holds Try.pinned (OpenSpec.upto yardRoundsSpec)

end Rows
end Go.Proofs.Ytonnmmemnjnjbaa
