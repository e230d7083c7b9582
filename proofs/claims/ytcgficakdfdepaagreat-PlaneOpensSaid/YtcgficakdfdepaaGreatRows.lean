/-
  No cell of these rows narrows 'for every input' (looked for: loops, veiled, ifaces, maps, wideKeys, modest, calm, conditions, laid).
  DERIVED. THE GIVEN ROWS OF THIS SEAT. 10 by the template 'for every input the law returns true; each argument reads behind the call as it read before'; 0 by the template 'total and deterministic' (their statements: YtcgficakdfdepaaGreatTotals.lean).
  GIVEN WITH THE SEED: the statements are not yours to turn. If you find one false, say at which input.
  Laid BY PROGRAM, IN A SANDBOX (cutbox-rows.mjs): the forced cells as the released guide's own fill.sh prints them over the translation b91649f4a10318ec… (all of the seat's roots in one cut). By AI agents, Wed Nov 11 2026. No macro, syntax, notation, axiom, sorry.
-/
import Derived.Test.YtcgficakdfdepaaGreatChecked
import GoSem.Claim
import GoSem.ClaimJoined
import GoSem.ClaimMapViews
import Derived.JoinedTies
import Derived.KernelRfl
namespace Go.Proofs.YtcgficakdfdepaaGreat
/- THE CELL 'sum', in the pinned program and in every row, IS THE sha256 OF THE DUMP (.gsa) THAT YtcgficakdfdepaaGreatProg.lean LOADS. Nothing in Lean hashes anything: it is a label: what it is worth is what the hold of that sum in a sandbox is worth. -/
noncomputable def Tryz.pinned : Pinned := { name := "ytcgficakdfdepaagreat", sum := "b91649f4a10318ecae2be5fd80a9720e607eb77469e959628278845aa9ad338f", checked := Tryz.checked }
namespace Rows
def none {H : Type} : Left H := { results := [], args := [] }

/-- 'roundhouselaw9.PlaneTakes': WHATEVER THE INPUT: true; the input reads as it did. -/
def planeTakesSpec : ChangeSpec := { name := "planeTakes", fn := fun _ => fun
  | [d1, d2, d3, d4] => { results := [.lit (.bool true)], args := [d1, d2, d3, d4] }
  | _ => none }
def planeTakesRow : OpenClaim := { program := "ytcgficakdfdepaagreat", sum := "b91649f4a10318ecae2be5fd80a9720e607eb77469e959628278845aa9ad338f", func := "roundhouse/roundhouselaw9.PlaneTakes", spec := "planeTakes", unfollowed := true, recurses := true, apart := false }
def PlaneTakesSaid : Prop := planeTakesRow.holds Tryz.pinned (OpenSpec.ofChange planeTakesSpec)

/-- ITS FALSE NEIGHBOUR: 'it returns false'. Refute it at one input. -/
def planeTakesWrong : ChangeSpec := { name := "planeTakes", fn := fun _ => fun
  | [d1, d2, d3, d4] => { results := [.lit (.bool false)], args := [d1, d2, d3, d4] }
  | _ => none }
def PlaneTakesWrongFalsely : Prop := planeTakesRow.holds Tryz.pinned (OpenSpec.ofChange planeTakesWrong)

/-- 'roundhouselaw9.PlaneSame': WHATEVER THE INPUT: true; the input reads as it did. -/
def planeSameSpec : ChangeSpec := { name := "planeSame", fn := fun _ => fun
  | [d1, d2, d3, d4, d5] => { results := [.lit (.bool true)], args := [d1, d2, d3, d4, d5] }
  | _ => none }
def planeSameRow : OpenClaim := { program := "ytcgficakdfdepaagreat", sum := "b91649f4a10318ecae2be5fd80a9720e607eb77469e959628278845aa9ad338f", func := "roundhouse/roundhouselaw9.PlaneSame", spec := "planeSame", unfollowed := true, recurses := true, apart := false }
def PlaneSameSaid : Prop := planeSameRow.holds Tryz.pinned (OpenSpec.ofChange planeSameSpec)

/-- ITS FALSE NEIGHBOUR: 'it returns false'. Refute it at one input. -/
def planeSameWrong : ChangeSpec := { name := "planeSame", fn := fun _ => fun
  | [d1, d2, d3, d4, d5] => { results := [.lit (.bool false)], args := [d1, d2, d3, d4, d5] }
  | _ => none }
def PlaneSameWrongFalsely : Prop := planeSameRow.holds Tryz.pinned (OpenSpec.ofChange planeSameWrong)

/-- 'roundhouselaw9.PlaneGoes': WHATEVER THE INPUT: true; the input reads as it did. -/
def planeGoesSpec : ChangeSpec := { name := "planeGoes", fn := fun _ => fun
  | [d1, d2, d3, d4, d5, d6] => { results := [.lit (.bool true)], args := [d1, d2, d3, d4, d5, d6] }
  | _ => none }
def planeGoesRow : OpenClaim := { program := "ytcgficakdfdepaagreat", sum := "b91649f4a10318ecae2be5fd80a9720e607eb77469e959628278845aa9ad338f", func := "roundhouse/roundhouselaw9.PlaneGoes", spec := "planeGoes", unfollowed := true, recurses := true, apart := false }
def PlaneGoesSaid : Prop := planeGoesRow.holds Tryz.pinned (OpenSpec.ofChange planeGoesSpec)

/-- ITS FALSE NEIGHBOUR: 'it returns false'. Refute it at one input. -/
def planeGoesWrong : ChangeSpec := { name := "planeGoes", fn := fun _ => fun
  | [d1, d2, d3, d4, d5, d6] => { results := [.lit (.bool false)], args := [d1, d2, d3, d4, d5, d6] }
  | _ => none }
def PlaneGoesWrongFalsely : Prop := planeGoesRow.holds Tryz.pinned (OpenSpec.ofChange planeGoesWrong)

/-- 'roundhouselaw9.PlaneTrue': WHATEVER THE INPUT: true; the input reads as it did. -/
def planeTrueSpec : ChangeSpec := { name := "planeTrue", fn := fun _ => fun
  | [d1, d2, d3] => { results := [.lit (.bool true)], args := [d1, d2, d3] }
  | _ => none }
def planeTrueRow : OpenClaim := { program := "ytcgficakdfdepaagreat", sum := "b91649f4a10318ecae2be5fd80a9720e607eb77469e959628278845aa9ad338f", func := "roundhouse/roundhouselaw9.PlaneTrue", spec := "planeTrue", unfollowed := true, recurses := true, apart := false }
def PlaneTrueSaid : Prop := planeTrueRow.holds Tryz.pinned (OpenSpec.ofChange planeTrueSpec)

/-- ITS FALSE NEIGHBOUR: 'it returns false'. Refute it at one input. -/
def planeTrueWrong : ChangeSpec := { name := "planeTrue", fn := fun _ => fun
  | [d1, d2, d3] => { results := [.lit (.bool false)], args := [d1, d2, d3] }
  | _ => none }
def PlaneTrueWrongFalsely : Prop := planeTrueRow.holds Tryz.pinned (OpenSpec.ofChange planeTrueWrong)

/-- 'roundhouselaw9.PlaneCrash': WHATEVER THE INPUT: true; the input reads as it did. -/
def planeCrashSpec : ChangeSpec := { name := "planeCrash", fn := fun _ => fun
  | [d1, d2, d3, d4, d5] => { results := [.lit (.bool true)], args := [d1, d2, d3, d4, d5] }
  | _ => none }
def planeCrashRow : OpenClaim := { program := "ytcgficakdfdepaagreat", sum := "b91649f4a10318ecae2be5fd80a9720e607eb77469e959628278845aa9ad338f", func := "roundhouse/roundhouselaw9.PlaneCrash", spec := "planeCrash", unfollowed := true, recurses := true, apart := false }
def PlaneCrashSaid : Prop := planeCrashRow.holds Tryz.pinned (OpenSpec.ofChange planeCrashSpec)

/-- ITS FALSE NEIGHBOUR: 'it returns false'. Refute it at one input. -/
def planeCrashWrong : ChangeSpec := { name := "planeCrash", fn := fun _ => fun
  | [d1, d2, d3, d4, d5] => { results := [.lit (.bool false)], args := [d1, d2, d3, d4, d5] }
  | _ => none }
def PlaneCrashWrongFalsely : Prop := planeCrashRow.holds Tryz.pinned (OpenSpec.ofChange planeCrashWrong)

/-- 'roundhouselaw9.PlaneOpens': WHATEVER THE INPUT: true; the input reads as it did. -/
def planeOpensSpec : ChangeSpec := { name := "planeOpens", fn := fun _ => fun
  | [d1, d2, d3, d4, d5] => { results := [.lit (.bool true)], args := [d1, d2, d3, d4, d5] }
  | _ => none }
def planeOpensRow : OpenClaim := { program := "ytcgficakdfdepaagreat", sum := "b91649f4a10318ecae2be5fd80a9720e607eb77469e959628278845aa9ad338f", func := "roundhouse/roundhouselaw9.PlaneOpens", spec := "planeOpens", unfollowed := true, recurses := true, apart := false }
def PlaneOpensSaid : Prop := planeOpensRow.holds Tryz.pinned (OpenSpec.ofChange planeOpensSpec)

/-- ITS FALSE NEIGHBOUR: 'it returns false'. Refute it at one input. -/
def planeOpensWrong : ChangeSpec := { name := "planeOpens", fn := fun _ => fun
  | [d1, d2, d3, d4, d5] => { results := [.lit (.bool false)], args := [d1, d2, d3, d4, d5] }
  | _ => none }
def PlaneOpensWrongFalsely : Prop := planeOpensRow.holds Tryz.pinned (OpenSpec.ofChange planeOpensWrong)

/-- 'roundhouselaw9.PlaneShut': WHATEVER THE INPUT: true; the input reads as it did. -/
def planeShutSpec : ChangeSpec := { name := "planeShut", fn := fun _ => fun
  | [d1, d2, d3] => { results := [.lit (.bool true)], args := [d1, d2, d3] }
  | _ => none }
def planeShutRow : OpenClaim := { program := "ytcgficakdfdepaagreat", sum := "b91649f4a10318ecae2be5fd80a9720e607eb77469e959628278845aa9ad338f", func := "roundhouse/roundhouselaw9.PlaneShut", spec := "planeShut", unfollowed := true, recurses := true, apart := false }
def PlaneShutSaid : Prop := planeShutRow.holds Tryz.pinned (OpenSpec.ofChange planeShutSpec)

/-- ITS FALSE NEIGHBOUR: 'it returns false'. Refute it at one input. -/
def planeShutWrong : ChangeSpec := { name := "planeShut", fn := fun _ => fun
  | [d1, d2, d3] => { results := [.lit (.bool false)], args := [d1, d2, d3] }
  | _ => none }
def PlaneShutWrongFalsely : Prop := planeShutRow.holds Tryz.pinned (OpenSpec.ofChange planeShutWrong)

/-- 'roundhouselaw9.PlaneEcho': WHATEVER THE INPUT: true; the input reads as it did. -/
def planeEchoSpec : ChangeSpec := { name := "planeEcho", fn := fun _ => fun
  | [d1, d2, d3, d4] => { results := [.lit (.bool true)], args := [d1, d2, d3, d4] }
  | _ => none }
def planeEchoRow : OpenClaim := { program := "ytcgficakdfdepaagreat", sum := "b91649f4a10318ecae2be5fd80a9720e607eb77469e959628278845aa9ad338f", func := "roundhouse/roundhouselaw9.PlaneEcho", spec := "planeEcho", unfollowed := true, recurses := true, apart := false }
def PlaneEchoSaid : Prop := planeEchoRow.holds Tryz.pinned (OpenSpec.ofChange planeEchoSpec)

/-- ITS FALSE NEIGHBOUR: 'it returns false'. Refute it at one input. -/
def planeEchoWrong : ChangeSpec := { name := "planeEcho", fn := fun _ => fun
  | [d1, d2, d3, d4] => { results := [.lit (.bool false)], args := [d1, d2, d3, d4] }
  | _ => none }
def PlaneEchoWrongFalsely : Prop := planeEchoRow.holds Tryz.pinned (OpenSpec.ofChange planeEchoWrong)

/-- 'roundhouselaw9.PlaneFaults': WHATEVER THE INPUT: true; the input reads as it did. -/
def planeFaultsSpec : ChangeSpec := { name := "planeFaults", fn := fun _ => fun
  | [d1, d2, d3, d4, d5, d6] => { results := [.lit (.bool true)], args := [d1, d2, d3, d4, d5, d6] }
  | _ => none }
def planeFaultsRow : OpenClaim := { program := "ytcgficakdfdepaagreat", sum := "b91649f4a10318ecae2be5fd80a9720e607eb77469e959628278845aa9ad338f", func := "roundhouse/roundhouselaw9.PlaneFaults", spec := "planeFaults", unfollowed := true, recurses := true, apart := false }
def PlaneFaultsSaid : Prop := planeFaultsRow.holds Tryz.pinned (OpenSpec.ofChange planeFaultsSpec)

/-- ITS FALSE NEIGHBOUR: 'it returns false'. Refute it at one input. -/
def planeFaultsWrong : ChangeSpec := { name := "planeFaults", fn := fun _ => fun
  | [d1, d2, d3, d4, d5, d6] => { results := [.lit (.bool false)], args := [d1, d2, d3, d4, d5, d6] }
  | _ => none }
def PlaneFaultsWrongFalsely : Prop := planeFaultsRow.holds Tryz.pinned (OpenSpec.ofChange planeFaultsWrong)

/-- 'roundhouselaw9.PlaneOwn': WHATEVER THE INPUT: true; the input reads as it did. -/
def planeOwnSpec : ChangeSpec := { name := "planeOwn", fn := fun _ => fun
  | [d1, d2, d3] => { results := [.lit (.bool true)], args := [d1, d2, d3] }
  | _ => none }
def planeOwnRow : OpenClaim := { program := "ytcgficakdfdepaagreat", sum := "b91649f4a10318ecae2be5fd80a9720e607eb77469e959628278845aa9ad338f", func := "roundhouse/roundhouselaw9.PlaneOwn", spec := "planeOwn", unfollowed := true, recurses := true, apart := false }
def PlaneOwnSaid : Prop := planeOwnRow.holds Tryz.pinned (OpenSpec.ofChange planeOwnSpec)

/-- ITS FALSE NEIGHBOUR: 'it returns false'. Refute it at one input. -/
def planeOwnWrong : ChangeSpec := { name := "planeOwn", fn := fun _ => fun
  | [d1, d2, d3] => { results := [.lit (.bool false)], args := [d1, d2, d3] }
  | _ => none }
def PlaneOwnWrongFalsely : Prop := planeOwnRow.holds Tryz.pinned (OpenSpec.ofChange planeOwnWrong)

/- THE SECOND FORM. 'bulk': how many values and letters a reading holds, each counted each time it is reached (what is shared counts as often as it is met; a slice's spare places count too). A statement '..UptoSaid' is the law's where the arguments, and the package variables that the reading takes, are together of bulk at most 1048576: NARROWER than '..Said'. Prove '..Said' where nothing that the law and all that it calls make is longer than what came in: it says more and counts as full. Else prove '..UptoSaid'. A law counts once. -/
mutual
def uptoBulk {H : Type} : DataW H → Nat
  | .lit (.string bytes) => bytes.length + 1
  | .lit _ => 1
  | .nil => 1
  | .ptr d => uptoBulk d + 1
  | .slice elems spare => uptoBulkAll elems + uptoBulkAll spare + 1
  | .agg parts => uptoBulkAll parts + 1
  | .iface _ d => uptoBulk d + 1
  | .map entries => uptoBulkEntries entries + 1
  | .held _ => 1
def uptoBulkAll {H : Type} : List (DataW H) → Nat
  | [] => 0
  | d :: r => uptoBulk d + uptoBulkAll r
def uptoBulkEntries {H : Type} : List (Lit × DataW H) → Nat
  | [] => 0
  | x :: r => uptoBulkEntry x + uptoBulkEntries r
def uptoBulkEntry {H : Type} : Lit × DataW H → Nat
  | (.string bytes, d) => bytes.length + uptoBulk d + 1
  | (_, d) => uptoBulk d + 1
 end
def uptoSmall : (H : Type) → List (DataW H) → Bool := fun _ ds => decide (uptoBulkAll ds ≤ 1048576)
def OpenSpec.upto (s : _root_.Go.ChangeSpec) : _root_.Go.OpenSpec := { _root_.Go.OpenSpec.ofChange s with cond := some uptoSmall }

/-- 'roundhouselaw9.PlaneTakes', WHERE WHAT IT READS IS OF BULK AT MOST 1048576: true; the input reads as it did. -/
def planeTakesUptoRow : OpenClaim := { program := "ytcgficakdfdepaagreat", sum := "b91649f4a10318ecae2be5fd80a9720e607eb77469e959628278845aa9ad338f", func := "roundhouse/roundhouselaw9.PlaneTakes", spec := "planeTakes", unfollowed := true, recurses := true, apart := false, narrowed := true }
def PlaneTakesUptoSaid : Prop := planeTakesUptoRow.holds Tryz.pinned (OpenSpec.upto planeTakesSpec)

/-- 'roundhouselaw9.PlaneSame', WHERE WHAT IT READS IS OF BULK AT MOST 1048576: true; the input reads as it did. -/
def planeSameUptoRow : OpenClaim := { program := "ytcgficakdfdepaagreat", sum := "b91649f4a10318ecae2be5fd80a9720e607eb77469e959628278845aa9ad338f", func := "roundhouse/roundhouselaw9.PlaneSame", spec := "planeSame", unfollowed := true, recurses := true, apart := false, narrowed := true }
def PlaneSameUptoSaid : Prop := planeSameUptoRow.holds Tryz.pinned (OpenSpec.upto planeSameSpec)

/-- 'roundhouselaw9.PlaneGoes', WHERE WHAT IT READS IS OF BULK AT MOST 1048576: true; the input reads as it did. -/
def planeGoesUptoRow : OpenClaim := { program := "ytcgficakdfdepaagreat", sum := "b91649f4a10318ecae2be5fd80a9720e607eb77469e959628278845aa9ad338f", func := "roundhouse/roundhouselaw9.PlaneGoes", spec := "planeGoes", unfollowed := true, recurses := true, apart := false, narrowed := true }
def PlaneGoesUptoSaid : Prop := planeGoesUptoRow.holds Tryz.pinned (OpenSpec.upto planeGoesSpec)

/-- 'roundhouselaw9.PlaneTrue', WHERE WHAT IT READS IS OF BULK AT MOST 1048576: true; the input reads as it did. -/
def planeTrueUptoRow : OpenClaim := { program := "ytcgficakdfdepaagreat", sum := "b91649f4a10318ecae2be5fd80a9720e607eb77469e959628278845aa9ad338f", func := "roundhouse/roundhouselaw9.PlaneTrue", spec := "planeTrue", unfollowed := true, recurses := true, apart := false, narrowed := true }
def PlaneTrueUptoSaid : Prop := planeTrueUptoRow.holds Tryz.pinned (OpenSpec.upto planeTrueSpec)

/-- 'roundhouselaw9.PlaneCrash', WHERE WHAT IT READS IS OF BULK AT MOST 1048576: true; the input reads as it did. -/
def planeCrashUptoRow : OpenClaim := { program := "ytcgficakdfdepaagreat", sum := "b91649f4a10318ecae2be5fd80a9720e607eb77469e959628278845aa9ad338f", func := "roundhouse/roundhouselaw9.PlaneCrash", spec := "planeCrash", unfollowed := true, recurses := true, apart := false, narrowed := true }
def PlaneCrashUptoSaid : Prop := planeCrashUptoRow.holds Tryz.pinned (OpenSpec.upto planeCrashSpec)

/-- 'roundhouselaw9.PlaneOpens', WHERE WHAT IT READS IS OF BULK AT MOST 1048576: true; the input reads as it did. -/
def planeOpensUptoRow : OpenClaim := { program := "ytcgficakdfdepaagreat", sum := "b91649f4a10318ecae2be5fd80a9720e607eb77469e959628278845aa9ad338f", func := "roundhouse/roundhouselaw9.PlaneOpens", spec := "planeOpens", unfollowed := true, recurses := true, apart := false, narrowed := true }
def PlaneOpensUptoSaid : Prop := planeOpensUptoRow.holds Tryz.pinned (OpenSpec.upto planeOpensSpec)

/-- 'roundhouselaw9.PlaneShut', WHERE WHAT IT READS IS OF BULK AT MOST 1048576: true; the input reads as it did. -/
def planeShutUptoRow : OpenClaim := { program := "ytcgficakdfdepaagreat", sum := "b91649f4a10318ecae2be5fd80a9720e607eb77469e959628278845aa9ad338f", func := "roundhouse/roundhouselaw9.PlaneShut", spec := "planeShut", unfollowed := true, recurses := true, apart := false, narrowed := true }
def PlaneShutUptoSaid : Prop := planeShutUptoRow.holds Tryz.pinned (OpenSpec.upto planeShutSpec)

/-- 'roundhouselaw9.PlaneEcho', WHERE WHAT IT READS IS OF BULK AT MOST 1048576: true; the input reads as it did. -/
def planeEchoUptoRow : OpenClaim := { program := "ytcgficakdfdepaagreat", sum := "b91649f4a10318ecae2be5fd80a9720e607eb77469e959628278845aa9ad338f", func := "roundhouse/roundhouselaw9.PlaneEcho", spec := "planeEcho", unfollowed := true, recurses := true, apart := false, narrowed := true }
def PlaneEchoUptoSaid : Prop := planeEchoUptoRow.holds Tryz.pinned (OpenSpec.upto planeEchoSpec)

/-- 'roundhouselaw9.PlaneFaults', WHERE WHAT IT READS IS OF BULK AT MOST 1048576: true; the input reads as it did. -/
def planeFaultsUptoRow : OpenClaim := { program := "ytcgficakdfdepaagreat", sum := "b91649f4a10318ecae2be5fd80a9720e607eb77469e959628278845aa9ad338f", func := "roundhouse/roundhouselaw9.PlaneFaults", spec := "planeFaults", unfollowed := true, recurses := true, apart := false, narrowed := true }
def PlaneFaultsUptoSaid : Prop := planeFaultsUptoRow.holds Tryz.pinned (OpenSpec.upto planeFaultsSpec)

/-- 'roundhouselaw9.PlaneOwn', WHERE WHAT IT READS IS OF BULK AT MOST 1048576: true; the input reads as it did. -/
def planeOwnUptoRow : OpenClaim := { program := "ytcgficakdfdepaagreat", sum := "b91649f4a10318ecae2be5fd80a9720e607eb77469e959628278845aa9ad338f", func := "roundhouse/roundhouselaw9.PlaneOwn", spec := "planeOwn", unfollowed := true, recurses := true, apart := false, narrowed := true }
def PlaneOwnUptoSaid : Prop := planeOwnUptoRow.holds Tryz.pinned (OpenSpec.upto planeOwnSpec)

end Rows
end Go.Proofs.YtcgficakdfdepaaGreat
