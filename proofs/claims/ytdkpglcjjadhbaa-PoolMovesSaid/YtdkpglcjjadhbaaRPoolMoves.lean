/- The statement PoolMoves: for every input the law answers true and leaves what it was handed as it was. Conditions: none. -/
import Derived.Test.YtdkpglcjjadhbaaRows
import Derived.Test.YtdkpglcjjadhbaaChecked
import Derived.Test.YtdkpglcjjadhbaaMc
import Derived.Test.YtdkpglcjjadhbaaLPoolMoves
import Derived.WalkKit
import Derived.ProofKit
import Derived.OpenShut
import Derived.ShutString
import Derived.ChangeOld
import Derived.Below
import Derived.SizedLaws
import Derived.ChangeSlices
import Derived.KernelRfl
namespace Go.Proofs.Ytdkpglcjjadhbaa.poolMoves
open Go.ChangeShapes Go.WideShapes Go.ChangeAt Go.RowKit Go.Rh
open Go.ChangeMaps (open_string shut_string)
set_option linter.unusedVariables false
set_option maxRecDepth 100000
set_option maxHeartbeats 4000000
theorem b_c_law6_PoolMoves : codeOf Try.prog "roundhouse/roundhouselaw6.PoolMoves" = some c_law6_PoolMoves := by kernel_rfl
theorem b_c_law6_known : codeOf Try.prog "roundhouse/roundhouselaw6.known" = some c_law6_known := by kernel_rfl
theorem b_c_pool_New : codeOf Try.prog "roundhouse/pool.New" = some c_pool_New := by kernel_rfl
theorem b_c_pool_placed : codeOf Try.prog "roundhouse/pool.placed" = some c_pool_placed := by kernel_rfl
theorem b_c_cookie_Ring : codeOf Try.prog "roundhouse/cookie.Ring" = some c_cookie_Ring := by kernel_rfl
theorem b_c_pool_Find : codeOf Try.prog "roundhouse/pool.Find" = some c_pool_Find := by kernel_rfl
theorem b_c_pool_may : codeOf Try.prog "roundhouse/pool.may" = some c_pool_may := by kernel_rfl
theorem b_c_pool_All : codeOf Try.prog "roundhouse/pool.All" = some c_pool_All := by kernel_rfl
theorem b_c_pool_Apply : codeOf Try.prog "roundhouse/pool.Apply" = some c_pool_Apply := by kernel_rfl
theorem b_c_pool_held : codeOf Try.prog "roundhouse/pool.held" = some c_pool_held := by kernel_rfl
theorem b_c_pool_fits : codeOf Try.prog "roundhouse/pool.fits" = some c_pool_fits := by kernel_rfl
theorem b_c_pool_Check : codeOf Try.prog "roundhouse/pool.Check" = some c_pool_Check := by kernel_rfl
theorem b_c_cookie_Next : codeOf Try.prog "roundhouse/cookie.Next" = some c_cookie_Next := by kernel_rfl
theorem b_c_pool_Takes : codeOf Try.prog "roundhouse/pool.Takes" = some c_pool_Takes := by kernel_rfl
theorem b_c_law5_Key : codeOf Try.prog "roundhouse/roundhouselaw5.Key" = some c_law5_Key := by kernel_rfl
theorem b_c_ref6_New : codeOf Try.prog "roundhouse/roundhouseref6.New" = some c_ref6_New := by kernel_rfl
theorem b_c_ref6_out : codeOf Try.prog "roundhouse/roundhouseref6.out" = some c_ref6_out := by kernel_rfl
theorem b_c_ref5_Ring : codeOf Try.prog "roundhouse/roundhouseref5.Ring" = some c_ref5_Ring := by kernel_rfl
theorem b_c_law6_within : codeOf Try.prog "roundhouse/roundhouselaw6.within" = some c_law6_within := by kernel_rfl
theorem b_c_ref6_All : codeOf Try.prog "roundhouse/roundhouseref6.All" = some c_ref6_All := by kernel_rfl
theorem b_c_ref6_Apply : codeOf Try.prog "roundhouse/roundhouseref6.Apply" = some c_ref6_Apply := by kernel_rfl
theorem b_c_ref6_Check : codeOf Try.prog "roundhouse/roundhouseref6.Check" = some c_ref6_Check := by kernel_rfl
theorem b_c_ref6_bad : codeOf Try.prog "roundhouse/roundhouseref6.bad" = some c_ref6_bad := by kernel_rfl
theorem b_c_ref6_Held : codeOf Try.prog "roundhouse/roundhouseref6.Held" = some c_ref6_Held := by kernel_rfl
theorem b_c_ref5_Next : codeOf Try.prog "roundhouse/roundhouseref5.Next" = some c_ref5_Next := by kernel_rfl
theorem own : ownKnob Try.prog.godebug = none := by kernel_rfl
theorem laidOut : laidOutB Try.prog = true := by kernel_rfl
theorem lifted (os : Os) (started : os.Started) (H : Type) (enc : TypeId × Value → H) :
    ReturnsInHanded {} Try.checked os 8 .any (Rows.poolMovesSpec.pre6 enc Try.prog Try.f8 Rows.poolMovesRow.domain false) (Rows.poolMovesSpec.post enc Try.prog Try.f8 false true false false) := by
  refine returnsInHanded_of_change_sized (C := Try.checked) own started (by kernel_rfl) Try.func8
    (ChangeSpec.witness6 (enc := enc) (C := Try.checked) false ⟨#[], #[.int .i64 0, .int .i64 0, .int .i64 0, .int .i64 0], []⟩ 8 (by kernel_rfl) (by kernel_rfl) (by kernel_rfl) (by kernel_rfl)) ?_
  intro W base args ds gs before hval0 hW hcnd hsz0 _
  have hval : ∀ (j : Nat) t v, Try.f8.params[j]? = some t → args[j]? = some v → Value.okWide Try.prog W .any base t v := hval0
  have hW' := hW
  obtain ⟨p, q, hA0, hV, rfl, hfz, hnd⟩ := hW
  have hA : DataW.TrodAll enc Try.prog W 0 (fun _ => true) true Try.f8.params.toList args.toList ds p := hA0
  rw [Try.params8] at hA hval
  obtain ⟨v0, vs0, d0, ds0, p0, q0, hargs, rfl, rfl, h0, r0⟩ := trodAll_cons hA
  obtain ⟨v1, vs1, d1, ds1, p1, q1, rfl, rfl, rfl, h1, r1⟩ := trodAll_cons r0
  obtain ⟨v2, vs2, d2, ds2, p2, q2, rfl, rfl, rfl, h2, r2⟩ := trodAll_cons r1
  obtain ⟨v3, vs3, d3, ds3, p3, q3, rfl, rfl, rfl, h3, r3⟩ := trodAll_cons r2
  obtain ⟨rfl, rfl, rfl⟩ := trodAll_nil r3
  obtain rfl : args = #[v0, v1, v2, v3] := by cases args; simp_all
  obtain ⟨rfl, rfl⟩ := trodVars_none hV
  obtain ⟨a0, rfl, rfl, rfl, w0⟩ := open_int Try.underlying3 (hval 0 3 v0 rfl rfl) h0
  obtain ⟨a1, rfl, rfl, rfl, w1⟩ := open_int Try.underlying3 (hval 1 3 v1 rfl rfl) h1
  obtain ⟨a2, rfl, rfl, rfl, w2⟩ := open_int Try.underlying3 (hval 2 3 v2 rfl rfl) h2
  obtain ⟨a3, rfl, rfl, rfl, w3⟩ := open_int Try.underlying3 (hval 3 3 v3 rfl rfl) h3
  clear hA0 hval0 hsz0
  have hC := PoolMovesC (P := Try.prog) b_c_law6_PoolMoves b_c_law6_known b_c_pool_New b_c_pool_placed b_c_cookie_Ring b_c_pool_Find b_c_pool_may b_c_pool_All b_c_pool_Apply b_c_pool_held b_c_pool_fits b_c_pool_Check b_c_cookie_Next b_c_pool_Takes b_c_law5_Key b_c_ref6_New b_c_ref6_out b_c_ref5_Ring b_c_law6_within b_c_ref6_All b_c_ref6_Apply b_c_ref6_Check b_c_ref6_bad b_c_ref6_Held b_c_ref5_Next a0 a1 a2 a3
  have main : Calls Try.prog 8 #[.int .i64 a0, .int .i64 a1, .int .i64 a2, .int .i64 a3] W fun e W' => e = .returned (.bool true) ∧ Below W.heap.size W W' := by
    refine Env.law Try.func8 rfl (args := [.int .i64 a0, .int .i64 a1, .int .i64 a2, .int .i64 a3]) (r := []) ?_ ?_ ?_
    · exact hC
    · intro a c hx; simp at hx
    · exact ⟨VR.pl rfl, ⟨VR.pl rfl, ⟨VR.pl rfl, ⟨VR.pl rfl, trivial⟩⟩⟩⟩
  refine main.mono fun e W' ⟨he, bel⟩ => ?_
  subst he
  exact ⟨_, rfl, _, _, _, [], _, [], hW', trodAll_mk1 (shut_bool Try.underlying4 _), (trodAll_cons_mk (shut_int Try.underlying3 w0) (trodAll_cons_mk (shut_int Try.underlying3 w1) (trodAll_cons_mk (shut_int Try.underlying3 w2) (trodAll_cons_mk (shut_int Try.underlying3 w3) trodAll_mk0)))), rfl, bel.frame _, fun h => by cases h⟩
theorem over : Rows.poolMovesRow.holds Try.pinned (OpenSpec.ofChange Rows.poolMovesSpec) :=
  OpenClaim.holds_of_wide 8 Try.f8 rfl rfl rfl rfl rfl rfl rfl ⟨rfl, rfl, rfl, rfl, rfl⟩ rfl rfl rfl rfl rfl (by kernel_rfl) Try.func8 (by kernel_rfl)
    (of_decide_eq_true (by kernel_rfl)) (by unfold Func.isWrapper; first | (rw [if_pos (by decide +kernel)]; kernel_rfl) | (rw [if_neg (by decide +kernel)]; exact ⟨rfl, rfl⟩))
    (fun os started H enc _ => lifted os started H enc)
theorem proved : Rows.PoolMovesSaid := over
#print axioms proved
end Go.Proofs.Ytdkpglcjjadhbaa.poolMoves
namespace Go.Proofs.Ytdkpglcjjadhbaa
/-- The row, under a short name, for the claim. -/
theorem poolMoves_holds : Rows.PoolMovesSaid := poolMoves.proved
end Go.Proofs.Ytdkpglcjjadhbaa
