/- The statement YardLate: for every input the law answers true and leaves what it was handed as it was. Conditions: none. -/
import Derived.Test.YtonnmmemnjnjbaaRows
import Derived.Test.YtonnmmemnjnjbaaChecked
import Derived.Test.YtonnmmemnjnjbaaQYardLateb
import Derived.Test.YtonnmmemnjnjbaaQYardLatef
import Derived.WalkKit
import Derived.ProofKit
import Derived.OpenShut
import Derived.ShutString
import Derived.ChangeOld
import Derived.Below
import Derived.SizedLaws
import Derived.ChangeSlices
import Derived.KernelRfl
namespace Go.Proofs.Ytonnmmemnjnjbaa.yardLate
open Go.ChangeShapes Go.WideShapes Go.ChangeAt Go.RowKit Go.Rh
open Go.ChangeMaps (open_string shut_string)
set_option linter.unusedVariables false
set_option maxRecDepth 100000
set_option maxHeartbeats 4000000
theorem b_c_law12_YardLate : codeOf Try.prog "roundhouse/roundhouselaw12.YardLate" = some c_law12_YardLate := by kernel_rfl
theorem b_c_law12_known : codeOf Try.prog "roundhouse/roundhouselaw12.known" = some c_law12_known := by kernel_rfl
theorem b_c_ref6_New : codeOf Try.prog "roundhouse/roundhouseref6.New" = some c_ref6_New := by kernel_rfl
theorem b_c_ref6_out : codeOf Try.prog "roundhouse/roundhouseref6.out" = some c_ref6_out := by kernel_rfl
theorem b_c_ref5_Ring : codeOf Try.prog "roundhouse/roundhouseref5.Ring" = some c_ref5_Ring := by kernel_rfl
theorem b_c_yard_Yard_Notes : codeOf Try.prog "(*roundhouse/yard.Yard).Notes" = some c_yard_Yard_Notes := by kernel_rfl
theorem b_c_yard_Yard_Pool : codeOf Try.prog "(*roundhouse/yard.Yard).Pool" = some c_yard_Yard_Pool := by kernel_rfl
theorem b_c_head_Head_Pool : codeOf Try.prog "(*roundhouse/head.Head).Pool" = some c_head_Head_Pool := by kernel_rfl
theorem b_c_yard_Yard_Wish : codeOf Try.prog "(*roundhouse/yard.Yard).Wish" = some c_yard_Yard_Wish := by kernel_rfl
theorem b_c_head_Head_Wish : codeOf Try.prog "(*roundhouse/head.Head).Wish" = some c_head_Head_Wish := by kernel_rfl
theorem b_c_head_Head_waiting : codeOf Try.prog "(*roundhouse/head.Head).waiting" = some c_head_Head_waiting := by kernel_rfl
theorem b_c_pool_All : codeOf Try.prog "roundhouse/pool.All" = some c_pool_All := by kernel_rfl
theorem b_c_pool_Apply : codeOf Try.prog "roundhouse/pool.Apply" = some c_pool_Apply := by kernel_rfl
theorem b_c_pool_may : codeOf Try.prog "roundhouse/pool.may" = some c_pool_may := by kernel_rfl
theorem b_c_pool_held : codeOf Try.prog "roundhouse/pool.held" = some c_pool_held := by kernel_rfl
theorem b_c_pool_fits : codeOf Try.prog "roundhouse/pool.fits" = some c_pool_fits := by kernel_rfl
theorem b_c_pool_Check : codeOf Try.prog "roundhouse/pool.Check" = some c_pool_Check := by kernel_rfl
theorem b_c_pool_placed : codeOf Try.prog "roundhouse/pool.placed" = some c_pool_placed := by kernel_rfl
theorem b_c_cookie_Next : codeOf Try.prog "roundhouse/cookie.Next" = some c_cookie_Next := by kernel_rfl
theorem b_c_yard_Yard_Tick : codeOf Try.prog "(*roundhouse/yard.Yard).Tick" = some c_yard_Yard_Tick := by kernel_rfl
theorem b_c_head_Head_Send : codeOf Try.prog "(*roundhouse/head.Head).Send" = some c_head_Head_Send := by kernel_rfl
theorem b_c_head_Head_all : codeOf Try.prog "(*roundhouse/head.Head).all" = some c_head_Head_all := by kernel_rfl
theorem b_c_head_Head_publish : codeOf Try.prog "(*roundhouse/head.Head).publish" = some c_head_Head_publish := by kernel_rfl
theorem b_c_yard_row_head_Note_put : codeOf Try.prog "(*roundhouse/yard.row[roundhouse/head.Note]).put" = some c_yard_row_head_Note_put := by kernel_rfl
theorem b_c_yard_Yard_Lose : codeOf Try.prog "(*roundhouse/yard.Yard).Lose" = some c_yard_Yard_Lose := by kernel_rfl
theorem b_c_yard_row_head_Note_at : codeOf Try.prog "(*roundhouse/yard.row[roundhouse/head.Note]).at" = some c_yard_row_head_Note_at := by kernel_rfl
theorem b_c_yard_row_head_Note_drop : codeOf Try.prog "(*roundhouse/yard.row[roundhouse/head.Note]).drop" = some c_yard_row_head_Note_drop := by kernel_rfl
theorem b_c_yard_Yard_Version : codeOf Try.prog "(*roundhouse/yard.Yard).Version" = some c_yard_Yard_Version := by kernel_rfl
theorem b_c_yard_row_yard_unit_at : codeOf Try.prog "(*roundhouse/yard.row[*roundhouse/yard.unit]).at" = some c_yard_row_yard_unit_at := by kernel_rfl
theorem b_c_plane_Plane_Version : codeOf Try.prog "(*roundhouse/plane.Plane).Version" = some c_plane_Plane_Version := by kernel_rfl
theorem b_c_yard_Yard_Crash : codeOf Try.prog "(*roundhouse/yard.Yard).Crash" = some c_yard_Yard_Crash := by kernel_rfl
theorem b_c_plane_Plane_Crash : codeOf Try.prog "(*roundhouse/plane.Plane).Crash" = some c_plane_Plane_Crash := by kernel_rfl
theorem b_c_yard_Yard_Deliver : codeOf Try.prog "(*roundhouse/yard.Yard).Deliver" = some c_yard_Yard_Deliver := by kernel_rfl
theorem b_c_head_Head_Heard : codeOf Try.prog "(*roundhouse/head.Head).Heard" = some c_head_Head_Heard := by kernel_rfl
theorem b_c_yard_unit_hear : codeOf Try.prog "(*roundhouse/yard.unit).hear" = some c_yard_unit_hear := by kernel_rfl
theorem b_c_yard_unit_version : codeOf Try.prog "(*roundhouse/yard.unit).version" = some c_yard_unit_version := by kernel_rfl
theorem b_c_yard_unit_load : codeOf Try.prog "(*roundhouse/yard.unit).load" = some c_yard_unit_load := by kernel_rfl
theorem b_c_plane_Plane_Load : codeOf Try.prog "(*roundhouse/plane.Plane).Load" = some c_plane_Plane_Load := by kernel_rfl
theorem b_c_plane_maybe_api_Pool_lay : codeOf Try.prog "(*roundhouse/plane.maybe[roundhouse/api.Pool]).lay" = some c_plane_maybe_api_Pool_lay := by kernel_rfl
theorem b_c_wheel_Make : codeOf Try.prog "roundhouse/wheel.Make" = some c_wheel_Make := by kernel_rfl
theorem b_c_wheel_spun : codeOf Try.prog "roundhouse/wheel.spun" = some c_wheel_spun := by kernel_rfl
theorem b_c_sip_Words : codeOf Try.prog "roundhouse/sip.Words" = some c_sip_Words := by kernel_rfl
theorem b_c_sip_Of : codeOf Try.prog "roundhouse/sip.Of" = some c_sip_Of := by kernel_rfl
theorem b_c_sip_number_byte : codeOf Try.prog "roundhouse/sip.number[[]byte]" = some c_sip_number_byte := by kernel_rfl
theorem b_c_sip_state_take : codeOf Try.prog "(*roundhouse/sip.state).take" = some c_sip_state_take := by kernel_rfl
theorem b_c_sip_state_rounds : codeOf Try.prog "(*roundhouse/sip.state).rounds" = some c_sip_state_rounds := by kernel_rfl
theorem b_c_sip_state_round : codeOf Try.prog "(*roundhouse/sip.state).round" = some c_sip_state_round := by kernel_rfl
theorem b_c_math_bits_RotateLeft64 : codeOf Try.prog "math/bits.RotateLeft64" = some c_math_bits_RotateLeft64 := by kernel_rfl
theorem b_c_head_New : codeOf Try.prog "roundhouse/head.New" = some c_head_New := by kernel_rfl
theorem b_c_plane_New : codeOf Try.prog "roundhouse/plane.New" = some c_plane_New := by kernel_rfl
theorem b_c_yard_New : codeOf Try.prog "roundhouse/yard.New" = some c_yard_New := by kernel_rfl
theorem b_c_yard_row_yard_unit_put : codeOf Try.prog "(*roundhouse/yard.row[*roundhouse/yard.unit]).put" = some c_yard_row_yard_unit_put := by kernel_rfl
theorem b_c_law6_Make : codeOf Try.prog "roundhouse/roundhouselaw6.Make" = some c_law6_Make := by kernel_rfl
theorem b_c_law5_Key : codeOf Try.prog "roundhouse/roundhouselaw5.Key" = some c_law5_Key := by kernel_rfl
theorem b_c_law6_Entry : codeOf Try.prog "roundhouse/roundhouselaw6.Entry" = some c_law6_Entry := by kernel_rfl
theorem b_c_law6_within : codeOf Try.prog "roundhouse/roundhouselaw6.within" = some c_law6_within := by kernel_rfl
theorem b_c_ref6_Apply : codeOf Try.prog "roundhouse/roundhouseref6.Apply" = some c_ref6_Apply := by kernel_rfl
theorem b_c_ref6_Check : codeOf Try.prog "roundhouse/roundhouseref6.Check" = some c_ref6_Check := by kernel_rfl
theorem b_c_ref6_bad : codeOf Try.prog "roundhouse/roundhouseref6.bad" = some c_ref6_bad := by kernel_rfl
theorem b_c_ref6_Held : codeOf Try.prog "roundhouse/roundhouseref6.Held" = some c_ref6_Held := by kernel_rfl
theorem b_c_ref5_Next : codeOf Try.prog "roundhouse/roundhouseref5.Next" = some c_ref5_Next := by kernel_rfl
theorem b_c_law12_within : codeOf Try.prog "roundhouse/roundhouselaw12.within" = some c_law12_within := by kernel_rfl
theorem b_c_law12_settle : codeOf Try.prog "roundhouse/roundhouselaw12.settle" = some c_law12_settle := by kernel_rfl
theorem own : ownKnob Try.prog.godebug = none := by kernel_rfl
theorem laidOut : laidOutB Try.prog = true := by kernel_rfl
theorem lifted (os : Os) (started : os.Started) (H : Type) (enc : TypeId × Value → H) :
    ReturnsInHanded {} Try.checked os 5 .any (Rows.yardLateSpec.pre6 enc Try.prog Try.f5 Rows.yardLateRow.domain false) (Rows.yardLateSpec.post enc Try.prog Try.f5 false true false false) := by
  refine returnsInHanded_of_change_sized (C := Try.checked) own started (by kernel_rfl) Try.func5
    (ChangeSpec.witness6 (enc := enc) (C := Try.checked) false ⟨#[], #[.slice none 0 0, .int .i64 0, .int .i64 0, .int .i64 0], []⟩ 8 (by kernel_rfl) (by kernel_rfl) (by kernel_rfl) (by kernel_rfl)) ?_
  intro W base args ds gs before hval0 hW hcnd hsz0 _
  have hval : ∀ (j : Nat) t v, Try.f5.params[j]? = some t → args[j]? = some v → Value.okWide Try.prog W .any base t v := hval0
  have hW' := hW
  obtain ⟨p, q, hA0, hV, rfl, hfz, hnd⟩ := hW
  have hA : DataW.TrodAll enc Try.prog W 0 (fun _ => true) true Try.f5.params.toList args.toList ds p := hA0
  rw [Try.params5] at hA hval
  obtain ⟨v0, vs0, d0, ds0, p0, q0, hargs, rfl, rfl, h0, r0⟩ := trodAll_cons hA
  obtain ⟨v1, vs1, d1, ds1, p1, q1, rfl, rfl, rfl, h1, r1⟩ := trodAll_cons r0
  obtain ⟨v2, vs2, d2, ds2, p2, q2, rfl, rfl, rfl, h2, r2⟩ := trodAll_cons r1
  obtain ⟨v3, vs3, d3, ds3, p3, q3, rfl, rfl, rfl, h3, r3⟩ := trodAll_cons r2
  obtain ⟨rfl, rfl, rfl⟩ := trodAll_nil r3
  obtain rfl : args = #[v0, v1, v2, v3] := by cases args; simp_all
  obtain ⟨rfl, rfl⟩ := trodVars_none hV
  have k0 := h0
  have hv0 := (hval 0 22 v0 rfl rfl)
  obtain ⟨a0, len0, cap0, rfl⟩ := okWide_slice Try.underlying22 hv0
  have lt0 : ∀ x ∈ p0, x.block < W.heap.size := by obtain ⟨m, hm⟩ := k0; exact DataW.trod_lt m _ _ _ hm
  obtain ⟨o0, l0, rr0, hn0, hl0, hrel0, hmem0⟩ : ∃ (o : Option Nat) (l : List Int) (x : Option (Addr × List Value)), (o = none → l = []) ∧ (l.length : Int) ≤ 9223372036854775807 ∧ (x = (match o with | none => none | some _ => some (a0.getD ⟨0, 0, none⟩, ii l)) ∧ (match o with | none => a0 = none ∧ len0 = 0 ∧ cap0 = 0 | some c => a0 = some (a0.getD ⟨0, 0, none⟩) ∧ len0 = l.length ∧ cap0 = c)) ∧ (∀ a c, some (a, c) = x → RowAt W a c) := by
    obtain ⟨fuel, hf⟩ := h0
    rcases open_ints Try.underlying22 Try.underlying3 (by kernel_rfl) hf with ⟨hcs, _⟩ | ⟨x, l, c, zs, hcs, _, hl, hm, hz, _, hcell, hwz⟩
    · simp [Value.cells] at hcs
      obtain ⟨rfl, rfl, rfl⟩ := hcs
      exact ⟨none, [], none, fun _ => rfl, by decide, ⟨rfl, rfl, rfl, rfl⟩, fun a c q => by cases q⟩
    · simp [Value.cells] at hcs
      obtain ⟨rfl, rfl, rfl⟩ := hcs
      have hlen : zs.length = cap0 := by simpa using hz
      have hlm : (zs.take len0).length = len0 := by simp; omega
      refine ⟨some cap0, zs.take len0, some (x, ii (zs.take len0)), (fun q => by cases q), by rw [hlm]; unfold maxLen at hm; omega, ⟨rfl, rfl, hlm.symm, rfl⟩, ?_⟩
      rintro a c q; cases q
      refine RowAt.of (okSlice_block Try.underlying22 hv0) (fun j v hj => ?_) (ii_scl _)
      simp only [ii, List.getElem?_map, Option.map_eq_some_iff] at hj
      obtain ⟨y, hy, rfl⟩ := hj
      rw [List.getElem?_take] at hy
      split at hy
      · have hjz := lt_of_getElem? hy
        rw [hcell j hjz]; simp [List.getD, hy]
      · cases hy
  obtain ⟨a1, rfl, rfl, rfl, w1⟩ := open_int Try.underlying3 (hval 1 3 v1 rfl rfl) h1
  obtain ⟨a2, rfl, rfl, rfl, w2⟩ := open_int Try.underlying3 (hval 2 3 v2 rfl rfl) h2
  obtain ⟨a3, rfl, rfl, rfl, w3⟩ := open_int Try.underlying3 (hval 3 3 v3 rfl rfl) h3
  clear hA0 hval0 hsz0
  have hC := YardLateC (P := Try.prog) b_c_law12_YardLate b_c_law12_known b_c_ref6_New b_c_ref6_out b_c_ref5_Ring b_c_yard_Yard_Notes b_c_yard_Yard_Pool b_c_head_Head_Pool b_c_yard_Yard_Wish b_c_head_Head_Wish b_c_head_Head_waiting b_c_pool_All b_c_pool_Apply b_c_pool_may b_c_pool_held b_c_pool_fits b_c_pool_Check b_c_pool_placed b_c_cookie_Next b_c_yard_Yard_Tick b_c_head_Head_Send b_c_head_Head_all b_c_head_Head_publish b_c_yard_row_head_Note_put b_c_yard_Yard_Lose b_c_yard_row_head_Note_at b_c_yard_row_head_Note_drop b_c_yard_Yard_Version b_c_yard_row_yard_unit_at b_c_plane_Plane_Version b_c_yard_Yard_Crash b_c_plane_Plane_Crash b_c_yard_Yard_Deliver b_c_head_Head_Heard b_c_yard_unit_hear b_c_yard_unit_version b_c_yard_unit_load b_c_plane_Plane_Load b_c_plane_maybe_api_Pool_lay b_c_wheel_Make b_c_wheel_spun b_c_sip_Words b_c_sip_Of b_c_sip_number_byte b_c_sip_state_take b_c_sip_state_rounds b_c_sip_state_round b_c_math_bits_RotateLeft64 b_c_head_New b_c_plane_New b_c_yard_New b_c_yard_row_yard_unit_put b_c_law6_Make b_c_law5_Key b_c_law6_Entry b_c_law6_within b_c_ref6_Apply b_c_ref6_Check b_c_ref6_bad b_c_ref6_Held b_c_ref5_Next b_c_law12_within b_c_law12_settle o0 l0 hn0 hl0 a1 a2 a3
  have main : Calls Try.prog 5 #[.slice a0 len0 cap0, .int .i64 a1, .int .i64 a2, .int .i64 a3] W fun e W' => e = .returned (.bool true) ∧ Below W.heap.size W W' := by
    refine Env.law Try.func5 rfl (args := [inV o0 0 l0.length, .int .i64 a1, .int .i64 a2, .int .i64 a3]) (r := [rr0]) ?_ ?_ ?_
    · skip
      have hb : Rows.blks [rr0] = [inB o0 (ii l0)] := by
        rw [hrel0.1]
        cases o0 <;> rfl
      rw [hb]; exact hC
    · intro a c hx
      simp only [List.mem_cons, List.not_mem_nil, or_false] at hx
      exact hmem0 a c hx
    · have hv_0 : VR (Rows.phi [rr0]) (inV o0 0 l0.length) (.slice a0 len0 cap0) := by
        obtain ⟨hx, hy⟩ := hrel0
        cases o0 with
        | none => obtain ⟨e1, e2, e3⟩ := hy; rw [e1, e2, e3]; exact VR.pl rfl
        | some c => obtain ⟨e1, e2, e3⟩ := hy; rw [e1, e2, e3]; exact VR.in_ (c := ii l0) (by rw [hx]; rfl) (hmem0 _ _ hx.symm).spot
      exact ⟨hv_0, ⟨VR.pl rfl, ⟨VR.pl rfl, ⟨VR.pl rfl, trivial⟩⟩⟩⟩
  refine main.mono fun e W' ⟨he, bel⟩ => ?_
  subst he
  exact ⟨_, rfl, _, _, _, [], _, [], hW', trodAll_mk1 (shut_bool Try.underlying4 _), (trodAll_cons_mk (Below.trod laidOut (by kernel_rfl) (of_decide_eq_true (by kernel_rfl)) k0 bel lt0) (trodAll_cons_mk (shut_int Try.underlying3 w1) (trodAll_cons_mk (shut_int Try.underlying3 w2) (trodAll_cons_mk (shut_int Try.underlying3 w3) trodAll_mk0)))), rfl, bel.frame _, fun h => by cases h⟩
theorem over : Rows.yardLateRow.holds Try.pinned (OpenSpec.ofChange Rows.yardLateSpec) :=
  OpenClaim.holds_of_wide 5 Try.f5 rfl rfl rfl rfl rfl rfl rfl ⟨rfl, rfl, rfl, rfl, rfl⟩ rfl rfl rfl rfl rfl (by kernel_rfl) Try.func5 (by kernel_rfl)
    (of_decide_eq_true (by kernel_rfl)) (by unfold Func.isWrapper; first | (rw [if_pos (by decide +kernel)]; kernel_rfl) | (rw [if_neg (by decide +kernel)]; exact ⟨rfl, rfl⟩))
    (fun os started H enc _ => lifted os started H enc)
theorem proved : Rows.YardLateSaid := over
#print axioms proved
end Go.Proofs.Ytonnmmemnjnjbaa.yardLate
namespace Go.Proofs.Ytonnmmemnjnjbaa
/-- The row, under a short name, for the claim. -/
theorem yardLate_holds : Rows.YardLateSaid := yardLate.proved
end Go.Proofs.Ytonnmmemnjnjbaa
