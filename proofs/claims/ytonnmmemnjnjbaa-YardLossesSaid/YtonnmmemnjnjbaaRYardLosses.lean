/- The statement YardLosses: for every input the law answers true and zfg what it was handed as it was. Conditions: none. -/
import Derived.Test.YtonnmmemnjnjbaaRows
import Derived.Test.YtonnmmemnjnjbaaChecked
import Derived.Test.YtonnmmemnjnjbaaQYardLossesb
import Derived.Test.YtonnmmemnjnjbaaQYardLossesf
import Derived.WalkKit
import Derived.ProofKit
import Derived.OpenShut
import Derived.ShutString
import Derived.ChangeOld
import Derived.Below
import Derived.SizedLaws
import Derived.ChangeSlices
import Derived.KernelRfl
namespace Go.Proofs.Ytonnmmemnjnjbaa.yardLosses
open Go.ChangeShapes Go.WideShapes Go.ChangeAt Go.RowKit Go.Rh
open Go.ChangeMaps (open_string shut_string)
set_option linter.unusedVariables false
set_option maxRecDepth 100000
set_option maxHeartbeats 4000000
theorem zf5 : zX Try.prog "roundhouse/roundhouselaw12.YardLosses" = some zcT := by kernel_rfl
theorem ziH : zX Try.prog "roundhouse/roundhouselaw12.known" = some zdJ := by kernel_rfl
theorem b_c_ref6_New : zX Try.prog "roundhouse/roundhouseref6.New" = some zhq := by kernel_rfl
theorem b_c_ref6_out : zX Try.prog "roundhouse/roundhouseref6.out" = some zho := by kernel_rfl
theorem b_c_ref5_Ring : zX Try.prog "roundhouse/roundhouseref5.Ring" = some zgo := by kernel_rfl
theorem zgu : zX Try.prog "(*roundhouse/yard.Yard).Notes" = some zcb := by kernel_rfl
theorem zgX : zX Try.prog "(*roundhouse/yard.Yard).Pool" = some zdB := by kernel_rfl
theorem zg2 : zX Try.prog "(*roundhouse/head.Head).Pool" = some zdF := by kernel_rfl
theorem zgV : zX Try.prog "(*roundhouse/yard.Yard).Wish" = some ze0 := by kernel_rfl
theorem zg0 : zX Try.prog "(*roundhouse/head.Head).Wish" = some ze1 := by kernel_rfl
theorem zfz : zX Try.prog "(*roundhouse/head.Head).waiting" = some zd4 := by kernel_rfl
theorem b_c_pool_All : zX Try.prog "roundhouse/pool.All" = some zjp := by kernel_rfl
theorem ziW : zX Try.prog "roundhouse/pool.Apply" = some zfs := by kernel_rfl
theorem b_c_pool_may : zX Try.prog "roundhouse/pool.may" = some zhr := by kernel_rfl
theorem b_c_pool_held : zX Try.prog "roundhouse/pool.held" = some zgq := by kernel_rfl
theorem b_c_pool_fits : zX Try.prog "roundhouse/pool.fits" = some zgr := by kernel_rfl
theorem ziV : zX Try.prog "roundhouse/pool.Check" = some zfr := by kernel_rfl
theorem ziF : zX Try.prog "roundhouse/pool.placed" = some zeT := by kernel_rfl
theorem ziI : zX Try.prog "roundhouse/cookie.Next" = some zeW := by kernel_rfl
theorem zgW : zX Try.prog "(*roundhouse/yard.Yard).Tick" = some zdA := by kernel_rfl
theorem zg1 : zX Try.prog "(*roundhouse/head.Head).Send" = some zdE := by kernel_rfl
theorem zhv : zX Try.prog "(*roundhouse/head.Head).all" = some zd5 := by kernel_rfl
theorem zfA : zX Try.prog "(*roundhouse/head.Head).publish" = some zcv := by kernel_rfl
theorem zeb : zX Try.prog "(*roundhouse/yard.row[roundhouse/head.Note]).put" = some zbG := by kernel_rfl
theorem zgY : zX Try.prog "(*roundhouse/yard.Yard).Lose" = some zdC := by kernel_rfl
theorem zeq : zX Try.prog "(*roundhouse/yard.row[roundhouse/head.Note]).at" = some zbd := by kernel_rfl
theorem zd7 : zX Try.prog "(*roundhouse/yard.row[roundhouse/head.Note]).drop" = some zby := by kernel_rfl
theorem zfw : zX Try.prog "(*roundhouse/yard.Yard).Version" = some zcu := by kernel_rfl
theorem zep : zX Try.prog "(*roundhouse/yard.row[*roundhouse/yard.unit]).at" = some zbL := by kernel_rfl
theorem zeX : zX Try.prog "(*roundhouse/plane.Plane).Version" = some zb6 := by kernel_rfl
theorem zgv : zX Try.prog "(*roundhouse/yard.Yard).Crash" = some zeE := by kernel_rfl
theorem zfy : zX Try.prog "(*roundhouse/plane.Plane).Crash" = some zd3 := by kernel_rfl
theorem zfx : zX Try.prog "(*roundhouse/yard.Yard).Deliver" = some zbM := by kernel_rfl
theorem zgy : zX Try.prog "(*roundhouse/head.Head).Heard" = some zdd := by kernel_rfl
theorem zgU : zX Try.prog "(*roundhouse/yard.unit).hear" = some zdz := by kernel_rfl
theorem zfv : zX Try.prog "(*roundhouse/yard.unit).version" = some zct := by kernel_rfl
theorem zgT : zX Try.prog "(*roundhouse/yard.unit).load" = some zdy := by kernel_rfl
theorem zf4 : zX Try.prog "(*roundhouse/plane.Plane).Load" = some zcS := by kernel_rfl
theorem zdL : zX Try.prog "(*roundhouse/plane.maybe[roundhouse/api.Pool]).lay" = some zbp := by kernel_rfl
theorem ziS : zX Try.prog "roundhouse/wheel.Make" = some zfo := by kernel_rfl
theorem ziR : zX Try.prog "roundhouse/wheel.spun" = some zei := by kernel_rfl
theorem b_c_sip_Words : zX Try.prog "roundhouse/sip.Words" = some zgm := by kernel_rfl
theorem b_c_sip_Of : zX Try.prog "roundhouse/sip.Of" = some c_sip_Of := by kernel_rfl
theorem zgx : zX Try.prog "roundhouse/sip.number[[]byte]" = some zdc := by kernel_rfl
theorem zgZ : zX Try.prog "(*roundhouse/sip.state).take" = some zdD := by kernel_rfl
theorem zf3 : zX Try.prog "(*roundhouse/sip.state).rounds" = some zcR := by kernel_rfl
theorem zgw : zX Try.prog "(*roundhouse/sip.state).round" = some zdb := by kernel_rfl
theorem zec : zX Try.prog "math/bits.RotateLeft64" = some zan := by kernel_rfl
theorem b_c_head_New : zX Try.prog "roundhouse/head.New" = some zht := by kernel_rfl
theorem b_c_plane_New : zX Try.prog "roundhouse/plane.New" = some zgs := by kernel_rfl
theorem b_c_yard_New : zX Try.prog "roundhouse/yard.New" = some zhn := by kernel_rfl
theorem zea : zX Try.prog "(*roundhouse/yard.row[*roundhouse/yard.unit]).put" = some zbF := by kernel_rfl
theorem b_c_law6_Make : zX Try.prog "roundhouse/roundhouselaw6.Make" = some zeV := by kernel_rfl
theorem b_c_law5_Key : zX Try.prog "roundhouse/roundhouselaw5.Key" = some zhs := by kernel_rfl
theorem ziX : zX Try.prog "roundhouse/roundhouselaw6.Entry" = some zft := by kernel_rfl
theorem ziG : zX Try.prog "roundhouse/roundhouselaw6.within" = some zeU := by kernel_rfl
theorem ziU : zX Try.prog "roundhouse/roundhouseref6.Apply" = some zfq := by kernel_rfl
theorem ziT : zX Try.prog "roundhouse/roundhouseref6.Check" = some zfp := by kernel_rfl
theorem b_c_ref6_bad : zX Try.prog "roundhouse/roundhouseref6.bad" = some zhp := by kernel_rfl
theorem b_c_ref6_Held : zX Try.prog "roundhouse/roundhouseref6.Held" = some zgn := by kernel_rfl
theorem b_c_ref5_Next : zX Try.prog "roundhouse/roundhouseref5.Next" = some zgp := by kernel_rfl
theorem zhP : zX Try.prog "roundhouse/roundhouselaw12.within" = some zdf := by kernel_rfl
theorem own : ownKnob Try.prog.godebug = none := by kernel_rfl
theorem laidOut : laidOutB Try.prog = true := by kernel_rfl
theorem lifted (os : Os) (started : os.Started) (H : Type) (enc : TypeId × Value → H) :
    ReturnsInHanded {} Try.checked os 4 .any (Rows.yardLossesSpec.pre6 enc Try.prog Try.f4 Rows.yardLossesRow.domain false) (Rows.yardLossesSpec.post enc Try.prog Try.f4 false true false false) := by
  refine returnsInHanded_of_change_sized (C := Try.checked) own started (by kernel_rfl) Try.func4
    (ChangeSpec.witness6 (enc := enc) (C := Try.checked) false ⟨#[], #[.slice none 0 0, .int .i64 0, .slice none 0 0], []⟩ 8 (by kernel_rfl) (by kernel_rfl) (by kernel_rfl) (by kernel_rfl)) ?_
  intro W base args ds gs before hval0 hW hcnd hsz0 _
  have hval : ∀ (j : Nat) t v, Try.f4.params[j]? = some t → args[j]? = some v → Value.okWide Try.prog W .any base t v := hval0
  have hW' := hW
  obtain ⟨p, q, hA0, hV, rfl, hfz, hnd⟩ := hW
  have hA : DataW.TrodAll enc Try.prog W 0 (fun _ => true) true Try.f4.params.toList args.toList ds p := hA0
  rw [Try.params4] at hA hval
  obtain ⟨v0, vs0, d0, ds0, p0, q0, hargs, rfl, rfl, h0, r0⟩ := trodAll_cons hA
  obtain ⟨v1, vs1, d1, ds1, p1, q1, rfl, rfl, rfl, h1, r1⟩ := trodAll_cons r0
  obtain ⟨v2, vs2, d2, ds2, p2, q2, rfl, rfl, rfl, h2, r2⟩ := trodAll_cons r1
  obtain ⟨rfl, rfl, rfl⟩ := trodAll_nil r2
  obtain rfl : args = #[v0, v1, v2] := by cases args; simp_all
  obtain ⟨rfl, rfl⟩ := trodVars_none hV
  have k0 := h0
  have hv0 := (hval 0 22 v0 rfl rfl)
  obtain ⟨a0, len0, cap0, rfl⟩ := okWide_slice Try.underlying22 hv0
  have lt0 : ∀ x ∈ p0, x.block < W.heap.size := by obtain ⟨m, hm⟩ := k0; exact DataW.trod_lt m _ _ _ hm
  obtain ⟨o0, l0, rr0, hn0, hl0, hrel0, hmem0⟩ : ∃ (o : Option Nat) (l : List Int) (x : Option (Addr × List Value)), (o = none → l = []) ∧ (l.length : Int) ≤ 9223372036854775807 ∧ (x = (match o with | none => none | some _ => some (a0.getD ⟨0, 0, none⟩, ii l)) ∧ (match o with | none => a0 = none ∧ len0 = 0 ∧ cap0 = 0 | some c => a0 = some (a0.getD ⟨0, 0, none⟩) ∧ len0 = l.length ∧ cap0 = c)) ∧ (∀ a c, some (a, c) = x → RowAt W a c) := by
    obtain ⟨fuel, hf⟩ := h0
    rcases open_ints Try.underlying22 Try.underlying3 (by kernel_rfl) hf with ⟨hcs, _⟩ | ⟨x, l, c, zs, hcs, _, hl, hm, hz, _, hcell, hwz⟩
    · simp [Value.cells] at hcs
      obtain ⟨rfl, rfl, rfl⟩ := hcs
      exact ⟨none, [], none, fun _ => rfl, by decide, ⟨rfl, rfl, rfl, rfl⟩, fun a c q => by cases q⟩
    · simp [Value.cells] at hcs
      obtain ⟨rfl, rfl, rfl⟩ := hcs
      have hlen : zs.length = cap0 := by simpa using hz
      have hlm : (zs.take len0).length = len0 := by simp; omega
      refine ⟨some cap0, zs.take len0, some (x, ii (zs.take len0)), (fun q => by cases q), by rw [hlm]; unfold maxLen at hm; omega, ⟨rfl, rfl, hlm.symm, rfl⟩, ?_⟩
      rintro a c q; cases q
      refine RowAt.of (zgO Try.underlying22 hv0) (fun j v hj => ?_) (zaR _)
      simp only [ii, List.getElem?_map, Option.map_eq_some_iff] at hj
      obtain ⟨y, hy, rfl⟩ := hj
      rw [List.getElem?_take] at hy
      split at hy
      · have hjz := zJ hy
        rw [hcell j hjz]; simp [List.getD, hy]
      · cases hy
  obtain ⟨a1, rfl, rfl, rfl, w1⟩ := open_int Try.underlying3 (hval 1 3 v1 rfl rfl) h1
  have k2 := h2
  have hv2 := (hval 2 22 v2 rfl rfl)
  obtain ⟨a2, len2, cap2, rfl⟩ := okWide_slice Try.underlying22 hv2
  have lt2 : ∀ x ∈ p2, x.block < W.heap.size := by obtain ⟨m, hm⟩ := k2; exact DataW.trod_lt m _ _ _ hm
  obtain ⟨o2, l2, rr2, hn2, hl2, hrel2, hmem2⟩ : ∃ (o : Option Nat) (l : List Int) (x : Option (Addr × List Value)), (o = none → l = []) ∧ (l.length : Int) ≤ 9223372036854775807 ∧ (x = (match o with | none => none | some _ => some (a2.getD ⟨0, 0, none⟩, ii l)) ∧ (match o with | none => a2 = none ∧ len2 = 0 ∧ cap2 = 0 | some c => a2 = some (a2.getD ⟨0, 0, none⟩) ∧ len2 = l.length ∧ cap2 = c)) ∧ (∀ a c, some (a, c) = x → RowAt W a c) := by
    obtain ⟨fuel, hf⟩ := h2
    rcases open_ints Try.underlying22 Try.underlying3 (by kernel_rfl) hf with ⟨hcs, _⟩ | ⟨x, l, c, zs, hcs, _, hl, hm, hz, _, hcell, hwz⟩
    · simp [Value.cells] at hcs
      obtain ⟨rfl, rfl, rfl⟩ := hcs
      exact ⟨none, [], none, fun _ => rfl, by decide, ⟨rfl, rfl, rfl, rfl⟩, fun a c q => by cases q⟩
    · simp [Value.cells] at hcs
      obtain ⟨rfl, rfl, rfl⟩ := hcs
      have hlen : zs.length = cap2 := by simpa using hz
      have hlm : (zs.take len2).length = len2 := by simp; omega
      refine ⟨some cap2, zs.take len2, some (x, ii (zs.take len2)), (fun q => by cases q), by rw [hlm]; unfold maxLen at hm; omega, ⟨rfl, rfl, hlm.symm, rfl⟩, ?_⟩
      rintro a c q; cases q
      refine RowAt.of (zgO Try.underlying22 hv2) (fun j v hj => ?_) (zaR _)
      simp only [ii, List.getElem?_map, Option.map_eq_some_iff] at hj
      obtain ⟨y, hy, rfl⟩ := hj
      rw [List.getElem?_take] at hy
      split at hy
      · have hjz := zJ hy
        rw [hcell j hjz]; simp [List.getD, hy]
      · cases hy
  clear hA0 hval0 hsz0
  have hC := YardLossesC (P := Try.prog) zf5 ziH b_c_ref6_New b_c_ref6_out b_c_ref5_Ring zgu zgX zg2 zgV zg0 zfz b_c_pool_All ziW b_c_pool_may b_c_pool_held b_c_pool_fits ziV ziF ziI zgW zg1 zhv zfA zeb zgY zeq zd7 zfw zep zeX zgv zfy zfx zgy zgU zfv zgT zf4 zdL ziS ziR b_c_sip_Words b_c_sip_Of zgx zgZ zf3 zgw zec b_c_head_New b_c_plane_New b_c_yard_New zea b_c_law6_Make b_c_law5_Key ziX ziG ziU ziT b_c_ref6_bad b_c_ref6_Held b_c_ref5_Next zhP o0 l0 hn0 hl0 a1 o2 l2 hn2 hl2
  have main : Calls Try.prog 4 #[.slice a0 len0 cap0, .int .i64 a1, .slice a2 len2 cap2] W fun e W' => e = .returned (.bool true) ∧ Below W.heap.size W W' := by
    refine Env.law Try.func4 rfl (args := [inV o0 0 l0.length, .int .i64 a1, inV o2 1 l2.length]) (r := [rr0, rr2]) ?_ ?_ ?_
    · skip
      have hb : Rows.blks [rr0, rr2] = [inB o0 (ii l0), inB o2 (ii l2)] := by
        rw [hrel0.1]
        rw [hrel2.1]
        cases o0 <;> cases o2 <;> rfl
      rw [hb]; exact hC
    · intro a c hx
      simp only [List.mem_cons, List.not_mem_nil, or_false] at hx
      rcases hx with hx | hx
      · exact hmem0 a c hx
      · exact hmem2 a c hx
    · have hv_0 : VR (Rows.phi [rr0, rr2]) (inV o0 0 l0.length) (.slice a0 len0 cap0) := by
        obtain ⟨hx, hy⟩ := hrel0
        cases o0 with
        | none => obtain ⟨e1, e2, e3⟩ := hy; rw [e1, e2, e3]; exact VR.pl rfl
        | some c => obtain ⟨e1, e2, e3⟩ := hy; rw [e1, e2, e3]; exact VR.in_ (c := ii l0) (by rw [hx]; rfl) (hmem0 _ _ hx.symm).spot
      have hv_2 : VR (Rows.phi [rr0, rr2]) (inV o2 1 l2.length) (.slice a2 len2 cap2) := by
        obtain ⟨hx, hy⟩ := hrel2
        cases o2 with
        | none => obtain ⟨e1, e2, e3⟩ := hy; rw [e1, e2, e3]; exact VR.pl rfl
        | some c => obtain ⟨e1, e2, e3⟩ := hy; rw [e1, e2, e3]; exact VR.in_ (c := ii l2) (by rw [hx]; rfl) (hmem2 _ _ hx.symm).spot
      exact ⟨hv_0, ⟨VR.pl rfl, ⟨hv_2, trivial⟩⟩⟩
  refine main.mono fun e W' ⟨he, bel⟩ => ?_
  subst he
  exact ⟨_, rfl, _, _, _, [], _, [], hW', trodAll_mk1 (shut_bool Try.underlying4 _), (trodAll_cons_mk (Below.trod laidOut (by kernel_rfl) (of_decide_eq_true (by kernel_rfl)) k0 bel lt0) (trodAll_cons_mk (shut_int Try.underlying3 w1) (trodAll_cons_mk (Below.trod laidOut (by kernel_rfl) (of_decide_eq_true (by kernel_rfl)) k2 bel lt2) trodAll_mk0))), rfl, bel.frame _, fun h => by cases h⟩
theorem zex : Rows.yardLossesRow.holds Try.pinned (OpenSpec.ofChange Rows.yardLossesSpec) :=
  OpenClaim.holds_of_wide 4 Try.f4 rfl rfl rfl rfl rfl rfl rfl ⟨rfl, rfl, rfl, rfl, rfl⟩ rfl rfl rfl rfl rfl (by kernel_rfl) Try.func4 (by kernel_rfl)
    (of_decide_eq_true (by kernel_rfl)) (by unfold Func.isWrapper; first | (rw [if_pos (by decide +kernel)]; kernel_rfl) | (rw [if_neg (by decide +kernel)]; exact ⟨rfl, rfl⟩))
    (fun os started H enc _ => lifted os started H enc)
theorem proved : Rows.YardLossesSaid := zex
#print axioms proved
end Go.Proofs.Ytonnmmemnjnjbaa.yardLosses
namespace Go.Proofs.Ytonnmmemnjnjbaa
/-- The row, under a short name, for the claim. -/
theorem yardLosses_holds : Rows.YardLossesSaid := yardLosses.proved
end Go.Proofs.Ytonnmmemnjnjbaa
