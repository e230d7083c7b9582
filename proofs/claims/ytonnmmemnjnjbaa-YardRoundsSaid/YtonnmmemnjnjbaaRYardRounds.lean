/- The statement YardRounds: for every input the law answers true and zfH what it was handed as it was. Conditions: none. -/
import Derived.Test.YtonnmmemnjnjbaaRows
import Derived.Test.YtonnmmemnjnjbaaChecked
import Derived.Test.YtonnmmemnjnjbaaQYardRoundsb
import Derived.Test.YtonnmmemnjnjbaaQYardRoundsf
import Derived.WalkKit
import Derived.ProofKit
import Derived.OpenShut
import Derived.ShutString
import Derived.ChangeOld
import Derived.Below
import Derived.SizedLaws
import Derived.ChangeSlices
import Derived.KernelRfl
namespace Go.Proofs.Ytonnmmemnjnjbaa.yardRounds
open Go.ChangeShapes Go.WideShapes Go.ChangeAt Go.RowKit Go.Rh
open Go.ChangeMaps (open_string shut_string)
set_option linter.unusedVariables false
set_option maxRecDepth 100000
set_option maxHeartbeats 4000000
theorem zgv : z6 Try.prog "roundhouse/roundhouselaw12.YardRounds" = some zdk := by kernel_rfl
theorem zjj : z6 Try.prog "roundhouse/roundhouselaw12.known" = some zd8 := by kernel_rfl
theorem b_c_ref6_New : z6 Try.prog "roundhouse/roundhouseref6.New" = some zhV := by kernel_rfl
theorem b_c_ref6_out : z6 Try.prog "roundhouse/roundhouseref6.out" = some zhT := by kernel_rfl
theorem b_c_ref5_Ring : z6 Try.prog "roundhouse/roundhouseref5.Ring" = some zgP := by kernel_rfl
theorem zgV : z6 Try.prog "(*roundhouse/yard.Yard).Notes" = some zcC := by kernel_rfl
theorem zhq : z6 Try.prog "(*roundhouse/yard.Yard).Pool" = some zdY := by kernel_rfl
theorem zhv : z6 Try.prog "(*roundhouse/head.Head).Pool" = some zd3 := by kernel_rfl
theorem zho : z6 Try.prog "(*roundhouse/yard.Yard).Wish" = some zdW := by kernel_rfl
theorem zht : z6 Try.prog "(*roundhouse/head.Head).Wish" = some zd1 := by kernel_rfl
theorem zfY : z6 Try.prog "(*roundhouse/head.Head).waiting" = some zcT := by kernel_rfl
theorem b_c_pool_All : z6 Try.prog "roundhouse/pool.All" = some zgo := by kernel_rfl
theorem zjD : z6 Try.prog "roundhouse/pool.Apply" = some zfS := by kernel_rfl
theorem b_c_pool_may : z6 Try.prog "roundhouse/pool.may" = some zhW := by kernel_rfl
theorem b_c_pool_held : z6 Try.prog "roundhouse/pool.held" = some zgR := by kernel_rfl
theorem b_c_pool_fits : z6 Try.prog "roundhouse/pool.fits" = some zgS := by kernel_rfl
theorem zjC : z6 Try.prog "roundhouse/pool.Check" = some zfR := by kernel_rfl
theorem zjh : z6 Try.prog "roundhouse/pool.placed" = some zfh := by kernel_rfl
theorem zjk : z6 Try.prog "roundhouse/cookie.Next" = some zfk := by kernel_rfl
theorem zhp : z6 Try.prog "(*roundhouse/yard.Yard).Tick" = some zdX := by kernel_rfl
theorem zhu : z6 Try.prog "(*roundhouse/head.Head).Send" = some zd2 := by kernel_rfl
theorem zhZ : z6 Try.prog "(*roundhouse/head.Head).all" = some zeu := by kernel_rfl
theorem zfZ : z6 Try.prog "(*roundhouse/head.Head).publish" = some zcU := by kernel_rfl
theorem zez : z6 Try.prog "(*roundhouse/yard.row[roundhouse/head.Note]).put" = some zbT := by kernel_rfl
theorem zhr : z6 Try.prog "(*roundhouse/yard.Yard).Lose" = some zdZ := by kernel_rfl
theorem zeO : z6 Try.prog "(*roundhouse/yard.row[roundhouse/head.Note]).at" = some zbv := by kernel_rfl
theorem zew : z6 Try.prog "(*roundhouse/yard.row[roundhouse/head.Note]).drop" = some zbM := by kernel_rfl
theorem zfV : z6 Try.prog "(*roundhouse/yard.Yard).Version" = some zcR := by kernel_rfl
theorem zeN : z6 Try.prog "(*roundhouse/yard.row[*roundhouse/yard.unit]).at" = some zb3 := by kernel_rfl
theorem zfl : z6 Try.prog "(*roundhouse/plane.Plane).Version" = some zcv := by kernel_rfl
theorem zgW : z6 Try.prog "(*roundhouse/yard.Yard).Crash" = some zdA := by kernel_rfl
theorem zfX : z6 Try.prog "(*roundhouse/plane.Plane).Crash" = some zcS := by kernel_rfl
theorem zfW : z6 Try.prog "(*roundhouse/yard.Yard).Deliver" = some zb4 := by kernel_rfl
theorem zgZ : z6 Try.prog "(*roundhouse/head.Head).Heard" = some zdD := by kernel_rfl
theorem zhn : z6 Try.prog "(*roundhouse/yard.unit).hear" = some zdV := by kernel_rfl
theorem zfU : z6 Try.prog "(*roundhouse/yard.unit).version" = some zcQ := by kernel_rfl
theorem zhm : z6 Try.prog "(*roundhouse/yard.unit).load" = some zdU := by kernel_rfl
theorem zgu : z6 Try.prog "(*roundhouse/plane.Plane).Load" = some zdj := by kernel_rfl
theorem zd9 : z6 Try.prog "(*roundhouse/plane.maybe[roundhouse/api.Pool]).lay" = some zbG := by kernel_rfl
theorem zjz : z6 Try.prog "roundhouse/wheel.Make" = some zfO := by kernel_rfl
theorem zjy : z6 Try.prog "roundhouse/wheel.spun" = some zeG := by kernel_rfl
theorem b_c_sip_Words : z6 Try.prog "roundhouse/sip.Words" = some zgN := by kernel_rfl
theorem b_c_sip_Of : z6 Try.prog "roundhouse/sip.Of" = some c_sip_Of := by kernel_rfl
theorem zgY : z6 Try.prog "roundhouse/sip.number[[]byte]" = some zdC := by kernel_rfl
theorem zhs : z6 Try.prog "(*roundhouse/sip.state).take" = some zd0 := by kernel_rfl
theorem zgt : z6 Try.prog "(*roundhouse/sip.state).rounds" = some zdi := by kernel_rfl
theorem zgX : z6 Try.prog "(*roundhouse/sip.state).round" = some zdB := by kernel_rfl
theorem zeA : z6 Try.prog "math/bits.RotateLeft64" = some zav := by kernel_rfl
theorem b_c_head_New : z6 Try.prog "roundhouse/head.New" = some zhY := by kernel_rfl
theorem b_c_plane_New : z6 Try.prog "roundhouse/plane.New" = some zgT := by kernel_rfl
theorem b_c_yard_New : z6 Try.prog "roundhouse/yard.New" = some zhS := by kernel_rfl
theorem zey : z6 Try.prog "(*roundhouse/yard.row[*roundhouse/yard.unit]).put" = some zbS := by kernel_rfl
theorem b_c_law6_Make : z6 Try.prog "roundhouse/roundhouselaw6.Make" = some zfj := by kernel_rfl
theorem b_c_law5_Key : z6 Try.prog "roundhouse/roundhouselaw5.Key" = some zhX := by kernel_rfl
theorem zjE : z6 Try.prog "roundhouse/roundhouselaw6.Entry" = some zfT := by kernel_rfl
theorem zji : z6 Try.prog "roundhouse/roundhouselaw6.within" = some zfi := by kernel_rfl
theorem zjB : z6 Try.prog "roundhouse/roundhouseref6.Apply" = some zfQ := by kernel_rfl
theorem zjA : z6 Try.prog "roundhouse/roundhouseref6.Check" = some zfP := by kernel_rfl
theorem b_c_ref6_bad : z6 Try.prog "roundhouse/roundhouseref6.bad" = some zhU := by kernel_rfl
theorem b_c_ref6_Held : z6 Try.prog "roundhouse/roundhouseref6.Held" = some zgO := by kernel_rfl
theorem b_c_ref5_Next : z6 Try.prog "roundhouse/roundhouseref5.Next" = some zgQ := by kernel_rfl
theorem zij : z6 Try.prog "roundhouse/roundhouselaw12.within" = some zdF := by kernel_rfl
theorem own : ownKnob Try.prog.godebug = none := by kernel_rfl
theorem laidOut : laidOutB Try.prog = true := by kernel_rfl
theorem lifted (os : Os) (started : os.Started) (H : Type) (enc : TypeId × Value → H) :
    ReturnsInHanded {} Try.checked os 8 .any (Rows.yardRoundsSpec.pre6 enc Try.prog Try.f8 Rows.yardRoundsRow.domain false) (Rows.yardRoundsSpec.post enc Try.prog Try.f8 false true false false) := by
  refine returnsInHanded_of_change_sized (C := Try.checked) own started (by kernel_rfl) Try.func8
    (ChangeSpec.witness6 (enc := enc) (C := Try.checked) false ⟨#[], #[.slice none 0 0, .int .i64 0, .slice none 0 0, .bool false, .int .i64 0], []⟩ 8 (by kernel_rfl) (by kernel_rfl) (by kernel_rfl) (by kernel_rfl)) ?_
  intro W base args ds gs before hval0 hW hcnd hsz0 _
  have hval : ∀ (j : Nat) t v, Try.f8.params[j]? = some t → args[j]? = some v → Value.okWide Try.prog W .any base t v := hval0
  have hW' := hW
  obtain ⟨p, q, hA0, hV, rfl, hfz, hnd⟩ := hW
  have hA : DataW.TrodAll enc Try.prog W 0 (fun _ => true) true Try.f8.params.toList args.toList ds p := hA0
  rw [Try.params8] at hA hval
  obtain ⟨v0, vs0, d0, ds0, p0, q0, hargs, rfl, rfl, h0, r0⟩ := trodAll_cons hA
  obtain ⟨v1, vs1, d1, ds1, p1, q1, rfl, rfl, rfl, h1, r1⟩ := trodAll_cons r0
  obtain ⟨v2, vs2, d2, ds2, p2, q2, rfl, rfl, rfl, h2, r2⟩ := trodAll_cons r1
  obtain ⟨v3, vs3, d3, ds3, p3, q3, rfl, rfl, rfl, h3, r3⟩ := trodAll_cons r2
  obtain ⟨v4, vs4, d4, ds4, p4, q4, rfl, rfl, rfl, h4, r4⟩ := trodAll_cons r3
  obtain ⟨rfl, rfl, rfl⟩ := trodAll_nil r4
  obtain rfl : args = #[v0, v1, v2, v3, v4] := by cases args; simp_all
  obtain ⟨rfl, rfl⟩ := trodVars_none hV
  have k0 := h0
  have hv0 := (hval 0 22 v0 rfl rfl)
  obtain ⟨a0, len0, cap0, rfl⟩ := okWide_slice Try.underlying22 hv0
  have lt0 : ∀ x ∈ p0, x.block < W.heap.size := by obtain ⟨m, hm⟩ := k0; exact DataW.trod_lt m _ _ _ hm
  obtain ⟨o0, l0, rr0, hn0, hl0, hrel0, hmem0⟩ : ∃ (o : Option Nat) (l : List Int) (x : Option (Addr × List Value)), (o = none → l = []) ∧ (l.length : Int) ≤ 9223372036854775807 ∧ (x = (match o with | none => none | some _ => some (a0.getD ⟨0, 0, none⟩, ii l)) ∧ (match o with | none => a0 = none ∧ len0 = 0 ∧ cap0 = 0 | some c => a0 = some (a0.getD ⟨0, 0, none⟩) ∧ len0 = l.length ∧ cap0 = c)) ∧ (∀ a c, some (a, c) = x → RowAt W a c) := by
    obtain ⟨fuel, hf⟩ := h0
    rcases open_ints Try.underlying22 Try.underlying3 (by kernel_rfl) hf with ⟨hcs, _⟩ | ⟨x, l, c, zs, hcs, _, hl, hm, hz, _, hcell, hwz⟩
    · simp [Value.cells] at hcs
      obtain ⟨rfl, rfl, rfl⟩ := hcs
      exact ⟨none, [], none, fun _ => rfl, by decide, ⟨rfl, rfl, rfl, rfl⟩, fun a c q => by cases q⟩
    · simp [Value.cells] at hcs
      obtain ⟨rfl, rfl, rfl⟩ := hcs
      have hlen : zs.length = cap0 := by simpa using hz
      have hlm : (zs.take len0).length = len0 := by simp; omega
      refine ⟨some cap0, zs.take len0, some (x, ii (zs.take len0)), (fun q => by cases q), by rw [hlm]; unfold maxLen at hm; omega, ⟨rfl, rfl, hlm.symm, rfl⟩, ?_⟩
      rintro a c q; cases q
      refine RowAt.of (zhf Try.underlying22 hv0) (fun j v hj => ?_) (zaY _)
      simp only [ii, List.getElem?_map, Option.map_eq_some_iff] at hj
      obtain ⟨y, hy, rfl⟩ := hj
      rw [List.getElem?_take] at hy
      split at hy
      · have hjz := zL hy
        rw [hcell j hjz]; simp [List.getD, hy]
      · cases hy
  obtain ⟨a1, rfl, rfl, rfl, w1⟩ := open_int Try.underlying3 (hval 1 3 v1 rfl rfl) h1
  have k2 := h2
  have hv2 := (hval 2 22 v2 rfl rfl)
  obtain ⟨a2, len2, cap2, rfl⟩ := okWide_slice Try.underlying22 hv2
  have lt2 : ∀ x ∈ p2, x.block < W.heap.size := by obtain ⟨m, hm⟩ := k2; exact DataW.trod_lt m _ _ _ hm
  obtain ⟨o2, l2, rr2, hn2, hl2, hrel2, hmem2⟩ : ∃ (o : Option Nat) (l : List Int) (x : Option (Addr × List Value)), (o = none → l = []) ∧ (l.length : Int) ≤ 9223372036854775807 ∧ (x = (match o with | none => none | some _ => some (a2.getD ⟨0, 0, none⟩, ii l)) ∧ (match o with | none => a2 = none ∧ len2 = 0 ∧ cap2 = 0 | some c => a2 = some (a2.getD ⟨0, 0, none⟩) ∧ len2 = l.length ∧ cap2 = c)) ∧ (∀ a c, some (a, c) = x → RowAt W a c) := by
    obtain ⟨fuel, hf⟩ := h2
    rcases open_ints Try.underlying22 Try.underlying3 (by kernel_rfl) hf with ⟨hcs, _⟩ | ⟨x, l, c, zs, hcs, _, hl, hm, hz, _, hcell, hwz⟩
    · simp [Value.cells] at hcs
      obtain ⟨rfl, rfl, rfl⟩ := hcs
      exact ⟨none, [], none, fun _ => rfl, by decide, ⟨rfl, rfl, rfl, rfl⟩, fun a c q => by cases q⟩
    · simp [Value.cells] at hcs
      obtain ⟨rfl, rfl, rfl⟩ := hcs
      have hlen : zs.length = cap2 := by simpa using hz
      have hlm : (zs.take len2).length = len2 := by simp; omega
      refine ⟨some cap2, zs.take len2, some (x, ii (zs.take len2)), (fun q => by cases q), by rw [hlm]; unfold maxLen at hm; omega, ⟨rfl, rfl, hlm.symm, rfl⟩, ?_⟩
      rintro a c q; cases q
      refine RowAt.of (zhf Try.underlying22 hv2) (fun j v hj => ?_) (zaY _)
      simp only [ii, List.getElem?_map, Option.map_eq_some_iff] at hj
      obtain ⟨y, hy, rfl⟩ := hj
      rw [List.getElem?_take] at hy
      split at hy
      · have hjz := zL hy
        rw [hcell j hjz]; simp [List.getD, hy]
      · cases hy
  obtain ⟨a3, rfl, rfl, rfl⟩ := open_bool Try.underlying4 (hval 3 4 v3 rfl rfl) h3
  obtain ⟨a4, rfl, rfl, rfl, w4⟩ := open_int Try.underlying3 (hval 4 3 v4 rfl rfl) h4
  clear hA0 hval0 hsz0
  have hC := YardRoundsC (P := Try.prog) zgv zjj b_c_ref6_New b_c_ref6_out b_c_ref5_Ring zgV zhq zhv zho zht zfY b_c_pool_All zjD b_c_pool_may b_c_pool_held b_c_pool_fits zjC zjh zjk zhp zhu zhZ zfZ zez zhr zeO zew zfV zeN zfl zgW zfX zfW zgZ zhn zfU zhm zgu zd9 zjz zjy b_c_sip_Words b_c_sip_Of zgY zhs zgt zgX zeA b_c_head_New b_c_plane_New b_c_yard_New zey b_c_law6_Make b_c_law5_Key zjE zji zjB zjA b_c_ref6_bad b_c_ref6_Held b_c_ref5_Next zij o0 l0 hn0 hl0 a1 o2 l2 hn2 hl2 a3 a4
  have main : Calls Try.prog 8 #[.slice a0 len0 cap0, .int .i64 a1, .slice a2 len2 cap2, .bool a3, .int .i64 a4] W fun e W' => e = .returned (.bool true) ∧ Below W.heap.size W W' := by
    refine Env.law Try.func8 rfl (args := [inV o0 0 l0.length, .int .i64 a1, inV o2 1 l2.length, .bool a3, .int .i64 a4]) (r := [rr0, rr2]) ?_ ?_ ?_
    · skip
      have hb : Rows.blks [rr0, rr2] = [inB o0 (ii l0), inB o2 (ii l2)] := by
        rw [hrel0.1]
        rw [hrel2.1]
        cases o0 <;> cases o2 <;> rfl
      rw [hb]; exact hC
    · intro a c hx
      simp only [List.mem_cons, List.not_mem_nil, or_false] at hx
      rcases hx with hx | hx
      · exact hmem0 a c hx
      · exact hmem2 a c hx
    · have hv_0 : VR (Rows.phi [rr0, rr2]) (inV o0 0 l0.length) (.slice a0 len0 cap0) := by
        obtain ⟨hx, hy⟩ := hrel0
        cases o0 with
        | none => obtain ⟨e1, e2, e3⟩ := hy; rw [e1, e2, e3]; exact VR.pl rfl
        | some c => obtain ⟨e1, e2, e3⟩ := hy; rw [e1, e2, e3]; exact VR.in_ (c := ii l0) (by rw [hx]; rfl) (hmem0 _ _ hx.symm).spot
      have hv_2 : VR (Rows.phi [rr0, rr2]) (inV o2 1 l2.length) (.slice a2 len2 cap2) := by
        obtain ⟨hx, hy⟩ := hrel2
        cases o2 with
        | none => obtain ⟨e1, e2, e3⟩ := hy; rw [e1, e2, e3]; exact VR.pl rfl
        | some c => obtain ⟨e1, e2, e3⟩ := hy; rw [e1, e2, e3]; exact VR.in_ (c := ii l2) (by rw [hx]; rfl) (hmem2 _ _ hx.symm).spot
      exact ⟨hv_0, ⟨VR.pl rfl, ⟨hv_2, ⟨VR.pl rfl, ⟨VR.pl rfl, trivial⟩⟩⟩⟩⟩
  refine main.mono fun e W' ⟨he, bel⟩ => ?_
  subst he
  exact ⟨_, rfl, _, _, _, [], _, [], hW', trodAll_mk1 (shut_bool Try.underlying4 _), (trodAll_cons_mk (Below.trod laidOut (by kernel_rfl) (of_decide_eq_true (by kernel_rfl)) k0 bel lt0) (trodAll_cons_mk (shut_int Try.underlying3 w1) (trodAll_cons_mk (Below.trod laidOut (by kernel_rfl) (of_decide_eq_true (by kernel_rfl)) k2 bel lt2) (trodAll_cons_mk (shut_bool Try.underlying4 _) (trodAll_cons_mk (shut_int Try.underlying3 w4) trodAll_mk0))))), rfl, bel.frame _, fun h => by cases h⟩
theorem zeX : Rows.yardRoundsRow.holds Try.pinned (OpenSpec.ofChange Rows.yardRoundsSpec) :=
  OpenClaim.holds_of_wide 8 Try.f8 rfl rfl rfl rfl rfl rfl rfl ⟨rfl, rfl, rfl, rfl, rfl⟩ rfl rfl rfl rfl rfl (by kernel_rfl) Try.func8 (by kernel_rfl)
    (of_decide_eq_true (by kernel_rfl)) (by unfold Func.isWrapper; first | (rw [if_pos (by decide +kernel)]; kernel_rfl) | (rw [if_neg (by decide +kernel)]; exact ⟨rfl, rfl⟩))
    (fun os started H enc _ => lifted os started H enc)
theorem proved : Rows.YardRoundsSaid := zeX
#print axioms proved
end Go.Proofs.Ytonnmmemnjnjbaa.yardRounds
namespace Go.Proofs.Ytonnmmemnjnjbaa
/-- The row, under a short name, for the claim. -/
theorem yardRounds_holds : Rows.YardRoundsSaid := yardRounds.proved
end Go.Proofs.Ytonnmmemnjnjbaa
