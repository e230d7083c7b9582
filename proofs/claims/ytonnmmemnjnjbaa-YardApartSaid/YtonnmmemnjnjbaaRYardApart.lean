/- The statement YardApart: for every input the law answers true and zfb what it was handed as it was. Conditions: none. -/
import Derived.Test.YtonnmmemnjnjbaaRows
import Derived.Test.YtonnmmemnjnjbaaChecked
import Derived.Test.YtonnmmemnjnjbaaQYardApartb
import Derived.Test.YtonnmmemnjnjbaaQYardApartf
import Derived.WalkKit
import Derived.ProofKit
import Derived.OpenShut
import Derived.ShutString
import Derived.ChangeOld
import Derived.Below
import Derived.SizedLaws
import Derived.ChangeSlices
import Derived.KernelRfl
namespace Go.Proofs.Ytonnmmemnjnjbaa.yardApart
open Go.ChangeShapes Go.WideShapes Go.ChangeAt Go.RowKit Go.Rh
open Go.ChangeMaps (open_string shut_string)
set_option linter.unusedVariables false
set_option maxRecDepth 100000
set_option maxHeartbeats 4000000
theorem zgn : zX Try.prog "roundhouse/roundhouselaw12.YardApart" = some zdf := by kernel_rfl
theorem ziJ : zX Try.prog "roundhouse/roundhouselaw12.known" = some zdP := by kernel_rfl
theorem b_c_ref6_New : zX Try.prog "roundhouse/roundhouseref6.New" = some zhm := by kernel_rfl
theorem b_c_ref6_out : zX Try.prog "roundhouse/roundhouseref6.out" = some zhk := by kernel_rfl
theorem b_c_ref5_Ring : zX Try.prog "roundhouse/roundhouseref5.Ring" = some zgd := by kernel_rfl
theorem zgj : zX Try.prog "(*roundhouse/yard.Yard).Notes" = some zcj := by kernel_rfl
theorem zgO : zX Try.prog "(*roundhouse/yard.Yard).Pool" = some zdE := by kernel_rfl
theorem zgT : zX Try.prog "(*roundhouse/head.Head).Pool" = some zdJ := by kernel_rfl
theorem zgM : zX Try.prog "(*roundhouse/yard.Yard).Wish" = some zdC := by kernel_rfl
theorem zgR : zX Try.prog "(*roundhouse/head.Head).Wish" = some zdH := by kernel_rfl
theorem zfr : zX Try.prog "(*roundhouse/head.Head).waiting" = some zcC := by kernel_rfl
theorem b_c_pool_All : zX Try.prog "roundhouse/pool.All" = some zfP := by kernel_rfl
theorem ziZ : zX Try.prog "roundhouse/pool.Apply" = some zfl := by kernel_rfl
theorem b_c_pool_may : zX Try.prog "roundhouse/pool.may" = some zhn := by kernel_rfl
theorem b_c_pool_held : zX Try.prog "roundhouse/pool.held" = some zgf := by kernel_rfl
theorem b_c_pool_fits : zX Try.prog "roundhouse/pool.fits" = some zgg := by kernel_rfl
theorem ziY : zX Try.prog "roundhouse/pool.Check" = some zfk := by kernel_rfl
theorem ziH : zX Try.prog "roundhouse/pool.placed" = some zeP := by kernel_rfl
theorem ziK : zX Try.prog "roundhouse/cookie.Next" = some zeS := by kernel_rfl
theorem zgN : zX Try.prog "(*roundhouse/yard.Yard).Tick" = some zdD := by kernel_rfl
theorem zgS : zX Try.prog "(*roundhouse/head.Head).Send" = some zdI := by kernel_rfl
theorem zhq : zX Try.prog "(*roundhouse/head.Head).all" = some zd8 := by kernel_rfl
theorem zfs : zX Try.prog "(*roundhouse/head.Head).publish" = some zcD := by kernel_rfl
theorem zeg : zX Try.prog "(*roundhouse/yard.row[roundhouse/head.Note]).put" = some zbE := by kernel_rfl
theorem zgP : zX Try.prog "(*roundhouse/yard.Yard).Lose" = some zdF := by kernel_rfl
theorem zes : zX Try.prog "(*roundhouse/yard.row[roundhouse/head.Note]).at" = some zbi := by kernel_rfl
theorem zea : zX Try.prog "(*roundhouse/yard.row[roundhouse/head.Note]).drop" = some zby := by kernel_rfl
theorem zfo : zX Try.prog "(*roundhouse/yard.Yard).Version" = some zcA := by kernel_rfl
theorem zer : zX Try.prog "(*roundhouse/yard.row[*roundhouse/yard.unit]).at" = some zbL := by kernel_rfl
theorem zeT : zX Try.prog "(*roundhouse/plane.Plane).Version" = some zcd := by kernel_rfl
theorem zgk : zX Try.prog "(*roundhouse/yard.Yard).Crash" = some zdc := by kernel_rfl
theorem zfq : zX Try.prog "(*roundhouse/plane.Plane).Crash" = some zcB := by kernel_rfl
theorem zfp : zX Try.prog "(*roundhouse/yard.Yard).Deliver" = some zbM := by kernel_rfl
theorem zgo : zX Try.prog "(*roundhouse/head.Head).Heard" = some zdg := by kernel_rfl
theorem zgL : zX Try.prog "(*roundhouse/yard.unit).hear" = some zdB := by kernel_rfl
theorem zfn : zX Try.prog "(*roundhouse/yard.unit).version" = some zcz := by kernel_rfl
theorem zgK : zX Try.prog "(*roundhouse/yard.unit).load" = some zdA := by kernel_rfl
theorem zfT : zX Try.prog "(*roundhouse/plane.Plane).Load" = some zcX := by kernel_rfl
theorem zdQ : zX Try.prog "(*roundhouse/plane.maybe[roundhouse/api.Pool]).lay" = some zbt := by kernel_rfl
theorem ziV : zX Try.prog "roundhouse/wheel.Make" = some zfh := by kernel_rfl
theorem ziU : zX Try.prog "roundhouse/wheel.spun" = some zem := by kernel_rfl
theorem b_c_sip_Words : zX Try.prog "roundhouse/sip.Words" = some zgb := by kernel_rfl
theorem b_c_sip_Of : zX Try.prog "roundhouse/sip.Of" = some c_sip_Of := by kernel_rfl
theorem zgm : zX Try.prog "roundhouse/sip.number[[]byte]" = some zde := by kernel_rfl
theorem zgQ : zX Try.prog "(*roundhouse/sip.state).take" = some zdG := by kernel_rfl
theorem zfS : zX Try.prog "(*roundhouse/sip.state).rounds" = some zcW := by kernel_rfl
theorem zgl : zX Try.prog "(*roundhouse/sip.state).round" = some zdd := by kernel_rfl
theorem zeh : zX Try.prog "math/bits.RotateLeft64" = some zaj := by kernel_rfl
theorem b_c_head_New : zX Try.prog "roundhouse/head.New" = some zhp := by kernel_rfl
theorem b_c_plane_New : zX Try.prog "roundhouse/plane.New" = some zgh := by kernel_rfl
theorem b_c_yard_New : zX Try.prog "roundhouse/yard.New" = some zhj := by kernel_rfl
theorem zef : zX Try.prog "(*roundhouse/yard.row[*roundhouse/yard.unit]).put" = some zbD := by kernel_rfl
theorem b_c_law6_Make : zX Try.prog "roundhouse/roundhouselaw6.Make" = some zeR := by kernel_rfl
theorem b_c_law5_Key : zX Try.prog "roundhouse/roundhouselaw5.Key" = some zho := by kernel_rfl
theorem zi0 : zX Try.prog "roundhouse/roundhouselaw6.Entry" = some zfm := by kernel_rfl
theorem ziI : zX Try.prog "roundhouse/roundhouselaw6.within" = some zeQ := by kernel_rfl
theorem ziX : zX Try.prog "roundhouse/roundhouseref6.Apply" = some zfj := by kernel_rfl
theorem ziW : zX Try.prog "roundhouse/roundhouseref6.Check" = some zfi := by kernel_rfl
theorem b_c_ref6_bad : zX Try.prog "roundhouse/roundhouseref6.bad" = some zhl := by kernel_rfl
theorem b_c_ref6_Held : zX Try.prog "roundhouse/roundhouseref6.Held" = some zgc := by kernel_rfl
theorem b_c_ref5_Next : zX Try.prog "roundhouse/roundhouseref5.Next" = some zge := by kernel_rfl
theorem zhK : zX Try.prog "roundhouse/roundhouselaw12.within" = some zdj := by kernel_rfl
theorem own : ownKnob Try.prog.godebug = none := by kernel_rfl
theorem laidOut : laidOutB Try.prog = true := by kernel_rfl
theorem lifted (os : Os) (started : os.Started) (H : Type) (enc : TypeId × Value → H) :
    ReturnsInHanded {} Try.checked os 7 .any (Rows.yardApartSpec.pre6 enc Try.prog Try.f7 Rows.yardApartRow.domain false) (Rows.yardApartSpec.post enc Try.prog Try.f7 false true false false) := by
  refine returnsInHanded_of_change_sized (C := Try.checked) own started (by kernel_rfl) Try.func7
    (ChangeSpec.witness6 (enc := enc) (C := Try.checked) false ⟨#[], #[.int .i64 0, .slice none 0 0], []⟩ 8 (by kernel_rfl) (by kernel_rfl) (by kernel_rfl) (by kernel_rfl)) ?_
  intro W base args ds gs before hval0 hW hcnd hsz0 _
  have hval : ∀ (j : Nat) t v, Try.f7.params[j]? = some t → args[j]? = some v → Value.okWide Try.prog W .any base t v := hval0
  have hW' := hW
  obtain ⟨p, q, hA0, hV, rfl, hfz, hnd⟩ := hW
  have hA : DataW.TrodAll enc Try.prog W 0 (fun _ => true) true Try.f7.params.toList args.toList ds p := hA0
  rw [Try.params7] at hA hval
  obtain ⟨v0, vs0, d0, ds0, p0, q0, hargs, rfl, rfl, h0, r0⟩ := trodAll_cons hA
  obtain ⟨v1, vs1, d1, ds1, p1, q1, rfl, rfl, rfl, h1, r1⟩ := trodAll_cons r0
  obtain ⟨rfl, rfl, rfl⟩ := trodAll_nil r1
  obtain rfl : args = #[v0, v1] := by cases args; simp_all
  obtain ⟨rfl, rfl⟩ := trodVars_none hV
  obtain ⟨a0, rfl, rfl, rfl, w0⟩ := open_int Try.underlying3 (hval 0 3 v0 rfl rfl) h0
  have k1 := h1
  have hv1 := (hval 1 22 v1 rfl rfl)
  obtain ⟨a1, len1, cap1, rfl⟩ := okWide_slice Try.underlying22 hv1
  have lt1 : ∀ x ∈ p1, x.block < W.heap.size := by obtain ⟨m, hm⟩ := k1; exact DataW.trod_lt m _ _ _ hm
  obtain ⟨o1, l1, rr1, hn1, hl1, hrel1, hmem1⟩ : ∃ (o : Option Nat) (l : List Int) (x : Option (Addr × List Value)), (o = none → l = []) ∧ (l.length : Int) ≤ 9223372036854775807 ∧ (x = (match o with | none => none | some _ => some (a1.getD ⟨0, 0, none⟩, ii l)) ∧ (match o with | none => a1 = none ∧ len1 = 0 ∧ cap1 = 0 | some c => a1 = some (a1.getD ⟨0, 0, none⟩) ∧ len1 = l.length ∧ cap1 = c)) ∧ (∀ a c, some (a, c) = x → RowAt W a c) := by
    obtain ⟨fuel, hf⟩ := h1
    rcases open_ints Try.underlying22 Try.underlying3 (by kernel_rfl) hf with ⟨hcs, _⟩ | ⟨x, l, c, zs, hcs, _, hl, hm, hz, _, hcell, hwz⟩
    · simp [Value.cells] at hcs
      obtain ⟨rfl, rfl, rfl⟩ := hcs
      exact ⟨none, [], none, fun _ => rfl, by decide, ⟨rfl, rfl, rfl, rfl⟩, fun a c q => by cases q⟩
    · simp [Value.cells] at hcs
      obtain ⟨rfl, rfl, rfl⟩ := hcs
      have hlen : zs.length = cap1 := by simpa using hz
      have hlm : (zs.take len1).length = len1 := by simp; omega
      refine ⟨some cap1, zs.take len1, some (x, ii (zs.take len1)), (fun q => by cases q), by rw [hlm]; unfold maxLen at hm; omega, ⟨rfl, rfl, hlm.symm, rfl⟩, ?_⟩
      rintro a c q; cases q
      refine RowAt.of (okSlice_block Try.underlying22 hv1) (fun j v hj => ?_) (zbd _)
      simp only [ii, List.getElem?_map, Option.map_eq_some_iff] at hj
      obtain ⟨y, hy, rfl⟩ := hj
      rw [List.getElem?_take] at hy
      split at hy
      · have hjz := zJ hy
        rw [hcell j hjz]; simp [List.getD, hy]
      · cases hy
  clear hA0 hval0 hsz0
  have hC := YardApartC (P := Try.prog) zgn ziJ b_c_ref6_New b_c_ref6_out b_c_ref5_Ring zgj zgO zgT zgM zgR zfr b_c_pool_All ziZ b_c_pool_may b_c_pool_held b_c_pool_fits ziY ziH ziK zgN zgS zhq zfs zeg zgP zes zea zfo zer zeT zgk zfq zfp zgo zgL zfn zgK zfT zdQ ziV ziU b_c_sip_Words b_c_sip_Of zgm zgQ zfS zgl zeh b_c_head_New b_c_plane_New b_c_yard_New zef b_c_law6_Make b_c_law5_Key zi0 ziI ziX ziW b_c_ref6_bad b_c_ref6_Held b_c_ref5_Next zhK a0 o1 l1 hn1 hl1
  have main : Calls Try.prog 7 #[.int .i64 a0, .slice a1 len1 cap1] W fun e W' => e = .returned (.bool true) ∧ Below W.heap.size W W' := by
    refine Env.law Try.func7 rfl (args := [.int .i64 a0, inV o1 0 l1.length]) (r := [rr1]) ?_ ?_ ?_
    · skip
      have hb : Rows.blks [rr1] = [inB o1 (ii l1)] := by
        rw [hrel1.1]
        cases o1 <;> rfl
      rw [hb]; exact hC
    · intro a c hx
      simp only [List.mem_cons, List.not_mem_nil, or_false] at hx
      exact hmem1 a c hx
    · have hv_1 : VR (Rows.phi [rr1]) (inV o1 0 l1.length) (.slice a1 len1 cap1) := by
        obtain ⟨hx, hy⟩ := hrel1
        cases o1 with
        | none => obtain ⟨e1, e2, e3⟩ := hy; rw [e1, e2, e3]; exact VR.pl rfl
        | some c => obtain ⟨e1, e2, e3⟩ := hy; rw [e1, e2, e3]; exact VR.in_ (c := ii l1) (by rw [hx]; rfl) (hmem1 _ _ hx.symm).spot
      exact ⟨VR.pl rfl, ⟨hv_1, trivial⟩⟩
  refine main.mono fun e W' ⟨he, bel⟩ => ?_
  subst he
  exact ⟨_, rfl, _, _, _, [], _, [], hW', trodAll_mk1 (shut_bool Try.underlying4 _), (trodAll_cons_mk (shut_int Try.underlying3 w0) (trodAll_cons_mk (Below.trod laidOut (by kernel_rfl) (of_decide_eq_true (by kernel_rfl)) k1 bel lt1) trodAll_mk0)), rfl, bel.frame _, fun h => by cases h⟩
theorem zeB : Rows.yardApartRow.holds Try.pinned (OpenSpec.ofChange Rows.yardApartSpec) :=
  OpenClaim.holds_of_wide 7 Try.f7 rfl rfl rfl rfl rfl rfl rfl ⟨rfl, rfl, rfl, rfl, rfl⟩ rfl rfl rfl rfl rfl (by kernel_rfl) Try.func7 (by kernel_rfl)
    (of_decide_eq_true (by kernel_rfl)) (by unfold Func.isWrapper; first | (rw [if_pos (by decide +kernel)]; kernel_rfl) | (rw [if_neg (by decide +kernel)]; exact ⟨rfl, rfl⟩))
    (fun os started H enc _ => lifted os started H enc)
theorem proved : Rows.YardApartSaid := zeB
#print axioms proved
end Go.Proofs.Ytonnmmemnjnjbaa.yardApart
namespace Go.Proofs.Ytonnmmemnjnjbaa
/-- The row, under a short name, for the claim. -/
theorem yardApart_holds : Rows.YardApartSaid := yardApart.proved
end Go.Proofs.Ytonnmmemnjnjbaa
