/- The statement PlaneNears: for every input the law answers true and zeU what it was handed as it was. Conditions: none. -/
import Derived.Test.YtcgficakdfdepaaRows
import Derived.Test.YtcgficakdfdepaaChecked
import Derived.Test.YtcgficakdfdepaaQPlaneNearsc
import Derived.Test.YtcgficakdfdepaaQPlaneNearsg
import Derived.WalkKit
import Derived.ProofKit
import Derived.OpenShut
import Derived.ShutString
import Derived.ChangeOld
import Derived.Below
import Derived.SizedLaws
import Derived.ChangeSlices
import Derived.KernelRfl
namespace Go.Proofs.Ytcgficakdfdepaa.planeNears
open Go.ChangeShapes Go.WideShapes Go.ChangeAt Go.RowKit Go.Rh
open Go.ChangeMaps (open_string shut_string)
set_option linter.unusedVariables false
set_option maxRecDepth 100000
set_option maxHeartbeats 4000000
instance prc:PrC Try.prog:=⟨by kernel_rfl,by kernel_rfl,by kernel_rfl,by kernel_rfl,by kernel_rfl,by kernel_rfl,by kernel_rfl,by kernel_rfl,by kernel_rfl,by kernel_rfl,by kernel_rfl,by kernel_rfl,by kernel_rfl,by kernel_rfl,by kernel_rfl,by kernel_rfl,by kernel_rfl,by kernel_rfl,by kernel_rfl,by kernel_rfl,by kernel_rfl,by kernel_rfl,by kernel_rfl,by kernel_rfl,by kernel_rfl,by kernel_rfl,by kernel_rfl,by kernel_rfl,by kernel_rfl,by kernel_rfl,by kernel_rfl,by kernel_rfl,by kernel_rfl,by kernel_rfl,by kernel_rfl,by kernel_rfl,by kernel_rfl,by kernel_rfl,by kernel_rfl,by kernel_rfl,by kernel_rfl,by kernel_rfl,by kernel_rfl,by kernel_rfl,by kernel_rfl,by kernel_rfl,by kernel_rfl,by kernel_rfl,by kernel_rfl,by kernel_rfl,by kernel_rfl,by kernel_rfl,by kernel_rfl,by kernel_rfl,by kernel_rfl,by kernel_rfl,by kernel_rfl,by kernel_rfl,by kernel_rfl,by kernel_rfl,by kernel_rfl,by kernel_rfl,by kernel_rfl,by kernel_rfl,by kernel_rfl,by kernel_rfl,by kernel_rfl,by kernel_rfl,by kernel_rfl,by kernel_rfl,by kernel_rfl,by kernel_rfl,by kernel_rfl,by kernel_rfl,by kernel_rfl,by kernel_rfl,by kernel_rfl,by kernel_rfl,by kernel_rfl,by kernel_rfl,by kernel_rfl,by kernel_rfl,by kernel_rfl,by kernel_rfl,by kernel_rfl,by kernel_rfl,by kernel_rfl,by kernel_rfl,by kernel_rfl,by kernel_rfl,by kernel_rfl,by kernel_rfl,by kernel_rfl,by kernel_rfl⟩
theorem own:ownKnob Try.prog.godebug=none:=by kernel_rfl
theorem laidOut:laidOutB Try.prog=true:=by kernel_rfl
theorem lifted (os:Os) (started:os.Started) (H:Type) (enc:TypeId×Value→H):
    ReturnsInHanded {} Try.checked os 4 .any (Rows.planeNearsSpec.pre6 enc Try.prog Try.f4 Rows.planeNearsRow.domain false) (Rows.planeNearsSpec.post enc Try.prog Try.f4 false true false false):=by
  refine returnsInHanded_of_change_sized (C:= Try.checked) own started (by kernel_rfl) Try.func4
    (ChangeSpec.witness6 (enc:=enc) (C:= Try.checked) false ⟨#[],#[.slice none 0 0,.int .i64 0,.slice none 0 0,.int .i64 0],[]⟩ 8 (by kernel_rfl) (by kernel_rfl) (by kernel_rfl) (by kernel_rfl)) ?_
  intro W base args ds gs before hval0 hW hcnd hsz0 _
  have hval: ∀(j:Nat) t v, Try.f4.params[j]? =some t→args[j]? =some v→Value.okWide Try.prog W .any base t v:=hval0
  have hW':=hW
  obtain ⟨p,q,hA0,hV,rfl,hfz,hnd⟩:=hW
  have hA:DataW.TrodAll enc Try.prog W 0 (fun _=>true) true Try.f4.params.toList args.toList ds p:=hA0
  rw [Try.params4] at hA hval
  obtain ⟨v0,vs0,d0,ds0,p0,q0,hargs,rfl,rfl,h0,r0⟩:=trodAll_cons hA
  obtain ⟨v1,vs1,d1,ds1,p1,q1,rfl,rfl,rfl,h1,r1⟩:=trodAll_cons r0
  obtain ⟨v2,vs2,d2,ds2,p2,q2,rfl,rfl,rfl,h2,r2⟩:=trodAll_cons r1
  obtain ⟨v3,vs3,d3,ds3,p3,q3,rfl,rfl,rfl,h3,r3⟩:=trodAll_cons r2
  obtain ⟨rfl,rfl,rfl⟩:=trodAll_nil r3
  obtain rfl:args= #[v0,v1,v2,v3]:=by cases args;simp_all
  obtain ⟨rfl,rfl⟩:=trodVars_none hV
  have k0:=h0
  have hv0:=(hval 0 22 v0 rfl rfl)
  obtain ⟨a0,len0,cap0,rfl⟩:=okWide_slice Try.underlying22 hv0
  have lt0: ∀x∈p0,x.block < W.heap.size:=by obtain ⟨m,hm⟩:=k0;exact DataW.trod_lt m _ _ _ hm
  obtain ⟨o0,l0,rr0,hn0,hl0,hrel0,hmem0⟩: ∃(o:Option Nat) (l:List Int) (x:Option (Addr×List Value)),(o=none→l= [])∧(l.length:Int)≤9223372036854775807∧(x=(match o with | none=>none | some _=>some (a0.getD ⟨0,0,none⟩,ii l))∧(match o with | none=>a0=none∧len0=0∧cap0=0 | some c=>a0=some (a0.getD ⟨0,0,none⟩)∧len0=l.length∧cap0=c))∧(∀a c,some (a,c)=x→RowAt W a c):=by
    obtain ⟨fuel,hf⟩:=h0
    rcases open_ints Try.underlying22 Try.underlying3 (by kernel_rfl) hf with ⟨hcs,_⟩ | ⟨x,l,c,zs,hcs,_,hl,hm,hz,_,hcell,hwz⟩
    · simp [Value.cells] at hcs
      obtain ⟨rfl,rfl,rfl⟩:=hcs
      exact ⟨none,[],none,fun _=>rfl,by decide,⟨rfl,rfl,rfl,rfl⟩,fun a c q=>by cases q⟩
    · simp [Value.cells] at hcs
      obtain ⟨rfl,rfl,rfl⟩:=hcs
      have hlen:zs.length=cap0:=by simpa using hz
      have hlm:(zs.take len0).length=len0:=by simp;omega
      refine ⟨some cap0,zs.take len0,some (x,ii (zs.take len0)),(fun q=>by cases q),by rw [hlm];unfold maxLen at hm;omega,⟨rfl,rfl,hlm.symm,rfl⟩, ?_⟩
      rintro a c q;cases q
      refine RowAt.of (zf8 Try.underlying22 hv0) (fun j v hj=>?_) (zay _)
      simp only [ii,List.getElem?_map,Option.map_eq_some_iff] at hj
      obtain ⟨y,hy,rfl⟩:=hj
      rw [List.getElem?_take] at hy
      split at hy
      · have hjz:=zZ hy
        rw [hcell j hjz];simp [List.getD,hy]
      · cases hy
  obtain ⟨a1,rfl,rfl,rfl,w1⟩:=open_int Try.underlying3 (hval 1 3 v1 rfl rfl) h1
  have k2:=h2
  have hv2:=(hval 2 51 v2 rfl rfl)
  obtain ⟨a2,len2,cap2,rfl⟩:=okWide_slice Try.underlying51 hv2
  have lt2: ∀x∈p2,x.block < W.heap.size:=by obtain ⟨m,hm⟩:=k2;exact DataW.trod_lt m _ _ _ hm
  obtain ⟨o2,l2,rr2,hn2,hl2,hrel2,hmem2,hu2⟩: ∃(o:Option Nat) (l:List Int) (x:Option (Addr×List Value)),(o=none→l= [])∧(l.length:Int)≤9223372036854775807∧(x=(match o with | none=>none | some _=>some (a2.getD ⟨0,0,none⟩,ui l))∧(match o with | none=>a2=none∧len2=0∧cap2=0 | some c=>a2=some (a2.getD ⟨0,0,none⟩)∧len2=l.length∧cap2=c))∧(∀a c,some (a,c)=x→RowAt W a c)∧(∀z∈l,0≤z∧z < 4294967296):=by
    obtain ⟨fuel,hf⟩:=h2
    rcases open_ints Try.underlying51 Try.underlying55 (by kernel_rfl) hf with ⟨hcs,_⟩ | ⟨x,l,c,zs,hcs,_,hl,hm,hz,_,hcell,hwz⟩
    · simp [Value.cells] at hcs
      obtain ⟨rfl,rfl,rfl⟩:=hcs
      exact ⟨none,[],none,fun _=>rfl,by decide,⟨rfl,rfl,rfl,rfl⟩,(fun a c q => by cases q),(fun z hz => by cases hz)⟩
    · simp [Value.cells] at hcs
      obtain ⟨rfl,rfl,rfl⟩:=hcs
      have hlen:zs.length=cap2:=by simpa using hz
      have hlm:(zs.take len2).length=len2:=by simp;omega
      refine ⟨some cap2,zs.take len2,some (x,ui (zs.take len2)),(fun q=>by cases q),by rw [hlm];unfold maxLen at hm;omega,⟨rfl,rfl,hlm.symm,rfl⟩, ?_,fun z hz => wf32 (hwz z (List.mem_of_mem_take hz))⟩
      rintro a c q;cases q
      refine RowAt.of (zf8 Try.underlying51 hv2) (fun j v hj=>?_) (zgU _)
      simp only [ui,List.getElem?_map,Option.map_eq_some_iff] at hj
      obtain ⟨y,hy,rfl⟩:=hj
      rw [List.getElem?_take] at hy
      split at hy
      · have hjz:=zZ hy
        rw [hcell j hjz];simp [List.getD,hy]
      · cases hy
  obtain ⟨a3,rfl,rfl,rfl,w3⟩:=open_int Try.underlying3 (hval 3 3 v3 rfl rfl) h3
  clear hA0 hval0 hsz0
  have hC:=PlaneNearsC (P:= Try.prog) o0 l0 hn0 hl0 a1 o2 l2 hn2 hl2 hu2 a3
  have main:Calls Try.prog 4 #[.slice a0 len0 cap0,.int .i64 a1,.slice a2 len2 cap2,.int .i64 a3] W fun e W'=>e= .returned (.bool true)∧Below W.heap.size W W':=by
    refine Env.law Try.func4 rfl (args:= [inV o0 0 l0.length,.int .i64 a1,inV o2 1 l2.length,.int .i64 a3]) (r:= [rr0,rr2]) ?_ ?_ ?_
    · skip
      have hb:Rows.blks [rr0,rr2]= [inB o0 (ii l0),inB o2 (ui l2)]:=by
        rw [hrel0.1]
        rw [hrel2.1]
        cases o0<;>cases o2<;>rfl
      rw [hb];exact hC
    · intro a c hx
      simp only [List.mem_cons,List.not_mem_nil,or_false] at hx
      rcases hx with hx | hx
      · exact hmem0 a c hx
      · exact hmem2 a c hx
    · have hv_0:VR (Rows.phi [rr0,rr2]) (inV o0 0 l0.length) (.slice a0 len0 cap0):=by
        obtain ⟨hx,hy⟩:=hrel0
        cases o0 with
        | none=>obtain ⟨e1,e2,e3⟩:=hy;rw [e1,e2,e3];exact VR.pl rfl
        | some c=>obtain ⟨e1,e2,e3⟩:=hy;rw [e1,e2,e3];exact VR.in_ (c:=ii l0) (by rw [hx];rfl) (hmem0 _ _ hx.symm).spot
      have hv_2:VR (Rows.phi [rr0,rr2]) (inV o2 1 l2.length) (.slice a2 len2 cap2):=by
        obtain ⟨hx,hy⟩:=hrel2
        cases o2 with
        | none=>obtain ⟨e1,e2,e3⟩:=hy;rw [e1,e2,e3];exact VR.pl rfl
        | some c=>obtain ⟨e1,e2,e3⟩:=hy;rw [e1,e2,e3];exact VR.in_ (c:=ui l2) (by rw [hx];rfl) (hmem2 _ _ hx.symm).spot
      exact ⟨hv_0,VR.pl rfl,hv_2,VR.pl rfl,trivial⟩
  refine main.mono fun e W' ⟨he,bel⟩=>?_
  subst he
  exact ⟨_,rfl,_,_,_,[],_,[],hW',trodAll_mk1 (shut_bool Try.underlying4 _),(trodAll_cons_mk (Below.trod laidOut (by kernel_rfl) (of_decide_eq_true (by kernel_rfl)) k0 bel lt0) (trodAll_cons_mk (shut_int Try.underlying3 w1) (trodAll_cons_mk (Below.trod laidOut (by kernel_rfl) (of_decide_eq_true (by kernel_rfl)) k2 bel lt2) (trodAll_cons_mk (shut_int Try.underlying3 w3) trodAll_mk0)))),rfl,bel.frame _,fun h=>by cases h⟩
theorem zch:Rows.planeNearsRow.holds Try.pinned (OpenSpec.ofChange Rows.planeNearsSpec):=
  OpenClaim.holds_of_wide 4 Try.f4 rfl rfl rfl rfl rfl rfl rfl ⟨rfl,rfl,rfl,rfl,rfl⟩ rfl rfl rfl rfl rfl (by kernel_rfl) Try.func4 (by kernel_rfl)
    (of_decide_eq_true (by kernel_rfl)) (by unfold Func.isWrapper;first | (rw [if_pos (by decide+kernel)];kernel_rfl) | (rw [if_neg (by decide+kernel)];exact ⟨rfl,rfl⟩))
    (fun os started H enc _=>lifted os started H enc)
theorem proved:Rows.PlaneNearsSaid:=zch
#print axioms proved
end Go.Proofs.Ytcgficakdfdepaa.planeNears
namespace Go.Proofs.Ytcgficakdfdepaa
/-- The row, under a short name, for the claim. -/
theorem planeNears_holds:Rows.PlaneNearsSaid:=planeNears.proved
end Go.Proofs.Ytcgficakdfdepaa
