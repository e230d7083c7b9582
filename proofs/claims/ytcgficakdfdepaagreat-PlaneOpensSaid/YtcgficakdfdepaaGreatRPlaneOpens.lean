/- The statement PlaneOpens: for every input the law answers true and ze7 what it was handed as it was. Conditions: none. -/
import Derived.Test.YtcgficakdfdepaaGreatRows
import Derived.Test.YtcgficakdfdepaaGreatChecked
import Derived.Test.YtcgficakdfdepaaGreatQPlaneOpensc
import Derived.Test.YtcgficakdfdepaaGreatQPlaneOpensg
import Derived.WalkKit
import Derived.ProofKit
import Derived.OpenShut
import Derived.ShutString
import Derived.ChangeOld
import Derived.Below
import Derived.SizedLaws
import Derived.ChangeSlices
import Derived.KernelRfl
namespace Go.Proofs.YtcgficakdfdepaaGreat.planeOpens
open Go.ChangeShapes Go.WideShapes Go.ChangeAt Go.RowKit Go.Rh
open Go.ChangeMaps (open_string shut_string)
set_option linter.unusedVariables false
set_option maxRecDepth 100000
set_option maxHeartbeats 4000000
instance prc:PrC Tryz.prog:=⟨by kernel_rfl,by kernel_rfl,by kernel_rfl,by kernel_rfl,by kernel_rfl,by kernel_rfl,by kernel_rfl,by kernel_rfl,by kernel_rfl,by kernel_rfl,by kernel_rfl,by kernel_rfl,by kernel_rfl,by kernel_rfl,by kernel_rfl,by kernel_rfl,by kernel_rfl,by kernel_rfl,by kernel_rfl,by kernel_rfl,by kernel_rfl,by kernel_rfl,by kernel_rfl,by kernel_rfl,by kernel_rfl,by kernel_rfl,by kernel_rfl,by kernel_rfl,by kernel_rfl,by kernel_rfl,by kernel_rfl,by kernel_rfl,by kernel_rfl,by kernel_rfl,by kernel_rfl,by kernel_rfl,by kernel_rfl,by kernel_rfl,by kernel_rfl,by kernel_rfl,by kernel_rfl,by kernel_rfl,by kernel_rfl,by kernel_rfl,by kernel_rfl,by kernel_rfl,by kernel_rfl,by kernel_rfl,by kernel_rfl,by kernel_rfl,by kernel_rfl,by kernel_rfl,by kernel_rfl,by kernel_rfl,by kernel_rfl,by kernel_rfl,by kernel_rfl,by kernel_rfl,by kernel_rfl,by kernel_rfl,by kernel_rfl,by kernel_rfl,by kernel_rfl,by kernel_rfl,by kernel_rfl,by kernel_rfl,by kernel_rfl,by kernel_rfl,by kernel_rfl,by kernel_rfl,by kernel_rfl,by kernel_rfl,by kernel_rfl,by kernel_rfl,by kernel_rfl,by kernel_rfl,by kernel_rfl,by kernel_rfl,by kernel_rfl,by kernel_rfl,by kernel_rfl,by kernel_rfl,by kernel_rfl,by kernel_rfl,by kernel_rfl,by kernel_rfl,by kernel_rfl,by kernel_rfl,by kernel_rfl,by kernel_rfl,by kernel_rfl,by kernel_rfl,by kernel_rfl,by kernel_rfl,by kernel_rfl,by kernel_rfl,by kernel_rfl,by kernel_rfl,by kernel_rfl,by kernel_rfl,by kernel_rfl,by kernel_rfl,by kernel_rfl,by kernel_rfl,by kernel_rfl,by kernel_rfl,by kernel_rfl,by kernel_rfl,by kernel_rfl⟩
theorem own:ownKnob Tryz.prog.godebug=none:=by kernel_rfl
theorem laidOut:laidOutB Tryz.prog=true:=by kernel_rfl
theorem lifted (os:Os) (started:os.Started) (H:Type) (enc:TypeId×Value→H):
    ReturnsInHanded {} Tryz.checked os 8 .any (Rows.planeOpensSpec.pre6 enc Tryz.prog Tryz.f8 Rows.planeOpensRow.domain false) (Rows.planeOpensSpec.post enc Tryz.prog Tryz.f8 false true false false):=by
  refine returnsInHanded_of_change_sized (C:= Tryz.checked) own started (by kernel_rfl) Tryz.func8
    (ChangeSpec.witness6 (enc:=enc) (C:= Tryz.checked) false ⟨#[],#[.slice none 0 0,.int .i64 0,.int .i64 0,.int .i64 0,.int .i64 0],[]⟩ 8 (by kernel_rfl) (by kernel_rfl) (by kernel_rfl) (by kernel_rfl)) ?_
  intro W base args ds gs before hval0 hW hcnd hsz0 _
  have hval: ∀(j:Nat) t v, Tryz.f8.params[j]? =some t→args[j]? =some v→Value.okWide Tryz.prog W .any base t v:=hval0
  have hW':=hW
  obtain ⟨p,q,hA0,hV,rfl,hfz,hnd⟩:=hW
  have hA:DataW.TrodAll enc Tryz.prog W 0 (fun _=>true) true Tryz.f8.params.toList args.toList ds p:=hA0
  rw [Tryz.params8] at hA hval
  obtain ⟨v0,vs0,d0,ds0,p0,q0,hargs,rfl,rfl,h0,r0⟩:=trodAll_cons hA
  obtain ⟨v1,vs1,d1,ds1,p1,q1,rfl,rfl,rfl,h1,r1⟩:=trodAll_cons r0
  obtain ⟨v2,vs2,d2,ds2,p2,q2,rfl,rfl,rfl,h2,r2⟩:=trodAll_cons r1
  obtain ⟨v3,vs3,d3,ds3,p3,q3,rfl,rfl,rfl,h3,r3⟩:=trodAll_cons r2
  obtain ⟨v4,vs4,d4,ds4,p4,q4,rfl,rfl,rfl,h4,r4⟩:=trodAll_cons r3
  obtain ⟨rfl,rfl,rfl⟩:=trodAll_nil r4
  obtain rfl:args= #[v0,v1,v2,v3,v4]:=by cases args;simp_all
  obtain ⟨rfl,rfl⟩:=trodVars_none hV
  have k0:=h0
  have hv0:=(hval 0 22 v0 rfl rfl)
  obtain ⟨a0,len0,cap0,rfl⟩:=okWide_slice Tryz.underlying22 hv0
  have lt0: ∀x∈p0,x.block < W.heap.size:=by obtain ⟨m,hm⟩:=k0;exact DataW.trod_lt m _ _ _ hm
  obtain ⟨o0,l0,rr0,hn0,hl0,hrel0,hmem0⟩: ∃(o:Option Nat) (l:List Int) (x:Option (Addr×List Value)),(o=none→l= [])∧(l.length:Int)≤9223372036854775807∧(x=(match o with | none=>none | some _=>some (a0.getD ⟨0,0,none⟩,ii l))∧(match o with | none=>a0=none∧len0=0∧cap0=0 | some c=>a0=some (a0.getD ⟨0,0,none⟩)∧len0=l.length∧cap0=c))∧(∀a c,some (a,c)=x→RowAt W a c):=by
    obtain ⟨fuel,hf⟩:=h0
    rcases open_ints Tryz.underlying22 Tryz.underlying3 (by kernel_rfl) hf with ⟨hcs,_⟩ | ⟨x,l,c,zs,hcs,_,hl,hm,hz,_,hcell,hwz⟩
    · simp [Value.cells] at hcs
      obtain ⟨rfl,rfl,rfl⟩:=hcs
      exact ⟨none,[],none,fun _=>rfl,by decide,⟨rfl,rfl,rfl,rfl⟩,(fun a c q=>by cases q)⟩
    · simp [Value.cells] at hcs
      obtain ⟨rfl,rfl,rfl⟩:=hcs
      have hlen:zs.length=cap0:=by simpa using hz
      have hlm:(zs.take len0).length=len0:=by simp;omega
      refine ⟨some cap0,zs.take len0,some (x,ii (zs.take len0)),(fun q=>by cases q),by rw [hlm];unfold maxLen at hm;omega,⟨rfl,rfl,hlm.symm,rfl⟩, ?_⟩
      rintro a c q;cases q
      refine RowAt.of (okSlice_block Tryz.underlying22 hv0) (fun j v hj=>?_) (qS _)
      simp only [ii,List.getElem?_map,Option.map_eq_some_iff] at hj
      obtain ⟨y,hy,rfl⟩:=hj
      rw [List.getElem?_take] at hy
      split at hy
      · have hjz:=z6 hy
        rw [hcell j hjz];simp [List.getD,hy]
      · cases hy
  obtain ⟨a1,rfl,rfl,rfl,w1⟩:=open_int Tryz.underlying3 (hval 1 3 v1 rfl rfl) h1
  obtain ⟨a2,rfl,rfl,rfl,w2⟩:=open_int Tryz.underlying3 (hval 2 3 v2 rfl rfl) h2
  obtain ⟨a3,rfl,rfl,rfl,w3⟩:=open_int Tryz.underlying3 (hval 3 3 v3 rfl rfl) h3
  obtain ⟨a4,rfl,rfl,rfl,w4⟩:=open_int Tryz.underlying3 (hval 4 3 v4 rfl rfl) h4
  clear hA0 hval0 hsz0
  have hC:=PlaneOpensC (P:= Tryz.prog) o0 l0 hn0 hl0 a1 a2 a3 a4
  have main:Calls Tryz.prog 8 #[.slice a0 len0 cap0,.int .i64 a1,.int .i64 a2,.int .i64 a3,.int .i64 a4] W fun e W'=>e= .returned (.bool true)∧Below W.heap.size W W':=by
    refine Env.law Tryz.func8 rfl (args:= [inV o0 0 l0.length,.int .i64 a1,.int .i64 a2,.int .i64 a3,.int .i64 a4]) (r:= [rr0]) ?_ ?_ ?_
    · skip
      have hb:Rows.blks [rr0]= [inB o0 (ii l0)]:=by
        rw [hrel0.1]
        cases o0<;>rfl
      rw [hb];exact hC
    · intro a c hx
      simp only [List.mem_cons,List.not_mem_nil,or_false] at hx
      exact hmem0 a c hx
    · have hv_0:VR (Rows.phi [rr0]) (inV o0 0 l0.length) (.slice a0 len0 cap0):=by
        obtain ⟨hx,hy⟩:=hrel0
        cases o0 with
        | none=>obtain ⟨e1,e2,e3⟩:=hy;rw [e1,e2,e3];exact VR.pl rfl
        | some c=>obtain ⟨e1,e2,e3⟩:=hy;rw [e1,e2,e3];exact VR.in_ (c:=ii l0) (by rw [hx];rfl) (hmem0 _ _ hx.symm).spot
      exact ⟨hv_0,VR.pl rfl,VR.pl rfl,VR.pl rfl,VR.pl rfl,trivial⟩
  refine main.mono fun e W' ⟨he,bel⟩=>?_
  subst he
  exact ⟨_,rfl,_,_,_,[],_,[],hW',trodAll_mk1 (shut_bool Tryz.underlying4 _),(trodAll_cons_mk (Below.trod laidOut (by kernel_rfl) (of_decide_eq_true (by kernel_rfl)) k0 bel lt0) (trodAll_cons_mk (shut_int Tryz.underlying3 w1) (trodAll_cons_mk (shut_int Tryz.underlying3 w2) (trodAll_cons_mk (shut_int Tryz.underlying3 w3) (trodAll_cons_mk (shut_int Tryz.underlying3 w4) trodAll_mk0))))),rfl,bel.frame _,fun h=>by cases h⟩
theorem zcl:Rows.planeOpensRow.holds Tryz.pinned (OpenSpec.ofChange Rows.planeOpensSpec):=
  OpenClaim.holds_of_wide 8 Tryz.f8 rfl rfl rfl rfl rfl rfl rfl ⟨rfl,rfl,rfl,rfl,rfl⟩ rfl rfl rfl rfl rfl (by kernel_rfl) Tryz.func8 (by kernel_rfl)
    (of_decide_eq_true (by kernel_rfl)) (by unfold Func.isWrapper;first | (rw [if_pos (by decide+kernel)];kernel_rfl) | (rw [if_neg (by decide+kernel)];exact ⟨rfl,rfl⟩))
    (fun os started H enc _=>lifted os started H enc)
theorem proved:Rows.PlaneOpensSaid:=zcl
#print axioms proved
end Go.Proofs.YtcgficakdfdepaaGreat.planeOpens
namespace Go.Proofs.YtcgficakdfdepaaGreat
/-- The row, under a short name, for the claim. -/
theorem planeOpens_holds:Rows.PlaneOpensSaid:=planeOpens.proved
end Go.Proofs.YtcgficakdfdepaaGreat
