/- The statement PlaneShut: for every input the law answers true and zfk what it was handed as it was. Conditions: none. -/
import Derived.Test.YtcgficakdfdepaaGreatRows
import Derived.Test.YtcgficakdfdepaaGreatChecked
import Derived.Test.YtcgficakdfdepaaGreatQPlaneShutc
import Derived.Test.YtcgficakdfdepaaGreatQPlaneShutg
import Derived.WalkKit
import Derived.ProofKit
import Derived.OpenShut
import Derived.ShutString
import Derived.ChangeOld
import Derived.Below
import Derived.SizedLaws
import Derived.ChangeSlices
import Derived.KernelRfl
namespace Go.Proofs.YtcgficakdfdepaaGreat.planeShut
open Go.ChangeShapes Go.WideShapes Go.ChangeAt Go.RowKit Go.Rh
open Go.ChangeMaps (open_string shut_string)
set_option linter.unusedVariables false
set_option maxRecDepth 100000
set_option maxHeartbeats 4000000
theorem zhs:zU Tryz.prog "roundhouse/roundhouselaw9.PlaneShut" =some zda:=by kernel_rfl
theorem zkb:zU Tryz.prog "roundhouse/roundhouselaw9.known" =some zfF:=by kernel_rfl
theorem b_c_plane_New:zU Tryz.prog "roundhouse/plane.New" =some zgS:=by kernel_rfl
theorem zgh:zU Tryz.prog "(*roundhouse/plane.Plane).Take" =some zbS:=by kernel_rfl
theorem zj9:zU Tryz.prog "roundhouse/plane.drop" =some zfD:=by kernel_rfl
theorem zjY:zU Tryz.prog "roundhouse/wire.Parse" =some zft:=by kernel_rfl
theorem b_c_wire_head:zU Tryz.prog "roundhouse/wire.head" =some zgG:=by kernel_rfl
theorem zjU:zU Tryz.prog "roundhouse/wire.known" =some zfq:=by kernel_rfl
theorem b_c_wire_get:zU Tryz.prog "roundhouse/wire.get" =some zhS:=by kernel_rfl
theorem b_c_sum_Right:zU Tryz.prog "roundhouse/sum.Right" =some zgH:=by kernel_rfl
theorem b_c_sum_Add:zU Tryz.prog "roundhouse/sum.Add" =some zjt:=by kernel_rfl
theorem b_c_sum_Plus:zU Tryz.prog "roundhouse/sum.Plus" =some zhW:=by kernel_rfl
theorem zjV:zU Tryz.prog "roundhouse/wire.clone" =some zfr:=by kernel_rfl
theorem b_c_wire_Age:zU Tryz.prog "roundhouse/wire.Age" =some zhU:=by kernel_rfl
theorem zjW:zU Tryz.prog "roundhouse/wire.begin" =some zfs:=by kernel_rfl
theorem zgb:zU Tryz.prog "(*roundhouse/wire.turner).turn" =some zcv:=by kernel_rfl
theorem b_c_wire_pair:zU Tryz.prog "roundhouse/wire.pair" =some zgF:=by kernel_rfl
theorem b_c_sum_Turn:zU Tryz.prog "roundhouse/sum.Turn" =some zhV:=by kernel_rfl
theorem b_c_wire_put:zU Tryz.prog "roundhouse/wire.put" =some zhR:=by kernel_rfl
theorem zgc:zU Tryz.prog "(*roundhouse/wire.turner).done" =some zcw:=by kernel_rfl
theorem zfM:zU Tryz.prog "(*roundhouse/plane.packet).then" =some zci:=by kernel_rfl
theorem zgZ:zU Tryz.prog "(*roundhouse/plane.packet).in" =some zcS:=by kernel_rfl
theorem zeg:zU Tryz.prog "(*roundhouse/plane.packet).carried" =some zbO:=by kernel_rfl
theorem zka:zU Tryz.prog "roundhouse/opts.Stamp" =some zfE:=by kernel_rfl
theorem b_c_opts_Walk:zU Tryz.prog "roundhouse/opts.Walk" =some zgT:=by kernel_rfl
theorem zcD:zU Tryz.prog "slices.Clip[[]roundhouse/opts.Opt,roundhouse/opts.Opt]" =some zaU:=by kernel_rfl
theorem zeY:zU Tryz.prog "roundhouse/opts.find[roundhouse/opts.Opt]" =some zb5:=by kernel_rfl
theorem zb3:zU Tryz.prog "slices.IndexFunc[[]roundhouse/opts.Opt,roundhouse/opts.Opt]" =some zaz:=by kernel_rfl
theorem zio:zU Tryz.prog "roundhouse/opts.Stamp$1" =some zdZ:=by kernel_rfl
theorem zjF:zU Tryz.prog "roundhouse/opts.number" =some zeB:=by kernel_rfl
theorem zkh:zU Tryz.prog "roundhouse/cookie.Get" =some zfL:=by kernel_rfl
theorem zjK:zU Tryz.prog "roundhouse/cookie.Read" =some zeG:=by kernel_rfl
theorem zht:zU Tryz.prog "roundhouse/cookie.tagBits" =some zcb:=by kernel_rfl
theorem zkg:zU Tryz.prog "roundhouse/cookie.Key" =some zfK:=by kernel_rfl
theorem zdC:zU Tryz.prog "(roundhouse/cookie.three[roundhouse/api.Key]).at" =some zbr:=by kernel_rfl
theorem zjJ:zU Tryz.prog "roundhouse/cookie.turn" =some zeF:=by kernel_rfl
theorem zjI:zU Tryz.prog "roundhouse/cookie.veil" =some zeE:=by kernel_rfl
theorem zke:zU Tryz.prog "roundhouse/cookie.sum" =some zfI:=by kernel_rfl
theorem b_c_sip_Words:zU Tryz.prog "roundhouse/sip.Words" =some zgI:=by kernel_rfl
theorem b_c_sip_Of:zU Tryz.prog "roundhouse/sip.Of" =some c_sip_Of:=by kernel_rfl
theorem zgY:zU Tryz.prog "roundhouse/sip.number[[]byte]" =some zcR:=by kernel_rfl
theorem zhq:zU Tryz.prog "(*roundhouse/sip.state).take" =some zc8:=by kernel_rfl
theorem zge:zU Tryz.prog "(*roundhouse/sip.state).rounds" =some zcy:=by kernel_rfl
theorem zgX:zU Tryz.prog "(*roundhouse/sip.state).round" =some zcQ:=by kernel_rfl
theorem zdJ:zU Tryz.prog "math/bits.RotateLeft64" =some zal:=by kernel_rfl
theorem zkd:zU Tryz.prog "roundhouse/cookie.tag" =some zfH:=by kernel_rfl
theorem zj8:zU Tryz.prog "roundhouse/pool.Takes" =some zfC:=by kernel_rfl
theorem b_c_pool_may:zU Tryz.prog "roundhouse/pool.may" =some zh4:=by kernel_rfl
theorem zj0:zU Tryz.prog "roundhouse/wheel.Pick" =some zfu:=by kernel_rfl
theorem zjZ:zU Tryz.prog "roundhouse/wheel.spun" =some zdR:=by kernel_rfl
theorem b_c_wire_Nat:zU Tryz.prog "roundhouse/wire.Nat" =some zhT:=by kernel_rfl
theorem zjD:zU Tryz.prog "roundhouse/wire.within" =some zey:=by kernel_rfl
theorem zgd:zU Tryz.prog "(*roundhouse/wire.turner).body" =some zcx:=by kernel_rfl
theorem zh8:zU Tryz.prog "roundhouse/wire.sumPlace" =some zdB:=by kernel_rfl
theorem zjX:zU Tryz.prog "roundhouse/wire.Write" =some zdQ:=by kernel_rfl
theorem zjM:zU Tryz.prog "roundhouse/cookie.Back" =some zeI:=by kernel_rfl
theorem b_c_opts_Far:zU Tryz.prog "roundhouse/opts.Far" =some zh5:=by kernel_rfl
theorem zgi:zU Tryz.prog "(*roundhouse/plane.Plane).Near" =some zcB:=by kernel_rfl
theorem b_c_pool_Find:zU Tryz.prog "roundhouse/pool.Find" =some zgR:=by kernel_rfl
theorem zgg:zU Tryz.prog "(*roundhouse/plane.packet).out" =some zcA:=by kernel_rfl
theorem zjL:zU Tryz.prog "roundhouse/cookie.Make" =some zeH:=by kernel_rfl
theorem zeK:zU Tryz.prog "(roundhouse/cookie.parts).number" =some zbW:=by kernel_rfl
theorem zkf:zU Tryz.prog "roundhouse/cookie.Put" =some zfJ:=by kernel_rfl
theorem zdI:zU Tryz.prog "(*roundhouse/plane.maybe[uint32]).lay" =some zby:=by kernel_rfl
theorem b_c_law6_Make:zU Tryz.prog "roundhouse/roundhouselaw6.Make" =some zgU:=by kernel_rfl
theorem b_c_law5_Key:zU Tryz.prog "roundhouse/roundhouselaw5.Key" =some zh6:=by kernel_rfl
theorem b_c_ref6_New:zU Tryz.prog "roundhouse/roundhouseref6.New" =some zhZ:=by kernel_rfl
theorem b_c_ref6_out:zU Tryz.prog "roundhouse/roundhouseref6.out" =some zhX:=by kernel_rfl
theorem b_c_ref5_Ring:zU Tryz.prog "roundhouse/roundhouseref5.Ring" =some zgN:=by kernel_rfl
theorem zkc:zU Tryz.prog "roundhouse/roundhouselaw6.Entry" =some zfG:=by kernel_rfl
theorem zjH:zU Tryz.prog "roundhouse/roundhouselaw6.within" =some zeD:=by kernel_rfl
theorem zj4:zU Tryz.prog "roundhouse/roundhouseref6.Apply" =some zfy:=by kernel_rfl
theorem zj3:zU Tryz.prog "roundhouse/roundhouseref6.Check" =some zfx:=by kernel_rfl
theorem b_c_ref6_bad:zU Tryz.prog "roundhouse/roundhouseref6.bad" =some zhY:=by kernel_rfl
theorem b_c_ref6_Held:zU Tryz.prog "roundhouse/roundhouseref6.Held" =some zgJ:=by kernel_rfl
theorem b_c_ref5_Next:zU Tryz.prog "roundhouse/roundhouseref5.Next" =some zgO:=by kernel_rfl
theorem zgj:zU Tryz.prog "(*roundhouse/plane.Plane).Load" =some zcC:=by kernel_rfl
theorem zdl:zU Tryz.prog "(*roundhouse/plane.maybe[roundhouse/api.Pool]).lay" =some zbh:=by kernel_rfl
theorem zj1:zU Tryz.prog "roundhouse/wheel.Make" =some zfv:=by kernel_rfl
theorem zeJ:zU Tryz.prog "(*roundhouse/plane.Plane).Version" =some zbV:=by kernel_rfl
theorem zj6:zU Tryz.prog "roundhouse/roundhouseref3.Build" =some zfA:=by kernel_rfl
theorem b_c_ref3_out:zU Tryz.prog "roundhouse/roundhouseref3.out" =some zh1:=by kernel_rfl
theorem b_c_ref3_put:zU Tryz.prog "roundhouse/roundhouseref3.put" =some zh0:=by kernel_rfl
theorem b_c_ref1_Of:zU Tryz.prog "roundhouse/roundhouseref1.Of" =some zjv:=by kernel_rfl
theorem b_c_ref1_Add:zU Tryz.prog "roundhouse/roundhouseref1.Add" =some zh3:=by kernel_rfl
theorem b_c_ref1_Plus:zU Tryz.prog "roundhouse/roundhouseref1.Plus" =some zgQ:=by kernel_rfl
theorem zjE:zU Tryz.prog "roundhouse/roundhouseref3.summed" =some zeA:=by kernel_rfl
theorem zj5:zU Tryz.prog "roundhouse/roundhouseref3.place" =some zfz:=by kernel_rfl
theorem zfN:zU Tryz.prog "(*roundhouse/plane.Plane).Crash" =some zcj:=by kernel_rfl
theorem zjG:zU Tryz.prog "roundhouse/roundhouselaw9.within" =some zeC:=by kernel_rfl
theorem zj2:zU Tryz.prog "roundhouse/roundhouseref6.Takes" =some zfw:=by kernel_rfl
theorem b_c_ref5_Make:zU Tryz.prog "roundhouse/roundhouseref5.Make" =some zgP:=by kernel_rfl
theorem b_c_ref5_four:zU Tryz.prog "roundhouse/roundhouseref5.four" =some zgL:=by kernel_rfl
theorem b_c_ref5_cook:zU Tryz.prog "roundhouse/roundhouseref5.cook" =some zgM:=by kernel_rfl
theorem b_c_ref5_bits:zU Tryz.prog "roundhouse/roundhouseref5.bits" =some zez:=by kernel_rfl
theorem b_c_ref5_word:zU Tryz.prog "roundhouse/roundhouseref5.word" =some zgK:=by kernel_rfl
theorem zj7:zU Tryz.prog "roundhouse/roundhouseref2.Words" =some zfB:=by kernel_rfl
theorem b_c_ref2_Of:zU Tryz.prog "roundhouse/roundhouseref2.Of" =some zju:=by kernel_rfl
theorem b_c_ref2_low:zU Tryz.prog "roundhouse/roundhouseref2.low" =some zh2:=by kernel_rfl
theorem zhr:zU Tryz.prog "(*roundhouse/roundhouseref2.state).eat" =some zc9:=by kernel_rfl
theorem zgf:zU Tryz.prog "(*roundhouse/roundhouseref2.state).round" =some zcz:=by kernel_rfl
theorem b_c_ref2_left:zU Tryz.prog "roundhouse/roundhouseref2.left" =some zch:=by kernel_rfl
theorem b_c_law9_up:zU Tryz.prog "roundhouse/roundhouselaw9.up" =some zjw:=by kernel_rfl
instance prc:PrC Tryz.prog:=⟨b_c_pool_may,b_c_sum_Plus,b_c_ref1_Plus,b_c_sum_Add,b_c_ref1_Add,b_c_ref1_Of,b_c_sum_Right,b_c_sum_Turn,b_c_wire_get,b_c_wire_put,b_c_ref3_put,zh8,zj5,zjU,zjD,b_c_ref3_out,b_c_wire_pair,zjV,b_c_wire_head,zjY,zjW,zgb,zgd,zgc,b_c_wire_Age,b_c_wire_Nat,zjX,zdJ,b_c_ref2_left,zgX,zgf,zge,zhq,zhr,zgY,b_c_ref2_low,b_c_sip_Of,b_c_ref2_Of,b_c_sip_Words,zj7,zj8,b_c_pool_Find,b_c_ref6_out,b_c_ref5_Next,b_c_law5_Key,zjH,zj2,zj3,b_c_ref5_Ring,b_c_ref6_Held,b_c_ref6_bad,zj4,b_c_ref6_New,zkc,b_c_law6_Make,zjZ,zj1,zio,zcD,zb3,zeY,b_c_opts_Walk,zjF,b_c_opts_Far,zka,zjJ,zht,zdC,zkg,zke,zjI,zkd,zeK,zjL,zjK,zkf,zkh,zjM,zeJ,zfN,zdl,zgj,b_c_plane_New,zj9,zj0,zfM,zgi,zdI,zeg,zgg,zgZ,b_c_ref5_four,b_c_ref5_bits,b_c_ref5_word,b_c_ref5_cook,b_c_ref5_Make,zjG,b_c_law9_up,zjE,zj6,zgh,zkb,zhs⟩
theorem own:ownKnob Tryz.prog.godebug=none:=by kernel_rfl
theorem laidOut:laidOutB Tryz.prog=true:=by kernel_rfl
theorem lifted (os:Os) (started:os.Started) (H:Type) (enc:TypeId×Value→H):
    ReturnsInHanded {} Tryz.checked os 9 .any (Rows.planeShutSpec.pre6 enc Tryz.prog Tryz.f9 Rows.planeShutRow.domain false) (Rows.planeShutSpec.post enc Tryz.prog Tryz.f9 false true false false):=by
  refine returnsInHanded_of_change_sized (C:= Tryz.checked) own started (by kernel_rfl) Tryz.func9
    (ChangeSpec.witness6 (enc:=enc) (C:= Tryz.checked) false ⟨#[],#[.slice none 0 0,.int .i64 0,.int .i64 0],[]⟩ 8 (by kernel_rfl) (by kernel_rfl) (by kernel_rfl) (by kernel_rfl)) ?_
  intro W base args ds gs before hval0 hW hcnd hsz0 _
  have hval: ∀(j:Nat) t v, Tryz.f9.params[j]? =some t→args[j]? =some v→Value.okWide Tryz.prog W .any base t v:=hval0
  have hW':=hW
  obtain ⟨p,q,hA0,hV,rfl,hfz,hnd⟩:=hW
  have hA:DataW.TrodAll enc Tryz.prog W 0 (fun _=>true) true Tryz.f9.params.toList args.toList ds p:=hA0
  rw [Tryz.params9] at hA hval
  obtain ⟨v0,vs0,d0,ds0,p0,q0,hargs,rfl,rfl,h0,r0⟩:=trodAll_cons hA
  obtain ⟨v1,vs1,d1,ds1,p1,q1,rfl,rfl,rfl,h1,r1⟩:=trodAll_cons r0
  obtain ⟨v2,vs2,d2,ds2,p2,q2,rfl,rfl,rfl,h2,r2⟩:=trodAll_cons r1
  obtain ⟨rfl,rfl,rfl⟩:=trodAll_nil r2
  obtain rfl:args= #[v0,v1,v2]:=by cases args;simp_all
  obtain ⟨rfl,rfl⟩:=trodVars_none hV
  have k0:=h0
  have hv0:=(hval 0 22 v0 rfl rfl)
  obtain ⟨a0,len0,cap0,rfl⟩:=okWide_slice Tryz.underlying22 hv0
  have lt0: ∀x∈p0,x.block < W.heap.size:=by obtain ⟨m,hm⟩:=k0;exact DataW.trod_lt m _ _ _ hm
  obtain ⟨o0,l0,rr0,hn0,hl0,hrel0,hmem0⟩: ∃(o:Option Nat) (l:List Int) (x:Option (Addr×List Value)),(o=none→l= [])∧(l.length:Int)≤9223372036854775807∧(x=(match o with | none=>none | some _=>some (a0.getD ⟨0,0,none⟩,ii l))∧(match o with | none=>a0=none∧len0=0∧cap0=0 | some c=>a0=some (a0.getD ⟨0,0,none⟩)∧len0=l.length∧cap0=c))∧(∀a c,some (a,c)=x→RowAt W a c):=by
    obtain ⟨fuel,hf⟩:=h0
    rcases open_ints Tryz.underlying22 Tryz.underlying3 (by kernel_rfl) hf with ⟨hcs,_⟩ | ⟨x,l,c,zs,hcs,_,hl,hm,hz,_,hcell,hwz⟩
    · simp [Value.cells] at hcs
      obtain ⟨rfl,rfl,rfl⟩:=hcs
      exact ⟨none,[],none,fun _=>rfl,by decide,⟨rfl,rfl,rfl,rfl⟩,fun a c q=>by cases q⟩
    · simp [Value.cells] at hcs
      obtain ⟨rfl,rfl,rfl⟩:=hcs
      have hlen:zs.length=cap0:=by simpa using hz
      have hlm:(zs.take len0).length=len0:=by simp;omega
      refine ⟨some cap0,zs.take len0,some (x,ii (zs.take len0)),(fun q=>by cases q),by rw [hlm];unfold maxLen at hm;omega,⟨rfl,rfl,hlm.symm,rfl⟩, ?_⟩
      rintro a c q;cases q
      refine RowAt.of (okSlice_block Tryz.underlying22 hv0) (fun j v hj=>?_) (zan _)
      simp only [ii,List.getElem?_map,Option.map_eq_some_iff] at hj
      obtain ⟨y,hy,rfl⟩:=hj
      rw [List.getElem?_take] at hy
      split at hy
      · have hjz:=z4 hy
        rw [hcell j hjz];simp [List.getD,hy]
      · cases hy
  obtain ⟨a1,rfl,rfl,rfl,w1⟩:=open_int Tryz.underlying3 (hval 1 3 v1 rfl rfl) h1
  obtain ⟨a2,rfl,rfl,rfl,w2⟩:=open_int Tryz.underlying3 (hval 2 3 v2 rfl rfl) h2
  clear hA0 hval0 hsz0
  have hC:=PlaneShutC (P:= Tryz.prog) o0 l0 hn0 hl0 a1 a2
  have main:Calls Tryz.prog 9 #[.slice a0 len0 cap0,.int .i64 a1,.int .i64 a2] W fun e W'=>e= .returned (.bool true)∧Below W.heap.size W W':=by
    refine Env.law Tryz.func9 rfl (args:= [inV o0 0 l0.length,.int .i64 a1,.int .i64 a2]) (r:= [rr0]) ?_ ?_ ?_
    · skip
      have hb:Rows.blks [rr0]= [inB o0 (ii l0)]:=by
        rw [hrel0.1]
        cases o0<;>rfl
      rw [hb];exact hC
    · intro a c hx
      simp only [List.mem_cons,List.not_mem_nil,or_false] at hx
      exact hmem0 a c hx
    · have hv_0:VR (Rows.phi [rr0]) (inV o0 0 l0.length) (.slice a0 len0 cap0):=by
        obtain ⟨hx,hy⟩:=hrel0
        cases o0 with
        | none=>obtain ⟨e1,e2,e3⟩:=hy;rw [e1,e2,e3];exact VR.pl rfl
        | some c=>obtain ⟨e1,e2,e3⟩:=hy;rw [e1,e2,e3];exact VR.in_ (c:=ii l0) (by rw [hx];rfl) (hmem0 _ _ hx.symm).spot
      exact ⟨hv_0,⟨VR.pl rfl,⟨VR.pl rfl,trivial⟩⟩⟩
  refine main.mono fun e W' ⟨he,bel⟩=>?_
  subst he
  exact ⟨_,rfl,_,_,_,[],_,[],hW',trodAll_mk1 (shut_bool Tryz.underlying4 _),(trodAll_cons_mk (Below.trod laidOut (by kernel_rfl) (of_decide_eq_true (by kernel_rfl)) k0 bel lt0) (trodAll_cons_mk (shut_int Tryz.underlying3 w1) (trodAll_cons_mk (shut_int Tryz.underlying3 w2) trodAll_mk0))),rfl,bel.frame _,fun h=>by cases h⟩
theorem zfh:Rows.planeShutRow.holds Tryz.pinned (OpenSpec.ofChange Rows.planeShutSpec):=
  OpenClaim.holds_of_wide 9 Tryz.f9 rfl rfl rfl rfl rfl rfl rfl ⟨rfl,rfl,rfl,rfl,rfl⟩ rfl rfl rfl rfl rfl (by kernel_rfl) Tryz.func9 (by kernel_rfl)
    (of_decide_eq_true (by kernel_rfl)) (by unfold Func.isWrapper;first | (rw [if_pos (by decide+kernel)];kernel_rfl) | (rw [if_neg (by decide+kernel)];exact ⟨rfl,rfl⟩))
    (fun os started H enc _=>lifted os started H enc)
theorem proved:Rows.PlaneShutSaid:=zfh
#print axioms proved
end Go.Proofs.YtcgficakdfdepaaGreat.planeShut
namespace Go.Proofs.YtcgficakdfdepaaGreat
/-- The row, under a short name, for the claim. -/
theorem planeShut_holds:Rows.PlaneShutSaid:=planeShut.proved
end Go.Proofs.YtcgficakdfdepaaGreat
