/- The proofs zfh the intermediate form, part QPlaneShutg. -/
import Derived.Test.YtcgficakdfdepaaGreatQPlaneShutf
import Derived.Test.YtcgficakdfdepaaGreatQPlaneShute
open Go.IntKind (i64)
set_option linter.unusedVariables false
set_option linter.unusedSimpArgs false
set_option maxRecDepth 100000
set_option maxHeartbeats 1000000
namespace Go.Rh
theorem row_nil:RowOf none ([]:List Int) []:=⟨fun _=>rfl,fun h=>absurd rfl h,fun h=>absurd rfl h,fun o c h=>by cases h⟩
theorem TakeT {P:Program} {p:q9} {nr:zdS} {w9:Nat} {q:Option (Nat×Nat)} {L l:List Int} {T:Oc×zdS} (hT:zaB p nr l=T) (h:Env P "(*roundhouse/plane.Plane).Take" [pv 0 0,zQ q 1 l.length] [cw (zN p true nr (slV 2 127 (some w9))),zH q (u8 L) false,slB zI (ii (qC p)) (some w9)] (fun v h'=>v=ocV (zaB p nr l).1 3∧h'= [cw (zN p true (zaB p nr l).2 (slV 2 127 (some w9))),zH q (u8 L) false,slB zI (ii (qC p)) (some w9),zH (zD (zaB p nr l).1.b) (u8 (zaB p nr l).1.b) true])):Env P "(*roundhouse/plane.Plane).Take" [pv 0 0,zQ q 1 l.length] [cw (zN p true nr (slV 2 127 (some w9))),zH q (u8 L) false,slB zI (ii (qC p)) (some w9)] (fun v h'=>v=ocV T.1 3∧h'= [cw (zN p true T.2 (slV 2 127 (some w9))),zH q (u8 L) false,slB zI (ii (qC p)) (some w9),zH (zD T.1.b) (u8 T.1.b) true]):=by
 subst hT;exact h
def zcM:Pk:=⟨2,9,0,1,10,2,80,0,0,false,0,[],[]⟩
theorem bok00:BOk zcM:=by constructor<;>decide
theorem kn1:(zaB (qA [0,2] 2) nr0 (bld zcM)).1.e=0:=by kernel_rfl
theorem kn2:(zaB (qA [0,2] 2) nr0 (bld zcM)).1.s=0:=by kernel_rfl
theorem kn3:(zaB (qA [0,2] 2) nr0 (bld zcM)).1.c=false:=by kernel_rfl
theorem kn4:(zaB (qA [0,2] 2) nr0 (bld zcM)).1.b.length=(bld zcM).length:=by kernel_rfl
theorem kn5:(zc0 (zaB (qA [0,2] 2) nr0 (bld zcM)).2 0).2=false:=by kernel_rfl
theorem kn6:(qA [0,2] 2) 0=2:=by kernel_rfl
theorem kn7:(bld zcM).length≤100000:=by decide+kernel
theorem kn8:(qW (bld zcM)).2.k≠3:=by decide+kernel
theorem nr0_r: ∀k,0≤(nr0 k).1∧(nr0 k).1 < 4294967296:=fun k=>⟨by show (0:Int)≤0;decide,by show (0:Int) < 4294967296;decide⟩
theorem make_rng (ns:List Int) {k:Nat} (hk:k≤100):PRng (qA ns k):=(makeS_inv ns (k:=k) (by omega)).rng (by omega)
theorem TakeNC {P:Program} [PrC P] (p:q9) (nr:zdS) (q:Option Nat) (zw:Bool):
    Env P "(*roundhouse/plane.Plane).Take" [pv 0 0,.slice none 0 0] ([cw (zN p false nr (slV 1 127 q)),zaK zw]) (fun v h'=>v= .agg #[iv 10,iv (-1),bv false,.slice none 0 0]∧h'= [cw (zN p false nr (slV 1 127 q)),zaK zw]):=by
 refine Env.by4 PrC.plane_Plane_Take ?_
 unfold zbS
 show GC _ 2 _ _ ⟨reg [(0,pv 0 0),(1,.slice none 0 0)],[cw (zN p false nr (slV 1 127 q)),zaK zw]⟩
 refine zJ (zM (o_b 1 [(4,pv 2 0)] [cw (zN p false nr (slV 1 127 q)),zaK zw,cw [iv 0,iv 0,bv false,.slice none 0 0]] (zE (zA (zJ (zJ (zM (o_d 4 [(13,pv 0 330),(12,pv 0 0),(11,pv 0 0),(10,pv 0 0)] (o_s (by refine zX (v:=bv false) rfl rfl ?_;exact (zfY 0).trans rfl) ?_)))))))))
 exact o_d 1 [(15,bv true)] (zE (zA (zc6 rfl (zJ (zM (qT (zag (dropC 10) rfl rfl rfl (o_b 1 [] [cw (zN p false nr (slV 1 127 q)),zaK zw,cw [iv 10,iv (-1),bv false,.slice none 0 0]] (zE (zA (qS (⟨trivial,[.agg #[iv 10,iv (-1),bv false,.slice none 0 0]],(zaa rfl rfl rfl rfl),(zK rfl z5),⟨reg [],[cw (zN p false nr (slV 1 127 q)),zaK zw]⟩,[0,1],[.agg #[iv 10,iv (-1),bv false,.slice none 0 0]],WkR.of (rs:= []) rfl rfl (by decide) trivial ⟨.inl (qF (zaX q rfl)),⟨.inl (congrArg some (zaO _).symm),trivial⟩⟩,(zS (zbn (q:=none) (k:=0) (k':=0) (n:=0) rfl) rfl),rfl,rfl⟩))))))))))))
theorem known9C {P:Program} [PrC P]:
    Env P "roundhouse/roundhouselaw9.known" [] ([]) (Ans (.bool true) ([])):=by
 refine Env.by PrC.law9_known ?_
 unfold zfF
 show GC _ 0 _ _ ⟨reg [],[]⟩
 refine zJ (zM (o_d 1 [(0,bv false)] (zE (zA (zJ (zM (qT (zdA [] [] [] (PNewC) rfl rfl trivial (by decide) ?_))))))))
 rintro v1 h1' ⟨rfl,rfl⟩
 refine ⟨zah,pv 0 0,[],[cw (zN qL false nr0 (.slice none 0 0))],rfl,trivial,⟨(Option.some.inj (qF rfl)).symm,trivial⟩, ?_⟩
 refine o_d 1 [(1,pv 0 0)] (zE (zA (zJ (zJ (zM (o_d 2 [(15,bv false),(14,pv 0 0)] (zE (zA (zbx rfl (qM (⟨⟨reg [(1,pv 0 0)],[cw (zN qL false nr0 (.slice none 0 0)),.gone]⟩,Wk.ren [0,1] rfl rfl (by decide) ⟨rfl,trivial⟩ ⟨.inl (qF rfl),⟨.inr ⟨rfl,rfl⟩,trivial⟩⟩, ?_⟩)))))))))))
 refine zJ (zM (o_d 1 [(16,pv 0 0)] (qT (zdA [0,1] [cw (zN qL false nr0 (slV 1 127 none)),.gone] [pv 0 0,.slice none 0 0] (TakeNC qL nr0 none false) rfl rfl ⟨⟨_,rfl,zao (.inl (zaP rfl (fun q=>rfl)))⟩,⟨⟨_,rfl,zao (.inr ⟨rfl,rfl⟩)⟩,trivial⟩⟩ (by decide) ?_))))
 rintro v1 h1' ⟨rfl,rfl⟩
 refine ⟨(zW z8 (zW z8 zah)),.agg #[iv 10,iv (-1),bv false,.slice none 0 0],[cw (zN qL false nr0 (slV 1 127 none)),.gone],[],(qQ rfl),⟨zbi rfl,⟨rfl,trivial⟩⟩,trivial, ?_⟩
 refine o_b 2 [(2,pv 2 0)] [cw (zN qL false nr0 (slV 1 127 none)),.gone,cw [iv 10,iv (-1),bv false,.slice none 0 0]] (zE (zA (zJ (zM (o_b 1 [(18,sv 3 0 2 2)] [cw (zN qL false nr0 (slV 1 127 none)),.gone,cw [iv 10,iv (-1),bv false,.slice none 0 0],cw [iv 0,iv 2]] (qT (zfp (a1:= [sv 0 0 2 2,iv 2]) [3] [ii [0,2]] (MakeC (some 2) [0,2] (fun q=>by cases q) (by decide) 2 (by decide)) rfl (fun _=>zS rfl (zS rfl rfl)) ⟨⟨_,rfl⟩,zan _,trivial⟩ (zbk _) ?_)))))))
 refine o_b 1 [(3,pv 4 0)] [cw (zN qL false nr0 (slV 1 127 none)),.gone,cw [iv 10,iv (-1),bv false,.slice none 0 0],cw [iv 0,iv 2],cw (pl qL)] (zdj (by refine zas (c':=pl (qA [0,2] 2)) rfl rfl rfl ?_ ?_ ?_;exact qI _;exact zb2 (by omega);exact qZ qL (qA [0,2] 2)) ?_)
 refine zE (zA (zJ (zM (o_d 1 [(20,pv 0 0)] (o_s (by refine zX (v:=zaq (qA [0,2] 2)) rfl rfl ?_;exact zaD (qA [0,2] 2)) ?_)))))
 refine qT (zdA [0,4] [cw (zN qL false nr0 (slV 1 127 none)),cr []] [pv 0 0,zaq (qA [0,2] 2)] (PLoadC qL false nr0 none (qA [0,2] 2)) rfl (zS rfl (zS (qQ (zbk (qA [0,2] 2))) rfl)) ⟨⟨_,rfl,zao (.inl (zaP rfl (fun q=>rfl)))⟩,⟨⟨_,rfl,zaH⟩,trivial⟩⟩ (by decide) ?_)
 rintro v1 h1' ⟨rfl,m1,rfl⟩
 refine ⟨(zW zaF (zW z8 zah)),.tuple #[],[cw (zN (qA [0,2] 2) true nr0 (slV 5 127 (some m1))),.gone,cw [iv 10,iv (-1),bv false,.slice none 0 0],cw [iv 0,iv 2],cw (pl (qA [0,2] 2))],[slB zI (ii (qC (qA [0,2] 2))) (some m1)],(by simp [zaN]),⟨zbi rfl,⟨rfl,⟨rfl,⟨rfl,⟨rfl,trivial⟩⟩⟩⟩⟩,⟨(Option.some.inj (q8 (some m1) (fun _=>(zaf _ _)))).symm,trivial⟩, ?_⟩
 refine zE (zA (zJ (zM (o_d 1 [(24,pv 0 0)] (qT (zdA [0,5] [cr (zN (qA [0,2] 2) true nr0 (slV 1 127 (some m1))),cr []] [pv 0 0] (PVersionC (qA [0,2] 2) true nr0 (some m1)) rfl rfl ⟨⟨_,rfl,zao (.inl (zaP rfl (fun q=>rfl)))⟩,⟨⟨_,rfl,zds (some m1)⟩,trivial⟩⟩ (by decide) ?_))))))
 rintro v1 h1' ⟨rfl,rfl⟩
 refine ⟨(zW z8 (zW z8 zah)),.tuple #[iv ((qA [0,2] 2) 0),bv true],[cw (zN (qA [0,2] 2) true nr0 (slV 5 127 (some m1))),.gone,cw [iv 10,iv (-1),bv false,.slice none 0 0],cw [iv 0,iv 2],cw (pl (qA [0,2] 2)),slB zI (ii (qC (qA [0,2] 2))) (some m1)],[],(qQ rfl),⟨rfl,⟨rfl,⟨rfl,⟨rfl,⟨rfl,⟨rfl,trivial⟩⟩⟩⟩⟩⟩,trivial, ?_⟩
 refine o_d 5 [(5,bv true),(4,iv ((qA [0,2] 2) 0)),(27,bv true),(26,iv ((qA [0,2] 2) 0)),(23,.tuple #[iv ((qA [0,2] 2) 0),bv true])] (zE (⟨⟨reg [(5,bv true),(4,iv ((qA [0,2] 2) 0)),(2,pv 2 0),(1,pv 0 0)],[cw (zN (qA [0,2] 2) true nr0 (slV 5 127 (some m1))),.gone,cw [iv 10,iv (-1),bv false,.slice none 0 0],cw [iv 0,iv 2],cw (pl (qA [0,2] 2)),slB zI (ii (qC (qA [0,2] 2))) (some m1),.gone,.gone]⟩,Wk.ren [0,1,2,3,4,5,6,7] rfl rfl (by decide) ⟨rfl,⟨rfl,⟨rfl,⟨rfl,trivial⟩⟩⟩⟩ ⟨.inl (qF rfl),⟨.inl rfl,⟨.inl rfl,⟨.inl rfl,⟨.inl (zV (zam (qA [0,2] 2))),⟨.inl (q8 (some m1) (fun _=>(zaf _ _))),⟨.inr ⟨rfl,rfl⟩,⟨.inr ⟨rfl,rfl⟩,trivial⟩⟩⟩⟩⟩⟩⟩⟩, ?_⟩))
 refine zJ (zM (o_d 1 [(29,.agg #[iv 2,iv 9,iv 0,iv 1,iv 10,iv 2,iv 80,iv 0,iv 0,bv false,iv 0,.slice none 0 0,.slice none 0 0])] (qT (zaG [1,6] [zH none (u8 ([]:List Int)) false,zH none (u8 ([]:List Int)) false] [pkV zcM none 0 none 1] (Build2C none none ([]:List Int) ([]:List Int) zcM (row_nil) (row_nil) bok00 rfl) rfl (zS (zcL rfl rfl) rfl) ⟨⟨_,rfl,.inr ⟨rfl,rfl⟩⟩,⟨⟨_,rfl,.inr ⟨rfl,rfl⟩⟩,trivial⟩⟩ (by decide) ?_))))
 rintro v1 h1' ⟨rfl,rfl⟩
 refine ⟨zab [_,_] [_],.tuple #[zQ (some (0,(bld zcM).length)) 8 ((bld zcM).length),iv 0],[cw (zN (qA [0,2] 2) true nr0 (slV 5 127 (some m1))),.gone,cw [iv 10,iv (-1),bv false,.slice none 0 0],cw [iv 0,iv 2],cw (pl (qA [0,2] 2)),slB zI (ii (qC (qA [0,2] 2))) (some m1),.gone,.gone],[zH (some (0,(bld zcM).length)) (u8 (bld zcM)) true],((zdO _).trans rfl),⟨rfl,⟨rfl,⟨rfl,⟨rfl,⟨rfl,⟨rfl,⟨rfl,⟨rfl,trivial⟩⟩⟩⟩⟩⟩⟩⟩,⟨(zdg (zG _)),trivial⟩, ?_⟩
 refine o_d 5 [(7,iv 0),(6,zQ (some (0,(bld zcM).length)) 8 ((bld zcM).length)),(32,iv 0),(31,zQ (some (0,(bld zcM).length)) 8 ((bld zcM).length)),(28,.tuple #[zQ (some (0,(bld zcM).length)) 8 ((bld zcM).length),iv 0])] (zE (zA (zJ (zM (o_d 2 [(34,zQ (some (0,(bld zcM).length)) 8 ((bld zcM).length)),(33,pv 0 0)] ?_)))))
 obtain ⟨T2,hT2⟩: ∃z9,zaB (qA [0,2] 2) nr0 (bld zcM)=z9:=⟨_,rfl⟩
 have hk1:T2.1.e=0:=by rw [←hT2];exact kn1
 have hk2:T2.1.s=0:=by rw [←hT2];exact kn2
 have hk3:T2.1.c=false:=by rw [←hT2];exact kn3
 have hk4:T2.1.b.length=(bld zcM).length:=by rw [←hT2];exact kn4
 have hk5:(zc0 T2.2 0).2=false:=by rw [←hT2];exact kn5
 refine qT (zdA [0,8,5] [cw (zN (qA [0,2] 2) true nr0 (slV 2 127 (some m1))),zH (some (0,(bld zcM).length)) (u8 (bld zcM)) false,slB zI (ii (qC (qA [0,2] 2))) (some m1)] [pv 0 0,zQ (some (0,(bld zcM).length)) 1 ((bld zcM).length)] (TakeT hT2 (TakeC9 (qA [0,2] 2) nr0 m1 (some (0,(bld zcM).length)) (bld zcM) (bld zcM) (RowOf.whole rfl (Nat.le_refl _)) (by first | omega | exact kn7) (make_rng _ (by decide)) nr0_r kn8)) rfl rfl ⟨⟨_,rfl,zao (.inl (zaP rfl (fun q=>rfl)))⟩,⟨⟨_,rfl,zao (zZ (q:=some (0,(bld zcM).length)) (q':=some (0,(bld zcM).length)) (zG _) rfl (fun q=>rfl))⟩,⟨⟨_,rfl,zao (zg8 (some m1) (fun _=>(zaf _ _)))⟩,trivial⟩⟩⟩ (by decide) ?_)
 rintro v1 h1' ⟨rfl,rfl⟩
 refine ⟨(zW zaF (zW z8 (zW z8 zah))),.agg #[iv T2.1.e,iv T2.1.s,bv T2.1.c,zQ (zD T2.1.b) 9 T2.1.b.length],[cw (zN (qA [0,2] 2) true T2.2 (slV 5 127 (some m1))),.gone,cw [iv 10,iv (-1),bv false,.slice none 0 0],cw [iv 0,iv 2],cw (pl (qA [0,2] 2)),slB zI (ii (qC (qA [0,2] 2))) (some m1),.gone,.gone,zH (some (0,(bld zcM).length)) (u8 (bld zcM)) true],[zH (zD T2.1.b) (u8 T2.1.b) true],(zbn rfl),⟨zbi rfl,⟨rfl,⟨rfl,⟨rfl,⟨rfl,⟨(by rcases some m1 with _ | m9<;>first | rfl | exact za9 (zaf _ _)),⟨rfl,⟨rfl,⟨rfl,trivial⟩⟩⟩⟩⟩⟩⟩⟩⟩,⟨(Option.some.inj (zF (zG _))).symm,trivial⟩, ?_⟩
 refine o_b 2 [(8,pv 10 0)] [cw (zN (qA [0,2] 2) true T2.2 (slV 5 127 (some m1))),.gone,cw [iv 10,iv (-1),bv false,.slice none 0 0],cw [iv 0,iv 2],cw (pl (qA [0,2] 2)),slB zI (ii (qC (qA [0,2] 2))) (some m1),.gone,.gone,zH (some (0,(bld zcM).length)) (u8 (bld zcM)) true,zH (zD T2.1.b) (u8 T2.1.b) true,cw [iv T2.1.e,iv T2.1.s,bv T2.1.c,zQ (zD T2.1.b) 9 T2.1.b.length]] (zE (zA (zJ (zM (o_d 1 [(37,pv 0 0)] (qT (zdA [0,5] [cr (zN (qA [0,2] 2) true T2.2 (slV 1 127 (some m1))),cr []] [pv 0 0,iv 0] (NearC (qA [0,2] 2) true T2.2 (some m1) 0) rfl rfl ⟨⟨_,rfl,zao (.inl (zaP rfl (fun q=>rfl)))⟩,⟨⟨_,rfl,zds (some m1)⟩,trivial⟩⟩ (by decide) ?_)))))))
 rintro v1 h1' ⟨rfl,rfl⟩
 refine ⟨(zW z8 (zW z8 zah)),.tuple #[.int .u32 ((zc0 T2.2 0).1),bv ((zc0 T2.2 0).2)],[cw (zN (qA [0,2] 2) true T2.2 (slV 5 127 (some m1))),.gone,cw [iv 10,iv (-1),bv false,.slice none 0 0],cw [iv 0,iv 2],cw (pl (qA [0,2] 2)),slB zI (ii (qC (qA [0,2] 2))) (some m1),.gone,.gone,zH (some (0,(bld zcM).length)) (u8 (bld zcM)) true,zH (zD T2.1.b) (u8 T2.1.b) true,cw [iv T2.1.e,iv T2.1.s,bv T2.1.c,zQ (zD T2.1.b) 9 T2.1.b.length]],[],(qQ rfl),⟨rfl,⟨rfl,⟨rfl,⟨rfl,⟨rfl,⟨rfl,⟨rfl,⟨rfl,⟨rfl,⟨rfl,⟨rfl,trivial⟩⟩⟩⟩⟩⟩⟩⟩⟩⟩⟩,trivial, ?_⟩
 refine o_d 5 [(10,bv ((zc0 T2.2 0).2)),(9,.int .u32 ((zc0 T2.2 0).1)),(40,bv ((zc0 T2.2 0).2)),(39,.int .u32 ((zc0 T2.2 0).1)),(36,.tuple #[.int .u32 ((zc0 T2.2 0).1),bv ((zc0 T2.2 0).2)])] (zE (zA (zJ (zM (o_d 1 [(41,pv 0 0)] (qT (zdA [0,5] [cw (zN (qA [0,2] 2) true T2.2 (slV 1 127 (some m1))),cr []] [pv 0 0] (PCrashC (qA [0,2] 2) true T2.2 (some m1)) rfl rfl ⟨⟨_,rfl,zao (.inl (zaP rfl (fun q=>rfl)))⟩,⟨⟨_,rfl,zds (some m1)⟩,trivial⟩⟩ (by decide) ?_)))))))
 rintro v1 h1' ⟨rfl,rfl⟩
 refine ⟨(zW zaF (zW z8 zah)),.tuple #[],[cw (zN qL false nr0 (slV 5 127 none)),.gone,cw [iv 10,iv (-1),bv false,.slice none 0 0],cw [iv 0,iv 2],cw (pl (qA [0,2] 2)),slB zI (ii (qC (qA [0,2] 2))) (some m1),.gone,.gone,zH (some (0,(bld zcM).length)) (u8 (bld zcM)) true,zH (zD T2.1.b) (u8 T2.1.b) true,cw [iv T2.1.e,iv T2.1.s,bv T2.1.c,zQ (zD T2.1.b) 9 T2.1.b.length]],[],(by simp [zaN]),⟨zbi rfl,⟨rfl,⟨rfl,⟨rfl,⟨rfl,⟨rfl,⟨rfl,⟨rfl,⟨rfl,⟨rfl,⟨rfl,trivial⟩⟩⟩⟩⟩⟩⟩⟩⟩⟩⟩,trivial, ?_⟩
 refine zE (zA (zJ (zM (o_d 1 [(44,pv 0 0)] (qT (zdA [0,5] [cr (zN qL false nr0 (slV 1 127 none)),cr []] [pv 0 0] (PVersionC qL false nr0 none) rfl rfl ⟨⟨_,rfl,zao (.inl (zaP rfl (fun q=>rfl)))⟩,⟨⟨_,rfl,zds (some m1)⟩,trivial⟩⟩ (by decide) ?_))))))
 rintro v1 h1' ⟨rfl,rfl⟩
 refine ⟨(zW z8 (zW z8 zah)),.tuple #[iv (qL 0),bv false],[cw (zN qL false nr0 (slV 5 127 none)),.gone,cw [iv 10,iv (-1),bv false,.slice none 0 0],cw [iv 0,iv 2],cw (pl (qA [0,2] 2)),slB zI (ii (qC (qA [0,2] 2))) (some m1),.gone,.gone,zH (some (0,(bld zcM).length)) (u8 (bld zcM)) true,zH (zD T2.1.b) (u8 T2.1.b) true,cw [iv T2.1.e,iv T2.1.s,bv T2.1.c,zQ (zD T2.1.b) 9 T2.1.b.length]],[],(qQ rfl),⟨rfl,⟨rfl,⟨rfl,⟨rfl,⟨rfl,⟨rfl,⟨rfl,⟨rfl,⟨rfl,⟨rfl,⟨rfl,trivial⟩⟩⟩⟩⟩⟩⟩⟩⟩⟩⟩,trivial, ?_⟩
 refine o_d 5 [(12,bv false),(11,iv (qL 0)),(47,bv false),(46,iv (qL 0)),(43,.tuple #[iv (qL 0),bv false])] (zE (zT [(12,bv false),(10,bv ((zc0 T2.2 0).2)),(8,pv 10 0),(6,zQ (some (0,(bld zcM).length)) 8 ((bld zcM).length)),(5,bv true),(4,iv ((qA [0,2] 2) 0)),(2,pv 2 0)] (zJ (zM (o_d 16 [(63,bv (((qA [0,2] 2) 0)==2)),(62,bv (((qA [0,2] 2) 0)==2)),(61,bv (((qA [0,2] 2) 0)==2)),(60,iv ((qA [0,2] 2) 0)),(59,bv true),(58,bv true),(57,bv true),(56,bv true),(55,bv true),(54,bv true),(53,iv (-1)),(52,pv 2 1),(51,bv true),(50,bv true),(49,iv 10),(48,pv 2 0)] (zce (b:=((qA [0,2] 2) 0)==2) 63 rfl (fun k3=>?_) (fun q=>by rw [(by rw [kn6];rfl:(((qA [0,2] 2) 0)==2)=true)] at q;cases q)))))))
 refine o_d 5 [(68,bv (T2.1.e==0)),(67,bv (T2.1.e==0)),(66,bv (T2.1.e==0)),(65,iv T2.1.e),(64,pv 10 0)] (zce (b:=T2.1.e==0) 68 rfl (fun k4=>?_) (fun q=>by rw [(by rw [hk1];rfl:(T2.1.e==0)=true)] at q;cases q))
 refine o_d 5 [(73,bv (T2.1.s==0)),(72,bv (T2.1.s==0)),(71,bv (T2.1.s==0)),(70,iv T2.1.s),(69,pv 10 1)] (zce (b:=T2.1.s==0) 73 rfl (fun k5=>?_) (fun q=>by rw [(by rw [hk2];rfl:(T2.1.s==0)=true)] at q;cases q))
 refine o_d 5 [(78,bv (!T2.1.c)),(77,bv (!T2.1.c)),(76,bv (!T2.1.c)),(75,bv T2.1.c),(74,pv 10 2)] (zce (b:= !T2.1.c) 78 rfl (fun k6=>?_) (fun q=>by rw [(by rw [hk3];rfl:(!T2.1.c)=true)] at q;cases q))
 refine o_d 2 [(80,zQ (zD T2.1.b) 9 T2.1.b.length),(79,pv 10 3)] (qJ rfl (o_s (by exact qN rfl (zdv T2.1.b).nil) ?_))
 refine o_d 1 [(82,zQ (some (0,(bld zcM).length)) 8 ((bld zcM).length))] (qJ rfl (o_s (by exact qN (q:=some (0,(bld zcM).length)) (k:=8) (n:=(bld zcM).length) rfl (fun q=>by cases q)) ?_))
 refine o_d 3 [(86,bv (((T2.1.b.length:Nat):Int)==((bld zcM).length:Nat))),(85,bv (((T2.1.b.length:Nat):Int)==((bld zcM).length:Nat))),(84,bv (((T2.1.b.length:Nat):Int)==((bld zcM).length:Nat)))] (zce (b:=((T2.1.b.length:Nat):Int)==((bld zcM).length:Nat)) 86 rfl (fun k7=>?_) (fun q=>by rw [(by rw [hk4];exact beq_self_eq_true _:(((T2.1.b.length:Nat):Int)==((bld zcM).length:Nat))=true)] at q;cases q))
 refine o_d 4 [(90,bv (!((zc0 T2.2 0).2))),(89,bv (!((zc0 T2.2 0).2))),(88,bv (!((zc0 T2.2 0).2))),(87,bv ((zc0 T2.2 0).2))] (zce (b:= !((zc0 T2.2 0).2)) 90 rfl (fun k8=>?_) (fun q=>by rw [(by rw [hk5];rfl:(!((zc0 T2.2 0).2))=true)] at q;cases q))
 refine o_d 4 [(0,bv true),(93,bv true),(92,bv true),(91,bv false)] (zE (zT [(0,bv true)] (qS ?_)))
 have E0_:(true)=true:=by
  first | rfl | (rw [hk5];rfl) | (simp [hk5])
 exact z7 [bv true] (zR rfl rfl) rfl (by rw [E0_];rfl) rfl rfl
end Go.Rh

set_option maxHeartbeats 8000000
namespace Go.Rh
def midS (p:q9) (s:Int):q9:=if p (3+5*s.toNat)=2 then (qD p ⟨3,s,0,0,0,0,0⟩).1 else p
structure ShutOk (p q1 q2:q9) (s:Int):Prop where
  r1:PRng q1
  r2:PRng q2
  a1:q1 1=10∧q1 2=80
  a2:q2 1=10∧q2 2=80
  g1:rgP q1=rgP p
  g2:rgP q2=rgP p
  t1: [1,2,3].contains (q1 (3+5*s.toNat))=true
  t2:q2 (3+5*s.toNat)=4
theorem shut_mid {ns:List Int} {s:Int} (hs:0≤s∧s < 6) (ht:zgl ((qA ns 60) (3+5*s.toNat))=true):ShutOk (qA ns 60) (midS (qA ns 60) s) (qD (midS (qA ns 60) s) ⟨4,s,0,0,0,0,0⟩).1 s:=by
 have I:=makeS_inv ns (k:=60) (by decide)
 have hp:=zjl ns 60
 obtain ⟨b,hb,J,h1,h2,hg,hst⟩: ∃b,b≤1000∧PInv (midS (qA ns 60) s) b∧midS (qA ns 60) s 1=10∧midS (qA ns 60) s 2=80∧rgP (midS (qA ns 60) s)=rgP (qA ns 60)∧(midS (qA ns 60) s (3+5*s.toNat)=1∨midS (qA ns 60) s (3+5*s.toNat)=3):=by
  unfold midS
  split
  ·rename_i h
   have hd:=drain_ok (c:=qA ns 60) (s:=s) (by omega) h
   exact ⟨61,by decide,I.apply (by decide) hd,(zdD hd).1.trans hp.1,(zdD hd).2.trans hp.2,rgP_eq fun i hi=>zkK hd (by simp) hi,.inr (apply_st hd (by simp))⟩
  ·rename_i h
   refine ⟨60,by decide,I,hp.1,hp.2,rfl, ?_⟩
   simp only [zgl,Bool.or_eq_true,beq_iff_eq] at ht
   omega
 have hd:=shut_ok (c:=midS (qA ns 60) s) (s:=s) (by omega) hst
 refine ⟨J.rng (by omega),(J.apply (by omega) hd).rng (by omega),⟨h1,h2⟩,⟨(zdD hd).1.trans h1,(zdD hd).2.trans h2⟩,hg,(rgP_eq fun i hi=>zkK hd (by simp) hi).trans hg, ?_,apply_st hd (by simp)⟩
 rcases hst with h | h<;>rw [h]<;>decide
theorem shut_law {p q1 q2:q9} {s fp:Int} (h:ShutOk p q1 q2 s) (hs:0≤s∧s < 6) (hf:0≤fp∧fp≤65535):
  ((zaB q2 nr0 (bld (pkG 4000 fp 10 80 (zac (rgP p) 2 ⟨4000,fp,10,80⟩ s)))).1.c=false∧(zaB q2 nr0 (bld (pkG 4000 fp 10 80 (zac (rgP p) 2 ⟨4000,fp,10,80⟩ s)))).1.s≠s)∧
  (zac (rgP p) 2 ⟨4000,fp,10,80⟩ s≠0→(zaB q1 nr0 (bld (pkG 4000 fp 10 80 (zac (rgP p) 2 ⟨4000,fp,10,80⟩ s)))).1.e=0∧(zaB q1 nr0 (bld (pkG 4000 fp 10 80 (zac (rgP p) 2 ⟨4000,fp,10,80⟩ s)))).1.c=true∧(zaB q1 nr0 (bld (pkG 4000 fp 10 80 (zac (rgP p) 2 ⟨4000,fp,10,80⟩ s)))).1.s=s):=by
 have A:=(take_gram (nr:=nr0) h.a2.1 h.a2.2 hf (s:=s) (by omega) h.g2).1 (.inr (by rw [h.t2];decide))
 have B:=(take_gram (nr:=nr0) h.a1.1 h.a1.2 hf (s:=s) (by omega) h.g1).2
 refine ⟨⟨A.1,fun e=>?_⟩,fun h0=>B h0 h.t1⟩
 rcases A.2 with q | ⟨k,h1,h2,h3⟩
 ·omega
 ·have:k=s.toNat:=by omega
  subst this;rw [h.t2] at h3;omega
theorem PlaneShutC {P:Program} [PrC P] (o:Option Nat) (ns:List Int) (hnns:o=none→ns= []) (hl:(ns.length:Int)≤9223372036854775807) (port slot:Int):
    Env P "roundhouse/roundhouselaw9.PlaneShut" [inV o 0 ns.length,iv port,iv slot] ([inB o (ii ns)]) (Ans (.bool true) ([inB o (ii ns)])):=by
 refine Env.by PrC.law9_PlaneShut ?_
 unfold zda
 show GC _ 1 _ _ ⟨reg [(0,inV o 0 ns.length),(1,iv port),(2,iv slot)],[inB o (ii ns)]⟩
 have hpl:=zjl ns 60
 refine zJ (zM (o_d 1 [(6,bv false)] (zE (zA (zJ (zJ (zM (qT (zag (known9C) rfl rfl rfl (o_d 1 [(19,bv false)] (zE (zA ?_))))))))))))
 refine zbx rfl (qM (zA (zJ (zM (o_d 1 [(20,inV o 0 ns.length)] (qT (ziz (callIn 0 (MakeC o ns hnns hl 60 (by omega)) rfl (zan _) rfl rfl (zbk _) ?_))))))))
 refine o_b 1 [(7,pv 1 0)] [inB o (ii ns),cw (pl qL)] (zdj (by refine zas (c':=pl (qA ns 60)) rfl rfl rfl ?_ ?_ ?_;exact qI _;exact zb2 (by omega);exact qZ qL (qA ns 60)) ?_)
 refine zE (zA (zJ (zM (o_d 1 [(22,iv slot)] (qT (zag (within9C slot 6 (by decide)) rfl rfl rfl ?_))))))
 have hw1:=within_lt slot (n:=6) (by decide)
 refine o_d 1 [(8,iv (zC slot 6))] (zE (zA (zJ (zJ (zM (o_d 2 [(25,pv 1 3),(24,iv (zC slot 6))] (o_s (by exact zaW (o:=3) (o':=3+5*((zC slot 6).toNat)) rfl rfl (by first | omega | (rw [zff];omega)) (by first | omega | (rw [zff];omega))) ?_)))))))
 refine o_s (by refine zX (v:= .agg #[iv ((qA ns 60) (3+5*((zC slot 6).toNat))),iv ((qA ns 60) (3+5*((zC slot 6).toNat)+1)),iv ((qA ns 60) (3+5*((zC slot 6).toNat)+2)),iv ((qA ns 60) (3+5*((zC slot 6).toNat)+3)),iv ((qA ns 60) (3+5*((zC slot 6).toNat)+4))]) rfl rfl ?_;exact pl_rS (qA ns 60) ((zC slot 6).toNat) (by omega) (by omega)) ?_
 refine qT (zag (refTakesC ((qA ns 60) (3+5*((zC slot 6).toNat))) ((qA ns 60) (3+5*((zC slot 6).toNat)+1)) ((qA ns 60) (3+5*((zC slot 6).toNat)+2)) ((qA ns 60) (3+5*((zC slot 6).toNat)+3)) ((qA ns 60) (3+5*((zC slot 6).toNat)+4))) rfl rfl rfl (o_d 1 [(29,bv (!(zgl ((qA ns 60) (3+5*((zC slot 6).toNat))))))] (zE (zA (qK (t:= !(zgl ((qA ns 60) (3+5*((zC slot 6).toNat))))) rfl (fun h2=>?_) (fun h2=>?_))))))
 ·skip
  have h3:(zgl ((qA ns 60) (3+5*((zC slot 6).toNat))))=false:=not_t h2
  exact zJ (zM (o_d 1 [(6,bv true)] (zE (zA (qS (z7 [bv true] (zR rfl rfl) rfl (by rfl) rfl (show List.all [inB o (ii ns)] ziA=true from (all_cons (zdk _ (zan ns)) rfl))))))))
 have h4:(zgl ((qA ns 60) (3+5*((zC slot 6).toNat))))=true:=not_f h2
 refine qM (zA (zJ (zbe [] (r_d 1 [(30,iv port)] (zeV (zbg (within9C port 65536 (by decide)) rfl rfl rfl ?_))))))
 have hw5:=within_lt port (n:=65536) (by decide)
 refine r_d 1 [(32,pv 1 1)] (r_s (by refine zX (v:=iv 10) rfl rfl ?_;exact (zkw (qA ns 60) 1 rfl (by omega)).trans (congrArg (fun x=>some (iv x)) hpl.1)) ?_)
 refine r_d 1 [(34,pv 1 2)] (r_s (by refine zX (v:=iv 80) rfl rfl ?_;exact (zkw (qA ns 60) 2 rfl (by omega)).trans (congrArg (fun x=>some (iv x)) hpl.2)) ?_)
 refine r_b 3 [(9,pv 2 0),(36,.agg #[iv 4000,iv (zC port 65536),iv 10,iv 80])] [inB o (ii ns),cw (pl (qA ns 60)),cw [iv 4000,iv (zC port 65536),iv 10,iv 80]] (za1 (zT [(9,pv 2 0),(8,iv (zC slot 6)),(7,pv 1 0)] (zJ (zM (o_d 1 [(37,pv 1 323)] (o_s (by refine zX (v:= .agg #[iv ((qA ns 60) 323),uv ((qA ns 60) 324),uv ((qA ns 60) 325),uv ((qA ns 60) 326),uv ((qA ns 60) 327),uv ((qA ns 60) 328),uv ((qA ns 60) 329)]) rfl rfl ?_;exact pl_ring (qA ns 60)) ?_))))))
 refine o_d 2 [(40,iv (zC slot 6)),(39,.agg #[iv 4000,iv (zC port 65536),iv 10,iv 80])] (qT (zag (r5MakeC (rgP (qA ns 60)) 2 (Fl.mk 4000 (zC port 65536) 10 80) (zC slot 6) (.inr rfl) (by first | omega | (rw [zff];omega))) rfl rfl rfl ?_))
 have hy6:=cookS_r (rgP (qA ns 60)) 2 (Fl.mk 4000 (zC port 65536) 10 80) (s:=zC slot 6) (by first | omega | (rw [zff];omega))
 rw [show TB 2=256 from rfl] at hy6
 refine o_d 1 [(10,iv (zac (rgP (qA ns 60)) 2 (Fl.mk 4000 (zC port 65536) 10 80) (zC slot 6)))] (zE (zA (zJ (zM (o_s (by refine zX (v:=zaq (qA ns 60)) rfl rfl ?_;exact zaD (qA ns 60)) ?_)))))
 refine o_b 1 [(11,pv 3 0)] [inB o (ii ns),cw (pl (qA ns 60)),cw [iv 4000,iv (zC port 65536),iv 10,iv 80],cw (pl qL)] (zdj (by refine zas (c':=pl (qA ns 60)) rfl rfl rfl ?_ ?_ ?_;exact qI _;exact zb2 (by omega);exact qZ qL (qA ns 60)) ?_)
 refine zE (zA (zhm (fun s=> ∃(q1:q9),0=0∧(q1=midS (qA ns 60) (zC slot 6))∧s=⟨reg [(11,pv 3 0),(10,iv (zac (rgP (qA ns 60)) 2 (Fl.mk 4000 (zC port 65536) 10 80) (zC slot 6))),(9,pv 2 0),(8,iv (zC slot 6)),(7,pv 1 0)],[inB o (ii ns),cw (pl (qA ns 60)),cw [iv 4000,iv (zC port 65536),iv 10,iv 80],cw (pl q1)]⟩) ?_ ?_))
 ·skip
  refine zJ (zM (o_d 2 [(44,pv 1 3),(43,iv (zC slot 6))] (o_s (by exact zaW (o:=3) (o':=3+5*((zC slot 6).toNat)) rfl rfl (by first | omega | (rw [zff];omega)) (by first | omega | (rw [zff];omega))) ?_)))
  refine o_s (by refine zcq (o':=3+5*((zC slot 6).toNat)) rfl (by omega)) ?_
  refine o_s (by refine zX (v:=iv ((qA ns 60) (3+5*((zC slot 6).toNat)))) rfl rfl ?_;exact zkw (qA ns 60) (3+5*((zC slot 6).toNat)) (by omega) (by omega)) ?_
  refine o_d 1 [(48,bv (((qA ns 60) (3+5*((zC slot 6).toNat)))==2))] (zE (zA (qK (t:=((qA ns 60) (3+5*((zC slot 6).toNat)))==2) rfl (fun h7=>?_) (fun h7=>?_))))
  ·skip
   have h7':(qA ns 60) (3+5*((zC slot 6).toNat))=2:=zaL h7
   refine zM (o_s (by refine zX (v:=zaq (qA ns 60)) rfl rfl ?_;exact zaD (qA ns 60)) ?_)
   refine o_d 2 [(52,.agg #[iv 3,iv (zC slot 6),iv 0,iv 0,iv 0,uv 0,uv 0]),(51,iv (zC slot 6))] (qT (zag (zi9 (qA ns 60) (⟨3,zC slot 6,0,0,0,0,0⟩)) rfl (all_cons (zbk (qA ns 60)) (all_cons rfl rfl)) (all_cons (zaw ((qD (qA ns 60) (⟨3,zC slot 6,0,0,0,0,0⟩)).1)) (all_cons rfl rfl)) (o_d 3 [(55,iv ((qD (qA ns 60) (⟨3,zC slot 6,0,0,0,0,0⟩)).2)),(54,zaq ((qD (qA ns 60) (⟨3,zC slot 6,0,0,0,0,0⟩)).1)),(49,.tuple #[zaq ((qD (qA ns 60) (⟨3,zC slot 6,0,0,0,0,0⟩)).1),iv ((qD (qA ns 60) (⟨3,zC slot 6,0,0,0,0,0⟩)).2)])] (zdj (by refine zas (c':=pl ((qD (qA ns 60) (⟨3,zC slot 6,0,0,0,0,0⟩)).1)) rfl rfl rfl ?_ ?_ ?_;exact qI _;exact zb2 (by omega);exact qZ (qA ns 60) ((qD (qA ns 60) (⟨3,zC slot 6,0,0,0,0,0⟩)).1)) ?_))))
   refine zE (⟨⟨reg [(11,pv 3 0),(10,iv (zac (rgP (qA ns 60)) 2 (Fl.mk 4000 (zC port 65536) 10 80) (zC slot 6))),(9,pv 2 0),(8,iv (zC slot 6)),(7,pv 1 0)],[inB o (ii ns),cw (pl (qA ns 60)),cw [iv 4000,iv (zC port 65536),iv 10,iv 80],cw (pl ((qD (qA ns 60) (⟨3,zC slot 6,0,0,0,0,0⟩)).1))]⟩, ?_⟩)
   refine ⟨?_, ?_⟩
   ·exact Wk.ren [0,1,2,3] rfl rfl (by decide) ⟨rfl,⟨rfl,⟨rfl,⟨rfl,⟨rfl,trivial⟩⟩⟩⟩⟩ ⟨.inl (ze8 o (zan ns)),⟨.inl (zV (zam (qA ns 60))),⟨.inl rfl,⟨.inl (zV (zam ((qD (qA ns 60) (⟨3,zC slot 6,0,0,0,0,0⟩)).1))),trivial⟩⟩⟩⟩
   ·exact ⟨((qD (qA ns 60) (⟨3,zC slot 6,0,0,0,0,0⟩)).1),rfl,(if_pos (by assumption)).symm,rfl⟩
  have h7': ¬((qA ns 60) (3+5*((zC slot 6).toNat))=2):=zaM h7
  refine qM (⟨⟨reg [(11,pv 3 0),(10,iv (zac (rgP (qA ns 60)) 2 (Fl.mk 4000 (zC port 65536) 10 80) (zC slot 6))),(9,pv 2 0),(8,iv (zC slot 6)),(7,pv 1 0)],[inB o (ii ns),cw (pl (qA ns 60)),cw [iv 4000,iv (zC port 65536),iv 10,iv 80],cw (pl (qA ns 60))]⟩, ?_⟩)
  refine ⟨?_, ?_⟩
  ·exact Wk.ren [0,1,2,3] rfl rfl (by decide) ⟨rfl,⟨rfl,⟨rfl,⟨rfl,⟨rfl,trivial⟩⟩⟩⟩⟩ ⟨.inl (ze8 o (zan ns)),⟨.inl (zV (zam (qA ns 60))),⟨.inl rfl,⟨.inl (zV (zam (qA ns 60))),trivial⟩⟩⟩⟩
  ·exact ⟨(qA ns 60),rfl,(if_neg (by assumption)).symm,rfl⟩
 rintro s ⟨q1,-,hq1,rfl⟩
 have hS:ShutOk (qA ns 60) q1 (qD q1 ⟨4,zC slot 6,0,0,0,0,0⟩).1 (zC slot 6):=by rw [hq1];exact shut_mid (by omega) (by assumption)
 have hL:=shut_law hS (by omega) (fp:=(zC port 65536)) (by omega)
 refine zJ (zM (o_s (by refine zX (v:=zaq q1) rfl rfl ?_;exact zaD q1) ?_))
 refine qT (zdA [] [] [zaq q1] (upC q1) rfl (zS (qQ (zbk q1)) rfl) trivial (by decide) ?_)
 rintro v1 h1' ⟨m8,rfl,rfl⟩
 refine ⟨zah,pv 4 0,[inB o (ii ns),cw (pl (qA ns 60)),cw [iv 4000,iv (zC port 65536),iv 10,iv 80],cw (pl q1)],[cw (zN q1 true nr0 (slV 5 127 (some m8))),slB zI (ii (qC q1)) (some m8)],rfl,⟨rfl,⟨rfl,⟨rfl,⟨rfl,trivial⟩⟩⟩⟩,⟨(Option.some.inj (qF rfl)).symm,⟨(Option.some.inj (q8 (some m8) (fun _=>(zaf _ _)))).symm,trivial⟩⟩, ?_⟩
 refine o_d 1 [(12,pv 4 0)] (zE (zA (zJ (zM (o_s (by refine zX (v:=zaq q1) rfl rfl ?_;exact zaD q1) ?_)))))
 refine o_d 2 [(61,.agg #[iv 4,iv (zC slot 6),iv 0,iv 0,iv 0,uv 0,uv 0]),(60,iv (zC slot 6))] (qT (zag (zi9 q1 (⟨4,zC slot 6,0,0,0,0,0⟩)) rfl (all_cons (zbk q1) (all_cons rfl rfl)) (all_cons (zaw ((qD q1 (⟨4,zC slot 6,0,0,0,0,0⟩)).1)) (all_cons rfl rfl)) (o_d 3 [(64,iv ((qD q1 (⟨4,zC slot 6,0,0,0,0,0⟩)).2)),(63,zaq ((qD q1 (⟨4,zC slot 6,0,0,0,0,0⟩)).1)),(58,.tuple #[zaq ((qD q1 (⟨4,zC slot 6,0,0,0,0,0⟩)).1),iv ((qD q1 (⟨4,zC slot 6,0,0,0,0,0⟩)).2)])] (zdj (by refine zas (c':=pl ((qD q1 (⟨4,zC slot 6,0,0,0,0,0⟩)).1)) rfl rfl rfl ?_ ?_ ?_;exact qI _;exact zb2 (by omega);exact qZ q1 ((qD q1 (⟨4,zC slot 6,0,0,0,0,0⟩)).1)) ?_))))
 refine zE (zA (zJ (zM (o_s (by refine zX (v:=zaq ((qD q1 (⟨4,zC slot 6,0,0,0,0,0⟩)).1)) rfl rfl ?_;exact zaD ((qD q1 (⟨4,zC slot 6,0,0,0,0,0⟩)).1)) ?_))))
 refine qT (zdA [] [] [zaq ((qD q1 (⟨4,zC slot 6,0,0,0,0,0⟩)).1)] (upC ((qD q1 (⟨4,zC slot 6,0,0,0,0,0⟩)).1)) rfl (zS (qQ (zbk ((qD q1 (⟨4,zC slot 6,0,0,0,0,0⟩)).1))) rfl) trivial (by decide) ?_)
 rintro v1 h1' ⟨m9,rfl,rfl⟩
 refine ⟨zah,pv 6 0,[inB o (ii ns),cw (pl (qA ns 60)),cw [iv 4000,iv (zC port 65536),iv 10,iv 80],cw (pl ((qD q1 (⟨4,zC slot 6,0,0,0,0,0⟩)).1)),cw (zN q1 true nr0 (slV 5 127 (some m8))),slB zI (ii (qC q1)) (some m8)],[cw (zN ((qD q1 (⟨4,zC slot 6,0,0,0,0,0⟩)).1) true nr0 (slV 7 127 (some m9))),slB zI (ii (qC ((qD q1 (⟨4,zC slot 6,0,0,0,0,0⟩)).1))) (some m9)],rfl,⟨rfl,⟨rfl,⟨rfl,⟨rfl,⟨rfl,⟨rfl,trivial⟩⟩⟩⟩⟩⟩,⟨(Option.some.inj (qF rfl)).symm,⟨(Option.some.inj (q8 (some m9) (fun _=>(zaf _ _)))).symm,trivial⟩⟩, ?_⟩
 refine o_d 1 [(13,pv 6 0)] (zE (zA (zJ (zJ (zM (o_d 6 [(72,bv false),(71,bv false),(70,pv 4 0),(69,bv false),(68,bv false),(67,pv 6 0)] (zE (zA (zbx rfl (qM (⟨⟨reg [(13,pv 6 0),(12,pv 4 0),(10,iv (zac (rgP (qA ns 60)) 2 (Fl.mk 4000 (zC port 65536) 10 80) (zC slot 6))),(9,pv 2 0),(8,iv (zC slot 6)),(7,pv 1 0)],[inB o (ii ns),cw (pl (qA ns 60)),cw [iv 4000,iv (zC port 65536),iv 10,iv 80],cw (pl ((qD q1 (⟨4,zC slot 6,0,0,0,0,0⟩)).1)),cw (zN q1 true nr0 (slV 5 127 (some m8))),slB zI (ii (qC q1)) (some m8),cw (zN ((qD q1 (⟨4,zC slot 6,0,0,0,0,0⟩)).1) true nr0 (slV 7 127 (some m9))),slB zI (ii (qC ((qD q1 (⟨4,zC slot 6,0,0,0,0,0⟩)).1))) (some m9),.gone,.gone]⟩,Wk.ren [0,1,2,3,4,5,6,7,8,9] rfl rfl (by decide) ⟨rfl,⟨rfl,⟨rfl,⟨rfl,⟨rfl,⟨rfl,trivial⟩⟩⟩⟩⟩⟩ ⟨.inl (ze8 o (zan ns)),⟨.inl (zV (zam (qA ns 60))),⟨.inl rfl,⟨.inl (zV (zam ((qD q1 (⟨4,zC slot 6,0,0,0,0,0⟩)).1))),⟨.inl (qF rfl),⟨.inl (q8 (some m8) (fun _=>(zaf _ _))),⟨.inl (qF rfl),⟨.inl (q8 (some m9) (fun _=>(zaf _ _))),⟨.inr ⟨rfl,rfl⟩,⟨.inr ⟨rfl,rfl⟩,trivial⟩⟩⟩⟩⟩⟩⟩⟩⟩⟩, ?_⟩)))))))))))
 refine zJ (zM (o_d 5 [(78,pv 1 1),(77,iv (zC port 65536)),(76,pv 2 1),(75,iv 4000),(74,pv 2 0)] (o_s (by refine zX (v:=iv 10) rfl rfl ?_;exact (zkw (qA ns 60) 1 rfl (by omega)).trans (congrArg (fun x=>some (iv x)) hpl.1)) ?_)))
 refine o_d 1 [(80,pv 1 2)] (o_s (by refine zX (v:=iv 80) rfl rfl ?_;exact (zkw (qA ns 60) 2 rfl (by omega)).trans (congrArg (fun x=>some (iv x)) hpl.2)) ?_)
 refine o_d 2 [(83,.agg #[iv 2,iv 5,iv 0,iv 4000,iv 10,iv (zC port 65536),iv 80,iv 0,iv (zac (rgP (qA ns 60)) 2 (Fl.mk 4000 (zC port 65536) 10 80) (zC slot 6)),bv false,iv 0,.slice none 0 0,.slice none 0 0]),(82,iv (zac (rgP (qA ns 60)) 2 (Fl.mk 4000 (zC port 65536) 10 80) (zC slot 6)))] (qT (zaG [8,9] [zH none (u8 ([]:List Int)) false,zH none (u8 ([]:List Int)) false] [pkV (pkG 4000 (zC port 65536) 10 80 (zac (rgP (qA ns 60)) 2 (Fl.mk 4000 (zC port 65536) 10 80) (zC slot 6))) none 0 none 1] (Build2C none none ([]:List Int) ([]:List Int) (pkG 4000 (zC port 65536) 10 80 (zac (rgP (qA ns 60)) 2 (Fl.mk 4000 (zC port 65536) 10 80) (zC slot 6))) (row_nil) (row_nil) (pkG_ok (by omega) (by omega) (by omega) (by omega) (by omega)) rfl) rfl (zS (zcL rfl rfl) rfl) ⟨⟨_,rfl,.inr ⟨rfl,rfl⟩⟩,⟨⟨_,rfl,.inr ⟨rfl,rfl⟩⟩,trivial⟩⟩ (by decide) ?_))
 rintro v1 h1' ⟨rfl,rfl⟩
 refine ⟨zab [_,_] [_],.tuple #[zQ (some (0,(bld (pkG 4000 (zC port 65536) 10 80 (zac (rgP (qA ns 60)) 2 (Fl.mk 4000 (zC port 65536) 10 80) (zC slot 6)))).length)) 10 ((bld (pkG 4000 (zC port 65536) 10 80 (zac (rgP (qA ns 60)) 2 (Fl.mk 4000 (zC port 65536) 10 80) (zC slot 6)))).length),iv 0],[inB o (ii ns),cw (pl (qA ns 60)),cw [iv 4000,iv (zC port 65536),iv 10,iv 80],cw (pl ((qD q1 (⟨4,zC slot 6,0,0,0,0,0⟩)).1)),cw (zN q1 true nr0 (slV 5 127 (some m8))),slB zI (ii (qC q1)) (some m8),cw (zN ((qD q1 (⟨4,zC slot 6,0,0,0,0,0⟩)).1) true nr0 (slV 7 127 (some m9))),slB zI (ii (qC ((qD q1 (⟨4,zC slot 6,0,0,0,0,0⟩)).1))) (some m9),.gone,.gone],[zH (some (0,(bld (pkG 4000 (zC port 65536) 10 80 (zac (rgP (qA ns 60)) 2 (Fl.mk 4000 (zC port 65536) 10 80) (zC slot 6)))).length)) (u8 (bld (pkG 4000 (zC port 65536) 10 80 (zac (rgP (qA ns 60)) 2 (Fl.mk 4000 (zC port 65536) 10 80) (zC slot 6))))) true],((zdO _).trans rfl),⟨rfl,⟨rfl,⟨rfl,⟨rfl,⟨rfl,⟨rfl,⟨rfl,⟨rfl,⟨rfl,⟨rfl,trivial⟩⟩⟩⟩⟩⟩⟩⟩⟩⟩,⟨(zdg (zG _)),trivial⟩, ?_⟩
 refine o_d 5 [(15,iv 0),(14,zQ (some (0,(bld (pkG 4000 (zC port 65536) 10 80 (zac (rgP (qA ns 60)) 2 (Fl.mk 4000 (zC port 65536) 10 80) (zC slot 6)))).length)) 10 ((bld (pkG 4000 (zC port 65536) 10 80 (zac (rgP (qA ns 60)) 2 (Fl.mk 4000 (zC port 65536) 10 80) (zC slot 6)))).length)),(86,iv 0),(85,zQ (some (0,(bld (pkG 4000 (zC port 65536) 10 80 (zac (rgP (qA ns 60)) 2 (Fl.mk 4000 (zC port 65536) 10 80) (zC slot 6)))).length)) 10 ((bld (pkG 4000 (zC port 65536) 10 80 (zac (rgP (qA ns 60)) 2 (Fl.mk 4000 (zC port 65536) 10 80) (zC slot 6)))).length)),(73,.tuple #[zQ (some (0,(bld (pkG 4000 (zC port 65536) 10 80 (zac (rgP (qA ns 60)) 2 (Fl.mk 4000 (zC port 65536) 10 80) (zC slot 6)))).length)) 10 ((bld (pkG 4000 (zC port 65536) 10 80 (zac (rgP (qA ns 60)) 2 (Fl.mk 4000 (zC port 65536) 10 80) (zC slot 6)))).length),iv 0])] (zE (zA (zJ (zM (o_d 2 [(88,zQ (some (0,(bld (pkG 4000 (zC port 65536) 10 80 (zac (rgP (qA ns 60)) 2 (Fl.mk 4000 (zC port 65536) 10 80) (zC slot 6)))).length)) 10 ((bld (pkG 4000 (zC port 65536) 10 80 (zac (rgP (qA ns 60)) 2 (Fl.mk 4000 (zC port 65536) 10 80) (zC slot 6)))).length)),(87,pv 6 0)] ?_)))))
 obtain ⟨T10,hT10⟩: ∃z9,zaB ((qD q1 (⟨4,zC slot 6,0,0,0,0,0⟩)).1) nr0 (bld (pkG 4000 (zC port 65536) 10 80 (zac (rgP (qA ns 60)) 2 (Fl.mk 4000 (zC port 65536) 10 80) (zC slot 6))))=z9:=⟨_,rfl⟩
 have hA:T10.1.c=false∧T10.1.s≠zC slot 6:=by rw [←hT10];exact hL.1
 refine qT (zdA [6,10,7] [cw (zN ((qD q1 (⟨4,zC slot 6,0,0,0,0,0⟩)).1) true nr0 (slV 2 127 (some m9))),zH (some (0,(bld (pkG 4000 (zC port 65536) 10 80 (zac (rgP (qA ns 60)) 2 (Fl.mk 4000 (zC port 65536) 10 80) (zC slot 6)))).length)) (u8 (bld (pkG 4000 (zC port 65536) 10 80 (zac (rgP (qA ns 60)) 2 (Fl.mk 4000 (zC port 65536) 10 80) (zC slot 6))))) false,slB zI (ii (qC ((qD q1 (⟨4,zC slot 6,0,0,0,0,0⟩)).1))) (some m9)] [pv 0 0,zQ (some (0,(bld (pkG 4000 (zC port 65536) 10 80 (zac (rgP (qA ns 60)) 2 (Fl.mk 4000 (zC port 65536) 10 80) (zC slot 6)))).length)) 1 ((bld (pkG 4000 (zC port 65536) 10 80 (zac (rgP (qA ns 60)) 2 (Fl.mk 4000 (zC port 65536) 10 80) (zC slot 6)))).length)] (TakeT hT10 (TakeC9 ((qD q1 (⟨4,zC slot 6,0,0,0,0,0⟩)).1) nr0 m9 (some (0,(bld (pkG 4000 (zC port 65536) 10 80 (zac (rgP (qA ns 60)) 2 (Fl.mk 4000 (zC port 65536) 10 80) (zC slot 6)))).length)) (bld (pkG 4000 (zC port 65536) 10 80 (zac (rgP (qA ns 60)) 2 (Fl.mk 4000 (zC port 65536) 10 80) (zC slot 6)))) (bld (pkG 4000 (zC port 65536) 10 80 (zac (rgP (qA ns 60)) 2 (Fl.mk 4000 (zC port 65536) 10 80) (zC slot 6)))) (RowOf.whole rfl (Nat.le_refl _)) (by first | omega | (rw [zff];omega)) hS.r2 nr0_r (by rw [zjf (pkG_ok (by omega) (by omega) (by omega) (by omega) (by omega))];simp [pkG]))) rfl rfl ⟨⟨_,rfl,zao (.inl (zaP rfl (fun q=>rfl)))⟩,⟨⟨_,rfl,zao (zZ (q:=some (0,(bld (pkG 4000 (zC port 65536) 10 80 (zac (rgP (qA ns 60)) 2 (Fl.mk 4000 (zC port 65536) 10 80) (zC slot 6)))).length)) (q':=some (0,(bld (pkG 4000 (zC port 65536) 10 80 (zac (rgP (qA ns 60)) 2 (Fl.mk 4000 (zC port 65536) 10 80) (zC slot 6)))).length)) (zG _) rfl (fun q=>rfl))⟩,⟨⟨_,rfl,zao (zg8 (some m9) (fun _=>(zaf _ _)))⟩,trivial⟩⟩⟩ (by decide) ?_)
 rintro v1 h1' ⟨rfl,rfl⟩
 refine ⟨(zW zaF (zW z8 (zW z8 zah))),.agg #[iv T10.1.e,iv T10.1.s,bv T10.1.c,zQ (zD T10.1.b) 11 T10.1.b.length],[inB o (ii ns),cw (pl (qA ns 60)),cw [iv 4000,iv (zC port 65536),iv 10,iv 80],cw (pl ((qD q1 (⟨4,zC slot 6,0,0,0,0,0⟩)).1)),cw (zN q1 true nr0 (slV 5 127 (some m8))),slB zI (ii (qC q1)) (some m8),cw (zN ((qD q1 (⟨4,zC slot 6,0,0,0,0,0⟩)).1) true T10.2 (slV 7 127 (some m9))),slB zI (ii (qC ((qD q1 (⟨4,zC slot 6,0,0,0,0,0⟩)).1))) (some m9),.gone,.gone,zH (some (0,(bld (pkG 4000 (zC port 65536) 10 80 (zac (rgP (qA ns 60)) 2 (Fl.mk 4000 (zC port 65536) 10 80) (zC slot 6)))).length)) (u8 (bld (pkG 4000 (zC port 65536) 10 80 (zac (rgP (qA ns 60)) 2 (Fl.mk 4000 (zC port 65536) 10 80) (zC slot 6))))) true],[zH (zD T10.1.b) (u8 T10.1.b) true],(zbn rfl),⟨rfl,⟨rfl,⟨rfl,⟨rfl,⟨rfl,⟨rfl,⟨zbi rfl,⟨(by rcases some m9 with _ | m9<;>first | rfl | exact za9 (zaf _ _)),⟨rfl,⟨rfl,⟨rfl,trivial⟩⟩⟩⟩⟩⟩⟩⟩⟩⟩⟩,⟨(Option.some.inj (zF (zG _))).symm,trivial⟩, ?_⟩
 refine o_d 2 [(91,zQ (some (0,(bld (pkG 4000 (zC port 65536) 10 80 (zac (rgP (qA ns 60)) 2 (Fl.mk 4000 (zC port 65536) 10 80) (zC slot 6)))).length)) 10 ((bld (pkG 4000 (zC port 65536) 10 80 (zac (rgP (qA ns 60)) 2 (Fl.mk 4000 (zC port 65536) 10 80) (zC slot 6)))).length)),(90,pv 4 0)] ?_
 obtain ⟨T11,hT11⟩: ∃z9,zaB q1 nr0 (bld (pkG 4000 (zC port 65536) 10 80 (zac (rgP (qA ns 60)) 2 (Fl.mk 4000 (zC port 65536) 10 80) (zC slot 6))))=z9:=⟨_,rfl⟩
 have hB:(zac (rgP (qA ns 60)) 2 (Fl.mk 4000 (zC port 65536) 10 80) (zC slot 6))≠0→T11.1.e=0∧T11.1.c=true∧T11.1.s=zC slot 6:=by rw [←hT11];exact hL.2
 refine qT (zdA [4,10,5] [cw (zN q1 true nr0 (slV 2 127 (some m8))),zH (some (0,(bld (pkG 4000 (zC port 65536) 10 80 (zac (rgP (qA ns 60)) 2 (Fl.mk 4000 (zC port 65536) 10 80) (zC slot 6)))).length)) (u8 (bld (pkG 4000 (zC port 65536) 10 80 (zac (rgP (qA ns 60)) 2 (Fl.mk 4000 (zC port 65536) 10 80) (zC slot 6))))) false,slB zI (ii (qC q1)) (some m8)] [pv 0 0,zQ (some (0,(bld (pkG 4000 (zC port 65536) 10 80 (zac (rgP (qA ns 60)) 2 (Fl.mk 4000 (zC port 65536) 10 80) (zC slot 6)))).length)) 1 ((bld (pkG 4000 (zC port 65536) 10 80 (zac (rgP (qA ns 60)) 2 (Fl.mk 4000 (zC port 65536) 10 80) (zC slot 6)))).length)] (TakeT hT11 (TakeC9 q1 nr0 m8 (some (0,(bld (pkG 4000 (zC port 65536) 10 80 (zac (rgP (qA ns 60)) 2 (Fl.mk 4000 (zC port 65536) 10 80) (zC slot 6)))).length)) (bld (pkG 4000 (zC port 65536) 10 80 (zac (rgP (qA ns 60)) 2 (Fl.mk 4000 (zC port 65536) 10 80) (zC slot 6)))) (bld (pkG 4000 (zC port 65536) 10 80 (zac (rgP (qA ns 60)) 2 (Fl.mk 4000 (zC port 65536) 10 80) (zC slot 6)))) (RowOf.whole rfl (Nat.le_refl _)) (by first | omega | (rw [zff];omega)) hS.r1 nr0_r (by rw [zjf (pkG_ok (by omega) (by omega) (by omega) (by omega) (by omega))];simp [pkG]))) rfl rfl ⟨⟨_,rfl,zao (.inl (zaP rfl (fun q=>rfl)))⟩,⟨⟨_,rfl,zao (zZ (q:=some (0,(bld (pkG 4000 (zC port 65536) 10 80 (zac (rgP (qA ns 60)) 2 (Fl.mk 4000 (zC port 65536) 10 80) (zC slot 6)))).length)) (q':=some (0,(bld (pkG 4000 (zC port 65536) 10 80 (zac (rgP (qA ns 60)) 2 (Fl.mk 4000 (zC port 65536) 10 80) (zC slot 6)))).length)) (zG _) rfl (fun q=>rfl))⟩,⟨⟨_,rfl,zao (zg8 (some m8) (fun _=>(zaf _ _)))⟩,trivial⟩⟩⟩ (by decide) ?_)
 rintro v1 h1' ⟨rfl,rfl⟩
 refine ⟨(zW zaF (zW z8 (zW z8 zah))),.agg #[iv T11.1.e,iv T11.1.s,bv T11.1.c,zQ (zD T11.1.b) 12 T11.1.b.length],[inB o (ii ns),cw (pl (qA ns 60)),cw [iv 4000,iv (zC port 65536),iv 10,iv 80],cw (pl ((qD q1 (⟨4,zC slot 6,0,0,0,0,0⟩)).1)),cw (zN q1 true T11.2 (slV 5 127 (some m8))),slB zI (ii (qC q1)) (some m8),cw (zN ((qD q1 (⟨4,zC slot 6,0,0,0,0,0⟩)).1) true T10.2 (slV 7 127 (some m9))),slB zI (ii (qC ((qD q1 (⟨4,zC slot 6,0,0,0,0,0⟩)).1))) (some m9),.gone,.gone,zH (some (0,(bld (pkG 4000 (zC port 65536) 10 80 (zac (rgP (qA ns 60)) 2 (Fl.mk 4000 (zC port 65536) 10 80) (zC slot 6)))).length)) (u8 (bld (pkG 4000 (zC port 65536) 10 80 (zac (rgP (qA ns 60)) 2 (Fl.mk 4000 (zC port 65536) 10 80) (zC slot 6))))) true,zH (zD T10.1.b) (u8 T10.1.b) true],[zH (zD T11.1.b) (u8 T11.1.b) true],(zbn rfl),⟨rfl,⟨rfl,⟨rfl,⟨rfl,⟨zbi rfl,⟨(by rcases some m8 with _ | m9<;>first | rfl | exact za9 (zaf _ _)),⟨rfl,⟨rfl,⟨rfl,⟨rfl,⟨rfl,⟨rfl,trivial⟩⟩⟩⟩⟩⟩⟩⟩⟩⟩⟩⟩,⟨(Option.some.inj (zF (zG _))).symm,trivial⟩, ?_⟩
 refine o_b 4 [(17,pv 14 0),(16,pv 13 0)] [inB o (ii ns),cw (pl (qA ns 60)),cw [iv 4000,iv (zC port 65536),iv 10,iv 80],cw (pl ((qD q1 (⟨4,zC slot 6,0,0,0,0,0⟩)).1)),cw (zN q1 true T11.2 (slV 5 127 (some m8))),slB zI (ii (qC q1)) (some m8),cw (zN ((qD q1 (⟨4,zC slot 6,0,0,0,0,0⟩)).1) true T10.2 (slV 7 127 (some m9))),slB zI (ii (qC ((qD q1 (⟨4,zC slot 6,0,0,0,0,0⟩)).1))) (some m9),.gone,.gone,zH (some (0,(bld (pkG 4000 (zC port 65536) 10 80 (zac (rgP (qA ns 60)) 2 (Fl.mk 4000 (zC port 65536) 10 80) (zC slot 6)))).length)) (u8 (bld (pkG 4000 (zC port 65536) 10 80 (zac (rgP (qA ns 60)) 2 (Fl.mk 4000 (zC port 65536) 10 80) (zC slot 6))))) true,zH (zD T10.1.b) (u8 T10.1.b) true,zH (zD T11.1.b) (u8 T11.1.b) true,cw [iv T10.1.e,iv T10.1.s,bv T10.1.c,zQ (zD T10.1.b) 11 T10.1.b.length],cw [iv T11.1.e,iv T11.1.s,bv T11.1.c,zQ (zD T11.1.b) 12 T11.1.b.length]] (zE (zT [(17,pv 14 0),(16,pv 13 0),(10,iv (zac (rgP (qA ns 60)) 2 (Fl.mk 4000 (zC port 65536) 10 80) (zC slot 6))),(8,iv (zC slot 6))] (zJ (zM (o_d 4 [(96,bv (!T10.1.c)),(95,bv (!T10.1.c)),(94,bv T10.1.c),(93,pv 13 2)] (zce (b:= !T10.1.c) 96 rfl (fun k12=>?_) (fun q=>by rw [(by rw [(hA.1:(T10.1.c)=false)];rfl:(!T10.1.c)=true)] at q;cases q)))))))
 refine o_d 6 [(102,bv (T10.1.s !=(zC slot 6))),(101,bv (T10.1.s !=(zC slot 6))),(100,bv (T10.1.s !=(zC slot 6))),(99,iv (zC slot 6)),(98,iv T10.1.s),(97,pv 13 1)] (zce (b:=T10.1.s !=(zC slot 6)) 102 rfl (fun k13=>?_) (fun q=>by rw [(bne_iff_ne.2 hA.2:(T10.1.s !=(zC slot 6))=true)] at q;cases q))
 refine o_d 3 [(105,bv ((zac (rgP (qA ns 60)) 2 (Fl.mk 4000 (zC port 65536) 10 80) (zC slot 6))==0)),(104,bv ((zac (rgP (qA ns 60)) 2 (Fl.mk 4000 (zC port 65536) 10 80) (zC slot 6))==0)),(103,iv (zac (rgP (qA ns 60)) 2 (Fl.mk 4000 (zC port 65536) 10 80) (zC slot 6)))] (zce (b:=(zac (rgP (qA ns 60)) 2 (Fl.mk 4000 (zC port 65536) 10 80) (zC slot 6))==0) 105 rfl (fun h14=>?_) (fun h14=>?_))
 ·skip
  have h14':zac (rgP (qA ns 60)) 2 (Fl.mk 4000 (zC port 65536) 10 80) (zC slot 6)=0:=zaL h14
  exact o_d 16 [(6,bv true),(120,bv true),(119,bv true),(118,undef),(117,undef),(116,undef),(115,undef),(114,undef),(113,undef),(112,undef),(111,undef),(110,undef),(109,undef),(108,undef),(107,undef),(106,undef)] (zE (zT [(6,bv true)] (qS (z7 [bv true] (zR rfl rfl) rfl (by rfl) rfl (show List.all [inB o (ii ns)] ziA=true from (all_cons (zdk _ (zan ns)) rfl))))))
 have h14': ¬(zac (rgP (qA ns 60)) 2 (Fl.mk 4000 (zC port 65536) 10 80) (zC slot 6)=0):=zaM h14
 refine o_d 4 [(109,bv (T11.1.e==0)),(108,bv (T11.1.e==0)),(107,iv T11.1.e),(106,pv 14 0)] (zce (b:=T11.1.e==0) 109 rfl (fun k15=>?_) (fun q=>by rw [(beq_iff_eq.2 (hB (by assumption)).1:(T11.1.e==0)=true)] at q;cases q))
 refine o_d 4 [(113,bv T11.1.c),(112,bv T11.1.c),(111,bv T11.1.c),(110,pv 14 2)] (zce (b:=T11.1.c) 113 rfl (fun k16=>?_) (fun q=>by rw [((hB (by assumption)).2.1:(T11.1.c)=true)] at q;cases q))
 refine o_d 8 [(6,bv (T11.1.s==(zC slot 6))),(120,bv (T11.1.s==(zC slot 6))),(119,bv (T11.1.s==(zC slot 6))),(118,bv (T11.1.s==(zC slot 6))),(117,bv (T11.1.s==(zC slot 6))),(116,iv (zC slot 6)),(115,iv T11.1.s),(114,pv 14 1)] (zE (zT [(6,bv (T11.1.s==(zC slot 6)))] (qS ?_)))
 have E0_:(T11.1.s==(zC slot 6))=true:=by
  exact beq_iff_eq.2 (hB (by assumption)).2.2
 exact z7 [bv (T11.1.s==(zC slot 6))] (zR rfl rfl) rfl (by rw [E0_];rfl) rfl (show List.all [inB o (ii ns)] ziA=true from (all_cons (zdk _ (zan ns)) rfl))
end Go.Rh
