/- The proofs zch the intermediate form, part QPlaneNearsg. -/
import Derived.Test.YtcgficakdfdepaaQPlaneNearsf
import Derived.Test.YtcgficakdfdepaaQPlaneNearse
open Go.IntKind (i64)
set_option linter.unusedVariables false
set_option linter.unusedSimpArgs false
set_option maxRecDepth 100000
set_option maxHeartbeats 1000000
namespace Go.Rh
abbrev wo a (b:zds) (c:Nat) d e (f:List Int) g:=cw (zL a true b (slV 2 127 (some c)))::zG (some (d,e)) (u8 f) false::slB zI (ii (qA a)) (some c)::g
abbrev yQ a (b:List Int) c d:=[cw wk,zG (zD a.op) (u8 a.op) true,zG (zD a.da) (u8 a.da) true,cw (wD a 4 5),cw (qS a (zD a.op) 4 (zD a.da) 5 0 (wa b) c b.length),zG (wa b) (u8 d) true]
abbrev xP a (b:zds) (c:Nat) d (e:List Int) f:=cw (zL a true b (wt 2 c))::zG d (u8 e) false::slB zI (ii (qA a)) (some c)::f
abbrev x9 a:=[zG (zD a.op) (u8 a.op) true,zG (zD a.da) (u8 a.da) true,cw (wD a 4 5)]
abbrev Ws a b c d (e:List Int) f:=(qS a (zD a.op) b (zD a.da) c d (wa e) f e.length)
theorem TakeC9 {P:Program} [PrC P] (p:q9) (nr:zds) (w9:Nat) (q:Option (Nat×Nat)) (L l:List Int) (hr:RowOf q L l) (hl:l.length≤100000) (H:PRng p) (hnr: ∀k,0≤(nr k).1∧(nr k).1 < 4294967296) (hnf:(qU l).2.k≠3):
    Env P "(*roundhouse/plane.Plane).Take" [pv 0 0,zQ q 1 l.length] ([cw (zL p true nr (wt 2 w9)),zG q (u8 L) false,slB zI (ii (qA p)) (some w9)]) (fun v h'=>v=ocV (zaU p nr l).1 3∧h'= [cw (zL p true (zaU p nr l).2 (wt 2 w9)),zG q (u8 L) false,slB zI (ii (qA p)) (some w9),zG (zD (zaU p nr l).1.b) (u8 (zaU p nr l).1.b) true]):=by
 refine Env.by4 PrC.plane_Plane_Take ?_
 unfold zcx
 show GC _ 3 _ _ ⟨reg [(0,pv 0 0),(1,zQ q 1 l.length)],[cw (zL p true nr (wt 2 w9)),zG q (u8 L) false,slB zI (ii (qA p)) (some w9)]⟩
 have hp1:=H.a
 have hp2:=H.b
 refine zJ (zN (o_b 1 [(4,pv 3 0)] (xP p nr w9 q L [cw wk]) (zE (zA (zJ (zJ (zN (o_d 4 (wM 13 0 330 12 0 11 0 10 0) (o_s (by refine zV (v:=bv true) rfl rfl ?_;exact (zfe 0).trans rfl) ?_)))))))))
 refine o_d 1 [(15,bv false)] (zE (zA (zba rfl (qM (zA (zJ (zN (o_d 1 (vc 18 q 1 l) ?_))))))))
 obtain ⟨⟨e1,xe1⟩,he1⟩: ∃z9,qU l=z9:=⟨_,rfl⟩
 refine qT (zaH [1] (wy q L) (Wh q l) (ParseC3 he1 (ParseC q L l hr om)) rfl (zM (qI rfl) rfl) ⟨⟨_,rfl,z4 (zH _) rfl (fun q=>q)⟩,trivial⟩ dC ?_)
 rintro v1 h1' ⟨rfl,rfl⟩
 refine ⟨zai [_] [_,_],.tuple #[pkV xe1 (zD xe1.op) 4 (zD xe1.da) 5,iv e1],(xP p nr w9 q L [cw wk]),[zG (zD xe1.op) (u8 xe1.op) true,zG (zD xe1.da) (u8 xe1.da) true],(ren_pkT rfl rfl),⟨rfl,(zaY rfl rfl),rfl,rfl,trivial⟩,⟨(Option.some.inj (zF (zH _))).symm,(Option.some.inj (zF (zH _))).symm,trivial⟩, ?_⟩
 refine o_b 6 [(6,iv e1),(5,pv 6 0),(21,iv e1),(20,pkV xe1 (zD xe1.op) 4 (zD xe1.da) 5),(17,.tuple #[pkV xe1 (zD xe1.op) 4 (zD xe1.da) 5,iv e1])] (xP p nr w9 q L (cw wk::(x9 xe1))) (zE (zA (zJ (zab (zJ (zN (o_d 3 [(22,bv (e1 !=0)),(24,bv (e1 !=0)),(23,iv e1)] (zE (zA (qK (t:=e1 !=0) rfl (fun h2=>?_) (fun h2=>?_)))))))))))
 ·skip
  have h2':e1≠0:=zfN h2
  refine zJ (zN (o_d 1 [(25,iv e1)] (qT (zal (dropC e1) rfl rfl rfl (o_b 1 [] (xP p nr w9 q L (cw [iv e1,iv (-1),bv false,.slice none 0 0]::(x9 xe1))) (zE (zA (qV ?_))))))))
  have he:zaU p nr l=(zeB e1,nr):=take_e he1 (by assumption)
  exact ⟨trivial,[.agg (Yd e1)],(qY rfl rfl rfl rfl),(zK rfl z5),⟨reg [],(xP p nr w9 q L [.gone])⟩,[0,1,2,10],[.agg (Yd e1)],WkR.of (rs:= []) rfl rfl dC trivial ⟨.inl (qE rfl),.inl (zF (zH _)),.inl (qX (some w9) (fun _=>(zaf _ _))),.inr ⟨rfl,rfl⟩,trivial⟩,(zM (zbq (q:=none) (k:=0) (k':=0) (n:=0) rfl) rfl),(by rw [he];rfl),(by rw [he];rfl)⟩
 have h2': ¬(e1≠0):=zfO h2
 have hk3: ¬xe1.k=3:=by have:=hnf;rw [he1] at this;exact this
 have he0:e1=0:=om
 subst he0
 have hp9:=he1
 have hl9:=zcP hp9
 have hx9:=zfh hp9
 have hop9:xe1.op.length+24≤l.length:=by rw [(zeS hp9).2];exact pk_op hl9.1
 obtain ⟨o,c,rfl⟩: ∃o c,q=some (o,c):=by cases q with | none=>(have:=hr.nil rfl;omega) | some p=>exact ⟨p.1,p.2,rfl⟩
 refine zJ (zN (o_d 1 [(28,pv 6 2)] (o_s (by refine zV (v:=iv xe1.pi) rfl rfl ?_;exact rfl) ?_)))
 refine o_d 2 [(27,bv (xe1.pi !=0)),(30,bv (xe1.pi !=0))] (zE (zA (qK (t:=xe1.pi !=0) rfl (fun h3=>?_) (fun h3=>?_))))
 ·skip
  have h3':xe1.pi≠0:=zfN h3
  refine zJ (zN (qT (zal (dropC 6) rfl rfl rfl (o_b 1 [] (wo p nr w9 o c L (cw (wY 6)::(x9 xe1))) (zE (zT [(4,pv 3 0)] (qV ?_)))))))
  have he:zaU p nr l=(zeB 6,nr):=take_pi hp9 (by assumption)
  exact ⟨trivial,[.agg (yk 6)],(qY rfl rfl rfl rfl),(zK rfl z5),⟨reg [],(wo p nr w9 o c L [.gone])⟩,[0,1,2,10],[.agg (yk 6)],WkR.of (rs:= []) rfl rfl dC trivial ⟨.inl (qE rfl),.inl (zF (zH _)),.inl (qX (some w9) (fun _=>(zaf _ _))),.inr ⟨rfl,rfl⟩,trivial⟩,(zM (zbq (q:=none) (k:=0) (k':=0) (n:=0) rfl) rfl),(by rw [he];rfl),(by rw [he];rfl)⟩
 have h3': ¬(xe1.pi≠0):=zfO h3
 refine zJ (zN (o_d 1 [(33,pv 6 1)] (o_s (by refine zV (v:=iv xe1.li) rfl rfl ?_;exact rfl) ?_)))
 refine o_d 2 [(32,bv (decide (xe1.li < 2))),(35,bv (decide (xe1.li < 2)))] (zE (zT [(32,bv (decide (xe1.li < 2))),(5,pv 6 0),(4,pv 3 0),(0,pv 0 0),(1,zQ (wz o c) 1 l.length)] (qK (t:=decide (xe1.li < 2)) rfl (fun h4=>?_) (fun h4=>?_))))
 ·skip
  have h4':xe1.li < 2:=of_decide_eq_true h4
  refine zJ (zN (qT (zal (dropC 7) rfl rfl rfl (o_b 1 [] (wo p nr w9 o c L (cw (wY 7)::(x9 xe1))) (zE (zA (qV ?_)))))))
  have he:zaU p nr l=(zeB 7,nr):=take_li hp9 om (by assumption)
  exact ⟨trivial,[.agg (yk 7)],(qY rfl rfl rfl rfl),(zK rfl z5),⟨reg [],(wo p nr w9 o c L [.gone])⟩,[0,1,2,10],[.agg (yk 7)],WkR.of (rs:= []) rfl rfl dC trivial ⟨.inl (qE rfl),.inl (zF (zH _)),.inl (qX (some w9) (fun _=>(zaf _ _))),.inr ⟨rfl,rfl⟩,trivial⟩,(zM (zbq (q:=none) (k:=0) (k':=0) (n:=0) rfl) rfl),(by rw [he];rfl),(by rw [he];rfl)⟩
 have h4': ¬(xe1.li < 2):=of_decide_eq_false h4
 refine qM (zA (zJ (zN (o_s (by refine zV (v:=pkV xe1 (zD xe1.op) 4 (zD xe1.da) 5) rfl rfl ?_;exact rfl) ?_))))
 refine o_d 2 [(39,zQ (wz o c) 1 l.length),(38,pv 0 0)] (o_s (by refine zej (c:=qS xe1 (zD xe1.op) 4 (zD xe1.da) 5 0 (wz o c) 1 l.length) ?_;exact bld_pack) ?_)
 refine o_b 2 [(7,pv 7 0),(41,pv 7 0)] (wo p nr w9 o c L [cw wk,zG (zD xe1.op) (u8 xe1.op) true,zG (zD xe1.da) (u8 xe1.da) true,cw (wD xe1 4 5),cw (qS xe1 (zD xe1.op) 4 (zD xe1.da) 5 0 (wz o c) 1 l.length)]) (zE (zA (zJ (zN (o_d 2 [(43,zQ (wz o c) 1 l.length),(42,pv 7 0)] ?_)))))
 obtain ⟨m5,hm5⟩: ∃z9,ageL l xe1.ba=z9:=⟨_,rfl⟩
 have hm5a:Alike l m5:=by rw [←hm5];exact age_alike hp9 om
 have hm5p:=hm5a.parse hp9
 have hm5l:=hm5p.2.2.2
 have hm5k:=hm5p.2.1
 have hm5b:=hm5p.2.2.1
 have hm5e:m5.length=l.length:=hm5l
 refine qT (zaH [1] (vS o c L) [zQ (wz o c) 0 l.length] (chgR hm5 rfl (AgeC _ _ L l hr xe1 hp9 om)) rfl rfl ⟨⟨_,rfl,z4 (zH _) rfl (fun q=>q)⟩,trivial⟩ dC ?_)
 rintro v1 h1' ⟨rfl,rfl⟩
 refine ⟨za0 rfl,.tuple (WN l 8),(wo p nr w9 o c L [cw wk,zG (zD xe1.op) (u8 xe1.op) true,zG (zD xe1.da) (u8 xe1.da) true,cw (wD xe1 4 5),cw (qS xe1 (zD xe1.op) 4 (zD xe1.da) 5 0 (wz o c) 1 l.length)]),(Wi l m5),((zdD _).trans rfl),⟨rfl,rfl,rfl,rfl,rfl,rfl,rfl,rfl,trivial⟩,⟨(Option.some.inj (zF (zH _))).symm,trivial⟩, ?_⟩
 refine o_d 2 (Wy 46 45 l 8) (qT (zcT [7,4,5,0,1,8] [cw (qS xe1 (zD xe1.op) 1 (zD xe1.da) 2 3 (wz o c) 4 l.length),zaC ((zD xe1.op).isSome),zaC ((zD xe1.da).isSome),cr [],cr [],cr []] (Yb l) (thenC xe1 (zD xe1.op) (zD xe1.da) o c l.length 0 l.length l.length ((zD xe1.op).isSome) ((zD xe1.da).isSome)) rfl rfl ⟨⟨_,rfl,zam (.inl (zbY rfl rfl rfl rfl (fun q=>rfl)))⟩,⟨_,rfl,(zco (zD xe1.op))⟩,⟨_,rfl,(zco (zD xe1.da))⟩,⟨_,rfl,zaF⟩,⟨_,rfl,zaF⟩,⟨_,rfl,zaF⟩,trivial⟩ dC ?_))
 rintro v1 h1' ⟨rfl,rfl⟩
 refine ⟨(zS zaE (zS z7 (zS z7 (zS z7 (zS z7 (zS z7 q8)))))),.tuple #[],(wo p nr w9 o c L (yQ xe1 l 8 m5)),[],(by simp [zaI]),⟨rfl,rfl,rfl,rfl,(by first | exact hid1 dC rfl | exact row1 dC rfl),(by first | exact hid2 dC dC rfl | exact row2 dC dC rfl),rfl,zbS rfl rfl rfl rfl,rfl,trivial⟩,trivial, ?_⟩
 refine zE (zA (zJ (zJ (zN (o_d 1 [(48,pv 6 0)] (o_s (by refine zV (v:=iv xe1.k) rfl rfl ?_;exact rfl) ?_))))))
 refine o_d 1 [(50,bv (xe1.k==3))] (zE (zA (qK (t:=xe1.k==3) rfl (fun q=>by rw [(by exact beq_eq_false_iff_ne.2 hk3:(xe1.k==3)=false)] at q;cases q) (fun _=>?_))))
 refine qM (zA (ziX (fun s=>0=0∧(¬xe1.k=3)∧(¬(xe1.t=p 1∧xe1.tp=p 2))∧s=⟨reg (wM 7 7 0 5 6 4 3 0 0),(wo p nr w9 o c L (yQ xe1 l 8 m5))⟩) ?_ ?_))
 ·skip
  refine zJ (zbF [] (r_d 1 [(63,pv 6 4)] (r_s (by refine zV (v:=iv xe1.t) rfl rfl ?_;exact rfl) ?_)))
  refine r_d 5 ((69,pv 0 1)::(wM 68 0 0 67 0 66 0 65 0)) (r_s (by refine zV (v:=iv (p 1)) rfl rfl ?_;exact zem (pl_r p 1 rfl om)) ?_)
  refine r_d 2 [(72,bv (xe1.t==(p 1))),(71,bv (xe1.t==(p 1)))] (r_sp (b:=xe1.t==(p 1)) 72 rfl (fun h6=>?_) (fun h6=>?_))
  ·skip
   have h6':xe1.t=p 1:=zaL h6
   refine r_d 1 [(73,pv 6 6)] (zdY rfl (r_s (by refine zV (v:=iv xe1.tp) rfl rfl ?_;exact rfl) ?_))
   refine r_d 5 ((79,pv 0 2)::(wM 78 0 0 77 0 76 0 75 0)) (zdY rfl (r_s (by refine zV (v:=iv (p 2)) rfl rfl ?_;exact zem (pl_r p 2 rfl om)) ?_))
   refine r_d 2 [(82,bv (xe1.tp==(p 2))),(81,bv (xe1.tp==(p 2)))] (zbk (zT ((82,bv (xe1.tp==(p 2)))::(wM 7 7 0 5 6 4 3 0 0)) (qK (t:=xe1.tp==(p 2)) rfl (fun h7=>?_) (fun h7=>?_))))
   ·skip
    have h7':xe1.tp=p 2:=zaL h7
    refine zJ (zN (o_d 1 [(83,pv 7 0)] (qT (zcT [7,4,5,0,8,2] [cw (Ws xe1 1 2 3 l 4),zG (zD xe1.op) (u8 xe1.op) false,zaC ((zD xe1.da).isSome),cr (zL p true nr (wt 5 w9)),zG (wa l) (u8 m5) false,slB zI (ii (qA p)) (some w9)] [pv 0 0] (inW p true nr w9 xe1 (zD xe1.da) ((zD xe1.da).isSome) m5 (zeR m5) hm5p.1 hm5k hm5b (by assumption) om H hnr l.length hm5l) rfl rfl ⟨⟨_,rfl,zam (.inl (zbY rfl rfl rfl rfl (fun q=>rfl)))⟩,⟨_,rfl,zam (z4 (q:=zD xe1.op) (q':=zD xe1.op) (zH _) rfl (fun q=>rfl))⟩,⟨_,rfl,(zco (zD xe1.da))⟩,⟨_,rfl,zam (.inl (zav rfl (fun q=>rfl)))⟩,⟨_,rfl,zam (z4 (q:=some (0,l.length)) (q':=some (0,l.length)) (zH _) rfl (fun q=>rfl))⟩,⟨_,rfl,zam (zhy (some w9) (fun _=>(zaf _ _)))⟩,trivial⟩ dC ?_))))
    rintro v1 h1' (⟨hi1,rfl,rfl⟩ | ⟨k8,hi1,hi2,rfl,rfl⟩)
    ·skip
     refine ⟨(zS z7 (zS z7 (zS z7 (zS z7 (zS z7 (zS z7 q8)))))),.agg (yk 9),(wo p nr w9 o c L (yQ xe1 l 8 m5)),[],(qP rfl),⟨rfl,rfl,(by rcases some w9 with _ | m9<;>first | rfl | exact zbf (zaf _ _)),rfl,(by first | exact hid1 dC rfl | exact row1 dC rfl),(by first | exact hid2 dC dC rfl | exact row2 dC dC rfl),rfl,zbS rfl rfl rfl rfl,rfl,trivial⟩,trivial, ?_⟩
     refine o_b 1 [] (wo p nr w9 o c L [cw (wY 9),zG (zD xe1.op) (u8 xe1.op) true,zG (zD xe1.da) (u8 xe1.da) true,cw (wD xe1 4 5),cw (Ws xe1 4 5 0 l 8),zG (wa l) (u8 m5) true]) (zE (zA (qV ?_)))
     have he:zaU p nr l=(zeB 9,nr):=(take_go hp9 om om hm5).trans (go_i1 (by assumption) om hi1)
     exact ⟨trivial,[.agg (yk 9)],(qY rfl rfl rfl rfl),(zK rfl z5),⟨reg [],(wo p nr w9 o c L [.gone])⟩,[0,1,2,12],[.agg (yk 9)],WkR.of (rs:= []) rfl rfl dC trivial ⟨.inl (qE rfl),.inl (zF (zH _)),.inl (qX (some w9) (fun _=>(zaf _ _))),.inr ⟨rfl,rfl⟩,trivial⟩,(zM (zbq (q:=none) (k:=0) (k':=0) (n:=0) rfl) rfl),(by rw [he];rfl),(by rw [he];rfl)⟩
    refine ⟨(zS zaE (zS z7 (zS z7 (zS z7 (zS z7 (zS z7 q8)))))),.agg #[iv 0,iv (k8:Int),bv ((inP p xe1).2),zQ (wa l) 9 l.length],(wo p nr w9 o c L (yQ xe1 l 9 m5)),[zG (wa l) (u8 (inL p nr xe1 m5 k8)) true],(zbq rfl),⟨rfl,rfl,(by rcases some w9 with _ | m9<;>first | rfl | exact zbf (zaf _ _)),rfl,(by first | exact hid1 dC rfl | exact row1 dC rfl),(by first | exact hid2 dC dC rfl | exact row2 dC dC rfl),rfl,zbS rfl rfl rfl rfl,rfl,trivial⟩,⟨(Option.some.inj (zF (zH _))).symm,trivial⟩, ?_⟩
    refine o_b 1 [] (wo p nr w9 o c L [cw [iv 0,iv (k8:Int),bv ((inP p xe1).2),zQ (wa l) 9 l.length],zG (zD xe1.op) (u8 xe1.op) true,zG (zD xe1.da) (u8 xe1.da) true,cw (wD xe1 4 5),cw (Ws xe1 4 5 0 l 9),zG (wa l) (u8 m5) true,zG (wa l) (u8 (inL p nr xe1 m5 k8)) true]) (zE (zA (qV ?_)))
    have he:zaU p nr l=(⟨0,(k8:Int),(inP p xe1).2,(inL p nr xe1 m5 k8)⟩,nr):=(take_go hp9 om om hm5).trans (go_i2 (by assumption) om hi1)
    have hlen:(inL p nr xe1 m5 k8).length=l.length:=inL_length.trans hm5l
    exact ⟨trivial,[.agg #[iv 0,iv (k8:Int),bv ((inP p xe1).2),zQ (wa l) 9 l.length]],(qY rfl rfl rfl rfl),(zK rfl z5),⟨reg [],(wo p nr w9 o c L [zG (wa l) (u8 (inL p nr xe1 m5 k8)) true])⟩,[0,1,2,9],[.agg #[iv 0,iv (k8:Int),bv ((inP p xe1).2),zQ (wa l) 3 l.length]],WkR.of (rs:= []) rfl rfl dC trivial ⟨.inl (qE rfl),.inl (zF (zH _)),.inl (qX (some w9) (fun _=>(zaf _ _))),.inl (zF (zH _)),trivial⟩,(zM (zbq rfl) rfl),(by rw [he];exact (oc_some hlen om).symm),(by rw [he];show _= [_,_,_,zG (zD _) _ true];rw [ob_some hlen om])⟩
   have h7': ¬(xe1.tp=p 2):=zaM h7
   refine qM (⟨⟨reg (wM 7 7 0 5 6 4 3 0 0),(wo p nr w9 o c L (yQ xe1 l 8 m5))⟩, ?_⟩)
   refine ⟨?_, ?_⟩
   ·exact Wk.ren [0,1,2,3,4,5,6,7,8] rfl rfl dC ⟨rfl,rfl,rfl,rfl,trivial⟩ ⟨.inl (qE rfl),.inl (zF (zH _)),.inl (qX (some w9) (fun _=>(zaf _ _))),.inl rfl,.inl (zF (zH _)),.inl (zF (zH _)),.inl (zcg rfl rfl),.inl (zax rfl rfl rfl rfl),.inl (zF (zH _)),trivial⟩
   ·exact ⟨rfl,(by assumption),om,rfl⟩
  have h6': ¬(xe1.t=p 1):=zaM h6
  refine r_d 10 ((82,bv false)::(81,undef)::(80,undef)::(79,undef)::(78,undef)::(77,undef)::(y9 76 75 74 73)) (zbk (zT [(82,bv false),(7,pv 7 0),(5,pv 6 0),(4,pv 3 0),(0,pv 0 0)] (zba rfl (qM (⟨⟨reg (wM 7 7 0 5 6 4 3 0 0),(wo p nr w9 o c L (yQ xe1 l 8 m5))⟩, ?_⟩)))))
  refine ⟨?_, ?_⟩
  ·exact Wk.ren [0,1,2,3,4,5,6,7,8] rfl rfl dC ⟨rfl,rfl,rfl,rfl,trivial⟩ ⟨.inl (qE rfl),.inl (zF (zH _)),.inl (qX (some w9) (fun _=>(zaf _ _))),.inl rfl,.inl (zF (zH _)),.inl (zF (zH _)),.inl (zcg rfl rfl),.inl (zax rfl rfl rfl rfl),.inl (zF (zH _)),trivial⟩
  ·exact ⟨rfl,(by assumption),om,rfl⟩
 rintro s ⟨-,hk3,hnot,rfl⟩
 refine zJ (zbF [] (r_d 4 (wM 89 0 0 88 0 87 0 86 0) (r_s (by refine zV (v:=zau p) rfl rfl ?_;exact zem (zaK p)) ?_)))
 refine r_d 1 [(91,pv 6 3)] (r_s (by refine zV (v:=iv xe1.fr) rfl rfl ?_;exact rfl) ?_)
 refine r_d 1 [(93,pv 6 5)] (r_s (by refine zV (v:=iv xe1.fp) rfl rfl ?_;exact rfl) ?_)
 obtain ⟨sl,hsl⟩: ∃s:Nat,(za4 (zdo p xe1.fr xe1.fp) 0 64).1=(s:Int):=⟨(za4 (zdo p xe1.fr xe1.fp) 0 64).1.toNat,by have:=find_r (h:=zdo p xe1.fr xe1.fp) 64 0 om;omega⟩
 have hslr:=(find_r (h:=zdo p xe1.fr xe1.fp) 64 0 om).2
 refine zfv (zbH (FindC2 hsl (FindC p xe1.fr xe1.fp)) rfl (all_cons (zbr p) (all_cons rfl (all_cons rfl rfl))) rfl (r_d 5 [(9,bv ((za4 (zdo p xe1.fr xe1.fp) 0 64).2)),(8,iv (sl:Int)),(97,bv ((za4 (zdo p xe1.fr xe1.fp) 0 64).2)),(96,iv (sl:Int)),(85,.tuple #[iv (sl:Int),bv ((za4 (zdo p xe1.fr xe1.fp) 0 64).2)])] (zbk (zA (zJ (zJ (zN (o_d 2 [(99,bv (!((za4 (zdo p xe1.fr xe1.fp) 0 64).2))),(98,bv ((za4 (zdo p xe1.fr xe1.fp) 0 64).2))] (zE (zA (qK (t:= !((za4 (zdo p xe1.fr xe1.fp) 0 64).2)) rfl (fun h9=>?_) (fun h9=>?_))))))))))))
 ·skip
  have h10:((za4 (zdo p xe1.fr xe1.fp) 0 64).2)=false:=not_t h9
  refine zJ (zN (qT (zal (dropC 8) rfl rfl rfl (o_b 1 [] (wo p nr w9 o c L [cw (wY 8),zG (zD xe1.op) (u8 xe1.op) true,zG (zD xe1.da) (u8 xe1.da) true,cw (wD xe1 4 5),cw (Ws xe1 4 5 0 l 8),zG (wa l) (u8 m5) true]) (zE (zT [(4,pv 3 0)] (qV ?_)))))))
  have he:zaU p nr l=(zeB 8,nr):=(take_go hp9 om om hm5).trans (go_n hk3 hnot (by assumption))
  exact ⟨trivial,[.agg (yk 8)],(qY rfl rfl rfl rfl),(zK rfl z5),⟨reg [],(wo p nr w9 o c L [.gone])⟩,[0,1,2,12],[.agg (yk 8)],WkR.of (rs:= []) rfl rfl dC trivial ⟨.inl (qE rfl),.inl (zF (zH _)),.inl (qX (some w9) (fun _=>(zaf _ _))),.inr ⟨rfl,rfl⟩,trivial⟩,(zM (zbq (q:=none) (k:=0) (k':=0) (n:=0) rfl) rfl),(by rw [he];rfl),(by rw [he];rfl)⟩
 have h11:((za4 (zdo p xe1.fr xe1.fp) 0 64).2)=true:=not_f h9
 refine qM (zA (zJ (zN (o_d 2 [(102,iv (sl:Int)),(101,pv 7 0)] (qT (zcT [7,4,5,0,8,2] [cw (Ws xe1 1 2 3 l 4),zG (zD xe1.op) (u8 xe1.op) false,zaC ((zD xe1.da).isSome),cw (zL p true nr (wt 5 w9)),zG (wa l) (u8 m5) false,cr []] [pv 0 0,iv (sl:Int)] (outW p true nr (some w9) xe1 (zD xe1.da) ((zD xe1.da).isSome) m5 (zeR m5) hm5p.1 hm5k hm5b (by assumption) om sl om H l.length hm5l) rfl rfl ⟨⟨_,rfl,zam (.inl (zbY rfl rfl rfl rfl (fun q=>rfl)))⟩,⟨_,rfl,zam (z4 (q:=zD xe1.op) (q':=zD xe1.op) (zH _) rfl (fun q=>rfl))⟩,⟨_,rfl,(zco (zD xe1.da))⟩,⟨_,rfl,zam (.inl (zav rfl (fun q=>rfl)))⟩,⟨_,rfl,zam (z4 (q:=some (0,l.length)) (q':=some (0,l.length)) (zH _) rfl (fun q=>rfl))⟩,⟨_,rfl,zbB (some w9)⟩,trivial⟩ dC ?_))))))
 rintro v1 h1' ⟨rfl,rfl⟩
 refine ⟨(zS zaE (zS z7 (zS z7 (zS zaE (zS z7 (zS z7 q8)))))),.agg (yy l 9),(cw (zL p true (outN nr xe1 sl) (wt 2 w9))::zG (wz o c) (u8 L) false::slB zI (ii (qA p)) (some w9)::(yQ xe1 l 9 m5)),[zG (wa l) (u8 (outL p xe1 m5 ((sl:Nat):Int))) true],(zbq rfl),⟨zbe rfl,rfl,rfl,rfl,(by first | exact hid1 dC rfl | exact row1 dC rfl),(by first | exact hid2 dC dC rfl | exact row2 dC dC rfl),rfl,zbS rfl rfl rfl rfl,rfl,trivial⟩,⟨(Option.some.inj (zF (zH _))).symm,trivial⟩, ?_⟩
 refine o_b 1 [] [cw (zL p true (outN nr xe1 sl) (wt 2 w9)),zG (wz o c) (u8 L) false,slB zI (ii (qA p)) (some w9),cw [iv 0,iv (-1),bv false,zQ (wa l) 9 l.length],zG (zD xe1.op) (u8 xe1.op) true,zG (zD xe1.da) (u8 xe1.da) true,cw (wD xe1 4 5),cw (Ws xe1 4 5 0 l 9),zG (wa l) (u8 m5) true,zG (wa l) (u8 (outL p xe1 m5 ((sl:Nat):Int))) true] (zE (zT [(4,pv 3 0)] (qV ?_)))
 have he:zaU p nr l=(⟨0,-1,false,(outL p xe1 m5 ((sl:Nat):Int))⟩,(outN nr xe1 sl)):=(take_go hp9 om om hm5).trans (go_o hk3 hnot (by assumption) hsl)
 have hlen:(outL p xe1 m5 ((sl:Nat):Int)).length=l.length:=outL_length.trans hm5l
 exact ⟨trivial,[.agg (yy l 9)],(qY rfl rfl rfl rfl),(zK rfl z5),⟨reg [],[cw (zL p true (outN nr xe1 sl) (wt 2 w9)),zG (wz o c) (u8 L) false,slB zI (ii (qA p)) (some w9),zG (wa l) (u8 (outL p xe1 m5 ((sl:Nat):Int))) true]⟩,[0,1,2,9],[.agg (yy l 3)],WkR.of (rs:= []) rfl rfl dC trivial ⟨.inl (qE rfl),.inl (zF (zH _)),.inl (qX (some w9) (fun _=>(zaf _ _))),.inl (zF (zH _)),trivial⟩,(zM (zbq rfl) rfl),(by rw [he];exact (oc_some hlen om).symm),(by rw [he];show _= [_,_,_,zG (zD _) _ true];rw [ob_some hlen om])⟩
end Go.Rh

set_option maxHeartbeats 1000000
namespace Go.Rh
theorem row_nil:RowOf none ([]:List Int) []:=⟨fun _=>rfl,fun h=>absurd rfl h,fun h=>absurd rfl h,fun o c h=>by cases h⟩
theorem TakeT {P:Program} {p:q9} {nr:zds} {w9:Nat} {q:Option (Nat×Nat)} {L l:List Int} {T:Oc×zds} (hT:zaU p nr l=T) (h:Env P "(*roundhouse/plane.Plane).Take" [pv 0 0,zQ q 1 l.length] [cw (zL p true nr (slV 2 127 (some w9))),zG q (u8 L) false,slB zI (ii (qA p)) (some w9)] (fun v h'=>v=ocV (zaU p nr l).1 3∧h'= [cw (zL p true (zaU p nr l).2 (slV 2 127 (some w9))),zG q (u8 L) false,slB zI (ii (qA p)) (some w9),zG (zD (zaU p nr l).1.b) (u8 (zaU p nr l).1.b) true])):Env P "(*roundhouse/plane.Plane).Take" [pv 0 0,zQ q 1 l.length] [cw (zL p true nr (slV 2 127 (some w9))),zG q (u8 L) false,slB zI (ii (qA p)) (some w9)] (fun v h'=>v=ocV T.1 3∧h'= [cw (zL p true T.2 (slV 2 127 (some w9))),zG q (u8 L) false,slB zI (ii (qA p)) (some w9),zG (zD T.1.b) (u8 T.1.b) true]):=by
 subst hT;exact h
def zcJ:Pk:=⟨2,9,0,1,10,2,80,0,0,false,0,[],[]⟩
theorem bok00:BOk zcJ:=by constructor<;>decide
theorem kn1:(zaU (zY [0,2] 2) nr0 (bld zcJ)).1.e=0:=by kernel_rfl
theorem kn2:(zaU (zY [0,2] 2) nr0 (bld zcJ)).1.s=0:=by kernel_rfl
theorem kn3:(zaU (zY [0,2] 2) nr0 (bld zcJ)).1.c=false:=by kernel_rfl
theorem kn4:(zaU (zY [0,2] 2) nr0 (bld zcJ)).1.b.length=(bld zcJ).length:=by kernel_rfl
theorem kn5:(qZ (zaU (zY [0,2] 2) nr0 (bld zcJ)).2 0).2=false:=by kernel_rfl
theorem kn6:(zY [0,2] 2) 0=2:=by kernel_rfl
theorem kn7:(bld zcJ).length≤100000:=by decide+kernel
theorem kn8:(qU (bld zcJ)).2.k≠3:=by decide+kernel
theorem nr0_r: ∀k,0≤(nr0 k).1∧(nr0 k).1 < 4294967296:=fun k=>⟨by show (0:Int)≤0;decide,by show (0:Int) < 4294967296;decide⟩
theorem make_rng (ns:List Int) {k:Nat} (hk:k≤100):PRng (zY ns k):=(zeT ns (k:=k) om).rng om
theorem TakeNC {P:Program} [PrC P] (p:q9) (nr:zds) (q:Option Nat) (zw:Bool):
    Env P "(*roundhouse/plane.Plane).Take" [pv 0 0,.slice none 0 0] ([cw (zL p false nr (v7 q)),zaC zw]) (fun v h'=>v= .agg (yk 10)∧h'= [cw (zL p false nr (v7 q)),zaC zw]):=by
 refine Env.by4 PrC.plane_Plane_Take ?_
 unfold zcx
 show GC _ 2 _ _ ⟨reg [(0,pv 0 0),(1,.slice none 0 0)],[cw (zL p false nr (v7 q)),zaC zw]⟩
 refine zJ (zN (o_b 1 [(4,pv 2 0)] [cw (zL p false nr (v7 q)),zaC zw,cw wk] (zE (zA (zJ (zJ (zN (o_d 4 (wM 13 0 330 12 0 11 0 10 0) (o_s (by refine zV (v:=bv false) rfl rfl ?_;exact (zfe 0).trans rfl) ?_)))))))))
 exact o_d 1 [(15,bv true)] (zE (zA (zcZ rfl (zJ (zN (qT (zal (dropC 10) rfl rfl rfl (o_b 1 [] [cw (zL p false nr (v7 q)),zaC zw,cw (wY 10)] (zE (zA (qV (⟨trivial,[.agg (yk 10)],(qY rfl rfl rfl rfl),(zK rfl z5),⟨reg [],[cw (zL p false nr (v7 q)),zaC zw]⟩,[0,1],[.agg (yk 10)],WkR.of (rs:= []) rfl rfl dC trivial ⟨.inl (qE (zaR q rfl)),.inl (congrArg some (zaJ _).symm),trivial⟩,(zM (zbq (q:=none) (k:=0) (k':=0) (n:=0) rfl) rfl),rfl,rfl⟩))))))))))))
abbrev yl:=(zY [0,2] 2)
abbrev yX:=(some (0,(bld zcJ).length))
abbrev WJ a b:=cw (zL yl true nr0 (wt 5 a))::.gone::cw (wY 10)::cw [iv 0,iv 2]::b
theorem known9C {P:Program} [PrC P]:
    Env P "roundhouse/roundhouselaw9.known" [] ([]) (Ans (.bool true) ([])):=by
 refine Env.by PrC.law9_known ?_
 unfold zhk
 show GC _ 0 _ _ ⟨reg [],[]⟩
 refine zJ (zN (o_d 1 [(0,bv false)] (zE (zA (zJ (zN (qT (zcT [] [] [] (PNewC) rfl rfl trivial dC ?_))))))))
 rintro v1 h1' ⟨rfl,rfl⟩
 refine ⟨q8,pv 0 0,[],[cw (zL qN false nr0 wx)],rfl,trivial,⟨(Option.some.inj (qE rfl)).symm,trivial⟩, ?_⟩
 refine o_d 1 [(1,pv 0 0)] (zE (zA (zJ (zJ (zN (o_d 2 [(15,bv false),(14,pv 0 0)] (zE (zA (zba rfl (qM (⟨⟨reg [(1,pv 0 0)],[cw (zL qN false nr0 wx),.gone]⟩,Wk.ren [0,1] rfl rfl dC ⟨rfl,trivial⟩ ⟨.inl (qE rfl),.inr ⟨rfl,rfl⟩,trivial⟩, ?_⟩)))))))))))
 refine zJ (zN (o_d 1 [(16,pv 0 0)] (qT (zcT [0,1] [cw (vJ 1),.gone] [pv 0 0,.slice none 0 0] (TakeNC qN nr0 none false) rfl rfl ⟨⟨_,rfl,zam (.inl (zav rfl (fun q=>rfl)))⟩,⟨_,rfl,zam (.inr ⟨rfl,rfl⟩)⟩,trivial⟩ dC ?_))))
 rintro v1 h1' ⟨rfl,rfl⟩
 refine ⟨(zS z7 (zS z7 q8)),.agg (yk 10),[cw (vJ 1),.gone],[],(qP rfl),⟨zbe rfl,rfl,trivial⟩,trivial, ?_⟩
 refine o_b 2 [(2,pv 2 0)] [cw (vJ 1),.gone,cw (wY 10)] (zE (zA (zJ (zN (o_b 1 [(18,sv 3 0 2 2)] [cw (vJ 1),.gone,cw (wY 10),cw [iv 0,iv 2]] (qT (zeC (a1:= [sv 0 0 2 2,iv 2]) [3] [ii [0,2]] (MakeC (some 2) [0,2] (fun q=>by cases q) dC 2 dC) rfl (fun _=>zM rfl (zM rfl rfl)) ⟨⟨_,rfl⟩,zay _,trivial⟩ (zbr _) ?_)))))))
 refine o_b 1 [(3,pv 4 0)] [cw (vJ 1),.gone,cw (wY 10),cw [iv 0,iv 2],cw (pl qN)] (zdu (by refine zao (c':=pl yl) rfl rfl rfl ?_ ?_ ?_;exact qH _;exact zb8 om;exact zac qN yl) ?_)
 refine zE (zA (zJ (zN (o_d 1 [(20,pv 0 0)] (o_s (by refine zV (v:=zau yl) rfl rfl ?_;exact zaK yl) ?_)))))
 refine qT (zcT [0,4] [cw (vJ 1),cr []] [pv 0 0,zau yl] (PLoadC qN false nr0 none yl) rfl (zM rfl (zM (qP (zbr yl)) rfl)) ⟨⟨_,rfl,zam (.inl (zav rfl (fun q=>rfl)))⟩,⟨_,rfl,zaF⟩,trivial⟩ dC ?_)
 rintro v1 h1' ⟨rfl,m1,rfl⟩
 refine ⟨(zS zaE (zS z7 q8)),.tuple #[],(WJ m1 [cw (pl yl)]),[slB zI (ii (qA yl)) (some m1)],(by simp [zaI]),⟨zbe rfl,rfl,rfl,rfl,rfl,trivial⟩,⟨(Option.some.inj (qX (some m1) (fun _=>(zaf _ _)))).symm,trivial⟩, ?_⟩
 refine zE (zA (zJ (zN (o_d 1 [(24,pv 0 0)] (qT (zcT [0,5] [cr (zL yl true nr0 (wt 1 m1)),cr []] [pv 0 0] (PVersionC yl true nr0 (some m1)) rfl rfl ⟨⟨_,rfl,zam (.inl (zav rfl (fun q=>rfl)))⟩,⟨_,rfl,zbB (some m1)⟩,trivial⟩ dC ?_))))))
 rintro v1 h1' ⟨rfl,rfl⟩
 refine ⟨(zS z7 (zS z7 q8)),.tuple #[iv (yl 0),bv true],(WJ m1 [cw (pl yl),slB zI (ii (qA yl)) (some m1)]),[],(qP rfl),⟨rfl,rfl,rfl,rfl,rfl,rfl,trivial⟩,trivial, ?_⟩
 refine o_d 5 [(5,bv true),(4,iv (yl 0)),(27,bv true),(26,iv (yl 0)),(23,.tuple #[iv (yl 0),bv true])] (zE (⟨⟨reg [(5,bv true),(4,iv (yl 0)),(2,pv 2 0),(1,pv 0 0)],(WJ m1 [cw (pl yl),slB zI (ii (qA yl)) (some m1),.gone,.gone])⟩,Wk.ren [0,1,2,3,4,5,6,7] rfl rfl dC ⟨rfl,rfl,rfl,rfl,trivial⟩ ⟨.inl (qE rfl),.inl rfl,.inl rfl,.inl rfl,.inl (zW (zaq yl)),.inl (qX (some m1) (fun _=>(zaf _ _))),.inr ⟨rfl,rfl⟩,.inr ⟨rfl,rfl⟩,trivial⟩, ?_⟩))
 refine zJ (zN (o_d 1 [(29,.agg #[iv 2,iv 9,iv 0,iv 1,iv 10,iv 2,iv 80,iv 0,iv 0,bv false,iv 0,.slice none 0 0,.slice none 0 0])] (qT (zaH [1,6] [zG none (u8 ([]:List Int)) false,zG none (u8 ([]:List Int)) false] [pkV zcJ none 0 none 1] (Build2C none none ([]:List Int) ([]:List Int) zcJ (row_nil) (row_nil) bok00 rfl) rfl (zM (zcH rfl rfl) rfl) ⟨⟨_,rfl,.inr ⟨rfl,rfl⟩⟩,⟨_,rfl,.inr ⟨rfl,rfl⟩⟩,trivial⟩ dC ?_))))
 rintro v1 h1' ⟨rfl,rfl⟩
 refine ⟨zai [_,_] [_],.tuple #[zQ yX 8 ((bld zcJ).length),iv 0],(WJ m1 [cw (pl yl),slB zI (ii (qA yl)) (some m1),.gone,.gone]),[zG yX (u8 (bld zcJ)) true],((zdD _).trans rfl),⟨rfl,rfl,rfl,rfl,rfl,rfl,rfl,rfl,trivial⟩,⟨(zc9 (zH _)),trivial⟩, ?_⟩
 refine o_d 5 [(7,iv 0),(6,zQ yX 8 ((bld zcJ).length)),(32,iv 0),(31,zQ yX 8 ((bld zcJ).length)),(28,.tuple #[zQ yX 8 ((bld zcJ).length),iv 0])] (zE (zA (zJ (zN (o_d 2 [(34,zQ yX 8 ((bld zcJ).length)),(33,pv 0 0)] ?_)))))
 obtain ⟨T2,hT2⟩: ∃z9,zaU yl nr0 (bld zcJ)=z9:=⟨_,rfl⟩
 have hk1:T2.1.e=0:=by rw [←hT2];exact kn1
 have hk2:T2.1.s=0:=by rw [←hT2];exact kn2
 have hk3:T2.1.c=false:=by rw [←hT2];exact kn3
 have hk4:T2.1.b.length=(bld zcJ).length:=by rw [←hT2];exact kn4
 have hk5:(qZ T2.2 0).2=false:=by rw [←hT2];exact kn5
 refine qT (zcT [0,8,5] [cw (zL yl true nr0 (wt 2 m1)),zG yX (u8 (bld zcJ)) false,slB zI (ii (qA yl)) (some m1)] [pv 0 0,zQ yX 1 ((bld zcJ).length)] (TakeT hT2 (TakeC9 yl nr0 m1 yX (bld zcJ) (bld zcJ) (RowOf.whole rfl (Nat.le_refl _)) (by first | omega | exact kn7) (make_rng _ dC) nr0_r kn8)) rfl rfl ⟨⟨_,rfl,zam (.inl (zav rfl (fun q=>rfl)))⟩,⟨_,rfl,zam (z4 (q:=some (0,(bld zcJ).length)) (q':=some (0,(bld zcJ).length)) (zH _) rfl (fun q=>rfl))⟩,⟨_,rfl,zam (zhy (some m1) (fun _=>(zaf _ _)))⟩,trivial⟩ dC ?_)
 rintro v1 h1' ⟨rfl,rfl⟩
 refine ⟨(zS zaE (zS z7 (zS z7 q8))),.agg #[iv T2.1.e,iv T2.1.s,bv T2.1.c,zQ (zD T2.1.b) 9 T2.1.b.length],[cw (zL yl true T2.2 (wt 5 m1)),.gone,cw (wY 10),cw [iv 0,iv 2],cw (pl yl),slB zI (ii (qA yl)) (some m1),.gone,.gone,zG yX (u8 (bld zcJ)) true],[zG (zD T2.1.b) (u8 T2.1.b) true],(zbq rfl),⟨zbe rfl,rfl,rfl,rfl,rfl,(by rcases some m1 with _ | m9<;>first | rfl | exact zbf (zaf _ _)),rfl,rfl,rfl,trivial⟩,⟨(Option.some.inj (zF (zH _))).symm,trivial⟩, ?_⟩
 refine o_b 2 [(8,pv 10 0)] [cw (zL yl true T2.2 (wt 5 m1)),.gone,cw [iv 10,iv (-1),bv false,.slice none 0 0],cw [iv 0,iv 2],cw (pl (zY [0,2] 2)),slB zI (ii (qA (zY [0,2] 2))) (some m1),.gone,.gone,zG (some (0,(bld zcJ).length)) (u8 (bld zcJ)) true,zG (zD T2.1.b) (u8 T2.1.b) true,cw [iv T2.1.e,iv T2.1.s,bv T2.1.c,zQ (zD T2.1.b) 9 T2.1.b.length]] (zE (zA (zJ (zN (o_d 1 [(37,pv 0 0)] (qT (zcT [0,5] [cr (zL yl true T2.2 (wt 1 m1)),cr []] [pv 0 0,iv 0] (NearC yl true T2.2 (some m1) 0) rfl rfl ⟨⟨_,rfl,zam (.inl (zav rfl (fun q=>rfl)))⟩,⟨_,rfl,zbB (some m1)⟩,trivial⟩ dC ?_)))))))
 rintro v1 h1' ⟨rfl,rfl⟩
 refine ⟨(zS z7 (zS z7 q8)),.tuple #[.int .u32 ((qZ T2.2 0).1),bv ((qZ T2.2 0).2)],[cw (zL yl true T2.2 (wt 5 m1)),.gone,cw [iv 10,iv (-1),bv false,.slice none 0 0],cw [iv 0,iv 2],cw (pl (zY [0,2] 2)),slB zI (ii (qA (zY [0,2] 2))) (some m1),.gone,.gone,zG (some (0,(bld zcJ).length)) (u8 (bld zcJ)) true,zG (zD T2.1.b) (u8 T2.1.b) true,cw [iv T2.1.e,iv T2.1.s,bv T2.1.c,zQ (zD T2.1.b) 9 T2.1.b.length]],[],(qP rfl),⟨rfl,rfl,rfl,rfl,rfl,rfl,rfl,rfl,rfl,rfl,rfl,trivial⟩,trivial, ?_⟩
 refine o_d 5 [(10,bv ((qZ T2.2 0).2)),(9,.int .u32 ((qZ T2.2 0).1)),(40,bv ((qZ T2.2 0).2)),(39,.int .u32 ((qZ T2.2 0).1)),(36,.tuple #[.int .u32 ((qZ T2.2 0).1),bv ((qZ T2.2 0).2)])] (zE (zA (zJ (zN (o_d 1 [(41,pv 0 0)] (qT (zcT [0,5] [cw (zL yl true T2.2 (wt 1 m1)),cr []] [pv 0 0] (PCrashC yl true T2.2 (some m1)) rfl rfl ⟨⟨_,rfl,zam (.inl (zav rfl (fun q=>rfl)))⟩,⟨_,rfl,zbB (some m1)⟩,trivial⟩ dC ?_)))))))
 rintro v1 h1' ⟨rfl,rfl⟩
 refine ⟨(zS zaE (zS z7 q8)),.tuple #[],[cw (vJ 5),.gone,cw [iv 10,iv (-1),bv false,.slice none 0 0],cw [iv 0,iv 2],cw (pl (zY [0,2] 2)),slB zI (ii (qA (zY [0,2] 2))) (some m1),.gone,.gone,zG (some (0,(bld zcJ).length)) (u8 (bld zcJ)) true,zG (zD T2.1.b) (u8 T2.1.b) true,cw [iv T2.1.e,iv T2.1.s,bv T2.1.c,zQ (zD T2.1.b) 9 T2.1.b.length]],[],(by simp [zaI]),⟨zbe rfl,rfl,rfl,rfl,rfl,rfl,rfl,rfl,rfl,rfl,rfl,trivial⟩,trivial, ?_⟩
 refine zE (zA (zJ (zN (o_d 1 [(44,pv 0 0)] (qT (zcT [0,5] [cr (vJ 1),cr []] [pv 0 0] (PVersionC qN false nr0 none) rfl rfl ⟨⟨_,rfl,zam (.inl (zav rfl (fun q=>rfl)))⟩,⟨_,rfl,zbB (some m1)⟩,trivial⟩ dC ?_))))))
 rintro v1 h1' ⟨rfl,rfl⟩
 refine ⟨(zS z7 (zS z7 q8)),.tuple #[iv (qN 0),bv false],[cw (vJ 5),.gone,cw [iv 10,iv (-1),bv false,.slice none 0 0],cw [iv 0,iv 2],cw (pl (zY [0,2] 2)),slB zI (ii (qA (zY [0,2] 2))) (some m1),.gone,.gone,zG (some (0,(bld zcJ).length)) (u8 (bld zcJ)) true,zG (zD T2.1.b) (u8 T2.1.b) true,cw [iv T2.1.e,iv T2.1.s,bv T2.1.c,zQ (zD T2.1.b) 9 T2.1.b.length]],[],(qP rfl),⟨rfl,rfl,rfl,rfl,rfl,rfl,rfl,rfl,rfl,rfl,rfl,trivial⟩,trivial, ?_⟩
 refine o_d 5 [(12,bv false),(11,iv (qN 0)),(47,bv false),(46,iv (qN 0)),(43,.tuple #[iv (qN 0),bv false])] (zE (zT [(12,bv false),(10,bv ((qZ T2.2 0).2)),(8,pv 10 0),(6,zQ yX 8 ((bld zcJ).length)),(5,bv true),(4,iv (yl 0)),(2,pv 2 0)] (zJ (zN (o_d 16 [(63,bv ((yl 0)==2)),(62,bv ((yl 0)==2)),(61,bv ((yl 0)==2)),(60,iv (yl 0)),(59,bv true),(58,bv true),(57,bv true),(56,bv true),(55,bv true),(54,bv true),(53,iv (-1)),(52,pv 2 1),(51,bv true),(50,bv true),(49,iv 10),(48,pv 2 0)] (zbC (b:=(yl 0)==2) 63 rfl (fun k3=>?_) (fun q=>by rw [(beq_iff_eq.2 kn6:((yl 0)==2)=true)] at q;cases q)))))))
 refine o_d 5 [(68,bv (T2.1.e==0)),(67,bv (T2.1.e==0)),(66,bv (T2.1.e==0)),(65,iv T2.1.e),(64,pv 10 0)] (zbC (b:=T2.1.e==0) 68 rfl (fun k4=>?_) (fun q=>by rw [(by rw [hk1];rfl:(T2.1.e==0)=true)] at q;cases q))
 refine o_d 5 [(73,bv (T2.1.s==0)),(72,bv (T2.1.s==0)),(71,bv (T2.1.s==0)),(70,iv T2.1.s),(69,pv 10 1)] (zbC (b:=T2.1.s==0) 73 rfl (fun k5=>?_) (fun q=>by rw [(by rw [hk2];rfl:(T2.1.s==0)=true)] at q;cases q))
 refine o_d 5 [(78,bv (!T2.1.c)),(77,bv (!T2.1.c)),(76,bv (!T2.1.c)),(75,bv T2.1.c),(74,pv 10 2)] (zbC (b:= !T2.1.c) 78 rfl (fun k6=>?_) (fun q=>by rw [(by rw [hk3];rfl:(!T2.1.c)=true)] at q;cases q))
 refine o_d 2 [(80,zQ (zD T2.1.b) 9 T2.1.b.length),(79,pv 10 3)] (z8 rfl (o_s (by exact qO rfl (zdj T2.1.b).nil) ?_))
 refine o_d 1 [(82,zQ yX 8 ((bld zcJ).length))] (z8 rfl (o_s (by exact qO (q:=some (0,(bld zcJ).length)) (k:=8) (n:=(bld zcJ).length) rfl (fun q=>by cases q)) ?_))
 refine o_d 3 [(86,bv (((T2.1.b.length:Nat):Int)==((bld zcJ).length:Nat))),(85,bv (((T2.1.b.length:Nat):Int)==((bld zcJ).length:Nat))),(84,bv (((T2.1.b.length:Nat):Int)==((bld zcJ).length:Nat)))] (zbC (b:=((T2.1.b.length:Nat):Int)==((bld zcJ).length:Nat)) 86 rfl (fun k7=>?_) (fun q=>by rw [(by rw [hk4];exact beq_self_eq_true _:(((T2.1.b.length:Nat):Int)==((bld zcJ).length:Nat))=true)] at q;cases q))
 refine o_d 4 [(90,bv (!((qZ T2.2 0).2))),(89,bv (!((qZ T2.2 0).2))),(88,bv (!((qZ T2.2 0).2))),(87,bv ((qZ T2.2 0).2))] (zbC (b:= !((qZ T2.2 0).2)) 90 rfl (fun k8=>?_) (fun q=>by rw [(by rw [hk5];rfl:(!((qZ T2.2 0).2))=true)] at q;cases q))
 refine o_d 4 [(0,bv true),(93,bv true),(92,bv true),(91,bv false)] (zE (zT [(0,bv true)] (qV ?_)))
 have E0_:(true)=true:=by
  first | rfl | (rw [hk5];rfl) | (simp [hk5])
 exact qC [bv true] (zU rfl rfl) rfl (by rw [E0_];rfl) rfl rfl
end Go.Rh

set_option maxHeartbeats 8000000
namespace Go.Rh
abbrev wE (a:List Int) b:=(qF (zY a 60) (⟨6,0,0,0,0,zbV b,zbU b⟩))
abbrev wS (a:Option Nat) (b:List Int) (c:Option Nat) d e:=inB a (ii b)::inB c (ui d)::cw (pl (zY b 60))::e
abbrev yY (a:Int) (b:Option Nat) (c:List Int) d:=[(11,pv 3 0),(10,iv (zC a 6)),(9,pv 2 0),(2,inV b 1 c.length),(3,iv d)]
abbrev vI a b:=(u8 (stL a 1++List.replicate b 0))
abbrev vN (a:Option Nat) (b:List Int) (c:Option Nat) d e f g:=(wS a b c d [cw (zL e true f (wt 4 g)),slB zI (ii (qA e)) (some g),.gone])
abbrev xq a (b:Int):=[(20,bv ((qZ a (zC b 6)).2)),(19,.int .u32 ((qZ a (zC b 6)).1)),(105,bv ((qZ a (zC b 6)).2)),(104,.int .u32 ((qZ a (zC b 6)).1)),(100,.tuple #[.int .u32 ((qZ a (zC b 6)).1),bv ((qZ a (zC b 6)).2)])]
theorem PlaneNearsC {P:Program} [PrC P] (o:Option Nat) (ns:List Int) (hnns:o=none→ns= []) (hl:(ns.length:Int)≤9223372036854775807) (slot:Int) (ov:Option Nat) (vs:List Int) (hnvs:ov=none→vs= []) (hlv:(vs.length:Int)≤9223372036854775807) (hu: ∀z∈vs,0≤z∧z < 4294967296) (k:Int):
    Env P "roundhouse/roundhouselaw9.PlaneNears" [inV o 0 ns.length,iv slot,inV ov 1 vs.length,iv k] ([inB o (ii ns),inB ov (ui vs)]) (Ans (.bool true) ([inB o (ii ns),inB ov (ui vs)])):=by
 refine Env.by PrC.law9_PlaneNears ?_
 unfold zea
 show GC _ 2 _ _ ⟨reg [(0,inV o 0 ns.length),(1,iv slot),(2,inV ov 1 vs.length),(3,iv k)],[inB o (ii ns),inB ov (ui vs)]⟩
 have hpl:=zfP ns 60
 refine zJ (zN (o_d 1 [(8,bv false)] (zE (zA (zJ (zJ (zN (qT (zal (known9C) rfl rfl rfl (o_d 1 [(22,bv false)] (zE (zA ?_))))))))))))
 refine zba rfl (qM (zA (zJ (zN (o_d 1 [(23,inV o 0 ns.length)] (qT (zhG (callIn 0 (MakeC o ns hnns hl 60 om) rfl (zay _) rfl rfl (zbr _) ?_))))))))
 refine o_b 1 [(9,pv 2 0)] [inB o (ii ns),inB ov (ui vs),cw (pl qN)] (zdu (by refine zao (c':=pl (zY ns 60)) rfl rfl rfl ?_ ?_ ?_;exact qH _;exact zb8 om;exact zac qN (zY ns 60)) ?_)
 refine zE (zA (zJ (zN (o_d 1 [(25,iv slot)] (qT (zal (within9C slot 6 dC) rfl rfl rfl ?_))))))
 have hw1:=within_lt slot (n:=6) dC
 refine o_d 1 [(10,iv (zC slot 6))] (zE (zA (zJ (zN (o_s (by refine zV (v:=zau (zY ns 60)) rfl rfl ?_;exact zaK (zY ns 60)) ?_)))))
 refine qT (zcT [] [] [zau (zY ns 60)] (upC (zY ns 60)) rfl (zM (qP (zbr (zY ns 60))) rfl) trivial dC ?_)
 rintro v1 h1' ⟨m2,rfl,rfl⟩
 refine ⟨q8,pv 3 0,[inB o (ii ns),inB ov (ui vs),cw (pl (zY ns 60))],[cw (zL (zY ns 60) true nr0 (wt 4 m2)),slB zI (ii (qA (zY ns 60))) (some m2)],rfl,⟨rfl,rfl,rfl,trivial⟩,⟨(Option.some.inj (qE rfl)).symm,(Option.some.inj (qX (some m2) (fun _=>(zaf _ _)))).symm,trivial⟩, ?_⟩
 refine o_d 1 [(11,pv 3 0)] (zE (zA (zJ (zJ (zN (o_d 2 [(30,bv false),(29,pv 3 0)] (zE (zA (zba rfl (qM (zA (zJ ?_))))))))))))
 refine zJ (zN (o_d 2 [(32,pv 2 3),(31,iv (zC slot 6))] (o_s (by exact zaN (o:=3) (o':=3+5*((zC slot 6).toNat)) rfl rfl om om) ?_)))
 refine o_s (by refine zV (v:= .agg #[iv ((zY ns 60) (3+5*((zC slot 6).toNat))),iv ((zY ns 60) (3+5*((zC slot 6).toNat)+1)),iv ((zY ns 60) (3+5*((zC slot 6).toNat)+2)),iv ((zY ns 60) (3+5*((zC slot 6).toNat)+3)),iv ((zY ns 60) (3+5*((zC slot 6).toNat)+4))]) rfl rfl ?_;exact pl_rS (zY ns 60) ((zC slot 6).toNat) om om) ?_
 refine qT (zal (refTakesC ((zY ns 60) (3+5*((zC slot 6).toNat))) ((zY ns 60) (3+5*((zC slot 6).toNat)+1)) ((zY ns 60) (3+5*((zC slot 6).toNat)+2)) ((zY ns 60) (3+5*((zC slot 6).toNat)+3)) ((zY ns 60) (3+5*((zC slot 6).toNat)+4))) rfl rfl rfl (o_d 1 [(36,bv (!(zdA ((zY ns 60) (3+5*((zC slot 6).toNat))))))] (zE (zA (qK (t:= !(zdA ((zY ns 60) (3+5*((zC slot 6).toNat))))) rfl (fun h3=>?_) (fun h3=>?_))))))
 ·skip
  have h4:(zdA ((zY ns 60) (3+5*((zC slot 6).toNat))))=false:=not_t h3
  exact zJ (zN (o_d 1 [(8,bv true)] (zE (zT [(8,bv true)] (qV (qC [bv true] (zU rfl rfl) rfl (by rfl) rfl (show List.all [inB o (ii ns),inB ov (ui vs)] zhH=true from (all_cons (zcd _ (zay ns)) (all_cons (zcd _ (zgU vs)) rfl)))))))))
 have h5:(zdA ((zY ns 60) (3+5*((zC slot 6).toNat))))=true:=not_f h3
 refine qM (zA (zJ (zJ (zN (o_d 1 [(12,iv 0)] (zE (zA (zab (zdv (fun μ s=> ∃(i:Nat),∃(pp:q9),∃(nr:zds),∃(mw:Nat),μ=10 - i∧(i≤vs.length∧i≤10)∧(NeY (zY ns 60) pp)∧(∀k,0≤(nr k).1∧(nr k).1 < 4294967296)∧((nr (zC slot 6).toNat).2=decide (0 < i))∧s=⟨reg ((12,iv (i:Int))::(yY slot ov vs k)),(wS o ns ov vs [cw (zL pp true nr (wt 4 mw)),slB zI (ii (qA pp)) (some mw)])⟩) ⟨(10 - 0), ?_⟩ ?_)))))))))
 ·skip
  refine ⟨⟨reg ((12,iv (0:Int))::(yY slot ov vs k)),(wS o ns ov vs [cw (zL (zY ns 60) true nr0 (wt 4 m2)),slB zI (ii (qA (zY ns 60))) (some m2)])⟩, ?_⟩
  refine ⟨?_, ?_⟩
  ·exact Wk.ren [0,1,2,3,4] rfl rfl dC ⟨rfl,rfl,rfl,rfl,((zda ov rfl)).trans rfl,rfl,trivial⟩ ⟨.inl (zcI o (zay ns)),.inl (zcI ov (zgU vs)),.inl (zW (zaq (zY ns 60))),.inl (qE rfl),.inl (qX (some m2) (fun _=>(zaf _ _))),trivial⟩
  ·exact ⟨0,(zY ns 60),nr0,m2,rfl,⟨Nat.zero_le _,Nat.zero_le _⟩,(neY_same ns),nr0_r,rfl,rfl⟩
 rintro μ s ⟨i,pp,nr,mw,rfl,hi,hY,hn,hq,rfl⟩
 refine zJ (zJ (zN (o_d 2 [(38,inV ov 1 vs.length),(37,iv (i:Int))] (o_s (by exact zeK rfl (fun q=>by rw [hnvs q];rfl)) ?_))))
 refine o_d 2 [(41,bv (decide ((i:Int) < (vs.length:Nat)))),(40,bv (decide ((i:Int) < (vs.length:Nat))))] (zbC (b:=decide ((i:Int) < (vs.length:Nat))) 41 rfl (fun h6=>?_) (fun h6=>?_))
 ·skip
  have h6':(i:Int) < (vs.length:Nat):=of_decide_eq_true h6
  obtain ⟨x,hx,hxd,hxt⟩:=zd5 (l:=vs) (i:=i) om
  have hxr:=hu x (List.mem_of_getElem? hx)
  have hR9:=ne_slot (ns:=ns) (s:=zC slot 6) om h5
  have hL9:=near_law (y:=pp) hY (s:=zC slot 6) om h5 hxr nr
  refine o_d 3 [(44,bv (decide ((i:Int) < 10))),(43,bv (decide ((i:Int) < 10))),(42,iv (i:Int))] (zE (zA (qK (t:=decide ((i:Int) < 10)) rfl (fun h7=>?_) (fun h7=>?_))))
  ·skip
   have h7':(i:Int) < 10:=of_decide_eq_true h7
   refine qM (⟨⟨reg ((12,iv (i:Int))::(yY slot ov vs k)),(vN o ns ov vs pp nr mw)⟩,Wk.ren [0,1,2,3,4,5] rfl rfl dC ⟨rfl,rfl,rfl,rfl,(zda ov rfl).trans rfl,rfl,trivial⟩ ⟨.inl (zcI o (zay ns)),.inl (zcI ov (zgU vs)),.inl (zW (zaq (zY ns 60))),.inl (qE rfl),.inl (qX (some mw) (fun _=>(zaf _ _))),.inr ⟨rfl,rfl⟩,trivial⟩, ?_⟩)
   refine zJ (zab (zJ (zeW (vN o ns ov vs pp nr mw) (by kernel_rfl) (d_n 2 2 6 [(49,pv 2 3),(48,iv (zC slot 6))] (vN o ns ov vs pp nr mw) [] (by kernel_rfl) rfl rfl (d_s rfl rfl rfl (by kernel_rfl) (by exact zaN (o:=3) (o':=3+5*((zC slot 6).toNat)) rfl rfl om om) ?_)))))
   refine d_s rfl rfl rfl (by kernel_rfl) (by refine zcf (o':=4+5*((zC slot 6).toNat)) rfl om) ?_
   refine d_s rfl rfl rfl (by kernel_rfl) (by refine zV (v:=iv ((zY ns 60) (3+5*((zC slot 6).toNat)+1))) rfl rfl ?_;exact pl_r (zY ns 60) (3+5*((zC slot 6).toNat)+1) om om) ?_
   refine d_n 2 7 6 [(54,pv 2 3),(53,iv (zC slot 6))] (vN o ns ov vs pp nr mw) [⟨4,[2],[],none⟩] (by kernel_rfl) rfl rfl (d_s rfl rfl rfl (by kernel_rfl) (by exact zaN (o:=3) (o':=3+5*((zC slot 6).toNat)) rfl rfl om om) ?_)
   refine d_s rfl rfl rfl (by kernel_rfl) (by refine zcf (o':=5+5*((zC slot 6).toNat)) rfl om) ?_
   refine d_s rfl rfl rfl (by kernel_rfl) (by refine zV (v:=iv ((zY ns 60) (3+5*((zC slot 6).toNat)+2))) rfl rfl ?_;exact pl_r (zY ns 60) (3+5*((zC slot 6).toNat)+2) om om) ?_
   refine d_n 2 12 6 [(59,iv (i:Int)),(58,inV ov 1 vs.length)] (vN o ns ov vs pp nr mw) [⟨9,[2],[],none⟩,⟨4,[2],[],none⟩] (by kernel_rfl) rfl rfl (d_s rfl rfl rfl (by kernel_rfl) (by exact zdW (o':=i) rfl (fun q=>by rw [hnvs q];rfl) rfl om om) ?_)
   refine d_s rfl rfl rfl (by kernel_rfl) (by refine zV (v:= .int .u32 x) rfl (hf_in (n:=vs.length) rfl (fun q=>by rw [hnvs q];rfl) om) ?_;exact ui_r (i:=i) om hx) ?_
   refine d_clG [] [] [.int .u32 x,.int .u32 1] (make4C x 1 om om) rfl rfl trivial dC ⟨_,_,⟨0,rfl,rfl⟩,Nat.zero_le _,zbG [] [_]⟩ ?_ (by kernel_rfl)
   rintro v1 h1' ⟨m8,rfl,rfl⟩
   refine ⟨zQ (some (0,12+m8)) 6 12,(vN o ns ov vs pp nr mw),[zG (some (0,12+m8)) (vI x m8) true],rfl,⟨rfl,rfl,rfl,rfl,rfl,rfl,trivial⟩,⟨(Option.some.inj (zF (zH _))).symm,trivial⟩, ?_⟩
   refine d_n 1 16 6 [(63,.agg #[iv 1,iv 5,iv 0,iv ((zY ns 60) (3+5*((zC slot 6).toNat)+1)),iv 4000,iv ((zY ns 60) (3+5*((zC slot 6).toNat)+2)),iv 0,iv 2,iv 0,bv false,iv 0,zQ (some (0,12+m8)) 6 12,.slice none 0 0])] (wS o ns ov vs [cw (zL pp true nr (wt 4 mw)),slB zI (ii (qA pp)) (some mw),.gone,zG (some (0,12+m8)) (vI x m8) true]) [⟨14,[],(zcD [] []),some 6⟩,⟨13,[1],[],none⟩,⟨9,[2],[],none⟩,⟨4,[2],[],none⟩] (by kernel_rfl) rfl rfl ?_
   have hbl:=bld_len (x:=(zdn (zY ns 60 (3+5*(zC slot 6).toNat+1)) (zY ns 60 (3+5*(zC slot 6).toNat+2)) x)) (nePk_ok hR9.1 hR9.2)
   refine d_clN [6,5] [zG (some (0,12+m8)) (vI x m8) false,zG none (u8 ([]:List Int)) false] [pkV (zdn (zY ns 60 (3+5*(zC slot 6).toNat+1)) (zY ns 60 (3+5*(zC slot 6).toNat+2)) x) (some (0,12+m8)) 0 none 1] (Build1C (some (0,12+m8)) none (stL x 1++List.replicate m8 0) ([]:List Int) (zdn (zY ns 60 (3+5*(zC slot 6).toNat+1)) (zY ns 60 (3+5*(zC slot 6).toNat+2)) x) (row_st x 1 m8) (row_nil) (nePk_ok hR9.1 hR9.2) rfl) rfl (zM (zcH rfl rfl) rfl) ⟨⟨_,rfl,z4 (q:=some (0,12+m8)) (q':=some (0,12+m8)) (zH _) rfl (fun q=>rfl)⟩,⟨_,rfl,.inr ⟨rfl,rfl⟩⟩,trivial⟩ dC ⟨_,_,⟨rfl,rfl⟩,Nat.le_add_right 2 1,zbG [_,_] [_]⟩ ?_ (by kernel_rfl)
   rintro v1 h1' ⟨rfl,rfl⟩
   refine ⟨zai [_,_] [_],.tuple #[zQ (some (0,(bld (zdn (zY ns 60 (3+5*(zC slot 6).toNat+1)) (zY ns 60 (3+5*(zC slot 6).toNat+2)) x)).length)) 7 ((bld (zdn (zY ns 60 (3+5*(zC slot 6).toNat+1)) (zY ns 60 (3+5*(zC slot 6).toNat+2)) x)).length),iv 0],(wS o ns ov vs [cw (zL pp true nr (wt 4 mw)),slB zI (ii (qA pp)) (some mw),.gone,zG (some (0,12+m8)) (vI x m8) true]),[zG (some (0,(bld (zdn (zY ns 60 (3+5*(zC slot 6).toNat+1)) (zY ns 60 (3+5*(zC slot 6).toNat+2)) x)).length)) (u8 (bld (zdn (zY ns 60 (3+5*(zC slot 6).toNat+1)) (zY ns 60 (3+5*(zC slot 6).toNat+2)) x))) true],((zdD _).trans rfl),⟨rfl,rfl,rfl,rfl,rfl,rfl,rfl,trivial⟩,⟨(zc9 (zH _)),trivial⟩, ?_⟩
   refine d_n 5 22 6 [(14,iv 0),(13,zQ (some (0,(bld (zdn (zY ns 60 (3+5*(zC slot 6).toNat+1)) (zY ns 60 (3+5*(zC slot 6).toNat+2)) x)).length)) 7 ((bld (zdn (zY ns 60 (3+5*(zC slot 6).toNat+1)) (zY ns 60 (3+5*(zC slot 6).toNat+2)) x)).length)),(66,iv 0),(65,zQ (some (0,(bld (zdn (zY ns 60 (3+5*(zC slot 6).toNat+1)) (zY ns 60 (3+5*(zC slot 6).toNat+2)) x)).length)) 7 ((bld (zdn (zY ns 60 (3+5*(zC slot 6).toNat+1)) (zY ns 60 (3+5*(zC slot 6).toNat+2)) x)).length)),(47,.tuple #[zQ (some (0,(bld (zdn (zY ns 60 (3+5*(zC slot 6).toNat+1)) (zY ns 60 (3+5*(zC slot 6).toNat+2)) x)).length)) 7 ((bld (zdn (zY ns 60 (3+5*(zC slot 6).toNat+1)) (zY ns 60 (3+5*(zC slot 6).toNat+2)) x)).length),iv 0])] (wS o ns ov vs [cw (zL pp true nr (wt 4 mw)),slB zI (ii (qA pp)) (some mw),.gone,zG (some (0,12+m8)) (vI x m8) true,zG (some (0,(bld (zdn (zY ns 60 (3+5*(zC slot 6).toNat+1)) (zY ns 60 (3+5*(zC slot 6).toNat+2)) x)).length)) (u8 (bld (zdn (zY ns 60 (3+5*(zC slot 6).toNat+1)) (zY ns 60 (3+5*(zC slot 6).toNat+2)) x))) true]) [⟨16,[6,5],(zcD [6,5] [zG (some (0,12+m8)) (vI x m8) false,zG none (u8 ([]:List Int)) false]),some 7⟩,⟨14,[],(zcD [] []),some 6⟩,⟨13,[1],[],none⟩,⟨9,[2],[],none⟩,⟨4,[2],[],none⟩] (by kernel_rfl) rfl rfl (zgQ (zT ((13,zQ (some (0,(bld (zdn (zY ns 60 (3+5*(zC slot 6).toNat+1)) (zY ns 60 (3+5*(zC slot 6).toNat+2)) x)).length)) 7 ((bld (zdn (zY ns 60 (3+5*(zC slot 6).toNat+1)) (zY ns 60 (3+5*(zC slot 6).toNat+2)) x)).length))::(12,iv (i:Int))::(yY slot ov vs k)) (zJ (zN (o_d 2 [(68,zQ (some (0,(bld (zdn (zY ns 60 (3+5*(zC slot 6).toNat+1)) (zY ns 60 (3+5*(zC slot 6).toNat+2)) x)).length)) 7 ((bld (zdn (zY ns 60 (3+5*(zC slot 6).toNat+1)) (zY ns 60 (3+5*(zC slot 6).toNat+2)) x)).length)),(67,pv 3 0)] ?_)))))
   obtain ⟨T9,hT9⟩: ∃z9,zaU pp nr (bld (zdn (zY ns 60 (3+5*(zC slot 6).toNat+1)) (zY ns 60 (3+5*(zC slot 6).toNat+2)) x))=z9:=⟨_,rfl⟩
   have hNf:T9.2=zbQ nr (zC slot 6).toNat (x,true):=by rw [←hT9];exact hL9.2
   refine qT (zcT [3,7,4] [cw (zL pp true nr (wt 2 mw)),zG (some (0,(bld (zdn (zY ns 60 (3+5*(zC slot 6).toNat+1)) (zY ns 60 (3+5*(zC slot 6).toNat+2)) x)).length)) (u8 (bld (zdn (zY ns 60 (3+5*(zC slot 6).toNat+1)) (zY ns 60 (3+5*(zC slot 6).toNat+2)) x))) false,slB zI (ii (qA pp)) (some mw)] [pv 0 0,zQ (some (0,(bld (zdn (zY ns 60 (3+5*(zC slot 6).toNat+1)) (zY ns 60 (3+5*(zC slot 6).toNat+2)) x)).length)) 1 ((bld (zdn (zY ns 60 (3+5*(zC slot 6).toNat+1)) (zY ns 60 (3+5*(zC slot 6).toNat+2)) x)).length)] (TakeT hT9 (TakeC9 pp nr mw (some (0,(bld (zdn (zY ns 60 (3+5*(zC slot 6).toNat+1)) (zY ns 60 (3+5*(zC slot 6).toNat+2)) x)).length)) (bld (zdn (zY ns 60 (3+5*(zC slot 6).toNat+1)) (zY ns 60 (3+5*(zC slot 6).toNat+2)) x)) (bld (zdn (zY ns 60 (3+5*(zC slot 6).toNat+1)) (zY ns 60 (3+5*(zC slot 6).toNat+2)) x)) (RowOf.whole rfl (Nat.le_refl _)) om hY.r hn hL9.1)) rfl rfl ⟨⟨_,rfl,zam (.inl (zav rfl (fun q=>rfl)))⟩,⟨_,rfl,zam (z4 (q:=some (0,(bld (zdn (zY ns 60 (3+5*(zC slot 6).toNat+1)) (zY ns 60 (3+5*(zC slot 6).toNat+2)) x)).length)) (q':=some (0,(bld (zdn (zY ns 60 (3+5*(zC slot 6).toNat+1)) (zY ns 60 (3+5*(zC slot 6).toNat+2)) x)).length)) (zH _) rfl (fun q=>rfl))⟩,⟨_,rfl,zam (zhy (some mw) (fun _=>(zaf _ _)))⟩,trivial⟩ dC ?_)
   rintro v1 h1' ⟨rfl,rfl⟩
   refine ⟨(zS zaE (zS z7 (zS z7 q8))),.agg #[iv T9.1.e,iv T9.1.s,bv T9.1.c,zQ (zD T9.1.b) 8 T9.1.b.length],(wS o ns ov vs [cw (zL pp true T9.2 (wt 4 mw)),slB zI (ii (qA pp)) (some mw),.gone,zG (some (0,12+m8)) (u8 (stL x 1++List.replicate m8 0)) true,zG (some (0,(bld (zdn (zY ns 60 (3+5*(zC slot 6).toNat+1)) (zY ns 60 (3+5*(zC slot 6).toNat+2)) x)).length)) (u8 (bld (zdn (zY ns 60 (3+5*(zC slot 6).toNat+1)) (zY ns 60 (3+5*(zC slot 6).toNat+2)) x))) true]),[zG (zD T9.1.b) (u8 T9.1.b) true],(zbq rfl),⟨rfl,rfl,rfl,zbe rfl,(by rcases some mw with _ | m9<;>first | rfl | exact zbf (zaf _ _)),rfl,rfl,rfl,trivial⟩,⟨(Option.some.inj (zF (zH _))).symm,trivial⟩, ?_⟩
   refine zE (zA (zJ (zbF [] (r_s (by refine zV (v:=zau (zY ns 60)) rfl rfl ?_;exact zaK (zY ns 60)) ?_))))
   refine r_d 1 [(72,iv k)] (zfv (zbH (KeyC k) rfl rfl rfl (r_d 1 [(74,.agg #[iv 6,iv 0,iv 0,iv 0,iv 0,uv (zbV k),uv (zbU k)])] (zfv (zbH (refApplyC (zY ns 60) (⟨6,0,0,0,0,zbV k,zbU k⟩)) rfl (all_cons (zbr (zY ns 60)) (all_cons rfl rfl)) (all_cons (zaA ((wE ns k).1)) (all_cons rfl rfl)) (r_b 4 [(15,pv 9 0),(77,iv ((wE ns k).2)),(76,zau ((wE ns k).1)),(70,.tuple #[zau ((wE ns k).1),iv ((wE ns k).2)])] (wS o ns ov vs [cw (zL pp true T9.2 (wt 4 mw)),slB zI (ii (qA pp)) (some mw),.gone,zG (some (0,12+m8)) (u8 (stL x 1++List.replicate m8 0)) true,zG (some (0,(bld (zdn (zY ns 60 (3+5*(zC slot 6).toNat+1)) (zY ns 60 (3+5*(zC slot 6).toNat+2)) x)).length)) (u8 (bld (zdn (zY ns 60 (3+5*(zC slot 6).toNat+1)) (zY ns 60 (3+5*(zC slot 6).toNat+2)) x))) true,zG (zD T9.1.b) (u8 T9.1.b) true,cw (pl qN)]) (r_s0 (by refine zao (c':=pl ((wE ns k).1)) rfl rfl rfl ?_ ?_ ?_;exact qH _;exact zb8 om;exact zac qN ((wE ns k).1)) ?_)))))))
   refine r_b 1 [(16,iv ((wE ns k).2))] (wS o ns ov vs [cw (zL pp true T9.2 (wt 4 mw)),slB zI (ii (qA pp)) (some mw),.gone,zG (some (0,12+m8)) (u8 (stL x 1++List.replicate m8 0)) true,zG (some (0,(bld (zdn (zY ns 60 (3+5*(zC slot 6).toNat+1)) (zY ns 60 (3+5*(zC slot 6).toNat+2)) x)).length)) (u8 (bld (zdn (zY ns 60 (3+5*(zC slot 6).toNat+1)) (zY ns 60 (3+5*(zC slot 6).toNat+2)) x))) true,zG (zD T9.1.b) (u8 T9.1.b) true,cw (pl ((wE ns k).1))]) (zbk (zA (zJ (zJ (zN (o_d 1 [(78,iv (i:Int))] (o_s (by refine zR (v:= .int .i64 ((i:Int).tmod 3)) (congrArg wh (rem_nn om)) ?_;kernel_rfl) ?_)))))))
   refine o_d 1 [(80,bv (((i:Int) % 3)==1))] (zE (zA (qK (t:=((i:Int) % 3)==1) rfl (fun h10=>?_) (fun h10=>?_))))
   ·skip
    have h10':(i:Int) % 3=1:=zaL h10
    refine zN (o_d 1 [(81,pv 3 0)] (o_s (by refine zV (v:=zau ((wE ns k).1)) rfl rfl ?_;exact zaK ((wE ns k).1)) ?_))
    refine qT (zcT [3,4] [cw (zL pp true T9.2 (wt 1 mw)),cr []] [pv 0 0,zau ((wE ns k).1)] (PLoadC pp true T9.2 (some mw) ((wE ns k).1)) rfl (zM rfl (zM (qP (zbr ((wE ns k).1))) rfl)) ⟨⟨_,rfl,zam (.inl (zav rfl (fun q=>rfl)))⟩,⟨_,rfl,zbB (some mw)⟩,trivial⟩ dC ?_)
    rintro v1 h1' ⟨rfl,m11,rfl⟩
    refine ⟨(zS zaE (zS z7 q8)),.tuple #[],(wS o ns ov vs [cw (zL ((wE ns k).1) true T9.2 (wt 10 m11)),slB zI (ii (qA pp)) (some mw),.gone,zG (some (0,12+m8)) (vI x m8) true,zG (some (0,(bld (zdn (zY ns 60 (3+5*(zC slot 6).toNat+1)) (zY ns 60 (3+5*(zC slot 6).toNat+2)) x)).length)) (u8 (bld (zdn (zY ns 60 (3+5*(zC slot 6).toNat+1)) (zY ns 60 (3+5*(zC slot 6).toNat+2)) x))) true,zG (zD T9.1.b) (u8 T9.1.b) true,cw (pl ((wE ns k).1))]),[slB zI (ii (qA ((wE ns k).1))) (some m11)],(by simp [zaI]),⟨rfl,rfl,rfl,zbe rfl,rfl,rfl,rfl,rfl,rfl,rfl,trivial⟩,⟨(Option.some.inj (qX (some m11) (fun _=>(zaf _ _)))).symm,trivial⟩, ?_⟩
    refine zE (zA (zJ (zN (o_d 2 [(86,iv (zC slot 6)),(85,pv 3 0)] (qT (zcT [3,10] [cr (zL ((wE ns k).1) true T9.2 (wt 1 m11)),cr []] [pv 0 0,iv (zC slot 6)] (NearC ((wE ns k).1) true T9.2 (some m11) (zC slot 6)) rfl rfl ⟨⟨_,rfl,zam (.inl (zav rfl (fun q=>rfl)))⟩,⟨_,rfl,zbB (some m11)⟩,trivial⟩ dC ?_))))))
    rintro v1 h1' ⟨rfl,rfl⟩
    refine ⟨(zS z7 (zS z7 q8)),.tuple #[.int .u32 ((qZ T9.2 (zC slot 6)).1),bv ((qZ T9.2 (zC slot 6)).2)],(wS o ns ov vs [cw (zL ((wE ns k).1) true T9.2 (wt 10 m11)),slB zI (ii (qA pp)) (some mw),.gone,zG (some (0,12+m8)) (vI x m8) true,zG (some (0,(bld (zdn (zY ns 60 (3+5*(zC slot 6).toNat+1)) (zY ns 60 (3+5*(zC slot 6).toNat+2)) x)).length)) (u8 (bld (zdn (zY ns 60 (3+5*(zC slot 6).toNat+1)) (zY ns 60 (3+5*(zC slot 6).toNat+2)) x))) true,zG (zD T9.1.b) (u8 T9.1.b) true,cw (pl ((wE ns k).1)),slB zI (ii (qA ((wE ns k).1))) (some m11)]),[],(qP rfl),⟨rfl,rfl,rfl,rfl,rfl,rfl,rfl,rfl,rfl,rfl,rfl,trivial⟩,trivial, ?_⟩
    refine o_d 5 [(18,bv ((qZ T9.2 (zC slot 6)).2)),(17,.int .u32 ((qZ T9.2 (zC slot 6)).1)),(89,bv ((qZ T9.2 (zC slot 6)).2)),(88,.int .u32 ((qZ T9.2 (zC slot 6)).1)),(84,.tuple #[.int .u32 ((qZ T9.2 (zC slot 6)).1),bv ((qZ T9.2 (zC slot 6)).2)])] (zE (zT ((18,bv ((qZ T9.2 (zC slot 6)).2))::(17,.int .u32 ((qZ T9.2 (zC slot 6)).1))::(12,iv (i:Int))::(yY slot ov vs k)) (zJ (zN (o_d 3 [(92,bv (!((qZ T9.2 (zC slot 6)).2))),(91,bv (!((qZ T9.2 (zC slot 6)).2))),(90,bv ((qZ T9.2 (zC slot 6)).2))] (zbC (b:= !((qZ T9.2 (zC slot 6)).2)) 92 rfl (fun q=>by rw [(by rw [zgL om,hNf,zeo];rfl:(!((qZ T9.2 (zC slot 6)).2))=false)] at q;cases q) (fun k12=>?_)))))))
    refine o_d 3 [(95,iv (i:Int)),(94,inV ov 1 vs.length),(93,.int .u32 ((qZ T9.2 (zC slot 6)).1))] (z8 rfl (o_s (by exact zdW (o':=i) rfl (fun q=>by rw [hnvs q];rfl) rfl om om) ?_))
    refine z8 rfl (o_s (by refine zV (v:= .int .u32 x) rfl (hf_in (n:=vs.length) rfl (fun q=>by rw [hnvs q];rfl) om) ?_;exact ui_r (i:=i) om hx) ?_)
    refine o_d 2 [(99,bv (((qZ T9.2 (zC slot 6)).1)!=x)),(98,bv (((qZ T9.2 (zC slot 6)).1)!=x))] (zE (zA (qK (t:=((qZ T9.2 (zC slot 6)).1)!=x) rfl (fun q=>by rw [(by rw [zgL om,hNf,zeo];exact bne_self_eq_false x:(((qZ T9.2 (zC slot 6)).1)!=x)=false)] at q;cases q) (fun _=>?_))))
    refine qM (zA (zN (o_d 1 [(45,iv (i:Int))] (o_s (by refine zR (v:= .int .i64 (i64.wrap ((i:Int)+1))) (congrArg wh (w64 om om)) ?_;kernel_rfl) ?_))))
    refine o_d 1 [(12,iv ((i:Int)+1))] (zE (⟨10 - (i+1), ?_⟩))
    refine ⟨⟨reg ((12,iv ((i+1):Int))::(yY slot ov vs k)),(wS o ns ov vs [cw (zL ((wE ns k).1) true T9.2 (wt 4 m11)),slB zI (ii (qA ((wE ns k).1))) (some m11)])⟩, ?_⟩
    refine zee om ⟨?_, ?_⟩
    ·exact Wk.ren [0,1,2,3,10] rfl rfl dC ⟨rfl,rfl,rfl,rfl,((zda ov rfl)).trans rfl,rfl,trivial⟩ ⟨.inl (zcI o (zay ns)),.inl (zcI ov (zgU vs)),.inl (zW (zaq (zY ns 60))),.inl (qE rfl),.inl (qX (some m11) (fun _=>(zaf _ _))),trivial⟩
    ·exact ⟨(i+1),((wE ns k).1),T9.2,m11,rfl,om,(neY_turn ns _ _),(by rw [hNf];exact nrSet_rng hn hxr),(by rw [hNf,zeo,decide_eq_true om]),rfl⟩
   have h10': ¬((i:Int) % 3=1):=zaM h10
   refine qM (zA (zJ (zN (o_d 2 [(86,iv (zC slot 6)),(85,pv 3 0)] (qT (zcT [3,4] [cr (zL pp true T9.2 (wt 1 mw)),cr []] [pv 0 0,iv (zC slot 6)] (NearC pp true T9.2 (some mw) (zC slot 6)) rfl rfl ⟨⟨_,rfl,zam (.inl (zav rfl (fun q=>rfl)))⟩,⟨_,rfl,zbB (some mw)⟩,trivial⟩ dC ?_))))))
   rintro v1 h1' ⟨rfl,rfl⟩
   refine ⟨(zS z7 (zS z7 q8)),.tuple #[.int .u32 ((qZ T9.2 (zC slot 6)).1),bv ((qZ T9.2 (zC slot 6)).2)],(wS o ns ov vs [cw (zL pp true T9.2 (wt 4 mw)),slB zI (ii (qA pp)) (some mw),.gone,zG (some (0,12+m8)) (u8 (stL x 1++List.replicate m8 0)) true,zG (some (0,(bld (zdn (zY ns 60 (3+5*(zC slot 6).toNat+1)) (zY ns 60 (3+5*(zC slot 6).toNat+2)) x)).length)) (u8 (bld (zdn (zY ns 60 (3+5*(zC slot 6).toNat+1)) (zY ns 60 (3+5*(zC slot 6).toNat+2)) x))) true,zG (zD T9.1.b) (u8 T9.1.b) true,cw (pl ((wE ns k).1))]),[],(qP rfl),⟨rfl,rfl,rfl,rfl,rfl,rfl,rfl,rfl,rfl,rfl,trivial⟩,trivial, ?_⟩
   refine o_d 5 [(18,bv ((qZ T9.2 (zC slot 6)).2)),(17,.int .u32 ((qZ T9.2 (zC slot 6)).1)),(89,bv ((qZ T9.2 (zC slot 6)).2)),(88,.int .u32 ((qZ T9.2 (zC slot 6)).1)),(84,.tuple #[.int .u32 ((qZ T9.2 (zC slot 6)).1),bv ((qZ T9.2 (zC slot 6)).2)])] (zE (zT ((18,bv ((qZ T9.2 (zC slot 6)).2))::(17,.int .u32 ((qZ T9.2 (zC slot 6)).1))::(12,iv (i:Int))::(yY slot ov vs k)) (zJ (zN (o_d 3 [(92,bv (!((qZ T9.2 (zC slot 6)).2))),(91,bv (!((qZ T9.2 (zC slot 6)).2))),(90,bv ((qZ T9.2 (zC slot 6)).2))] (zbC (b:= !((qZ T9.2 (zC slot 6)).2)) 92 rfl (fun q=>by rw [(by rw [zgL om,hNf,zeo];rfl:(!((qZ T9.2 (zC slot 6)).2))=false)] at q;cases q) (fun k13=>?_)))))))
   refine o_d 3 [(95,iv (i:Int)),(94,inV ov 1 vs.length),(93,.int .u32 ((qZ T9.2 (zC slot 6)).1))] (z8 rfl (o_s (by exact zdW (o':=i) rfl (fun q=>by rw [hnvs q];rfl) rfl om om) ?_))
   refine z8 rfl (o_s (by refine zV (v:= .int .u32 x) rfl (hf_in (n:=vs.length) rfl (fun q=>by rw [hnvs q];rfl) om) ?_;exact ui_r (i:=i) om hx) ?_)
   refine o_d 2 [(99,bv (((qZ T9.2 (zC slot 6)).1)!=x)),(98,bv (((qZ T9.2 (zC slot 6)).1)!=x))] (zE (zA (qK (t:=((qZ T9.2 (zC slot 6)).1)!=x) rfl (fun q=>by rw [(by rw [zgL om,hNf,zeo];exact bne_self_eq_false x:(((qZ T9.2 (zC slot 6)).1)!=x)=false)] at q;cases q) (fun _=>?_))))
   refine qM (zA (zN (o_d 1 [(45,iv (i:Int))] (o_s (by refine zR (v:= .int .i64 (i64.wrap ((i:Int)+1))) (congrArg wh (w64 om om)) ?_;kernel_rfl) ?_))))
   refine o_d 1 [(12,iv ((i:Int)+1))] (zE (⟨10 - (i+1), ?_⟩))
   refine ⟨⟨reg ((12,iv ((i+1):Int))::(yY slot ov vs k)),(wS o ns ov vs [cw (zL pp true T9.2 (wt 4 mw)),slB zI (ii (qA pp)) (some mw)])⟩, ?_⟩
   refine zee om ⟨?_, ?_⟩
   ·exact Wk.ren [0,1,2,3,4] rfl rfl dC ⟨rfl,rfl,rfl,rfl,((zda ov rfl)).trans rfl,rfl,trivial⟩ ⟨.inl (zcI o (zay ns)),.inl (zcI ov (zgU vs)),.inl (zW (zaq (zY ns 60))),.inl (qE rfl),.inl (qX (some mw) (fun _=>(zaf _ _))),trivial⟩
   ·exact ⟨(i+1),pp,T9.2,mw,rfl,om,hY,(by rw [hNf];exact nrSet_rng hn hxr),(by rw [hNf,zeo,decide_eq_true om]),rfl⟩
  have h7': ¬((i:Int) < 10):=of_decide_eq_false h7
  refine zc0 (zA (zJ (zN (o_d 2 [(102,iv (zC slot 6)),(101,pv 3 0)] (qT (zcT [3,4] [cr (zL pp true nr (wt 1 mw)),cr []] [pv 0 0,iv (zC slot 6)] (NearC pp true nr (some mw) (zC slot 6)) rfl rfl ⟨⟨_,rfl,zam (.inl (zav rfl (fun q=>rfl)))⟩,⟨_,rfl,zbB (some mw)⟩,trivial⟩ dC ?_))))))
  rintro v1 h1' ⟨rfl,rfl⟩
  refine ⟨(zS z7 (zS z7 q8)),.tuple #[.int .u32 ((qZ nr (zC slot 6)).1),bv ((qZ nr (zC slot 6)).2)],(wS o ns ov vs [cw (zL pp true nr (wt 4 mw)),slB zI (ii (qA pp)) (some mw)]),[],(qP rfl),⟨rfl,rfl,rfl,rfl,rfl,trivial⟩,trivial, ?_⟩
  refine o_d 5 (xq nr slot) (zE (zT [(20,bv ((qZ nr (zC slot 6)).2)),(2,inV ov 1 vs.length)] (zJ (zN (o_d 2 [(107,inV ov 1 vs.length),(106,bv ((qZ nr (zC slot 6)).2))] (o_s (by exact zeK rfl (fun q=>by rw [hnvs q];rfl)) ?_))))))
  refine o_d 3 [(8,bv (((qZ nr (zC slot 6)).2)==(decide (((vs.length:Nat):Int) > 0)))),(110,bv (((qZ nr (zC slot 6)).2)==(decide (((vs.length:Nat):Int) > 0)))),(109,bv (decide (((vs.length:Nat):Int) > 0)))] (zE (zA (qV ?_)))
  have E0_:(((qZ nr (zC slot 6)).2)==(decide (((vs.length:Nat):Int) > 0)))=true:=by
   rw [zgL om,hq];by_cases h0:0 < i
   ·rw [decide_eq_true h0,decide_eq_true om];rfl
   ·rw [decide_eq_false h0,decide_eq_false om];rfl
  exact qC [bv (((qZ nr (zC slot 6)).2)==(decide (((vs.length:Nat):Int) > 0)))] (zU rfl rfl) rfl (by rw [E0_];rfl) rfl (show List.all [inB o (ii ns),inB ov (ui vs)] zhH=true from (all_cons (zcd _ (zay ns)) (all_cons (zcd _ (zgU vs)) rfl)))
 have h6': ¬((i:Int) < (vs.length:Nat)):=of_decide_eq_false h6
 refine o_d 3 [(44,bv false),(43,undef),(42,undef)] (zE (zA (zba rfl (zc0 (zA (zJ (zN (o_d 2 [(102,iv (zC slot 6)),(101,pv 3 0)] (qT (zcT [3,4] [cr (zL pp true nr (wt 1 mw)),cr []] [pv 0 0,iv (zC slot 6)] (NearC pp true nr (some mw) (zC slot 6)) rfl rfl ⟨⟨_,rfl,zam (.inl (zav rfl (fun q=>rfl)))⟩,⟨_,rfl,zbB (some mw)⟩,trivial⟩ dC ?_))))))))))
 rintro v1 h1' ⟨rfl,rfl⟩
 refine ⟨(zS z7 (zS z7 q8)),.tuple #[.int .u32 ((qZ nr (zC slot 6)).1),bv ((qZ nr (zC slot 6)).2)],(wS o ns ov vs [cw (zL pp true nr (wt 4 mw)),slB zI (ii (qA pp)) (some mw)]),[],(qP rfl),⟨rfl,rfl,rfl,rfl,rfl,trivial⟩,trivial, ?_⟩
 refine o_d 5 (xq nr slot) (zE (zT [(20,bv ((qZ nr (zC slot 6)).2)),(2,inV ov 1 vs.length)] (zJ (zN (o_d 2 [(107,inV ov 1 vs.length),(106,bv ((qZ nr (zC slot 6)).2))] (o_s (by exact zeK rfl (fun q=>by rw [hnvs q];rfl)) ?_))))))
 refine o_d 3 [(8,bv (((qZ nr (zC slot 6)).2)==(decide (((vs.length:Nat):Int) > 0)))),(110,bv (((qZ nr (zC slot 6)).2)==(decide (((vs.length:Nat):Int) > 0)))),(109,bv (decide (((vs.length:Nat):Int) > 0)))] (zE (zA (qV ?_)))
 have E0_:(((qZ nr (zC slot 6)).2)==(decide (((vs.length:Nat):Int) > 0)))=true:=by
  rw [zgL om,hq];by_cases h0:0 < i
  ·rw [decide_eq_true h0,decide_eq_true om];rfl
  ·rw [decide_eq_false h0,decide_eq_false om];rfl
 exact qC [bv (((qZ nr (zC slot 6)).2)==(decide (((vs.length:Nat):Int) > 0)))] (zU rfl rfl) rfl (by rw [E0_];rfl) rfl (show List.all [inB o (ii ns),inB ov (ui vs)] zhH=true from (all_cons (zcd _ (zay ns)) (all_cons (zcd _ (zgU vs)) rfl)))
end Go.Rh
