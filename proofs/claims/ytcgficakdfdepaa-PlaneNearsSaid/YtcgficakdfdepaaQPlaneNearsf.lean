/- The proofs zch the intermediate form, part QPlaneNearsf. -/
import Derived.Test.YtcgficakdfdepaaQPlaneNearse
open Go.IntKind (i64)
set_option linter.unusedVariables false
set_option linter.unusedSimpArgs false
set_option maxRecDepth 100000
set_option maxHeartbeats 1000000
namespace Go.Rh
def qZ (nr:zds) (s:Int):Int×Bool:=if s < 0∨64≤s then (0,false) else nr s.toNat
theorem NearC {P:Program} [PrC P] (p:q9) (is:Bool) (nr:zds) (q:Option Nat) (s:Int):
    Env P "(*roundhouse/plane.Plane).Near" [pv 0 0,iv s] ([cr (zL p is nr (v7 q)),cr []]) (fun v h'=>v= .tuple #[u32v (qZ nr s).1,bv (qZ nr s).2]∧h'= [cr (zL p is nr (v7 q)),cr []]):=by
 refine Env.by2 PrC.plane_Plane_Near ?_
 unfold zdL
 show GC _ 2 _ _ ⟨reg [(0,pv 0 0),(1,iv s)],[cr (zL p is nr (v7 q)),cr []]⟩
 refine zJ (zN (o_d 2 [(5,bv false),(4,.int .u32 0)] (zE (zA (zJ (zJ (zN (o_d 3 [(8,bv (decide (s < 0))),(7,bv (decide (s < 0))),(6,iv s)] (zbC (b:=decide (s < 0)) 8 rfl (fun h1=>?_) (fun h1=>?_))))))))))
 ·skip
  have h1':s < 0:=of_decide_eq_true h1
  exact o_d 3 [(11,bv true),(10,undef),(9,undef)] (zE (zA (zcZ rfl (zJ (zN (o_d 2 [(5,bv false),(4,.int .u32 0)] (zE (zA (qV (⟨trivial,⟨reg [(4,.int .u32 0),(5,bv false)],[cr (zL p is nr (v7 q)),cr []]⟩,Wk.ren [0,1] rfl rfl dC ⟨rfl,rfl,trivial⟩ ⟨.inl (qE (zaR q rfl)),.inl rfl,trivial⟩,[.int .u32 0,bv false],(zU rfl (zU rfl rfl)),(zK rfl (zK rfl z5)),(by rw [qZ,if_pos om];rfl),rfl⟩))))))))))
 have h1': ¬(s < 0):=of_decide_eq_false h1
 refine o_d 3 [(11,bv (decide (s≥64))),(10,bv (decide (s≥64))),(9,iv s)] (zE (zA (qK (t:=decide (s≥64)) rfl (fun h2=>?_) (fun h2=>?_))))
 ·skip
  have h2':s≥64:=of_decide_eq_true h2
  exact zJ (zN (o_d 2 [(5,bv false),(4,.int .u32 0)] (zE (zA (qV (⟨trivial,⟨reg [(4,.int .u32 0),(5,bv false)],[cr (zL p is nr (v7 q)),cr []]⟩,Wk.ren [0,1] rfl rfl dC ⟨rfl,rfl,trivial⟩ ⟨.inl (qE (zaR q rfl)),.inl rfl,trivial⟩,[.int .u32 0,bv false],(zU rfl (zU rfl rfl)),(zK rfl (zK rfl z5)),(by rw [qZ,if_pos om];rfl),rfl⟩))))))
 have h2': ¬(s≥64):=of_decide_eq_false h2
 refine qM (zA (zJ (zbF [] (r_d 4 [(15,pv 0 331),(14,pv 0 0),(13,iv s),(12,pv 0 0)] (r_s (by exact zaN (o:=331) (o':=331+2*s.toNat) rfl rfl om om) ?_)))))
 refine r_s (by refine zcf (o':=331+2*s.toNat) rfl om) ?_
 refine r_s (by refine zV (v:= .int .u32 ((nr s.toNat).1)) rfl rfl ?_;exact zjb (i:=s.toNat) (j:=0) om om rfl) ?_
 refine r_d 4 [(22,pv 0 331),(21,pv 0 0),(20,iv s),(19,pv 0 0)] (r_s (by exact zaN (o:=331) (o':=331+2*s.toNat) rfl rfl om om) ?_)
 refine r_s (by refine zcf (o':=332+2*s.toNat) rfl om) ?_
 refine r_s (by refine zV (v:=bv ((nr s.toNat).2)) rfl rfl ?_;exact zjb (i:=s.toNat) (j:=1) om om rfl) ?_
 exact r_d 2 [(5,bv ((nr s.toNat).2)),(4,.int .u32 ((nr s.toNat).1))] (zbk (zT [(5,bv ((nr s.toNat).2)),(4,.int .u32 ((nr s.toNat).1))] (qV (⟨trivial,⟨reg [(4,.int .u32 ((nr s.toNat).1)),(5,bv ((nr s.toNat).2))],[cr (zL p is nr (v7 q)),cr []]⟩,Wk.ren [0,1] rfl rfl dC ⟨rfl,rfl,trivial⟩ ⟨.inl (qE (zaR q rfl)),.inl rfl,trivial⟩,[.int .u32 ((nr s.toNat).1),bv ((nr s.toNat).2)],(zU rfl (zU rfl rfl)),(zK rfl (zK rfl z5)),(by rw [qZ,if_neg om];rfl),rfl⟩))))
theorem LayUC {P:Program} [PrC P] (p:q9) (is:Bool) (nr:zds) (q:Option Nat) (i:Nat) (v:Int) (hi:i < 64):
    Env P "(*roundhouse/plane.maybe[uint32]).lay" [pv 0 (331+2*i),.int .u32 v] ([cw (zL p is nr (v7 q)),cr []]) (fun w h'=>w= .tuple #[]∧h'= [cw (zL p is (zbQ nr i (v,true)) (v7 q)),cr []]):=by
 refine Env.by2 PrC.plane_maybe_uint32_lay ?_
 unfold zcl
 show GC _ 2 _ _ ⟨reg [(0,pv 0 (331+2*i)),(1,.int .u32 v)],[cw (zL p is nr (v7 q)),cr []]⟩
 refine zN (o_d 4 [(7,pv 0 (331+2*i)),(6,.int .u32 v),(5,pv 0 (331+2*i)),(4,pv 0 (331+2*i))] (o_s (by refine zcf (o':=331+2*i) rfl om) ?_))
 refine zdu (by refine zao (c':=zL p is (zbQ nr i (v,(nr i).2)) (v7 q)) rfl rfl rfl ?_ ?_ ?_;exact rfl;exact zff om;exact plane_wN (i:=i) (j:=0) (y:=(v,(nr i).2)) om om (Nat.le_of_ble_eq_true rfl) rfl) ?_
 refine o_b 1 [(9,pv 0 (331+2*i))] [cw (zL p is (zbQ nr i (v,(nr i).2)) (v7 q)),cr []] (o_s (by refine zcf (o':=332+2*i) rfl om) ?_)
 refine zdu (by refine zao (c':=zL p is (zbQ (zbQ nr i (v,(nr i).2)) i (((zbQ nr i (v,(nr i).2)) i).1,true)) (v7 q)) rfl rfl rfl ?_ ?_ ?_;exact rfl;exact zff om;exact plane_wN (i:=i) (j:=1) (y:=(((zbQ nr i (v,(nr i).2)) i).1,true)) om om (Nat.le_of_ble_eq_true rfl) rfl) ?_
 exact zE (⟨trivial,⟨reg [],[cw (zL p is (zbQ (zbQ nr i (v,(nr i).2)) i (((zbQ nr i (v,(nr i).2)) i).1,true)) (v7 q)),cr []]⟩,Wk.ren [0,1] rfl rfl dC trivial ⟨.inl (qE (zaR q rfl)),.inl rfl,trivial⟩,[],rfl,z5,rfl,(by rw [nrSet_set,zeo])⟩)
abbrev wv (a:Pk) (b:Option (Nat×Nat)) (c:Nat) (d:Nat) (e:Nat) (f:Bool) (g:q9) (h:Bool) (i:zds) j k:=cr (qS a (zD a.op) 1 b 2 3 (some (c,d)) 4 e)::zG (zD a.op) (u8 a.op) false::zaC f::cr (zL g h i (slV 5 127 j))::cr []::k
abbrev xa (a:Nat) (b:Nat) (c:Nat) (d:Nat) (e:Nat) (f:Nat) (g:Nat) (h:Nat) (i:Nat):=[(a,bv false),(b,.int .u32 0),(c,.int .u32 0),(d,iv 0),(e,bv false),(f,.int .u32 0),(g,.int .u32 0),(h,iv 0),(i,.tuple #[iv 0,.int .u32 0,.int .u32 0,bv false])]
abbrev Wn (a:Fl) (b:q9):=[cr [],cw (vn a),cw [iv (b 323),uv (b 324),uv (b 325),uv (b 326),uv (b 327),uv (b 328),uv (b 329)]]
theorem carriedC {P:Program} [PrC P] (p:q9) (is:Bool) (nr:zds) (q:Option Nat) (x:Pk) (qd:Option (Nat×Nat)) (o c n:Nat) (zd:Bool) (f:Fl) (r:Option Int) (ho:zit p x f=r) (hl:x.op.length≤100000) (H:PRng p):
    Env P "(*roundhouse/plane.packet).carried" [pv 0 0,.agg (wW f)] ((wv x qd o c n zd p is nr q [cr []])) (fun v h'=>v=zdX r∧h'= (wv x qd o c n zd p is nr q [cr []])):=by
 refine Env.by2 PrC.plane_packet_carried ?_
 unfold zcC
 show GC _ 6 _ _ ⟨reg [(0,pv 0 0),(1,.agg (wW f))],(wv x qd o c n zd p is nr q [cr []])⟩
 have hep:=H.e
 refine zJ (zN (o_b 3 [(5,bv false),(4,iv 0),(3,pv 6 0)] (wv x qd o c n zd p is nr q [cr [],cw (vn f)]) (zE (zA (zJ (zN (o_d 3 (xi 15 0 13 14 0 13 0) (o_s (by refine zV (v:=pv 3 0) rfl rfl ?_;exact rfl) ?_))))))))
 refine o_d 4 (wM 20 3 323 19 3 18 3 17 3) (o_s (by refine zV (v:= .agg (vF p)) rfl rfl ?_;exact zem (pl_ring p)) ?_)
 refine o_b 2 [(6,pv 7 0)] (wv x qd o c n zd p is nr q (Wn f p)) (zE (zA (zJ (zJ (zN (o_d 4 (wM 25 0 0 24 0 23 0 22 0) (o_s (by refine zV (v:=iv x.k) rfl rfl ?_;exact rfl) ?_)))))))
 refine o_d 1 [(27,bv (x.k==2))] (zE (zA (qK (t:=x.k==2) rfl (fun h1=>?_) (fun h1=>?_))))
 ·skip
  have h1':x.k=2:=zaL h1
  refine zJ (zJ (zN (o_d 4 (wM 31 0 8 30 0 29 0 28 0) (o_s (by refine zV (v:=iv x.la) rfl rfl ?_;exact rfl) ?_))))
  refine o_d 1 [(33,bv (x.la==0))] (zE (zT [(33,bv (x.la==0)),(6,pv 7 0),(3,pv 6 0),(0,pv 0 0)] (qK (t:=x.la==0) rfl (fun h2=>?_) (fun h2=>?_))))
  ·skip
   have h2':x.la=0:=zaL h2
   refine zJ (zN (o_d 2 (vP 5 4) (zE (zA (qV ?_)))))
   have he:zit p x f=none:=by
    unfold zit
    rw [if_pos (by assumption)]
    rw [if_pos (by assumption)]
   exact ⟨trivial,⟨reg (Wz 4 5),(wv x qd o c n zd p is nr q [cr []])⟩,Wk.ren [0,1,2,3,4,5] rfl rfl dC ⟨rfl,rfl,trivial⟩ ⟨.inl (zax rfl rfl rfl rfl),.inl (zF (zH _)),.inl (congrArg some (zaJ _).symm),.inl (qE (zaR q rfl)),.inl rfl,.inl rfl,trivial⟩,WL,(zU rfl (zU rfl rfl)),(zK rfl (zK rfl z5)),(congrArg zdX (he.symm.trans ho)),rfl⟩
  have h2': ¬(x.la=0):=zaM h2
  refine qM (zA (zJ (zbF [] (r_d 5 [(38,pv 0 0),(37,pv 0 0),(36,pv 0 0),(35,pv 0 0),(34,.agg (vF p))] (r_s (by refine zV (v:=iv x.k) rfl rfl ?_;exact rfl) ?_)))))
  refine r_d 5 [(44,pv 0 8),(43,pv 0 0),(42,pv 0 0),(41,pv 0 0),(40,.agg (wW f))] (r_s (by refine zV (v:=iv x.la) rfl rfl ?_;exact rfl) ?_)
  rcases r3:zez (rgP p) x.k f x.la with _ | s4
  ·skip
   refine zfv (zbH (cReadC (rgP p) x.k f x.la none r3 (by exact hep)) rfl rfl rfl ?_)
   refine r_d 4 [(5,bv false),(4,iv 0),(48,bv false),(47,iv 0)] (zbk (zA (qV ?_)))
   have he:zit p x f=none:=by
    unfold zit
    rw [if_pos (by assumption)]
    rw [if_neg (by assumption)]
    exact r3
   exact ⟨trivial,⟨reg (Wz 4 5),(wv x qd o c n zd p is nr q [cr []])⟩,Wk.ren [0,1,2,3,4,5] rfl rfl dC ⟨rfl,rfl,trivial⟩ ⟨.inl (zax rfl rfl rfl rfl),.inl (zF (zH _)),.inl (congrArg some (zaJ _).symm),.inl (qE (zaR q rfl)),.inl rfl,.inl rfl,trivial⟩,WL,(zU rfl (zU rfl rfl)),(zK rfl (zK rfl z5)),(congrArg zdX (he.symm.trans ho)),rfl⟩
  ·skip
   have hs4:=readS_r r3
   refine zfv (zbH (cReadC (rgP p) x.k f x.la (some s4) r3 (by exact hep)) rfl rfl rfl ?_)
   refine r_d 4 [(5,bv true),(4,iv s4),(48,bv true),(47,iv s4)] (zbk (zA (qV ?_)))
   have he:zit p x f=some s4:=by
    unfold zit
    rw [if_pos (by assumption)]
    rw [if_neg (by assumption)]
    exact r3
   exact ⟨trivial,⟨reg [(4,iv s4),(5,bv true)],(wv x qd o c n zd p is nr q [cr []])⟩,Wk.ren [0,1,2,3,4,5] rfl rfl dC ⟨rfl,rfl,trivial⟩ ⟨.inl (zax rfl rfl rfl rfl),.inl (zF (zH _)),.inl (congrArg some (zaJ _).symm),.inl (qE (zaR q rfl)),.inl rfl,.inl rfl,trivial⟩,[iv s4,bv true],(zU rfl (zU rfl rfl)),(zK rfl (zK rfl z5)),(congrArg zdX (he.symm.trans ho)),rfl⟩
 have h1': ¬(x.k=2):=zaM h1
 refine qM (zA (zJ (zN (o_d 4 (wM 53 0 11 52 0 51 0 50 0) (o_s (by refine zV (v:=zQ (zD x.op) 1 x.op.length) rfl rfl ?_;exact rfl) ?_)))))
 rcases ha5:zcq x.op with _ | a5
 ·skip
  refine qT (zaH [1] [zG (zD x.op) (u8 x.op) false] [zQ (zD x.op) 0 x.op.length] (zgw ha5 (zjE (zD x.op) x.op x.op (zdj x.op) om)) rfl (zM (qI rfl) rfl) ⟨⟨_,rfl,z4 (zH _) rfl (fun q=>q)⟩,trivial⟩ dC ?_)
  rintro v1 h1' ⟨rfl,rfl⟩
  refine ⟨zai [_] [],.tuple #[iv 0,.int .u32 0,.int .u32 0,bv false],(wv x qd o c n zd p is nr q (Wn f p)),[],(qP rfl),⟨rfl,(zaY rfl rfl),rfl,rfl,rfl,rfl,rfl,rfl,trivial⟩,trivial, ?_⟩
  refine o_d 9 (xa 10 9 8 7 59 58 57 56 49) (zE (zT [(10,bv false),(9,.int .u32 0),(6,pv 7 0),(3,pv 6 0),(0,pv 0 0)] (zJ (zJ (zN (o_d 10 [(69,bv true),(68,undef),(67,undef),(66,undef),(65,undef),(64,undef),(63,undef),(62,bv true),(61,bv true),(60,bv false)] (zE (zA (zcZ rfl (zJ (zN (o_d 2 (vP 5 4) ?_))))))))))))
  refine zE (zA (qV ?_))
  have he:zit p x f=none:=by
   unfold zit
   rw [if_neg (by assumption)]
   simp only [ha5]
  exact ⟨trivial,⟨reg (Wz 4 5),(wv x qd o c n zd p is nr q [cr []])⟩,Wk.ren [0,1,2,3,4,5] rfl rfl dC ⟨rfl,rfl,trivial⟩ ⟨.inl (zax rfl rfl rfl rfl),.inl (zF (zH _)),.inl (congrArg some (zaJ _).symm),.inl (qE (zaR q rfl)),.inl rfl,.inl rfl,trivial⟩,WL,(zU rfl (zU rfl rfl)),(zK rfl (zK rfl z5)),(congrArg zdX (he.symm.trans ho)),rfl⟩
 ·skip
  have ha5r:=stampO_r ha5
  have ha5m:=zen x.op a5 4 dC
  have ha5n:=zen x.op (a5+4) 4 dC
  refine qT (zaH [1] [zG (zD x.op) (u8 x.op) false] [zQ (zD x.op) 0 x.op.length] (zgv ha5 (zjE (zD x.op) x.op x.op (zdj x.op) om)) rfl (zM (qI rfl) rfl) ⟨⟨_,rfl,z4 (zH _) rfl (fun q=>q)⟩,trivial⟩ dC ?_)
  rintro v1 h1' ⟨rfl,rfl⟩
  refine ⟨zai [_] [],.tuple #[iv (a5:Nat),.int .u32 (qD x.op a5 4),.int .u32 (qD x.op (a5+4) 4),bv true],(wv x qd o c n zd p is nr q (Wn f p)),[],(qP rfl),⟨rfl,(zaY rfl rfl),rfl,rfl,rfl,rfl,rfl,rfl,trivial⟩,trivial, ?_⟩
  refine o_d 9 [(10,bv true),(9,.int .u32 (qD x.op (a5+4) 4)),(8,.int .u32 (qD x.op a5 4)),(7,iv (a5:Nat)),(59,bv true),(58,.int .u32 (qD x.op (a5+4) 4)),(57,.int .u32 (qD x.op a5 4)),(56,iv (a5:Nat)),(49,.tuple #[iv (a5:Nat),.int .u32 (qD x.op a5 4),.int .u32 (qD x.op (a5+4) 4),bv true])] (zE (zT [(10,bv true),(9,.int .u32 (qD x.op (a5+4) 4)),(6,pv 7 0),(3,pv 6 0),(0,pv 0 0)] (zJ (zJ (zN (o_d 7 [(66,pv 0 7),(65,pv 0 0),(64,pv 0 0),(63,pv 0 0),(62,bv false),(61,bv false),(60,bv true)] (z8 rfl (o_s (by refine zV (v:=iv x.fl) rfl rfl ?_;exact rfl) ?_))))))))
  refine o_d 2 [(69,bv (x.fl==1)),(68,bv (x.fl==1))] (zE (zA (qK (t:=x.fl==1) rfl (fun h6=>?_) (fun h6=>?_))))
  ·skip
   have h6':x.fl=1:=zaL h6
   refine zJ (zN (o_d 2 (vP 5 4) (zE (zA (qV ?_)))))
   have he:zit p x f=none:=by
    unfold zit
    rw [if_neg (by assumption)]
    simp only [ha5]
    exact if_pos (by assumption)
   exact ⟨trivial,⟨reg (Wz 4 5),(wv x qd o c n zd p is nr q [cr []])⟩,Wk.ren [0,1,2,3,4,5] rfl rfl dC ⟨rfl,rfl,trivial⟩ ⟨.inl (zax rfl rfl rfl rfl),.inl (zF (zH _)),.inl (congrArg some (zaJ _).symm),.inl (qE (zaR q rfl)),.inl rfl,.inl rfl,trivial⟩,WL,(zU rfl (zU rfl rfl)),(zK rfl (zK rfl z5)),(congrArg zdX (he.symm.trans ho)),rfl⟩
  have h6': ¬(x.fl=1):=zaM h6
  refine qM (zA (zJ (zN (o_d 1 [(71,.int .u32 (qD x.op (a5+4) 4))] (qT (zal (cGetC (qD x.op (a5+4) 4) om) rfl rfl rfl ?_))))))
  refine o_d 5 [(12,iv ((qD x.op (a5+4) 4) % 1048576)),(11,iv ((qD x.op (a5+4) 4) / 1048576)),(74,iv ((qD x.op (a5+4) 4) % 1048576)),(73,iv ((qD x.op (a5+4) 4) / 1048576)),(70,.tuple #[iv ((qD x.op (a5+4) 4) / 1048576),iv ((qD x.op (a5+4) 4) % 1048576)])] (zE (zA (zJ (zbF [] (r_d 5 [(79,pv 0 0),(78,pv 0 0),(77,pv 0 0),(76,pv 0 0),(75,.agg (vF p))] (r_s (by refine zV (v:=iv x.k) rfl rfl ?_;exact rfl) ?_))))))
  refine r_d 2 [(82,iv ((qD x.op (a5+4) 4) % 1048576)),(81,.agg (wW f))] ?_
  rcases r7:zez (rgP p) x.k f ((qD x.op (a5+4) 4) % 1048576) with _ | s8
  ·skip
   refine zfv (zbH (cReadC (rgP p) x.k f ((qD x.op (a5+4) 4) % 1048576) none r7 (by exact hep)) rfl rfl rfl ?_)
   refine r_d 4 [(5,bv false),(4,iv 0),(85,bv false),(84,iv 0)] (zbk (zT (vP 5 4) (qV ?_)))
   have he:zit p x f=none:=by
    unfold zit
    rw [if_neg (by assumption)]
    simp only [ha5]
    rw [if_neg (by assumption)]
    exact r7
   exact ⟨trivial,⟨reg (Wz 4 5),(wv x qd o c n zd p is nr q [cr []])⟩,Wk.ren [0,1,2,3,4,5] rfl rfl dC ⟨rfl,rfl,trivial⟩ ⟨.inl (zax rfl rfl rfl rfl),.inl (zF (zH _)),.inl (congrArg some (zaJ _).symm),.inl (qE (zaR q rfl)),.inl rfl,.inl rfl,trivial⟩,WL,(zU rfl (zU rfl rfl)),(zK rfl (zK rfl z5)),(congrArg zdX (he.symm.trans ho)),rfl⟩
  ·skip
   have hs8:=readS_r r7
   refine zfv (zbH (cReadC (rgP p) x.k f ((qD x.op (a5+4) 4) % 1048576) (some s8) r7 (by exact hep)) rfl rfl rfl ?_)
   refine r_d 4 [(5,bv true),(4,iv s8),(85,bv true),(84,iv s8)] (zbk (zT [(5,bv true),(4,iv s8)] (qV ?_)))
   have he:zit p x f=some s8:=by
    unfold zit
    rw [if_neg (by assumption)]
    simp only [ha5]
    rw [if_neg (by assumption)]
    exact r7
   exact ⟨trivial,⟨reg [(4,iv s8),(5,bv true)],(wv x qd o c n zd p is nr q [cr []])⟩,Wk.ren [0,1,2,3,4,5] rfl rfl dC ⟨rfl,rfl,trivial⟩ ⟨.inl (zax rfl rfl rfl rfl),.inl (zF (zH _)),.inl (congrArg some (zaJ _).symm),.inl (qE (zaR q rfl)),.inl rfl,.inl rfl,trivial⟩,[iv s8,bv true],(zU rfl (zU rfl rfl)),(zK rfl (zK rfl z5)),(congrArg zdX (he.symm.trans ho)),rfl⟩
end Go.Rh

set_option maxHeartbeats 1000000
namespace Go.Rh
theorem over_no {k s:Nat} {ss:List Nat} {b:Blk} {bs:List Blk} (h: ¬(s=k∧b.rw=true)) (h2:zch k ss bs=none):zch k (s::ss) (b::bs)=none:=by
 simp only [zch];rw [if_neg h,h2]
theorem zhC {k s:Nat} {b:Blk} {ss:List Nat} {bs:List Blk} {q:Option (Nat×Nat)} {ρ:Nat→Nat} {c:List Value} {rw:Bool} (hb:q=none→b= .gone) (hc: ∀v,q=some v→b.rw=false) (h2:zch k ss bs=none):(match zch k (s::ss) (b::bs) with | some b'=>zbo ρ b' | none=>zG q c rw)=zG q c rw:=by
 cases q with
 | none=>
  rw [hb rfl]
  simp only [zch]
  by_cases h:s=k
  ·rw [if_pos ⟨h,rfl⟩];rfl
  ·rw [if_neg (fun t=>h t.1),h2]
 | some v=>rw [over_no (fun t=>by rw [hc v rfl] at t;cases t.2) h2]
theorem hid1 {k s0 s1:Nat} {b0:Blk} {ss:List Nat} {bs:List Blk} {q:Option (Nat×Nat)} {ρ:Nat→Nat} {c:List Value} {rw:Bool} (h0: ¬s0=k) (h2:zch k ss bs=none):(match zch k (s0::s1::ss) (b0::zaC q.isSome::bs) with | some b'=>zbo ρ b' | none=>zG q c rw)=zG q c rw:=by
 have h:zch k (s0::s1::ss) (b0::zaC q.isSome::bs)=zch k (s1::ss) (zaC q.isSome::bs):=by rw [zch,if_neg (fun t=>h0 t.1)]
 rw [h];exact zhC (fun e=>by subst e;rfl) (fun v e=>by subst e;rfl) h2
theorem hid2 {k s0 s1 s2:Nat} {b0 b1:Blk} {ss:List Nat} {bs:List Blk} {q:Option (Nat×Nat)} {ρ:Nat→Nat} {c:List Value} {rw:Bool} (h0: ¬s0=k) (h1: ¬s1=k) (h2:zch k ss bs=none):(match zch k (s0::s1::s2::ss) (b0::b1::zaC q.isSome::bs) with | some b'=>zbo ρ b' | none=>zG q c rw)=zG q c rw:=by
 have h:zch k (s0::s1::s2::ss) (b0::b1::zaC q.isSome::bs)=zch k (s2::ss) (zaC q.isSome::bs):=by rw [zch,if_neg (fun t=>h0 t.1),zch,if_neg (fun t=>h1 t.1)]
 rw [h];exact zhC (fun e=>by subst e;rfl) (fun v e=>by subst e;rfl) h2
theorem row1 {k s0 s1:Nat} {b0:Blk} {ss:List Nat} {bs:List Blk} {q:Option (Nat×Nat)} {ρ:Nat→Nat} {c:List Value} {rw:Bool} {d:List Value} (h0: ¬s0=k) (h2:zch k ss bs=none):(match zch k (s0::s1::ss) (b0::zG q d false::bs) with | some b'=>zbo ρ b' | none=>zG q c rw)=zG q c rw:=by
 have h:zch k (s0::s1::ss) (b0::zG q d false::bs)=zch k (s1::ss) (zG q d false::bs):=by rw [zch,if_neg (fun t=>h0 t.1)]
 rw [h];exact zhC (fun e=>by subst e;rfl) (fun v e=>by subst e;rfl) h2
theorem row2 {k s0 s1 s2:Nat} {b0 b1:Blk} {ss:List Nat} {bs:List Blk} {q:Option (Nat×Nat)} {ρ:Nat→Nat} {c:List Value} {rw:Bool} {d:List Value} (h0: ¬s0=k) (h1: ¬s1=k) (h2:zch k ss bs=none):(match zch k (s0::s1::s2::ss) (b0::b1::zG q d false::bs) with | some b'=>zbo ρ b' | none=>zG q c rw)=zG q c rw:=by
 have h:zch k (s0::s1::s2::ss) (b0::b1::zG q d false::bs)=zch k (s2::ss) (zG q d false::bs):=by rw [zch,if_neg (fun t=>h0 t.1),zch,if_neg (fun t=>h1 t.1)]
 rw [h];exact zhC (fun e=>by subst e;rfl) (fun v e=>by subst e;rfl) h2
theorem zbq {ρ:Nat→Nat} {a b:Int} {c:Bool} {q:Option (Nat×Nat)} {k k' n:Nat} (h:ρ k=k'):zaI ρ (.agg #[iv a,iv b,bv c,zQ q k n])= .agg #[iv a,iv b,bv c,zQ q k' n]:=by
 simp only [zaI,zeN,List.map_toArray,List.map_cons,List.map_nil,zf6 h];rfl
theorem chgR {P:Program} {g:String} {l m f:List Int} {rest:List Value} {o c n:Nat} {L:List Int} (hm:f=m) (hn:l.length=n) (h:Env P g (zQ (some (o,c)) 0 l.length::rest) [zG (some (o,c)) (u8 L) false] (fun v h'=>v= .tuple #[zQ (some (0,l.length)) 1 l.length,iv 0]∧h'= [zG (some (o,c)) (u8 L) false,zG (some (0,l.length)) (u8 f) true])):
  Env P g (zQ (some (o,c)) 0 n::rest) [zG (some (o,c)) (u8 L) false] (fun v h'=>v= .tuple #[zQ (some (0,n)) 1 n,iv 0]∧h'= [zG (some (o,c)) (u8 L) false,zG (some (0,n)) (u8 m) true]):=by
 subst hm;subst hn;exact h
theorem putS_r (v c:Int):0≤putS v c∧putS v c < 4294967296:=by unfold putS;omega
theorem carS_r {p:q9} {x:Pk} {f:Fl} {s:Int} (h:zit p x f=some s):0≤s∧s < 64:=by
 unfold zit at h
 split at h
 ·split at h
  ·cases h
  ·exact readS_r h
 ·split at h
  ·cases h
  ·split at h
   ·cases h
   ·exact readS_r h
abbrev w3 (a:Pk) (b:Option (Nat×Nat)) (c:List Int) d (e:Bool) f:=cw (qS a (zD a.op) 1 b 2 3 (wa c) d c.length)::zG (zD a.op) (u8 a.op) false::zaC e::f
abbrev yy (a:List Int) b:=#[iv 0,iv (-1),bv false,zQ (wa a) b a.length]
abbrev yR (a:q9) (b:Bool) (c:zds) d (e:List Int) f:=cw (zL a b c (slV 5 127 d))::zG (wa e) (u8 e) false::cr []::f
abbrev vo (a:Pk) (b:Option (Nat×Nat)) (c:List Int) (d:Bool):=[cw (qS a (zD a.op) 1 b 2 3 (wa c) 4 c.length),zaC ((zD a.op).isSome),zaC d,cr [],cr [],cr []]
abbrev vw (a:Pk) (b:Option (Nat×Nat)) (c:List Int) d (e:Bool) (f:q9) (g:Bool) (h:zds) i j:=(w3 a b c d e (yR f g h i c [cw wk,cw (pl f),zG (wa c) (u8 j) true]))
abbrev vC (a:Pk) (b:q9):=(Fl.mk a.t a.tp (b 1) (b 2))
abbrev Wc (a:List Int) b c:=[zG (wa a) (u8 b) true,zG (wa a) (u8 c) true]
abbrev Yb (a:List Int):=[pv 0 0,zQ (wa a) 5 a.length,iv 0]
theorem outC3 {P:Program} [PrC P] (p:q9) (is:Bool) (nr:zds) (q:Option Nat) (x:Pk) (qd:Option (Nat×Nat)) (zd:Bool) (l:List Int) (y:Pk) (hp:qU l=(0,y)) (hk:y.k=x.k) (hba:y.ba=x.ba) (h3:x.k≠3) (hop:x.op.length+24≤l.length) (s:Nat) (hs:s < 64) (H:PRng p):
    Env P "(*roundhouse/plane.packet).out" [pv 0 0,iv (s:Nat)] ((w3 x qd l 4 zd [cw (zL p is nr (slV 5 127 q)),zG (wa l) (u8 l) false,cr []])) (fun v h'=>v= .agg (yy l 6)∧h'= (w3 x qd l 6 zd [cw (zL p is (outN nr x s) (slV 5 127 q)),zG (wa l) (u8 l) false,cr [],zG (wa l) (u8 (outL p x l (s:Nat))) true])):=by
 refine Env.by4 PrC.plane_packet_out ?_
 unfold zdK
 show GC _ 6 _ _ ⟨reg [(0,pv 0 0),(1,iv (s:Nat))],(w3 x qd l 4 zd [cw (zL p is nr (slV 5 127 q)),zG (wa l) (u8 l) false,cr []])⟩
 have hl:=zcP hp
 have hp1:=H.a
 have hp2:=H.b
 refine zJ (zN (o_b 1 [(4,pv 6 0)] (w3 x qd l 4 zd (yR p is nr q l [cw wk])) (zE (zA (zJ (zN (o_d 3 (xi 13 0 13 12 0 11 0) (o_s (by refine zV (v:=pv 3 0) rfl rfl ?_;exact rfl) ?_))))))))
 refine o_d 3 (xi 17 3 0 16 3 15 3) (o_s (by refine zV (v:=zau p) rfl rfl ?_;exact zem (zaK p)) ?_)
 refine o_b 1 [(5,pv 7 0)] (w3 x qd l 4 zd (yR p is nr q l [cw wk,cw (pl qN)])) (zdu (by refine zao (c':=pl p) rfl rfl rfl ?_ ?_ ?_;exact qH _;exact zb8 om;exact zac qN p) ?_)
 refine zE (zA (zJ (zbF [] (r_d 1 [(19,pv 7 323)] (r_s (by refine zV (v:= .agg (vF p)) rfl rfl ?_;exact pl_ring p) ?_)))))
 refine r_d 4 (wM 24 0 0 23 0 22 0 21 0) (r_s (by refine zV (v:=iv x.k) rfl rfl ?_;exact rfl) ?_)
 refine r_d 4 (wM 29 0 4 28 0 27 0 26 0) (r_s (by refine zV (v:=iv x.t) rfl rfl ?_;exact rfl) ?_)
 refine r_d 4 (wM 34 0 6 33 0 32 0 31 0) (r_s (by refine zV (v:=iv x.tp) rfl rfl ?_;exact rfl) ?_)
 refine r_d 1 [(36,pv 7 1)] (r_s (by refine zV (v:=iv (p 1)) rfl rfl ?_;exact pl_r p 1 rfl om) ?_)
 refine r_d 1 [(38,pv 7 2)] (r_s (by refine zV (v:=iv (p 2)) rfl rfl ?_;exact pl_r p 2 rfl om) ?_)
 refine r_d 2 [(41,iv (s:Nat)),(40,.agg #[iv x.t,iv x.tp,iv (p 1),iv (p 2)])] (zfv (zbH (cMakeC (rgP p) x.k (vC x p) (s:Nat) om) rfl rfl rfl ?_))
 have hy1:=cookS_r (rgP p) x.k (vC x p) (s:=(s:Nat)) om
 refine r_d 1 [(6,iv (zc1 (rgP p) x.k (vC x p) (s:Nat)))] (zbk (zT [(6,iv (zc1 (rgP p) x.k (vC x p) (s:Nat))),(5,pv 7 0),(4,pv 6 0),(0,pv 0 0),(1,iv (s:Nat))] (zJ (zeW (w3 x qd l 4 zd (yR p is nr q l [cw wk,cw (pl p)])) (by kernel_rfl) (d_n 4 4 8 (wM 46 0 14 45 0 44 0 43 0) (w3 x qd l 4 zd (yR p is nr q l [cw wk,cw (pl p)])) [] (by kernel_rfl) rfl rfl (d_s rfl rfl rfl (by kernel_rfl) (by refine zV (v:=zQ (wa l) 4 l.length) rfl rfl ?_;exact rfl) ?_))))))
 refine d_n 1 6 8 [(48,pv 7 1)] (w3 x qd l 4 zd (yR p is nr q l [cw wk,cw (pl p)])) [⟨4,[0],[],none⟩] (by kernel_rfl) rfl rfl (d_s rfl rfl rfl (by kernel_rfl) (by refine zV (v:=iv (p 1)) rfl rfl ?_;exact pl_r p 1 rfl om) ?_)
 refine d_n 1 8 8 [(50,pv 7 2)] (w3 x qd l 4 zd (yR p is nr q l [cw wk,cw (pl p)])) [⟨6,[7],[],none⟩,⟨4,[0],[],none⟩] (by kernel_rfl) rfl rfl (d_s rfl rfl rfl (by kernel_rfl) (by refine zV (v:=iv (p 2)) rfl rfl ?_;exact pl_r p 2 rfl om) ?_)
 obtain ⟨m2,hm2⟩: ∃z9,natL l y.ba true (p 1) (p 2)=z9:=⟨_,rfl⟩
 have hm2a:Alike l m2:=by rw [←hm2];exact nat_alike hp om true
 have hm2p:=hm2a.parse hp
 have hm2l:=hm2p.2.2.2
 have hm2k:=hm2p.2.1
 have hm2b:=hm2p.2.2.1
 have hm2e:m2.length=l.length:=hm2l
 refine d_clN [4] [zG (wa l) (u8 l) false] [zQ (wa l) 0 l.length,bv true,iv (p 1),iv (p 2)] (chgR hm2 rfl (NatC _ _ l l (RowOf.whole rfl (Nat.le_refl _)) y hp om true (p 1) (p 2) om om)) rfl rfl ⟨⟨_,rfl,z4 (zH _) rfl (fun q=>q)⟩,trivial⟩ dC ⟨_,_,⟨rfl,rfl⟩,Nat.le_add_right 1 1,zbG [_] [_]⟩ ?_ (by kernel_rfl)
 rintro v1 h1' ⟨rfl,rfl⟩
 refine ⟨za0 rfl,.tuple (WN l 8),(w3 x qd l 4 zd (yR p is nr q l [cw wk,cw (pl p)])),(Wi l m2),((zdD _).trans rfl),⟨rfl,rfl,rfl,rfl,rfl,rfl,rfl,rfl,trivial⟩,⟨(Option.some.inj (zF (zH _))).symm,trivial⟩, ?_⟩
 refine d_n 2 12 8 (Wy 54 53 l 8) (vw x qd l 4 zd p is nr q m2) [⟨9,[4],(zcD [4] [zG (wa l) (u8 l) false]),some 8⟩,⟨8,[7],[],none⟩,⟨6,[7],[],none⟩,⟨4,[0],[],none⟩] (by kernel_rfl) rfl rfl (d_clH [0,1,2,3,4,8] (vo x qd l zd) (Yb l) (thenC x (zD x.op) qd 0 l.length l.length 0 l.length l.length ((zD x.op).isSome) zd) rfl rfl ⟨⟨_,rfl,zam (.inl (zbY rfl rfl rfl rfl (fun q=>rfl)))⟩,⟨_,rfl,(zco (zD x.op))⟩,⟨_,rfl,(zdR _)⟩,⟨_,rfl,zaF⟩,⟨_,rfl,zaF⟩,⟨_,rfl,zaF⟩,trivial⟩ dC ⟨_,_,⟨rfl,rfl⟩,Nat.le_refl _,zfk rfl (zbG [_,_,_,_,_] [])⟩ ?_ (by kernel_rfl))
 rintro v1 h1' ⟨rfl,rfl⟩
 refine ⟨(zS zaE (zS z7 (zS z7 (zS z7 (zS z7 (zS z7 q8)))))),.tuple #[],(vw x qd l 8 zd p is nr q m2),[],(by simp [zaI]),⟨zbS rfl rfl rfl rfl,(by exact hid1 dC rfl),(by cases zd<;>rfl),rfl,rfl,rfl,rfl,rfl,rfl,trivial⟩,trivial, ?_⟩
 refine zgQ (zA (zJ (zJ (zN (o_d 4 (wM 59 0 0 58 0 57 0 56 0) (o_s (by refine zV (v:=iv x.k) rfl rfl ?_;exact rfl) ?_))))))
 refine o_d 1 [(61,bv (x.k==2))] (zE (zA (qK (t:=x.k==2) rfl (fun h3=>?_) (fun h3=>?_))))
 ·skip
  have h3':x.k=2:=zaL h3
  have hTB:TB x.k=256:=if_pos (by assumption)
  refine zN (o_d 4 (wM 65 0 14 64 0 63 0 62 0) (o_s (by refine zV (v:=zQ (wa l) 8 l.length) rfl rfl ?_;exact rfl) ?_))
  refine o_d 1 [(67,iv (zc1 (rgP p) x.k (vC x p) (s:Nat)))] ?_
  have hy4:=zfg (zeR m2).k
  obtain ⟨m5,hm5⟩: ∃z9,zcj m2 (zeR m2).ba 20 2 (zc1 (rgP p) x.k (vC x p) (s:Nat))=z9:=⟨_,rfl⟩
  have hm5a:Alike m2 m5:=by rw [←hm5];exact zfA hm2p.1 om om om om
  have hm5p:=hm5a.parse hm2p.1
  have hm5l:=hm5p.2.2.2
  have hm5k:=hm5p.2.1
  have hm5b:=hm5p.2.2.1
  have hm5e:m5.length=l.length:=(hm5l.trans hm2l)
  refine qT (zaH [8] [zG (wa l) (u8 m2) false] [zQ (wa l) 0 l.length,iv 20,iv 2,iv (zc1 (rgP p) x.k (vC x p) (s:Nat))] (chgR hm5 hm2l (Write2C _ _ m2 m2 (RowOf.whole rfl om) (zeR m2) hm2p.1 20 (zc1 (rgP p) x.k (vC x p) (s:Nat)) om om om)) rfl rfl ⟨⟨_,rfl,z4 (zH _) rfl (fun q=>rfl)⟩,trivial⟩ dC ?_)
  rintro v1 h1' ⟨rfl,rfl⟩
  refine ⟨za0 rfl,.tuple (WN l 9),(vw x qd l 8 zd p is nr q m2),(Wi l m5),((zdD _).trans rfl),⟨rfl,rfl,rfl,rfl,rfl,rfl,rfl,rfl,rfl,trivial⟩,⟨(Option.some.inj (zF (zH _))).symm,trivial⟩, ?_⟩
  refine o_d 2 (Wy 70 69 l 9) (qT (zcT [0,1,2,3,8,9] (vo x qd l zd) (Yb l) (thenC x (zD x.op) qd 0 l.length l.length 0 l.length l.length ((zD x.op).isSome) zd) rfl rfl ⟨⟨_,rfl,zam (.inl (zbY rfl rfl rfl rfl (fun q=>rfl)))⟩,⟨_,rfl,(zco (zD x.op))⟩,⟨_,rfl,(zdR _)⟩,⟨_,rfl,zaF⟩,⟨_,rfl,zaF⟩,⟨_,rfl,zaF⟩,trivial⟩ dC ?_))
  rintro v1 h1' ⟨rfl,rfl⟩
  refine ⟨(zS zaE (zS z7 (zS z7 (zS z7 (zS z7 (zS z7 q8)))))),.tuple #[],(w3 x qd l 9 zd (yR p is nr q l (cw wk::cw (pl p)::(Wc l m2 m5)))),[],(by simp [zaI]),⟨zbS rfl rfl rfl rfl,(by exact hid1 dC rfl),(by cases zd<;>rfl),rfl,rfl,rfl,rfl,rfl,rfl,rfl,trivial⟩,trivial, ?_⟩
  refine zE (zT [(4,pv 6 0),(0,pv 0 0)] (zJ (zN (o_d 3 (xi 111 0 14 110 0 109 0) (o_s (by refine zV (v:=zQ (wa l) 9 l.length) rfl rfl ?_;exact rfl) ?_)))))
  refine o_b 2 [(113,.agg (yy l 9))] (w3 x qd l 9 zd (yR p is nr q l (cw [iv 0,iv (-1),bv false,zQ (wa l) 9 l.length]::cw (pl p)::(Wc l m2 m5)))) (zE (zA (qV ?_)))
  have e1:outL p x l (s:Nat)=m5:=by
   unfold outL outC9
   rw [if_pos (by assumption)]
   rw [←hba,hm2,←hm2b];exact hm5
  have e2:outN nr x s=nr:=by
   unfold outN;rw [if_pos (by assumption)]
  exact ⟨trivial,[.agg (yy l 9)],(qY rfl rfl rfl rfl),(zK rfl z5),⟨reg [],(w3 x qd l 6 zd (yR p is nr q l (Wi l m5)))⟩,[0,1,2,3,4,5,9],[.agg (yy l 6)],WkR.of (rs:= []) rfl rfl dC trivial ⟨.inl (zax rfl rfl rfl rfl),.inl (zF (zH _)),.inl (congrArg some (zaJ _).symm),.inl (qE (zaR q rfl)),.inl (zF (zH _)),.inl rfl,.inl (zF (zH _)),trivial⟩,(zM (zbq rfl) rfl),rfl,(by rw [e1,e2])⟩
 have h3': ¬(x.k=2):=zaM h3
 refine zJ (zN (o_d 4 (wM 76 0 11 75 0 74 0 73 0) (o_s (by refine zV (v:=zQ (zD x.op) 1 x.op.length) rfl rfl ?_;exact rfl) ?_)))
 rcases ha6:zcq x.op with _ | a6
 ·skip
  refine qT (zaH [1] [zG (zD x.op) (u8 x.op) false] [zQ (zD x.op) 0 x.op.length] (zgw ha6 (zjE (zD x.op) x.op x.op (zdj x.op) om)) rfl (zM (qI rfl) rfl) ⟨⟨_,rfl,z4 (zH _) rfl (fun q=>q)⟩,trivial⟩ dC ?_)
  rintro v1 h1' ⟨rfl,rfl⟩
  refine ⟨zai [_] [],.tuple #[iv 0,.int .u32 0,.int .u32 0,bv false],(vw x qd l 8 zd p is nr q m2),[],(qP rfl),⟨rfl,(zaY rfl rfl),rfl,rfl,rfl,rfl,rfl,rfl,rfl,trivial⟩,trivial, ?_⟩
  refine o_d 9 (xa 10 9 8 7 82 81 80 79 72) (zE (zT [(10,bv false),(8,.int .u32 0),(7,iv 0),(6,iv (zc1 (rgP p) x.k (vC x p) (s:Nat))),(4,pv 6 0),(0,pv 0 0),(1,iv (s:Nat))] (zJ (zN (o_d 1 [(83,bv false)] (zE (zA (zba rfl (qM (zA (zJ (zN ?_))))))))))))
  refine o_d 3 (xi 111 0 14 110 0 109 0) (o_s (by refine zV (v:=zQ (wa l) 8 l.length) rfl rfl ?_;exact rfl) ?_)
  refine o_b 2 [(113,.agg (yy l 8))] (w3 x qd l 8 zd (yR p is nr q l [cw [iv 0,iv (-1),bv false,zQ (wa l) 8 l.length],cw (pl p),zG (wa l) (u8 m2) true])) (zE (zA (qV ?_)))
  have e1:outL p x l (s:Nat)=m2:=by
   unfold outL outC9
   rw [if_neg (by assumption)]
   simp only [ha6]
   rw [←hba];exact hm2
  have e2:outN nr x s=nr:=by
   unfold outN;rw [if_neg (by assumption)];simp only [ha6]
  exact ⟨trivial,[.agg (yy l 8)],(qY rfl rfl rfl rfl),(zK rfl z5),⟨reg [],(w3 x qd l 6 zd (yR p is nr q l (Wi l m2)))⟩,[0,1,2,3,4,5,8],[.agg (yy l 6)],WkR.of (rs:= []) rfl rfl dC trivial ⟨.inl (zax rfl rfl rfl rfl),.inl (zF (zH _)),.inl (congrArg some (zaJ _).symm),.inl (qE (zaR q rfl)),.inl (zF (zH _)),.inl rfl,.inl (zF (zH _)),trivial⟩,(zM (zbq rfl) rfl),rfl,(by rw [e1,e2])⟩
 ·skip
  have ha6r:=stampO_r ha6
  have ha6m:=zen x.op a6 4 dC
  have ha6n:=zen x.op (a6+4) 4 dC
  refine qT (zaH [1] [zG (zD x.op) (u8 x.op) false] [zQ (zD x.op) 0 x.op.length] (zgv ha6 (zjE (zD x.op) x.op x.op (zdj x.op) om)) rfl (zM (qI rfl) rfl) ⟨⟨_,rfl,z4 (zH _) rfl (fun q=>q)⟩,trivial⟩ dC ?_)
  rintro v1 h1' ⟨rfl,rfl⟩
  refine ⟨zai [_] [],.tuple #[iv (a6:Nat),.int .u32 (qD x.op a6 4),.int .u32 (qD x.op (a6+4) 4),bv true],(vw x qd l 8 zd p is nr q m2),[],(qP rfl),⟨rfl,(zaY rfl rfl),rfl,rfl,rfl,rfl,rfl,rfl,rfl,trivial⟩,trivial, ?_⟩
  refine o_d 9 [(10,bv true),(9,.int .u32 (qD x.op (a6+4) 4)),(8,.int .u32 (qD x.op a6 4)),(7,iv (a6:Nat)),(82,bv true),(81,.int .u32 (qD x.op (a6+4) 4)),(80,.int .u32 (qD x.op a6 4)),(79,iv (a6:Nat)),(72,.tuple #[iv (a6:Nat),.int .u32 (qD x.op a6 4),.int .u32 (qD x.op (a6+4) 4),bv true])] (zE (zT [(10,bv true),(8,.int .u32 (qD x.op a6 4)),(7,iv (a6:Nat)),(6,iv (zc1 (rgP p) x.k (vC x p) (s:Nat))),(4,pv 6 0),(0,pv 0 0),(1,iv (s:Nat))] (zJ (zN (o_d 1 [(83,bv true)] (zE (zA (zcZ rfl (zJ (zeW (vw x qd l 8 zd p is nr q m2) (by kernel_rfl) (d_n 4 4 9 (wM 87 0 14 86 0 85 0 84 0) (vw x qd l 8 zd p is nr q m2) [] (by kernel_rfl) rfl rfl (d_s rfl rfl rfl (by kernel_rfl) (by refine zV (v:=zQ (wa l) 8 l.length) rfl rfl ?_;exact rfl) ?_))))))))))))
  refine d_n 1 6 9 [(89,iv (a6:Nat))] (vw x qd l 8 zd p is nr q m2) [⟨4,[0],[],none⟩] (by kernel_rfl) rfl rfl (d_s rfl rfl rfl (by kernel_rfl) (by refine zR (v:= .int .i64 (i64.wrap (24+(a6:Nat)))) (congrArg wh (w64 om om)) ?_;kernel_rfl) ?_)
  refine d_n 2 9 9 [(92,iv (zc1 (rgP p) x.k (vC x p) (s:Nat))),(91,.int .u32 (qD x.op a6 4))] (vw x qd l 8 zd p is nr q m2) [⟨4,[0],[],none⟩] (by kernel_rfl) rfl rfl (d_cl (zbH (cPutC (qD x.op a6 4) (zc1 (rgP p) x.k (vC x p) (s:Nat)) om) rfl rfl rfl ?_))
  have hy7:=putS_r (qD x.op a6 4) (zc1 (rgP p) x.k (vC x p) (s:Nat))
  refine d_s rfl rfl rfl (by kernel_rfl) (by refine zR (v:= .int .i64 (i64.wrap (putS (qD x.op a6 4) (zc1 (rgP p) x.k (vC x p) (s:Nat))))) (congrArg wh (w64 om om)) ?_;kernel_rfl) ?_
  have hy8:=zfg (zeR m2).k
  obtain ⟨m9,hm9⟩: ∃z9,zcj m2 (zeR m2).ba (24+a6) 4 (putS (qD x.op a6 4) (zc1 (rgP p) x.k (vC x p) (s:Nat)))=z9:=⟨_,rfl⟩
  have hm9a:Alike m2 m9:=by rw [←hm9];exact zfA hm2p.1 om om om om
  have hm9p:=hm9a.parse hm2p.1
  have hm9l:=hm9p.2.2.2
  have hm9k:=hm9p.2.1
  have hm9b:=hm9p.2.2.1
  have hm9e:m9.length=l.length:=(hm9l.trans hm2l)
  refine d_clN [8] [zG (wa l) (u8 m2) false] [zQ (wa l) 0 l.length,iv (24+(a6:Nat)),iv 4,iv (putS (qD x.op a6 4) (zc1 (rgP p) x.k (vC x p) (s:Nat)))] (chgR hm9 hm2l (Write4C _ _ m2 m2 (RowOf.whole rfl om) (zeR m2) hm2p.1 (24+a6) (putS (qD x.op a6 4) (zc1 (rgP p) x.k (vC x p) (s:Nat))) om om om)) rfl rfl ⟨⟨_,rfl,z4 (zH _) rfl (fun q=>rfl)⟩,trivial⟩ dC ⟨_,_,⟨rfl,rfl⟩,Nat.le_add_right 1 1,zbG [_] [_]⟩ ?_ (by kernel_rfl)
  rintro v1 h1' ⟨rfl,rfl⟩
  refine ⟨za0 rfl,.tuple (WN l 9),(vw x qd l 8 zd p is nr q m2),(Wi l m9),((zdD _).trans rfl),⟨rfl,rfl,rfl,rfl,rfl,rfl,rfl,rfl,rfl,trivial⟩,⟨(Option.some.inj (zF (zH _))).symm,trivial⟩, ?_⟩
  refine d_n 2 14 9 (Wy 97 96 l 9) (w3 x qd l 8 zd (yR p is nr q l (cw wk::cw (pl p)::(Wc l m2 m9)))) [⟨11,[8],(zcD [8] [zG (wa l) (u8 m2) false]),some 9⟩,⟨9,[],[],some 9⟩,⟨4,[0],[],none⟩] (by kernel_rfl) rfl rfl (d_clH [0,1,2,3,8,9] (vo x qd l zd) (Yb l) (thenC x (zD x.op) qd 0 l.length l.length 0 l.length l.length ((zD x.op).isSome) zd) rfl rfl ⟨⟨_,rfl,zam (.inl (zbY rfl rfl rfl rfl (fun q=>rfl)))⟩,⟨_,rfl,(zco (zD x.op))⟩,⟨_,rfl,(zdR _)⟩,⟨_,rfl,zaF⟩,⟨_,rfl,zaF⟩,⟨_,rfl,zaF⟩,trivial⟩ dC ⟨_,_,⟨rfl,rfl⟩,Nat.le_refl _,zfk rfl (zbG [_,_,_,_,_] [])⟩ ?_ (by kernel_rfl))
  rintro v1 h1' ⟨rfl,rfl⟩
  refine ⟨(zS zaE (zS z7 (zS z7 (zS z7 (zS z7 (zS z7 q8)))))),.tuple #[],(w3 x qd l 9 zd (yR p is nr q l (cw wk::cw (pl p)::(Wc l m2 m9)))),[],(by simp [zaI]),⟨zbS rfl rfl rfl rfl,(by exact hid1 dC rfl),(by cases zd<;>rfl),rfl,rfl,rfl,rfl,rfl,rfl,rfl,trivial⟩,trivial, ?_⟩
  refine zgQ (zA (zN (o_d 3 (xi 101 0 13 100 0 99 0) (o_s (by refine zV (v:=pv 3 0) rfl rfl ?_;exact rfl) ?_))))
  refine o_d 3 [(105,pv 3 331),(104,pv 3 0),(103,iv (s:Nat))] (o_s (by exact zaN (o:=331) (o':=331+2*s) rfl rfl om om) ?_)
  refine o_d 1 [(107,.int .u32 (qD x.op a6 4))] (qT (zcT [3,5] [cw (zL p is nr (v7 q)),cr []] [pv 0 (331+2*s),.int .u32 (qD x.op a6 4)] (LayUC p is nr q s (qD x.op a6 4) om) rfl rfl ⟨⟨_,rfl,zam (.inl (zav (zaR q rfl) (fun q=>rfl)))⟩,⟨_,rfl,zaF⟩,trivial⟩ dC ?_))
  rintro v1 h1' ⟨rfl,rfl⟩
  refine ⟨(zS zaE (zS z7 q8)),.tuple #[],(w3 x qd l 9 zd (cw (zL p is (zbQ nr s (qD x.op a6 4,true)) (slV 5 127 q))::zG (wa l) (u8 l) false::cr []::cw wk::cw (pl p)::(Wc l m2 m9))),[],(by simp [zaI]),⟨rfl,rfl,rfl,zbe (zaR q rfl),rfl,(by cases true<;>rfl),rfl,rfl,rfl,rfl,trivial⟩,trivial, ?_⟩
  refine zE (zT [(4,pv 6 0),(0,pv 0 0)] (zJ (zN (o_d 3 (xi 111 0 14 110 0 109 0) (o_s (by refine zV (v:=zQ (wa l) 9 l.length) rfl rfl ?_;exact rfl) ?_)))))
  refine o_b 2 [(113,.agg (yy l 9))] (w3 x qd l 9 zd (cw (zL p is (zbQ nr s (qD x.op a6 4,true)) (slV 5 127 q))::zG (wa l) (u8 l) false::cr []::cw [iv 0,iv (-1),bv false,zQ (wa l) 9 l.length]::cw (pl p)::(Wc l m2 m9))) (zE (zA (qV ?_)))
  have e1:outL p x l (s:Nat)=m9:=by
   unfold outL outC9
   rw [if_neg (by assumption)]
   simp only [ha6]
   rw [←hba,hm2,←hm2b];exact hm9
  have e2:outN nr x s=(zbQ nr s (qD x.op a6 4,true)):=by
   unfold outN;rw [if_neg (by assumption)];simp only [ha6]
  exact ⟨trivial,[.agg (yy l 9)],(qY rfl rfl rfl rfl),(zK rfl z5),⟨reg [],(w3 x qd l 6 zd [cw (zL p is (zbQ nr s (qD x.op a6 4,true)) (slV 5 127 q)),zG (wa l) (u8 l) false,cr [],zG (wa l) (u8 m9) true])⟩,[0,1,2,3,4,5,9],[.agg (yy l 6)],WkR.of (rs:= []) rfl rfl dC trivial ⟨.inl (zax rfl rfl rfl rfl),.inl (zF (zH _)),.inl (congrArg some (zaJ _).symm),.inl (qE (zaR q rfl)),.inl (zF (zH _)),.inl rfl,.inl (zF (zH _)),trivial⟩,(zM (zbq rfl) rfl),rfl,(by rw [e1,e2])⟩
theorem outW {P:Program} [PrC P] (p:q9) (is:Bool) (nr:zds) (q:Option Nat) (x:Pk) (qd:Option (Nat×Nat)) (zd:Bool) (l:List Int) (y:Pk) (hp:qU l=(0,y)) (hk:y.k=x.k) (hba:y.ba=x.ba) (h3:x.k≠3) (hop:x.op.length+24≤l.length) (s:Nat) (hs:s < 64) (H:PRng p) (N:Nat) (hN:l.length=N):
  Env P "(*roundhouse/plane.packet).out" [pv 0 0,iv (s:Int)] ([cw (qS x (zD x.op) 1 qd 2 3 (some (0,N)) 4 N),zG (zD x.op) (u8 x.op) false,zaC zd,cw (zL p is nr (slV 5 127 q)),zG (some (0,N)) (u8 l) false,cr []]) (fun v h'=>v= .agg #[iv 0,iv (-1),bv false,zQ (some (0,N)) 6 N]∧h'= [cw (qS x (zD x.op) 1 qd 2 3 (some (0,N)) 6 N),zG (zD x.op) (u8 x.op) false,zaC zd,cw (zL p is (outN nr x s) (slV 5 127 q)),zG (some (0,N)) (u8 l) false,cr [],zG (some (0,N)) (u8 (outL p x l (s:Nat))) true]):=by
 subst hN;exact outC3 p is nr q x qd zd l y hp hk hba h3 hop s hs H
end Go.Rh

set_option maxHeartbeats 1000000
namespace Go.Rh
theorem carS_q {p:q9} {x:Pk} {f:Fl} {r:Option Int} (h:zit p x f=r):0≤r.getD 0∧r.getD 0 < 64:=by
 cases r with
 | none=>exact ⟨dC,dC⟩
 | some s=>exact carS_r h
theorem carriedC2 {P:Program} {p:q9} {x:Pk} {f:Fl} {A:List Value} {h1 h2:List Blk} {r:Option Int} (h:Env P "(*roundhouse/plane.packet).carried" A h1 (fun v h'=>v=zdX r∧h'=h2)):Env P "(*roundhouse/plane.packet).carried" A h1 (fun v h'=>v= .tuple #[iv (r.getD 0),bv r.isSome]∧h'=h2):=by
 cases r<;>exact h
theorem inP_n {p:q9} {x:Pk} {r:Option Int} (h:zit p x (inF p x)=r) (hn:r.isSome=false):inP p x=(zd0 (qA p) (inF p x),false):=by
 cases r with
 | none=>unfold inP;rw [h]
 | some s=>cases hn
theorem inP_t {p:q9} {x:Pk} {r:Option Int} (h:zit p x (inF p x)=r) (hs:r.isSome=true) (ht: [1,2,3].contains (p (3+5*(r.getD 0).toNat))=true):inP p x=(r.getD 0,true):=by
 cases r with
 | none=>cases hs
 | some s=>unfold inP;rw [h];exact if_pos ht
theorem inP_f {p:q9} {x:Pk} {r:Option Int} (h:zit p x (inF p x)=r) (hs:r.isSome=true) (ht: [1,2,3].contains (p (3+5*(r.getD 0).toNat))=false):inP p x=(zd0 (qA p) (inF p x),false):=by
 cases r with
 | none=>cases hs
 | some s=>unfold inP;rw [h];exact if_neg (by rw [show (some s).getD 0=s from rfl] at ht;rw [ht];simp)
theorem takes_ne {z:Int} (h: [1,2,3].contains z=true):z≠0:=by rintro rfl;revert h;decide
theorem PRng.pickI {p:q9} (H:PRng p) {f:Fl} {sl:Int} (h:sl=zd0 (qA p) f): ∀k:Nat,sl=(k:Int)→k < 64∧(0≤p (3+5*k+1)∧p (3+5*k+1)≤4294967295)∧(0≤p (3+5*k+2)∧p (3+5*k+2)≤65535):=fun k hk=>H.pick (h.symm.trans hk)
theorem PRng.takeI {p:q9} (H:PRng p) {sl:Int} (h0:0≤sl∧sl < 64) (h: [1,2,3].contains (p (3+5*sl.toNat))=true): ∀k:Nat,sl=(k:Int)→k < 64∧(0≤p (3+5*k+1)∧p (3+5*k+1)≤4294967295)∧(0≤p (3+5*k+2)∧p (3+5*k+2)≤65535):=fun k hk=>by
 subst hk;exact ⟨om,H.s k om (takes_ne h)⟩
theorem nearS_k (nr:zds) {k:Nat} (h:k < 64):qZ nr (k:Nat)=nr k:=by rw [qZ,if_neg om];rfl
theorem NearK {P:Program} {nr:zds} {k:Nat} {A:List Value} {h1 h2:List Blk} (hk:k < 64) (h:Env P "(*roundhouse/plane.Plane).Near" A h1 (fun v h'=>v= .tuple #[u32v (qZ nr (k:Nat)).1,bv (qZ nr (k:Nat)).2]∧h'=h2)):Env P "(*roundhouse/plane.Plane).Near" A h1 (fun v h'=>v= .tuple #[u32v (nr k).1,bv (nr k).2]∧h'=h2):=by
 rwa [nearS_k nr hk] at h
theorem backS_r (v n:Int):0≤zfS v n∧zfS v n < 4294967296:=by
 unfold zfS
 show 0≤(_:Int) % 4294967296∧(_:Int) % 4294967296 < 4294967296
 omega
abbrev wP (a:Pk) (b:q9):=[iv a.fr,iv a.fp,iv (b 1),iv (b 2)]
abbrev wY a:=[iv a,iv (-1),bv false,.slice none 0 0]
abbrev yk a:=#[iv a,iv (-1),bv false,.slice none 0 0]
abbrev yM (a:q9) (b:Bool) (c:zds) (d:Nat) (e:List Int) f:=cr (zL a b c (wt 5 d))::zG (wa e) (u8 e) false::slB zI (ii (qA a)) (some d)::f
abbrev vk a b (c:List Int) d:=#[iv 0,iv (a:Int),bv b,zQ (wa c) d c.length]
abbrev xT a b:=[(6,bv a),(5,iv (b:Int)),(2,pv 6 0),(0,pv 0 0)]
abbrev We (a:Pk) (b:Option (Nat×Nat)) (c:List Int) (d:Bool) (e:q9) (f:Bool) (g:zds) (h:Nat):=(w3 a b c 4 d [cr (zL e f g (wt 5 h)),zG (wa c) (u8 c) false,slB zI (ii (qA e)) (some h)])
abbrev Wo a b:=[(138,pv 0 14),(137,pv 0 0),(136,pv 0 0),(135,bv a),(134,iv (b:Int))]
abbrev WE (a:Pk) (b:q9):=#[iv a.fr,iv a.fp,iv (b 1),iv (b 2)]
abbrev W8 (a:Pk) (b:q9):=(Fl.mk a.fr a.fp (b 1) (b 2))
theorem inC4 {P:Program} [PrC P] (p:q9) (is:Bool) (nr:zds) (w9:Nat) (x:Pk) (qd:Option (Nat×Nat)) (zd:Bool) (l:List Int) (y:Pk) (hp:qU l=(0,y)) (hk:y.k=x.k) (hba:y.ba=x.ba) (h3:x.k≠3) (hop:x.op.length+24≤l.length) (H:PRng p) (hnr: ∀k,0≤(nr k).1∧(nr k).1 < 4294967296):
    Env P "(*roundhouse/plane.packet).in" [pv 0 0] ((We x qd l zd p is nr w9)) (fun v h'=>((inP p x).1 < 0∧v= .agg (yk 9)∧h'= (We x qd l zd p is nr w9))∨(∃k:Nat,(inP p x).1=(k:Int)∧k < 64∧v= .agg #[iv 0,iv (k:Int),bv (inP p x).2,zQ (wa l) 6 l.length]∧h'= (w3 x qd l 6 zd (yM p is nr w9 l [zG (wa l) (u8 (inL p nr x l k)) true])))):=by
 refine Env.by4 PrC.plane_packet_in ?_
 unfold zd9
 show GC _ 6 _ _ ⟨reg xK,(We x qd l zd p is nr w9)⟩
 have hl:=zcP hp
 have hp1:=H.a
 have hp2:=H.b
 refine zJ (zN (o_b 1 [(2,pv 6 0)] (w3 x qd l 4 zd (yM p is nr w9 l [cw wk])) (zE (zA (zJ (zN (o_d 3 (xi 17 0 13 16 0 15 0) (o_s (by refine zV (v:=pv 3 0) rfl rfl ?_;exact rfl) ?_))))))))
 refine o_d 3 (xi 21 3 0 20 3 19 3) (o_s (by refine zV (v:=zau p) rfl rfl ?_;exact zem (zaK p)) ?_)
 refine o_b 1 [(3,pv 7 0)] (w3 x qd l 4 zd (yM p is nr w9 l [cw wk,cw (pl qN)])) (zdu (by refine zao (c':=pl p) rfl rfl rfl ?_ ?_ ?_;exact qH _;exact zb8 om;exact zac qN p) ?_)
 refine zE (zA (zJ (zbF [] (r_d 4 (wM 26 0 3 25 0 24 0 23 0) (r_s (by refine zV (v:=iv x.fr) rfl rfl ?_;exact rfl) ?_)))))
 refine r_d 4 (wM 31 0 5 30 0 29 0 28 0) (r_s (by refine zV (v:=iv x.fp) rfl rfl ?_;exact rfl) ?_)
 refine r_d 1 [(33,pv 7 1)] (r_s (by refine zV (v:=iv (p 1)) rfl rfl ?_;exact pl_r p 1 rfl om) ?_)
 refine r_d 1 [(35,pv 7 2)] (r_s (by refine zV (v:=iv (p 2)) rfl rfl ?_;exact pl_r p 2 rfl om) ?_)
 refine r_b 3 [(4,pv 8 0),(37,.agg (WE x p))] (w3 x qd l 4 zd (yM p is nr w9 l [cw wk,cw (pl p),cw (wP x p)])) (zbk (zT (wM 4 8 0 3 7 2 6 0 0) (zJ (zN (o_d 2 [(40,.agg (WE x p)),(39,pv 0 0)] ?_)))))
 obtain ⟨ca,hcr⟩: ∃z9,zit p x (inF p x)=z9:=⟨_,rfl⟩
 have hcq:=carS_q hcr
 refine qT (zcT [0,1,2,3,4,5] [cr (qS x (zD x.op) 1 qd 2 3 (wa l) 4 l.length),zG (zD x.op) (u8 x.op) false,zaC zd,cr (zL p is nr (wt 5 w9)),cr [],cr []] [pv 0 0,.agg (WE x p)] (carriedC2 (p:=p) (x:=x) (f:=(inF p x)) (carriedC p is nr (some w9) x qd 0 l.length l.length zd (inF p x) ca hcr om H)) rfl (zM rfl (zM (qP rfl) rfl)) ⟨⟨_,rfl,zam (.inl (zbY rfl rfl rfl rfl (fun q=>rfl)))⟩,⟨_,rfl,zam (z4 (q:=zD x.op) (q':=zD x.op) (zH _) rfl (fun q=>q))⟩,⟨_,rfl,(zdR _)⟩,⟨_,rfl,zam (.inl (zav rfl (fun q=>q)))⟩,⟨_,rfl,zaF⟩,⟨_,rfl,zbB (some w9)⟩,trivial⟩ dC ?_)
 rintro v1 h1' ⟨rfl,rfl⟩
 refine ⟨(zS z7 (zS z7 (zS z7 (zS z7 (zS z7 (zS z7 q8)))))),.tuple #[iv (ca.getD 0),bv ca.isSome],(w3 x qd l 4 zd (yM p is nr w9 l [cw wk,cw (pl p),cw (wP x p)])),[],(qP rfl),⟨rfl,(by first | exact hid1 dC rfl | exact row1 dC rfl),(by cases zd<;>rfl),rfl,rfl,rfl,rfl,rfl,rfl,trivial⟩,trivial, ?_⟩
 refine o_d 5 [(6,bv ca.isSome),(5,iv (ca.getD 0)),(43,bv ca.isSome),(42,iv (ca.getD 0)),(38,.tuple #[iv (ca.getD 0),bv ca.isSome])] (zE (zA (ziX (fun s=> ∃(sl:Int),∃(tk:Bool),0=0∧(inP p x=(sl,tk))∧(∀k:Nat,sl=(k:Int)→k < 64∧(0≤p (3+5*k+1)∧p (3+5*k+1)≤4294967295)∧(0≤p (3+5*k+2)∧p (3+5*k+2)≤65535))∧s=⟨reg [(6,bv tk),(5,iv sl),(3,pv 7 0),(2,pv 6 0),(0,pv 0 0)],(w3 x qd l 4 zd (yM p is nr w9 l [cw wk,cw (pl p),cw (wP x p)]))⟩) ?_ ?_)))
 ·skip
  refine zJ (zN (o_d 2 [(45,bv ca.isSome),(44,bv ca.isSome)] (zbC (b:=ca.isSome) 45 rfl (fun h1=>?_) (fun h1=>?_))))
  ·skip
   refine o_d 2 [(47,pv 7 3),(46,iv (ca.getD 0))] (z8 rfl (o_s (by exact zaN (o:=3) (o':=3+5*((ca.getD 0).toNat)) rfl rfl om om) ?_))
   refine z8 rfl (o_s (by refine zV (v:= .agg #[iv (p (3+5*((ca.getD 0).toNat))),iv (p (3+5*((ca.getD 0).toNat)+1)),iv (p (3+5*((ca.getD 0).toNat)+2)),iv (p (3+5*((ca.getD 0).toNat)+3)),iv (p (3+5*((ca.getD 0).toNat)+4))]) rfl rfl ?_;exact pl_rS p ((ca.getD 0).toNat) om om) ?_)
   refine z8 rfl (qT (zal (TakesC (p (3+5*((ca.getD 0).toNat))) (p (3+5*((ca.getD 0).toNat)+1)) (p (3+5*((ca.getD 0).toNat)+2)) (p (3+5*((ca.getD 0).toNat)+3)) (p (3+5*((ca.getD 0).toNat)+4))) rfl rfl rfl (o_d 2 [(6,bv ([1,2,3].contains (p (3+5*((ca.getD 0).toNat))))),(51,bv ([1,2,3].contains (p (3+5*((ca.getD 0).toNat)))))] (zE (zA (zJ (zN (o_d 2 [(53,bv (!([1,2,3].contains (p (3+5*((ca.getD 0).toNat)))))),(52,bv ([1,2,3].contains (p (3+5*((ca.getD 0).toNat)))))] (zE (zA (qK (t:= !([1,2,3].contains (p (3+5*((ca.getD 0).toNat))))) rfl (fun h2=>?_) (fun h2=>?_))))))))))))
   ·skip
    have h3:([1,2,3].contains (p (3+5*((ca.getD 0).toNat))))=false:=not_t h2
    refine zbF [] (r_d 3 (xi 56 0 13 55 0 54 0) (r_s (by refine zV (v:=pv 3 0) rfl rfl ?_;exact rfl) ?_))
    refine r_d 2 [(59,pv 3 459),(58,pv 3 0)] (r_s (by refine zV (v:=slV 5 127 (some w9)) rfl rfl ?_;exact (zfe 129).trans rfl) ?_)
    refine r_d 1 [(61,.agg (WE x p))] (zfv (zeZ (a1:= [sv 0 0 127 (127+w9),.agg (WE x p)]) [5] [ii (qA p)++zah zI w9] (PickC (qA p) w9 (W8 x p) (by first | assumption | exact (wheel_in _).1)) rfl (fun _=>zM rfl (zM (qP rfl) rfl)) ⟨⟨_,rfl⟩,zaf _ _,trivial⟩ rfl ?_))
    refine r_d 1 [(5,iv (zd0 (qA p) (W8 x p)))] (zbk (⟨⟨reg [(6,bv ([1,2,3].contains (p (3+5*((ca.getD 0).toNat))))),(5,iv (zd0 (qA p) (W8 x p))),(3,pv 7 0),(2,pv 6 0),(0,pv 0 0)],(w3 x qd l 4 zd (yM p is nr w9 l [cw wk,cw (pl p),cw (wP x p)]))⟩, ?_⟩))
    refine ⟨?_, ?_⟩
    ·exact Wk.ren [0,1,2,3,4,5,6,7,8] rfl rfl dC ⟨rfl,rfl,rfl,rfl,rfl,trivial⟩ ⟨.inl (zax rfl rfl rfl rfl),.inl (zF (zH _)),.inl (congrArg some (zaJ _).symm),.inl (qE rfl),.inl (zF (zH _)),.inl (qX (some w9) (fun _=>(zaf _ _))),.inl rfl,.inl (zW (zaq p)),.inl rfl,trivial⟩
    ·exact ⟨(zd0 (qA p) (W8 x p)),([1,2,3].contains (p (3+5*((ca.getD 0).toNat)))),rfl,(by rw [h3];exact inP_f hcr h1 h3),(H.pickI rfl),rfl⟩
   have h4:([1,2,3].contains (p (3+5*((ca.getD 0).toNat))))=true:=not_f h2
   refine qM (⟨⟨reg [(6,bv ([1,2,3].contains (p (3+5*((ca.getD 0).toNat))))),(5,iv (ca.getD 0)),(3,pv 7 0),(2,pv 6 0),(0,pv 0 0)],(w3 x qd l 4 zd (yM p is nr w9 l [cw wk,cw (pl p),cw (wP x p)]))⟩, ?_⟩)
   refine ⟨?_, ?_⟩
   ·exact Wk.ren [0,1,2,3,4,5,6,7,8] rfl rfl dC ⟨rfl,rfl,rfl,rfl,rfl,trivial⟩ ⟨.inl (zax rfl rfl rfl rfl),.inl (zF (zH _)),.inl (congrArg some (zaJ _).symm),.inl (qE rfl),.inl (zF (zH _)),.inl (qX (some w9) (fun _=>(zaf _ _))),.inl rfl,.inl (zW (zaq p)),.inl rfl,trivial⟩
   ·exact ⟨(ca.getD 0),([1,2,3].contains (p (3+5*((ca.getD 0).toNat)))),rfl,(by rw [h4];exact inP_t hcr h1 h4),(H.takeI hcq h4),rfl⟩
  refine o_d 7 ((6,bv false)::(51,bv false)::(50,undef)::(y9 49 48 47 46)) (zE (zA (zJ (zN (o_d 2 [(53,bv true),(52,bv false)] (zE (zA (zcZ rfl (zbF [] (r_d 3 (xi 56 0 13 55 0 54 0) (r_s (by refine zV (v:=pv 3 0) rfl rfl ?_;exact rfl) ?_)))))))))))
  refine r_d 2 [(59,pv 3 459),(58,pv 3 0)] (r_s (by refine zV (v:=slV 5 127 (some w9)) rfl rfl ?_;exact (zfe 129).trans rfl) ?_)
  refine r_d 1 [(61,.agg (WE x p))] (zfv (zeZ (a1:= [sv 0 0 127 (127+w9),.agg (WE x p)]) [5] [ii (qA p)++zah zI w9] (PickC (qA p) w9 (W8 x p) (by first | assumption | exact (wheel_in _).1)) rfl (fun _=>zM rfl (zM (qP rfl) rfl)) ⟨⟨_,rfl⟩,zaf _ _,trivial⟩ rfl ?_))
  refine r_d 1 [(5,iv (zd0 (qA p) (W8 x p)))] (zbk (⟨⟨reg [(6,bv false),(5,iv (zd0 (qA p) (W8 x p))),(3,pv 7 0),(2,pv 6 0),(0,pv 0 0)],(w3 x qd l 4 zd (yM p is nr w9 l [cw wk,cw (pl p),cw (wP x p)]))⟩, ?_⟩))
  refine ⟨?_, ?_⟩
  ·exact Wk.ren [0,1,2,3,4,5,6,7,8] rfl rfl dC ⟨rfl,rfl,rfl,rfl,rfl,trivial⟩ ⟨.inl (zax rfl rfl rfl rfl),.inl (zF (zH _)),.inl (congrArg some (zaJ _).symm),.inl (qE rfl),.inl (zF (zH _)),.inl (qX (some w9) (fun _=>(zaf _ _))),.inl rfl,.inl (zW (zaq p)),.inl rfl,trivial⟩
  ·exact ⟨(zd0 (qA p) (W8 x p)),false,rfl,(inP_n hcr h1),(H.pickI rfl),rfl⟩
 rintro s ⟨sl,tk,-,hin,hrg,rfl⟩
 refine zJ (zJ (zN (o_d 2 [(64,bv (decide (sl < 0))),(63,iv sl)] (zE (zA (qK (t:=decide (sl < 0)) rfl (fun h5=>?_) (fun h5=>?_)))))))
 ·skip
  have h5':sl < 0:=of_decide_eq_true h5
  exact zJ (zN (qT (zal (dropC 9) rfl rfl rfl (o_b 1 [] (w3 x qd l 4 zd (yM p is nr w9 l [cw (wY 9),cw (pl p),cw (wP x p)])) (zE (zA (qV (⟨trivial,[.agg (yk 9)],(qY rfl rfl rfl rfl),(zK rfl z5),⟨reg [],(We x qd l zd p is nr w9)⟩,[0,1,2,3,4,5],[.agg (yk 9)],WkR.of (rs:= []) rfl rfl dC trivial ⟨.inl (zax rfl rfl rfl rfl),.inl (zF (zH _)),.inl (congrArg some (zaJ _).symm),.inl (qE rfl),.inl (zF (zH _)),.inl (qX (some w9) (fun _=>(zaf _ _))),trivial⟩,(zM (zbq (q:=none) (k:=0) (k':=0) (n:=0) rfl) rfl),.inl ⟨by rw [hin];assumption,rfl,rfl⟩⟩))))))))
 have h5': ¬(sl < 0):=of_decide_eq_false h5
 obtain ⟨k,rfl⟩: ∃k:Nat,sl=(k:Int):=⟨sl.toNat,om⟩
 have hkr:=hrg k rfl
 have hnk:=hnr k
 refine qM (zA (zJ (zN (o_d 2 [(67,pv 7 3),(66,iv (k:Int))] (o_s (by exact zaN (o:=3) (o':=3+5*k) rfl rfl om om) ?_)))))
 refine o_s (by refine zV (v:= .agg #[iv (p (3+5*k)),iv (p (3+5*k+1)),iv (p (3+5*k+2)),iv (p (3+5*k+3)),iv (p (3+5*k+4))]) rfl rfl ?_;exact pl_rS p k om om) ?_
 refine o_b 2 [(7,pv 9 0)] (w3 x qd l 4 zd (yM p is nr w9 l [cw wk,cw (pl p),cw (wP x p),cw [iv (p (3+5*k)),iv (p (3+5*k+1)),iv (p (3+5*k+2)),iv (p (3+5*k+3)),iv (p (3+5*k+4))]])) (zE (zA (zJ (zeW (w3 x qd l 4 zd (yM p is nr w9 l [cw wk,cw (pl p),cw (wP x p),cw [iv (p (3+5*k)),iv (p (3+5*k+1)),iv (p (3+5*k+2)),iv (p (3+5*k+3)),iv (p (3+5*k+4))]])) (by kernel_rfl) (d_n 4 4 10 (wM 73 0 14 72 0 71 0 70 0) (w3 x qd l 4 zd (yM p is nr w9 l [cw wk,cw (pl p),cw (wP x p),cw [iv (p (3+5*k)),iv (p (3+5*k+1)),iv (p (3+5*k+2)),iv (p (3+5*k+3)),iv (p (3+5*k+4))]])) [] (by kernel_rfl) rfl rfl (d_s rfl rfl rfl (by kernel_rfl) (by refine zV (v:=zQ (wa l) 4 l.length) rfl rfl ?_;exact rfl) ?_))))))
 refine d_n 4 9 10 [(78,iv (p (3+5*k+2))),(77,pv 9 2),(76,iv (p (3+5*k+1))),(75,pv 9 1)] (w3 x qd l 4 zd (yM p is nr w9 l [cw wk,cw (pl p),cw (wP x p),cw [iv (p (3+5*k)),iv (p (3+5*k+1)),iv (p (3+5*k+2)),iv (p (3+5*k+3)),iv (p (3+5*k+4))]])) [⟨8,[9],[],none⟩,⟨6,[9],[],none⟩,⟨4,[0],[],none⟩] (by kernel_rfl) rfl rfl ?_
 obtain ⟨m6,hm6⟩: ∃z9,natL l y.ba false (p (3+5*k+1)) (p (3+5*k+2))=z9:=⟨_,rfl⟩
 have hm6a:Alike l m6:=by rw [←hm6];exact nat_alike hp om false
 have hm6p:=hm6a.parse hp
 have hm6l:=hm6p.2.2.2
 have hm6k:=hm6p.2.1
 have hm6b:=hm6p.2.2.1
 have hm6e:m6.length=l.length:=hm6l
 refine d_clN [4] [zG (wa l) (u8 l) false] [zQ (wa l) 0 l.length,bv false,iv (p (3+5*k+1)),iv (p (3+5*k+2))] (chgR hm6 rfl (NatC _ _ l l (RowOf.whole rfl (Nat.le_refl _)) y hp om false (p (3+5*k+1)) (p (3+5*k+2)) om om)) rfl rfl ⟨⟨_,rfl,z4 (zH _) rfl (fun q=>q)⟩,trivial⟩ dC ⟨_,_,⟨rfl,rfl⟩,Nat.le_add_right 1 1,zbG [_] [_]⟩ ?_ (by kernel_rfl)
 rintro v1 h1' ⟨rfl,rfl⟩
 refine ⟨za0 rfl,.tuple (WN l 10),(w3 x qd l 4 zd (yM p is nr w9 l [cw wk,cw (pl p),cw (wP x p),cw [iv (p (3+5*k)),iv (p (3+5*k+1)),iv (p (3+5*k+2)),iv (p (3+5*k+3)),iv (p (3+5*k+4))]])),(Wi l m6),((zdD _).trans rfl),⟨rfl,rfl,rfl,rfl,rfl,rfl,rfl,rfl,rfl,rfl,trivial⟩,⟨(Option.some.inj (zF (zH _))).symm,trivial⟩, ?_⟩
 refine d_n 2 12 10 (Wy 81 80 l 10) (w3 x qd l 4 zd (yM p is nr w9 l [cw wk,cw (pl p),cw (wP x p),cw [iv (p (3+5*k)),iv (p (3+5*k+1)),iv (p (3+5*k+2)),iv (p (3+5*k+3)),iv (p (3+5*k+4))],zG (wa l) (u8 m6) true])) [⟨9,[4],(zcD [4] [zG (wa l) (u8 l) false]),some 10⟩,⟨8,[9],[],none⟩,⟨6,[9],[],none⟩,⟨4,[0],[],none⟩] (by kernel_rfl) rfl rfl (d_clH [0,1,2,3,4,10] (vo x qd l zd) (Yb l) (thenC x (zD x.op) qd 0 l.length l.length 0 l.length l.length ((zD x.op).isSome) zd) rfl rfl ⟨⟨_,rfl,zam (.inl (zbY rfl rfl rfl rfl (fun q=>rfl)))⟩,⟨_,rfl,(zco (zD x.op))⟩,⟨_,rfl,(zdR _)⟩,⟨_,rfl,zaF⟩,⟨_,rfl,zaF⟩,⟨_,rfl,zaF⟩,trivial⟩ dC ⟨_,_,⟨rfl,rfl⟩,Nat.le_refl _,zfk rfl (zbG [_,_,_,_,_] [])⟩ ?_ (by kernel_rfl))
 rintro v1 h1' ⟨rfl,rfl⟩
 refine ⟨(zS zaE (zS z7 (zS z7 (zS z7 (zS z7 (zS z7 q8)))))),.tuple #[],(w3 x qd l 10 zd (yM p is nr w9 l [cw wk,cw (pl p),cw (wP x p),cw [iv (p (3+5*k)),iv (p (3+5*k+1)),iv (p (3+5*k+2)),iv (p (3+5*k+3)),iv (p (3+5*k+4))],zG (wa l) (u8 m6) true])),[],(by simp [zaI]),⟨zbS rfl rfl rfl rfl,(by first | exact hid1 dC rfl | exact row1 dC rfl),(by cases zd<;>rfl),rfl,rfl,rfl,rfl,rfl,rfl,rfl,rfl,trivial⟩,trivial, ?_⟩
 refine zgQ (zT (xT tk k) (zJ (zJ (zN (o_d 4 (wM 87 0 11 86 0 85 0 84 0) (o_s (by refine zV (v:=zQ (zD x.op) 1 x.op.length) rfl rfl ?_;exact rfl) ?_))))))
 rcases ha7:zcq x.op with _ | a7
 ·skip
  refine qT (zaH [1] [zG (zD x.op) (u8 x.op) false] [zQ (zD x.op) 0 x.op.length] (zgw ha7 (zjE (zD x.op) x.op x.op (zdj x.op) om)) rfl (zM (qI rfl) rfl) ⟨⟨_,rfl,z4 (zH _) rfl (fun q=>q)⟩,trivial⟩ dC ?_)
  rintro v1 h1' ⟨rfl,rfl⟩
  refine ⟨zai [_] [],.tuple #[iv 0,.int .u32 0,.int .u32 0,bv false],(w3 x qd l 10 zd (yM p is nr w9 l [cw wk,cw (pl p),cw (wP x p),cw [iv (p (3+5*k)),iv (p (3+5*k+1)),iv (p (3+5*k+2)),iv (p (3+5*k+3)),iv (p (3+5*k+4))],zG (wa l) (u8 m6) true])),[],(qP rfl),⟨rfl,(zaY rfl rfl),rfl,rfl,rfl,rfl,rfl,rfl,rfl,rfl,rfl,trivial⟩,trivial, ?_⟩
  refine o_d 9 (xa 11 10 9 8 93 92 91 90 83) (zE (zA (zJ (zN (o_d 13 [(106,bv false),(105,undef),(104,undef),(103,bv false),(102,bv false),(101,undef),(100,undef),(99,undef),(98,undef),(97,undef),(96,undef),(95,bv false),(94,bv false)] (zE (zT ((106,bv false)::(10,.int .u32 0)::(8,iv 0)::(xT tk k)) (zba rfl (qM (zA (zJ (zN ?_))))))))))))
  refine o_d 5 (Wo tk k) (o_s (by refine zV (v:=zQ (wa l) 10 l.length) rfl rfl ?_;exact rfl) ?_)
  refine o_b 2 [(140,.agg (vk k tk l 10))] (w3 x qd l 10 zd (yM p is nr w9 l [cw [iv 0,iv (k:Int),bv tk,zQ (wa l) 10 l.length],cw (pl p),cw (wP x p),cw [iv (p (3+5*k)),iv (p (3+5*k+1)),iv (p (3+5*k+2)),iv (p (3+5*k+3)),iv (p (3+5*k+4))],zG (wa l) (u8 m6) true])) (zE (zA (qV ?_)))
  have e1:inL p nr x l k=m6:=by
   unfold inL
   simp only [ha7]
   rw [←hba];exact hm6
  exact ⟨trivial,[.agg (vk k tk l 10)],(qY rfl rfl rfl rfl),(zK rfl z5),⟨reg [],(w3 x qd l 6 zd (yM p is nr w9 l (Wi l m6)))⟩,[0,1,2,3,4,5,10],[.agg (vk k tk l 6)],WkR.of (rs:= []) rfl rfl dC trivial ⟨.inl (zax rfl rfl rfl rfl),.inl (zF (zH _)),.inl (congrArg some (zaJ _).symm),.inl (qE rfl),.inl (zF (zH _)),.inl (qX (some w9) (fun _=>(zaf _ _))),.inl (zF (zH _)),trivial⟩,(zM (zbq rfl) rfl),.inr ⟨k,by rw [hin],om,by rw [hin];rfl,by rw [e1]⟩⟩
 ·skip
  have ha7r:=stampO_r ha7
  have ha7m:=zen x.op a7 4 dC
  have ha7n:=zen x.op (a7+4) 4 dC
  refine qT (zaH [1] [zG (zD x.op) (u8 x.op) false] [zQ (zD x.op) 0 x.op.length] (zgv ha7 (zjE (zD x.op) x.op x.op (zdj x.op) om)) rfl (zM (qI rfl) rfl) ⟨⟨_,rfl,z4 (zH _) rfl (fun q=>q)⟩,trivial⟩ dC ?_)
  rintro v1 h1' ⟨rfl,rfl⟩
  refine ⟨zai [_] [],.tuple #[iv (a7:Nat),.int .u32 (qD x.op a7 4),.int .u32 (qD x.op (a7+4) 4),bv true],(w3 x qd l 10 zd (yM p is nr w9 l [cw wk,cw (pl p),cw (wP x p),cw [iv (p (3+5*k)),iv (p (3+5*k+1)),iv (p (3+5*k+2)),iv (p (3+5*k+3)),iv (p (3+5*k+4))],zG (wa l) (u8 m6) true])),[],(qP rfl),⟨rfl,(zaY rfl rfl),rfl,rfl,rfl,rfl,rfl,rfl,rfl,rfl,rfl,trivial⟩,trivial, ?_⟩
  refine o_d 9 [(11,bv true),(10,.int .u32 (qD x.op (a7+4) 4)),(9,.int .u32 (qD x.op a7 4)),(8,iv (a7:Nat)),(93,bv true),(92,.int .u32 (qD x.op (a7+4) 4)),(91,.int .u32 (qD x.op a7 4)),(90,iv (a7:Nat)),(83,.tuple #[iv (a7:Nat),.int .u32 (qD x.op a7 4),.int .u32 (qD x.op (a7+4) 4),bv true])] (zE (zA (zJ (zN (o_d 6 [(99,pv 0 0),(98,pv 0 0),(97,pv 0 0),(96,pv 0 0),(95,bv true),(94,bv true)] (z8 rfl (o_s (by refine zV (v:=iv x.k) rfl rfl ?_;exact rfl) ?_)))))))
  refine o_d 3 [(103,bv (x.k==1)),(102,bv (x.k==1)),(101,bv (x.k==1))] (zbC (b:=x.k==1) 103 rfl (fun h8=>?_) (fun h8=>?_))
  ·skip
   have h8':x.k=1:=zaL h8
   refine o_d 3 [(106,bv ((qD x.op (a7+4) 4)!=0)),(105,bv ((qD x.op (a7+4) 4)!=0)),(104,.int .u32 (qD x.op (a7+4) 4))] (zE (zT ((106,bv ((qD x.op (a7+4) 4)!=0))::(10,.int .u32 (qD x.op (a7+4) 4))::(8,iv (a7:Nat))::(xT tk k)) (qK (t:=(qD x.op (a7+4) 4)!=0) rfl (fun h9=>?_) (fun h9=>?_))))
   ·skip
    have h9':qD x.op (a7+4) 4≠0:=zfN h9
    refine zJ (zN (o_d 1 [(12,iv 0)] (zE (zA (ziX (fun s=> ∃(bk:Int),0=0∧(bk=backN nr k (qD x.op (a7+4) 4))∧(0≤bk∧bk < 4294967296)∧s=⟨reg ((12,iv bk)::(8,iv (a7:Nat))::(xT tk k)),(w3 x qd l 10 zd (yM p is nr w9 l [cw wk,cw (pl p),cw (wP x p),cw [iv (p (3+5*k)),iv (p (3+5*k+1)),iv (p (3+5*k+2)),iv (p (3+5*k+3)),iv (p (3+5*k+4))],zG (wa l) (u8 m6) true]))⟩) ?_ ?_)))))
    ·skip
     refine zJ (zN (o_d 3 (xi 110 0 13 109 0 108 0) (o_s (by refine zV (v:=pv 3 0) rfl rfl ?_;exact rfl) ?_)))
     refine o_d 1 [(112,iv (k:Int))] (qT (zcT [3,5] [cr (zL p is nr (wt 1 w9)),cr []] [pv 0 0,iv (k:Int)] (NearK om (NearC p is nr (some w9) (k:Int))) rfl rfl ⟨⟨_,rfl,zam (.inl (zav rfl (fun q=>q)))⟩,⟨_,rfl,zbB (some w9)⟩,trivial⟩ dC ?_))
     rintro v1 h1' ⟨rfl,rfl⟩
     refine ⟨(zS z7 (zS z7 q8)),.tuple #[.int .u32 ((nr k).1),bv ((nr k).2)],(w3 x qd l 10 zd (yM p is nr w9 l [cw wk,cw (pl p),cw (wP x p),cw [iv (p (3+5*k)),iv (p (3+5*k+1)),iv (p (3+5*k+2)),iv (p (3+5*k+3)),iv (p (3+5*k+4))],zG (wa l) (u8 m6) true])),[],(qP rfl),⟨rfl,rfl,rfl,rfl,rfl,rfl,rfl,rfl,rfl,rfl,rfl,trivial⟩,trivial, ?_⟩
     refine o_d 5 [(14,bv ((nr k).2)),(13,.int .u32 ((nr k).1)),(115,bv ((nr k).2)),(114,.int .u32 ((nr k).1)),(107,.tuple #[.int .u32 ((nr k).1),bv ((nr k).2)])] (zE (zA (zJ (zN (o_d 1 [(116,bv ((nr k).2))] (zE (zA (qK (t:=(nr k).2) rfl (fun h10=>?_) (fun h10=>?_)))))))))
     ·skip
      refine zN (o_d 2 [(118,.int .u32 ((nr k).1)),(117,.int .u32 (qD x.op (a7+4) 4))] (qT (zal (cBackC (qD x.op (a7+4) 4) ((nr k).1) om om) rfl rfl rfl ?_)))
      have hy11:=backS_r (qD x.op (a7+4) 4) ((nr k).1)
      refine o_s (by refine zR (v:= .int .i64 (i64.wrap (zfS (qD x.op (a7+4) 4) ((nr k).1)))) (congrArg wh (w64 om om)) ?_;kernel_rfl) ?_
      refine o_d 1 [(12,iv (zfS (qD x.op (a7+4) 4) ((nr k).1)))] (zE (⟨⟨reg ((12,iv (zfS (qD x.op (a7+4) 4) ((nr k).1)))::(8,iv (a7:Nat))::(xT tk k)),(w3 x qd l 10 zd (yM p is nr w9 l [cw wk,cw (pl p),cw (wP x p),cw [iv (p (3+5*k)),iv (p (3+5*k+1)),iv (p (3+5*k+2)),iv (p (3+5*k+3)),iv (p (3+5*k+4))],zG (wa l) (u8 m6) true]))⟩, ?_⟩))
      refine ⟨?_, ?_⟩
      ·exact Wk.ren [0,1,2,3,4,5,6,7,8,9,10] rfl rfl dC ⟨rfl,rfl,rfl,rfl,rfl,rfl,trivial⟩ ⟨.inl (zax rfl rfl rfl rfl),.inl (zF (zH _)),.inl (congrArg some (zaJ _).symm),.inl (qE rfl),.inl (zF (zH _)),.inl (qX (some w9) (fun _=>(zaf _ _))),.inl rfl,.inl (zW (zaq p)),.inl rfl,.inl rfl,.inl (zF (zH _)),trivial⟩
      ·exact ⟨(zfS (qD x.op (a7+4) 4) ((nr k).1)),rfl,(by rw [backN,if_pos (by rw [h10])]),(backS_r _ _),rfl⟩
     refine qM (⟨⟨reg ((12,iv 0)::(8,iv (a7:Nat))::(xT tk k)),(w3 x qd l 10 zd (yM p is nr w9 l [cw wk,cw (pl p),cw (wP x p),cw [iv (p (3+5*k)),iv (p (3+5*k+1)),iv (p (3+5*k+2)),iv (p (3+5*k+3)),iv (p (3+5*k+4))],zG (wa l) (u8 m6) true]))⟩, ?_⟩)
     refine ⟨?_, ?_⟩
     ·exact Wk.ren [0,1,2,3,4,5,6,7,8,9,10] rfl rfl dC ⟨rfl,rfl,rfl,rfl,rfl,rfl,trivial⟩ ⟨.inl (zax rfl rfl rfl rfl),.inl (zF (zH _)),.inl (congrArg some (zaJ _).symm),.inl (qE rfl),.inl (zF (zH _)),.inl (qX (some w9) (fun _=>(zaf _ _))),.inl rfl,.inl (zW (zaq p)),.inl rfl,.inl rfl,.inl (zF (zH _)),trivial⟩
     ·exact ⟨0,rfl,(by rw [backN,if_neg (by rw [h10];simp)]),om,rfl⟩
    rintro s ⟨bk,-,hbk,hbr,rfl⟩
    refine zN (o_d 4 (wM 124 0 14 123 0 122 0 121 0) (o_s (by refine zV (v:=zQ (wa l) 10 l.length) rfl rfl ?_;exact rfl) ?_))
    refine o_d 1 [(126,iv (a7:Nat))] (o_s (by refine zR (v:= .int .i64 (i64.wrap (24+(a7:Nat)))) (congrArg wh (w64 om om)) ?_;kernel_rfl) ?_)
    refine o_s (by refine zR (v:= .int .i64 (i64.wrap (24+(a7:Nat)+4))) (congrArg wh (w64 om om)) ?_;kernel_rfl) ?_
    refine o_d 1 [(129,iv bk)] ?_
    have hy12:=zfg (zeR m6).k
    obtain ⟨m13,hm13⟩: ∃z9,zcj m6 (zeR m6).ba (24+a7+4) 4 bk=z9:=⟨_,rfl⟩
    have hm13a:Alike m6 m13:=by rw [←hm13];exact zfA hm6p.1 om om om om
    have hm13p:=hm13a.parse hm6p.1
    have hm13l:=hm13p.2.2.2
    have hm13k:=hm13p.2.1
    have hm13b:=hm13p.2.2.1
    have hm13e:m13.length=l.length:=(hm13l.trans hm6l)
    refine qT (zaH [10] [zG (wa l) (u8 m6) false] [zQ (wa l) 0 l.length,iv (24+(a7:Nat)+4),iv 4,iv bk] (chgR hm13 hm6l (Write4C _ _ m6 m6 (RowOf.whole rfl om) (zeR m6) hm6p.1 (24+a7+4) bk om om om)) rfl rfl ⟨⟨_,rfl,z4 (zH _) rfl (fun q=>rfl)⟩,trivial⟩ dC ?_)
    rintro v1 h1' ⟨rfl,rfl⟩
    refine ⟨za0 rfl,.tuple (WN l 11),(w3 x qd l 10 zd (yM p is nr w9 l [cw wk,cw (pl p),cw (wP x p),cw [iv (p (3+5*k)),iv (p (3+5*k+1)),iv (p (3+5*k+2)),iv (p (3+5*k+3)),iv (p (3+5*k+4))],zG (wa l) (u8 m6) true])),(Wi l m13),((zdD _).trans rfl),⟨rfl,rfl,rfl,rfl,rfl,rfl,rfl,rfl,rfl,rfl,rfl,trivial⟩,⟨(Option.some.inj (zF (zH _))).symm,trivial⟩, ?_⟩
    refine o_d 2 (Wy 132 131 l 11) (qT (zcT [0,1,2,3,10,11] (vo x qd l zd) (Yb l) (thenC x (zD x.op) qd 0 l.length l.length 0 l.length l.length ((zD x.op).isSome) zd) rfl rfl ⟨⟨_,rfl,zam (.inl (zbY rfl rfl rfl rfl (fun q=>rfl)))⟩,⟨_,rfl,(zco (zD x.op))⟩,⟨_,rfl,(zdR _)⟩,⟨_,rfl,zaF⟩,⟨_,rfl,zaF⟩,⟨_,rfl,zaF⟩,trivial⟩ dC ?_))
    rintro v1 h1' ⟨rfl,rfl⟩
    refine ⟨(zS zaE (zS z7 (zS z7 (zS z7 (zS z7 (zS z7 q8)))))),.tuple #[],(w3 x qd l 11 zd (yM p is nr w9 l (cw wk::cw (pl p)::cw (wP x p)::cw [iv (p (3+5*k)),iv (p (3+5*k+1)),iv (p (3+5*k+2)),iv (p (3+5*k+3)),iv (p (3+5*k+4))]::(Wc l m6 m13)))),[],(by simp [zaI]),⟨zbS rfl rfl rfl rfl,(by first | exact hid1 dC rfl | exact row1 dC rfl),(by cases zd<;>rfl),rfl,rfl,rfl,rfl,rfl,rfl,rfl,rfl,rfl,trivial⟩,trivial, ?_⟩
    refine zE (zA (zJ (zN (o_d 5 (Wo tk k) (o_s (by refine zV (v:=zQ (wa l) 11 l.length) rfl rfl ?_;exact rfl) ?_)))))
    refine o_b 2 [(140,.agg (vk k tk l 11))] (w3 x qd l 11 zd (yM p is nr w9 l (cw [iv 0,iv (k:Int),bv tk,zQ (wa l) 11 l.length]::cw (pl p)::cw (wP x p)::cw [iv (p (3+5*k)),iv (p (3+5*k+1)),iv (p (3+5*k+2)),iv (p (3+5*k+3)),iv (p (3+5*k+4))]::(Wc l m6 m13)))) (zE (zT [(2,pv 6 0)] (qV ?_)))
    have e1:inL p nr x l k=m13:=by
     unfold inL
     simp only [ha7]
     rw [if_pos ⟨om,by assumption⟩,←hba,hm6,←hm6b,←hbk];exact hm13
    exact ⟨trivial,[.agg (vk k tk l 11)],(qY rfl rfl rfl rfl),(zK rfl z5),⟨reg [],(w3 x qd l 6 zd (yM p is nr w9 l (Wi l m13)))⟩,[0,1,2,3,4,5,11],[.agg (vk k tk l 6)],WkR.of (rs:= []) rfl rfl dC trivial ⟨.inl (zax rfl rfl rfl rfl),.inl (zF (zH _)),.inl (congrArg some (zaJ _).symm),.inl (qE rfl),.inl (zF (zH _)),.inl (qX (some w9) (fun _=>(zaf _ _))),.inl (zF (zH _)),trivial⟩,(zM (zbq rfl) rfl),.inr ⟨k,by rw [hin],om,by rw [hin];rfl,by rw [e1]⟩⟩
   have h9': ¬(qD x.op (a7+4) 4≠0):=zfO h9
   refine qM (zA (zJ (zN (o_d 5 (Wo tk k) (o_s (by refine zV (v:=zQ (wa l) 10 l.length) rfl rfl ?_;exact rfl) ?_)))))
   refine o_b 2 [(140,.agg (vk k tk l 10))] (w3 x qd l 10 zd (yM p is nr w9 l [cw [iv 0,iv (k:Int),bv tk,zQ (wa l) 10 l.length],cw (pl p),cw (wP x p),cw [iv (p (3+5*k)),iv (p (3+5*k+1)),iv (p (3+5*k+2)),iv (p (3+5*k+3)),iv (p (3+5*k+4))],zG (wa l) (u8 m6) true])) (zE (zA (qV ?_)))
   have e1:inL p nr x l k=m6:=by
    unfold inL
    simp only [ha7]
    rw [if_neg om,←hba];exact hm6
   exact ⟨trivial,[.agg (vk k tk l 10)],(qY rfl rfl rfl rfl),(zK rfl z5),⟨reg [],(w3 x qd l 6 zd (yM p is nr w9 l (Wi l m6)))⟩,[0,1,2,3,4,5,10],[.agg (vk k tk l 6)],WkR.of (rs:= []) rfl rfl dC trivial ⟨.inl (zax rfl rfl rfl rfl),.inl (zF (zH _)),.inl (congrArg some (zaJ _).symm),.inl (qE rfl),.inl (zF (zH _)),.inl (qX (some w9) (fun _=>(zaf _ _))),.inl (zF (zH _)),trivial⟩,(zM (zbq rfl) rfl),.inr ⟨k,by rw [hin],om,by rw [hin];rfl,by rw [e1]⟩⟩
  have h8': ¬(x.k=1):=zaM h8
  refine o_d 3 [(106,bv false),(105,undef),(104,undef)] (zE (zT ((106,bv false)::(10,.int .u32 (qD x.op (a7+4) 4))::(8,iv (a7:Nat))::(xT tk k)) (zba rfl (qM (zA (zJ (zN (o_d 5 (Wo tk k) (o_s (by refine zV (v:=zQ (wa l) 10 l.length) rfl rfl ?_;exact rfl) ?_)))))))))
  refine o_b 2 [(140,.agg (vk k tk l 10))] (w3 x qd l 10 zd (yM p is nr w9 l [cw [iv 0,iv (k:Int),bv tk,zQ (wa l) 10 l.length],cw (pl p),cw (wP x p),cw [iv (p (3+5*k)),iv (p (3+5*k+1)),iv (p (3+5*k+2)),iv (p (3+5*k+3)),iv (p (3+5*k+4))],zG (wa l) (u8 m6) true])) (zE (zA (qV ?_)))
  have e1:inL p nr x l k=m6:=by
   unfold inL
   simp only [ha7]
   rw [if_neg om,←hba];exact hm6
  exact ⟨trivial,[.agg (vk k tk l 10)],(qY rfl rfl rfl rfl),(zK rfl z5),⟨reg [],(w3 x qd l 6 zd (yM p is nr w9 l (Wi l m6)))⟩,[0,1,2,3,4,5,10],[.agg (vk k tk l 6)],WkR.of (rs:= []) rfl rfl dC trivial ⟨.inl (zax rfl rfl rfl rfl),.inl (zF (zH _)),.inl (congrArg some (zaJ _).symm),.inl (qE rfl),.inl (zF (zH _)),.inl (qX (some w9) (fun _=>(zaf _ _))),.inl (zF (zH _)),trivial⟩,(zM (zbq rfl) rfl),.inr ⟨k,by rw [hin],om,by rw [hin];rfl,by rw [e1]⟩⟩
theorem inW {P:Program} [PrC P] (p:q9) (is:Bool) (nr:zds) (w9:Nat) (x:Pk) (qd:Option (Nat×Nat)) (zd:Bool) (l:List Int) (y:Pk) (hp:qU l=(0,y)) (hk:y.k=x.k) (hba:y.ba=x.ba) (h3:x.k≠3) (hop:x.op.length+24≤l.length) (H:PRng p) (hnr: ∀k,0≤(nr k).1∧(nr k).1 < 4294967296) (N:Nat) (hN:l.length=N):
  Env P "(*roundhouse/plane.packet).in" [pv 0 0] ([cw (qS x (zD x.op) 1 qd 2 3 (some (0,N)) 4 N),zG (zD x.op) (u8 x.op) false,zaC zd,cr (zL p is nr (slV 5 127 (some w9))),zG (some (0,N)) (u8 l) false,slB zI (ii (qA p)) (some w9)]) (fun v h'=>((inP p x).1 < 0∧v= .agg #[iv 9,iv (-1),bv false,.slice none 0 0]∧h'= [cw (qS x (zD x.op) 1 qd 2 3 (some (0,N)) 4 N),zG (zD x.op) (u8 x.op) false,zaC zd,cr (zL p is nr (slV 5 127 (some w9))),zG (some (0,N)) (u8 l) false,slB zI (ii (qA p)) (some w9)])∨(∃k:Nat,(inP p x).1=(k:Int)∧k < 64∧v= .agg #[iv 0,iv (k:Int),bv (inP p x).2,zQ (some (0,N)) 6 N]∧h'= [cw (qS x (zD x.op) 1 qd 2 3 (some (0,N)) 6 N),zG (zD x.op) (u8 x.op) false,zaC zd,cr (zL p is nr (slV 5 127 (some w9))),zG (some (0,N)) (u8 l) false,slB zI (ii (qA p)) (some w9),zG (some (0,N)) (u8 (inL p nr x l k)) true])):=by
 subst hN;exact inC4 p is nr w9 x qd zd l y hp hk hba h3 hop H hnr
end Go.Rh

namespace Go.Rh
theorem app_fit {h:Nat→Option Blk} {z:RL} {zl:List Value} {size bytes q n k r2 c nid:Nat} {cs xs:List Value} {vx:Value} (hzl:zl.length=size) (hk:h k=some (.cells (cs++zah zl (q+r2)) true)) (hcs:cs.length=n*size) (hq:ziR vx=some q) (hf1:first h size q vx=some xs) (hxl:xs.length=q*size):
  appE z size bytes (sv k 0 n (n+(q+r2))) vx h nid c=some (sv k 0 (n+q) (n+q+r2),if q=0 then .no else .set k (cw (cs++xs++zah zl r2))):=by
 have e1:first h size n (.slice (some ⟨k,0,none⟩) n (n+(q+r2)))=some cs:=by
  refine zbI hk ?_ ?_
  ·rw [List.drop_zero,←hcs,List.take_append_of_le_length (Nat.le_refl _),List.take_length]
  ·simp [hcs]
 simp only [appE,sv,hq]
 rw [e1,hf1]
 simp only
 rw [if_pos om]
 by_cases h0:q=0
 ·subst h0;simp
 ·rw [if_neg h0,if_neg h0,hk]
  simp only
  have hsz:(cs++zah zl (q+r2)).length=n*size+(q+r2)*size:=by simp [room_len,hzl,hcs]
  rw [if_pos (by rw [hsz,hxl,Nat.add_mul];omega)]
  have e2:splice (cs++zah zl (q+r2)) (0+n*size) xs=(cs++xs)++zah zl r2:=by
   rw [Nat.zero_add,←hcs];exact zh0 (by rw [hzl];exact hxl)
  rw [e2,show n+(q+r2)=n+q+r2 by omega]
theorem set_same {h:List Blk} {k:Nat} {b:Blk} (hk:h[k]? =some b):h.set k b=h:=by
 refine List.ext_getElem? fun i=>?_
 rw [List.getElem?_set]
 split
 ·rename_i e;subst e;rw [if_pos (zZ hk),hk]
 ·rfl
section
variable {C:zae} {K:St→Prop} {L:List (Nat×Value)} {h h':List Blk} {z:RL} {zl:List Value} {size bytes q n k r r2 d:Nat} {cs xs cs2:List Value} {vx:Value} {s x:Opd} {rs:List ICell}
theorem o_appF (hzl:zl.length=size) (hs:evf (reg L) s=sv k 0 n (n+r)) (hr:r=q+r2) (hk:h[k]? =some (.cells (cs++zah zl r) true)) (hcs:cs.length=n*size) (hx:evf (reg L) x=vx) (hq:ziR vx=some q) (hf1:first (hf h) size q vx=some xs) (hxl:xs.length=q*size) (hc:cs++xs=cs2) (hh:h.set k (cw (cs2++zah zl r2))=h')
  (hK:GO C rs K ⟨reg ((d,sv k 0 (n+q) (n+q+r2))::L),h'⟩):GO C (⟨some d,.app z size bytes s x,none⟩::rs) K ⟨reg L,h⟩:=by
 subst hr;subst hc;subst hh
 refine ⟨?_⟩
 show zfr C (.app z size bytes s x) (reg L) h (fun v h=>zbn C rs K ⟨zat (reg L) (some d) v,h⟩)
 show appK z size bytes (evf (reg L) s) (evf (reg L) x) (fun v e=>zbn C rs K ⟨zat (reg L) (some d) v,e.on h⟩) (hf h) h.length
 rw [hs,hx]
 refine appK_of fun c=>⟨_,_,app_fit hzl (zag.2 ⟨hk,by simp⟩) hcs hq hf1 hxl, ?_⟩
 have:=hK.out
 by_cases h0:q=0
 ·subst h0
  have hx0:xs= []:=List.eq_nil_of_length_eq_zero (by simpa using hxl)
  subst hx0
  rw [if_pos rfl]
  rw [List.append_nil,set_same (by rw [hk,Nat.zero_add])] at this
  exact this
 ·rw [if_neg h0];exact this
theorem d_appF {un:Nat→Nat→Bool} {i nid:Nat} {log:List Foot} (hzl:zl.length=size) (hs:evf (reg L) s=sv k 0 n (n+r)) (hr:r=q+r2) (hk:h[k]? =some (.cells (cs++zah zl r) true)) (hcs:cs.length=n*size) (hx:evf (reg L) x=vx) (hq:ziR vx=some q) (hf1:first (hf h) size q vx=some xs) (hxl:xs.length=q*size) (hc:cs++xs=cs2) (hh:h.set k (cw (cs2++zah zl r2))=h')
  (hq0:0 < q) (hfit:zhv un ⟨i,rdE (.appR z size bytes s x) (evf (reg L)),[k],none⟩ log=true) (hK:GD C un (i+1) (nid+1) rs (zef ⟨i,rdE (.appR z size bytes s x) (evf (reg L)),[k],none⟩ log) K ⟨reg ((d,sv k 0 (n+q) (n+q+r2))::L),h'⟩):GD C un i nid (⟨some d,.appR z size bytes s x,none⟩::rs) log K ⟨reg L,h⟩:=by
 subst hr;subst hc;subst hh
 refine ⟨?_⟩
 show zaO C un ⟨i,nid,some d,.appR z size bytes s x,none⟩ log (fun log' s'=>wpD C un (zbv (i+1) (nid+1) rs) log' K s') ⟨reg L,h⟩
 simp only [zaO,gJ,zbJ,if_true,if_false,Bool.false_eq_true]
 intro c
 rw [hs,hx,app_fit hzl (zag.2 ⟨hk,by simp⟩) hcs hq hf1 hxl,if_neg om]
 exact ⟨trivial,zck hfit,hK.out⟩
theorem d_appF0 {un:Nat→Nat→Bool} {i nid:Nat} {log:List Foot} (hzl:zl.length=size) (hs:evf (reg L) s=sv k 0 n (n+r)) (hr:r=q+r2) (hk:h[k]? =some (.cells (cs++zah zl r) true)) (hcs:cs.length=n*size) (hx:evf (reg L) x=vx) (hq:ziR vx=some q) (hf1:first (hf h) size q vx=some xs) (hxl:xs.length=q*size) (hc:cs++xs=cs2) (hh:h.set k (cw (cs2++zah zl r2))=h')
  (hq0:q=0) (hfit:zhv un ⟨i,rdE (.appR z size bytes s x) (evf (reg L)),[],none⟩ log=true) (hK:GD C un (i+1) (nid+1) rs (zef ⟨i,rdE (.appR z size bytes s x) (evf (reg L)),[],none⟩ log) K ⟨reg ((d,sv k 0 (n+q) (n+q+r2))::L),h'⟩):GD C un i nid (⟨some d,.appR z size bytes s x,none⟩::rs) log K ⟨reg L,h⟩:=by
 subst hr;subst hc;subst hh
 refine ⟨?_⟩
 show zaO C un ⟨i,nid,some d,.appR z size bytes s x,none⟩ log (fun log' s'=>wpD C un (zbv (i+1) (nid+1) rs) log' K s') ⟨reg L,h⟩
 simp only [zaO,gJ,zbJ,if_true,if_false,Bool.false_eq_true]
 intro c
 rw [hs,hx,app_fit hzl (zag.2 ⟨hk,by simp⟩) hcs hq hf1 hxl,if_pos hq0]
 have:=hK.out
 subst hq0
 have hx0:xs= []:=List.eq_nil_of_length_eq_zero (by simpa using hxl)
 subst hx0
 rw [List.append_nil,set_same (by rw [hk,Nat.zero_add])] at this
 exact ⟨trivial,zck hfit,this⟩
end
theorem zcR (q:Option (Nat×Nat)) (k n:Nat) (hq:q=none→n=0):ziR (zQ q k n)=some n:=by
 cases q with
 | none=>rw [hq rfl];rfl
 | some p=>rfl
theorem zcO {h:List Blk} {k:Nat} {q q0:Option (Nat×Nat)} {L l:List Int} {rw:Bool} (hk:h[k]? =some (zG q0 (u8 L) rw)) (hs:q.isSome=q0.isSome) (hr:RowOf q L l):first (hf h) 1 l.length (zQ q k l.length)=some (u8 l):=by
 cases q with
 | none=>have:=List.eq_nil_of_length_eq_zero (hr.nil rfl);subst this;rfl
 | some p=>
  obtain ⟨p0,rfl⟩: ∃p0,q0=some p0:=by cases q0 with | none=>cases hs | some p0=>exact ⟨p0,rfl⟩
  have h6:hf h k=some (.cells (u8 L) rw):=zag.2 ⟨hk,by simp⟩
  have h7:=hr.off (by simp)
  have h8:=hr.at_ (by simp)
  simp only [qo] at h7 h8
  simp only [zQ]
  refine zbI h6 ?_ (by rw [qL];omega)
  rw [Nat.mul_one]
  conv=>rhs;rw [←h8]
  simp [u8]
theorem zeF {l:List Int} {i r:Nat} {x w:Int} (hi:i < l.length) (hw:x % 256=w):splice (u8 l++zah zB r) i [.int .u8 w]=u8 (l.set i x)++zah zB r:=by
 rw [zeh (by rw [qL];simp;omega),u8_set hi hw]
theorem run_mksR {d:Option Nat} {l c:Opd} {L:List (Nat×Value)} {hp:List Blk} {a n r:Nat} (hl:evf (reg L) l=iv (a:Nat)) (hc:evf (reg L) c=iv (n:Nat)) (hn:n=a+r) (hb:n≤1000000):
  zc8 [⟨d,.mks [(1,(.int .u8 0))] 1 1 l c,none⟩] ⟨reg L,hp⟩=some ⟨zat (reg L) d (sv hp.length 0 a (a+r)),hp++ [cw (u8 (List.replicate a 0)++zah zB r)]⟩:=by
 subst hn
 refine zaQ (e:= .push (cw (u8 (List.replicate a 0)++zah zB r))) (v:=sv hp.length 0 a (a+r)) rfl rfl ?_
 simp only [z6,hl,hc,iv]
 rw [if_pos ⟨om,om,om,om⟩]
 simp only [Int.toNat_natCast]
 rw [zgE,zcz,List.replicate_append_replicate,←u8_rep];rfl
def zbP (b:List Int):List Int:=
 (if b.getD 0 0 % 256=3 then [0,b.getD 0 0,((b.length:Int) - 16) / 256,(b.length:Int) - 16] else (b.drop 4).take 8++ [0,b.getD 0 0,((b.length:Int) - 16) / 256,(b.length:Int) - 16])++b.drop 16
def bldH (x:Pk) (n:Int):List Int:=
 zbh (zbh (zbh ((((List.replicate 16 (0:Int)).set 0 x.k).set 1 x.li).set 12 x.pi) 2 2 n) 4 4 x.fr) 8 4 x.t
def bldS (x:Pk) (n:Int):List Int:=zbh (bldH x n) 14 2 (65535 - zbR (bldH x n))
def bldB (x:Pk):List Int:=
 if x.k=3 then bldS x (20+(x.da.length:Nat))++ [x.co,0,0,0]++x.da
 else if x.k=2 then zbh (zbh (zbh (bldS x (24+(x.da.length:Nat))++List.replicate 8 0) 20 2 x.la) 16 2 x.fp) 18 2 x.tp++x.da
 else zbh (zbh (((bldS x (24+(x.da.length:Nat)+(x.op.length:Nat))++List.replicate 8 0++x.op).set 20 x.fl).set 21 (x.op.length:Nat)) 16 2 x.fp) 18 2 x.tp++x.da
def bldX (x:Pk):Int:=
 if x.k=2 then (if x.ba then 0 else if 65535 - zbR (zbP (bldB x))=0 then 65535 else 65535 - zbR (zbP (bldB x))) else 65535 - zbR (zbP (bldB x))
def bld (x:Pk):List Int:=zbh (bldB x) (zaj x.k).toNat 2 (bldX x)
structure BOk (x:Pk):Prop where
  k:1≤x.k∧x.k≤3
  li:0≤x.li∧x.li≤255
  pi:0≤x.pi∧x.pi≤255
  fr:0≤x.fr∧x.fr≤4294967295
  t:0≤x.t∧x.t≤4294967295
  co:x.k=3→0≤x.co∧x.co≤255
  fp:x.k≠3→(0≤x.fp∧x.fp≤65535)∧(0≤x.tp∧x.tp≤65535)
  fl:x.k=1→0≤x.fl∧x.fl≤15
  la:x.k=2→0≤x.la∧x.la≤65535
  op:x.k=1→x.op.length≤40
  da:x.k=3→24≤x.da.length
  n:(x.k=1→24+x.da.length+x.op.length≤1500)∧(x.k=2→24+x.da.length≤1500)∧(x.k=3→20+x.da.length≤1500)
end Go.Rh

namespace Go.Rh
theorem zca {l m:List Int} {i:Nat} (h:i < l.length):(l++m).getD i 0=l.getD i 0:=by
 rw [List.getD_eq_getElem?_getD,List.getD_eq_getElem?_getD,List.getElem?_append_left h]
theorem zgJ {l m:List Int} {a:Nat} : ∀k,(∀i,a≤i→i < a+k→l.getD i 0=m.getD i 0)→qD l a k=qD m a k
 | 0,_=>rfl
 | k+1,h=>by simp only [qD];rw [zgJ k (fun i h1 h2=>h i h1 om),h (a+k) om om]
theorem numB_appL {l m:List Int} {a k:Nat} (h:a+k≤l.length):qD (l++m) a k=qD l a k:=zgJ k fun i _ h2=>zca om
theorem getD_rep (n i:Nat):(List.replicate n (0:Int)).getD i 0=0:=by
 rw [List.getD_eq_getElem?_getD,List.getElem?_replicate];split<;>rfl
theorem ziJ (x:Pk) (n:Int):(bldH x n).length=16:=by unfold bldH;simp only [zX,List.length_set,List.length_replicate]
theorem zbb (x:Pk) (n:Int):(bldS x n).length=16:=by unfold bldS;rw [zX,ziJ]
structure HdOk (l:List Int) (x:Pk) (n:Int):Prop where
  b0:l.getD 0 0 % 256=x.k
  b1:l.getD 1 0 % 256=x.li
  b12:l.getD 12 0 % 256=x.pi
  b13:l.getD 13 0 % 256=0
  n2:qD l 2 2=n
  fr:qD l 4 4=x.fr
  t:qD l 8 4=x.t
  w:zgN l % 65535=0
theorem bldH_hd {x:Pk} {n:Int} (hk:1≤x.k∧x.k≤3) (hl:0≤x.li∧x.li≤255) (hp:0≤x.pi∧x.pi≤255) (hf:0≤x.fr∧x.fr≤4294967295) (ht:0≤x.t∧x.t≤4294967295) (hn:0≤n∧n < 65536):
  (bldH x n).getD 0 0 % 256=x.k∧(bldH x n).getD 1 0 % 256=x.li∧(bldH x n).getD 12 0 % 256=x.pi∧(bldH x n).getD 13 0 % 256=0∧qD (bldH x n) 2 2=n∧qD (bldH x n) 4 4=x.fr∧qD (bldH x n) 8 4=x.t∧qD (bldH x n) 14 2=0:=by
 unfold bldH
 have gp:=zbc
 refine ⟨?_, ?_, ?_, ?_, ?_, ?_, ?_, ?_⟩
 ·rw [gp _ _ _ _ _ om,gp _ _ _ _ _ om,gp _ _ _ _ _ om,zas om,zas om,za1 (by simp)];omega
 ·rw [gp _ _ _ _ _ om,gp _ _ _ _ _ om,gp _ _ _ _ _ om,zas om,za1 (by simp)];omega
 ·rw [gp _ _ _ _ _ om,gp _ _ _ _ _ om,gp _ _ _ _ _ om,za1 (by simp)];omega
 ·rw [gp _ _ _ _ _ om,gp _ _ _ _ _ om,gp _ _ _ _ _ om,zas om,zas om,zas om,getD_rep];rfl
 ·rw [zaa _ om,zaa _ om,zdm (by simp) om]
 ·rw [zaa _ om,numB_put4 (by simp only [zX];simp) om]
 ·rw [numB_put4 (by simp only [zX];simp) om]
 ·rw [zaa _ om,zaa _ om,zaa _ om,zfi _ om,zfi _ om,zfi _ om]
  simp only [qD,getD_rep];rfl
theorem bldS_hd {x:Pk} {n:Int} (hk:1≤x.k∧x.k≤3) (hl:0≤x.li∧x.li≤255) (hp:0≤x.pi∧x.pi≤255) (hf:0≤x.fr∧x.fr≤4294967295) (ht:0≤x.t∧x.t≤4294967295) (hn:0≤n∧n < 65536):HdOk (bldS x n) x n:=by
 have h:=bldH_hd hk hl hp hf ht hn
 have hln:=ziJ x n
 have ha:=zht (bldH x n)
 have h8:=ziQ (l:=bldH x n) om (zga om) 8 (Nat.le_refl _)
 rw [List.take_of_length_le om] at h8
 have e:zbR (bldH x n)=zhs (bldH x n) 8:=by unfold zbR;rw [hln]
 rw [←e] at h8
 unfold bldS
 have gp:=zbc
 refine ⟨?_, ?_, ?_, ?_, ?_, ?_, ?_, ?_⟩
 ·rw [gp _ _ _ _ _ om];exact h.1
 ·rw [gp _ _ _ _ _ om];exact h.2.1
 ·rw [gp _ _ _ _ _ om];exact h.2.2.1
 ·rw [gp _ _ _ _ _ om];exact h.2.2.2.1
 ·rw [zaa _ om];exact h.2.2.2.2.1
 ·rw [zaa _ om];exact h.2.2.2.2.2.1
 ·rw [zaa _ om];exact h.2.2.2.2.2.2.1
 ·unfold zgN
  rw [zaa _ om,zaa _ om,zaa _ om,zaa _ om,zaa _ om,zaa _ om,zaa _ om,zdm om om]
  have h14:=h.2.2.2.2.2.2.2
  simp at h8
  omega
theorem HdOk.same {l m:List Int} {x:Pk} {n:Int} (h:HdOk l x n) (e: ∀i,i < 16→m.getD i 0=l.getD i 0):HdOk m x n:=by
 have c: ∀a k,a+k≤16→qD m a k=qD l a k:=fun a k q=>zgJ k fun i _ h2=>e i om
 refine ⟨?_, ?_, ?_, ?_, ?_, ?_, ?_, ?_⟩
 ·rw [e 0 om];exact h.b0
 ·rw [e 1 om];exact h.b1
 ·rw [e 12 om];exact h.b12
 ·rw [e 13 om];exact h.b13
 ·rw [c _ _ om];exact h.n2
 ·rw [c _ _ om];exact h.fr
 ·rw [c _ _ om];exact h.t
 ·unfold zgN
  rw [c _ _ om,c _ _ om,c _ _ om,c _ _ om,c _ _ om,c _ _ om,c _ _ om,c _ _ om]
  exact h.w
theorem bldX_r (x:Pk):0≤bldX x∧bldX x < 65536:=by
 have:=zht (zbP (bldB x))
 unfold bldX;(repeat' split)<;>omega
theorem bldB_length (x:Pk):(bldB x).length=if x.k=3 then 20+x.da.length else if x.k=2 then 24+x.da.length else 24+x.op.length+x.da.length:=by
 unfold bldB
 split
 ·simp only [List.length_append,zbb,List.length_cons,List.length_nil]
 split
 ·simp only [List.length_append,zX,zbb,List.length_replicate]
 ·simp only [List.length_append,zX,List.length_set,zbb,List.length_replicate]
theorem zgR (x:Pk):(bld x).length=if x.k=3 then 20+x.da.length else if x.k=2 then 24+x.da.length else 24+x.op.length+x.da.length:=by
 unfold bld;rw [zX,bldB_length]
theorem bld_hd {x:Pk} (B:BOk x):HdOk (bld x) x ((bld x).length:Int):=by
 have hn:=B.n
 rw [zgR]
 have gp:=zbc
 have hX: ∀i,i < 16→(bld x).getD i 0=(bldB x).getD i 0:=fun i hi=>by
  unfold bld;rw [gp _ _ _ _ _ (by rw [zgH];split<;>omega)]
 by_cases h3:x.k=3
 ·rw [if_pos h3]
  refine (bldS_hd B.k B.li B.pi B.fr B.t (n:=20+(x.da.length:Nat)) om).same fun i hi=>?_
  rw [hX i hi];unfold bldB;rw [if_pos h3,zca (by simp [zbb];omega),zca (by rw [zbb];omega)]
 ·rw [if_neg h3]
  by_cases h2:x.k=2
  ·rw [if_pos h2]
   refine (bldS_hd B.k B.li B.pi B.fr B.t (n:=24+(x.da.length:Nat)) om).same fun i hi=>?_
   rw [hX i hi];unfold bldB
   rw [if_neg h3,if_pos h2,zca (by simp only [zX,List.length_append,zbb];omega),gp _ _ _ _ _ om,gp _ _ _ _ _ om,gp _ _ _ _ _ om,zca (by rw [zbb];omega)]
  ·rw [if_neg h2]
   have h1:x.k=1:=by have:=B.k;omega
   have:=hn.1 h1
   rw [show ((24+x.op.length+x.da.length:Nat):Int)=24+(x.da.length:Nat)+(x.op.length:Nat) by omega]
   refine (bldS_hd B.k B.li B.pi B.fr B.t (n:=24+(x.da.length:Nat)+(x.op.length:Nat)) om).same fun i hi=>?_
   rw [hX i hi];unfold bldB
   rw [if_neg h3,if_neg h2,zca (by simp only [zX,List.length_set,List.length_append,zbb];omega),gp _ _ _ _ _ om,gp _ _ _ _ _ om,zas om,zas om,zca (by simp only [List.length_append,zbb];omega),zca (by rw [zbb];omega)]
theorem parse_bld1 {x:Pk} (B:BOk x) (h1:x.k=1) (hla:x.la=0) (hba:x.ba=false) (hco:x.co=0):qU (bld x)=(0,x):=by
 have H:=bld_hd B
 have hl:=zgR x
 rw [if_neg om,if_neg om] at hl
 have hn:=B.n.1 h1;have hop:=B.op h1;have hf:=B.fp om;have hfl:=B.fl h1
 have hX:=bldX_r x
 have hp:(zaj x.k).toNat=22:=by rw [zgH,if_neg om]
 obtain ⟨Z,hZ⟩: ∃Z,bldS x (24+(x.da.length:Nat)+(x.op.length:Nat))++List.replicate 8 0=Z:=⟨_,rfl⟩
 have hZl:Z.length=24:=by rw [←hZ];simp [zbb]
 have hY:bldB x=zbh (zbh ((Z.set 20 x.fl).set 21 (x.op.length:Nat)) 16 2 x.fp) 18 2 x.tp++x.op++x.da:=by
  unfold bldB;rw [if_neg om,if_neg om,hZ,List.set_append_left _ _ om,List.set_append_left _ _ (by simp;omega),zf7 _ _ _ _ _ (by simp;omega),zf7 _ _ _ _ _ (by simp only [zX];simp;omega)]
 have hb:bld x=zbh (zbh (zbh ((Z.set 20 x.fl).set 21 (x.op.length:Nat)) 16 2 x.fp) 18 2 x.tp) 22 2 (bldX x)++(x.op++x.da):=by
  unfold bld;rw [hp,hY,List.append_assoc,zf7 _ _ _ _ _ (by simp only [zX,List.length_set];omega)]
 have gp:=zbc
 have e20:(bld x).getD 20 0=x.fl:=by
  rw [hb,zca (by simp only [zX,List.length_set];omega),gp _ _ _ _ _ om,gp _ _ _ _ _ om,gp _ _ _ _ _ om,zas om,za1 om]
 have e21:(bld x).getD 21 0=(x.op.length:Nat):=by
  rw [hb,zca (by simp only [zX,List.length_set];omega),gp _ _ _ _ _ om,gp _ _ _ _ _ om,gp _ _ _ _ _ om,za1 (by simp;omega)]
 have P:PkB (bld x):=⟨om,by rw [H.b0];omega,by rw [H.n2],H.b13,H.w,fun q=>by rw [H.b0] at q;omega,fun q=>⟨by rw [e20];omega,by rw [e21];omega,by rw [e21];omega⟩⟩
 rw [P.parse]
 unfold zeR
 rw [if_neg (by rw [H.b0];omega),if_neg (by rw [H.b0];omega),H.b0,H.b1,H.b12,H.fr,H.t]
 have e16:qD (bld x) 16 2=x.fp:=by
  rw [hb,numB_appL (by simp only [zX,List.length_set];omega),zaa _ om,zaa _ om,zdm (by simp only [zX,List.length_set];omega) om]
 have e18:qD (bld x) 18 2=x.tp:=by
  rw [hb,numB_appL (by simp only [zX,List.length_set];omega),zaa _ om,zdm (by simp only [zX,List.length_set];omega) om]
 have en:((bld x).getD 21 0 % 256).toNat=x.op.length:=by rw [e21];omega
 have hd:(bld x).drop 24=x.op++x.da:=by rw [hb,List.drop_left' (by simp only [zX,List.length_set];omega)]
 have ed1:((bld x).drop 24).take x.op.length=x.op:=by rw [hd,List.take_left' rfl]
 have ed2:(bld x).drop (24+x.op.length)=x.da:=by rw [←List.drop_drop,hd,List.drop_left' rfl]
 rw [en,e16,e18,ed1,ed2,e20,Int.emod_eq_of_lt om om]
 obtain ⟨k,li,pi,fr,t,fp,tp,fl,la,ba,co,op,da⟩:=x
 subst hla hba hco;rfl
end Go.Rh

namespace Go.Rh
theorem cook_parts {E X T t:Int} (hE:0≤E∧E < 4) (hX:0≤X∧X < 64) (hT:T=256∨T=4096) (ht:0≤t∧t < T):
  let c:=(E*64+X)*T+t
  ¬(c < 0∨256*T≤c)∧c / (64*T)=E∧c / T % 64=X∧c % T=t:=by
 intro c
 rcases hT with rfl | rfl<;>(simp only [c];omega)
theorem read_by {r r':Rg} {k:Int} {f:Fl} {s:Int} (hs:0≤s∧s < 64) (hk:keyS r' (r.e % 4)=some (r.ca,r.cb)):zez r' k f (zc1 r k f s)=some s:=by
 have hX:=xoN_r hs (zfC r.ca r.cb k f (r.e % 4))
 have ht:=tagS_r r.ca r.cb k f s (r.e % 4)
 obtain ⟨h1,h2,h3,h4⟩:=cook_parts (E:=r.e % 4) om hX (TB_r k) ht
 unfold zez zc1
 rw [if_neg h1,h2,hk,Option.bind_some]
 unfold readT
 rw [h2,h3,h4]
 simp only [xoN_2 hs.1,if_true]
theorem read_prev {r r':Rg} {k:Int} {f:Fl} {s:Int} (hs:0≤s∧s < 64) (he:r'.e=r.e+1) (ha:r'.pa=r.ca) (hb:r'.pb=r.cb):zez r' k f (zc1 r k f s)=some s:=
 read_by hs (by unfold keyS atS;rw [if_pos om,ha,hb])
theorem take_known {p:q9} {nr:zds} {l:List Int} {x:Pk} (hp:qU l=(0,x)) (hpi:x.pi=0) (hli:2≤x.li):zaU p nr l=go9S p nr x (ageL l x.ba):=by
 unfold zaU;rw [hp,if_neg (by simp),if_neg (by simpa using hpi),if_neg (by show¬x.li < 2;omega)]
theorem take_out {p:q9} {nr:zds} {l:List Int} {x:Pk} {s:Nat} (hp:qU l=(0,x)) (hpi:x.pi=0) (hli:2≤x.li) (hk:x.k≠3) (ht: ¬(x.t=p 1∧x.tp=p 2)) (hf:za4 (zdo p x.fr x.fp) 0 64=((s:Int),true)):
  zaU p nr l=(⟨0,-1,false,outL p x (ageL l x.ba) s⟩,outN nr x s):=by
 rw [take_known hp hpi hli];unfold go9S;rw [if_neg hk,if_neg ht,hf];rfl
end Go.Rh

set_option maxHeartbeats 1000000
namespace Go.Rh
theorem bld_pack {x:Pk} {qo qd:Option (Nat×Nat)} {ko kd kp o c kb nb:Nat} :zgh (zaB [(9,Value.int .i64 0),(1,.bool false),(1,.int .i64 0),(2,.slice none 0 0),(1,.pointer none),(1,.slice none 0 0)]) [(0,13,pkV x qo ko qd kd),(13,1,pv kp 0),(14,1,zQ (some (o,c)) kb nb)]=some (qS x qo ko qd kd kp (some (o,c)) kb nb):=by kernel_rfl
theorem ParseC3 {P:Program} {q:Option (Nat×Nat)} {L l:List Int} {e:Int} {x:Pk} (hp:qU l=(e,x)) (h:Env P "roundhouse/wire.Parse" [zQ q 0 l.length] [zG q (u8 L) false] (fun v h'=>v=zd1 l 1 2∧h'=zG q (u8 L) false::zdZ (qU l).2)):
  Env P "roundhouse/wire.Parse" [zQ q 0 l.length] [zG q (u8 L) false] (fun v h'=>v= .tuple #[pkV x (zD x.op) 1 (zD x.da) 2,iv e]∧h'= [zG q (u8 L) false,zG (zD x.op) (u8 x.op) true,zG (zD x.da) (u8 x.da) true]):=by
 simpa only [zd1,zdZ,hp] using h
theorem take_e {p:q9} {nr:zds} {b:List Int} {e:Int} {x:Pk} (hp:qU b=(e,x)) (h: ¬e=0):zaU p nr b=(zeB e,nr):=by unfold zaU;rw [hp];exact if_pos h
theorem take_pi {p:q9} {nr:zds} {b:List Int} {x:Pk} (hp:qU b=(0,x)) (h: ¬x.pi=0):zaU p nr b=(zeB 6,nr):=by unfold zaU;rw [hp,if_neg (by simp)];exact if_pos h
theorem take_li {p:q9} {nr:zds} {b:List Int} {x:Pk} (hp:qU b=(0,x)) (h:x.pi=0) (h2:x.li < 2):zaU p nr b=(zeB 7,nr):=by unfold zaU;rw [hp,if_neg (by simp),if_neg (by simpa using h)];exact if_pos h2
theorem take_go {p:q9} {nr:zds} {b m:List Int} {x:Pk} (hp:qU b=(0,x)) (h:x.pi=0) (h2: ¬x.li < 2) (hm:ageL b x.ba=m):zaU p nr b=go9S p nr x m:=by subst hm;unfold zaU;rw [hp,if_neg (by simp),if_neg (by simpa using h)];exact if_neg h2
theorem go_f3 {p:q9} {nr:zds} {x:Pk} {m:List Int} {k:Nat} (h:x.k=3) (h2:x.t=p 1) (h3: ¬fauE p x) (h4:zd0 (qA p) (fauF p x)=(k:Int)):go9S p nr x m=(⟨0,(k:Int),false,fauL p m k⟩,nr):=by unfold go9S;rw [if_pos h,if_neg (fun q=>q h2),if_neg h3,h4,if_neg om];rfl
theorem go_i1 {p:q9} {nr:zds} {x:Pk} {m:List Int} (h: ¬x.k=3) (h2:x.t=p 1∧x.tp=p 2) (h4:(inP p x).1 < 0):go9S p nr x m=(zeB 9,nr):=by unfold go9S;rw [if_neg h,if_pos h2,if_pos h4]
theorem go_i2 {p:q9} {nr:zds} {x:Pk} {m:List Int} {k:Nat} (h: ¬x.k=3) (h2:x.t=p 1∧x.tp=p 2) (h4:(inP p x).1=(k:Int)):go9S p nr x m=(⟨0,(k:Int),(inP p x).2,inL p nr x m k⟩,nr):=by unfold go9S;rw [if_neg h,if_pos h2,h4,if_neg om];rfl
theorem go_n {p:q9} {nr:zds} {x:Pk} {m:List Int} (h: ¬x.k=3) (h2: ¬(x.t=p 1∧x.tp=p 2)) (h4:(za4 (zdo p x.fr x.fp) 0 64).2=false):go9S p nr x m=(zeB 8,nr):=by unfold go9S;rw [if_neg h,if_neg h2,if_neg (by rw [h4];simp)]
theorem go_o {p:q9} {nr:zds} {x:Pk} {m:List Int} {s:Nat} (h: ¬x.k=3) (h2: ¬(x.t=p 1∧x.tp=p 2)) (h4:(za4 (zdo p x.fr x.fp) 0 64).2=true) (hs:(za4 (zdo p x.fr x.fp) 0 64).1=(s:Int)):go9S p nr x m=(⟨0,-1,false,outL p x m (s:Nat)⟩,outN nr x s):=by unfold go9S;rw [if_neg h,if_neg h2,if_pos h4,hs];rfl
theorem outL_length {p:q9} {x:Pk} {m:List Int} {s:Int} :(outL p x m s).length=m.length:=by
 have hn: ∀(l:List Int) ba so a b,(natL l ba so a b).length=l.length:=fun l ba so a b=>by unfold natL;simp only;rw [zad,qW,qW,zX,zX,zX]
 have hw: ∀(l:List Int) ba a n v,(zcj l ba a n v).length=l.length:=fun l ba a n v=>by unfold zcj;rw [zad,qW,zX]
 unfold outL;split
 ·rw [hw,hn]
 ·split
  ·rw [hn]
  ·rw [hw,hn]
theorem inL_length {p:q9} {nr:zds} {x:Pk} {m:List Int} {s:Nat} :(inL p nr x m s).length=m.length:=by
 have hn: ∀(l:List Int) ba so a b,(natL l ba so a b).length=l.length:=fun l ba so a b=>by unfold natL;simp only;rw [zad,qW,qW,zX,zX,zX]
 have hw: ∀(l:List Int) ba a n v,(zcj l ba a n v).length=l.length:=fun l ba a n v=>by unfold zcj;rw [zad,qW,zX]
 unfold inL;split
 ·rw [hn]
 ·split
  ·rw [hw,hn]
  ·rw [hn]
theorem oc_some {e s:Int} {c:Bool} {m:List Int} {n k:Nat} (h:m.length=n) (h0:0 < n):ocV ⟨e,s,c,m⟩ k= .agg #[iv e,iv s,bv c,zQ (some (0,n)) k n]:=by
 subst h;simp only [ocV,ocL];rw [zdg h0]
theorem ob_some {m:List Int} {n:Nat} (h:m.length=n) (h0:0 < n):zG (zD m) (u8 m) true=zG (some (0,n)) (u8 m) true:=by
 subst h;rw [zdg h0]
theorem pk_op {l:List Int} (h:24≤l.length):(zeR l).op.length+24≤l.length:=by
 unfold zeR;split
 ·simpa using h
 split
 ·simpa using h
 ·simp only [List.length_take,List.length_drop];omega
theorem FindC2 {P:Program} {p:q9} {a b:Int} {s:Nat} (hs:(za4 (zdo p a b) 0 64).1=(s:Int)) (h:Env P "roundhouse/pool.Find" [zau p,.int .i64 a,.int .i64 b] [] (Ans (.tuple #[.int .i64 (za4 (zdo p a b) 0 64).1,.bool (za4 (zdo p a b) 0 64).2]) [])):Env P "roundhouse/pool.Find" [zau p,.int .i64 a,.int .i64 b] [] (Ans (.tuple #[iv (s:Int),bv (za4 (zdo p a b) 0 64).2]) []):=by
 rwa [hs] at h
end Go.Rh

namespace Go.Rh
end Go.Rh

set_option maxHeartbeats 1000000
namespace Go.Rh
theorem within9C {P:Program} [PrC P] (x n:Int) (hn:n≠0):
    Env P "roundhouse/roundhouselaw9.within" [iv x,iv n] ([]) (Ans (.int .i64 (zC x n)) ([])):=by
 refine Env.by PrC.law9_within ?_
 unfold zgl
 show GC _ 0 _ _ ⟨reg [(0,iv x),(1,iv n)],[]⟩
 refine zJ (zN (o_d 1 [(4,iv 0)] (zE (zA (zJ (zN (o_d 2 [(7,iv n),(6,iv x)] (o_s (by exact run_rem rfl rfl om) ?_))))))))
 refine o_d 1 [(5,iv (x.tmod n))] (zE (zA (zJ (zJ (zN (o_d 2 [(10,bv (decide (x.tmod n < 0))),(9,iv (x.tmod n))] (zE (zA (qK (t:=decide (x.tmod n < 0)) rfl (fun h1=>?_) (fun h1=>?_))))))))))
 ·skip
  have h1':x.tmod n < 0:=of_decide_eq_true h1
  refine zN (o_d 4 [(5,iv (i64.wrap (x.tmod n+n))),(13,iv (i64.wrap (x.tmod n+n))),(12,iv n),(11,iv (x.tmod n))] (zE (zA (zJ (zN (o_d 2 [(4,iv (i64.wrap (x.tmod n+n))),(14,iv (i64.wrap (x.tmod n+n)))] (zE (zA (qV ?_)))))))))
  have E0_:zC x n=(i64.wrap (x.tmod n+n)):=by
   unfold zC;simp only [h1',if_true,if_false]
  exact qC [iv (i64.wrap (x.tmod n+n))] (zU rfl rfl) rfl (by rw [E0_];rfl) rfl rfl
 have h1': ¬(x.tmod n < 0):=of_decide_eq_false h1
 refine qM (zA (zJ (zN (o_d 2 [(4,iv (x.tmod n)),(14,iv (x.tmod n))] (zE (zA (qV ?_)))))))
 have E0_:zC x n=(x.tmod n):=by
  unfold zC;simp only [h1',if_true,if_false]
 exact qC [iv (x.tmod n)] (zU rfl rfl) rfl (by rw [E0_];rfl) rfl rfl
theorem upC {P:Program} [PrC P] (x:q9):
    Env P "roundhouse/roundhouselaw9.up" [zau x] ([]) (fun v h'=> ∃m,v=pv 0 0∧h'= [cw (zL x true nr0 (wt 1 m)),slB zI (ii (qA x)) (some m)]):=by
 refine Env.by4 PrC.law9_up ?_
 unfold c_law9_up
 show GC _ 0 _ _ ⟨reg [(0,zau x)],[]⟩
 refine zJ (zN (o_b 2 [(2,.pointer none),(1,pv 0 0)] [cw (pl x)] (zE (zA (zJ (zN (qT (zcT [] [] [] (PNewC) rfl rfl trivial dC ?_))))))))
 rintro v1 h1' ⟨rfl,rfl⟩
 refine ⟨q8,pv 1 0,[cw (pl x)],[cw (zL qN false nr0 wx)],rfl,⟨rfl,trivial⟩,⟨(Option.some.inj (qE rfl)).symm,trivial⟩, ?_⟩
 refine o_d 1 [(3,pv 1 0)] (zE (zA (zJ (zJ (zN (o_d 2 [(6,bv true),(5,pv 1 0)] (zE (⟨⟨reg [(6,bv true),(3,pv 1 0),(1,pv 0 0)],[cw (pl x),cw (zL qN false nr0 wx),.gone]⟩,Wk.ren [0,1,2] rfl rfl dC ⟨rfl,rfl,rfl,trivial⟩ ⟨.inl (zW (zaq x)),.inl (qE rfl),.inr ⟨rfl,rfl⟩,trivial⟩, ?_⟩))))))))
 refine zcZ rfl (zN (o_d 1 [(7,pv 1 0)] (o_s (by refine zV (v:=zau x) rfl rfl ?_;exact zaK x) ?_)))
 refine qT (zcT [1,0] [cw (vJ 1),cr []] [pv 0 0,zau x] (PLoadC qN false nr0 none x) rfl (zM rfl (zM (qP (zbr x)) rfl)) ⟨⟨_,rfl,zam (.inl (zav rfl (fun q=>rfl)))⟩,⟨_,rfl,zaF⟩,trivial⟩ dC ?_)
 rintro v1 h1' ⟨rfl,m1,rfl⟩
 refine ⟨(zS zaE (zS z7 q8)),.tuple #[],[cw (pl x),cw (zL x true nr0 (wt 3 m1)),.gone],[slB zI (ii (qA x)) (some m1)],(by simp [zaI]),⟨rfl,zbe rfl,rfl,trivial⟩,⟨(Option.some.inj (qX (some m1) (fun _=>(zaf _ _)))).symm,trivial⟩, ?_⟩
 exact zE (zA (zJ (zN (o_d 2 [(2,pv 1 0),(10,pv 1 0)] (zE (zA (qV (⟨trivial,[pv 1 0],(zU rfl rfl),(zK rfl z5),⟨reg [],[cw (zL x true nr0 (wt 1 m1)),slB zI (ii (qA x)) (some m1)]⟩,[1,3],[pv 0 0],WkR.of (rs:= []) rfl rfl dC trivial ⟨.inl (qE rfl),.inl (qX (some m1) (fun _=>(zaf _ _))),trivial⟩,rfl,m1,rfl,rfl⟩))))))))
end Go.Rh

set_option maxHeartbeats 1000000
namespace Go.Rh
theorem zhV (b:List Int):(zbP b).length≤b.length+12:=by
 unfold zbP;split<;>simp<;>omega
abbrev xy (a:List Int):=[0,(a.getD 0 0),(((a.length:Nat) - 16:Int) / 256:Int),((a.length:Nat) - 16:Int)]
theorem summedC {P:Program} [PrC P] (q:Option (Nat×Nat)) (L l:List Int) (hr:RowOf q L l) (h24:24≤l.length) (hl:l.length≤100000):
    Env P "roundhouse/roundhouseref3.summed" (Wh q l) ((wy q L)) (fun v h'=> ∃m:Nat,v=sv 1 0 (zbP l).length ((zbP l).length+m)∧h'= [zG q (u8 L) false,cw (u8 (zbP l)++zah zB m)]):=by
 refine Env.by4 PrC.ref3_summed ?_
 unfold zgj
 show GC _ 1 _ _ ⟨reg (vc 0 q 0 l),(wy q L)⟩
 refine zJ (zN (o_d 1 [(2,.slice none 0 0)] (zE (zA (zJ (zN (o_d 1 (vc 5 q 0 l) (o_s (by exact qO rfl hr.nil) ?_))))))))
 refine o_s (by refine zR (v:= .int .i64 (i64.wrap ((l.length:Nat) - 16))) (congrArg wh (w64 om om)) ?_;kernel_rfl) ?_
 refine o_d 1 [(3,iv ((l.length:Nat) - 16))] (zE (zA (zJ (zN (o_d 1 (vc 8 q 0 l) (o_s (by exact qR (o':=qo q+0) rfl hr.nil rfl om om) ?_))))))
 refine o_s (by refine zV (v:= .int .u8 (l.getD 0 0 % 256)) rfl (zbd (n:=l.length) rfl rfl hr.nil om) ?_;exact zb4 hr om rfl) ?_
 refine o_d 1 [(11,iv ((l.length:Nat) - 16))] (o_s (by refine zR (v:= .int .i64 (((l.length:Nat) - 16:Int).fdiv 256)) (congrArg wh (zce dC)) ?_;kernel_rfl) ?_)
 refine o_b 5 [(4,sv 1 0 4 4),(16,sv 1 0 4 4),(15,.int .u8 (((l.length:Nat) - 16:Int) % 256)),(14,iv ((l.length:Nat) - 16)),(13,.int .u8 ((((l.length:Nat) - 16:Int) / 256:Int) % 256))] [zG q (u8 L) false,cw [.int .u8 0,.int .u8 (l.getD 0 0 % 256),.int .u8 ((((l.length:Nat) - 16:Int) / 256:Int) % 256),.int .u8 (((l.length:Nat) - 16:Int) % 256)]] (zE (zA (zJ (zJ (zN (o_d 1 (vc 17 q 0 l) (o_s (by exact qR (o':=qo q+0) rfl hr.nil rfl om om) ?_)))))))
 refine o_s (by refine zV (v:= .int .u8 (l.getD 0 0 % 256)) rfl (zbd (n:=l.length) rfl rfl hr.nil om) ?_;exact zb4 hr om rfl) ?_
 refine o_d 1 [(20,bv ((l.getD 0 0 % 256)!=3))] (zE (zA (qK (t:=(l.getD 0 0 % 256)!=3) rfl (fun h1=>?_) (fun h1=>?_))))
 ·skip
  have h1':l.getD 0 0 % 256≠3:=zfN h1
  refine zN (o_b 2 [(22,zQ q 0 l.length),(21,sv 2 0 0 (0+0))] [zG q (u8 L) false,cw [.int .u8 0,.int .u8 (l.getD 0 0 % 256),.int .u8 ((((l.length:Nat) - 16:Int) / 256:Int) % 256),.int .u8 (((l.length:Nat) - 16:Int) % 256)],cw (u8 ([]:List Int)++zah zB 0)] ?_)
  obtain ⟨qz2,lz2,hlz2,hn2z,hq2z,hr2z,hs2z⟩:=zcr (k:=0) hr (lo:=(some (iv 4))) (hi:=(some (iv 12))) (mx:=none) 4 12 om (.inr rfl) (.inr rfl) (.inl rfl)
  have hs2y:=hs2z.trans (rfl:q.isSome=q.isSome)
  refine o_s (by exact zaW rfl hq2z) ?_
  obtain ⟨m3,hm3⟩: ∃z9,([]:List Int)++lz2=z9:=⟨_,rfl⟩
  have hm3l:m3.length=0+lz2.length:=by rw [←hm3,List.length_append]<;>exact lA
  refine zeu (k:=2) (n:=0) (o:=some 0) (q:=lz2.length) (cs:=u8 ([]:List Int)) (xs:=u8 lz2) (cs2:=u8 m3) (zl:=zB) rfl rfl rfl (fun m q=>by cases q;rfl) (fun q=>by cases q) (by rw [qL]<;>exact lA) rfl (zcR _ _ _ hr2z.nil) (zcO rfl hs2y hr2z) (by rw [qL]<;>exact lA) om om (by rw [zcz,hm3]) (fun c5 e4=>?_) (fun c5=>?_)
  ·exact absurd (Option.some.inj e4) om
  refine o_d 1 [(25,sv 1 0 4 4)] ?_
  obtain ⟨m6,hm6⟩: ∃z9,m3++((xy l):List Int)=z9:=⟨_,rfl⟩
  have hm6l:m6.length=0+lz2.length+4:=by rw [←hm6,List.length_append]<;>exact lA
  refine zeu (k:=3) (n:=0+lz2.length) (o:=some c5) (q:=4) (cs:=u8 m3) (xs:=u8 ((xy l):List Int)) (cs2:=u8 m6) (zl:=zB) rfl rfl rfl (fun m q=>by cases q;rfl) (fun q=>by cases q) (by rw [qL]<;>exact lA) rfl rfl (zbI rfl rfl (Nat.le_of_ble_eq_true rfl)) (by rw [qL]<;>exact lA) om om (by rw [zcz,hm6]) (fun c8 e7=>?_) (fun c8=>?_)
  ·skip
   refine o_d 1 [(4,sv 3 0 (0+lz2.length+4) (0+lz2.length+4+c8))] (zE (zT [(4,sv 3 0 (0+lz2.length+4) (0+lz2.length+4+c8)),(0,zQ q 0 l.length)] (zJ (zN (o_d 2 [(28,zQ q 0 l.length),(27,sv 3 0 (0+lz2.length+4) (0+lz2.length+4+c8))] ?_)))))
   obtain ⟨qz9,lz9,hlz9,hn9z,hq9z,hr9z,hs9z⟩:=zcr (k:=0) hr (lo:=(some (iv 16))) (hi:=none) (mx:=none) 16 l.length om (.inr rfl) (.inl ⟨rfl,rfl,rfl⟩) (.inl rfl)
   have hs9y:=hs9z.trans (rfl:q.isSome=q.isSome)
   refine o_s (by exact zaW rfl hq9z) ?_
   obtain ⟨m10,hm10⟩: ∃z9,m6++lz9=z9:=⟨_,rfl⟩
   have hm10l:m10.length=0+lz2.length+4+lz9.length:=by rw [←hm10,List.length_append]<;>exact lA
   refine zeu (k:=3) (n:=0+lz2.length+4) (o:=some c8) (q:=lz9.length) (cs:=u8 m6) (xs:=u8 lz9) (cs2:=u8 m10) (zl:=zB) rfl rfl rfl (fun m q=>by cases q;rfl) (fun q=>by cases q) (by rw [qL]<;>exact lA) rfl (zcR _ _ _ hr9z.nil) (zcO rfl hs9y hr9z) (by rw [qL]<;>exact lA) om om (by rw [zcz,hm10]) (fun c12 e11=>?_) (fun c12=>?_)
   ·skip
    refine o_d 1 [(2,sv 3 0 (0+lz2.length+4+lz9.length) (0+lz2.length+4+lz9.length+c12))] (zE (zA (qV ?_)))
    have he:zbP l=m10:=by
     unfold zbP;rw [if_neg om]
     rw [←hm10,←hm6,←hm3,hlz2,hlz9,List.take_of_length_le (l:=l.drop 16) (by simp)];rfl
    exact ⟨trivial,[sv 3 0 (0+lz2.length+4+lz9.length) (0+lz2.length+4+lz9.length+c12)],(zU rfl rfl),(zK rfl z5),⟨reg [],[zG q (u8 L) false,cw (u8 m10++zah zB c12)]⟩,[0,3],[sv 1 0 (0+lz2.length+4+lz9.length) (0+lz2.length+4+lz9.length+c12)],WkR.of (rs:= []) rfl rfl dC trivial ⟨.inl (zF (zH _)),.inl (zW (zbj m10 c12)),trivial⟩,rfl,c12,(by rw [he,hm10l];first | rfl | simp only [hm3l,hm6l,hm10l,List.length_nil];rfl),(by rw [he])⟩
   refine o_d 1 [(2,sv 4 0 (0+lz2.length+4+lz9.length) (0+lz2.length+4+lz9.length+c12))] (zE (zA (qV ?_)))
   have he:zbP l=m10:=by
    unfold zbP;rw [if_neg om]
    rw [←hm10,←hm6,←hm3,hlz2,hlz9,List.take_of_length_le (l:=l.drop 16) (by simp)];rfl
   exact ⟨trivial,[sv 4 0 (0+lz2.length+4+lz9.length) (0+lz2.length+4+lz9.length+c12)],(zU rfl rfl),(zK rfl z5),⟨reg [],[zG q (u8 L) false,cw (u8 m10++zah zB c12)]⟩,[0,4],[sv 1 0 (0+lz2.length+4+lz9.length) (0+lz2.length+4+lz9.length+c12)],WkR.of (rs:= []) rfl rfl dC trivial ⟨.inl (zF (zH _)),.inl (zW (zbj m10 c12)),trivial⟩,rfl,c12,(by rw [he,hm10l];first | rfl | simp only [hm3l,hm6l,hm10l,List.length_nil];rfl),(by rw [he])⟩
  refine o_d 1 [(4,sv 4 0 (0+lz2.length+4) (0+lz2.length+4+c8))] (zE (zT [(4,sv 4 0 (0+lz2.length+4) (0+lz2.length+4+c8)),(0,zQ q 0 l.length)] (zJ (zN (o_d 2 [(28,zQ q 0 l.length),(27,sv 4 0 (0+lz2.length+4) (0+lz2.length+4+c8))] ?_)))))
  obtain ⟨qz13,lz13,hlz13,hn13z,hq13z,hr13z,hs13z⟩:=zcr (k:=0) hr (lo:=(some (iv 16))) (hi:=none) (mx:=none) 16 l.length om (.inr rfl) (.inl ⟨rfl,rfl,rfl⟩) (.inl rfl)
  have hs13y:=hs13z.trans (rfl:q.isSome=q.isSome)
  refine o_s (by exact zaW rfl hq13z) ?_
  obtain ⟨m14,hm14⟩: ∃z9,m6++lz13=z9:=⟨_,rfl⟩
  have hm14l:m14.length=0+lz2.length+4+lz13.length:=by rw [←hm14,List.length_append]<;>exact lA
  refine zeu (k:=4) (n:=0+lz2.length+4) (o:=some c8) (q:=lz13.length) (cs:=u8 m6) (xs:=u8 lz13) (cs2:=u8 m14) (zl:=zB) rfl rfl rfl (fun m q=>by cases q;rfl) (fun q=>by cases q) (by rw [qL]<;>exact lA) rfl (zcR _ _ _ hr13z.nil) (zcO rfl hs13y hr13z) (by rw [qL]<;>exact lA) om om (by rw [zcz,hm14]) (fun c16 e15=>?_) (fun c16=>?_)
  ·skip
   refine o_d 1 [(2,sv 4 0 (0+lz2.length+4+lz13.length) (0+lz2.length+4+lz13.length+c16))] (zE (zA (qV ?_)))
   have he:zbP l=m14:=by
    unfold zbP;rw [if_neg om]
    rw [←hm14,←hm6,←hm3,hlz2,hlz13,List.take_of_length_le (l:=l.drop 16) (by simp)];rfl
   exact ⟨trivial,[sv 4 0 (0+lz2.length+4+lz13.length) (0+lz2.length+4+lz13.length+c16)],(zU rfl rfl),(zK rfl z5),⟨reg [],[zG q (u8 L) false,cw (u8 m14++zah zB c16)]⟩,[0,4],[sv 1 0 (0+lz2.length+4+lz13.length) (0+lz2.length+4+lz13.length+c16)],WkR.of (rs:= []) rfl rfl dC trivial ⟨.inl (zF (zH _)),.inl (zW (zbj m14 c16)),trivial⟩,rfl,c16,(by rw [he,hm14l];first | rfl | simp only [hm3l,hm6l,hm14l,List.length_nil];rfl),(by rw [he])⟩
  refine o_d 1 [(2,sv 5 0 (0+lz2.length+4+lz13.length) (0+lz2.length+4+lz13.length+c16))] (zE (zA (qV ?_)))
  have he:zbP l=m14:=by
   unfold zbP;rw [if_neg om]
   rw [←hm14,←hm6,←hm3,hlz2,hlz13,List.take_of_length_le (l:=l.drop 16) (by simp)];rfl
  exact ⟨trivial,[sv 5 0 (0+lz2.length+4+lz13.length) (0+lz2.length+4+lz13.length+c16)],(zU rfl rfl),(zK rfl z5),⟨reg [],[zG q (u8 L) false,cw (u8 m14++zah zB c16)]⟩,[0,5],[sv 1 0 (0+lz2.length+4+lz13.length) (0+lz2.length+4+lz13.length+c16)],WkR.of (rs:= []) rfl rfl dC trivial ⟨.inl (zF (zH _)),.inl (zW (zbj m14 c16)),trivial⟩,rfl,c16,(by rw [he,hm14l];first | rfl | simp only [hm3l,hm6l,hm14l,List.length_nil];rfl),(by rw [he])⟩
 have h1': ¬(l.getD 0 0 % 256≠3):=zfO h1
 refine qM (zA (zJ (zN (o_d 2 [(28,zQ q 0 l.length),(27,sv 1 0 4 4)] ?_))))
 obtain ⟨qz17,lz17,hlz17,hn17z,hq17z,hr17z,hs17z⟩:=zcr (k:=0) hr (lo:=(some (iv 16))) (hi:=none) (mx:=none) 16 l.length om (.inr rfl) (.inl ⟨rfl,rfl,rfl⟩) (.inl rfl)
 have hs17y:=hs17z.trans (rfl:q.isSome=q.isSome)
 refine o_s (by exact zaW rfl hq17z) ?_
 obtain ⟨m18,hm18⟩: ∃z9,((xy l):List Int)++lz17=z9:=⟨_,rfl⟩
 have hm18l:m18.length=4+lz17.length:=by rw [←hm18,List.length_append]<;>exact lA
 refine zeu (k:=1) (n:=4) (o:=some 0) (q:=lz17.length) (cs:=u8 ((xy l):List Int)) (xs:=u8 lz17) (cs2:=u8 m18) (zl:=zB) rfl rfl rfl (fun m q=>by cases q;rfl) (fun q=>by cases q) (by rw [qL]<;>exact lA) rfl (zcR _ _ _ hr17z.nil) (zcO rfl hs17y hr17z) (by rw [qL]<;>exact lA) om om (by rw [zcz,hm18]) (fun c20 e19=>?_) (fun c20=>?_)
 ·exact absurd (Option.some.inj e19) om
 refine o_d 1 [(2,sv 2 0 (4+lz17.length) (4+lz17.length+c20))] (zE (zT [(2,sv 2 0 (4+lz17.length) (4+lz17.length+c20))] (qV ?_)))
 have he:zbP l=m18:=by
  unfold zbP;rw [if_pos om]
  rw [←hm18,hlz17,List.take_of_length_le (by simp)]
 exact ⟨trivial,[sv 2 0 (4+lz17.length) (4+lz17.length+c20)],(zU rfl rfl),(zK rfl z5),⟨reg [],[zG q (u8 L) false,cw (u8 m18++zah zB c20)]⟩,[0,2],[sv 1 0 (4+lz17.length) (4+lz17.length+c20)],WkR.of (rs:= []) rfl rfl dC trivial ⟨.inl (zF (zH _)),.inl (zW (zbj m18 c20)),trivial⟩,rfl,c20,(by rw [he,hm18l];first | rfl | simp only [hm18l,List.length_nil];rfl),(by rw [he])⟩
end Go.Rh

set_option maxHeartbeats 1000000
namespace Go.Rh
def b4 (n:Int):List Int:= [n / 16777216,n / 65536,n / 256,n]
def stL (v e:Int):List Int:= [1,1,8,10]++b4 v++b4 e
theorem stL_length (v e:Int):(stL v e).length=12:=rfl
theorem row_st (v e:Int) (m:Nat):RowOf (some (0,12+m)) (stL v e++List.replicate m 0) (stL v e):=zcA (l:=stL v e) (n:=12) (r:=m) rfl rfl
abbrev vH (a:Int):=([.int .u8 (a / 16777216 % 256),.int .u8 (a / 65536 % 256),.int .u8 (a / 256 % 256),.int .u8 (a % 256)]:List Value)
theorem bytes4C {P:Program} [PrC P] (n:Int) (hvn:0≤n∧n < 4294967296):
    Env P "roundhouse/roundhouseref4.bytes" [.int .u32 n] ([]) (fun v h'=>v=sv 0 0 4 4∧h'= [cw (vH n)]):=by
 refine Env.by4 PrC.ref4_bytes ?_
 unfold zhf
 show GC _ 0 _ _ ⟨reg [(0,.int .u32 n)],[]⟩
 refine zJ (zN (o_d 1 [(2,.slice none 0 0)] (zE (zA (zJ (zN (o_d 1 [(3,.int .u32 n)] (o_s (by refine zR (v:= .int .u32 (n.fdiv 16777216)) (congrArg vB (zce dC)) ?_;kernel_rfl) ?_))))))))
 refine o_d 2 [(6,.int .u32 n),(5,.int .u8 ((n / 16777216) % 256))] (o_s (by refine zR (v:= .int .u32 (n.fdiv 65536)) (congrArg vB (zce dC)) ?_;kernel_rfl) ?_)
 refine o_d 2 [(9,.int .u32 n),(8,.int .u8 ((n / 65536) % 256))] (o_s (by refine zR (v:= .int .u32 (n.fdiv 256)) (congrArg vB (zce dC)) ?_;kernel_rfl) ?_)
 exact o_b 5 [(2,sv 0 0 4 4),(14,sv 0 0 4 4),(13,.int .u8 (n % 256)),(12,.int .u32 n),(11,.int .u8 ((n / 256) % 256))] [cw [.int .u8 ((n / 16777216) % 256),.int .u8 ((n / 65536) % 256),.int .u8 ((n / 256) % 256),.int .u8 (n % 256)]] (zE (zA (qV (⟨trivial,[sv 0 0 4 4],(zU rfl rfl),(zK rfl z5),⟨reg [],[cw [.int .u8 ((n / 16777216) % 256),.int .u8 ((n / 65536) % 256),.int .u8 ((n / 256) % 256),.int .u8 (n % 256)]]⟩,[0],[sv 0 0 4 4],WkR.of (rs:= []) rfl rfl dC trivial ⟨.inl rfl,trivial⟩,rfl,rfl,rfl⟩))))
theorem make4C {P:Program} [PrC P] (v e:Int) (hvv:0≤v∧v < 4294967296) (hve:0≤e∧e < 4294967296):
    Env P "roundhouse/roundhouseref4.Make" [.int .u32 v,.int .u32 e] ([]) (fun w h'=> ∃m:Nat,w=sv 0 0 12 (12+m)∧h'= [zG (some (0,12+m)) (u8 (stL v e++List.replicate m 0)) true]):=by
 refine Env.by4 PrC.ref4_Make ?_
 unfold ziB
 show GC _ 0 _ _ ⟨reg [(0,.int .u32 v),(1,.int .u32 e)],[]⟩
 refine zJ (zN (o_d 1 [(4,.slice none 0 0)] (zE (zA (zJ (zN (o_b 2 [(6,.int .u32 v),(5,sv 0 0 4 4)] [cw [.int .u8 1,.int .u8 1,.int .u8 8,.int .u8 10]] (qT (zdy [] [] [.int .u32 v] (bytes4C v om) rfl rfl trivial dC ?_)))))))))
 rintro v1 h1' ⟨rfl,rfl⟩
 refine ⟨sv 1 0 4 4,[cw [.int .u8 1,.int .u8 1,.int .u8 8,.int .u8 10]],[cw (vH v)],rfl,⟨rfl,trivial⟩,⟨rfl,trivial⟩, ?_⟩
 obtain ⟨m1,hm1⟩: ∃z9,([1,1,8,10]:List Int)++([(v / 16777216),(v / 65536),(v / 256),(v)]:List Int)=z9:=⟨_,rfl⟩
 have hm1l:m1.length=4+4:=by rw [←hm1,List.length_append]<;>exact lA
 refine zeu (k:=0) (n:=4) (o:=some 0) (q:=4) (cs:=u8 ([1,1,8,10]:List Int)) (xs:=u8 ([(v / 16777216),(v / 65536),(v / 256),(v)]:List Int)) (cs2:=u8 m1) (zl:=zB) rfl rfl rfl (fun m q=>by cases q;rfl) (fun q=>by cases q) (by rw [qL]<;>exact lA) rfl rfl (zbI rfl rfl (Nat.le_of_ble_eq_true rfl)) (by rw [qL]<;>exact lA) om om (by rw [zcz,hm1]) (fun c3 e2=>?_) (fun c3=>?_)
 ·exact absurd (Option.some.inj e2) om
 refine o_d 1 [(9,.int .u32 e)] (qT (zdy [] [] [.int .u32 e] (bytes4C e om) rfl rfl trivial dC ?_))
 rintro v1 h1' ⟨rfl,rfl⟩
 refine ⟨sv 3 0 4 4,[cw [.int .u8 1,.int .u8 1,.int .u8 8,.int .u8 10],cw (vH v),cw (u8 m1++zah zB c3)],[cw (vH e)],rfl,⟨rfl,rfl,rfl,trivial⟩,⟨rfl,trivial⟩, ?_⟩
 obtain ⟨m4,hm4⟩: ∃z9,m1++([(e / 16777216),(e / 65536),(e / 256),(e)]:List Int)=z9:=⟨_,rfl⟩
 have hm4l:m4.length=4+4+4:=by rw [←hm4,List.length_append]<;>exact lA
 refine zeu (k:=2) (n:=4+4) (o:=some c3) (q:=4) (cs:=u8 m1) (xs:=u8 ([(e / 16777216),(e / 65536),(e / 256),(e)]:List Int)) (cs2:=u8 m4) (zl:=zB) rfl rfl rfl (fun m q=>by cases q;rfl) (fun q=>by cases q) (by rw [qL]<;>exact lA) rfl rfl (zbI rfl rfl (Nat.le_of_ble_eq_true rfl)) (by rw [qL]<;>exact lA) om om (by rw [zcz,hm4]) (fun c6 e5=>?_) (fun c6=>?_)
 ·skip
  refine o_d 1 [(4,sv 2 0 (4+4+4) (4+4+4+c6))] (zE (zA (qV ?_)))
  have he:m4=stL v e:=by rw [←hm4,←hm1];rfl
  exact ⟨trivial,[sv 2 0 (4+4+4) (4+4+4+c6)],(zU rfl rfl),(zK rfl z5),⟨reg [],[cw (u8 m4++zah zB c6)]⟩,[2],[sv 0 0 (4+4+4) (4+4+4+c6)],WkR.of (rs:= []) rfl rfl dC trivial ⟨.inl (zW (zbj m4 c6)),trivial⟩,rfl,c6,rfl,(by rw [he];exact congrArg (fun x=> [x]) (zcM _ _))⟩
 refine o_d 1 [(4,sv 4 0 (4+4+4) (4+4+4+c6))] (zE (zA (qV ?_)))
 have he:m4=stL v e:=by rw [←hm4,←hm1];rfl
 exact ⟨trivial,[sv 4 0 (4+4+4) (4+4+4+c6)],(zU rfl rfl),(zK rfl z5),⟨reg [],[cw (u8 m4++zah zB c6)]⟩,[4],[sv 0 0 (4+4+4) (4+4+4+c6)],WkR.of (rs:= []) rfl rfl dC trivial ⟨.inl (zW (zbj m4 c6)),trivial⟩,rfl,c6,rfl,(by rw [he];exact congrArg (fun x=> [x]) (zcM _ _))⟩
end Go.Rh

set_option maxHeartbeats 1000000
namespace Go.Rh
end Go.Rh

set_option maxHeartbeats 1000000
namespace Go.Rh
theorem place22C {P:Program} {k:Int} (hk: ¬k=3) (h:Env P "roundhouse/roundhouseref3.place" [iv k] [] (Ans (iv (zaj k)) [])):Env P "roundhouse/roundhouseref3.place" [iv k] [] (Ans (iv 22) []):=by rwa [zaj,if_neg hk] at h
theorem zaP {ρ:Nat→Nat} {l:List Int} {r c:Nat} {rw:Bool} :Blk.seen (zbo ρ (zG (some (0,c)) (u8 (l++List.replicate r 0)) rw)) (.cells (u8 l++zah zB r) true):=by
 rw [zcM,zc9 (zH _)];exact ⟨rfl,fun _=>rfl⟩
theorem conv_sv {ρ:Nat→Nat} {k n r N:Nat} (hk:ρ k=k) (hn:n=N) (hr:r=0):zaI ρ (zQ (some (0,N)) k N)=sv k 0 n (n+r):=by
 subst hn;subst hr;rw [qI hk];rfl
theorem zjn {ρ:Nat→Nat} {m:List Int} {r N:Nat} (hr:r=0):some (Blk.cells (u8 m++zah zB r) true)=some (zbo ρ (zG (some (0,N)) (u8 m) true)):=by
 subst hr;rw [zc9 (zH _),zgE];simp [u8,zG]
abbrev xF a (b:Option (Nat×Nat)) (c:Option (Nat×Nat)):=(pkL a b 0 c 1)
theorem Build2C {P:Program} [PrC P] (qp qd:Option (Nat×Nat)) (Lo Ld:List Int) (x:Pk) (hro:RowOf qp Lo x.op) (hrd:RowOf qd Ld x.da) (B:BOk x) (hk:x.k=2):
    Env P "roundhouse/roundhouseref3.Build" [pkV x qp 0 qd 1] ([zG qp (u8 Lo) false,zG qd (u8 Ld) false]) (fun v h'=>v= .tuple #[zQ (some (0,(bld x).length)) 2 (bld x).length,iv 0]∧h'= [zG qp (u8 Lo) false,zG qd (u8 Ld) false,zG (some (0,(bld x).length)) (u8 (bld x)) true]):=by
 refine Env.by4 PrC.ref3_Build ?_
 unfold ze3
 show GC _ 2 _ _ ⟨reg [(0,pkV x qp 0 qd 1)],[zG qp (u8 Lo) false,zG qd (u8 Ld) false]⟩
 have b1:=B.li
 have b2:=B.pi
 have b3:=B.fr
 have b4:=B.t
 have b5:=B.co
 have b6:=B.fp
 have b7:=B.fl
 have b8_:=B.la
 have b9:=B.op
 have b10:=B.da
 have b11:=B.n
 have hl40:x.da.length≤100000:=om
 refine zJ (zN (o_b 3 [(3,iv 0),(2,.slice none 0 0),(1,pv 2 0)] [zG qp (u8 Lo) false,zG qd (u8 Ld) false,cw (xF x qp qd)] (zE (zA (zJ (zJ (zN (o_d 1 [(10,pv 2 0)] (o_s (by refine zV (v:=iv x.k) rfl rfl ?_;exact rfl) ?_)))))))))
 refine o_d 2 [(13,bv (decide (x.k < 1))),(12,bv (decide (x.k < 1)))] (zbC (b:=decide (x.k < 1)) 13 rfl (fun q=>by rw [(by exact decide_eq_false om:(decide (x.k < 1))=false)] at q;cases q) (fun k1=>?_))
 refine o_d 1 [(14,pv 2 0)] (z8 rfl (o_s (by refine zV (v:=iv x.k) rfl rfl ?_;exact rfl) ?_))
 refine o_d 2 [(17,bv (decide (x.k > 3))),(16,bv (decide (x.k > 3)))] (zE (zA (qK (t:=decide (x.k > 3)) rfl (fun q=>by rw [(by exact decide_eq_false om:(decide (x.k > 3))=false)] at q;cases q) (fun _=>?_))))
 refine qM (zA (zJ (zbF [] (r_d 1 [(18,pv 2 0)] (r_s (by refine zV (v:=iv x.k) rfl rfl ?_;exact rfl) ?_)))))
 refine r_d 2 [(21,pv 2 0),(20,bv (x.k==1))] (r_s (by refine zV (v:=iv x.k) rfl rfl ?_;exact rfl) ?_)
 refine r_d 2 [(24,pv 2 0),(23,bv (x.k==2))] (r_s (by refine zV (v:=iv x.k) rfl rfl ?_;exact rfl) ?_)
 refine r_d 4 [(6,bv (x.k==3)),(5,bv (x.k==2)),(4,bv (x.k==1)),(26,bv (x.k==3))] (zbk (zT [(6,bv (x.k==3)),(5,bv (x.k==2)),(4,bv (x.k==1)),(1,pv 2 0)] (zJ (zJ (zN (o_d 1 [(27,pv 2 1)] (o_s (by refine zV (v:=iv x.li) rfl rfl ?_;exact rfl) ?_)))))))
 refine qT (zal (zdE x.li 255) rfl rfl rfl (o_d 1 [(30,bv (decide (x.li < 0) || decide (x.li > 255)))] (zbC (b:=decide (x.li < 0) || decide (x.li > 255)) 30 rfl (fun q=>by rw [(by simp;omega:(decide (x.li < 0) || decide (x.li > 255))=false)] at q;cases q) (fun k2=>?_))))
 refine o_d 1 [(31,pv 2 2)] (z8 rfl (o_s (by refine zV (v:=iv x.pi) rfl rfl ?_;exact rfl) ?_))
 refine z8 rfl (qT (zal (zdE x.pi 255) rfl rfl rfl (o_d 2 [(35,bv (decide (x.pi < 0) || decide (x.pi > 255))),(34,bv (decide (x.pi < 0) || decide (x.pi > 255)))] (zbC (b:=decide (x.pi < 0) || decide (x.pi > 255)) 35 rfl (fun q=>by rw [(by simp;omega:(decide (x.pi < 0) || decide (x.pi > 255))=false)] at q;cases q) (fun k3=>?_)))))
 refine o_d 2 [(37,bv (x.k==3)),(36,bv (x.k==3))] (zbC (b:=x.k==3) 37 rfl (fun q=>by rw [(by rw [hk];rfl:(x.k==3)=false)] at q;cases q) (fun k4=>?_))
 refine o_d 7 ((44,pv 2 3)::(43,bv false)::(xx 42 41 40 39 38)) (z8 rfl (o_s (by refine zV (v:=iv x.fr) rfl rfl ?_;exact rfl) ?_))
 refine z8 rfl (qT (zal (zdE x.fr 4294967295) rfl rfl rfl (o_d 2 [(48,bv (decide (x.fr < 0) || decide (x.fr > 4294967295))),(47,bv (decide (x.fr < 0) || decide (x.fr > 4294967295)))] (zbC (b:=decide (x.fr < 0) || decide (x.fr > 4294967295)) 48 rfl (fun q=>by rw [(by simp;omega:(decide (x.fr < 0) || decide (x.fr > 4294967295))=false)] at q;cases q) (fun k5=>?_)))))
 refine o_d 1 [(49,pv 2 4)] (z8 rfl (o_s (by refine zV (v:=iv x.t) rfl rfl ?_;exact rfl) ?_))
 refine z8 rfl (qT (zal (zdE x.t 4294967295) rfl rfl rfl (o_d 2 [(53,bv (decide (x.t < 0) || decide (x.t > 4294967295))),(52,bv (decide (x.t < 0) || decide (x.t > 4294967295)))] (zbC (b:=decide (x.t < 0) || decide (x.t > 4294967295)) 53 rfl (fun q=>by rw [(by simp;omega:(decide (x.t < 0) || decide (x.t > 4294967295))=false)] at q;cases q) (fun k6=>?_)))))
 refine o_d 3 [(56,bv (!(x.k==3))),(55,bv (!(x.k==3))),(54,bv (x.k==3))] (zbC (b:= !(x.k==3)) 56 rfl (fun k7=>?_) (fun q=>by rw [(by rw [(by rw [hk];rfl:(x.k==3)=false)];rfl:(!(x.k==3))=true)] at q;cases q))
 refine o_d 1 [(57,pv 2 5)] (z8 rfl (o_s (by refine zV (v:=iv x.fp) rfl rfl ?_;exact rfl) ?_))
 refine z8 rfl (qT (zal (zdE x.fp 65535) rfl rfl rfl (o_d 1 [(60,bv (decide (x.fp < 0) || decide (x.fp > 65535)))] (zbC (b:=decide (x.fp < 0) || decide (x.fp > 65535)) 60 rfl (fun q=>by rw [(by simp;omega:(decide (x.fp < 0) || decide (x.fp > 65535))=false)] at q;cases q) (fun k8=>?_)))))
 refine o_d 1 [(61,pv 2 6)] (z8 rfl (o_s (by refine zV (v:=iv x.tp) rfl rfl ?_;exact rfl) ?_))
 refine z8 rfl (qT (zal (zdE x.tp 65535) rfl rfl rfl (o_d 4 [(67,bv (decide (x.tp < 0) || decide (x.tp > 65535))),(66,bv (decide (x.tp < 0) || decide (x.tp > 65535))),(65,bv (decide (x.tp < 0) || decide (x.tp > 65535))),(64,bv (decide (x.tp < 0) || decide (x.tp > 65535)))] (zbC (b:=decide (x.tp < 0) || decide (x.tp > 65535)) 67 rfl (fun q=>by rw [(by simp;omega:(decide (x.tp < 0) || decide (x.tp > 65535))=false)] at q;cases q) (fun k9=>?_)))))
 refine o_d 2 [(69,bv (x.k==1)),(68,bv (x.k==1))] (zbC (b:=x.k==1) 69 rfl (fun q=>by rw [(by rw [hk];rfl:(x.k==1)=false)] at q;cases q) (fun k10=>?_))
 refine o_d 8 ((77,bv (x.k==2))::(76,bv (x.k==2))::(75,bv false)::(xx 74 73 72 71 70)) (zbC (b:=x.k==2) 77 rfl (fun k11=>?_) (fun q=>by rw [(by rw [hk];rfl:(x.k==2)=true)] at q;cases q))
 refine o_d 1 [(78,pv 2 8)] (z8 rfl (o_s (by refine zV (v:=iv x.la) rfl rfl ?_;exact rfl) ?_))
 refine z8 rfl (qT (zal (zdE x.la 65535) rfl rfl rfl (o_d 2 [(82,bv (decide (x.la < 0) || decide (x.la > 65535))),(81,bv (decide (x.la < 0) || decide (x.la > 65535)))] (zE (zT [(82,bv (decide (x.la < 0) || decide (x.la > 65535))),(6,bv (x.k==3)),(5,bv (x.k==2)),(4,bv (x.k==1)),(1,pv 2 0)] (qK (t:=decide (x.la < 0) || decide (x.la > 65535)) rfl (fun q=>by rw [(by simp;omega:(decide (x.la < 0) || decide (x.la > 65535))=false)] at q;cases q) (fun _=>?_)))))))
 refine qM (zA (zJ (zJ (zN (o_d 2 [(84,bv (x.k==1)),(83,bv (x.k==1))] (zbC (b:=x.k==1) 84 rfl (fun q=>by rw [(by rw [hk];rfl:(x.k==1)=false)] at q;cases q) (fun k12=>?_)))))))
 refine o_d 5 [(89,bv false),(88,undef),(87,undef),(86,undef),(85,undef)] (zE (zA (zba rfl (qM (zA (zJ (zN (o_d 1 [(90,pv 2 12)] (o_s (by refine zV (v:=zQ qd 1 x.da.length) rfl rfl ?_;exact rfl) ?_)))))))))
 refine o_s (by exact qO rfl hrd.nil) ?_
 refine o_s (by refine zR (v:= .int .i64 (i64.wrap (24+(x.da.length:Nat)))) (congrArg wh (w64 lA lA)) ?_;kernel_rfl) ?_
 refine o_d 1 [(7,iv (24+(x.da.length:Nat)))] (zE (zA (zJ (zJ (zN (o_d 1 [(94,bv (x.k==1))] (zE (zA (qK (t:=x.k==1) rfl (fun q=>by rw [(by rw [hk];rfl:(x.k==1)=false)] at q;cases q) (fun _=>?_))))))))))
 refine qM (zA (zJ (zJ (zN (o_d 1 [(100,bv (x.k==3))] (zE (zA (qK (t:=x.k==3) rfl (fun q=>by rw [(by rw [hk];rfl:(x.k==3)=false)] at q;cases q) (fun _=>?_)))))))))
 refine qM (zA (zJ (zJ (zN (o_d 2 [(106,bv (x.k==3)),(105,bv (x.k==3))] (zbC (b:=x.k==3) 106 rfl (fun q=>by rw [(by rw [hk];rfl:(x.k==3)=false)] at q;cases q) (fun k13=>?_)))))))
 refine o_d 9 ((115,bv (decide ((24+(x.da.length:Nat):Int) > 1500)))::(114,bv (decide ((24+(x.da.length:Nat):Int) > 1500)))::(113,iv (24+(x.da.length:Nat)))::(112,bv false)::(111,bv false)::(y9 110 109 108 107)) (zE (zT [(115,bv (decide ((24+(x.da.length:Nat):Int) > 1500))),(7,iv (24+(x.da.length:Nat))),(6,bv (x.k==3)),(5,bv (x.k==2)),(1,pv 2 0)] (qK (t:=decide ((24+(x.da.length:Nat):Int) > 1500)) rfl (fun q=>by rw [(by exact decide_eq_false om:(decide ((24+(x.da.length:Nat):Int) > 1500))=false)] at q;cases q) (fun _=>?_))))
 refine qM (zA (zJ (zN (o_d 1 [(116,iv (24+(x.da.length:Nat)))] (o_s (by exact run_mksR (a:=16) (n:=24+x.da.length) (r:=24+x.da.length - 16) rfl rfl om om) ?_)))))
 refine o_b 1 [(8,sv 3 0 16 (16+(24+x.da.length - 16)))] [zG qp (u8 Lo) false,zG qd (u8 Ld) false,cw (xF x qp qd),cw (u8 (List.replicate 16 0)++zah zB (24+x.da.length - 16))] (zE (zA (zJ (zeW [zG qp (u8 Lo) false,zG qd (u8 Ld) false,cw (xF x qp qd),cw (u8 (List.replicate 16 0)++zah zB (24+x.da.length - 16))] (by kernel_rfl) (d_n 4 4 4 [(121,pv 2 0),(120,sv 3 0 16 (16+(24+x.da.length - 16))),(119,sv 3 0 16 (16+(24+x.da.length - 16))),(118,sv 3 0 16 (16+(24+x.da.length - 16)))] [zG qp (u8 Lo) false,zG qd (u8 Ld) false,cw (xF x qp qd),cw (u8 (List.replicate 16 0)++zah zB (24+x.da.length - 16))] [] (by kernel_rfl) rfl rfl (d_s rfl rfl rfl (by kernel_rfl) (by refine zV (v:=iv x.k) rfl rfl ?_;exact rfl) ?_))))))
 refine d_n 2 7 4 [(124,pv 2 1),(123,.int .u8 (x.k % 256))] [zG qp (u8 Lo) false,zG qd (u8 Ld) false,cw (xF x qp qd),cw (u8 (List.replicate 16 0)++zah zB (24+x.da.length - 16))] [⟨4,[2],[],none⟩] (by kernel_rfl) rfl rfl (d_s rfl rfl rfl (by kernel_rfl) (by refine zV (v:=iv x.li) rfl rfl ?_;exact rfl) ?_)
 refine d_n 2 10 4 [(127,pv 2 2),(126,.int .u8 (x.li % 256))] [zG qp (u8 Lo) false,zG qd (u8 Ld) false,cw (xF x qp qd),cw (u8 (List.replicate 16 0)++zah zB (24+x.da.length - 16))] [⟨7,[2],[],none⟩,⟨4,[2],[],none⟩] (by kernel_rfl) rfl rfl (d_s rfl rfl rfl (by kernel_rfl) (by refine zV (v:=iv x.pi) rfl rfl ?_;exact rfl) ?_)
 refine d_n 2 13 4 [(130,pv 3 0),(129,.int .u8 (x.pi % 256))] [zG qp (u8 Lo) false,zG qd (u8 Ld) false,cw (xF x qp qd),cw (u8 (List.replicate 16 0)++zah zB (24+x.da.length - 16))] [⟨10,[2],[],none⟩,⟨7,[2],[],none⟩,⟨4,[2],[],none⟩] (by kernel_rfl) rfl rfl (d_s0 rfl rfl ⟨_,_,_,rfl⟩ (by kernel_rfl) (by refine zao (c':=u8 ((List.replicate 16 0).set 0 x.k)++zah zB (24+x.da.length - 16)) rfl rfl rfl ?_ ?_ ?_;exact rfl;exact (by simp only [List.length_append,qL];first | omega | (simp only [List.length_set,List.length_replicate,List.length_append];omega) | (simp;done) | (simp;omega));exact zeF (l:=List.replicate 16 0) (x:=x.k) lA rfl) ?_)
 refine d_n 1 15 4 [(131,pv 3 1)] [zG qp (u8 Lo) false,zG qd (u8 Ld) false,cw (xF x qp qd),cw (u8 ((List.replicate 16 0).set 0 x.k)++zah zB (24+x.da.length - 16))] [⟨13,[3],[3],none⟩,⟨10,[2],[],none⟩,⟨7,[2],[],none⟩,⟨4,[2],[],none⟩] (by kernel_rfl) rfl rfl (d_s0 rfl rfl ⟨_,_,_,rfl⟩ (by kernel_rfl) (by refine zao (c':=u8 (((List.replicate 16 0).set 0 x.k).set 1 x.li)++zah zB (24+x.da.length - 16)) rfl rfl rfl ?_ ?_ ?_;exact rfl;exact (by simp only [List.length_append,qL];first | omega | (simp only [List.length_set,List.length_replicate,List.length_append];omega) | (simp;done) | (simp;omega));exact zeF (l:=(List.replicate 16 0).set 0 x.k) (x:=x.li) lA rfl) ?_)
 refine d_n 1 17 4 [(132,pv 3 12)] [zG qp (u8 Lo) false,zG qd (u8 Ld) false,cw (xF x qp qd),cw (u8 (((List.replicate 16 0).set 0 x.k).set 1 x.li)++zah zB (24+x.da.length - 16))] [⟨15,[3],[3],none⟩,⟨13,[3],[3],none⟩,⟨10,[2],[],none⟩,⟨7,[2],[],none⟩,⟨4,[2],[],none⟩] (by kernel_rfl) rfl rfl (d_s0 rfl rfl ⟨_,_,_,rfl⟩ (by kernel_rfl) (by refine zao (c':=u8 ((((List.replicate 16 0).set 0 x.k).set 1 x.li).set 12 x.pi)++zah zB (24+x.da.length - 16)) rfl rfl rfl ?_ ?_ ?_;exact rfl;exact (by simp only [List.length_append,qL];first | omega | (simp only [List.length_set,List.length_replicate,List.length_append];omega) | (simp;done) | (simp;omega));exact zeF (l:=((List.replicate 16 0).set 0 x.k).set 1 x.li) (x:=x.pi) lA rfl) ?_)
 refine zgQ (zA (zJ (zN (o_d 2 [(134,iv (24+(x.da.length:Nat))),(133,sv 3 0 16 (16+(24+x.da.length - 16)))] ?_))))
 obtain ⟨m14,hm14⟩: ∃z9,zbh ((((List.replicate 16 0).set 0 x.k).set 1 x.li).set 12 x.pi) 2 2 (24+(x.da.length:Nat))=z9:=⟨_,rfl⟩
 have hm14l:m14.length=((((List.replicate 16 0).set 0 x.k).set 1 x.li).set 12 x.pi).length:=by rw [←hm14,zX]
 have hm14n:m14.length=16:=by rw [hm14l]<;>exact lA
 refine qT (zdy [3] [zG (some (0,16+(24+x.da.length - 16))) (u8 (((((List.replicate 16 0).set 0 x.k).set 1 x.li).set 12 x.pi)++List.replicate (24+x.da.length - 16) 0)) true] [zQ (some (0,16+(24+x.da.length - 16))) 0 (((((List.replicate 16 0).set 0 x.k).set 1 x.li).set 12 x.pi).length),iv 2,iv 2,iv (24+(x.da.length:Nat))] (zb5 (some (0,16+(24+x.da.length - 16))) (((((List.replicate 16 0).set 0 x.k).set 1 x.li).set 12 x.pi)++List.replicate (24+x.da.length - 16) 0) ((((List.replicate 16 0).set 0 x.k).set 1 x.li).set 12 x.pi) (zcA (l:=(((List.replicate 16 0).set 0 x.k).set 1 x.li).set 12 x.pi) (n:=16) (r:=(24+x.da.length - 16)) lA) 2 2 (24+(x.da.length:Nat)) lA lA lA) rfl (zM (zan rfl lA) (zM rfl (zM rfl (zM rfl rfl)))) ⟨⟨_,rfl,zaP⟩,trivial⟩ dC ?_)
 rintro v1 h1' ⟨rfl,rfl⟩
 refine ⟨.tuple #[],[zG qp (u8 Lo) false,zG qd (u8 Ld) false,cw (xF x qp qd),cw (u8 m14++zah zB (24+x.da.length - 16))],[],(by simp [zaI]),⟨rfl,rfl,rfl,(zb0 hm14 lA),trivial⟩,trivial, ?_⟩
 refine zE (zT [(8,sv 3 0 16 (16+(24+x.da.length - 16))),(6,bv (x.k==3)),(5,bv (x.k==2)),(1,pv 2 0)] (zJ (zN (o_d 2 [(137,pv 2 3),(136,sv 3 0 16 (16+(24+x.da.length - 16)))] (o_s (by refine zV (v:=iv x.fr) rfl rfl ?_;exact rfl) ?_)))))
 obtain ⟨m15,hm15⟩: ∃z9,zbh m14 4 4 x.fr=z9:=⟨_,rfl⟩
 have hm15l:m15.length=m14.length:=by rw [←hm15,zX]
 have hm15n:m15.length=16:=by rw [hm15l]<;>exact lA
 refine qT (zdy [3] [zG (some (0,16+(24+x.da.length - 16))) (u8 (m14++List.replicate (24+x.da.length - 16) 0)) true] [zQ (some (0,16+(24+x.da.length - 16))) 0 m14.length,iv 4,iv 4,iv x.fr] (zb5 (some (0,16+(24+x.da.length - 16))) (m14++List.replicate (24+x.da.length - 16) 0) m14 (zcA (l:=m14) (n:=16) (r:=(24+x.da.length - 16)) lA) 4 4 x.fr lA lA lA) rfl (zM (zan rfl lA) (zM rfl (zM rfl (zM rfl rfl)))) ⟨⟨_,rfl,zaP⟩,trivial⟩ dC ?_)
 rintro v1 h1' ⟨rfl,rfl⟩
 refine ⟨.tuple #[],[zG qp (u8 Lo) false,zG qd (u8 Ld) false,cw (xF x qp qd),cw (u8 m15++zah zB (24+x.da.length - 16))],[],(by simp [zaI]),⟨rfl,rfl,rfl,(zb0 hm15 lA),trivial⟩,trivial, ?_⟩
 refine zE (zA (zJ (zN (o_d 2 [(141,pv 2 4),(140,sv 3 0 16 (16+(24+x.da.length - 16)))] (o_s (by refine zV (v:=iv x.t) rfl rfl ?_;exact rfl) ?_)))))
 obtain ⟨m16,hm16⟩: ∃z9,zbh m15 8 4 x.t=z9:=⟨_,rfl⟩
 have hm16l:m16.length=m15.length:=by rw [←hm16,zX]
 have hm16n:m16.length=16:=by rw [hm16l]<;>exact lA
 refine qT (zdy [3] [zG (some (0,16+(24+x.da.length - 16))) (u8 (m15++List.replicate (24+x.da.length - 16) 0)) true] [zQ (some (0,16+(24+x.da.length - 16))) 0 m15.length,iv 8,iv 4,iv x.t] (zb5 (some (0,16+(24+x.da.length - 16))) (m15++List.replicate (24+x.da.length - 16) 0) m15 (zcA (l:=m15) (n:=16) (r:=(24+x.da.length - 16)) lA) 8 4 x.t lA lA lA) rfl (zM (zan rfl lA) (zM rfl (zM rfl (zM rfl rfl)))) ⟨⟨_,rfl,zaP⟩,trivial⟩ dC ?_)
 rintro v1 h1' ⟨rfl,rfl⟩
 refine ⟨.tuple #[],[zG qp (u8 Lo) false,zG qd (u8 Ld) false,cw (xF x qp qd),cw (u8 m16++zah zB (24+x.da.length - 16))],[],(by simp [zaI]),⟨rfl,rfl,rfl,(zb0 hm16 lA),trivial⟩,trivial, ?_⟩
 refine zE (zA (zJ (zN (o_d 2 [(145,sv 3 0 16 (16+(24+x.da.length - 16))),(144,sv 3 0 16 (16+(24+x.da.length - 16)))] (qT (zeC (a1:= [zQ (some (0,16+(24+x.da.length - 16))) 0 m16.length]) [3] [u8 (m16++List.replicate (24+x.da.length - 16) 0)] (refOf1C (some (0,16+(24+x.da.length - 16))) (m16++List.replicate (24+x.da.length - 16) 0) m16 (zcA (l:=m16) (n:=16) (r:=(24+x.da.length - 16)) lA) lA) rfl (fun _=>zM (zan rfl lA) rfl) ⟨⟨_,congrArg some (zcM _ _)⟩,zH _,trivial⟩ rfl ?_))))))
 have hy17:=zht m16
 obtain ⟨m18,hm18⟩: ∃z9,zbh m16 14 2 (65535 - zbR m16)=z9:=⟨_,rfl⟩
 have hm18l:m18.length=m16.length:=by rw [←hm18,zX]
 have hm18n:m18.length=16:=by rw [hm18l]<;>exact lA
 refine qT (zdy [3] [zG (some (0,16+(24+x.da.length - 16))) (u8 (m16++List.replicate (24+x.da.length - 16) 0)) true] [zQ (some (0,16+(24+x.da.length - 16))) 0 m16.length,iv 14,iv 2,iv (65535 - zbR m16)] (zb5 (some (0,16+(24+x.da.length - 16))) (m16++List.replicate (24+x.da.length - 16) 0) m16 (zcA (l:=m16) (n:=16) (r:=(24+x.da.length - 16)) lA) 14 2 (65535 - zbR m16) lA lA lA) rfl (zM (zan rfl lA) (zM rfl (zM rfl (zM rfl rfl)))) ⟨⟨_,rfl,zaP⟩,trivial⟩ dC ?_)
 rintro v1 h1' ⟨rfl,rfl⟩
 refine ⟨.tuple #[],[zG qp (u8 Lo) false,zG qd (u8 Ld) false,cw (xF x qp qd),cw (u8 m18++zah zB (24+x.da.length - 16))],[],(by simp [zaI]),⟨rfl,rfl,rfl,(zb0 hm18 lA),trivial⟩,trivial, ?_⟩
 refine zE (zA (zJ (zab (zJ (zN (o_d 2 [(164,bv (x.k==3)),(165,bv (x.k==3))] (zE (zA (qK (t:=x.k==3) rfl (fun q=>by rw [(by rw [hk];rfl:(x.k==3)=false)] at q;cases q) (fun _=>?_))))))))))
 refine zJ (zN (o_d 2 [(172,bv (x.k==2)),(173,bv (x.k==2))] (zE (zA (qK (t:=x.k==2) rfl (fun _=>?_) (fun q=>by rw [(by rw [hk];rfl:(x.k==2)=true)] at q;cases q))))))
 refine zJ (zN (o_d 1 [(174,sv 3 0 16 (16+(24+x.da.length - 16)))] ?_))
 obtain ⟨m19,hm19⟩: ∃z9,m18++List.replicate 8 (0:Int)=z9:=⟨_,rfl⟩
 have hm19l:m19.length=16+8:=by rw [←hm19,List.length_append]<;>exact lA
 refine o_appF (q:=8) (r:=(24+x.da.length - 16)) (r2:=((24+x.da.length - 16) - 8)) (n:=16) (k:=3) (cs:=u8 m18) (xs:=u8 (List.replicate 8 (0:Int))) (cs2:=u8 m19) (zl:=zB) rfl rfl om rfl (by rw [qL]<;>exact lA) rfl (by kernel_rfl) (by kernel_rfl) (by rw [qL]<;>exact lA) (by rw [zcz,hm19]) rfl ?_
 refine o_d 1 [(8,sv 3 0 (16+8) (16+8+((24+x.da.length - 16) - 8)))] (zE (zA (zN (o_d 2 [(177,pv 2 8),(176,sv 3 0 (16+8) (16+8+((24+x.da.length - 16) - 8)))] (o_s (by refine zV (v:=iv x.la) rfl rfl ?_;exact rfl) ?_)))))
 obtain ⟨m20,hm20⟩: ∃z9,zbh m19 20 2 x.la=z9:=⟨_,rfl⟩
 have hm20l:m20.length=m19.length:=by rw [←hm20,zX]
 have hm20n:m20.length=16+8:=by rw [hm20l]<;>exact lA
 refine qT (zdy [3] [zG (some (0,16+8+((24+x.da.length - 16) - 8))) (u8 (m19++List.replicate ((24+x.da.length - 16) - 8) 0)) true] [zQ (some (0,16+8+((24+x.da.length - 16) - 8))) 0 m19.length,iv 20,iv 2,iv x.la] (zb5 (some (0,16+8+((24+x.da.length - 16) - 8))) (m19++List.replicate ((24+x.da.length - 16) - 8) 0) m19 (zcA (l:=m19) (n:=16+8) (r:=((24+x.da.length - 16) - 8)) lA) 20 2 x.la lA lA lA) rfl (zM (zan rfl lA) (zM rfl (zM rfl (zM rfl rfl)))) ⟨⟨_,rfl,zaP⟩,trivial⟩ dC ?_)
 rintro v1 h1' ⟨rfl,rfl⟩
 refine ⟨.tuple #[],[zG qp (u8 Lo) false,zG qd (u8 Ld) false,cw (xF x qp qd),cw (u8 m20++zah zB ((24+x.da.length - 16) - 8))],[],(by simp [zaI]),⟨rfl,rfl,rfl,(zb0 hm20 lA),trivial⟩,trivial, ?_⟩
 refine zE (zT [(8,sv 3 0 (16+8) (16+8+((24+x.da.length - 16) - 8))),(6,bv (x.k==3)),(5,bv (x.k==2)),(1,pv 2 0)] (zJ (zJ (zN (o_d 2 [(181,bv (!(x.k==3))),(180,bv (x.k==3))] (zE (zA (qK (t:= !(x.k==3)) rfl (fun _=>?_) (fun q=>by rw [(by rw [(by rw [hk];rfl:(x.k==3)=false)];rfl:(!(x.k==3))=true)] at q;cases q)))))))))
 refine zJ (zN (o_d 2 [(183,pv 2 5),(182,sv 3 0 (16+8) (16+8+((24+x.da.length - 16) - 8)))] (o_s (by refine zV (v:=iv x.fp) rfl rfl ?_;exact rfl) ?_)))
 obtain ⟨m21,hm21⟩: ∃z9,zbh m20 16 2 x.fp=z9:=⟨_,rfl⟩
 have hm21l:m21.length=m20.length:=by rw [←hm21,zX]
 have hm21n:m21.length=16+8:=by rw [hm21l]<;>exact lA
 refine qT (zdy [3] [zG (some (0,16+8+((24+x.da.length - 16) - 8))) (u8 (m20++List.replicate ((24+x.da.length - 16) - 8) 0)) true] [zQ (some (0,16+8+((24+x.da.length - 16) - 8))) 0 m20.length,iv 16,iv 2,iv x.fp] (zb5 (some (0,16+8+((24+x.da.length - 16) - 8))) (m20++List.replicate ((24+x.da.length - 16) - 8) 0) m20 (zcA (l:=m20) (n:=16+8) (r:=((24+x.da.length - 16) - 8)) lA) 16 2 x.fp lA lA lA) rfl (zM (zan rfl lA) (zM rfl (zM rfl (zM rfl rfl)))) ⟨⟨_,rfl,zaP⟩,trivial⟩ dC ?_)
 rintro v1 h1' ⟨rfl,rfl⟩
 refine ⟨.tuple #[],[zG qp (u8 Lo) false,zG qd (u8 Ld) false,cw (xF x qp qd),cw (u8 m21++zah zB ((24+x.da.length - 16) - 8))],[],(by simp [zaI]),⟨rfl,rfl,rfl,(zb0 hm21 lA),trivial⟩,trivial, ?_⟩
 refine zE (zA (zN (o_d 2 [(187,pv 2 6),(186,sv 3 0 (16+8) (16+8+((24+x.da.length - 16) - 8)))] (o_s (by refine zV (v:=iv x.tp) rfl rfl ?_;exact rfl) ?_))))
 obtain ⟨m22,hm22⟩: ∃z9,zbh m21 18 2 x.tp=z9:=⟨_,rfl⟩
 have hm22l:m22.length=m21.length:=by rw [←hm22,zX]
 have hm22n:m22.length=16+8:=by rw [hm22l]<;>exact lA
 refine qT (zdy [3] [zG (some (0,16+8+((24+x.da.length - 16) - 8))) (u8 (m21++List.replicate ((24+x.da.length - 16) - 8) 0)) true] [zQ (some (0,16+8+((24+x.da.length - 16) - 8))) 0 m21.length,iv 18,iv 2,iv x.tp] (zb5 (some (0,16+8+((24+x.da.length - 16) - 8))) (m21++List.replicate ((24+x.da.length - 16) - 8) 0) m21 (zcA (l:=m21) (n:=16+8) (r:=((24+x.da.length - 16) - 8)) lA) 18 2 x.tp lA lA lA) rfl (zM (zan rfl lA) (zM rfl (zM rfl (zM rfl rfl)))) ⟨⟨_,rfl,zaP⟩,trivial⟩ dC ?_)
 rintro v1 h1' ⟨rfl,rfl⟩
 refine ⟨.tuple #[],[zG qp (u8 Lo) false,zG qd (u8 Ld) false,cw (xF x qp qd),cw (u8 m22++zah zB ((24+x.da.length - 16) - 8))],[],(by simp [zaI]),⟨rfl,rfl,rfl,(zb0 hm22 lA),trivial⟩,trivial, ?_⟩
 refine zE (zA (zJ (zN (o_d 2 [(191,pv 2 12),(190,sv 3 0 (16+8) (16+8+((24+x.da.length - 16) - 8)))] (o_s (by refine zV (v:=zQ qd 1 x.da.length) rfl rfl ?_;exact rfl) ?_)))))
 obtain ⟨m23,hm23⟩: ∃z9,m22++x.da=z9:=⟨_,rfl⟩
 have hm23l:m23.length=16+8+x.da.length:=by rw [←hm23,List.length_append]<;>exact lA
 refine o_appF (q:=x.da.length) (r:=((24+x.da.length - 16) - 8)) (r2:=(((24+x.da.length - 16) - 8) - x.da.length)) (n:=16+8) (k:=3) (cs:=u8 m22) (xs:=u8 x.da) (cs2:=u8 m23) (zl:=zB) rfl rfl om rfl (by rw [qL]<;>exact lA) rfl (zcR _ _ _ hrd.nil) (zcO rfl rfl hrd) (by rw [qL]<;>exact lA) (by rw [zcz,hm23]) rfl ?_
 refine o_d 1 [(8,sv 3 0 (16+8+x.da.length) (16+8+x.da.length+(((24+x.da.length - 16) - 8) - x.da.length)))] (zE ?_)
 have hB:bldB x=m23:=by
  unfold bldB;rw [if_neg om,if_pos hk]
  unfold bldS bldH;rw [hm14,hm15,hm16,hm18,hm19,hm20,hm21,hm22,hm23]
 have hml:m23.length=(24+x.da.length):=by rw [hm23l]<;>omega
 refine ⟨⟨reg [(8,zQ (some (0,(24+x.da.length))) 3 (24+x.da.length)),(5,bv (x.k==2)),(1,pv 2 0)],[zG qp (u8 Lo) false,zG qd (u8 Ld) false,cw (xF x qp qd),zG (some (0,(24+x.da.length))) (u8 m23) true]⟩,Wk.ren [0,1,2,3] rfl rfl dC ⟨conv_sv rfl om om,rfl,rfl,trivial⟩ ⟨.inl (zF (zH _)),.inl (zF (zH _)),.inl (zcg rfl rfl),.inl (zjn om),trivial⟩, ?_⟩
 refine zJ (zN (o_d 1 [(194,zQ (some (0,(24+x.da.length))) 3 (24+x.da.length))] ?_))
 have hsl:=zhV m23
 refine qT (zaH [3] [zG (some (0,(24+x.da.length))) (u8 m23) false] [zQ (some (0,(24+x.da.length))) 0 m23.length] (summedC (some (0,(24+x.da.length))) m23 m23 (RowOf.whole rfl om) om om) rfl (zM (zan rfl lA) rfl) ⟨⟨_,rfl,z4 (zH _) rfl (fun q=>rfl)⟩,trivial⟩ dC ?_)
 rintro v1 h1' ⟨c24,rfl,rfl⟩
 refine ⟨zai [_] [_],sv 4 0 ((zbP m23).length) ((zbP m23).length+c24),[zG qp (u8 Lo) false,zG qd (u8 Ld) false,cw (xF x qp qd),zG (some (0,(24+x.da.length))) (u8 m23) true],[cw (u8 (zbP m23)++zah zB c24)],rfl,⟨rfl,rfl,rfl,rfl,trivial⟩,⟨(Option.some.inj (zW (zbj (zbP m23) c24))).symm,trivial⟩, ?_⟩
 refine qT (zeC (a1:= [sv 0 0 ((zbP m23).length) ((zbP m23).length+c24)]) [4] [u8 ((zbP m23)++List.replicate c24 0)] (refOf1C (some (0,(zbP m23).length+c24)) ((zbP m23)++List.replicate c24 0) (zbP m23) (zcA (l:=zbP m23) (n:=(zbP m23).length) (r:=c24) lA) lA) rfl (fun _=>rfl) ⟨⟨_,congrArg some (zcM _ _)⟩,zH _,trivial⟩ rfl ?_)
 have hy25:=zht (zbP m23)
 refine o_d 1 [(9,iv (65535 - zbR (zbP m23)))] (zE (zA (zJ (zJ (zN (o_d 2 [(198,bv (x.k==2)),(197,bv (x.k==2))] (zbC (b:=x.k==2) 198 rfl (fun k26=>?_) (fun q=>by rw [(by rw [hk];rfl:(x.k==2)=true)] at q;cases q))))))))
 refine o_d 3 [(201,bv ((65535 - zbR (zbP m23))==0)),(200,bv ((65535 - zbR (zbP m23))==0)),(199,iv (65535 - zbR (zbP m23)))] (zE (zA (qK (t:=(65535 - zbR (zbP m23))==0) rfl (fun h27=>?_) (fun h27=>?_))))
 ·skip
  have h27':65535 - zbR (zbP m23)=0:=zaL h27
  refine zN (o_d 1 [(9,iv 65535)] (zE (zA (ziX (fun s=> ∃(sx:Int),0=0∧(sx=bldX x)∧s=⟨reg [(9,iv sx),(8,zQ (some (0,(24+x.da.length))) 3 (24+x.da.length)),(1,pv 2 0)],[zG qp (u8 Lo) false,zG qd (u8 Ld) false,cw (pkL x qp 0 qd 1),zG (some (0,(24+x.da.length))) (u8 m23) true,cw (u8 (zbP m23)++zah zB c24)]⟩) ?_ ?_))))
  ·skip
   refine zJ (zN (o_d 2 [(203,bv (x.k==2)),(202,bv (x.k==2))] (zbC (b:=x.k==2) 203 rfl (fun k28=>?_) (fun q=>by rw [(by rw [hk];rfl:(x.k==2)=true)] at q;cases q))))
   refine o_d 1 [(204,pv 2 9)] (z8 rfl (o_s (by refine zV (v:=bv x.ba) rfl rfl ?_;exact rfl) ?_))
   refine o_d 1 [(206,bv x.ba)] (zE (zA (qK (t:=x.ba) rfl (fun h29=>?_) (fun h29=>?_))))
   ·skip
    refine zN (o_d 1 [(9,iv 0)] (zE (⟨⟨reg [(9,iv 0),(8,zQ (some (0,(24+x.da.length))) 3 (24+x.da.length)),(1,pv 2 0)],[zG qp (u8 Lo) false,zG qd (u8 Ld) false,cw (pkL x qp 0 qd 1),zG (some (0,(24+x.da.length))) (u8 m23) true,cw (u8 (zbP m23)++zah zB c24)]⟩, ?_⟩)))
    refine ⟨?_, ?_⟩
    ·exact Wk.ren [0,1,2,3,4] rfl rfl dC ⟨rfl,rfl,rfl,trivial⟩ ⟨.inl (zF (zH _)),.inl (zF (zH _)),.inl (zcg rfl rfl),.inl (zF (zH _)),.inl (zW (zbj (zbP m23) c24)),trivial⟩
    ·exact ⟨0,rfl,(by rw [bldX,if_pos hk,hB];rw [if_pos h29]),rfl⟩
   refine qM (⟨⟨reg [(9,iv 65535),(8,zQ (some (0,(24+x.da.length))) 3 (24+x.da.length)),(1,pv 2 0)],[zG qp (u8 Lo) false,zG qd (u8 Ld) false,cw (pkL x qp 0 qd 1),zG (some (0,(24+x.da.length))) (u8 m23) true,cw (u8 (zbP m23)++zah zB c24)]⟩, ?_⟩)
   refine ⟨?_, ?_⟩
   ·exact Wk.ren [0,1,2,3,4] rfl rfl dC ⟨rfl,rfl,rfl,trivial⟩ ⟨.inl (zF (zH _)),.inl (zF (zH _)),.inl (zcg rfl rfl),.inl (zF (zH _)),.inl (zW (zbj (zbP m23) c24)),trivial⟩
   ·exact ⟨65535,rfl,(by rw [bldX,if_pos hk,hB];rw [if_neg (by rw [h29];simp),if_pos om]),rfl⟩
  rintro s ⟨sx,-,hsx,rfl⟩
  refine zJ (zN (o_d 2 [(208,pv 2 0),(207,zQ (some (0,(24+x.da.length))) 3 (24+x.da.length))] (o_s (by refine zV (v:=iv x.k) rfl rfl ?_;exact rfl) ?_)))
  refine qT (zal (place22C om (placeC x.k)) rfl rfl rfl ?_)
  refine o_d 1 [(211,iv sx)] ?_
  obtain ⟨m30,hm30⟩: ∃z9,zbh m23 22 2 sx=z9:=⟨_,rfl⟩
  have hm30l:m30.length=m23.length:=by rw [←hm30,zX]
  refine qT (zaH [3] [zG (some (0,(24+x.da.length))) (u8 m23) true] [zQ (some (0,(24+x.da.length))) 0 m23.length,iv 22,iv 2,iv sx] (zb5 (some (0,(24+x.da.length))) m23 m23 (RowOf.whole rfl om) 22 2 sx lA lA lA) rfl (zM (zan rfl lA) (zM rfl (zM rfl (zM rfl rfl)))) ⟨⟨_,rfl,z4 (zH _) rfl (fun q=>rfl)⟩,trivial⟩ dC ?_)
  rintro v1 h1' ⟨rfl,rfl⟩
  refine ⟨(fun i q=>zcv q),.tuple #[],[zG qp (u8 Lo) false,zG qd (u8 Ld) false,cw (xF x qp qd),zG (some (0,(24+x.da.length))) (u8 m30) true,cw (u8 (zbP m23)++zah zB c24)],[],(by simp [zaI]),⟨rfl,rfl,rfl,(zcs hm30),rfl,trivial⟩,trivial, ?_⟩
  refine zE (zA (zJ (zN (o_d 3 [(3,iv 0),(2,zQ (some (0,(24+x.da.length))) 3 (24+x.da.length)),(213,zQ (some (0,(24+x.da.length))) 3 (24+x.da.length))] (zE (zA (qV ?_)))))))
  have he:bld x=m30:=by unfold bld;rw [hB,zgH,if_neg om,←hsx];exact hm30
  have hlen:m30.length=(24+x.da.length):=om
  exact ⟨trivial,[zQ (some (0,(24+x.da.length))) 3 (24+x.da.length),iv 0],(zU rfl (zU rfl rfl)),(zK rfl (zK rfl z5)),⟨reg [],[zG qp (u8 Lo) false,zG qd (u8 Ld) false,zG (some (0,(24+x.da.length))) (u8 m30) true]⟩,[0,1,3],[zQ (some (0,(24+x.da.length))) 2 (24+x.da.length),iv 0],WkR.of (rs:= []) rfl rfl dC trivial ⟨.inl (zF (zH _)),.inl (zF (zH _)),.inl (zF (zH _)),trivial⟩,rfl,(by rw [he,hlen];rfl),(by rw [he,hlen])⟩
 have h27': ¬(65535 - zbR (zbP m23)=0):=zaM h27
 refine qM (zA (ziX (fun s=> ∃(sx:Int),0=0∧(sx=bldX x)∧s=⟨reg [(9,iv sx),(8,zQ (some (0,(24+x.da.length))) 3 (24+x.da.length)),(1,pv 2 0)],[zG qp (u8 Lo) false,zG qd (u8 Ld) false,cw (pkL x qp 0 qd 1),zG (some (0,(24+x.da.length))) (u8 m23) true,cw (u8 (zbP m23)++zah zB c24)]⟩) ?_ ?_))
 ·skip
  refine zJ (zN (o_d 2 [(203,bv (x.k==2)),(202,bv (x.k==2))] (zbC (b:=x.k==2) 203 rfl (fun k31=>?_) (fun q=>by rw [(by rw [hk];rfl:(x.k==2)=true)] at q;cases q))))
  refine o_d 1 [(204,pv 2 9)] (z8 rfl (o_s (by refine zV (v:=bv x.ba) rfl rfl ?_;exact rfl) ?_))
  refine o_d 1 [(206,bv x.ba)] (zE (zA (qK (t:=x.ba) rfl (fun h32=>?_) (fun h32=>?_))))
  ·skip
   refine zN (o_d 1 [(9,iv 0)] (zE (⟨⟨reg [(9,iv 0),(8,zQ (some (0,(24+x.da.length))) 3 (24+x.da.length)),(1,pv 2 0)],[zG qp (u8 Lo) false,zG qd (u8 Ld) false,cw (pkL x qp 0 qd 1),zG (some (0,(24+x.da.length))) (u8 m23) true,cw (u8 (zbP m23)++zah zB c24)]⟩, ?_⟩)))
   refine ⟨?_, ?_⟩
   ·exact Wk.ren [0,1,2,3,4] rfl rfl dC ⟨rfl,rfl,rfl,trivial⟩ ⟨.inl (zF (zH _)),.inl (zF (zH _)),.inl (zcg rfl rfl),.inl (zF (zH _)),.inl (zW (zbj (zbP m23) c24)),trivial⟩
   ·exact ⟨0,rfl,(by rw [bldX,if_pos hk,hB];rw [if_pos h32]),rfl⟩
  refine qM (⟨⟨reg [(9,iv (65535 - zbR (zbP m23))),(8,zQ (some (0,(24+x.da.length))) 3 (24+x.da.length)),(1,pv 2 0)],[zG qp (u8 Lo) false,zG qd (u8 Ld) false,cw (pkL x qp 0 qd 1),zG (some (0,(24+x.da.length))) (u8 m23) true,cw (u8 (zbP m23)++zah zB c24)]⟩, ?_⟩)
  refine ⟨?_, ?_⟩
  ·exact Wk.ren [0,1,2,3,4] rfl rfl dC ⟨rfl,rfl,rfl,trivial⟩ ⟨.inl (zF (zH _)),.inl (zF (zH _)),.inl (zcg rfl rfl),.inl (zF (zH _)),.inl (zW (zbj (zbP m23) c24)),trivial⟩
  ·exact ⟨(65535 - zbR (zbP m23)),rfl,(by rw [bldX,if_pos hk,hB];rw [if_neg (by rw [h32];simp),if_neg om]),rfl⟩
 rintro s ⟨sx,-,hsx,rfl⟩
 refine zJ (zN (o_d 2 [(208,pv 2 0),(207,zQ (some (0,(24+x.da.length))) 3 (24+x.da.length))] (o_s (by refine zV (v:=iv x.k) rfl rfl ?_;exact rfl) ?_)))
 refine qT (zal (place22C om (placeC x.k)) rfl rfl rfl ?_)
 refine o_d 1 [(211,iv sx)] ?_
 obtain ⟨m33,hm33⟩: ∃z9,zbh m23 22 2 sx=z9:=⟨_,rfl⟩
 have hm33l:m33.length=m23.length:=by rw [←hm33,zX]
 refine qT (zaH [3] [zG (some (0,(24+x.da.length))) (u8 m23) true] [zQ (some (0,(24+x.da.length))) 0 m23.length,iv 22,iv 2,iv sx] (zb5 (some (0,(24+x.da.length))) m23 m23 (RowOf.whole rfl om) 22 2 sx lA lA lA) rfl (zM (zan rfl lA) (zM rfl (zM rfl (zM rfl rfl)))) ⟨⟨_,rfl,z4 (zH _) rfl (fun q=>rfl)⟩,trivial⟩ dC ?_)
 rintro v1 h1' ⟨rfl,rfl⟩
 refine ⟨(fun i q=>zcv q),.tuple #[],[zG qp (u8 Lo) false,zG qd (u8 Ld) false,cw (xF x qp qd),zG (some (0,(24+x.da.length))) (u8 m33) true,cw (u8 (zbP m23)++zah zB c24)],[],(by simp [zaI]),⟨rfl,rfl,rfl,(zcs hm33),rfl,trivial⟩,trivial, ?_⟩
 refine zE (zA (zJ (zN (o_d 3 [(3,iv 0),(2,zQ (some (0,(24+x.da.length))) 3 (24+x.da.length)),(213,zQ (some (0,(24+x.da.length))) 3 (24+x.da.length))] (zE (zA (qV ?_)))))))
 have he:bld x=m33:=by unfold bld;rw [hB,zgH,if_neg om,←hsx];exact hm33
 have hlen:m33.length=(24+x.da.length):=om
 exact ⟨trivial,[zQ (some (0,(24+x.da.length))) 3 (24+x.da.length),iv 0],(zU rfl (zU rfl rfl)),(zK rfl (zK rfl z5)),⟨reg [],[zG qp (u8 Lo) false,zG qd (u8 Ld) false,zG (some (0,(24+x.da.length))) (u8 m33) true]⟩,[0,1,3],[zQ (some (0,(24+x.da.length))) 2 (24+x.da.length),iv 0],WkR.of (rs:= []) rfl rfl dC trivial ⟨.inl (zF (zH _)),.inl (zF (zH _)),.inl (zF (zH _)),trivial⟩,rfl,(by rw [he,hlen];rfl),(by rw [he,hlen])⟩
abbrev xm (a:List Int) (b:Pk):=((a.set 20 b.fl).set 21 ((b.op.length:Nat):Int))
theorem Build1C {P:Program} [PrC P] (qp qd:Option (Nat×Nat)) (Lo Ld:List Int) (x:Pk) (hro:RowOf qp Lo x.op) (hrd:RowOf qd Ld x.da) (B:BOk x) (hk:x.k=1):
    Env P "roundhouse/roundhouseref3.Build" [pkV x qp 0 qd 1] ([zG qp (u8 Lo) false,zG qd (u8 Ld) false]) (fun v h'=>v= .tuple #[zQ (some (0,(bld x).length)) 2 (bld x).length,iv 0]∧h'= [zG qp (u8 Lo) false,zG qd (u8 Ld) false,zG (some (0,(bld x).length)) (u8 (bld x)) true]):=by
 refine Env.by4 PrC.ref3_Build ?_
 unfold ze3
 show GC _ 2 _ _ ⟨reg [(0,pkV x qp 0 qd 1)],[zG qp (u8 Lo) false,zG qd (u8 Ld) false]⟩
 have b1:=B.li
 have b2:=B.pi
 have b3:=B.fr
 have b4:=B.t
 have b5:=B.co
 have b6:=B.fp
 have b7:=B.fl
 have b8_:=B.la
 have b9:=B.op
 have b10:=B.da
 have b11:=B.n
 have hl40:x.op.length≤100000∧x.da.length≤100000:=om
 refine zJ (zN (o_b 3 [(3,iv 0),(2,.slice none 0 0),(1,pv 2 0)] [zG qp (u8 Lo) false,zG qd (u8 Ld) false,cw (xF x qp qd)] (zE (zA (zJ (zJ (zN (o_d 1 [(10,pv 2 0)] (o_s (by refine zV (v:=iv x.k) rfl rfl ?_;exact rfl) ?_)))))))))
 refine o_d 2 [(13,bv (decide (x.k < 1))),(12,bv (decide (x.k < 1)))] (zbC (b:=decide (x.k < 1)) 13 rfl (fun q=>by rw [(by exact decide_eq_false om:(decide (x.k < 1))=false)] at q;cases q) (fun k1=>?_))
 refine o_d 1 [(14,pv 2 0)] (z8 rfl (o_s (by refine zV (v:=iv x.k) rfl rfl ?_;exact rfl) ?_))
 refine o_d 2 [(17,bv (decide (x.k > 3))),(16,bv (decide (x.k > 3)))] (zE (zA (qK (t:=decide (x.k > 3)) rfl (fun q=>by rw [(by exact decide_eq_false om:(decide (x.k > 3))=false)] at q;cases q) (fun _=>?_))))
 refine qM (zA (zJ (zbF [] (r_d 1 [(18,pv 2 0)] (r_s (by refine zV (v:=iv x.k) rfl rfl ?_;exact rfl) ?_)))))
 refine r_d 2 [(21,pv 2 0),(20,bv (x.k==1))] (r_s (by refine zV (v:=iv x.k) rfl rfl ?_;exact rfl) ?_)
 refine r_d 2 [(24,pv 2 0),(23,bv (x.k==2))] (r_s (by refine zV (v:=iv x.k) rfl rfl ?_;exact rfl) ?_)
 refine r_d 4 [(6,bv (x.k==3)),(5,bv (x.k==2)),(4,bv (x.k==1)),(26,bv (x.k==3))] (zbk (zT [(6,bv (x.k==3)),(5,bv (x.k==2)),(4,bv (x.k==1)),(1,pv 2 0)] (zJ (zJ (zN (o_d 1 [(27,pv 2 1)] (o_s (by refine zV (v:=iv x.li) rfl rfl ?_;exact rfl) ?_)))))))
 refine qT (zal (zdE x.li 255) rfl rfl rfl (o_d 1 [(30,bv (decide (x.li < 0) || decide (x.li > 255)))] (zbC (b:=decide (x.li < 0) || decide (x.li > 255)) 30 rfl (fun q=>by rw [(by simp;omega:(decide (x.li < 0) || decide (x.li > 255))=false)] at q;cases q) (fun k2=>?_))))
 refine o_d 1 [(31,pv 2 2)] (z8 rfl (o_s (by refine zV (v:=iv x.pi) rfl rfl ?_;exact rfl) ?_))
 refine z8 rfl (qT (zal (zdE x.pi 255) rfl rfl rfl (o_d 2 [(35,bv (decide (x.pi < 0) || decide (x.pi > 255))),(34,bv (decide (x.pi < 0) || decide (x.pi > 255)))] (zbC (b:=decide (x.pi < 0) || decide (x.pi > 255)) 35 rfl (fun q=>by rw [(by simp;omega:(decide (x.pi < 0) || decide (x.pi > 255))=false)] at q;cases q) (fun k3=>?_)))))
 refine o_d 2 [(37,bv (x.k==3)),(36,bv (x.k==3))] (zbC (b:=x.k==3) 37 rfl (fun q=>by rw [(by rw [hk];rfl:(x.k==3)=false)] at q;cases q) (fun k4=>?_))
 refine o_d 7 ((44,pv 2 3)::(43,bv false)::(xx 42 41 40 39 38)) (z8 rfl (o_s (by refine zV (v:=iv x.fr) rfl rfl ?_;exact rfl) ?_))
 refine z8 rfl (qT (zal (zdE x.fr 4294967295) rfl rfl rfl (o_d 2 [(48,bv (decide (x.fr < 0) || decide (x.fr > 4294967295))),(47,bv (decide (x.fr < 0) || decide (x.fr > 4294967295)))] (zbC (b:=decide (x.fr < 0) || decide (x.fr > 4294967295)) 48 rfl (fun q=>by rw [(by simp;omega:(decide (x.fr < 0) || decide (x.fr > 4294967295))=false)] at q;cases q) (fun k5=>?_)))))
 refine o_d 1 [(49,pv 2 4)] (z8 rfl (o_s (by refine zV (v:=iv x.t) rfl rfl ?_;exact rfl) ?_))
 refine z8 rfl (qT (zal (zdE x.t 4294967295) rfl rfl rfl (o_d 2 [(53,bv (decide (x.t < 0) || decide (x.t > 4294967295))),(52,bv (decide (x.t < 0) || decide (x.t > 4294967295)))] (zbC (b:=decide (x.t < 0) || decide (x.t > 4294967295)) 53 rfl (fun q=>by rw [(by simp;omega:(decide (x.t < 0) || decide (x.t > 4294967295))=false)] at q;cases q) (fun k6=>?_)))))
 refine o_d 3 [(56,bv (!(x.k==3))),(55,bv (!(x.k==3))),(54,bv (x.k==3))] (zbC (b:= !(x.k==3)) 56 rfl (fun k7=>?_) (fun q=>by rw [(by rw [(by rw [hk];rfl:(x.k==3)=false)];rfl:(!(x.k==3))=true)] at q;cases q))
 refine o_d 1 [(57,pv 2 5)] (z8 rfl (o_s (by refine zV (v:=iv x.fp) rfl rfl ?_;exact rfl) ?_))
 refine z8 rfl (qT (zal (zdE x.fp 65535) rfl rfl rfl (o_d 1 [(60,bv (decide (x.fp < 0) || decide (x.fp > 65535)))] (zbC (b:=decide (x.fp < 0) || decide (x.fp > 65535)) 60 rfl (fun q=>by rw [(by simp;omega:(decide (x.fp < 0) || decide (x.fp > 65535))=false)] at q;cases q) (fun k8=>?_)))))
 refine o_d 1 [(61,pv 2 6)] (z8 rfl (o_s (by refine zV (v:=iv x.tp) rfl rfl ?_;exact rfl) ?_))
 refine z8 rfl (qT (zal (zdE x.tp 65535) rfl rfl rfl (o_d 4 [(67,bv (decide (x.tp < 0) || decide (x.tp > 65535))),(66,bv (decide (x.tp < 0) || decide (x.tp > 65535))),(65,bv (decide (x.tp < 0) || decide (x.tp > 65535))),(64,bv (decide (x.tp < 0) || decide (x.tp > 65535)))] (zbC (b:=decide (x.tp < 0) || decide (x.tp > 65535)) 67 rfl (fun q=>by rw [(by simp;omega:(decide (x.tp < 0) || decide (x.tp > 65535))=false)] at q;cases q) (fun k9=>?_)))))
 refine o_d 2 [(69,bv (x.k==1)),(68,bv (x.k==1))] (zbC (b:=x.k==1) 69 rfl (fun k10=>?_) (fun q=>by rw [(by rw [hk];rfl:(x.k==1)=true)] at q;cases q))
 refine o_d 1 [(70,pv 2 7)] (z8 rfl (o_s (by refine zV (v:=iv x.fl) rfl rfl ?_;exact rfl) ?_))
 refine z8 rfl (qT (zal (zdE x.fl 15) rfl rfl rfl (o_d 3 [(75,bv (decide (x.fl < 0) || decide (x.fl > 15))),(74,bv (decide (x.fl < 0) || decide (x.fl > 15))),(73,bv (decide (x.fl < 0) || decide (x.fl > 15)))] (zbC (b:=decide (x.fl < 0) || decide (x.fl > 15)) 75 rfl (fun q=>by rw [(by simp;omega:(decide (x.fl < 0) || decide (x.fl > 15))=false)] at q;cases q) (fun k11=>?_)))))
 refine o_d 2 [(77,bv (x.k==2)),(76,bv (x.k==2))] (zbC (b:=x.k==2) 77 rfl (fun q=>by rw [(by rw [hk];rfl:(x.k==2)=false)] at q;cases q) (fun k12=>?_))
 refine o_d 5 (xx 82 81 80 79 78) (zE (zT [(82,bv false),(6,bv (x.k==3)),(5,bv (x.k==2)),(4,bv (x.k==1)),(1,pv 2 0)] (zba rfl (qM (zA (zJ (zJ (zN (o_d 2 [(84,bv (x.k==1)),(83,bv (x.k==1))] (zbC (b:=x.k==1) 84 rfl (fun k13=>?_) (fun q=>by rw [(by rw [hk];rfl:(x.k==1)=true)] at q;cases q)))))))))))
 refine o_d 1 [(85,pv 2 11)] (z8 rfl (o_s (by refine zV (v:=zQ qp 0 x.op.length) rfl rfl ?_;exact rfl) ?_))
 refine z8 rfl (o_s (by exact qO rfl hro.nil) ?_)
 refine o_d 2 [(89,bv (decide (((x.op.length:Nat):Int) > 40))),(88,bv (decide (((x.op.length:Nat):Int) > 40)))] (zE (zA (qK (t:=decide (((x.op.length:Nat):Int) > 40)) rfl (fun q=>by rw [(by exact decide_eq_false om:(decide (((x.op.length:Nat):Int) > 40))=false)] at q;cases q) (fun _=>?_))))
 refine qM (zA (zJ (zN (o_d 1 [(90,pv 2 12)] (o_s (by refine zV (v:=zQ qd 1 x.da.length) rfl rfl ?_;exact rfl) ?_)))))
 refine o_s (by exact qO rfl hrd.nil) ?_
 refine o_s (by refine zR (v:= .int .i64 (i64.wrap (24+(x.da.length:Nat)))) (congrArg wh (w64 lA lA)) ?_;kernel_rfl) ?_
 refine o_d 1 [(7,iv (24+(x.da.length:Nat)))] (zE (zA (zJ (zJ (zN (o_d 1 [(94,bv (x.k==1))] (zE (zA (qK (t:=x.k==1) rfl (fun _=>?_) (fun q=>by rw [(by rw [hk];rfl:(x.k==1)=true)] at q;cases q))))))))))
 refine zN (o_d 2 [(96,pv 2 11),(95,iv (24+(x.da.length:Nat)))] (o_s (by refine zV (v:=zQ qp 0 x.op.length) rfl rfl ?_;exact rfl) ?_))
 refine o_s (by exact qO rfl hro.nil) ?_
 refine o_s (by refine zR (v:= .int .i64 (i64.wrap (24+(x.da.length:Nat)+(x.op.length:Nat)))) (congrArg wh (w64 lA lA)) ?_;kernel_rfl) ?_
 refine o_d 1 [(7,iv (24+(x.da.length:Nat)+(x.op.length:Nat)))] (zE (zT [(7,iv (24+(x.da.length:Nat)+(x.op.length:Nat))),(6,bv (x.k==3)),(5,bv (x.k==2)),(1,pv 2 0)] (zJ (zJ (zN (o_d 1 [(100,bv (x.k==3))] (zE (zA (qK (t:=x.k==3) rfl (fun q=>by rw [(by rw [hk];rfl:(x.k==3)=false)] at q;cases q) (fun _=>?_))))))))))
 refine qM (zA (zJ (zJ (zN (o_d 2 [(106,bv (x.k==3)),(105,bv (x.k==3))] (zbC (b:=x.k==3) 106 rfl (fun q=>by rw [(by rw [hk];rfl:(x.k==3)=false)] at q;cases q) (fun k14=>?_)))))))
 refine o_d 9 ((115,bv (decide ((24+(x.da.length:Nat)+(x.op.length:Nat):Int) > 1500)))::(114,bv (decide ((24+(x.da.length:Nat)+(x.op.length:Nat):Int) > 1500)))::(113,iv (24+(x.da.length:Nat)+(x.op.length:Nat)))::(112,bv false)::(111,bv false)::(y9 110 109 108 107)) (zE (zA (qK (t:=decide ((24+(x.da.length:Nat)+(x.op.length:Nat):Int) > 1500)) rfl (fun q=>by rw [(by exact decide_eq_false om:(decide ((24+(x.da.length:Nat)+(x.op.length:Nat):Int) > 1500))=false)] at q;cases q) (fun _=>?_))))
 refine qM (zA (zJ (zN (o_d 1 [(116,iv (24+(x.da.length:Nat)+(x.op.length:Nat)))] (o_s (by exact run_mksR (a:=16) (n:=24+x.da.length+x.op.length) (r:=24+x.da.length+x.op.length - 16) rfl rfl om om) ?_)))))
 refine o_b 1 [(8,sv 3 0 16 (16+(24+x.da.length+x.op.length - 16)))] [zG qp (u8 Lo) false,zG qd (u8 Ld) false,cw (xF x qp qd),cw (u8 (List.replicate 16 0)++zah zB (24+x.da.length+x.op.length - 16))] (zE (zA (zJ (zeW [zG qp (u8 Lo) false,zG qd (u8 Ld) false,cw (xF x qp qd),cw (u8 (List.replicate 16 0)++zah zB (24+x.da.length+x.op.length - 16))] (by kernel_rfl) (d_n 4 4 4 [(121,pv 2 0),(120,sv 3 0 16 (16+(24+x.da.length+x.op.length - 16))),(119,sv 3 0 16 (16+(24+x.da.length+x.op.length - 16))),(118,sv 3 0 16 (16+(24+x.da.length+x.op.length - 16)))] [zG qp (u8 Lo) false,zG qd (u8 Ld) false,cw (xF x qp qd),cw (u8 (List.replicate 16 0)++zah zB (24+x.da.length+x.op.length - 16))] [] (by kernel_rfl) rfl rfl (d_s rfl rfl rfl (by kernel_rfl) (by refine zV (v:=iv x.k) rfl rfl ?_;exact rfl) ?_))))))
 refine d_n 2 7 4 [(124,pv 2 1),(123,.int .u8 (x.k % 256))] [zG qp (u8 Lo) false,zG qd (u8 Ld) false,cw (xF x qp qd),cw (u8 (List.replicate 16 0)++zah zB (24+x.da.length+x.op.length - 16))] [⟨4,[2],[],none⟩] (by kernel_rfl) rfl rfl (d_s rfl rfl rfl (by kernel_rfl) (by refine zV (v:=iv x.li) rfl rfl ?_;exact rfl) ?_)
 refine d_n 2 10 4 [(127,pv 2 2),(126,.int .u8 (x.li % 256))] [zG qp (u8 Lo) false,zG qd (u8 Ld) false,cw (xF x qp qd),cw (u8 (List.replicate 16 0)++zah zB (24+x.da.length+x.op.length - 16))] [⟨7,[2],[],none⟩,⟨4,[2],[],none⟩] (by kernel_rfl) rfl rfl (d_s rfl rfl rfl (by kernel_rfl) (by refine zV (v:=iv x.pi) rfl rfl ?_;exact rfl) ?_)
 refine d_n 2 13 4 [(130,pv 3 0),(129,.int .u8 (x.pi % 256))] [zG qp (u8 Lo) false,zG qd (u8 Ld) false,cw (xF x qp qd),cw (u8 (List.replicate 16 0)++zah zB (24+x.da.length+x.op.length - 16))] [⟨10,[2],[],none⟩,⟨7,[2],[],none⟩,⟨4,[2],[],none⟩] (by kernel_rfl) rfl rfl (d_s0 rfl rfl ⟨_,_,_,rfl⟩ (by kernel_rfl) (by refine zao (c':=u8 ((List.replicate 16 0).set 0 x.k)++zah zB (24+x.da.length+x.op.length - 16)) rfl rfl rfl ?_ ?_ ?_;exact rfl;exact (by simp only [List.length_append,qL];first | omega | (simp only [List.length_set,List.length_replicate,List.length_append];omega) | (simp;done) | (simp;omega));exact zeF (l:=List.replicate 16 0) (x:=x.k) lA rfl) ?_)
 refine d_n 1 15 4 [(131,pv 3 1)] [zG qp (u8 Lo) false,zG qd (u8 Ld) false,cw (xF x qp qd),cw (u8 ((List.replicate 16 0).set 0 x.k)++zah zB (24+x.da.length+x.op.length - 16))] [⟨13,[3],[3],none⟩,⟨10,[2],[],none⟩,⟨7,[2],[],none⟩,⟨4,[2],[],none⟩] (by kernel_rfl) rfl rfl (d_s0 rfl rfl ⟨_,_,_,rfl⟩ (by kernel_rfl) (by refine zao (c':=u8 (((List.replicate 16 0).set 0 x.k).set 1 x.li)++zah zB (24+x.da.length+x.op.length - 16)) rfl rfl rfl ?_ ?_ ?_;exact rfl;exact (by simp only [List.length_append,qL];first | omega | (simp only [List.length_set,List.length_replicate,List.length_append];omega) | (simp;done) | (simp;omega));exact zeF (l:=(List.replicate 16 0).set 0 x.k) (x:=x.li) lA rfl) ?_)
 refine d_n 1 17 4 [(132,pv 3 12)] [zG qp (u8 Lo) false,zG qd (u8 Ld) false,cw (xF x qp qd),cw (u8 (((List.replicate 16 0).set 0 x.k).set 1 x.li)++zah zB (24+x.da.length+x.op.length - 16))] [⟨15,[3],[3],none⟩,⟨13,[3],[3],none⟩,⟨10,[2],[],none⟩,⟨7,[2],[],none⟩,⟨4,[2],[],none⟩] (by kernel_rfl) rfl rfl (d_s0 rfl rfl ⟨_,_,_,rfl⟩ (by kernel_rfl) (by refine zao (c':=u8 ((((List.replicate 16 0).set 0 x.k).set 1 x.li).set 12 x.pi)++zah zB (24+x.da.length+x.op.length - 16)) rfl rfl rfl ?_ ?_ ?_;exact rfl;exact (by simp only [List.length_append,qL];first | omega | (simp only [List.length_set,List.length_replicate,List.length_append];omega) | (simp;done) | (simp;omega));exact zeF (l:=((List.replicate 16 0).set 0 x.k).set 1 x.li) (x:=x.pi) lA rfl) ?_)
 refine zgQ (zT [(8,sv 3 0 16 (16+(24+x.da.length+x.op.length - 16))),(7,iv (24+(x.da.length:Nat)+(x.op.length:Nat))),(6,bv (x.k==3)),(5,bv (x.k==2)),(1,pv 2 0)] (zJ (zN (o_d 2 [(134,iv (24+(x.da.length:Nat)+(x.op.length:Nat))),(133,sv 3 0 16 (16+(24+x.da.length+x.op.length - 16)))] ?_))))
 obtain ⟨m15,hm15⟩: ∃z9,zbh ((((List.replicate 16 0).set 0 x.k).set 1 x.li).set 12 x.pi) 2 2 (24+(x.da.length:Nat)+(x.op.length:Nat))=z9:=⟨_,rfl⟩
 have hm15l:m15.length=((((List.replicate 16 0).set 0 x.k).set 1 x.li).set 12 x.pi).length:=by rw [←hm15,zX]
 have hm15n:m15.length=16:=by rw [hm15l]<;>exact lA
 refine qT (zdy [3] [zG (some (0,16+(24+x.da.length+x.op.length - 16))) (u8 (((((List.replicate 16 0).set 0 x.k).set 1 x.li).set 12 x.pi)++List.replicate (24+x.da.length+x.op.length - 16) 0)) true] [zQ (some (0,16+(24+x.da.length+x.op.length - 16))) 0 (((((List.replicate 16 0).set 0 x.k).set 1 x.li).set 12 x.pi).length),iv 2,iv 2,iv (24+(x.da.length:Nat)+(x.op.length:Nat))] (zb5 (some (0,16+(24+x.da.length+x.op.length - 16))) (((((List.replicate 16 0).set 0 x.k).set 1 x.li).set 12 x.pi)++List.replicate (24+x.da.length+x.op.length - 16) 0) ((((List.replicate 16 0).set 0 x.k).set 1 x.li).set 12 x.pi) (zcA (l:=(((List.replicate 16 0).set 0 x.k).set 1 x.li).set 12 x.pi) (n:=16) (r:=(24+x.da.length+x.op.length - 16)) lA) 2 2 (24+(x.da.length:Nat)+(x.op.length:Nat)) lA lA lA) rfl (zM (zan rfl lA) (zM rfl (zM rfl (zM rfl rfl)))) ⟨⟨_,rfl,zaP⟩,trivial⟩ dC ?_)
 rintro v1 h1' ⟨rfl,rfl⟩
 refine ⟨.tuple #[],[zG qp (u8 Lo) false,zG qd (u8 Ld) false,cw (xF x qp qd),cw (u8 m15++zah zB (24+x.da.length+x.op.length - 16))],[],(by simp [zaI]),⟨rfl,rfl,rfl,(zb0 hm15 lA),trivial⟩,trivial, ?_⟩
 refine zE (zA (zJ (zN (o_d 2 [(137,pv 2 3),(136,sv 3 0 16 (16+(24+x.da.length+x.op.length - 16)))] (o_s (by refine zV (v:=iv x.fr) rfl rfl ?_;exact rfl) ?_)))))
 obtain ⟨m16,hm16⟩: ∃z9,zbh m15 4 4 x.fr=z9:=⟨_,rfl⟩
 have hm16l:m16.length=m15.length:=by rw [←hm16,zX]
 have hm16n:m16.length=16:=by rw [hm16l]<;>exact lA
 refine qT (zdy [3] [zG (some (0,16+(24+x.da.length+x.op.length - 16))) (u8 (m15++List.replicate (24+x.da.length+x.op.length - 16) 0)) true] [zQ (some (0,16+(24+x.da.length+x.op.length - 16))) 0 m15.length,iv 4,iv 4,iv x.fr] (zb5 (some (0,16+(24+x.da.length+x.op.length - 16))) (m15++List.replicate (24+x.da.length+x.op.length - 16) 0) m15 (zcA (l:=m15) (n:=16) (r:=(24+x.da.length+x.op.length - 16)) lA) 4 4 x.fr lA lA lA) rfl (zM (zan rfl lA) (zM rfl (zM rfl (zM rfl rfl)))) ⟨⟨_,rfl,zaP⟩,trivial⟩ dC ?_)
 rintro v1 h1' ⟨rfl,rfl⟩
 refine ⟨.tuple #[],[zG qp (u8 Lo) false,zG qd (u8 Ld) false,cw (xF x qp qd),cw (u8 m16++zah zB (24+x.da.length+x.op.length - 16))],[],(by simp [zaI]),⟨rfl,rfl,rfl,(zb0 hm16 lA),trivial⟩,trivial, ?_⟩
 refine zE (zA (zJ (zN (o_d 2 [(141,pv 2 4),(140,sv 3 0 16 (16+(24+x.da.length+x.op.length - 16)))] (o_s (by refine zV (v:=iv x.t) rfl rfl ?_;exact rfl) ?_)))))
 obtain ⟨m17,hm17⟩: ∃z9,zbh m16 8 4 x.t=z9:=⟨_,rfl⟩
 have hm17l:m17.length=m16.length:=by rw [←hm17,zX]
 have hm17n:m17.length=16:=by rw [hm17l]<;>exact lA
 refine qT (zdy [3] [zG (some (0,16+(24+x.da.length+x.op.length - 16))) (u8 (m16++List.replicate (24+x.da.length+x.op.length - 16) 0)) true] [zQ (some (0,16+(24+x.da.length+x.op.length - 16))) 0 m16.length,iv 8,iv 4,iv x.t] (zb5 (some (0,16+(24+x.da.length+x.op.length - 16))) (m16++List.replicate (24+x.da.length+x.op.length - 16) 0) m16 (zcA (l:=m16) (n:=16) (r:=(24+x.da.length+x.op.length - 16)) lA) 8 4 x.t lA lA lA) rfl (zM (zan rfl lA) (zM rfl (zM rfl (zM rfl rfl)))) ⟨⟨_,rfl,zaP⟩,trivial⟩ dC ?_)
 rintro v1 h1' ⟨rfl,rfl⟩
 refine ⟨.tuple #[],[zG qp (u8 Lo) false,zG qd (u8 Ld) false,cw (xF x qp qd),cw (u8 m17++zah zB (24+x.da.length+x.op.length - 16))],[],(by simp [zaI]),⟨rfl,rfl,rfl,(zb0 hm17 lA),trivial⟩,trivial, ?_⟩
 refine zE (zA (zJ (zN (o_d 2 [(145,sv 3 0 16 (16+(24+x.da.length+x.op.length - 16))),(144,sv 3 0 16 (16+(24+x.da.length+x.op.length - 16)))] (qT (zeC (a1:= [zQ (some (0,16+(24+x.da.length+x.op.length - 16))) 0 m17.length]) [3] [u8 (m17++List.replicate (24+x.da.length+x.op.length - 16) 0)] (refOf1C (some (0,16+(24+x.da.length+x.op.length - 16))) (m17++List.replicate (24+x.da.length+x.op.length - 16) 0) m17 (zcA (l:=m17) (n:=16) (r:=(24+x.da.length+x.op.length - 16)) lA) lA) rfl (fun _=>zM (zan rfl lA) rfl) ⟨⟨_,congrArg some (zcM _ _)⟩,zH _,trivial⟩ rfl ?_))))))
 have hy18:=zht m17
 obtain ⟨m19,hm19⟩: ∃z9,zbh m17 14 2 (65535 - zbR m17)=z9:=⟨_,rfl⟩
 have hm19l:m19.length=m17.length:=by rw [←hm19,zX]
 have hm19n:m19.length=16:=by rw [hm19l]<;>exact lA
 refine qT (zdy [3] [zG (some (0,16+(24+x.da.length+x.op.length - 16))) (u8 (m17++List.replicate (24+x.da.length+x.op.length - 16) 0)) true] [zQ (some (0,16+(24+x.da.length+x.op.length - 16))) 0 m17.length,iv 14,iv 2,iv (65535 - zbR m17)] (zb5 (some (0,16+(24+x.da.length+x.op.length - 16))) (m17++List.replicate (24+x.da.length+x.op.length - 16) 0) m17 (zcA (l:=m17) (n:=16) (r:=(24+x.da.length+x.op.length - 16)) lA) 14 2 (65535 - zbR m17) lA lA lA) rfl (zM (zan rfl lA) (zM rfl (zM rfl (zM rfl rfl)))) ⟨⟨_,rfl,zaP⟩,trivial⟩ dC ?_)
 rintro v1 h1' ⟨rfl,rfl⟩
 refine ⟨.tuple #[],[zG qp (u8 Lo) false,zG qd (u8 Ld) false,cw (xF x qp qd),cw (u8 m19++zah zB (24+x.da.length+x.op.length - 16))],[],(by simp [zaI]),⟨rfl,rfl,rfl,(zb0 hm19 lA),trivial⟩,trivial, ?_⟩
 refine zE (zA (zJ (zab (zJ (zN (o_d 2 [(164,bv (x.k==3)),(165,bv (x.k==3))] (zE (zA (qK (t:=x.k==3) rfl (fun q=>by rw [(by rw [hk];rfl:(x.k==3)=false)] at q;cases q) (fun _=>?_))))))))))
 refine zJ (zN (o_d 2 [(172,bv (x.k==2)),(173,bv (x.k==2))] (zE (zA (qK (t:=x.k==2) rfl (fun q=>by rw [(by rw [hk];rfl:(x.k==2)=false)] at q;cases q) (fun _=>?_))))))
 refine ziX (fun s=> ∃(b8:List Int),0=0∧(m19++List.replicate 8 (0:Int)++x.op=b8)∧s=⟨reg [(8,sv 3 0 (16+8+x.op.length) (16+8+x.op.length+(((24+x.da.length+x.op.length - 16) - 8) - x.op.length))),(6,bv (x.k==3)),(5,bv (x.k==2)),(1,pv 2 0)],[zG qp (u8 Lo) false,zG qd (u8 Ld) false,cw (xF x qp qd),cw (u8 b8++zah zB (((24+x.da.length+x.op.length - 16) - 8) - x.op.length))]⟩) ?_ ?_
 ·skip
  refine zeW [zG qp (u8 Lo) false,zG qd (u8 Ld) false,cw (xF x qp qd),cw (u8 m19++zah zB (24+x.da.length+x.op.length - 16)),.gone,.gone] (by kernel_rfl) (d_n 1 1 4 [(148,sv 3 0 16 (16+(24+x.da.length+x.op.length - 16)))] [zG qp (u8 Lo) false,zG qd (u8 Ld) false,cw (xF x qp qd),cw (u8 m19++zah zB (24+x.da.length+x.op.length - 16)),.gone,.gone] [] (by kernel_rfl) rfl rfl ?_)
  obtain ⟨m20,hm20⟩: ∃z9,m19++List.replicate 8 (0:Int)=z9:=⟨_,rfl⟩
  have hm20l:m20.length=16+8:=by rw [←hm20,List.length_append]<;>exact lA
  refine d_appF (q:=8) (r:=(24+x.da.length+x.op.length - 16)) (r2:=((24+x.da.length+x.op.length - 16) - 8)) (n:=16) (k:=3) (cs:=u8 m19) (xs:=u8 (List.replicate 8 (0:Int))) (cs2:=u8 m20) (zl:=zB) rfl rfl om rfl (by rw [qL]<;>exact lA) rfl (by kernel_rfl) (by kernel_rfl) (by rw [qL]<;>exact lA) (by rw [zcz,hm20]) rfl dC (by kernel_rfl) ?_
  refine d_n 1 3 5 [(150,pv 2 11)] [zG qp (u8 Lo) false,zG qd (u8 Ld) false,cw (xF x qp qd),cw (u8 m20++zah zB ((24+x.da.length+x.op.length - 16) - 8)),.gone,.gone] [⟨1,[3],[3],none⟩] (by kernel_rfl) rfl rfl (d_s rfl rfl rfl (by kernel_rfl) (by refine zV (v:=zQ qp 0 x.op.length) rfl rfl ?_;exact rfl) ?_)
  obtain ⟨m21,hm21⟩: ∃z9,m20++x.op=z9:=⟨_,rfl⟩
  have hm21l:m21.length=16+8+x.op.length:=by rw [←hm21,List.length_append]<;>exact lA
  rcases Nat.eq_zero_or_pos x.op.length with z22 | z22
  ·skip
   refine d_appF0 (q:=x.op.length) (r:=((24+x.da.length+x.op.length - 16) - 8)) (r2:=(((24+x.da.length+x.op.length - 16) - 8) - x.op.length)) (n:=16+8) (k:=3) (cs:=u8 m20) (xs:=u8 x.op) (cs2:=u8 m21) (zl:=zB) rfl rfl om rfl (by rw [qL]<;>exact lA) rfl (zcR _ _ _ hro.nil) (zcO rfl rfl hro) (by rw [qL]<;>exact lA) (by rw [zcz,hm21]) rfl z22 (by kernel_rfl) ?_
   refine d_n 1 6 6 [(8,sv 3 0 (16+8+x.op.length) (16+8+x.op.length+(((24+x.da.length+x.op.length - 16) - 8) - x.op.length)))] [zG qp (u8 Lo) false,zG qd (u8 Ld) false,cw (xF x qp qd),cw (u8 m21++zah zB (((24+x.da.length+x.op.length - 16) - 8) - x.op.length)),.gone,.gone] [⟨4,(rdE (.appR [(1,.int .u8 0)] 1 1 (.t 149) (.t 151)) (evf (reg [(151,zQ qp 0 x.op.length),(150,pv 2 11),(149,sv 3 0 (16+8) (16+8+((24+x.da.length+x.op.length - 16) - 8))),(148,sv 3 0 16 (16+(24+x.da.length+x.op.length - 16))),(172,bv (x.k==2)),(173,bv (x.k==2)),(164,bv (x.k==3)),(165,bv (x.k==3)),(147,.tuple #[]),(146,iv (65535 - zbR m17)),(145,sv 3 0 16 (16+(24+x.da.length+x.op.length - 16))),(144,sv 3 0 16 (16+(24+x.da.length+x.op.length - 16))),(143,.tuple #[]),(142,iv x.t),(141,pv 2 4),(140,sv 3 0 16 (16+(24+x.da.length+x.op.length - 16))),(139,.tuple #[]),(138,iv x.fr),(137,pv 2 3),(136,sv 3 0 16 (16+(24+x.da.length+x.op.length - 16))),(135,.tuple #[]),(134,iv (24+(x.da.length:Nat)+(x.op.length:Nat))),(133,sv 3 0 16 (16+(24+x.da.length+x.op.length - 16))),(8,sv 3 0 16 (16+(24+x.da.length+x.op.length - 16))),(7,iv (24+(x.da.length:Nat)+(x.op.length:Nat))),(6,bv (x.k==3)),(5,bv (x.k==2)),(1,pv 2 0)]))),[],none⟩,⟨3,[2],[],none⟩,⟨1,[3],[3],none⟩] (by kernel_rfl) rfl rfl (zgQ (⟨⟨reg [(8,sv 3 0 (16+8+x.op.length) (16+8+x.op.length+(((24+x.da.length+x.op.length - 16) - 8) - x.op.length))),(6,bv (x.k==3)),(5,bv (x.k==2)),(1,pv 2 0)],[zG qp (u8 Lo) false,zG qd (u8 Ld) false,cw (xF x qp qd),cw (u8 m21++zah zB (((24+x.da.length+x.op.length - 16) - 8) - x.op.length))]⟩, ?_⟩))
   refine ⟨?_, ?_⟩
   ·exact Wk.ren [0,1,2,3] rfl rfl dC ⟨rfl,rfl,rfl,rfl,trivial⟩ ⟨.inl (zF (zH _)),.inl (zF (zH _)),.inl (zcg rfl rfl),.inl (zW (zbj m21 (((24+x.da.length+x.op.length - 16) - 8) - x.op.length))),trivial⟩
   ·exact ⟨m21,rfl,(by rw [hm20,hm21]),rfl⟩
  ·skip
   refine d_appF (q:=x.op.length) (r:=((24+x.da.length+x.op.length - 16) - 8)) (r2:=(((24+x.da.length+x.op.length - 16) - 8) - x.op.length)) (n:=16+8) (k:=3) (cs:=u8 m20) (xs:=u8 x.op) (cs2:=u8 m21) (zl:=zB) rfl rfl om rfl (by rw [qL]<;>exact lA) rfl (zcR _ _ _ hro.nil) (zcO rfl rfl hro) (by rw [qL]<;>exact lA) (by rw [zcz,hm21]) rfl z22 (by kernel_rfl) ?_
   refine d_n 1 6 6 [(8,sv 3 0 (16+8+x.op.length) (16+8+x.op.length+(((24+x.da.length+x.op.length - 16) - 8) - x.op.length)))] [zG qp (u8 Lo) false,zG qd (u8 Ld) false,cw (xF x qp qd),cw (u8 m21++zah zB (((24+x.da.length+x.op.length - 16) - 8) - x.op.length)),.gone,.gone] [⟨4,(rdE (.appR [(1,.int .u8 0)] 1 1 (.t 149) (.t 151)) (evf (reg [(151,zQ qp 0 x.op.length),(150,pv 2 11),(149,sv 3 0 (16+8) (16+8+((24+x.da.length+x.op.length - 16) - 8))),(148,sv 3 0 16 (16+(24+x.da.length+x.op.length - 16))),(172,bv (x.k==2)),(173,bv (x.k==2)),(164,bv (x.k==3)),(165,bv (x.k==3)),(147,.tuple #[]),(146,iv (65535 - zbR m17)),(145,sv 3 0 16 (16+(24+x.da.length+x.op.length - 16))),(144,sv 3 0 16 (16+(24+x.da.length+x.op.length - 16))),(143,.tuple #[]),(142,iv x.t),(141,pv 2 4),(140,sv 3 0 16 (16+(24+x.da.length+x.op.length - 16))),(139,.tuple #[]),(138,iv x.fr),(137,pv 2 3),(136,sv 3 0 16 (16+(24+x.da.length+x.op.length - 16))),(135,.tuple #[]),(134,iv (24+(x.da.length:Nat)+(x.op.length:Nat))),(133,sv 3 0 16 (16+(24+x.da.length+x.op.length - 16))),(8,sv 3 0 16 (16+(24+x.da.length+x.op.length - 16))),(7,iv (24+(x.da.length:Nat)+(x.op.length:Nat))),(6,bv (x.k==3)),(5,bv (x.k==2)),(1,pv 2 0)]))),[3],none⟩,⟨3,[2],[],none⟩,⟨1,[3],[3],none⟩] (by kernel_rfl) rfl rfl (zgQ (⟨⟨reg [(8,sv 3 0 (16+8+x.op.length) (16+8+x.op.length+(((24+x.da.length+x.op.length - 16) - 8) - x.op.length))),(6,bv (x.k==3)),(5,bv (x.k==2)),(1,pv 2 0)],[zG qp (u8 Lo) false,zG qd (u8 Ld) false,cw (xF x qp qd),cw (u8 m21++zah zB (((24+x.da.length+x.op.length - 16) - 8) - x.op.length))]⟩, ?_⟩))
   refine ⟨?_, ?_⟩
   ·exact Wk.ren [0,1,2,3] rfl rfl dC ⟨rfl,rfl,rfl,rfl,trivial⟩ ⟨.inl (zF (zH _)),.inl (zF (zH _)),.inl (zcg rfl rfl),.inl (zW (zbj m21 (((24+x.da.length+x.op.length - 16) - 8) - x.op.length))),trivial⟩
   ·exact ⟨m21,rfl,(by rw [hm20,hm21]),rfl⟩
 rintro s ⟨b8,-,hb8,rfl⟩
 have hb8n:b8.length=16+8+x.op.length:=by rw [←hb8,List.length_append,List.length_append,List.length_replicate]<;>omega
 refine zeW [zG qp (u8 Lo) false,zG qd (u8 Ld) false,cw (xF x qp qd),cw (u8 b8++zah zB (((24+x.da.length+x.op.length - 16) - 8) - x.op.length))] (by kernel_rfl) (d_n 3 3 4 [(155,pv 2 7),(154,sv 3 0 (16+8+x.op.length) (16+8+x.op.length+(((24+x.da.length+x.op.length - 16) - 8) - x.op.length))),(153,sv 3 0 (16+8+x.op.length) (16+8+x.op.length+(((24+x.da.length+x.op.length - 16) - 8) - x.op.length)))] [zG qp (u8 Lo) false,zG qd (u8 Ld) false,cw (xF x qp qd),cw (u8 b8++zah zB (((24+x.da.length+x.op.length - 16) - 8) - x.op.length))] [] (by kernel_rfl) rfl rfl (d_s rfl rfl rfl (by kernel_rfl) (by refine zV (v:=iv x.fl) rfl rfl ?_;exact rfl) ?_))
 refine d_n 2 6 4 [(158,pv 2 11),(157,.int .u8 (x.fl % 256))] [zG qp (u8 Lo) false,zG qd (u8 Ld) false,cw (xF x qp qd),cw (u8 b8++zah zB (((24+x.da.length+x.op.length - 16) - 8) - x.op.length))] [⟨3,[2],[],none⟩] (by kernel_rfl) rfl rfl (d_s rfl rfl rfl (by kernel_rfl) (by refine zV (v:=zQ qp 0 x.op.length) rfl rfl ?_;exact rfl) ?_)
 refine d_s rfl rfl rfl (by kernel_rfl) (by exact qO rfl hro.nil) ?_
 refine d_n 1 9 4 [(161,.int .u8 (((x.op.length:Nat):Int) % 256))] [zG qp (u8 Lo) false,zG qd (u8 Ld) false,cw (xF x qp qd),cw (u8 b8++zah zB (((24+x.da.length+x.op.length - 16) - 8) - x.op.length))] [⟨6,[2],[],none⟩,⟨3,[2],[],none⟩] (by kernel_rfl) rfl rfl (d_s rfl rfl rfl (by kernel_rfl) (by exact zf5 (o:=0) (o':=20) rfl rfl lA lA) ?_)
 refine d_s0 rfl rfl ⟨_,_,_,rfl⟩ (by kernel_rfl) (by refine zao (c':=u8 (b8.set 20 x.fl)++zah zB (((24+x.da.length+x.op.length - 16) - 8) - x.op.length)) rfl rfl rfl ?_ ?_ ?_;exact rfl;exact (by simp only [List.length_append,qL];first | omega | (simp only [List.length_set,List.length_replicate,List.length_append];omega) | (simp;done) | (simp;omega));exact zeF (l:=b8) (x:=x.fl) lA rfl) ?_
 refine d_s rfl rfl rfl (by kernel_rfl) (by exact zf5 (o:=0) (o':=21) rfl rfl lA lA) ?_
 refine d_s0 rfl rfl ⟨_,_,_,rfl⟩ (by kernel_rfl) (by refine zao (c':=u8 (xm b8 x)++zah zB (((24+x.da.length+x.op.length - 16) - 8) - x.op.length)) rfl rfl rfl ?_ ?_ ?_;exact rfl;exact (by simp only [List.length_append,qL];first | omega | (simp only [List.length_set,List.length_replicate,List.length_append];omega) | (simp;done) | (simp;omega));exact zeF (l:=b8.set 20 x.fl) (x:=((x.op.length:Nat):Int)) lA rfl) ?_
 refine zgQ (zA (zJ (zJ (zN (o_d 2 [(181,bv (!(x.k==3))),(180,bv (x.k==3))] (zE (zA (qK (t:= !(x.k==3)) rfl (fun _=>?_) (fun q=>by rw [(by rw [(by rw [hk];rfl:(x.k==3)=false)];rfl:(!(x.k==3))=true)] at q;cases q)))))))))
 refine zJ (zN (o_d 2 [(183,pv 2 5),(182,sv 3 0 (16+8+x.op.length) (16+8+x.op.length+(((24+x.da.length+x.op.length - 16) - 8) - x.op.length)))] (o_s (by refine zV (v:=iv x.fp) rfl rfl ?_;exact rfl) ?_)))
 obtain ⟨m23,hm23⟩: ∃z9,zbh (xm b8 x) 16 2 x.fp=z9:=⟨_,rfl⟩
 have hm23l:m23.length=(xm b8 x).length:=by rw [←hm23,zX]
 have hm23n:m23.length=16+8+x.op.length:=by rw [hm23l]<;>exact lA
 refine qT (zdy [3] [zG (some (0,16+8+x.op.length+(((24+x.da.length+x.op.length - 16) - 8) - x.op.length))) (u8 ((xm b8 x)++List.replicate (((24+x.da.length+x.op.length - 16) - 8) - x.op.length) 0)) true] [zQ (some (0,16+8+x.op.length+(((24+x.da.length+x.op.length - 16) - 8) - x.op.length))) 0 ((xm b8 x).length),iv 16,iv 2,iv x.fp] (zb5 (some (0,16+8+x.op.length+(((24+x.da.length+x.op.length - 16) - 8) - x.op.length))) ((xm b8 x)++List.replicate (((24+x.da.length+x.op.length - 16) - 8) - x.op.length) 0) (xm b8 x) (zcA (l:=(b8.set 20 x.fl).set 21 ((x.op.length:Nat):Int)) (n:=16+8+x.op.length) (r:=(((24+x.da.length+x.op.length - 16) - 8) - x.op.length)) lA) 16 2 x.fp lA lA lA) rfl (zM (zan rfl lA) (zM rfl (zM rfl (zM rfl rfl)))) ⟨⟨_,rfl,zaP⟩,trivial⟩ dC ?_)
 rintro v1 h1' ⟨rfl,rfl⟩
 refine ⟨.tuple #[],[zG qp (u8 Lo) false,zG qd (u8 Ld) false,cw (xF x qp qd),cw (u8 m23++zah zB (((24+x.da.length+x.op.length - 16) - 8) - x.op.length))],[],(by simp [zaI]),⟨rfl,rfl,rfl,(zb0 hm23 lA),trivial⟩,trivial, ?_⟩
 refine zE (zA (zN (o_d 2 [(187,pv 2 6),(186,sv 3 0 (16+8+x.op.length) (16+8+x.op.length+(((24+x.da.length+x.op.length - 16) - 8) - x.op.length)))] (o_s (by refine zV (v:=iv x.tp) rfl rfl ?_;exact rfl) ?_))))
 obtain ⟨m24,hm24⟩: ∃z9,zbh m23 18 2 x.tp=z9:=⟨_,rfl⟩
 have hm24l:m24.length=m23.length:=by rw [←hm24,zX]
 have hm24n:m24.length=16+8+x.op.length:=by rw [hm24l]<;>exact lA
 refine qT (zdy [3] [zG (some (0,16+8+x.op.length+(((24+x.da.length+x.op.length - 16) - 8) - x.op.length))) (u8 (m23++List.replicate (((24+x.da.length+x.op.length - 16) - 8) - x.op.length) 0)) true] [zQ (some (0,16+8+x.op.length+(((24+x.da.length+x.op.length - 16) - 8) - x.op.length))) 0 m23.length,iv 18,iv 2,iv x.tp] (zb5 (some (0,16+8+x.op.length+(((24+x.da.length+x.op.length - 16) - 8) - x.op.length))) (m23++List.replicate (((24+x.da.length+x.op.length - 16) - 8) - x.op.length) 0) m23 (zcA (l:=m23) (n:=16+8+x.op.length) (r:=(((24+x.da.length+x.op.length - 16) - 8) - x.op.length)) lA) 18 2 x.tp lA lA lA) rfl (zM (zan rfl lA) (zM rfl (zM rfl (zM rfl rfl)))) ⟨⟨_,rfl,zaP⟩,trivial⟩ dC ?_)
 rintro v1 h1' ⟨rfl,rfl⟩
 refine ⟨.tuple #[],[zG qp (u8 Lo) false,zG qd (u8 Ld) false,cw (xF x qp qd),cw (u8 m24++zah zB (((24+x.da.length+x.op.length - 16) - 8) - x.op.length))],[],(by simp [zaI]),⟨rfl,rfl,rfl,(zb0 hm24 lA),trivial⟩,trivial, ?_⟩
 refine zE (zT [(8,sv 3 0 (16+8+x.op.length) (16+8+x.op.length+(((24+x.da.length+x.op.length - 16) - 8) - x.op.length))),(5,bv (x.k==2)),(1,pv 2 0)] (zJ (zN (o_d 2 [(191,pv 2 12),(190,sv 3 0 (16+8+x.op.length) (16+8+x.op.length+(((24+x.da.length+x.op.length - 16) - 8) - x.op.length)))] (o_s (by refine zV (v:=zQ qd 1 x.da.length) rfl rfl ?_;exact rfl) ?_)))))
 obtain ⟨m25,hm25⟩: ∃z9,m24++x.da=z9:=⟨_,rfl⟩
 have hm25l:m25.length=16+8+x.op.length+x.da.length:=by rw [←hm25,List.length_append]<;>exact lA
 refine o_appF (q:=x.da.length) (r:=(((24+x.da.length+x.op.length - 16) - 8) - x.op.length)) (r2:=((((24+x.da.length+x.op.length - 16) - 8) - x.op.length) - x.da.length)) (n:=16+8+x.op.length) (k:=3) (cs:=u8 m24) (xs:=u8 x.da) (cs2:=u8 m25) (zl:=zB) rfl rfl om rfl (by rw [qL]<;>exact lA) rfl (zcR _ _ _ hrd.nil) (zcO rfl rfl hrd) (by rw [qL]<;>exact lA) (by rw [zcz,hm25]) rfl ?_
 refine o_d 1 [(8,sv 3 0 (16+8+x.op.length+x.da.length) (16+8+x.op.length+x.da.length+((((24+x.da.length+x.op.length - 16) - 8) - x.op.length) - x.da.length)))] (zE ?_)
 have hB:bldB x=m25:=by
  unfold bldB;rw [if_neg om,if_neg om]
  unfold bldS bldH;rw [hm15,hm16,hm17,hm19,hb8,hm23,hm24,hm25]
 have hml:m25.length=(24+x.da.length+x.op.length):=by rw [hm25l]<;>omega
 refine ⟨⟨reg [(8,zQ (some (0,(24+x.da.length+x.op.length))) 3 (24+x.da.length+x.op.length)),(5,bv (x.k==2)),(1,pv 2 0)],[zG qp (u8 Lo) false,zG qd (u8 Ld) false,cw (xF x qp qd),zG (some (0,(24+x.da.length+x.op.length))) (u8 m25) true]⟩,Wk.ren [0,1,2,3] rfl rfl dC ⟨conv_sv rfl om om,rfl,rfl,trivial⟩ ⟨.inl (zF (zH _)),.inl (zF (zH _)),.inl (zcg rfl rfl),.inl (zjn om),trivial⟩, ?_⟩
 refine zJ (zN (o_d 1 [(194,zQ (some (0,(24+x.da.length+x.op.length))) 3 (24+x.da.length+x.op.length))] ?_))
 have hsl:=zhV m25
 refine qT (zaH [3] [zG (some (0,(24+x.da.length+x.op.length))) (u8 m25) false] [zQ (some (0,(24+x.da.length+x.op.length))) 0 m25.length] (summedC (some (0,(24+x.da.length+x.op.length))) m25 m25 (RowOf.whole rfl om) om om) rfl (zM (zan rfl lA) rfl) ⟨⟨_,rfl,z4 (zH _) rfl (fun q=>rfl)⟩,trivial⟩ dC ?_)
 rintro v1 h1' ⟨c26,rfl,rfl⟩
 refine ⟨zai [_] [_],sv 4 0 ((zbP m25).length) ((zbP m25).length+c26),[zG qp (u8 Lo) false,zG qd (u8 Ld) false,cw (xF x qp qd),zG (some (0,(24+x.da.length+x.op.length))) (u8 m25) true],[cw (u8 (zbP m25)++zah zB c26)],rfl,⟨rfl,rfl,rfl,rfl,trivial⟩,⟨(Option.some.inj (zW (zbj (zbP m25) c26))).symm,trivial⟩, ?_⟩
 refine qT (zeC (a1:= [sv 0 0 ((zbP m25).length) ((zbP m25).length+c26)]) [4] [u8 ((zbP m25)++List.replicate c26 0)] (refOf1C (some (0,(zbP m25).length+c26)) ((zbP m25)++List.replicate c26 0) (zbP m25) (zcA (l:=zbP m25) (n:=(zbP m25).length) (r:=c26) lA) lA) rfl (fun _=>rfl) ⟨⟨_,congrArg some (zcM _ _)⟩,zH _,trivial⟩ rfl ?_)
 have hy27:=zht (zbP m25)
 refine o_d 1 [(9,iv (65535 - zbR (zbP m25)))] (zE (zA (zJ (zJ (zN (o_d 2 [(198,bv (x.k==2)),(197,bv (x.k==2))] (zbC (b:=x.k==2) 198 rfl (fun q=>by rw [(by rw [hk];rfl:(x.k==2)=false)] at q;cases q) (fun k28=>?_))))))))
 refine o_d 3 [(201,bv false),(200,undef),(199,undef)] (zE (zA (zba rfl (qM (zA (ziX (fun s=> ∃(sx:Int),0=0∧(sx=bldX x)∧s=⟨reg [(9,iv sx),(8,zQ (some (0,(24+x.da.length+x.op.length))) 3 (24+x.da.length+x.op.length)),(1,pv 2 0)],[zG qp (u8 Lo) false,zG qd (u8 Ld) false,cw (xF x qp qd),zG (some (0,(24+x.da.length+x.op.length))) (u8 m25) true,cw (u8 (zbP m25)++zah zB c26)]⟩) ?_ ?_))))))
 ·skip
  refine zJ (zN (o_d 2 [(203,bv (x.k==2)),(202,bv (x.k==2))] (zbC (b:=x.k==2) 203 rfl (fun q=>by rw [(by rw [hk];rfl:(x.k==2)=false)] at q;cases q) (fun k29=>?_))))
  refine o_d 3 [(206,bv false),(205,undef),(204,undef)] (zE (zA (zba rfl (qM (⟨⟨reg [(9,iv (65535 - zbR (zbP m25))),(8,zQ (some (0,(24+x.da.length+x.op.length))) 3 (24+x.da.length+x.op.length)),(1,pv 2 0)],[zG qp (u8 Lo) false,zG qd (u8 Ld) false,cw (xF x qp qd),zG (some (0,(24+x.da.length+x.op.length))) (u8 m25) true,cw (u8 (zbP m25)++zah zB c26)]⟩, ?_⟩)))))
  refine ⟨?_, ?_⟩
  ·exact Wk.ren [0,1,2,3,4] rfl rfl dC ⟨rfl,rfl,rfl,trivial⟩ ⟨.inl (zF (zH _)),.inl (zF (zH _)),.inl (zcg rfl rfl),.inl (zF (zH _)),.inl (zW (zbj (zbP m25) c26)),trivial⟩
  ·exact ⟨(65535 - zbR (zbP m25)),rfl,(by rw [bldX,if_neg om,hB]),rfl⟩
 rintro s ⟨sx,-,hsx,rfl⟩
 refine zJ (zN (o_d 2 [(208,pv 2 0),(207,zQ (some (0,(24+x.da.length+x.op.length))) 3 (24+x.da.length+x.op.length))] (o_s (by refine zV (v:=iv x.k) rfl rfl ?_;exact rfl) ?_)))
 refine qT (zal (place22C om (placeC x.k)) rfl rfl rfl ?_)
 refine o_d 1 [(211,iv sx)] ?_
 obtain ⟨m30,hm30⟩: ∃z9,zbh m25 22 2 sx=z9:=⟨_,rfl⟩
 have hm30l:m30.length=m25.length:=by rw [←hm30,zX]
 refine qT (zaH [3] [zG (some (0,(24+x.da.length+x.op.length))) (u8 m25) true] [zQ (some (0,(24+x.da.length+x.op.length))) 0 m25.length,iv 22,iv 2,iv sx] (zb5 (some (0,(24+x.da.length+x.op.length))) m25 m25 (RowOf.whole rfl om) 22 2 sx lA lA lA) rfl (zM (zan rfl lA) (zM rfl (zM rfl (zM rfl rfl)))) ⟨⟨_,rfl,z4 (zH _) rfl (fun q=>rfl)⟩,trivial⟩ dC ?_)
 rintro v1 h1' ⟨rfl,rfl⟩
 refine ⟨(fun i q=>zcv q),.tuple #[],[zG qp (u8 Lo) false,zG qd (u8 Ld) false,cw (xF x qp qd),zG (some (0,(24+x.da.length+x.op.length))) (u8 m30) true,cw (u8 (zbP m25)++zah zB c26)],[],(by simp [zaI]),⟨rfl,rfl,rfl,(zcs hm30),rfl,trivial⟩,trivial, ?_⟩
 refine zE (zA (zJ (zN (o_d 3 [(3,iv 0),(2,zQ (some (0,(24+x.da.length+x.op.length))) 3 (24+x.da.length+x.op.length)),(213,zQ (some (0,(24+x.da.length+x.op.length))) 3 (24+x.da.length+x.op.length))] (zE (zA (qV ?_)))))))
 have he:bld x=m30:=by unfold bld;rw [hB,zgH,if_neg om,←hsx];exact hm30
 have hlen:m30.length=(24+x.da.length+x.op.length):=om
 exact ⟨trivial,[zQ (some (0,(24+x.da.length+x.op.length))) 3 (24+x.da.length+x.op.length),iv 0],(zU rfl (zU rfl rfl)),(zK rfl (zK rfl z5)),⟨reg [],[zG qp (u8 Lo) false,zG qd (u8 Ld) false,zG (some (0,(24+x.da.length+x.op.length))) (u8 m30) true]⟩,[0,1,3],[zQ (some (0,(24+x.da.length+x.op.length))) 2 (24+x.da.length+x.op.length),iv 0],WkR.of (rs:= []) rfl rfl dC trivial ⟨.inl (zF (zH _)),.inl (zF (zH _)),.inl (zF (zH _)),trivial⟩,rfl,(by rw [he,hlen];rfl),(by rw [he,hlen])⟩
end Go.Rh

namespace Go.Rh
theorem bld_len {x:Pk} (B:BOk x):24≤(bld x).length∧(bld x).length≤1500:=by
 have:=B.k;have:=B.da;have:=B.n
 rw [zgR];split
 ·omega
 ·split<;>omega
end Go.Rh

namespace Go.Rh
section
variable {C:zae} {K:St→Prop} {L:List (Nat×Value)} {h:List Blk} {z:RL} {zl:List Value} {size bytes q k d:Nat} {xs:List Value} {vx:Value} {s x:Opd} {rs:List ICell}
end
section
variable {l:List Int}
theorem hd2 (h: ¬l.length < 16) (h2: ¬(l.getD 0 0 % 256≥1∧l.getD 0 0 % 256≤3)):qU l=(2,pk0):=by
 have e:zb1 l=2:=by unfold zb1;rw [if_neg h,if_pos h2]
 unfold qU;rw [if_pos (by rw [e];decide),e]
theorem hd0 (h: ¬l.length < 16) (h2:l.getD 0 0 % 256≥1∧l.getD 0 0 % 256≤3) (h3: ¬(qD l 2 2≠(l.length:Int)∨(l.length:Int) > 1500∨l.getD 13 0 % 256≠0)) (h4:zbR (l.take 16)=65535) (h5: ¬(l.length < 24∨(l.getD 0 0 % 256=3∧l.length < 44))):zb1 l=0:=by
 unfold zb1;rw [if_neg h,if_neg om,if_neg h3,if_neg om,if_neg h5]
end
end Go.Rh

set_option maxHeartbeats 1000000
namespace Go.Rh
end Go.Rh

namespace Go.Rh
theorem stamp_st (v e:Int):zcq (stL v e)=some 4:=by kernel_rfl
theorem num_st (v e:Int) (hv:0≤v∧v < 4294967296) (he:0≤e∧e < 4294967296):qD (stL v e) 4 4=v∧qD (stL v e) 8 4=e:=by
 have e1:qD (stL v e) 4 4=(((0*256+v / 16777216 % 256)*256+v / 65536 % 256)*256+v / 256 % 256)*256+v % 256:=rfl
 have e2:qD (stL v e) 8 4=(((0*256+e / 16777216 % 256)*256+e / 65536 % 256)*256+e / 256 % 256)*256+e % 256:=rfl
 rw [e1,e2];omega
structure GoY (p y:q9):Prop where
  r:PRng y
  a:y 1=10∧y 2=80
  s: ∀k,k < 64→y (3+5*k)=p (3+5*k)
  c: ∀k f s,0≤s∧s < 64→zez (rgP y) k f (zc1 (rgP p) k f s)=some s
theorem goY_turn (ns:List Int) (ka kb:Int):GoY (zY ns 60) (qF (zY ns 60) ⟨6,0,0,0,0,ka,kb⟩).1:=by
 have I:=zeT ns (k:=60) dC
 have h0:(qF (zY ns 60) ⟨6,0,0,0,0,ka,kb⟩).2=0:=by rw [ziN]
 have hpl:=zfP ns 60
 refine ⟨(I.apply dC h0).rng dC,⟨(zfV h0).1.trans hpl.1,(zfV h0).2.trans hpl.2⟩,fun k hk=>(ziO h0 hk (.inr rfl)).1,fun k f s hs=>?_⟩
 have he:=I.ep
 rw [ziN]
 refine read_prev hs ?_ rfl rfl
 show i64.wrap (zY ns 60 323+1)=zY ns 60 323+1
 exact w1 om
end Go.Rh

namespace Go.Rh
def ui (l:List Int):List Value:=l.map fun x=> .int .u32 x
theorem zgU (l:List Int):(ui l).all zbp=true:=by simp [ui,zbp]
theorem ui_r {l:List Int} {i:Nat} {x:Int} {o:Nat} (ho:o=i) (h:l[i]? =some x):zaG none (ui l) o=some (.int .u32 x):=by
 subst ho;simp [zaG,ui,h]
theorem wf32 {n:Int} (h:(Lit.int .u32 n).wf=true):0≤n∧n < 4294967296:=by
 simp only [Lit.wf,Bool.and_eq_true,decide_eq_true_eq] at h
 have e1:IntKind.u32.min=0:=by decide
 have e2:IntKind.u32.max=4294967295:=by decide
 rw [e1,e2] at h;omega
structure NeY (p y:q9):Prop where
  r:PRng y
  a:y 1=10∧y 2=80
  f: ∀a b,za4 (zdo y a b) 0 64=za4 (zdo p a b) 0 64
theorem neY_same (ns:List Int):NeY (zY ns 60) (zY ns 60):=⟨(zeT ns (k:=60) dC).rng dC,zfP ns 60,fun _ _=>rfl⟩
theorem neY_turn (ns:List Int) (ka kb:Int):NeY (zY ns 60) (qF (zY ns 60) ⟨6,0,0,0,0,ka,kb⟩).1:=by
 have Y:=goY_turn ns ka kb
 have h0:(qF (zY ns 60) ⟨6,0,0,0,0,ka,kb⟩).2=0:=by rw [ziN]
 refine ⟨Y.r,Y.a,fun a b=>zfR _ _ fun k hk=>?_⟩
 have:=ziO h0 (k:=k) om (.inr rfl)
 unfold zdo;rw [this.1,this.2.1,this.2.2.1]
def zdn (fr fp v:Int):Pk:=⟨1,5,0,fr,4000,fp,0,2,0,false,0,stL v 1,[]⟩
theorem nePk_ok {fr fp v:Int} (h1:0≤fr∧fr≤4294967295) (h2:0≤fp∧fp≤65535):BOk (zdn fr fp v):=by
 constructor<;>simp only [zdn,stL_length,List.length_nil]<;>omega
theorem ne_slot {ns:List Int} {s:Int} (hs:0≤s∧s < 6) (ht:zdA (zY ns 60 (3+5*s.toNat))=true):(0≤zY ns 60 (3+5*s.toNat+1)∧zY ns 60 (3+5*s.toNat+1)≤4294967295)∧(0≤zY ns 60 (3+5*s.toNat+2)∧zY ns 60 (3+5*s.toNat+2)≤65535):=by
 have I:=(zeT ns (k:=60) dC).rng dC
 refine I.s s.toNat om fun e=>?_
 rw [e] at ht;revert ht;decide
theorem near_law {ns:List Int} {y:q9} (Y:NeY (zY ns 60) y) {s v:Int} (hs:0≤s∧s < 6) (ht:zdA (zY ns 60 (3+5*s.toNat))=true) (hv:0≤v∧v < 4294967296) (nr:zds):
  (qU (bld (zdn (zY ns 60 (3+5*s.toNat+1)) (zY ns 60 (3+5*s.toNat+2)) v))).2.k≠3∧(zaU y nr (bld (zdn (zY ns 60 (3+5*s.toNat+1)) (zY ns 60 (3+5*s.toNat+2)) v))).2=zbQ nr s.toNat (v,true):=by
 have R:=ne_slot hs ht
 have B:=nePk_ok (v:=v) R.1 R.2
 have hp:=parse_bld1 B rfl rfl rfl rfl
 have I:=zeT ns (k:=60) dC
 have hf:=find_it I (k:=s.toNat) om ht rfl rfl
 refine ⟨by rw [hp];show (1:Int)≠3;decide, ?_⟩
 rw [take_out (s:=s.toNat) hp rfl (by show (2:Int)≤5;decide) (by show (1:Int)≠3;decide) (by rw [Y.a.1];show¬((4000:Int)=10∧_);omega) ((Y.f _ _).trans hf)]
 dsimp only
 unfold outN;rw [if_neg (show¬(zdn (zY ns 60 (3+5*s.toNat+1)) (zY ns 60 (3+5*s.toNat+2)) v).k=2 from (by decide: ¬(1:Int)=2)),show (zdn (zY ns 60 (3+5*s.toNat+1)) (zY ns 60 (3+5*s.toNat+2)) v).op=stL v 1 from rfl,stamp_st]
 simp only
 rw [(num_st v 1 hv dC).1]
theorem zgL {nr:zds} {s:Int} (hs:0≤s∧s < 6):qZ nr s=nr s.toNat:=by unfold qZ;rw [if_neg om]
theorem nrSet_rng {nr:zds} (h: ∀k,0≤(nr k).1∧(nr k).1 < 4294967296) {i:Nat} {v:Int} {b:Bool} (hv:0≤v∧v < 4294967296): ∀k,0≤(zbQ nr i (v,b) k).1∧(zbQ nr i (v,b) k).1 < 4294967296:=fun k=>by
 unfold zbQ;split
 ·exact hv
 ·exact h k
end Go.Rh
