/- The proofs zcf the intermediate form, part QPlaneOrderf. -/
import Derived.Test.YtcgficakdfdepaaQPlaneOrdere
open Go.IntKind (i64)
set_option linter.unusedVariables false
set_option linter.unusedSimpArgs false
set_option maxRecDepth 100000
set_option maxHeartbeats 1000000
namespace Go.Rh
def zcS (nr:zdu) (s:Int):Int×Bool:=if s < 0∨64≤s then (0,false) else nr s.toNat
theorem NearC {P:Program} [PrC P] (p:q9) (is:Bool) (nr:zdu) (q:Option Nat) (s:Int):
    Env P "(*roundhouse/plane.Plane).Near" [pv 0 0,iv s] ([cr (zM p is nr (xH q)),cr []]) (fun v h'=>v= .tuple #[u32v (zcS nr s).1,bv (zcS nr s).2]∧h'= [cr (zM p is nr (xH q)),cr []]):=by
 refine Env.by2 PrC.plane_Plane_Near ?_
 unfold zdK
 show GC _ 2 _ _ ⟨reg [(0,pv 0 0),(1,iv s)],[cr (zM p is nr (xH q)),cr []]⟩
 refine zJ (zR (o_d 2 [(5,bv false),(4,.int .u32 0)] (zE (zC (zJ (zJ (zR (o_d 3 [(8,bv (decide (s < 0))),(7,bv (decide (s < 0))),(6,iv s)] (zby (b:=decide (s < 0)) 8 rfl (fun h1=>?_) (fun h1=>?_))))))))))
 ·skip
  have h1':s < 0:=of_decide_eq_true h1
  exact o_d 3 [(11,bv true),(10,undef),(9,undef)] (zE (zC (zcU rfl (zJ (zR (o_d 2 [(5,bv false),(4,.int .u32 0)] (zE (zC (qX (⟨trivial,⟨reg [(4,.int .u32 0),(5,bv false)],[cr (zM p is nr (xH q)),cr []]⟩,Wk.ren [0,1] rfl rfl dC ⟨rfl,rfl,trivial⟩ ⟨.inl (qD (zaP q rfl)),.inl rfl,trivial⟩,[.int .u32 0,bv false],(zV rfl (zV rfl rfl)),(zL rfl (zL rfl z4)),(by rw [zcS,if_pos om];rfl),rfl⟩))))))))))
 have h1': ¬(s < 0):=of_decide_eq_false h1
 refine o_d 3 [(11,bv (decide (s≥64))),(10,bv (decide (s≥64))),(9,iv s)] (zE (zC (qJ (t:=decide (s≥64)) rfl (fun h2=>?_) (fun h2=>?_))))
 ·skip
  have h2':s≥64:=of_decide_eq_true h2
  exact zJ (zR (o_d 2 [(5,bv false),(4,.int .u32 0)] (zE (zC (qX (⟨trivial,⟨reg [(4,.int .u32 0),(5,bv false)],[cr (zM p is nr (xH q)),cr []]⟩,Wk.ren [0,1] rfl rfl dC ⟨rfl,rfl,trivial⟩ ⟨.inl (qD (zaP q rfl)),.inl rfl,trivial⟩,[.int .u32 0,bv false],(zV rfl (zV rfl rfl)),(zL rfl (zL rfl z4)),(by rw [zcS,if_pos om];rfl),rfl⟩))))))
 have h2': ¬(s≥64):=of_decide_eq_false h2
 refine qK (zC (zJ (zbG [] (r_d 4 [(15,pv 0 331),(14,pv 0 0),(13,iv s),(12,pv 0 0)] (r_s (by exact zaT (o:=331) (o':=331+2*s.toNat) rfl rfl om om) ?_)))))
 refine r_s (by refine zcH (o':=331+2*s.toNat) rfl om) ?_
 refine r_s (by refine zX (v:= .int .u32 ((nr s.toNat).1)) rfl rfl ?_;exact zjf (i:=s.toNat) (j:=0) om om rfl) ?_
 refine r_d 4 [(22,pv 0 331),(21,pv 0 0),(20,iv s),(19,pv 0 0)] (r_s (by exact zaT (o:=331) (o':=331+2*s.toNat) rfl rfl om om) ?_)
 refine r_s (by refine zcH (o':=332+2*s.toNat) rfl om) ?_
 refine r_s (by refine zX (v:=bv ((nr s.toNat).2)) rfl rfl ?_;exact zjf (i:=s.toNat) (j:=1) om om rfl) ?_
 exact r_d 2 [(5,bv ((nr s.toNat).2)),(4,.int .u32 ((nr s.toNat).1))] (zbo (zT [(5,bv ((nr s.toNat).2)),(4,.int .u32 ((nr s.toNat).1))] (qX (⟨trivial,⟨reg [(4,.int .u32 ((nr s.toNat).1)),(5,bv ((nr s.toNat).2))],[cr (zM p is nr (xH q)),cr []]⟩,Wk.ren [0,1] rfl rfl dC ⟨rfl,rfl,trivial⟩ ⟨.inl (qD (zaP q rfl)),.inl rfl,trivial⟩,[.int .u32 ((nr s.toNat).1),bv ((nr s.toNat).2)],(zV rfl (zV rfl rfl)),(zL rfl (zL rfl z4)),(by rw [zcS,if_neg om];rfl),rfl⟩))))
theorem LayUC {P:Program} [PrC P] (p:q9) (is:Bool) (nr:zdu) (q:Option Nat) (i:Nat) (v:Int) (hi:i < 64):
    Env P "(*roundhouse/plane.maybe[uint32]).lay" [pv 0 (331+2*i),.int .u32 v] ([cw (zM p is nr (xH q)),cr []]) (fun w h'=>w= .tuple #[]∧h'= [cw (zM p is (zcg nr i (v,true)) (xH q)),cr []]):=by
 refine Env.by2 PrC.plane_maybe_uint32_lay ?_
 unfold zcl
 show GC _ 2 _ _ ⟨reg [(0,pv 0 (331+2*i)),(1,.int .u32 v)],[cw (zM p is nr (xH q)),cr []]⟩
 refine zR (o_d 4 [(7,pv 0 (331+2*i)),(6,.int .u32 v),(5,pv 0 (331+2*i)),(4,pv 0 (331+2*i))] (o_s (by refine zcH (o':=331+2*i) rfl om) ?_))
 refine zdn (by refine zat (c':=zM p is (zcg nr i (v,(nr i).2)) (xH q)) rfl rfl rfl ?_ ?_ ?_;exact rfl;exact zfh om;exact plane_wN (i:=i) (j:=0) (y:=(v,(nr i).2)) om om (Nat.le_of_ble_eq_true rfl) rfl) ?_
 refine o_b 1 [(9,pv 0 (331+2*i))] [cw (zM p is (zcg nr i (v,(nr i).2)) (xH q)),cr []] (o_s (by refine zcH (o':=332+2*i) rfl om) ?_)
 refine zdn (by refine zat (c':=zM p is (zcg (zcg nr i (v,(nr i).2)) i (((zcg nr i (v,(nr i).2)) i).1,true)) (xH q)) rfl rfl rfl ?_ ?_ ?_;exact rfl;exact zfh om;exact plane_wN (i:=i) (j:=1) (y:=(((zcg nr i (v,(nr i).2)) i).1,true)) om om (Nat.le_of_ble_eq_true rfl) rfl) ?_
 exact zE (⟨trivial,⟨reg [],[cw (zM p is (zcg (zcg nr i (v,(nr i).2)) i (((zcg nr i (v,(nr i).2)) i).1,true)) (xH q)),cr []]⟩,Wk.ren [0,1] rfl rfl dC trivial ⟨.inl (qD (zaP q rfl)),.inl rfl,trivial⟩,[],rfl,z4,rfl,(by rw [nrSet_set,nrSet_at])⟩)
abbrev wx (a:Pk) (b:Option (Nat×Nat)) (c:Nat) (d:Nat) (e:Nat) (f:Bool) (g:q9) (h:Bool) (i:zdu) j k:=cr (qS a (zD a.op) 1 b 2 3 (some (c,d)) 4 e)::zG (zD a.op) (u8 a.op) false::zaB f::cr (zM g h i (slV 5 127 j))::cr []::k
abbrev xl (a:Nat) (b:Nat) (c:Nat) (d:Nat) (e:Nat) (f:Nat) (g:Nat) (h:Nat) (i:Nat):=[(a,bv false),(b,.int .u32 0),(c,.int .u32 0),(d,iv 0),(e,bv false),(f,.int .u32 0),(g,.int .u32 0),(h,iv 0),(i,.tuple #[iv 0,.int .u32 0,.int .u32 0,bv false])]
abbrev WB (a:Fl) (b:q9):=[cr [],cw (vH a),cw [iv (b 323),uv (b 324),uv (b 325),uv (b 326),uv (b 327),uv (b 328),uv (b 329)]]
theorem carriedC {P:Program} [PrC P] (p:q9) (is:Bool) (nr:zdu) (q:Option Nat) (x:Pk) (qd:Option (Nat×Nat)) (o c n:Nat) (zd:Bool) (f:Fl) (r:Option Int) (ho:ziv p x f=r) (hl:x.op.length≤100000) (H:PRng p):
    Env P "(*roundhouse/plane.packet).carried" [pv 0 0,.agg (wZ f)] ((wx x qd o c n zd p is nr q [cr []])) (fun v h'=>v=zd0 r∧h'= (wx x qd o c n zd p is nr q [cr []])):=by
 refine Env.by2 PrC.plane_packet_carried ?_
 unfold zcD
 show GC _ 6 _ _ ⟨reg [(0,pv 0 0),(1,.agg (wZ f))],(wx x qd o c n zd p is nr q [cr []])⟩
 have hep:=H.e
 refine zJ (zR (o_b 3 [(5,bv false),(4,iv 0),(3,pv 6 0)] (wx x qd o c n zd p is nr q [cr [],cw (vH f)]) (zE (zC (zJ (zR (o_d 3 (xy 15 0 13 14 0 13 0) (o_s (by refine zX (v:=pv 3 0) rfl rfl ?_;exact rfl) ?_))))))))
 refine o_d 4 (wM 20 3 323 19 3 18 3 17 3) (o_s (by refine zX (v:= .agg (vR p)) rfl rfl ?_;exact zeq (pl_ring p)) ?_)
 refine o_b 2 [(6,pv 7 0)] (wx x qd o c n zd p is nr q (WB f p)) (zE (zC (zJ (zJ (zR (o_d 4 (wM 25 0 0 24 0 23 0 22 0) (o_s (by refine zX (v:=iv x.k) rfl rfl ?_;exact rfl) ?_)))))))
 refine o_d 1 [(27,bv (x.k==2))] (zE (zC (qJ (t:=x.k==2) rfl (fun h1=>?_) (fun h1=>?_))))
 ·skip
  have h1':x.k=2:=zaz h1
  refine zJ (zJ (zR (o_d 4 (wM 31 0 8 30 0 29 0 28 0) (o_s (by refine zX (v:=iv x.la) rfl rfl ?_;exact rfl) ?_))))
  refine o_d 1 [(33,bv (x.la==0))] (zE (zT [(33,bv (x.la==0)),(6,pv 7 0),(3,pv 6 0),(0,pv 0 0)] (qJ (t:=x.la==0) rfl (fun h2=>?_) (fun h2=>?_))))
  ·skip
   have h2':x.la=0:=zaz h2
   refine zJ (zR (o_d 2 (vV 5 4) (zE (zC (qX ?_)))))
   have he:ziv p x f=none:=by
    unfold ziv
    rw [if_pos (by assumption)]
    rw [if_pos (by assumption)]
   exact ⟨trivial,⟨reg (WM 4 5),(wx x qd o c n zd p is nr q [cr []])⟩,Wk.ren [0,1,2,3,4,5] rfl rfl dC ⟨rfl,rfl,trivial⟩ ⟨.inl (zax rfl rfl rfl rfl),.inl (zF (zH _)),.inl (congrArg some (zaJ _).symm),.inl (qD (zaP q rfl)),.inl rfl,.inl rfl,trivial⟩,WO,(zV rfl (zV rfl rfl)),(zL rfl (zL rfl z4)),(congrArg zd0 (he.symm.trans ho)),rfl⟩
  have h2': ¬(x.la=0):=zaA h2
  refine qK (zC (zJ (zbG [] (r_d 5 [(38,pv 0 0),(37,pv 0 0),(36,pv 0 0),(35,pv 0 0),(34,.agg (vR p))] (r_s (by refine zX (v:=iv x.k) rfl rfl ?_;exact rfl) ?_)))))
  refine r_d 5 [(44,pv 0 8),(43,pv 0 0),(42,pv 0 0),(41,pv 0 0),(40,.agg (wZ f))] (r_s (by refine zX (v:=iv x.la) rfl rfl ?_;exact rfl) ?_)
  rcases r3:zf8 (rgP p) x.k f x.la with _ | s4
  ·skip
   refine zfW (zbV (cReadC (rgP p) x.k f x.la none r3 (by exact hep)) rfl rfl rfl ?_)
   refine r_d 4 [(5,bv false),(4,iv 0),(48,bv false),(47,iv 0)] (zbo (zC (qX ?_)))
   have he:ziv p x f=none:=by
    unfold ziv
    rw [if_pos (by assumption)]
    rw [if_neg (by assumption)]
    exact r3
   exact ⟨trivial,⟨reg (WM 4 5),(wx x qd o c n zd p is nr q [cr []])⟩,Wk.ren [0,1,2,3,4,5] rfl rfl dC ⟨rfl,rfl,trivial⟩ ⟨.inl (zax rfl rfl rfl rfl),.inl (zF (zH _)),.inl (congrArg some (zaJ _).symm),.inl (qD (zaP q rfl)),.inl rfl,.inl rfl,trivial⟩,WO,(zV rfl (zV rfl rfl)),(zL rfl (zL rfl z4)),(congrArg zd0 (he.symm.trans ho)),rfl⟩
  ·skip
   have hs4:=readS_r r3
   refine zfW (zbV (cReadC (rgP p) x.k f x.la (some s4) r3 (by exact hep)) rfl rfl rfl ?_)
   refine r_d 4 [(5,bv true),(4,iv s4),(48,bv true),(47,iv s4)] (zbo (zC (qX ?_)))
   have he:ziv p x f=some s4:=by
    unfold ziv
    rw [if_pos (by assumption)]
    rw [if_neg (by assumption)]
    exact r3
   exact ⟨trivial,⟨reg [(4,iv s4),(5,bv true)],(wx x qd o c n zd p is nr q [cr []])⟩,Wk.ren [0,1,2,3,4,5] rfl rfl dC ⟨rfl,rfl,trivial⟩ ⟨.inl (zax rfl rfl rfl rfl),.inl (zF (zH _)),.inl (congrArg some (zaJ _).symm),.inl (qD (zaP q rfl)),.inl rfl,.inl rfl,trivial⟩,[iv s4,bv true],(zV rfl (zV rfl rfl)),(zL rfl (zL rfl z4)),(congrArg zd0 (he.symm.trans ho)),rfl⟩
 have h1': ¬(x.k=2):=zaA h1
 refine qK (zC (zJ (zR (o_d 4 (wM 53 0 11 52 0 51 0 50 0) (o_s (by refine zX (v:=zN (zD x.op) 1 x.op.length) rfl rfl ?_;exact rfl) ?_)))))
 rcases ha5:zcA x.op with _ | a5
 ·skip
  refine qW (zaK [1] [zG (zD x.op) (u8 x.op) false] [zN (zD x.op) 0 x.op.length] (zgz ha5 (zjJ (zD x.op) x.op x.op (zcN x.op) om)) rfl (zQ (qI rfl) rfl) ⟨⟨_,rfl,zY (zH _) rfl (fun q=>q)⟩,trivial⟩ dC ?_)
  rintro v1 h1' ⟨rfl,rfl⟩
  refine ⟨zak [_] [],.tuple #[iv 0,.int .u32 0,.int .u32 0,bv false],(wx x qd o c n zd p is nr q (WB f p)),[],(qR rfl),⟨rfl,(za0 rfl rfl),rfl,rfl,rfl,rfl,rfl,rfl,trivial⟩,trivial, ?_⟩
  refine o_d 9 (xl 10 9 8 7 59 58 57 56 49) (zE (zT [(10,bv false),(9,.int .u32 0),(6,pv 7 0),(3,pv 6 0),(0,pv 0 0)] (zJ (zJ (zR (o_d 10 [(69,bv true),(68,undef),(67,undef),(66,undef),(65,undef),(64,undef),(63,undef),(62,bv true),(61,bv true),(60,bv false)] (zE (zC (zcU rfl (zJ (zR (o_d 2 (vV 5 4) ?_))))))))))))
  refine zE (zC (qX ?_))
  have he:ziv p x f=none:=by
   unfold ziv
   rw [if_neg (by assumption)]
   simp only [ha5]
  exact ⟨trivial,⟨reg (WM 4 5),(wx x qd o c n zd p is nr q [cr []])⟩,Wk.ren [0,1,2,3,4,5] rfl rfl dC ⟨rfl,rfl,trivial⟩ ⟨.inl (zax rfl rfl rfl rfl),.inl (zF (zH _)),.inl (congrArg some (zaJ _).symm),.inl (qD (zaP q rfl)),.inl rfl,.inl rfl,trivial⟩,WO,(zV rfl (zV rfl rfl)),(zL rfl (zL rfl z4)),(congrArg zd0 (he.symm.trans ho)),rfl⟩
 ·skip
  have ha5r:=stampO_r ha5
  have ha5m:=zes x.op a5 4 dC
  have ha5n:=zes x.op (a5+4) 4 dC
  refine qW (zaK [1] [zG (zD x.op) (u8 x.op) false] [zN (zD x.op) 0 x.op.length] (zgy ha5 (zjJ (zD x.op) x.op x.op (zcN x.op) om)) rfl (zQ (qI rfl) rfl) ⟨⟨_,rfl,zY (zH _) rfl (fun q=>q)⟩,trivial⟩ dC ?_)
  rintro v1 h1' ⟨rfl,rfl⟩
  refine ⟨zak [_] [],.tuple #[iv (a5:Nat),.int .u32 (qE x.op a5 4),.int .u32 (qE x.op (a5+4) 4),bv true],(wx x qd o c n zd p is nr q (WB f p)),[],(qR rfl),⟨rfl,(za0 rfl rfl),rfl,rfl,rfl,rfl,rfl,rfl,trivial⟩,trivial, ?_⟩
  refine o_d 9 [(10,bv true),(9,.int .u32 (qE x.op (a5+4) 4)),(8,.int .u32 (qE x.op a5 4)),(7,iv (a5:Nat)),(59,bv true),(58,.int .u32 (qE x.op (a5+4) 4)),(57,.int .u32 (qE x.op a5 4)),(56,iv (a5:Nat)),(49,.tuple #[iv (a5:Nat),.int .u32 (qE x.op a5 4),.int .u32 (qE x.op (a5+4) 4),bv true])] (zE (zT [(10,bv true),(9,.int .u32 (qE x.op (a5+4) 4)),(6,pv 7 0),(3,pv 6 0),(0,pv 0 0)] (zJ (zJ (zR (o_d 7 [(66,pv 0 7),(65,pv 0 0),(64,pv 0 0),(63,pv 0 0),(62,bv false),(61,bv false),(60,bv true)] (qC rfl (o_s (by refine zX (v:=iv x.fl) rfl rfl ?_;exact rfl) ?_))))))))
  refine o_d 2 [(69,bv (x.fl==1)),(68,bv (x.fl==1))] (zE (zC (qJ (t:=x.fl==1) rfl (fun h6=>?_) (fun h6=>?_))))
  ·skip
   have h6':x.fl=1:=zaz h6
   refine zJ (zR (o_d 2 (vV 5 4) (zE (zC (qX ?_)))))
   have he:ziv p x f=none:=by
    unfold ziv
    rw [if_neg (by assumption)]
    simp only [ha5]
    exact if_pos (by assumption)
   exact ⟨trivial,⟨reg (WM 4 5),(wx x qd o c n zd p is nr q [cr []])⟩,Wk.ren [0,1,2,3,4,5] rfl rfl dC ⟨rfl,rfl,trivial⟩ ⟨.inl (zax rfl rfl rfl rfl),.inl (zF (zH _)),.inl (congrArg some (zaJ _).symm),.inl (qD (zaP q rfl)),.inl rfl,.inl rfl,trivial⟩,WO,(zV rfl (zV rfl rfl)),(zL rfl (zL rfl z4)),(congrArg zd0 (he.symm.trans ho)),rfl⟩
  have h6': ¬(x.fl=1):=zaA h6
  refine qK (zC (zJ (zR (o_d 1 [(71,.int .u32 (qE x.op (a5+4) 4))] (qW (zae (cGetC (qE x.op (a5+4) 4) om) rfl rfl rfl ?_))))))
  refine o_d 5 [(12,iv ((qE x.op (a5+4) 4) % 1048576)),(11,iv ((qE x.op (a5+4) 4) / 1048576)),(74,iv ((qE x.op (a5+4) 4) % 1048576)),(73,iv ((qE x.op (a5+4) 4) / 1048576)),(70,.tuple #[iv ((qE x.op (a5+4) 4) / 1048576),iv ((qE x.op (a5+4) 4) % 1048576)])] (zE (zC (zJ (zbG [] (r_d 5 [(79,pv 0 0),(78,pv 0 0),(77,pv 0 0),(76,pv 0 0),(75,.agg (vR p))] (r_s (by refine zX (v:=iv x.k) rfl rfl ?_;exact rfl) ?_))))))
  refine r_d 2 [(82,iv ((qE x.op (a5+4) 4) % 1048576)),(81,.agg (wZ f))] ?_
  rcases r7:zf8 (rgP p) x.k f ((qE x.op (a5+4) 4) % 1048576) with _ | s8
  ·skip
   refine zfW (zbV (cReadC (rgP p) x.k f ((qE x.op (a5+4) 4) % 1048576) none r7 (by exact hep)) rfl rfl rfl ?_)
   refine r_d 4 [(5,bv false),(4,iv 0),(85,bv false),(84,iv 0)] (zbo (zT (vV 5 4) (qX ?_)))
   have he:ziv p x f=none:=by
    unfold ziv
    rw [if_neg (by assumption)]
    simp only [ha5]
    rw [if_neg (by assumption)]
    exact r7
   exact ⟨trivial,⟨reg (WM 4 5),(wx x qd o c n zd p is nr q [cr []])⟩,Wk.ren [0,1,2,3,4,5] rfl rfl dC ⟨rfl,rfl,trivial⟩ ⟨.inl (zax rfl rfl rfl rfl),.inl (zF (zH _)),.inl (congrArg some (zaJ _).symm),.inl (qD (zaP q rfl)),.inl rfl,.inl rfl,trivial⟩,WO,(zV rfl (zV rfl rfl)),(zL rfl (zL rfl z4)),(congrArg zd0 (he.symm.trans ho)),rfl⟩
  ·skip
   have hs8:=readS_r r7
   refine zfW (zbV (cReadC (rgP p) x.k f ((qE x.op (a5+4) 4) % 1048576) (some s8) r7 (by exact hep)) rfl rfl rfl ?_)
   refine r_d 4 [(5,bv true),(4,iv s8),(85,bv true),(84,iv s8)] (zbo (zT [(5,bv true),(4,iv s8)] (qX ?_)))
   have he:ziv p x f=some s8:=by
    unfold ziv
    rw [if_neg (by assumption)]
    simp only [ha5]
    rw [if_neg (by assumption)]
    exact r7
   exact ⟨trivial,⟨reg [(4,iv s8),(5,bv true)],(wx x qd o c n zd p is nr q [cr []])⟩,Wk.ren [0,1,2,3,4,5] rfl rfl dC ⟨rfl,rfl,trivial⟩ ⟨.inl (zax rfl rfl rfl rfl),.inl (zF (zH _)),.inl (congrArg some (zaJ _).symm),.inl (qD (zaP q rfl)),.inl rfl,.inl rfl,trivial⟩,[iv s8,bv true],(zV rfl (zV rfl rfl)),(zL rfl (zL rfl z4)),(congrArg zd0 (he.symm.trans ho)),rfl⟩
end Go.Rh

set_option maxHeartbeats 1000000
namespace Go.Rh
theorem over_no {k s:Nat} {ss:List Nat} {b:Blk} {bs:List Blk} (h: ¬(s=k∧b.rw=true)) (h2:zcf k ss bs=none):zcf k (s::ss) (b::bs)=none:=by
 simp only [zcf];rw [if_neg h,h2]
theorem zhD {k s:Nat} {b:Blk} {ss:List Nat} {bs:List Blk} {q:Option (Nat×Nat)} {ρ:Nat→Nat} {c:List Value} {rw:Bool} (hb:q=none→b= .gone) (hc: ∀v,q=some v→b.rw=false) (h2:zcf k ss bs=none):(match zcf k (s::ss) (b::bs) with | some b'=>zbn ρ b' | none=>zG q c rw)=zG q c rw:=by
 cases q with
 | none=>
  rw [hb rfl]
  simp only [zcf]
  by_cases h:s=k
  ·rw [if_pos ⟨h,rfl⟩];rfl
  ·rw [if_neg (fun t=>h t.1),h2]
 | some v=>rw [over_no (fun t=>by rw [hc v rfl] at t;cases t.2) h2]
theorem hid1 {k s0 s1:Nat} {b0:Blk} {ss:List Nat} {bs:List Blk} {q:Option (Nat×Nat)} {ρ:Nat→Nat} {c:List Value} {rw:Bool} (h0: ¬s0=k) (h2:zcf k ss bs=none):(match zcf k (s0::s1::ss) (b0::zaB q.isSome::bs) with | some b'=>zbn ρ b' | none=>zG q c rw)=zG q c rw:=by
 have h:zcf k (s0::s1::ss) (b0::zaB q.isSome::bs)=zcf k (s1::ss) (zaB q.isSome::bs):=by rw [zcf,if_neg (fun t=>h0 t.1)]
 rw [h];exact zhD (fun e=>by subst e;rfl) (fun v e=>by subst e;rfl) h2
theorem hid2 {k s0 s1 s2:Nat} {b0 b1:Blk} {ss:List Nat} {bs:List Blk} {q:Option (Nat×Nat)} {ρ:Nat→Nat} {c:List Value} {rw:Bool} (h0: ¬s0=k) (h1: ¬s1=k) (h2:zcf k ss bs=none):(match zcf k (s0::s1::s2::ss) (b0::b1::zaB q.isSome::bs) with | some b'=>zbn ρ b' | none=>zG q c rw)=zG q c rw:=by
 have h:zcf k (s0::s1::s2::ss) (b0::b1::zaB q.isSome::bs)=zcf k (s2::ss) (zaB q.isSome::bs):=by rw [zcf,if_neg (fun t=>h0 t.1),zcf,if_neg (fun t=>h1 t.1)]
 rw [h];exact zhD (fun e=>by subst e;rfl) (fun v e=>by subst e;rfl) h2
theorem row1 {k s0 s1:Nat} {b0:Blk} {ss:List Nat} {bs:List Blk} {q:Option (Nat×Nat)} {ρ:Nat→Nat} {c:List Value} {rw:Bool} {d:List Value} (h0: ¬s0=k) (h2:zcf k ss bs=none):(match zcf k (s0::s1::ss) (b0::zG q d false::bs) with | some b'=>zbn ρ b' | none=>zG q c rw)=zG q c rw:=by
 have h:zcf k (s0::s1::ss) (b0::zG q d false::bs)=zcf k (s1::ss) (zG q d false::bs):=by rw [zcf,if_neg (fun t=>h0 t.1)]
 rw [h];exact zhD (fun e=>by subst e;rfl) (fun v e=>by subst e;rfl) h2
theorem row2 {k s0 s1 s2:Nat} {b0 b1:Blk} {ss:List Nat} {bs:List Blk} {q:Option (Nat×Nat)} {ρ:Nat→Nat} {c:List Value} {rw:Bool} {d:List Value} (h0: ¬s0=k) (h1: ¬s1=k) (h2:zcf k ss bs=none):(match zcf k (s0::s1::s2::ss) (b0::b1::zG q d false::bs) with | some b'=>zbn ρ b' | none=>zG q c rw)=zG q c rw:=by
 have h:zcf k (s0::s1::s2::ss) (b0::b1::zG q d false::bs)=zcf k (s2::ss) (zG q d false::bs):=by rw [zcf,if_neg (fun t=>h0 t.1),zcf,if_neg (fun t=>h1 t.1)]
 rw [h];exact zhD (fun e=>by subst e;rfl) (fun v e=>by subst e;rfl) h2
theorem zbm {ρ:Nat→Nat} {a b:Int} {c:Bool} {q:Option (Nat×Nat)} {k k' n:Nat} (h:ρ k=k'):zaL ρ (.agg #[iv a,iv b,bv c,zN q k n])= .agg #[iv a,iv b,bv c,zN q k' n]:=by
 simp only [zaL,zeG,List.map_toArray,List.map_cons,List.map_nil,zcP h];rfl
theorem chgR {P:Program} {g:String} {l m f:List Int} {rest:List Value} {o c n:Nat} {L:List Int} (hm:f=m) (hn:l.length=n) (h:Env P g (zN (some (o,c)) 0 l.length::rest) [zG (some (o,c)) (u8 L) false] (fun v h'=>v= .tuple #[zN (some (0,l.length)) 1 l.length,iv 0]∧h'= [zG (some (o,c)) (u8 L) false,zG (some (0,l.length)) (u8 f) true])):
  Env P g (zN (some (o,c)) 0 n::rest) [zG (some (o,c)) (u8 L) false] (fun v h'=>v= .tuple #[zN (some (0,n)) 1 n,iv 0]∧h'= [zG (some (o,c)) (u8 L) false,zG (some (0,n)) (u8 m) true]):=by
 subst hm;subst hn;exact h
theorem putS_r (v c:Int):0≤putS v c∧putS v c < 4294967296:=by unfold putS;omega
theorem carS_r {p:q9} {x:Pk} {f:Fl} {s:Int} (h:ziv p x f=some s):0≤s∧s < 64:=by
 unfold ziv at h
 split at h
 ·split at h
  ·cases h
  ·exact readS_r h
 ·split at h
  ·cases h
  ·split at h
   ·cases h
   ·exact readS_r h
abbrev ya (a:Pk) (b:Option (Nat×Nat)) (c:List Int) d (e:Bool) f:=cw (qS a (zD a.op) 1 b 2 3 (wb c) d c.length)::zG (zD a.op) (u8 a.op) false::zaB e::f
abbrev yG (a:List Int) b:=#[iv 0,iv (-1),bv false,zN (wb a) b a.length]
abbrev yV (a:q9) (b:Bool) (c:zdu) d (e:List Int) f:=cw (zM a b c (slV 5 127 d))::zG (wb e) (u8 e) false::cr []::f
abbrev vB (a:Pk) (b:Option (Nat×Nat)) (c:List Int) d (e:Bool) (f:q9) (g:Bool) (h:zdu) i j:=(ya a b c d e (yV f g h i c [cw wn,cw (pl f),zG (wb c) (u8 j) true]))
abbrev vI (a:Pk) (b:Option (Nat×Nat)) (c:List Int) (d:Bool):=[cw (qS a (zD a.op) 1 b 2 3 (wb c) 4 c.length),zaB ((zD a.op).isSome),zaB d,cr [],cr [],cr []]
abbrev vN (a:Pk) (b:q9):=(Fl.mk a.t a.tp (b 1) (b 2))
abbrev Wn (a:List Int) b c:=[zG (wb a) (u8 b) true,zG (wb a) (u8 c) true]
theorem outC3 {P:Program} [PrC P] (p:q9) (is:Bool) (nr:zdu) (q:Option Nat) (x:Pk) (qd:Option (Nat×Nat)) (zd:Bool) (l:List Int) (y:Pk) (hp:qV l=(0,y)) (hk:y.k=x.k) (hba:y.ba=x.ba) (h3:x.k≠3) (hop:x.op.length+24≤l.length) (s:Nat) (hs:s < 64) (H:PRng p):
    Env P "(*roundhouse/plane.packet).out" [pv 0 0,iv (s:Nat)] ((ya x qd l 4 zd [cw (zM p is nr (slV 5 127 q)),zG (wb l) (u8 l) false,cr []])) (fun v h'=>v= .agg (yG l 6)∧h'= (ya x qd l 6 zd [cw (zM p is (outN nr x s) (slV 5 127 q)),zG (wb l) (u8 l) false,cr [],zG (wb l) (u8 (outL p x l (s:Nat))) true])):=by
 refine Env.by4 PrC.plane_packet_out ?_
 unfold zdJ
 show GC _ 6 _ _ ⟨reg [(0,pv 0 0),(1,iv (s:Nat))],(ya x qd l 4 zd [cw (zM p is nr (slV 5 127 q)),zG (wb l) (u8 l) false,cr []])⟩
 have hl:=zcQ hp
 have hp1:=H.a
 have hp2:=H.b
 refine zJ (zR (o_b 1 [(4,pv 6 0)] (ya x qd l 4 zd (yV p is nr q l [cw wn])) (zE (zC (zJ (zR (o_d 3 (xy 13 0 13 12 0 11 0) (o_s (by refine zX (v:=pv 3 0) rfl rfl ?_;exact rfl) ?_))))))))
 refine o_d 3 (xy 17 3 0 16 3 15 3) (o_s (by refine zX (v:=zap p) rfl rfl ?_;exact zeq (zaM p)) ?_)
 refine o_b 1 [(5,pv 7 0)] (ya x qd l 4 zd (yV p is nr q l [cw wn,cw (pl qM)])) (zdn (by refine zat (c':=pl p) rfl rfl rfl ?_ ?_ ?_;exact qG _;exact zce om;exact zah qM p) ?_)
 refine zE (zC (zJ (zbG [] (r_d 1 [(19,pv 7 323)] (r_s (by refine zX (v:= .agg (vR p)) rfl rfl ?_;exact pl_ring p) ?_)))))
 refine r_d 4 (wM 24 0 0 23 0 22 0 21 0) (r_s (by refine zX (v:=iv x.k) rfl rfl ?_;exact rfl) ?_)
 refine r_d 4 (wM 29 0 4 28 0 27 0 26 0) (r_s (by refine zX (v:=iv x.t) rfl rfl ?_;exact rfl) ?_)
 refine r_d 4 (wM 34 0 6 33 0 32 0 31 0) (r_s (by refine zX (v:=iv x.tp) rfl rfl ?_;exact rfl) ?_)
 refine r_d 1 [(36,pv 7 1)] (r_s (by refine zX (v:=iv (p 1)) rfl rfl ?_;exact pl_r p 1 rfl om) ?_)
 refine r_d 1 [(38,pv 7 2)] (r_s (by refine zX (v:=iv (p 2)) rfl rfl ?_;exact pl_r p 2 rfl om) ?_)
 refine r_d 2 [(41,iv (s:Nat)),(40,.agg #[iv x.t,iv x.tp,iv (p 1),iv (p 2)])] (zfW (zbV (cMakeC (rgP p) x.k (vN x p) (s:Nat) om) rfl rfl rfl ?_))
 have hy1:=cookS_r (rgP p) x.k (vN x p) (s:=(s:Nat)) om
 refine r_d 1 [(6,iv (zdT (rgP p) x.k (vN x p) (s:Nat)))] (zbo (zT [(6,iv (zdT (rgP p) x.k (vN x p) (s:Nat))),(5,pv 7 0),(4,pv 6 0),(0,pv 0 0),(1,iv (s:Nat))] (zJ (zfx (ya x qd l 4 zd (yV p is nr q l [cw wn,cw (pl p)])) (by kernel_rfl) (d_n 4 4 8 (wM 46 0 14 45 0 44 0 43 0) (ya x qd l 4 zd (yV p is nr q l [cw wn,cw (pl p)])) [] (by kernel_rfl) rfl rfl (d_s rfl rfl rfl (by kernel_rfl) (by refine zX (v:=zN (wb l) 4 l.length) rfl rfl ?_;exact rfl) ?_))))))
 refine d_n 1 6 8 [(48,pv 7 1)] (ya x qd l 4 zd (yV p is nr q l [cw wn,cw (pl p)])) [⟨4,[0],[],none⟩] (by kernel_rfl) rfl rfl (d_s rfl rfl rfl (by kernel_rfl) (by refine zX (v:=iv (p 1)) rfl rfl ?_;exact pl_r p 1 rfl om) ?_)
 refine d_n 1 8 8 [(50,pv 7 2)] (ya x qd l 4 zd (yV p is nr q l [cw wn,cw (pl p)])) [⟨6,[7],[],none⟩,⟨4,[0],[],none⟩] (by kernel_rfl) rfl rfl (d_s rfl rfl rfl (by kernel_rfl) (by refine zX (v:=iv (p 2)) rfl rfl ?_;exact pl_r p 2 rfl om) ?_)
 obtain ⟨m2,hm2⟩: ∃z9,natL l y.ba true (p 1) (p 2)=z9:=⟨_,rfl⟩
 have hm2a:Alike l m2:=by rw [←hm2];exact nat_alike hp om true
 have hm2p:=hm2a.parse hp
 have hm2l:=hm2p.2.2.2
 have hm2k:=hm2p.2.1
 have hm2b:=hm2p.2.2.1
 have hm2e:m2.length=l.length:=hm2l
 refine d_clN [4] [zG (wb l) (u8 l) false] [zN (wb l) 0 l.length,bv true,iv (p 1),iv (p 2)] (chgR hm2 rfl (NatC _ _ l l (RowOf.whole rfl (Nat.le_refl _)) y hp om true (p 1) (p 2) om om)) rfl rfl ⟨⟨_,rfl,zY (zH _) rfl (fun q=>q)⟩,trivial⟩ dC ⟨_,_,⟨rfl,rfl⟩,Nat.le_add_right 1 1,zca [_] [_]⟩ ?_ (by kernel_rfl)
 rintro v1 h1' ⟨rfl,rfl⟩
 refine ⟨za2 rfl,.tuple (W7 l 8),(ya x qd l 4 zd (yV p is nr q l [cw wn,cw (pl p)])),(Ww l m2),((zdB _).trans rfl),⟨rfl,rfl,rfl,rfl,rfl,rfl,rfl,rfl,trivial⟩,⟨(Option.some.inj (zF (zH _))).symm,trivial⟩, ?_⟩
 refine d_n 2 12 8 (WL 54 53 l 8) (vB x qd l 4 zd p is nr q m2) [⟨9,[4],(zc6 [4] [zG (wb l) (u8 l) false]),some 8⟩,⟨8,[7],[],none⟩,⟨6,[7],[],none⟩,⟨4,[0],[],none⟩] (by kernel_rfl) rfl rfl (d_clH [0,1,2,3,4,8] (vI x qd l zd) [pv 0 0,zN (wb l) 5 l.length,iv 0] (thenC x (zD x.op) qd 0 l.length l.length 0 l.length l.length ((zD x.op).isSome) zd) rfl rfl ⟨⟨_,rfl,zas (.inl (zbY rfl rfl rfl rfl (fun q=>rfl)))⟩,⟨_,rfl,(zcp (zD x.op))⟩,⟨_,rfl,(zdV _)⟩,⟨_,rfl,zaD⟩,⟨_,rfl,zaD⟩,⟨_,rfl,zaD⟩,trivial⟩ dC ⟨_,_,⟨rfl,rfl⟩,Nat.le_refl _,zfl rfl (zca [_,_,_,_,_] [])⟩ ?_ (by kernel_rfl))
 rintro v1 h1' ⟨rfl,rfl⟩
 refine ⟨(zW zaI (zW z8 (zW z8 (zW z8 (zW z8 (zW z8 zal)))))),.tuple #[],(vB x qd l 8 zd p is nr q m2),[],(by simp [zaL]),⟨zbS rfl rfl rfl rfl,(by exact hid1 dC rfl),(by cases zd<;>rfl),rfl,rfl,rfl,rfl,rfl,rfl,trivial⟩,trivial, ?_⟩
 refine zhw (zC (zJ (zJ (zR (o_d 4 (wM 59 0 0 58 0 57 0 56 0) (o_s (by refine zX (v:=iv x.k) rfl rfl ?_;exact rfl) ?_))))))
 refine o_d 1 [(61,bv (x.k==2))] (zE (zC (qJ (t:=x.k==2) rfl (fun h3=>?_) (fun h3=>?_))))
 ·skip
  have h3':x.k=2:=zaz h3
  have hTB:TB x.k=256:=if_pos (by assumption)
  refine zR (o_d 4 (wM 65 0 14 64 0 63 0 62 0) (o_s (by refine zX (v:=zN (wb l) 8 l.length) rfl rfl ?_;exact rfl) ?_))
  refine o_d 1 [(67,iv (zdT (rgP p) x.k (vN x p) (s:Nat)))] ?_
  have hy4:=zfi (zeH m2).k
  obtain ⟨m5,hm5⟩: ∃z9,zcj m2 (zeH m2).ba 20 2 (zdT (rgP p) x.k (vN x p) (s:Nat))=z9:=⟨_,rfl⟩
  have hm5a:Alike m2 m5:=by rw [←hm5];exact zfB hm2p.1 om om om om
  have hm5p:=hm5a.parse hm2p.1
  have hm5l:=hm5p.2.2.2
  have hm5k:=hm5p.2.1
  have hm5b:=hm5p.2.2.1
  have hm5e:m5.length=l.length:=(hm5l.trans hm2l)
  refine qW (zaK [8] [zG (wb l) (u8 m2) false] [zN (wb l) 0 l.length,iv 20,iv 2,iv (zdT (rgP p) x.k (vN x p) (s:Nat))] (chgR hm5 hm2l (Write2C _ _ m2 m2 (RowOf.whole rfl om) (zeH m2) hm2p.1 20 (zdT (rgP p) x.k (vN x p) (s:Nat)) om om om)) rfl rfl ⟨⟨_,rfl,zY (zH _) rfl (fun q=>rfl)⟩,trivial⟩ dC ?_)
  rintro v1 h1' ⟨rfl,rfl⟩
  refine ⟨za2 rfl,.tuple (W7 l 9),(vB x qd l 8 zd p is nr q m2),(Ww l m5),((zdB _).trans rfl),⟨rfl,rfl,rfl,rfl,rfl,rfl,rfl,rfl,rfl,trivial⟩,⟨(Option.some.inj (zF (zH _))).symm,trivial⟩, ?_⟩
  refine o_d 2 (WL 70 69 l 9) (qW (zdq [0,1,2,3,8,9] (vI x qd l zd) [pv 0 0,zN (wb l) 5 l.length,iv 0] (thenC x (zD x.op) qd 0 l.length l.length 0 l.length l.length ((zD x.op).isSome) zd) rfl rfl ⟨⟨_,rfl,zas (.inl (zbY rfl rfl rfl rfl (fun q=>rfl)))⟩,⟨_,rfl,(zcp (zD x.op))⟩,⟨_,rfl,(zdV _)⟩,⟨_,rfl,zaD⟩,⟨_,rfl,zaD⟩,⟨_,rfl,zaD⟩,trivial⟩ dC ?_))
  rintro v1 h1' ⟨rfl,rfl⟩
  refine ⟨(zW zaI (zW z8 (zW z8 (zW z8 (zW z8 (zW z8 zal)))))),.tuple #[],(ya x qd l 9 zd (yV p is nr q l (cw wn::cw (pl p)::(Wn l m2 m5)))),[],(by simp [zaL]),⟨zbS rfl rfl rfl rfl,(by exact hid1 dC rfl),(by cases zd<;>rfl),rfl,rfl,rfl,rfl,rfl,rfl,rfl,trivial⟩,trivial, ?_⟩
  refine zE (zT [(4,pv 6 0),(0,pv 0 0)] (zJ (zR (o_d 3 (xy 111 0 14 110 0 109 0) (o_s (by refine zX (v:=zN (wb l) 9 l.length) rfl rfl ?_;exact rfl) ?_)))))
  refine o_b 2 [(113,.agg (yG l 9))] (ya x qd l 9 zd (yV p is nr q l (cw [iv 0,iv (-1),bv false,zN (wb l) 9 l.length]::cw (pl p)::(Wn l m2 m5)))) (zE (zC (qX ?_)))
  have e1:outL p x l (s:Nat)=m5:=by
   unfold outL outC9
   rw [if_pos (by assumption)]
   rw [←hba,hm2,←hm2b];exact hm5
  have e2:outN nr x s=nr:=by
   unfold outN;rw [if_pos (by assumption)]
  exact ⟨trivial,[.agg (yG l 9)],(qZ rfl rfl rfl rfl),(zL rfl z4),⟨reg [],(ya x qd l 6 zd (yV p is nr q l (Ww l m5)))⟩,[0,1,2,3,4,5,9],[.agg (yG l 6)],WkR.of (rs:= []) rfl rfl dC trivial ⟨.inl (zax rfl rfl rfl rfl),.inl (zF (zH _)),.inl (congrArg some (zaJ _).symm),.inl (qD (zaP q rfl)),.inl (zF (zH _)),.inl rfl,.inl (zF (zH _)),trivial⟩,(zQ (zbm rfl) rfl),rfl,(by rw [e1,e2])⟩
 have h3': ¬(x.k=2):=zaA h3
 refine zJ (zR (o_d 4 (wM 76 0 11 75 0 74 0 73 0) (o_s (by refine zX (v:=zN (zD x.op) 1 x.op.length) rfl rfl ?_;exact rfl) ?_)))
 rcases ha6:zcA x.op with _ | a6
 ·skip
  refine qW (zaK [1] [zG (zD x.op) (u8 x.op) false] [zN (zD x.op) 0 x.op.length] (zgz ha6 (zjJ (zD x.op) x.op x.op (zcN x.op) om)) rfl (zQ (qI rfl) rfl) ⟨⟨_,rfl,zY (zH _) rfl (fun q=>q)⟩,trivial⟩ dC ?_)
  rintro v1 h1' ⟨rfl,rfl⟩
  refine ⟨zak [_] [],.tuple #[iv 0,.int .u32 0,.int .u32 0,bv false],(vB x qd l 8 zd p is nr q m2),[],(qR rfl),⟨rfl,(za0 rfl rfl),rfl,rfl,rfl,rfl,rfl,rfl,rfl,trivial⟩,trivial, ?_⟩
  refine o_d 9 (xl 10 9 8 7 82 81 80 79 72) (zE (zT [(10,bv false),(8,.int .u32 0),(7,iv 0),(6,iv (zdT (rgP p) x.k (vN x p) (s:Nat))),(4,pv 6 0),(0,pv 0 0),(1,iv (s:Nat))] (zJ (zR (o_d 1 [(83,bv false)] (zE (zC (zaW rfl (qK (zC (zJ (zR ?_))))))))))))
  refine o_d 3 (xy 111 0 14 110 0 109 0) (o_s (by refine zX (v:=zN (wb l) 8 l.length) rfl rfl ?_;exact rfl) ?_)
  refine o_b 2 [(113,.agg (yG l 8))] (ya x qd l 8 zd (yV p is nr q l [cw [iv 0,iv (-1),bv false,zN (wb l) 8 l.length],cw (pl p),zG (wb l) (u8 m2) true])) (zE (zC (qX ?_)))
  have e1:outL p x l (s:Nat)=m2:=by
   unfold outL outC9
   rw [if_neg (by assumption)]
   simp only [ha6]
   rw [←hba];exact hm2
  have e2:outN nr x s=nr:=by
   unfold outN;rw [if_neg (by assumption)];simp only [ha6]
  exact ⟨trivial,[.agg (yG l 8)],(qZ rfl rfl rfl rfl),(zL rfl z4),⟨reg [],(ya x qd l 6 zd (yV p is nr q l (Ww l m2)))⟩,[0,1,2,3,4,5,8],[.agg (yG l 6)],WkR.of (rs:= []) rfl rfl dC trivial ⟨.inl (zax rfl rfl rfl rfl),.inl (zF (zH _)),.inl (congrArg some (zaJ _).symm),.inl (qD (zaP q rfl)),.inl (zF (zH _)),.inl rfl,.inl (zF (zH _)),trivial⟩,(zQ (zbm rfl) rfl),rfl,(by rw [e1,e2])⟩
 ·skip
  have ha6r:=stampO_r ha6
  have ha6m:=zes x.op a6 4 dC
  have ha6n:=zes x.op (a6+4) 4 dC
  refine qW (zaK [1] [zG (zD x.op) (u8 x.op) false] [zN (zD x.op) 0 x.op.length] (zgy ha6 (zjJ (zD x.op) x.op x.op (zcN x.op) om)) rfl (zQ (qI rfl) rfl) ⟨⟨_,rfl,zY (zH _) rfl (fun q=>q)⟩,trivial⟩ dC ?_)
  rintro v1 h1' ⟨rfl,rfl⟩
  refine ⟨zak [_] [],.tuple #[iv (a6:Nat),.int .u32 (qE x.op a6 4),.int .u32 (qE x.op (a6+4) 4),bv true],(vB x qd l 8 zd p is nr q m2),[],(qR rfl),⟨rfl,(za0 rfl rfl),rfl,rfl,rfl,rfl,rfl,rfl,rfl,trivial⟩,trivial, ?_⟩
  refine o_d 9 [(10,bv true),(9,.int .u32 (qE x.op (a6+4) 4)),(8,.int .u32 (qE x.op a6 4)),(7,iv (a6:Nat)),(82,bv true),(81,.int .u32 (qE x.op (a6+4) 4)),(80,.int .u32 (qE x.op a6 4)),(79,iv (a6:Nat)),(72,.tuple #[iv (a6:Nat),.int .u32 (qE x.op a6 4),.int .u32 (qE x.op (a6+4) 4),bv true])] (zE (zT [(10,bv true),(8,.int .u32 (qE x.op a6 4)),(7,iv (a6:Nat)),(6,iv (zdT (rgP p) x.k (vN x p) (s:Nat))),(4,pv 6 0),(0,pv 0 0),(1,iv (s:Nat))] (zJ (zR (o_d 1 [(83,bv true)] (zE (zC (zcU rfl (zJ (zfx (vB x qd l 8 zd p is nr q m2) (by kernel_rfl) (d_n 4 4 9 (wM 87 0 14 86 0 85 0 84 0) (vB x qd l 8 zd p is nr q m2) [] (by kernel_rfl) rfl rfl (d_s rfl rfl rfl (by kernel_rfl) (by refine zX (v:=zN (wb l) 8 l.length) rfl rfl ?_;exact rfl) ?_))))))))))))
  refine d_n 1 6 9 [(89,iv (a6:Nat))] (vB x qd l 8 zd p is nr q m2) [⟨4,[0],[],none⟩] (by kernel_rfl) rfl rfl (d_s rfl rfl rfl (by kernel_rfl) (by refine zK (v:= .int .i64 (i64.wrap (24+(a6:Nat)))) (congrArg wg (w64 om om)) ?_;kernel_rfl) ?_)
  refine d_n 2 9 9 [(92,iv (zdT (rgP p) x.k (vN x p) (s:Nat))),(91,.int .u32 (qE x.op a6 4))] (vB x qd l 8 zd p is nr q m2) [⟨4,[0],[],none⟩] (by kernel_rfl) rfl rfl (d_cl (zbV (cPutC (qE x.op a6 4) (zdT (rgP p) x.k (vN x p) (s:Nat)) om) rfl rfl rfl ?_))
  have hy7:=putS_r (qE x.op a6 4) (zdT (rgP p) x.k (vN x p) (s:Nat))
  refine d_s rfl rfl rfl (by kernel_rfl) (by refine zK (v:= .int .i64 (i64.wrap (putS (qE x.op a6 4) (zdT (rgP p) x.k (vN x p) (s:Nat))))) (congrArg wg (w64 om om)) ?_;kernel_rfl) ?_
  have hy8:=zfi (zeH m2).k
  obtain ⟨m9,hm9⟩: ∃z9,zcj m2 (zeH m2).ba (24+a6) 4 (putS (qE x.op a6 4) (zdT (rgP p) x.k (vN x p) (s:Nat)))=z9:=⟨_,rfl⟩
  have hm9a:Alike m2 m9:=by rw [←hm9];exact zfB hm2p.1 om om om om
  have hm9p:=hm9a.parse hm2p.1
  have hm9l:=hm9p.2.2.2
  have hm9k:=hm9p.2.1
  have hm9b:=hm9p.2.2.1
  have hm9e:m9.length=l.length:=(hm9l.trans hm2l)
  refine d_clN [8] [zG (wb l) (u8 m2) false] [zN (wb l) 0 l.length,iv (24+(a6:Nat)),iv 4,iv (putS (qE x.op a6 4) (zdT (rgP p) x.k (vN x p) (s:Nat)))] (chgR hm9 hm2l (Write4C _ _ m2 m2 (RowOf.whole rfl om) (zeH m2) hm2p.1 (24+a6) (putS (qE x.op a6 4) (zdT (rgP p) x.k (vN x p) (s:Nat))) om om om)) rfl rfl ⟨⟨_,rfl,zY (zH _) rfl (fun q=>rfl)⟩,trivial⟩ dC ⟨_,_,⟨rfl,rfl⟩,Nat.le_add_right 1 1,zca [_] [_]⟩ ?_ (by kernel_rfl)
  rintro v1 h1' ⟨rfl,rfl⟩
  refine ⟨za2 rfl,.tuple (W7 l 9),(vB x qd l 8 zd p is nr q m2),(Ww l m9),((zdB _).trans rfl),⟨rfl,rfl,rfl,rfl,rfl,rfl,rfl,rfl,rfl,trivial⟩,⟨(Option.some.inj (zF (zH _))).symm,trivial⟩, ?_⟩
  refine d_n 2 14 9 (WL 97 96 l 9) (ya x qd l 8 zd (yV p is nr q l (cw wn::cw (pl p)::(Wn l m2 m9)))) [⟨11,[8],(zc6 [8] [zG (wb l) (u8 m2) false]),some 9⟩,⟨9,[],[],some 9⟩,⟨4,[0],[],none⟩] (by kernel_rfl) rfl rfl (d_clH [0,1,2,3,8,9] (vI x qd l zd) [pv 0 0,zN (wb l) 5 l.length,iv 0] (thenC x (zD x.op) qd 0 l.length l.length 0 l.length l.length ((zD x.op).isSome) zd) rfl rfl ⟨⟨_,rfl,zas (.inl (zbY rfl rfl rfl rfl (fun q=>rfl)))⟩,⟨_,rfl,(zcp (zD x.op))⟩,⟨_,rfl,(zdV _)⟩,⟨_,rfl,zaD⟩,⟨_,rfl,zaD⟩,⟨_,rfl,zaD⟩,trivial⟩ dC ⟨_,_,⟨rfl,rfl⟩,Nat.le_refl _,zfl rfl (zca [_,_,_,_,_] [])⟩ ?_ (by kernel_rfl))
  rintro v1 h1' ⟨rfl,rfl⟩
  refine ⟨(zW zaI (zW z8 (zW z8 (zW z8 (zW z8 (zW z8 zal)))))),.tuple #[],(ya x qd l 9 zd (yV p is nr q l (cw wn::cw (pl p)::(Wn l m2 m9)))),[],(by simp [zaL]),⟨zbS rfl rfl rfl rfl,(by exact hid1 dC rfl),(by cases zd<;>rfl),rfl,rfl,rfl,rfl,rfl,rfl,rfl,trivial⟩,trivial, ?_⟩
  refine zhw (zC (zR (o_d 3 (xy 101 0 13 100 0 99 0) (o_s (by refine zX (v:=pv 3 0) rfl rfl ?_;exact rfl) ?_))))
  refine o_d 3 [(105,pv 3 331),(104,pv 3 0),(103,iv (s:Nat))] (o_s (by exact zaT (o:=331) (o':=331+2*s) rfl rfl om om) ?_)
  refine o_d 1 [(107,.int .u32 (qE x.op a6 4))] (qW (zdq [3,5] [cw (zM p is nr (xH q)),cr []] [pv 0 (331+2*s),.int .u32 (qE x.op a6 4)] (LayUC p is nr q s (qE x.op a6 4) om) rfl rfl ⟨⟨_,rfl,zas (.inl (zaF (zaP q rfl) (fun q=>rfl)))⟩,⟨_,rfl,zaD⟩,trivial⟩ dC ?_))
  rintro v1 h1' ⟨rfl,rfl⟩
  refine ⟨(zW zaI (zW z8 zal)),.tuple #[],(ya x qd l 9 zd (cw (zM p is (zcg nr s (qE x.op a6 4,true)) (slV 5 127 q))::zG (wb l) (u8 l) false::cr []::cw wn::cw (pl p)::(Wn l m2 m9))),[],(by simp [zaL]),⟨rfl,rfl,rfl,zba (zaP q rfl),rfl,(by cases true<;>rfl),rfl,rfl,rfl,rfl,trivial⟩,trivial, ?_⟩
  refine zE (zT [(4,pv 6 0),(0,pv 0 0)] (zJ (zR (o_d 3 (xy 111 0 14 110 0 109 0) (o_s (by refine zX (v:=zN (wb l) 9 l.length) rfl rfl ?_;exact rfl) ?_)))))
  refine o_b 2 [(113,.agg (yG l 9))] (ya x qd l 9 zd (cw (zM p is (zcg nr s (qE x.op a6 4,true)) (slV 5 127 q))::zG (wb l) (u8 l) false::cr []::cw [iv 0,iv (-1),bv false,zN (wb l) 9 l.length]::cw (pl p)::(Wn l m2 m9))) (zE (zC (qX ?_)))
  have e1:outL p x l (s:Nat)=m9:=by
   unfold outL outC9
   rw [if_neg (by assumption)]
   simp only [ha6]
   rw [←hba,hm2,←hm2b];exact hm9
  have e2:outN nr x s=(zcg nr s (qE x.op a6 4,true)):=by
   unfold outN;rw [if_neg (by assumption)];simp only [ha6]
  exact ⟨trivial,[.agg (yG l 9)],(qZ rfl rfl rfl rfl),(zL rfl z4),⟨reg [],(ya x qd l 6 zd [cw (zM p is (zcg nr s (qE x.op a6 4,true)) (slV 5 127 q)),zG (wb l) (u8 l) false,cr [],zG (wb l) (u8 m9) true])⟩,[0,1,2,3,4,5,9],[.agg (yG l 6)],WkR.of (rs:= []) rfl rfl dC trivial ⟨.inl (zax rfl rfl rfl rfl),.inl (zF (zH _)),.inl (congrArg some (zaJ _).symm),.inl (qD (zaP q rfl)),.inl (zF (zH _)),.inl rfl,.inl (zF (zH _)),trivial⟩,(zQ (zbm rfl) rfl),rfl,(by rw [e1,e2])⟩
theorem outW {P:Program} [PrC P] (p:q9) (is:Bool) (nr:zdu) (q:Option Nat) (x:Pk) (qd:Option (Nat×Nat)) (zd:Bool) (l:List Int) (y:Pk) (hp:qV l=(0,y)) (hk:y.k=x.k) (hba:y.ba=x.ba) (h3:x.k≠3) (hop:x.op.length+24≤l.length) (s:Nat) (hs:s < 64) (H:PRng p) (N:Nat) (hN:l.length=N):
  Env P "(*roundhouse/plane.packet).out" [pv 0 0,iv (s:Int)] ([cw (qS x (zD x.op) 1 qd 2 3 (some (0,N)) 4 N),zG (zD x.op) (u8 x.op) false,zaB zd,cw (zM p is nr (slV 5 127 q)),zG (some (0,N)) (u8 l) false,cr []]) (fun v h'=>v= .agg #[iv 0,iv (-1),bv false,zN (some (0,N)) 6 N]∧h'= [cw (qS x (zD x.op) 1 qd 2 3 (some (0,N)) 6 N),zG (zD x.op) (u8 x.op) false,zaB zd,cw (zM p is (outN nr x s) (slV 5 127 q)),zG (some (0,N)) (u8 l) false,cr [],zG (some (0,N)) (u8 (outL p x l (s:Nat))) true]):=by
 subst hN;exact outC3 p is nr q x qd zd l y hp hk hba h3 hop s hs H
end Go.Rh

set_option maxHeartbeats 1000000
namespace Go.Rh
theorem carS_q {p:q9} {x:Pk} {f:Fl} {r:Option Int} (h:ziv p x f=r):0≤r.getD 0∧r.getD 0 < 64:=by
 cases r with
 | none=>exact ⟨dC,dC⟩
 | some s=>exact carS_r h
theorem carriedC2 {P:Program} {p:q9} {x:Pk} {f:Fl} {A:List Value} {h1 h2:List Blk} {r:Option Int} (h:Env P "(*roundhouse/plane.packet).carried" A h1 (fun v h'=>v=zd0 r∧h'=h2)):Env P "(*roundhouse/plane.packet).carried" A h1 (fun v h'=>v= .tuple #[iv (r.getD 0),bv r.isSome]∧h'=h2):=by
 cases r<;>exact h
theorem inP_n {p:q9} {x:Pk} {r:Option Int} (h:ziv p x (inF p x)=r) (hn:r.isSome=false):inP p x=(zd3 (z7 p) (inF p x),false):=by
 cases r with
 | none=>unfold inP;rw [h]
 | some s=>cases hn
theorem inP_t {p:q9} {x:Pk} {r:Option Int} (h:ziv p x (inF p x)=r) (hs:r.isSome=true) (ht: [1,2,3].contains (p (3+5*(r.getD 0).toNat))=true):inP p x=(r.getD 0,true):=by
 cases r with
 | none=>cases hs
 | some s=>unfold inP;rw [h];exact if_pos ht
theorem inP_f {p:q9} {x:Pk} {r:Option Int} (h:ziv p x (inF p x)=r) (hs:r.isSome=true) (ht: [1,2,3].contains (p (3+5*(r.getD 0).toNat))=false):inP p x=(zd3 (z7 p) (inF p x),false):=by
 cases r with
 | none=>cases hs
 | some s=>unfold inP;rw [h];exact if_neg (by rw [show (some s).getD 0=s from rfl] at ht;rw [ht];simp)
theorem takes_ne {z:Int} (h: [1,2,3].contains z=true):z≠0:=by rintro rfl;revert h;decide
theorem PRng.pickI {p:q9} (H:PRng p) {f:Fl} {sl:Int} (h:sl=zd3 (z7 p) f): ∀k:Nat,sl=(k:Int)→k < 64∧(0≤p (3+5*k+1)∧p (3+5*k+1)≤4294967295)∧(0≤p (3+5*k+2)∧p (3+5*k+2)≤65535):=fun k hk=>H.pick (h.symm.trans hk)
theorem PRng.takeI {p:q9} (H:PRng p) {sl:Int} (h0:0≤sl∧sl < 64) (h: [1,2,3].contains (p (3+5*sl.toNat))=true): ∀k:Nat,sl=(k:Int)→k < 64∧(0≤p (3+5*k+1)∧p (3+5*k+1)≤4294967295)∧(0≤p (3+5*k+2)∧p (3+5*k+2)≤65535):=fun k hk=>by
 subst hk;exact ⟨om,H.s k om (takes_ne h)⟩
theorem nearS_k (nr:zdu) {k:Nat} (h:k < 64):zcS nr (k:Nat)=nr k:=by rw [zcS,if_neg om];rfl
theorem NearK {P:Program} {nr:zdu} {k:Nat} {A:List Value} {h1 h2:List Blk} (hk:k < 64) (h:Env P "(*roundhouse/plane.Plane).Near" A h1 (fun v h'=>v= .tuple #[u32v (zcS nr (k:Nat)).1,bv (zcS nr (k:Nat)).2]∧h'=h2)):Env P "(*roundhouse/plane.Plane).Near" A h1 (fun v h'=>v= .tuple #[u32v (nr k).1,bv (nr k).2]∧h'=h2):=by
 rwa [nearS_k nr hk] at h
theorem backS_r (v n:Int):0≤zfS v n∧zfS v n < 4294967296:=by
 unfold zfS
 show 0≤(_:Int) % 4294967296∧(_:Int) % 4294967296 < 4294967296
 omega
abbrev wS (a:Pk) (b:q9):=[iv a.fr,iv a.fp,iv (b 1),iv (b 2)]
abbrev wT a:=#[iv a,iv (-1),bv false,.slice none 0 0]
abbrev yR (a:q9) (b:Bool) (c:zdu) (d:Nat) (e:List Int) f:=cr (zM a b c (wv 5 d))::zG (wb e) (u8 e) false::slB zI (ii (z7 a)) (some d)::f
abbrev vE a b (c:List Int) d:=#[iv 0,iv (a:Int),bv b,zN (wb c) d c.length]
abbrev Wf a b:=[(6,bv a),(5,iv (b:Int)),(2,pv 6 0),(0,pv 0 0)]
abbrev Wr (a:Pk) (b:Option (Nat×Nat)) (c:List Int) (d:Bool) (e:q9) (f:Bool) (g:zdu) (h:Nat):=(ya a b c 4 d [cr (zM e f g (wv 5 h)),zG (wb c) (u8 c) false,slB zI (ii (z7 e)) (some h)])
abbrev WC a b:=[(138,pv 0 14),(137,pv 0 0),(136,pv 0 0),(135,bv a),(134,iv (b:Int))]
abbrev WY (a:Pk) (b:q9):=#[iv a.fr,iv a.fp,iv (b 1),iv (b 2)]
theorem inC4 {P:Program} [PrC P] (p:q9) (is:Bool) (nr:zdu) (w9:Nat) (x:Pk) (qd:Option (Nat×Nat)) (zd:Bool) (l:List Int) (y:Pk) (hp:qV l=(0,y)) (hk:y.k=x.k) (hba:y.ba=x.ba) (h3:x.k≠3) (hop:x.op.length+24≤l.length) (H:PRng p) (hnr: ∀k,0≤(nr k).1∧(nr k).1 < 4294967296):
    Env P "(*roundhouse/plane.packet).in" [pv 0 0] ((Wr x qd l zd p is nr w9)) (fun v h'=>((inP p x).1 < 0∧v= .agg (wT 9)∧h'= (Wr x qd l zd p is nr w9))∨(∃k:Nat,(inP p x).1=(k:Int)∧k < 64∧v= .agg #[iv 0,iv (k:Int),bv (inP p x).2,zN (wb l) 6 l.length]∧h'= (ya x qd l 6 zd (yR p is nr w9 l [zG (wb l) (u8 (inL p nr x l k)) true])))):=by
 refine Env.by4 PrC.plane_packet_in ?_
 unfold zed
 show GC _ 6 _ _ ⟨reg xT,(Wr x qd l zd p is nr w9)⟩
 have hl:=zcQ hp
 have hp1:=H.a
 have hp2:=H.b
 refine zJ (zR (o_b 1 [(2,pv 6 0)] (ya x qd l 4 zd (yR p is nr w9 l [cw wn])) (zE (zC (zJ (zR (o_d 3 (xy 17 0 13 16 0 15 0) (o_s (by refine zX (v:=pv 3 0) rfl rfl ?_;exact rfl) ?_))))))))
 refine o_d 3 (xy 21 3 0 20 3 19 3) (o_s (by refine zX (v:=zap p) rfl rfl ?_;exact zeq (zaM p)) ?_)
 refine o_b 1 [(3,pv 7 0)] (ya x qd l 4 zd (yR p is nr w9 l [cw wn,cw (pl qM)])) (zdn (by refine zat (c':=pl p) rfl rfl rfl ?_ ?_ ?_;exact qG _;exact zce om;exact zah qM p) ?_)
 refine zE (zC (zJ (zbG [] (r_d 4 (wM 26 0 3 25 0 24 0 23 0) (r_s (by refine zX (v:=iv x.fr) rfl rfl ?_;exact rfl) ?_)))))
 refine r_d 4 (wM 31 0 5 30 0 29 0 28 0) (r_s (by refine zX (v:=iv x.fp) rfl rfl ?_;exact rfl) ?_)
 refine r_d 1 [(33,pv 7 1)] (r_s (by refine zX (v:=iv (p 1)) rfl rfl ?_;exact pl_r p 1 rfl om) ?_)
 refine r_d 1 [(35,pv 7 2)] (r_s (by refine zX (v:=iv (p 2)) rfl rfl ?_;exact pl_r p 2 rfl om) ?_)
 refine r_b 3 [(4,pv 8 0),(37,.agg (WY x p))] (ya x qd l 4 zd (yR p is nr w9 l [cw wn,cw (pl p),cw (wS x p)])) (zbo (zT (wM 4 8 0 3 7 2 6 0 0) (zJ (zR (o_d 2 [(40,.agg (WY x p)),(39,pv 0 0)] ?_)))))
 obtain ⟨ca,hcr⟩: ∃z9,ziv p x (inF p x)=z9:=⟨_,rfl⟩
 have hcq:=carS_q hcr
 refine qW (zdq [0,1,2,3,4,5] [cr (qS x (zD x.op) 1 qd 2 3 (wb l) 4 l.length),zG (zD x.op) (u8 x.op) false,zaB zd,cr (zM p is nr (wv 5 w9)),cr [],cr []] [pv 0 0,.agg (WY x p)] (carriedC2 (p:=p) (x:=x) (f:=(inF p x)) (carriedC p is nr (some w9) x qd 0 l.length l.length zd (inF p x) ca hcr om H)) rfl (zQ rfl (zQ (qR rfl) rfl)) ⟨⟨_,rfl,zas (.inl (zbY rfl rfl rfl rfl (fun q=>rfl)))⟩,⟨_,rfl,zas (zY (q:=zD x.op) (q':=zD x.op) (zH _) rfl (fun q=>q))⟩,⟨_,rfl,(zdV _)⟩,⟨_,rfl,zas (.inl (zaF rfl (fun q=>q)))⟩,⟨_,rfl,zaD⟩,⟨_,rfl,zco (some w9)⟩,trivial⟩ dC ?_)
 rintro v1 h1' ⟨rfl,rfl⟩
 refine ⟨(zW z8 (zW z8 (zW z8 (zW z8 (zW z8 (zW z8 zal)))))),.tuple #[iv (ca.getD 0),bv ca.isSome],(ya x qd l 4 zd (yR p is nr w9 l [cw wn,cw (pl p),cw (wS x p)])),[],(qR rfl),⟨rfl,(by first | exact hid1 dC rfl | exact row1 dC rfl),(by cases zd<;>rfl),rfl,rfl,rfl,rfl,rfl,rfl,trivial⟩,trivial, ?_⟩
 refine o_d 5 [(6,bv ca.isSome),(5,iv (ca.getD 0)),(43,bv ca.isSome),(42,iv (ca.getD 0)),(38,.tuple #[iv (ca.getD 0),bv ca.isSome])] (zE (zC (zgO (fun s=> ∃(sl:Int),∃(tk:Bool),0=0∧(inP p x=(sl,tk))∧(∀k:Nat,sl=(k:Int)→k < 64∧(0≤p (3+5*k+1)∧p (3+5*k+1)≤4294967295)∧(0≤p (3+5*k+2)∧p (3+5*k+2)≤65535))∧s=⟨reg [(6,bv tk),(5,iv sl),(3,pv 7 0),(2,pv 6 0),(0,pv 0 0)],(ya x qd l 4 zd (yR p is nr w9 l [cw wn,cw (pl p),cw (wS x p)]))⟩) ?_ ?_)))
 ·skip
  refine zJ (zR (o_d 2 [(45,bv ca.isSome),(44,bv ca.isSome)] (zby (b:=ca.isSome) 45 rfl (fun h1=>?_) (fun h1=>?_))))
  ·skip
   refine o_d 2 [(47,pv 7 3),(46,iv (ca.getD 0))] (qC rfl (o_s (by exact zaT (o:=3) (o':=3+5*((ca.getD 0).toNat)) rfl rfl om om) ?_))
   refine qC rfl (o_s (by refine zX (v:= .agg #[iv (p (3+5*((ca.getD 0).toNat))),iv (p (3+5*((ca.getD 0).toNat)+1)),iv (p (3+5*((ca.getD 0).toNat)+2)),iv (p (3+5*((ca.getD 0).toNat)+3)),iv (p (3+5*((ca.getD 0).toNat)+4))]) rfl rfl ?_;exact pl_rS p ((ca.getD 0).toNat) om om) ?_)
   refine qC rfl (qW (zae (TakesC (p (3+5*((ca.getD 0).toNat))) (p (3+5*((ca.getD 0).toNat)+1)) (p (3+5*((ca.getD 0).toNat)+2)) (p (3+5*((ca.getD 0).toNat)+3)) (p (3+5*((ca.getD 0).toNat)+4))) rfl rfl rfl (o_d 2 [(6,bv ([1,2,3].contains (p (3+5*((ca.getD 0).toNat))))),(51,bv ([1,2,3].contains (p (3+5*((ca.getD 0).toNat)))))] (zE (zC (zJ (zR (o_d 2 [(53,bv (!([1,2,3].contains (p (3+5*((ca.getD 0).toNat)))))),(52,bv ([1,2,3].contains (p (3+5*((ca.getD 0).toNat)))))] (zE (zC (qJ (t:= !([1,2,3].contains (p (3+5*((ca.getD 0).toNat))))) rfl (fun h2=>?_) (fun h2=>?_))))))))))))
   ·skip
    have h3:([1,2,3].contains (p (3+5*((ca.getD 0).toNat))))=false:=not_t h2
    refine zbG [] (r_d 3 (xy 56 0 13 55 0 54 0) (r_s (by refine zX (v:=pv 3 0) rfl rfl ?_;exact rfl) ?_))
    refine r_d 2 [(59,pv 3 459),(58,pv 3 0)] (r_s (by refine zX (v:=slV 5 127 (some w9)) rfl rfl ?_;exact (zep 129).trans rfl) ?_)
    refine r_d 1 [(61,.agg (WY x p))] (zfW (ze1 (a1:= [sv 0 0 127 (127+w9),.agg (WY x p)]) [5] [ii (z7 p)++zai zI w9] (PickC (z7 p) w9 (Fl.mk x.fr x.fp (p 1) (p 2)) (by first | assumption | exact (wheel_in _).1)) rfl (fun _=>zQ rfl (zQ (qR rfl) rfl)) ⟨⟨_,rfl⟩,qY _ _,trivial⟩ rfl ?_))
    refine r_d 1 [(5,iv (zd3 (z7 p) (Fl.mk x.fr x.fp (p 1) (p 2))))] (zbo (⟨⟨reg [(6,bv ([1,2,3].contains (p (3+5*((ca.getD 0).toNat))))),(5,iv (zd3 (z7 p) (Fl.mk x.fr x.fp (p 1) (p 2)))),(3,pv 7 0),(2,pv 6 0),(0,pv 0 0)],(ya x qd l 4 zd (yR p is nr w9 l [cw wn,cw (pl p),cw (wS x p)]))⟩, ?_⟩))
    refine ⟨?_, ?_⟩
    ·exact Wk.ren [0,1,2,3,4,5,6,7,8] rfl rfl dC ⟨rfl,rfl,rfl,rfl,rfl,trivial⟩ ⟨.inl (zax rfl rfl rfl rfl),.inl (zF (zH _)),.inl (congrArg some (zaJ _).symm),.inl (qD rfl),.inl (zF (zH _)),.inl (qT (some w9) (fun _=>(qY _ _))),.inl rfl,.inl (zS (zaa p)),.inl rfl,trivial⟩
    ·exact ⟨(zd3 (z7 p) (Fl.mk x.fr x.fp (p 1) (p 2))),([1,2,3].contains (p (3+5*((ca.getD 0).toNat)))),rfl,(by rw [h3];exact inP_f hcr h1 h3),(H.pickI rfl),rfl⟩
   have h4:([1,2,3].contains (p (3+5*((ca.getD 0).toNat))))=true:=not_f h2
   refine qK (⟨⟨reg [(6,bv ([1,2,3].contains (p (3+5*((ca.getD 0).toNat))))),(5,iv (ca.getD 0)),(3,pv 7 0),(2,pv 6 0),(0,pv 0 0)],(ya x qd l 4 zd (yR p is nr w9 l [cw wn,cw (pl p),cw (wS x p)]))⟩, ?_⟩)
   refine ⟨?_, ?_⟩
   ·exact Wk.ren [0,1,2,3,4,5,6,7,8] rfl rfl dC ⟨rfl,rfl,rfl,rfl,rfl,trivial⟩ ⟨.inl (zax rfl rfl rfl rfl),.inl (zF (zH _)),.inl (congrArg some (zaJ _).symm),.inl (qD rfl),.inl (zF (zH _)),.inl (qT (some w9) (fun _=>(qY _ _))),.inl rfl,.inl (zS (zaa p)),.inl rfl,trivial⟩
   ·exact ⟨(ca.getD 0),([1,2,3].contains (p (3+5*((ca.getD 0).toNat)))),rfl,(by rw [h4];exact inP_t hcr h1 h4),(H.takeI hcq h4),rfl⟩
  refine o_d 7 ((6,bv false)::(51,bv false)::(50,undef)::(vf 49 48 47 46)) (zE (zC (zJ (zR (o_d 2 [(53,bv true),(52,bv false)] (zE (zC (zcU rfl (zbG [] (r_d 3 (xy 56 0 13 55 0 54 0) (r_s (by refine zX (v:=pv 3 0) rfl rfl ?_;exact rfl) ?_)))))))))))
  refine r_d 2 [(59,pv 3 459),(58,pv 3 0)] (r_s (by refine zX (v:=slV 5 127 (some w9)) rfl rfl ?_;exact (zep 129).trans rfl) ?_)
  refine r_d 1 [(61,.agg (WY x p))] (zfW (ze1 (a1:= [sv 0 0 127 (127+w9),.agg (WY x p)]) [5] [ii (z7 p)++zai zI w9] (PickC (z7 p) w9 (Fl.mk x.fr x.fp (p 1) (p 2)) (by first | assumption | exact (wheel_in _).1)) rfl (fun _=>zQ rfl (zQ (qR rfl) rfl)) ⟨⟨_,rfl⟩,qY _ _,trivial⟩ rfl ?_))
  refine r_d 1 [(5,iv (zd3 (z7 p) (Fl.mk x.fr x.fp (p 1) (p 2))))] (zbo (⟨⟨reg [(6,bv false),(5,iv (zd3 (z7 p) (Fl.mk x.fr x.fp (p 1) (p 2)))),(3,pv 7 0),(2,pv 6 0),(0,pv 0 0)],(ya x qd l 4 zd (yR p is nr w9 l [cw wn,cw (pl p),cw (wS x p)]))⟩, ?_⟩))
  refine ⟨?_, ?_⟩
  ·exact Wk.ren [0,1,2,3,4,5,6,7,8] rfl rfl dC ⟨rfl,rfl,rfl,rfl,rfl,trivial⟩ ⟨.inl (zax rfl rfl rfl rfl),.inl (zF (zH _)),.inl (congrArg some (zaJ _).symm),.inl (qD rfl),.inl (zF (zH _)),.inl (qT (some w9) (fun _=>(qY _ _))),.inl rfl,.inl (zS (zaa p)),.inl rfl,trivial⟩
  ·exact ⟨(zd3 (z7 p) (Fl.mk x.fr x.fp (p 1) (p 2))),false,rfl,(inP_n hcr h1),(H.pickI rfl),rfl⟩
 rintro s ⟨sl,tk,-,hin,hrg,rfl⟩
 refine zJ (zJ (zR (o_d 2 [(64,bv (decide (sl < 0))),(63,iv sl)] (zE (zC (qJ (t:=decide (sl < 0)) rfl (fun h5=>?_) (fun h5=>?_)))))))
 ·skip
  have h5':sl < 0:=of_decide_eq_true h5
  exact zJ (zR (qW (zae (dropC 9) rfl rfl rfl (o_b 1 [] (ya x qd l 4 zd (yR p is nr w9 l [cw [iv 9,iv (-1),bv false,.slice none 0 0],cw (pl p),cw (wS x p)])) (zE (zC (qX (⟨trivial,[.agg (wT 9)],(qZ rfl rfl rfl rfl),(zL rfl z4),⟨reg [],(Wr x qd l zd p is nr w9)⟩,[0,1,2,3,4,5],[.agg (wT 9)],WkR.of (rs:= []) rfl rfl dC trivial ⟨.inl (zax rfl rfl rfl rfl),.inl (zF (zH _)),.inl (congrArg some (zaJ _).symm),.inl (qD rfl),.inl (zF (zH _)),.inl (qT (some w9) (fun _=>(qY _ _))),trivial⟩,(zQ (zbm (q:=none) (k:=0) (k':=0) (n:=0) rfl) rfl),.inl ⟨by rw [hin];assumption,rfl,rfl⟩⟩))))))))
 have h5': ¬(sl < 0):=of_decide_eq_false h5
 obtain ⟨k,rfl⟩: ∃k:Nat,sl=(k:Int):=⟨sl.toNat,om⟩
 have hkr:=hrg k rfl
 have hnk:=hnr k
 refine qK (zC (zJ (zR (o_d 2 [(67,pv 7 3),(66,iv (k:Int))] (o_s (by exact zaT (o:=3) (o':=3+5*k) rfl rfl om om) ?_)))))
 refine o_s (by refine zX (v:= .agg #[iv (p (3+5*k)),iv (p (3+5*k+1)),iv (p (3+5*k+2)),iv (p (3+5*k+3)),iv (p (3+5*k+4))]) rfl rfl ?_;exact pl_rS p k om om) ?_
 refine o_b 2 [(7,pv 9 0)] (ya x qd l 4 zd (yR p is nr w9 l [cw wn,cw (pl p),cw (wS x p),cw [iv (p (3+5*k)),iv (p (3+5*k+1)),iv (p (3+5*k+2)),iv (p (3+5*k+3)),iv (p (3+5*k+4))]])) (zE (zC (zJ (zfx (ya x qd l 4 zd (yR p is nr w9 l [cw wn,cw (pl p),cw (wS x p),cw [iv (p (3+5*k)),iv (p (3+5*k+1)),iv (p (3+5*k+2)),iv (p (3+5*k+3)),iv (p (3+5*k+4))]])) (by kernel_rfl) (d_n 4 4 10 (wM 73 0 14 72 0 71 0 70 0) (ya x qd l 4 zd (yR p is nr w9 l [cw wn,cw (pl p),cw (wS x p),cw [iv (p (3+5*k)),iv (p (3+5*k+1)),iv (p (3+5*k+2)),iv (p (3+5*k+3)),iv (p (3+5*k+4))]])) [] (by kernel_rfl) rfl rfl (d_s rfl rfl rfl (by kernel_rfl) (by refine zX (v:=zN (wb l) 4 l.length) rfl rfl ?_;exact rfl) ?_))))))
 refine d_n 4 9 10 [(78,iv (p (3+5*k+2))),(77,pv 9 2),(76,iv (p (3+5*k+1))),(75,pv 9 1)] (ya x qd l 4 zd (yR p is nr w9 l [cw wn,cw (pl p),cw (wS x p),cw [iv (p (3+5*k)),iv (p (3+5*k+1)),iv (p (3+5*k+2)),iv (p (3+5*k+3)),iv (p (3+5*k+4))]])) [⟨8,[9],[],none⟩,⟨6,[9],[],none⟩,⟨4,[0],[],none⟩] (by kernel_rfl) rfl rfl ?_
 obtain ⟨m6,hm6⟩: ∃z9,natL l y.ba false (p (3+5*k+1)) (p (3+5*k+2))=z9:=⟨_,rfl⟩
 have hm6a:Alike l m6:=by rw [←hm6];exact nat_alike hp om false
 have hm6p:=hm6a.parse hp
 have hm6l:=hm6p.2.2.2
 have hm6k:=hm6p.2.1
 have hm6b:=hm6p.2.2.1
 have hm6e:m6.length=l.length:=hm6l
 refine d_clN [4] [zG (wb l) (u8 l) false] [zN (wb l) 0 l.length,bv false,iv (p (3+5*k+1)),iv (p (3+5*k+2))] (chgR hm6 rfl (NatC _ _ l l (RowOf.whole rfl (Nat.le_refl _)) y hp om false (p (3+5*k+1)) (p (3+5*k+2)) om om)) rfl rfl ⟨⟨_,rfl,zY (zH _) rfl (fun q=>q)⟩,trivial⟩ dC ⟨_,_,⟨rfl,rfl⟩,Nat.le_add_right 1 1,zca [_] [_]⟩ ?_ (by kernel_rfl)
 rintro v1 h1' ⟨rfl,rfl⟩
 refine ⟨za2 rfl,.tuple (W7 l 10),(ya x qd l 4 zd (yR p is nr w9 l [cw wn,cw (pl p),cw (wS x p),cw [iv (p (3+5*k)),iv (p (3+5*k+1)),iv (p (3+5*k+2)),iv (p (3+5*k+3)),iv (p (3+5*k+4))]])),(Ww l m6),((zdB _).trans rfl),⟨rfl,rfl,rfl,rfl,rfl,rfl,rfl,rfl,rfl,rfl,trivial⟩,⟨(Option.some.inj (zF (zH _))).symm,trivial⟩, ?_⟩
 refine d_n 2 12 10 (WL 81 80 l 10) (ya x qd l 4 zd (yR p is nr w9 l [cw wn,cw (pl p),cw (wS x p),cw [iv (p (3+5*k)),iv (p (3+5*k+1)),iv (p (3+5*k+2)),iv (p (3+5*k+3)),iv (p (3+5*k+4))],zG (wb l) (u8 m6) true])) [⟨9,[4],(zc6 [4] [zG (wb l) (u8 l) false]),some 10⟩,⟨8,[9],[],none⟩,⟨6,[9],[],none⟩,⟨4,[0],[],none⟩] (by kernel_rfl) rfl rfl (d_clH [0,1,2,3,4,10] (vI x qd l zd) [pv 0 0,zN (wb l) 5 l.length,iv 0] (thenC x (zD x.op) qd 0 l.length l.length 0 l.length l.length ((zD x.op).isSome) zd) rfl rfl ⟨⟨_,rfl,zas (.inl (zbY rfl rfl rfl rfl (fun q=>rfl)))⟩,⟨_,rfl,(zcp (zD x.op))⟩,⟨_,rfl,(zdV _)⟩,⟨_,rfl,zaD⟩,⟨_,rfl,zaD⟩,⟨_,rfl,zaD⟩,trivial⟩ dC ⟨_,_,⟨rfl,rfl⟩,Nat.le_refl _,zfl rfl (zca [_,_,_,_,_] [])⟩ ?_ (by kernel_rfl))
 rintro v1 h1' ⟨rfl,rfl⟩
 refine ⟨(zW zaI (zW z8 (zW z8 (zW z8 (zW z8 (zW z8 zal)))))),.tuple #[],(ya x qd l 10 zd (yR p is nr w9 l [cw wn,cw (pl p),cw (wS x p),cw [iv (p (3+5*k)),iv (p (3+5*k+1)),iv (p (3+5*k+2)),iv (p (3+5*k+3)),iv (p (3+5*k+4))],zG (wb l) (u8 m6) true])),[],(by simp [zaL]),⟨zbS rfl rfl rfl rfl,(by first | exact hid1 dC rfl | exact row1 dC rfl),(by cases zd<;>rfl),rfl,rfl,rfl,rfl,rfl,rfl,rfl,rfl,trivial⟩,trivial, ?_⟩
 refine zhw (zT (Wf tk k) (zJ (zJ (zR (o_d 4 (wM 87 0 11 86 0 85 0 84 0) (o_s (by refine zX (v:=zN (zD x.op) 1 x.op.length) rfl rfl ?_;exact rfl) ?_))))))
 rcases ha7:zcA x.op with _ | a7
 ·skip
  refine qW (zaK [1] [zG (zD x.op) (u8 x.op) false] [zN (zD x.op) 0 x.op.length] (zgz ha7 (zjJ (zD x.op) x.op x.op (zcN x.op) om)) rfl (zQ (qI rfl) rfl) ⟨⟨_,rfl,zY (zH _) rfl (fun q=>q)⟩,trivial⟩ dC ?_)
  rintro v1 h1' ⟨rfl,rfl⟩
  refine ⟨zak [_] [],.tuple #[iv 0,.int .u32 0,.int .u32 0,bv false],(ya x qd l 10 zd (yR p is nr w9 l [cw wn,cw (pl p),cw (wS x p),cw [iv (p (3+5*k)),iv (p (3+5*k+1)),iv (p (3+5*k+2)),iv (p (3+5*k+3)),iv (p (3+5*k+4))],zG (wb l) (u8 m6) true])),[],(qR rfl),⟨rfl,(za0 rfl rfl),rfl,rfl,rfl,rfl,rfl,rfl,rfl,rfl,rfl,trivial⟩,trivial, ?_⟩
  refine o_d 9 (xl 11 10 9 8 93 92 91 90 83) (zE (zC (zJ (zR (o_d 13 [(106,bv false),(105,undef),(104,undef),(103,bv false),(102,bv false),(101,undef),(100,undef),(99,undef),(98,undef),(97,undef),(96,undef),(95,bv false),(94,bv false)] (zE (zT ((106,bv false)::(10,.int .u32 0)::(8,iv 0)::(Wf tk k)) (zaW rfl (qK (zC (zJ (zR ?_))))))))))))
  refine o_d 5 (WC tk k) (o_s (by refine zX (v:=zN (wb l) 10 l.length) rfl rfl ?_;exact rfl) ?_)
  refine o_b 2 [(140,.agg (vE k tk l 10))] (ya x qd l 10 zd (yR p is nr w9 l [cw [iv 0,iv (k:Int),bv tk,zN (wb l) 10 l.length],cw (pl p),cw (wS x p),cw [iv (p (3+5*k)),iv (p (3+5*k+1)),iv (p (3+5*k+2)),iv (p (3+5*k+3)),iv (p (3+5*k+4))],zG (wb l) (u8 m6) true])) (zE (zC (qX ?_)))
  have e1:inL p nr x l k=m6:=by
   unfold inL
   simp only [ha7]
   rw [←hba];exact hm6
  exact ⟨trivial,[.agg (vE k tk l 10)],(qZ rfl rfl rfl rfl),(zL rfl z4),⟨reg [],(ya x qd l 6 zd (yR p is nr w9 l (Ww l m6)))⟩,[0,1,2,3,4,5,10],[.agg (vE k tk l 6)],WkR.of (rs:= []) rfl rfl dC trivial ⟨.inl (zax rfl rfl rfl rfl),.inl (zF (zH _)),.inl (congrArg some (zaJ _).symm),.inl (qD rfl),.inl (zF (zH _)),.inl (qT (some w9) (fun _=>(qY _ _))),.inl (zF (zH _)),trivial⟩,(zQ (zbm rfl) rfl),.inr ⟨k,by rw [hin],om,by rw [hin];rfl,by rw [e1]⟩⟩
 ·skip
  have ha7r:=stampO_r ha7
  have ha7m:=zes x.op a7 4 dC
  have ha7n:=zes x.op (a7+4) 4 dC
  refine qW (zaK [1] [zG (zD x.op) (u8 x.op) false] [zN (zD x.op) 0 x.op.length] (zgy ha7 (zjJ (zD x.op) x.op x.op (zcN x.op) om)) rfl (zQ (qI rfl) rfl) ⟨⟨_,rfl,zY (zH _) rfl (fun q=>q)⟩,trivial⟩ dC ?_)
  rintro v1 h1' ⟨rfl,rfl⟩
  refine ⟨zak [_] [],.tuple #[iv (a7:Nat),.int .u32 (qE x.op a7 4),.int .u32 (qE x.op (a7+4) 4),bv true],(ya x qd l 10 zd (yR p is nr w9 l [cw wn,cw (pl p),cw (wS x p),cw [iv (p (3+5*k)),iv (p (3+5*k+1)),iv (p (3+5*k+2)),iv (p (3+5*k+3)),iv (p (3+5*k+4))],zG (wb l) (u8 m6) true])),[],(qR rfl),⟨rfl,(za0 rfl rfl),rfl,rfl,rfl,rfl,rfl,rfl,rfl,rfl,rfl,trivial⟩,trivial, ?_⟩
  refine o_d 9 [(11,bv true),(10,.int .u32 (qE x.op (a7+4) 4)),(9,.int .u32 (qE x.op a7 4)),(8,iv (a7:Nat)),(93,bv true),(92,.int .u32 (qE x.op (a7+4) 4)),(91,.int .u32 (qE x.op a7 4)),(90,iv (a7:Nat)),(83,.tuple #[iv (a7:Nat),.int .u32 (qE x.op a7 4),.int .u32 (qE x.op (a7+4) 4),bv true])] (zE (zC (zJ (zR (o_d 6 [(99,pv 0 0),(98,pv 0 0),(97,pv 0 0),(96,pv 0 0),(95,bv true),(94,bv true)] (qC rfl (o_s (by refine zX (v:=iv x.k) rfl rfl ?_;exact rfl) ?_)))))))
  refine o_d 3 [(103,bv (x.k==1)),(102,bv (x.k==1)),(101,bv (x.k==1))] (zby (b:=x.k==1) 103 rfl (fun h8=>?_) (fun h8=>?_))
  ·skip
   have h8':x.k=1:=zaz h8
   refine o_d 3 [(106,bv ((qE x.op (a7+4) 4)!=0)),(105,bv ((qE x.op (a7+4) 4)!=0)),(104,.int .u32 (qE x.op (a7+4) 4))] (zE (zT ((106,bv ((qE x.op (a7+4) 4)!=0))::(10,.int .u32 (qE x.op (a7+4) 4))::(8,iv (a7:Nat))::(Wf tk k)) (qJ (t:=(qE x.op (a7+4) 4)!=0) rfl (fun h9=>?_) (fun h9=>?_))))
   ·skip
    have h9':qE x.op (a7+4) 4≠0:=zfP h9
    refine zJ (zR (o_d 1 [(12,iv 0)] (zE (zC (zgO (fun s=> ∃(bk:Int),0=0∧(bk=backN nr k (qE x.op (a7+4) 4))∧(0≤bk∧bk < 4294967296)∧s=⟨reg ((12,iv bk)::(8,iv (a7:Nat))::(Wf tk k)),(ya x qd l 10 zd (yR p is nr w9 l [cw wn,cw (pl p),cw (wS x p),cw [iv (p (3+5*k)),iv (p (3+5*k+1)),iv (p (3+5*k+2)),iv (p (3+5*k+3)),iv (p (3+5*k+4))],zG (wb l) (u8 m6) true]))⟩) ?_ ?_)))))
    ·skip
     refine zJ (zR (o_d 3 (xy 110 0 13 109 0 108 0) (o_s (by refine zX (v:=pv 3 0) rfl rfl ?_;exact rfl) ?_)))
     refine o_d 1 [(112,iv (k:Int))] (qW (zdq [3,5] [cr (zM p is nr (wv 1 w9)),cr []] [pv 0 0,iv (k:Int)] (NearK om (NearC p is nr (some w9) (k:Int))) rfl rfl ⟨⟨_,rfl,zas (.inl (zaF rfl (fun q=>q)))⟩,⟨_,rfl,zco (some w9)⟩,trivial⟩ dC ?_))
     rintro v1 h1' ⟨rfl,rfl⟩
     refine ⟨(zW z8 (zW z8 zal)),.tuple #[.int .u32 ((nr k).1),bv ((nr k).2)],(ya x qd l 10 zd (yR p is nr w9 l [cw wn,cw (pl p),cw (wS x p),cw [iv (p (3+5*k)),iv (p (3+5*k+1)),iv (p (3+5*k+2)),iv (p (3+5*k+3)),iv (p (3+5*k+4))],zG (wb l) (u8 m6) true])),[],(qR rfl),⟨rfl,rfl,rfl,rfl,rfl,rfl,rfl,rfl,rfl,rfl,rfl,trivial⟩,trivial, ?_⟩
     refine o_d 5 [(14,bv ((nr k).2)),(13,.int .u32 ((nr k).1)),(115,bv ((nr k).2)),(114,.int .u32 ((nr k).1)),(107,.tuple #[.int .u32 ((nr k).1),bv ((nr k).2)])] (zE (zC (zJ (zR (o_d 1 [(116,bv ((nr k).2))] (zE (zC (qJ (t:=(nr k).2) rfl (fun h10=>?_) (fun h10=>?_)))))))))
     ·skip
      refine zR (o_d 2 [(118,.int .u32 ((nr k).1)),(117,.int .u32 (qE x.op (a7+4) 4))] (qW (zae (cBackC (qE x.op (a7+4) 4) ((nr k).1) om om) rfl rfl rfl ?_)))
      have hy11:=backS_r (qE x.op (a7+4) 4) ((nr k).1)
      refine o_s (by refine zK (v:= .int .i64 (i64.wrap (zfS (qE x.op (a7+4) 4) ((nr k).1)))) (congrArg wg (w64 om om)) ?_;kernel_rfl) ?_
      refine o_d 1 [(12,iv (zfS (qE x.op (a7+4) 4) ((nr k).1)))] (zE (⟨⟨reg ((12,iv (zfS (qE x.op (a7+4) 4) ((nr k).1)))::(8,iv (a7:Nat))::(Wf tk k)),(ya x qd l 10 zd (yR p is nr w9 l [cw wn,cw (pl p),cw (wS x p),cw [iv (p (3+5*k)),iv (p (3+5*k+1)),iv (p (3+5*k+2)),iv (p (3+5*k+3)),iv (p (3+5*k+4))],zG (wb l) (u8 m6) true]))⟩, ?_⟩))
      refine ⟨?_, ?_⟩
      ·exact Wk.ren [0,1,2,3,4,5,6,7,8,9,10] rfl rfl dC ⟨rfl,rfl,rfl,rfl,rfl,rfl,trivial⟩ ⟨.inl (zax rfl rfl rfl rfl),.inl (zF (zH _)),.inl (congrArg some (zaJ _).symm),.inl (qD rfl),.inl (zF (zH _)),.inl (qT (some w9) (fun _=>(qY _ _))),.inl rfl,.inl (zS (zaa p)),.inl rfl,.inl rfl,.inl (zF (zH _)),trivial⟩
      ·exact ⟨(zfS (qE x.op (a7+4) 4) ((nr k).1)),rfl,(by rw [backN,if_pos (by rw [h10])]),(backS_r _ _),rfl⟩
     refine qK (⟨⟨reg ((12,iv 0)::(8,iv (a7:Nat))::(Wf tk k)),(ya x qd l 10 zd (yR p is nr w9 l [cw wn,cw (pl p),cw (wS x p),cw [iv (p (3+5*k)),iv (p (3+5*k+1)),iv (p (3+5*k+2)),iv (p (3+5*k+3)),iv (p (3+5*k+4))],zG (wb l) (u8 m6) true]))⟩, ?_⟩)
     refine ⟨?_, ?_⟩
     ·exact Wk.ren [0,1,2,3,4,5,6,7,8,9,10] rfl rfl dC ⟨rfl,rfl,rfl,rfl,rfl,rfl,trivial⟩ ⟨.inl (zax rfl rfl rfl rfl),.inl (zF (zH _)),.inl (congrArg some (zaJ _).symm),.inl (qD rfl),.inl (zF (zH _)),.inl (qT (some w9) (fun _=>(qY _ _))),.inl rfl,.inl (zS (zaa p)),.inl rfl,.inl rfl,.inl (zF (zH _)),trivial⟩
     ·exact ⟨0,rfl,(by rw [backN,if_neg (by rw [h10];simp)]),om,rfl⟩
    rintro s ⟨bk,-,hbk,hbr,rfl⟩
    refine zR (o_d 4 (wM 124 0 14 123 0 122 0 121 0) (o_s (by refine zX (v:=zN (wb l) 10 l.length) rfl rfl ?_;exact rfl) ?_))
    refine o_d 1 [(126,iv (a7:Nat))] (o_s (by refine zK (v:= .int .i64 (i64.wrap (24+(a7:Nat)))) (congrArg wg (w64 om om)) ?_;kernel_rfl) ?_)
    refine o_s (by refine zK (v:= .int .i64 (i64.wrap (24+(a7:Nat)+4))) (congrArg wg (w64 om om)) ?_;kernel_rfl) ?_
    refine o_d 1 [(129,iv bk)] ?_
    have hy12:=zfi (zeH m6).k
    obtain ⟨m13,hm13⟩: ∃z9,zcj m6 (zeH m6).ba (24+a7+4) 4 bk=z9:=⟨_,rfl⟩
    have hm13a:Alike m6 m13:=by rw [←hm13];exact zfB hm6p.1 om om om om
    have hm13p:=hm13a.parse hm6p.1
    have hm13l:=hm13p.2.2.2
    have hm13k:=hm13p.2.1
    have hm13b:=hm13p.2.2.1
    have hm13e:m13.length=l.length:=(hm13l.trans hm6l)
    refine qW (zaK [10] [zG (wb l) (u8 m6) false] [zN (wb l) 0 l.length,iv (24+(a7:Nat)+4),iv 4,iv bk] (chgR hm13 hm6l (Write4C _ _ m6 m6 (RowOf.whole rfl om) (zeH m6) hm6p.1 (24+a7+4) bk om om om)) rfl rfl ⟨⟨_,rfl,zY (zH _) rfl (fun q=>rfl)⟩,trivial⟩ dC ?_)
    rintro v1 h1' ⟨rfl,rfl⟩
    refine ⟨za2 rfl,.tuple (W7 l 11),(ya x qd l 10 zd (yR p is nr w9 l [cw wn,cw (pl p),cw (wS x p),cw [iv (p (3+5*k)),iv (p (3+5*k+1)),iv (p (3+5*k+2)),iv (p (3+5*k+3)),iv (p (3+5*k+4))],zG (wb l) (u8 m6) true])),(Ww l m13),((zdB _).trans rfl),⟨rfl,rfl,rfl,rfl,rfl,rfl,rfl,rfl,rfl,rfl,rfl,trivial⟩,⟨(Option.some.inj (zF (zH _))).symm,trivial⟩, ?_⟩
    refine o_d 2 (WL 132 131 l 11) (qW (zdq [0,1,2,3,10,11] (vI x qd l zd) [pv 0 0,zN (wb l) 5 l.length,iv 0] (thenC x (zD x.op) qd 0 l.length l.length 0 l.length l.length ((zD x.op).isSome) zd) rfl rfl ⟨⟨_,rfl,zas (.inl (zbY rfl rfl rfl rfl (fun q=>rfl)))⟩,⟨_,rfl,(zcp (zD x.op))⟩,⟨_,rfl,(zdV _)⟩,⟨_,rfl,zaD⟩,⟨_,rfl,zaD⟩,⟨_,rfl,zaD⟩,trivial⟩ dC ?_))
    rintro v1 h1' ⟨rfl,rfl⟩
    refine ⟨(zW zaI (zW z8 (zW z8 (zW z8 (zW z8 (zW z8 zal)))))),.tuple #[],(ya x qd l 11 zd (yR p is nr w9 l (cw wn::cw (pl p)::cw (wS x p)::cw [iv (p (3+5*k)),iv (p (3+5*k+1)),iv (p (3+5*k+2)),iv (p (3+5*k+3)),iv (p (3+5*k+4))]::(Wn l m6 m13)))),[],(by simp [zaL]),⟨zbS rfl rfl rfl rfl,(by first | exact hid1 dC rfl | exact row1 dC rfl),(by cases zd<;>rfl),rfl,rfl,rfl,rfl,rfl,rfl,rfl,rfl,rfl,trivial⟩,trivial, ?_⟩
    refine zE (zC (zJ (zR (o_d 5 (WC tk k) (o_s (by refine zX (v:=zN (wb l) 11 l.length) rfl rfl ?_;exact rfl) ?_)))))
    refine o_b 2 [(140,.agg (vE k tk l 11))] (ya x qd l 11 zd (yR p is nr w9 l (cw [iv 0,iv (k:Int),bv tk,zN (wb l) 11 l.length]::cw (pl p)::cw (wS x p)::cw [iv (p (3+5*k)),iv (p (3+5*k+1)),iv (p (3+5*k+2)),iv (p (3+5*k+3)),iv (p (3+5*k+4))]::(Wn l m6 m13)))) (zE (zT [(2,pv 6 0)] (qX ?_)))
    have e1:inL p nr x l k=m13:=by
     unfold inL
     simp only [ha7]
     rw [if_pos ⟨om,by assumption⟩,←hba,hm6,←hm6b,←hbk];exact hm13
    exact ⟨trivial,[.agg (vE k tk l 11)],(qZ rfl rfl rfl rfl),(zL rfl z4),⟨reg [],(ya x qd l 6 zd (yR p is nr w9 l (Ww l m13)))⟩,[0,1,2,3,4,5,11],[.agg (vE k tk l 6)],WkR.of (rs:= []) rfl rfl dC trivial ⟨.inl (zax rfl rfl rfl rfl),.inl (zF (zH _)),.inl (congrArg some (zaJ _).symm),.inl (qD rfl),.inl (zF (zH _)),.inl (qT (some w9) (fun _=>(qY _ _))),.inl (zF (zH _)),trivial⟩,(zQ (zbm rfl) rfl),.inr ⟨k,by rw [hin],om,by rw [hin];rfl,by rw [e1]⟩⟩
   have h9': ¬(qE x.op (a7+4) 4≠0):=zfQ h9
   refine qK (zC (zJ (zR (o_d 5 (WC tk k) (o_s (by refine zX (v:=zN (wb l) 10 l.length) rfl rfl ?_;exact rfl) ?_)))))
   refine o_b 2 [(140,.agg (vE k tk l 10))] (ya x qd l 10 zd (yR p is nr w9 l [cw [iv 0,iv (k:Int),bv tk,zN (wb l) 10 l.length],cw (pl p),cw (wS x p),cw [iv (p (3+5*k)),iv (p (3+5*k+1)),iv (p (3+5*k+2)),iv (p (3+5*k+3)),iv (p (3+5*k+4))],zG (wb l) (u8 m6) true])) (zE (zC (qX ?_)))
   have e1:inL p nr x l k=m6:=by
    unfold inL
    simp only [ha7]
    rw [if_neg om,←hba];exact hm6
   exact ⟨trivial,[.agg (vE k tk l 10)],(qZ rfl rfl rfl rfl),(zL rfl z4),⟨reg [],(ya x qd l 6 zd (yR p is nr w9 l (Ww l m6)))⟩,[0,1,2,3,4,5,10],[.agg (vE k tk l 6)],WkR.of (rs:= []) rfl rfl dC trivial ⟨.inl (zax rfl rfl rfl rfl),.inl (zF (zH _)),.inl (congrArg some (zaJ _).symm),.inl (qD rfl),.inl (zF (zH _)),.inl (qT (some w9) (fun _=>(qY _ _))),.inl (zF (zH _)),trivial⟩,(zQ (zbm rfl) rfl),.inr ⟨k,by rw [hin],om,by rw [hin];rfl,by rw [e1]⟩⟩
  have h8': ¬(x.k=1):=zaA h8
  refine o_d 3 [(106,bv false),(105,undef),(104,undef)] (zE (zT ((106,bv false)::(10,.int .u32 (qE x.op (a7+4) 4))::(8,iv (a7:Nat))::(Wf tk k)) (zaW rfl (qK (zC (zJ (zR (o_d 5 (WC tk k) (o_s (by refine zX (v:=zN (wb l) 10 l.length) rfl rfl ?_;exact rfl) ?_)))))))))
  refine o_b 2 [(140,.agg (vE k tk l 10))] (ya x qd l 10 zd (yR p is nr w9 l [cw [iv 0,iv (k:Int),bv tk,zN (wb l) 10 l.length],cw (pl p),cw (wS x p),cw [iv (p (3+5*k)),iv (p (3+5*k+1)),iv (p (3+5*k+2)),iv (p (3+5*k+3)),iv (p (3+5*k+4))],zG (wb l) (u8 m6) true])) (zE (zC (qX ?_)))
  have e1:inL p nr x l k=m6:=by
   unfold inL
   simp only [ha7]
   rw [if_neg om,←hba];exact hm6
  exact ⟨trivial,[.agg (vE k tk l 10)],(qZ rfl rfl rfl rfl),(zL rfl z4),⟨reg [],(ya x qd l 6 zd (yR p is nr w9 l (Ww l m6)))⟩,[0,1,2,3,4,5,10],[.agg (vE k tk l 6)],WkR.of (rs:= []) rfl rfl dC trivial ⟨.inl (zax rfl rfl rfl rfl),.inl (zF (zH _)),.inl (congrArg some (zaJ _).symm),.inl (qD rfl),.inl (zF (zH _)),.inl (qT (some w9) (fun _=>(qY _ _))),.inl (zF (zH _)),trivial⟩,(zQ (zbm rfl) rfl),.inr ⟨k,by rw [hin],om,by rw [hin];rfl,by rw [e1]⟩⟩
theorem inW {P:Program} [PrC P] (p:q9) (is:Bool) (nr:zdu) (w9:Nat) (x:Pk) (qd:Option (Nat×Nat)) (zd:Bool) (l:List Int) (y:Pk) (hp:qV l=(0,y)) (hk:y.k=x.k) (hba:y.ba=x.ba) (h3:x.k≠3) (hop:x.op.length+24≤l.length) (H:PRng p) (hnr: ∀k,0≤(nr k).1∧(nr k).1 < 4294967296) (N:Nat) (hN:l.length=N):
  Env P "(*roundhouse/plane.packet).in" [pv 0 0] ([cw (qS x (zD x.op) 1 qd 2 3 (some (0,N)) 4 N),zG (zD x.op) (u8 x.op) false,zaB zd,cr (zM p is nr (slV 5 127 (some w9))),zG (some (0,N)) (u8 l) false,slB zI (ii (z7 p)) (some w9)]) (fun v h'=>((inP p x).1 < 0∧v= .agg #[iv 9,iv (-1),bv false,.slice none 0 0]∧h'= [cw (qS x (zD x.op) 1 qd 2 3 (some (0,N)) 4 N),zG (zD x.op) (u8 x.op) false,zaB zd,cr (zM p is nr (slV 5 127 (some w9))),zG (some (0,N)) (u8 l) false,slB zI (ii (z7 p)) (some w9)])∨(∃k:Nat,(inP p x).1=(k:Int)∧k < 64∧v= .agg #[iv 0,iv (k:Int),bv (inP p x).2,zN (some (0,N)) 6 N]∧h'= [cw (qS x (zD x.op) 1 qd 2 3 (some (0,N)) 6 N),zG (zD x.op) (u8 x.op) false,zaB zd,cr (zM p is nr (slV 5 127 (some w9))),zG (some (0,N)) (u8 l) false,slB zI (ii (z7 p)) (some w9),zG (some (0,N)) (u8 (inL p nr x l k)) true])):=by
 subst hN;exact inC4 p is nr w9 x qd zd l y hp hk hba h3 hop H hnr
end Go.Rh

namespace Go.Rh
theorem app_fit {h:Nat→Option Blk} {z:RL} {zl:List Value} {size bytes q n k r2 c nid:Nat} {cs xs:List Value} {vx:Value} (hzl:zl.length=size) (hk:h k=some (.cells (cs++zai zl (q+r2)) true)) (hcs:cs.length=n*size) (hq:ziU vx=some q) (hf1:first h size q vx=some xs) (hxl:xs.length=q*size):
  appE z size bytes (sv k 0 n (n+(q+r2))) vx h nid c=some (sv k 0 (n+q) (n+q+r2),if q=0 then .no else .set k (cw (cs++xs++zai zl r2))):=by
 have e1:first h size n (.slice (some ⟨k,0,none⟩) n (n+(q+r2)))=some cs:=by
  refine zbH hk ?_ ?_
  ·rw [List.drop_zero,←hcs,List.take_append_of_le_length (Nat.le_refl _),List.take_length]
  ·simp [hcs]
 simp only [appE,sv,hq]
 rw [e1,hf1]
 simp only
 rw [if_pos om]
 by_cases h0:q=0
 ·subst h0;simp
 ·rw [if_neg h0,if_neg h0,hk]
  simp only
  have hsz:(cs++zai zl (q+r2)).length=n*size+(q+r2)*size:=by simp [room_len,hzl,hcs]
  rw [if_pos (by rw [hsz,hxl,Nat.add_mul];omega)]
  have e2:splice (cs++zai zl (q+r2)) (0+n*size) xs=(cs++xs)++zai zl r2:=by
   rw [Nat.zero_add,←hcs];exact zh2 (by rw [hzl];exact hxl)
  rw [e2,show n+(q+r2)=n+q+r2 by omega]
theorem set_same {h:List Blk} {k:Nat} {b:Blk} (hk:h[k]? =some b):h.set k b=h:=by
 refine List.ext_getElem? fun i=>?_
 rw [List.getElem?_set]
 split
 ·rename_i e;subst e;rw [if_pos (zZ hk),hk]
 ·rfl
section
variable {C:zaf} {K:St→Prop} {L:List (Nat×Value)} {h h':List Blk} {z:RL} {zl:List Value} {size bytes q n k r r2 d:Nat} {cs xs cs2:List Value} {vx:Value} {s x:Opd} {rs:List ICell}
theorem o_appF (hzl:zl.length=size) (hs:evf (reg L) s=sv k 0 n (n+r)) (hr:r=q+r2) (hk:h[k]? =some (.cells (cs++zai zl r) true)) (hcs:cs.length=n*size) (hx:evf (reg L) x=vx) (hq:ziU vx=some q) (hf1:first (hf h) size q vx=some xs) (hxl:xs.length=q*size) (hc:cs++xs=cs2) (hh:h.set k (cw (cs2++zai zl r2))=h')
  (hK:GO C rs K ⟨reg ((d,sv k 0 (n+q) (n+q+r2))::L),h'⟩):GO C (⟨some d,.app z size bytes s x,none⟩::rs) K ⟨reg L,h⟩:=by
 subst hr;subst hc;subst hh
 refine ⟨?_⟩
 show zfs C (.app z size bytes s x) (reg L) h (fun v h=>zbr C rs K ⟨zav (reg L) (some d) v,h⟩)
 show appK z size bytes (evf (reg L) s) (evf (reg L) x) (fun v e=>zbr C rs K ⟨zav (reg L) (some d) v,e.on h⟩) (hf h) h.length
 rw [hs,hx]
 refine appK_of fun c=>⟨_,_,app_fit hzl (zag.2 ⟨hk,by simp⟩) hcs hq hf1 hxl, ?_⟩
 have:=hK.out
 by_cases h0:q=0
 ·subst h0
  have hx0:xs= []:=List.eq_nil_of_length_eq_zero (by simpa using hxl)
  subst hx0
  rw [if_pos rfl]
  rw [List.append_nil,set_same (by rw [hk,Nat.zero_add])] at this
  exact this
 ·rw [if_neg h0];exact this
theorem d_appF {un:Nat→Nat→Bool} {i nid:Nat} {log:List Foot} (hzl:zl.length=size) (hs:evf (reg L) s=sv k 0 n (n+r)) (hr:r=q+r2) (hk:h[k]? =some (.cells (cs++zai zl r) true)) (hcs:cs.length=n*size) (hx:evf (reg L) x=vx) (hq:ziU vx=some q) (hf1:first (hf h) size q vx=some xs) (hxl:xs.length=q*size) (hc:cs++xs=cs2) (hh:h.set k (cw (cs2++zai zl r2))=h')
  (hq0:0 < q) (hfit:zhv un ⟨i,rdE (.appR z size bytes s x) (evf (reg L)),[k],none⟩ log=true) (hK:GD C un (i+1) (nid+1) rs (zei ⟨i,rdE (.appR z size bytes s x) (evf (reg L)),[k],none⟩ log) K ⟨reg ((d,sv k 0 (n+q) (n+q+r2))::L),h'⟩):GD C un i nid (⟨some d,.appR z size bytes s x,none⟩::rs) log K ⟨reg L,h⟩:=by
 subst hr;subst hc;subst hh
 refine ⟨?_⟩
 show zaQ C un ⟨i,nid,some d,.appR z size bytes s x,none⟩ log (fun log' s'=>wpD C un (zbx (i+1) (nid+1) rs) log' K s') ⟨reg L,h⟩
 simp only [zaQ,gJ,zbI,if_true,if_false,Bool.false_eq_true]
 intro c
 rw [hs,hx,app_fit hzl (zag.2 ⟨hk,by simp⟩) hcs hq hf1 hxl,if_neg om]
 exact ⟨trivial,zck hfit,hK.out⟩
theorem d_appF0 {un:Nat→Nat→Bool} {i nid:Nat} {log:List Foot} (hzl:zl.length=size) (hs:evf (reg L) s=sv k 0 n (n+r)) (hr:r=q+r2) (hk:h[k]? =some (.cells (cs++zai zl r) true)) (hcs:cs.length=n*size) (hx:evf (reg L) x=vx) (hq:ziU vx=some q) (hf1:first (hf h) size q vx=some xs) (hxl:xs.length=q*size) (hc:cs++xs=cs2) (hh:h.set k (cw (cs2++zai zl r2))=h')
  (hq0:q=0) (hfit:zhv un ⟨i,rdE (.appR z size bytes s x) (evf (reg L)),[],none⟩ log=true) (hK:GD C un (i+1) (nid+1) rs (zei ⟨i,rdE (.appR z size bytes s x) (evf (reg L)),[],none⟩ log) K ⟨reg ((d,sv k 0 (n+q) (n+q+r2))::L),h'⟩):GD C un i nid (⟨some d,.appR z size bytes s x,none⟩::rs) log K ⟨reg L,h⟩:=by
 subst hr;subst hc;subst hh
 refine ⟨?_⟩
 show zaQ C un ⟨i,nid,some d,.appR z size bytes s x,none⟩ log (fun log' s'=>wpD C un (zbx (i+1) (nid+1) rs) log' K s') ⟨reg L,h⟩
 simp only [zaQ,gJ,zbI,if_true,if_false,Bool.false_eq_true]
 intro c
 rw [hs,hx,app_fit hzl (zag.2 ⟨hk,by simp⟩) hcs hq hf1 hxl,if_pos hq0]
 have:=hK.out
 subst hq0
 have hx0:xs= []:=List.eq_nil_of_length_eq_zero (by simpa using hxl)
 subst hx0
 rw [List.append_nil,set_same (by rw [hk,Nat.zero_add])] at this
 exact ⟨trivial,zck hfit,this⟩
end
theorem zcT (q:Option (Nat×Nat)) (k n:Nat) (hq:q=none→n=0):ziU (zN q k n)=some n:=by
 cases q with
 | none=>rw [hq rfl];rfl
 | some p=>rfl
theorem zcO {h:List Blk} {k:Nat} {q q0:Option (Nat×Nat)} {L l:List Int} {rw:Bool} (hk:h[k]? =some (zG q0 (u8 L) rw)) (hs:q.isSome=q0.isSome) (hr:RowOf q L l):first (hf h) 1 l.length (zN q k l.length)=some (u8 l):=by
 cases q with
 | none=>have:=List.eq_nil_of_length_eq_zero (hr.nil rfl);subst this;rfl
 | some p=>
  obtain ⟨p0,rfl⟩: ∃p0,q0=some p0:=by cases q0 with | none=>cases hs | some p0=>exact ⟨p0,rfl⟩
  have h6:hf h k=some (.cells (u8 L) rw):=zag.2 ⟨hk,by simp⟩
  have h7:=hr.off (by simp)
  have h8:=hr.at_ (by simp)
  simp only [qo] at h7 h8
  simp only [zN]
  refine zbH h6 ?_ (by rw [qL];omega)
  rw [Nat.mul_one]
  conv=>rhs;rw [←h8]
  simp [u8]
theorem zeK {l:List Int} {i r:Nat} {x w:Int} (hi:i < l.length) (hw:x % 256=w):splice (u8 l++zai zB r) i [.int .u8 w]=u8 (l.set i x)++zai zB r:=by
 rw [zek (by rw [qL];simp;omega),u8_set hi hw]
theorem run_mksR {d:Option Nat} {l c:Opd} {L:List (Nat×Value)} {hp:List Blk} {a n r:Nat} (hl:evf (reg L) l=iv (a:Nat)) (hc:evf (reg L) c=iv (n:Nat)) (hn:n=a+r) (hb:n≤1000000):
  zc3 [⟨d,.mks [(1,(.int .u8 0))] 1 1 l c,none⟩] ⟨reg L,hp⟩=some ⟨zav (reg L) d (sv hp.length 0 a (a+r)),hp++ [cw (u8 (List.replicate a 0)++zai zB r)]⟩:=by
 subst hn
 refine zaO (e:= .push (cw (u8 (List.replicate a 0)++zai zB r))) (v:=sv hp.length 0 a (a+r)) rfl rfl ?_
 simp only [z5,hl,hc,iv]
 rw [if_pos ⟨om,om,om,om⟩]
 simp only [Int.toNat_natCast]
 rw [zgH,zcz,List.replicate_append_replicate,←u8_rep];rfl
def zbP (b:List Int):List Int:=
 (if b.getD 0 0 % 256=3 then [0,b.getD 0 0,((b.length:Int) - 16) / 256,(b.length:Int) - 16] else (b.drop 4).take 8++ [0,b.getD 0 0,((b.length:Int) - 16) / 256,(b.length:Int) - 16])++b.drop 16
def bldH (x:Pk) (n:Int):List Int:=
 za8 (za8 (za8 ((((List.replicate 16 (0:Int)).set 0 x.k).set 1 x.li).set 12 x.pi) 2 2 n) 4 4 x.fr) 8 4 x.t
def bldS (x:Pk) (n:Int):List Int:=za8 (bldH x n) 14 2 (65535 - zbR (bldH x n))
def bldB (x:Pk):List Int:=
 if x.k=3 then bldS x (20+(x.da.length:Nat))++ [x.co,0,0,0]++x.da
 else if x.k=2 then za8 (za8 (za8 (bldS x (24+(x.da.length:Nat))++List.replicate 8 0) 20 2 x.la) 16 2 x.fp) 18 2 x.tp++x.da
 else za8 (za8 (((bldS x (24+(x.da.length:Nat)+(x.op.length:Nat))++List.replicate 8 0++x.op).set 20 x.fl).set 21 (x.op.length:Nat)) 16 2 x.fp) 18 2 x.tp++x.da
def bldX (x:Pk):Int:=
 if x.k=2 then (if x.ba then 0 else if 65535 - zbR (zbP (bldB x))=0 then 65535 else 65535 - zbR (zbP (bldB x))) else 65535 - zbR (zbP (bldB x))
def bld (x:Pk):List Int:=za8 (bldB x) (zaj x.k).toNat 2 (bldX x)
structure BOk (x:Pk):Prop where
  k:1≤x.k∧x.k≤3
  li:0≤x.li∧x.li≤255
  pi:0≤x.pi∧x.pi≤255
  fr:0≤x.fr∧x.fr≤4294967295
  t:0≤x.t∧x.t≤4294967295
  co:x.k=3→0≤x.co∧x.co≤255
  fp:x.k≠3→(0≤x.fp∧x.fp≤65535)∧(0≤x.tp∧x.tp≤65535)
  fl:x.k=1→0≤x.fl∧x.fl≤15
  la:x.k=2→0≤x.la∧x.la≤65535
  op:x.k=1→x.op.length≤40
  da:x.k=3→24≤x.da.length
  n:(x.k=1→24+x.da.length+x.op.length≤1500)∧(x.k=2→24+x.da.length≤1500)∧(x.k=3→20+x.da.length≤1500)
end Go.Rh

namespace Go.Rh
theorem zb9 {l m:List Int} {i:Nat} (h:i < l.length):(l++m).getD i 0=l.getD i 0:=by
 rw [List.getD_eq_getElem?_getD,List.getD_eq_getElem?_getD,List.getElem?_append_left h]
theorem zgL {l m:List Int} {a:Nat} : ∀k,(∀i,a≤i→i < a+k→l.getD i 0=m.getD i 0)→qE l a k=qE m a k
 | 0,_=>rfl
 | k+1,h=>by simp only [qE];rw [zgL k (fun i h1 h2=>h i h1 om),h (a+k) om om]
theorem zd8 {l m:List Int} {a k:Nat} (h:a+k≤l.length):qE (l++m) a k=qE l a k:=zgL k fun i _ h2=>zb9 om
theorem getD_rep (n i:Nat):(List.replicate n (0:Int)).getD i 0=0:=by
 rw [List.getD_eq_getElem?_getD,List.getElem?_replicate];split<;>rfl
theorem ziN (x:Pk) (n:Int):(bldH x n).length=16:=by unfold bldH;simp only [zU,List.length_set,List.length_replicate]
theorem za3 (x:Pk) (n:Int):(bldS x n).length=16:=by unfold bldS;rw [zU,ziN]
structure HdOk (l:List Int) (x:Pk) (n:Int):Prop where
  b0:l.getD 0 0 % 256=x.k
  b1:l.getD 1 0 % 256=x.li
  b12:l.getD 12 0 % 256=x.pi
  b13:l.getD 13 0 % 256=0
  n2:qE l 2 2=n
  fr:qE l 4 4=x.fr
  t:qE l 8 4=x.t
  w:zge l % 65535=0
theorem bldH_hd {x:Pk} {n:Int} (hk:1≤x.k∧x.k≤3) (hl:0≤x.li∧x.li≤255) (hp:0≤x.pi∧x.pi≤255) (hf:0≤x.fr∧x.fr≤4294967295) (ht:0≤x.t∧x.t≤4294967295) (hn:0≤n∧n < 65536):
  (bldH x n).getD 0 0 % 256=x.k∧(bldH x n).getD 1 0 % 256=x.li∧(bldH x n).getD 12 0 % 256=x.pi∧(bldH x n).getD 13 0 % 256=0∧qE (bldH x n) 2 2=n∧qE (bldH x n) 4 4=x.fr∧qE (bldH x n) 8 4=x.t∧qE (bldH x n) 14 2=0:=by
 unfold bldH
 have gp:=zbe
 refine ⟨?_, ?_, ?_, ?_, ?_, ?_, ?_, ?_⟩
 ·rw [gp _ _ _ _ _ om,gp _ _ _ _ _ om,gp _ _ _ _ _ om,zaq om,zaq om,zaS (by simp)];omega
 ·rw [gp _ _ _ _ _ om,gp _ _ _ _ _ om,gp _ _ _ _ _ om,zaq om,zaS (by simp)];omega
 ·rw [gp _ _ _ _ _ om,gp _ _ _ _ _ om,gp _ _ _ _ _ om,zaS (by simp)];omega
 ·rw [gp _ _ _ _ _ om,gp _ _ _ _ _ om,gp _ _ _ _ _ om,zaq om,zaq om,zaq om,getD_rep];rfl
 ·rw [qU _ om,qU _ om,zbU (by simp) om]
 ·rw [qU _ om,numB_put4 (by simp only [zU];simp) om]
 ·rw [numB_put4 (by simp only [zU];simp) om]
 ·rw [qU _ om,qU _ om,qU _ om,zer _ om,zer _ om,zer _ om]
  simp only [qE,getD_rep];rfl
theorem bldS_hd {x:Pk} {n:Int} (hk:1≤x.k∧x.k≤3) (hl:0≤x.li∧x.li≤255) (hp:0≤x.pi∧x.pi≤255) (hf:0≤x.fr∧x.fr≤4294967295) (ht:0≤x.t∧x.t≤4294967295) (hn:0≤n∧n < 65536):HdOk (bldS x n) x n:=by
 have h:=bldH_hd hk hl hp hf ht hn
 have hln:=ziN x n
 have ha:=zhu (bldH x n)
 have h8:=ziS (l:=bldH x n) om (zeV om) 8 (Nat.le_refl _)
 rw [List.take_of_length_le om] at h8
 have e:zbR (bldH x n)=zht (bldH x n) 8:=by unfold zbR;rw [hln]
 rw [←e] at h8
 unfold bldS
 have gp:=zbe
 refine ⟨?_, ?_, ?_, ?_, ?_, ?_, ?_, ?_⟩
 ·rw [gp _ _ _ _ _ om];exact h.1
 ·rw [gp _ _ _ _ _ om];exact h.2.1
 ·rw [gp _ _ _ _ _ om];exact h.2.2.1
 ·rw [gp _ _ _ _ _ om];exact h.2.2.2.1
 ·rw [qU _ om];exact h.2.2.2.2.1
 ·rw [qU _ om];exact h.2.2.2.2.2.1
 ·rw [qU _ om];exact h.2.2.2.2.2.2.1
 ·unfold zge
  rw [qU _ om,qU _ om,qU _ om,qU _ om,qU _ om,qU _ om,qU _ om,zbU om om]
  have h14:=h.2.2.2.2.2.2.2
  simp at h8
  omega
theorem HdOk.same {l m:List Int} {x:Pk} {n:Int} (h:HdOk l x n) (e: ∀i,i < 16→m.getD i 0=l.getD i 0):HdOk m x n:=by
 have c: ∀a k,a+k≤16→qE m a k=qE l a k:=fun a k q=>zgL k fun i _ h2=>e i om
 refine ⟨?_, ?_, ?_, ?_, ?_, ?_, ?_, ?_⟩
 ·rw [e 0 om];exact h.b0
 ·rw [e 1 om];exact h.b1
 ·rw [e 12 om];exact h.b12
 ·rw [e 13 om];exact h.b13
 ·rw [c _ _ om];exact h.n2
 ·rw [c _ _ om];exact h.fr
 ·rw [c _ _ om];exact h.t
 ·unfold zge
  rw [c _ _ om,c _ _ om,c _ _ om,c _ _ om,c _ _ om,c _ _ om,c _ _ om,c _ _ om]
  exact h.w
theorem bldX_r (x:Pk):0≤bldX x∧bldX x < 65536:=by
 have:=zhu (zbP (bldB x))
 unfold bldX;(repeat' split)<;>omega
theorem bldB_length (x:Pk):(bldB x).length=if x.k=3 then 20+x.da.length else if x.k=2 then 24+x.da.length else 24+x.op.length+x.da.length:=by
 unfold bldB
 split
 ·simp only [List.length_append,za3,List.length_cons,List.length_nil]
 split
 ·simp only [List.length_append,zU,za3,List.length_replicate]
 ·simp only [List.length_append,zU,List.length_set,za3,List.length_replicate]
theorem zef (x:Pk):(bld x).length=if x.k=3 then 20+x.da.length else if x.k=2 then 24+x.da.length else 24+x.op.length+x.da.length:=by
 unfold bld;rw [zU,bldB_length]
theorem bld_hd {x:Pk} (B:BOk x):HdOk (bld x) x ((bld x).length:Int):=by
 have hn:=B.n
 rw [zef]
 have gp:=zbe
 have hX: ∀i,i < 16→(bld x).getD i 0=(bldB x).getD i 0:=fun i hi=>by
  unfold bld;rw [gp _ _ _ _ _ (by rw [zfL];split<;>omega)]
 by_cases h3:x.k=3
 ·rw [if_pos h3]
  refine (bldS_hd B.k B.li B.pi B.fr B.t (n:=20+(x.da.length:Nat)) om).same fun i hi=>?_
  rw [hX i hi];unfold bldB;rw [if_pos h3,zb9 (by simp [za3];omega),zb9 (by rw [za3];omega)]
 ·rw [if_neg h3]
  by_cases h2:x.k=2
  ·rw [if_pos h2]
   refine (bldS_hd B.k B.li B.pi B.fr B.t (n:=24+(x.da.length:Nat)) om).same fun i hi=>?_
   rw [hX i hi];unfold bldB
   rw [if_neg h3,if_pos h2,zb9 (by simp only [zU,List.length_append,za3];omega),gp _ _ _ _ _ om,gp _ _ _ _ _ om,gp _ _ _ _ _ om,zb9 (by rw [za3];omega)]
  ·rw [if_neg h2]
   have h1:x.k=1:=by have:=B.k;omega
   have:=hn.1 h1
   rw [show ((24+x.op.length+x.da.length:Nat):Int)=24+(x.da.length:Nat)+(x.op.length:Nat) by omega]
   refine (bldS_hd B.k B.li B.pi B.fr B.t (n:=24+(x.da.length:Nat)+(x.op.length:Nat)) om).same fun i hi=>?_
   rw [hX i hi];unfold bldB
   rw [if_neg h3,if_neg h2,zb9 (by simp only [zU,List.length_set,List.length_append,za3];omega),gp _ _ _ _ _ om,gp _ _ _ _ _ om,zaq om,zaq om,zb9 (by simp only [List.length_append,za3];omega),zb9 (by rw [za3];omega)]
theorem parse_bld2 {x:Pk} (B:BOk x) (h2:x.k=2) (hfl:x.fl=0) (hco:x.co=0) (hop:x.op= []):qV (bld x)=(0,x):=by
 have H:=bld_hd B
 have hl:=zef x
 rw [if_neg om,if_pos h2] at hl
 have hn:=B.n.2.1 h2;have hla:=B.la h2;have hf:=B.fp om
 have hX:=bldX_r x
 have hp:(zaj x.k).toNat=22:=by rw [zfL,if_neg om]
 have hY:bldB x=za8 (za8 (za8 (bldS x (24+(x.da.length:Nat))++List.replicate 8 0) 20 2 x.la) 16 2 x.fp) 18 2 x.tp++x.da:=by unfold bldB;rw [if_neg om,if_pos h2]
 have hYl:(za8 (za8 (za8 (bldS x (24+(x.da.length:Nat))++List.replicate 8 0) 20 2 x.la) 16 2 x.fp) 18 2 x.tp).length=24:=by
  simp only [zU,List.length_append,za3,List.length_replicate]
 have hb:bld x=za8 (za8 (za8 (za8 (bldS x (24+(x.da.length:Nat))++List.replicate 8 0) 20 2 x.la) 16 2 x.fp) 18 2 x.tp) 22 2 (bldX x)++x.da:=by
  unfold bld;rw [hp,hY,zfg _ _ _ _ _ om]
 have P:PkB (bld x):=⟨om,by rw [H.b0];omega,by rw [H.n2],H.b13,H.w,fun q=>by rw [H.b0] at q;omega,fun q=>by rw [H.b0] at q;omega⟩
 rw [P.parse]
 have hlY:=hYl
 simp only [zU] at hlY
 unfold zeH
 rw [if_neg (by rw [H.b0];omega),if_pos (by rw [H.b0];omega),H.b0,H.b1,H.b12,H.fr,H.t]
 have e16:qE (bld x) 16 2=x.fp:=by
  rw [hb,zd8 (by simp only [zU];omega),qU _ om,qU _ om,zbU (by simp only [zU];omega) om]
 have e18:qE (bld x) 18 2=x.tp:=by
  rw [hb,zd8 (by simp only [zU];omega),qU _ om,zbU (by simp only [zU];omega) om]
 have e20:qE (bld x) 20 2=x.la:=by
  rw [hb,zd8 (by simp only [zU];omega),qU _ om,qU _ om,qU _ om,zbU om om]
 have e22:qE (bld x) 22 2=bldX x:=by
  rw [hb,zd8 (by simp only [zU];omega),zbU (by simp only [zU];omega) om]
 have ed:(bld x).drop 24=x.da:=by
  rw [hb,List.drop_left' (by simp only [zU];omega)]
 have eb:(bldX x==0)=x.ba:=by
  unfold bldX;rw [if_pos h2]
  cases hba:x.ba
  ·rw [if_neg (by simp)]
   split
   ·rfl
   ·rw [beq_eq_false_iff_ne];assumption
  ·rw [if_pos rfl];rfl
 rw [e16,e18,e20,e22,ed,eb]
 obtain ⟨k,li,pi,fr,t,fp,tp,fl,la,ba,co,op,da⟩:=x
 subst hfl hco hop;rfl
theorem parse_bld1 {x:Pk} (B:BOk x) (h1:x.k=1) (hla:x.la=0) (hba:x.ba=false) (hco:x.co=0):qV (bld x)=(0,x):=by
 have H:=bld_hd B
 have hl:=zef x
 rw [if_neg om,if_neg om] at hl
 have hn:=B.n.1 h1;have hop:=B.op h1;have hf:=B.fp om;have hfl:=B.fl h1
 have hX:=bldX_r x
 have hp:(zaj x.k).toNat=22:=by rw [zfL,if_neg om]
 obtain ⟨Z,hZ⟩: ∃Z,bldS x (24+(x.da.length:Nat)+(x.op.length:Nat))++List.replicate 8 0=Z:=⟨_,rfl⟩
 have hZl:Z.length=24:=by rw [←hZ];simp [za3]
 have hY:bldB x=za8 (za8 ((Z.set 20 x.fl).set 21 (x.op.length:Nat)) 16 2 x.fp) 18 2 x.tp++x.op++x.da:=by
  unfold bldB;rw [if_neg om,if_neg om,hZ,List.set_append_left _ _ om,List.set_append_left _ _ (by simp;omega),zfg _ _ _ _ _ (by simp;omega),zfg _ _ _ _ _ (by simp only [zU];simp;omega)]
 have hb:bld x=za8 (za8 (za8 ((Z.set 20 x.fl).set 21 (x.op.length:Nat)) 16 2 x.fp) 18 2 x.tp) 22 2 (bldX x)++(x.op++x.da):=by
  unfold bld;rw [hp,hY,List.append_assoc,zfg _ _ _ _ _ (by simp only [zU,List.length_set];omega)]
 have gp:=zbe
 have e20:(bld x).getD 20 0=x.fl:=by
  rw [hb,zb9 (by simp only [zU,List.length_set];omega),gp _ _ _ _ _ om,gp _ _ _ _ _ om,gp _ _ _ _ _ om,zaq om,zaS om]
 have e21:(bld x).getD 21 0=(x.op.length:Nat):=by
  rw [hb,zb9 (by simp only [zU,List.length_set];omega),gp _ _ _ _ _ om,gp _ _ _ _ _ om,gp _ _ _ _ _ om,zaS (by simp;omega)]
 have P:PkB (bld x):=⟨om,by rw [H.b0];omega,by rw [H.n2],H.b13,H.w,fun q=>by rw [H.b0] at q;omega,fun q=>⟨by rw [e20];omega,by rw [e21];omega,by rw [e21];omega⟩⟩
 rw [P.parse]
 unfold zeH
 rw [if_neg (by rw [H.b0];omega),if_neg (by rw [H.b0];omega),H.b0,H.b1,H.b12,H.fr,H.t]
 have e16:qE (bld x) 16 2=x.fp:=by
  rw [hb,zd8 (by simp only [zU,List.length_set];omega),qU _ om,qU _ om,zbU (by simp only [zU,List.length_set];omega) om]
 have e18:qE (bld x) 18 2=x.tp:=by
  rw [hb,zd8 (by simp only [zU,List.length_set];omega),qU _ om,zbU (by simp only [zU,List.length_set];omega) om]
 have en:((bld x).getD 21 0 % 256).toNat=x.op.length:=by rw [e21];omega
 have hd:(bld x).drop 24=x.op++x.da:=by rw [hb,List.drop_left' (by simp only [zU,List.length_set];omega)]
 have ed1:((bld x).drop 24).take x.op.length=x.op:=by rw [hd,List.take_left' rfl]
 have ed2:(bld x).drop (24+x.op.length)=x.da:=by rw [←List.drop_drop,hd,List.drop_left' rfl]
 rw [en,e16,e18,ed1,ed2,e20,Int.emod_eq_of_lt om om]
 obtain ⟨k,li,pi,fr,t,fp,tp,fl,la,ba,co,op,da⟩:=x
 subst hla hba hco;rfl
end Go.Rh

namespace Go.Rh
theorem zi5 {p:q9} {nr:zdu} {l:List Int} {x:Pk} (hp:qV l=(0,x)) (hpi:x.pi=0) (hli:2≤x.li):zaC p nr l=go9S p nr x (ageL l x.ba):=by
 unfold zaC;rw [hp,if_neg (by simp),if_neg (by simpa using hpi),if_neg (by show¬x.li < 2;omega)]
theorem take_out {p:q9} {nr:zdu} {l:List Int} {x:Pk} {s:Nat} (hp:qV l=(0,x)) (hpi:x.pi=0) (hli:2≤x.li) (hk:x.k≠3) (ht: ¬(x.t=p 1∧x.tp=p 2)) (hf:zao (zdo p x.fr x.fp) 0 64=((s:Int),true)):
  zaC p nr l=(⟨0,-1,false,outL p x (ageL l x.ba) s⟩,outN nr x s):=by
 rw [zi5 hp hpi hli];unfold go9S;rw [if_neg hk,if_neg ht,hf];rfl
end Go.Rh

set_option maxHeartbeats 1000000
namespace Go.Rh
theorem within9C {P:Program} [PrC P] (x n:Int) (hn:n≠0):
    Env P "roundhouse/roundhouselaw9.within" [iv x,iv n] ([]) (Ans (.int .i64 (zA x n)) ([])):=by
 refine Env.by PrC.law9_within ?_
 unfold zgm
 show GC _ 0 _ _ ⟨reg [(0,iv x),(1,iv n)],[]⟩
 refine zJ (zR (o_d 1 [(4,iv 0)] (zE (zC (zJ (zR (o_d 2 [(7,iv n),(6,iv x)] (o_s (by exact run_rem rfl rfl om) ?_))))))))
 refine o_d 1 [(5,iv (x.tmod n))] (zE (zC (zJ (zJ (zR (o_d 2 [(10,bv (decide (x.tmod n < 0))),(9,iv (x.tmod n))] (zE (zC (qJ (t:=decide (x.tmod n < 0)) rfl (fun h1=>?_) (fun h1=>?_))))))))))
 ·skip
  have h1':x.tmod n < 0:=of_decide_eq_true h1
  refine zR (o_d 4 [(5,iv (i64.wrap (x.tmod n+n))),(13,iv (i64.wrap (x.tmod n+n))),(12,iv n),(11,iv (x.tmod n))] (zE (zC (zJ (zR (o_d 2 [(4,iv (i64.wrap (x.tmod n+n))),(14,iv (i64.wrap (x.tmod n+n)))] (zE (zC (qX ?_)))))))))
  have E0_:zA x n=(i64.wrap (x.tmod n+n)):=by
   unfold zA;simp only [h1',if_true,if_false]
  exact qA [iv (i64.wrap (x.tmod n+n))] (zV rfl rfl) rfl (by rw [E0_];rfl) rfl rfl
 have h1': ¬(x.tmod n < 0):=of_decide_eq_false h1
 refine qK (zC (zJ (zR (o_d 2 [(4,iv (x.tmod n)),(14,iv (x.tmod n))] (zE (zC (qX ?_)))))))
 have E0_:zA x n=(x.tmod n):=by
  unfold zA;simp only [h1',if_true,if_false]
 exact qA [iv (x.tmod n)] (zV rfl rfl) rfl (by rw [E0_];rfl) rfl rfl
theorem upC {P:Program} [PrC P] (x:q9):
    Env P "roundhouse/roundhouselaw9.up" [zap x] ([]) (fun v h'=> ∃m,v=pv 0 0∧h'= [cw (zM x true nr0 (wv 1 m)),slB zI (ii (z7 x)) (some m)]):=by
 refine Env.by4 PrC.law9_up ?_
 unfold c_law9_up
 show GC _ 0 _ _ ⟨reg [(0,zap x)],[]⟩
 refine zJ (zR (o_b 2 [(2,.pointer none),(1,pv 0 0)] [cw (pl x)] (zE (zC (zJ (zR (qW (zdq [] [] [] (PNewC) rfl rfl trivial dC ?_))))))))
 rintro v1 h1' ⟨rfl,rfl⟩
 refine ⟨zal,pv 1 0,[cw (pl x)],[cw (zM qM false nr0 wA)],rfl,⟨rfl,trivial⟩,⟨(Option.some.inj (qD rfl)).symm,trivial⟩, ?_⟩
 refine o_d 1 [(3,pv 1 0)] (zE (zC (zJ (zJ (zR (o_d 2 [(6,bv true),(5,pv 1 0)] (zE (⟨⟨reg [(6,bv true),(3,pv 1 0),(1,pv 0 0)],[cw (pl x),cw (zM qM false nr0 wA),.gone]⟩,Wk.ren [0,1,2] rfl rfl dC ⟨rfl,rfl,rfl,trivial⟩ ⟨.inl (zS (zaa x)),.inl (qD rfl),.inr ⟨rfl,rfl⟩,trivial⟩, ?_⟩))))))))
 refine zcU rfl (zR (o_d 1 [(7,pv 1 0)] (o_s (by refine zX (v:=zap x) rfl rfl ?_;exact zaM x) ?_)))
 refine qW (zdq [1,0] [cw (vO 1),cr []] [pv 0 0,zap x] (PLoadC qM false nr0 none x) rfl (zQ rfl (zQ (qR (zbi x)) rfl)) ⟨⟨_,rfl,zas (.inl (zaF rfl (fun q=>rfl)))⟩,⟨_,rfl,zaD⟩,trivial⟩ dC ?_)
 rintro v1 h1' ⟨rfl,m1,rfl⟩
 refine ⟨(zW zaI (zW z8 zal)),.tuple #[],[cw (pl x),cw (zM x true nr0 (wv 3 m1)),.gone],[slB zI (ii (z7 x)) (some m1)],(by simp [zaL]),⟨rfl,zba rfl,rfl,trivial⟩,⟨(Option.some.inj (qT (some m1) (fun _=>(qY _ _)))).symm,trivial⟩, ?_⟩
 exact zE (zC (zJ (zR (o_d 2 [(2,pv 1 0),(10,pv 1 0)] (zE (zC (qX (⟨trivial,[pv 1 0],(zV rfl rfl),(zL rfl z4),⟨reg [],[cw (zM x true nr0 (wv 1 m1)),slB zI (ii (z7 x)) (some m1)]⟩,[1,3],[pv 0 0],WkR.of (rs:= []) rfl rfl dC trivial ⟨.inl (qD rfl),.inl (qT (some m1) (fun _=>(qY _ _))),trivial⟩,rfl,m1,rfl,rfl⟩))))))))
end Go.Rh

set_option maxHeartbeats 1000000
namespace Go.Rh
theorem zhY (b:List Int):(zbP b).length≤b.length+12:=by
 unfold zbP;split<;>simp<;>omega
abbrev xN (a:List Int):=[0,(a.getD 0 0),(((a.length:Nat) - 16:Int) / 256:Int),((a.length:Nat) - 16:Int)]
theorem summedC {P:Program} [PrC P] (q:Option (Nat×Nat)) (L l:List Int) (hr:RowOf q L l) (h24:24≤l.length) (hl:l.length≤100000):
    Env P "roundhouse/roundhouseref3.summed" (Wv q l) ((wC q L)) (fun v h'=> ∃m:Nat,v=sv 1 0 (zbP l).length ((zbP l).length+m)∧h'= [zG q (u8 L) false,cw (u8 (zbP l)++zai zB m)]):=by
 refine Env.by4 PrC.ref3_summed ?_
 unfold zgk
 show GC _ 1 _ _ ⟨reg (vo 0 q 0 l),(wC q L)⟩
 refine zJ (zR (o_d 1 [(2,.slice none 0 0)] (zE (zC (zJ (zR (o_d 1 (vo 5 q 0 l) (o_s (by exact qN rfl hr.nil) ?_))))))))
 refine o_s (by refine zK (v:= .int .i64 (i64.wrap ((l.length:Nat) - 16))) (congrArg wg (w64 om om)) ?_;kernel_rfl) ?_
 refine o_d 1 [(3,iv ((l.length:Nat) - 16))] (zE (zC (zJ (zR (o_d 1 (vo 8 q 0 l) (o_s (by exact qO (o':=qo q+0) rfl hr.nil rfl om om) ?_))))))
 refine o_s (by refine zX (v:= .int .u8 (l.getD 0 0 % 256)) rfl (zbf (n:=l.length) rfl rfl hr.nil om) ?_;exact zb0 hr om rfl) ?_
 refine o_d 1 [(11,iv ((l.length:Nat) - 16))] (o_s (by refine zK (v:= .int .i64 (((l.length:Nat) - 16:Int).fdiv 256)) (congrArg wg (zbl dC)) ?_;kernel_rfl) ?_)
 refine o_b 5 [(4,sv 1 0 4 4),(16,sv 1 0 4 4),(15,.int .u8 (((l.length:Nat) - 16:Int) % 256)),(14,iv ((l.length:Nat) - 16)),(13,.int .u8 ((((l.length:Nat) - 16:Int) / 256:Int) % 256))] [zG q (u8 L) false,cw [.int .u8 0,.int .u8 (l.getD 0 0 % 256),.int .u8 ((((l.length:Nat) - 16:Int) / 256:Int) % 256),.int .u8 (((l.length:Nat) - 16:Int) % 256)]] (zE (zC (zJ (zJ (zR (o_d 1 (vo 17 q 0 l) (o_s (by exact qO (o':=qo q+0) rfl hr.nil rfl om om) ?_)))))))
 refine o_s (by refine zX (v:= .int .u8 (l.getD 0 0 % 256)) rfl (zbf (n:=l.length) rfl rfl hr.nil om) ?_;exact zb0 hr om rfl) ?_
 refine o_d 1 [(20,bv ((l.getD 0 0 % 256)!=3))] (zE (zC (qJ (t:=(l.getD 0 0 % 256)!=3) rfl (fun h1=>?_) (fun h1=>?_))))
 ·skip
  have h1':l.getD 0 0 % 256≠3:=zfP h1
  refine zR (o_b 2 [(22,zN q 0 l.length),(21,sv 2 0 0 (0+0))] [zG q (u8 L) false,cw [.int .u8 0,.int .u8 (l.getD 0 0 % 256),.int .u8 ((((l.length:Nat) - 16:Int) / 256:Int) % 256),.int .u8 (((l.length:Nat) - 16:Int) % 256)],cw (u8 ([]:List Int)++zai zB 0)] ?_)
  obtain ⟨qz2,lz2,hlz2,hn2z,hq2z,hr2z,hs2z⟩:=zcr (k:=0) hr (lo:=(some (iv 4))) (hi:=(some (iv 12))) (mx:=none) 4 12 om (.inr rfl) (.inr rfl) (.inl rfl)
  have hs2y:=hs2z.trans (rfl:q.isSome=q.isSome)
  refine o_s (by exact zaY rfl hq2z) ?_
  obtain ⟨m3,hm3⟩: ∃z9,([]:List Int)++lz2=z9:=⟨_,rfl⟩
  have hm3l:m3.length=0+lz2.length:=by rw [←hm3,List.length_append]<;>exact lA
  refine zey (k:=2) (n:=0) (o:=some 0) (q:=lz2.length) (cs:=u8 ([]:List Int)) (xs:=u8 lz2) (cs2:=u8 m3) (zl:=zB) rfl rfl rfl (fun m q=>by cases q;rfl) (fun q=>by cases q) (by rw [qL]<;>exact lA) rfl (zcT _ _ _ hr2z.nil) (zcO rfl hs2y hr2z) (by rw [qL]<;>exact lA) om om (by rw [zcz,hm3]) (fun c5 e4=>?_) (fun c5=>?_)
  ·exact absurd (Option.some.inj e4) om
  refine o_d 1 [(25,sv 1 0 4 4)] ?_
  obtain ⟨m6,hm6⟩: ∃z9,m3++((xN l):List Int)=z9:=⟨_,rfl⟩
  have hm6l:m6.length=0+lz2.length+4:=by rw [←hm6,List.length_append]<;>exact lA
  refine zey (k:=3) (n:=0+lz2.length) (o:=some c5) (q:=4) (cs:=u8 m3) (xs:=u8 ((xN l):List Int)) (cs2:=u8 m6) (zl:=zB) rfl rfl rfl (fun m q=>by cases q;rfl) (fun q=>by cases q) (by rw [qL]<;>exact lA) rfl rfl (zbH rfl rfl (Nat.le_of_ble_eq_true rfl)) (by rw [qL]<;>exact lA) om om (by rw [zcz,hm6]) (fun c8 e7=>?_) (fun c8=>?_)
  ·skip
   refine o_d 1 [(4,sv 3 0 (0+lz2.length+4) (0+lz2.length+4+c8))] (zE (zT [(4,sv 3 0 (0+lz2.length+4) (0+lz2.length+4+c8)),(0,zN q 0 l.length)] (zJ (zR (o_d 2 [(28,zN q 0 l.length),(27,sv 3 0 (0+lz2.length+4) (0+lz2.length+4+c8))] ?_)))))
   obtain ⟨qz9,lz9,hlz9,hn9z,hq9z,hr9z,hs9z⟩:=zcr (k:=0) hr (lo:=(some (iv 16))) (hi:=none) (mx:=none) 16 l.length om (.inr rfl) (.inl ⟨rfl,rfl,rfl⟩) (.inl rfl)
   have hs9y:=hs9z.trans (rfl:q.isSome=q.isSome)
   refine o_s (by exact zaY rfl hq9z) ?_
   obtain ⟨m10,hm10⟩: ∃z9,m6++lz9=z9:=⟨_,rfl⟩
   have hm10l:m10.length=0+lz2.length+4+lz9.length:=by rw [←hm10,List.length_append]<;>exact lA
   refine zey (k:=3) (n:=0+lz2.length+4) (o:=some c8) (q:=lz9.length) (cs:=u8 m6) (xs:=u8 lz9) (cs2:=u8 m10) (zl:=zB) rfl rfl rfl (fun m q=>by cases q;rfl) (fun q=>by cases q) (by rw [qL]<;>exact lA) rfl (zcT _ _ _ hr9z.nil) (zcO rfl hs9y hr9z) (by rw [qL]<;>exact lA) om om (by rw [zcz,hm10]) (fun c12 e11=>?_) (fun c12=>?_)
   ·skip
    refine o_d 1 [(2,sv 3 0 (0+lz2.length+4+lz9.length) (0+lz2.length+4+lz9.length+c12))] (zE (zC (qX ?_)))
    have he:zbP l=m10:=by
     unfold zbP;rw [if_neg om]
     rw [←hm10,←hm6,←hm3,hlz2,hlz9,List.take_of_length_le (l:=l.drop 16) (by simp)];rfl
    exact ⟨trivial,[sv 3 0 (0+lz2.length+4+lz9.length) (0+lz2.length+4+lz9.length+c12)],(zV rfl rfl),(zL rfl z4),⟨reg [],[zG q (u8 L) false,cw (u8 m10++zai zB c12)]⟩,[0,3],[sv 1 0 (0+lz2.length+4+lz9.length) (0+lz2.length+4+lz9.length+c12)],WkR.of (rs:= []) rfl rfl dC trivial ⟨.inl (zF (zH _)),.inl (zS (zbk m10 c12)),trivial⟩,rfl,c12,(by rw [he,hm10l];first | rfl | simp only [hm3l,hm6l,hm10l,List.length_nil];rfl),(by rw [he])⟩
   refine o_d 1 [(2,sv 4 0 (0+lz2.length+4+lz9.length) (0+lz2.length+4+lz9.length+c12))] (zE (zC (qX ?_)))
   have he:zbP l=m10:=by
    unfold zbP;rw [if_neg om]
    rw [←hm10,←hm6,←hm3,hlz2,hlz9,List.take_of_length_le (l:=l.drop 16) (by simp)];rfl
   exact ⟨trivial,[sv 4 0 (0+lz2.length+4+lz9.length) (0+lz2.length+4+lz9.length+c12)],(zV rfl rfl),(zL rfl z4),⟨reg [],[zG q (u8 L) false,cw (u8 m10++zai zB c12)]⟩,[0,4],[sv 1 0 (0+lz2.length+4+lz9.length) (0+lz2.length+4+lz9.length+c12)],WkR.of (rs:= []) rfl rfl dC trivial ⟨.inl (zF (zH _)),.inl (zS (zbk m10 c12)),trivial⟩,rfl,c12,(by rw [he,hm10l];first | rfl | simp only [hm3l,hm6l,hm10l,List.length_nil];rfl),(by rw [he])⟩
  refine o_d 1 [(4,sv 4 0 (0+lz2.length+4) (0+lz2.length+4+c8))] (zE (zT [(4,sv 4 0 (0+lz2.length+4) (0+lz2.length+4+c8)),(0,zN q 0 l.length)] (zJ (zR (o_d 2 [(28,zN q 0 l.length),(27,sv 4 0 (0+lz2.length+4) (0+lz2.length+4+c8))] ?_)))))
  obtain ⟨qz13,lz13,hlz13,hn13z,hq13z,hr13z,hs13z⟩:=zcr (k:=0) hr (lo:=(some (iv 16))) (hi:=none) (mx:=none) 16 l.length om (.inr rfl) (.inl ⟨rfl,rfl,rfl⟩) (.inl rfl)
  have hs13y:=hs13z.trans (rfl:q.isSome=q.isSome)
  refine o_s (by exact zaY rfl hq13z) ?_
  obtain ⟨m14,hm14⟩: ∃z9,m6++lz13=z9:=⟨_,rfl⟩
  have hm14l:m14.length=0+lz2.length+4+lz13.length:=by rw [←hm14,List.length_append]<;>exact lA
  refine zey (k:=4) (n:=0+lz2.length+4) (o:=some c8) (q:=lz13.length) (cs:=u8 m6) (xs:=u8 lz13) (cs2:=u8 m14) (zl:=zB) rfl rfl rfl (fun m q=>by cases q;rfl) (fun q=>by cases q) (by rw [qL]<;>exact lA) rfl (zcT _ _ _ hr13z.nil) (zcO rfl hs13y hr13z) (by rw [qL]<;>exact lA) om om (by rw [zcz,hm14]) (fun c16 e15=>?_) (fun c16=>?_)
  ·skip
   refine o_d 1 [(2,sv 4 0 (0+lz2.length+4+lz13.length) (0+lz2.length+4+lz13.length+c16))] (zE (zC (qX ?_)))
   have he:zbP l=m14:=by
    unfold zbP;rw [if_neg om]
    rw [←hm14,←hm6,←hm3,hlz2,hlz13,List.take_of_length_le (l:=l.drop 16) (by simp)];rfl
   exact ⟨trivial,[sv 4 0 (0+lz2.length+4+lz13.length) (0+lz2.length+4+lz13.length+c16)],(zV rfl rfl),(zL rfl z4),⟨reg [],[zG q (u8 L) false,cw (u8 m14++zai zB c16)]⟩,[0,4],[sv 1 0 (0+lz2.length+4+lz13.length) (0+lz2.length+4+lz13.length+c16)],WkR.of (rs:= []) rfl rfl dC trivial ⟨.inl (zF (zH _)),.inl (zS (zbk m14 c16)),trivial⟩,rfl,c16,(by rw [he,hm14l];first | rfl | simp only [hm3l,hm6l,hm14l,List.length_nil];rfl),(by rw [he])⟩
  refine o_d 1 [(2,sv 5 0 (0+lz2.length+4+lz13.length) (0+lz2.length+4+lz13.length+c16))] (zE (zC (qX ?_)))
  have he:zbP l=m14:=by
   unfold zbP;rw [if_neg om]
   rw [←hm14,←hm6,←hm3,hlz2,hlz13,List.take_of_length_le (l:=l.drop 16) (by simp)];rfl
  exact ⟨trivial,[sv 5 0 (0+lz2.length+4+lz13.length) (0+lz2.length+4+lz13.length+c16)],(zV rfl rfl),(zL rfl z4),⟨reg [],[zG q (u8 L) false,cw (u8 m14++zai zB c16)]⟩,[0,5],[sv 1 0 (0+lz2.length+4+lz13.length) (0+lz2.length+4+lz13.length+c16)],WkR.of (rs:= []) rfl rfl dC trivial ⟨.inl (zF (zH _)),.inl (zS (zbk m14 c16)),trivial⟩,rfl,c16,(by rw [he,hm14l];first | rfl | simp only [hm3l,hm6l,hm14l,List.length_nil];rfl),(by rw [he])⟩
 have h1': ¬(l.getD 0 0 % 256≠3):=zfQ h1
 refine qK (zC (zJ (zR (o_d 2 [(28,zN q 0 l.length),(27,sv 1 0 4 4)] ?_))))
 obtain ⟨qz17,lz17,hlz17,hn17z,hq17z,hr17z,hs17z⟩:=zcr (k:=0) hr (lo:=(some (iv 16))) (hi:=none) (mx:=none) 16 l.length om (.inr rfl) (.inl ⟨rfl,rfl,rfl⟩) (.inl rfl)
 have hs17y:=hs17z.trans (rfl:q.isSome=q.isSome)
 refine o_s (by exact zaY rfl hq17z) ?_
 obtain ⟨m18,hm18⟩: ∃z9,((xN l):List Int)++lz17=z9:=⟨_,rfl⟩
 have hm18l:m18.length=4+lz17.length:=by rw [←hm18,List.length_append]<;>exact lA
 refine zey (k:=1) (n:=4) (o:=some 0) (q:=lz17.length) (cs:=u8 ((xN l):List Int)) (xs:=u8 lz17) (cs2:=u8 m18) (zl:=zB) rfl rfl rfl (fun m q=>by cases q;rfl) (fun q=>by cases q) (by rw [qL]<;>exact lA) rfl (zcT _ _ _ hr17z.nil) (zcO rfl hs17y hr17z) (by rw [qL]<;>exact lA) om om (by rw [zcz,hm18]) (fun c20 e19=>?_) (fun c20=>?_)
 ·exact absurd (Option.some.inj e19) om
 refine o_d 1 [(2,sv 2 0 (4+lz17.length) (4+lz17.length+c20))] (zE (zT [(2,sv 2 0 (4+lz17.length) (4+lz17.length+c20))] (qX ?_)))
 have he:zbP l=m18:=by
  unfold zbP;rw [if_pos om]
  rw [←hm18,hlz17,List.take_of_length_le (by simp)]
 exact ⟨trivial,[sv 2 0 (4+lz17.length) (4+lz17.length+c20)],(zV rfl rfl),(zL rfl z4),⟨reg [],[zG q (u8 L) false,cw (u8 m18++zai zB c20)]⟩,[0,2],[sv 1 0 (4+lz17.length) (4+lz17.length+c20)],WkR.of (rs:= []) rfl rfl dC trivial ⟨.inl (zF (zH _)),.inl (zS (zbk m18 c20)),trivial⟩,rfl,c20,(by rw [he,hm18l];first | rfl | simp only [hm18l,List.length_nil];rfl),(by rw [he])⟩
end Go.Rh

set_option maxHeartbeats 1000000
namespace Go.Rh
def b4 (n:Int):List Int:= [n / 16777216,n / 65536,n / 256,n]
def stL (v e:Int):List Int:= [1,1,8,10]++b4 v++b4 e
theorem row_st (v e:Int) (m:Nat):RowOf (some (0,12+m)) (stL v e++List.replicate m 0) (stL v e):=zcB (l:=stL v e) (n:=12) (r:=m) rfl rfl
theorem row_tk {L:List Int} {n c:Nat} (hc:L.length=c) (hn:n≤c):RowOf (some (0,c)) L (L.take n):=by
 subst hc
 exact ⟨(fun q=>by cases q),(fun _=>by simp [qo];omega),(fun _=>by simp [qo]),(fun o c q=>by cases q;simp;omega)⟩
abbrev vW (a:Int):=([.int .u8 (a / 16777216 % 256),.int .u8 (a / 65536 % 256),.int .u8 (a / 256 % 256),.int .u8 (a % 256)]:List Value)
theorem bytes4C {P:Program} [PrC P] (n:Int) (hvn:0≤n∧n < 4294967296):
    Env P "roundhouse/roundhouseref4.bytes" [.int .u32 n] ([]) (fun v h'=>v=sv 0 0 4 4∧h'= [cw (vW n)]):=by
 refine Env.by4 PrC.ref4_bytes ?_
 unfold zhg
 show GC _ 0 _ _ ⟨reg [(0,.int .u32 n)],[]⟩
 refine zJ (zR (o_d 1 [(2,.slice none 0 0)] (zE (zC (zJ (zR (o_d 1 [(3,.int .u32 n)] (o_s (by refine zK (v:= .int .u32 (n.fdiv 16777216)) (congrArg vM (zbl dC)) ?_;kernel_rfl) ?_))))))))
 refine o_d 2 [(6,.int .u32 n),(5,.int .u8 ((n / 16777216) % 256))] (o_s (by refine zK (v:= .int .u32 (n.fdiv 65536)) (congrArg vM (zbl dC)) ?_;kernel_rfl) ?_)
 refine o_d 2 [(9,.int .u32 n),(8,.int .u8 ((n / 65536) % 256))] (o_s (by refine zK (v:= .int .u32 (n.fdiv 256)) (congrArg vM (zbl dC)) ?_;kernel_rfl) ?_)
 exact o_b 5 [(2,sv 0 0 4 4),(14,sv 0 0 4 4),(13,.int .u8 (n % 256)),(12,.int .u32 n),(11,.int .u8 ((n / 256) % 256))] [cw [.int .u8 ((n / 16777216) % 256),.int .u8 ((n / 65536) % 256),.int .u8 ((n / 256) % 256),.int .u8 (n % 256)]] (zE (zC (qX (⟨trivial,[sv 0 0 4 4],(zV rfl rfl),(zL rfl z4),⟨reg [],[cw [.int .u8 ((n / 16777216) % 256),.int .u8 ((n / 65536) % 256),.int .u8 ((n / 256) % 256),.int .u8 (n % 256)]]⟩,[0],[sv 0 0 4 4],WkR.of (rs:= []) rfl rfl dC trivial ⟨.inl rfl,trivial⟩,rfl,rfl,rfl⟩))))
theorem make4C {P:Program} [PrC P] (v e:Int) (hvv:0≤v∧v < 4294967296) (hve:0≤e∧e < 4294967296):
    Env P "roundhouse/roundhouseref4.Make" [.int .u32 v,.int .u32 e] ([]) (fun w h'=> ∃m:Nat,w=sv 0 0 12 (12+m)∧h'= [zG (some (0,12+m)) (u8 (stL v e++List.replicate m 0)) true]):=by
 refine Env.by4 PrC.ref4_Make ?_
 unfold ziE
 show GC _ 0 _ _ ⟨reg [(0,.int .u32 v),(1,.int .u32 e)],[]⟩
 refine zJ (zR (o_d 1 [(4,.slice none 0 0)] (zE (zC (zJ (zR (o_b 2 [(6,.int .u32 v),(5,sv 0 0 4 4)] [cw [.int .u8 1,.int .u8 1,.int .u8 8,.int .u8 10]] (qW (zdd [] [] [.int .u32 v] (bytes4C v om) rfl rfl trivial dC ?_)))))))))
 rintro v1 h1' ⟨rfl,rfl⟩
 refine ⟨sv 1 0 4 4,[cw [.int .u8 1,.int .u8 1,.int .u8 8,.int .u8 10]],[cw (vW v)],rfl,⟨rfl,trivial⟩,⟨rfl,trivial⟩, ?_⟩
 obtain ⟨m1,hm1⟩: ∃z9,([1,1,8,10]:List Int)++([(v / 16777216),(v / 65536),(v / 256),(v)]:List Int)=z9:=⟨_,rfl⟩
 have hm1l:m1.length=4+4:=by rw [←hm1,List.length_append]<;>exact lA
 refine zey (k:=0) (n:=4) (o:=some 0) (q:=4) (cs:=u8 ([1,1,8,10]:List Int)) (xs:=u8 ([(v / 16777216),(v / 65536),(v / 256),(v)]:List Int)) (cs2:=u8 m1) (zl:=zB) rfl rfl rfl (fun m q=>by cases q;rfl) (fun q=>by cases q) (by rw [qL]<;>exact lA) rfl rfl (zbH rfl rfl (Nat.le_of_ble_eq_true rfl)) (by rw [qL]<;>exact lA) om om (by rw [zcz,hm1]) (fun c3 e2=>?_) (fun c3=>?_)
 ·exact absurd (Option.some.inj e2) om
 refine o_d 1 [(9,.int .u32 e)] (qW (zdd [] [] [.int .u32 e] (bytes4C e om) rfl rfl trivial dC ?_))
 rintro v1 h1' ⟨rfl,rfl⟩
 refine ⟨sv 3 0 4 4,[cw [.int .u8 1,.int .u8 1,.int .u8 8,.int .u8 10],cw (vW v),cw (u8 m1++zai zB c3)],[cw (vW e)],rfl,⟨rfl,rfl,rfl,trivial⟩,⟨rfl,trivial⟩, ?_⟩
 obtain ⟨m4,hm4⟩: ∃z9,m1++([(e / 16777216),(e / 65536),(e / 256),(e)]:List Int)=z9:=⟨_,rfl⟩
 have hm4l:m4.length=4+4+4:=by rw [←hm4,List.length_append]<;>exact lA
 refine zey (k:=2) (n:=4+4) (o:=some c3) (q:=4) (cs:=u8 m1) (xs:=u8 ([(e / 16777216),(e / 65536),(e / 256),(e)]:List Int)) (cs2:=u8 m4) (zl:=zB) rfl rfl rfl (fun m q=>by cases q;rfl) (fun q=>by cases q) (by rw [qL]<;>exact lA) rfl rfl (zbH rfl rfl (Nat.le_of_ble_eq_true rfl)) (by rw [qL]<;>exact lA) om om (by rw [zcz,hm4]) (fun c6 e5=>?_) (fun c6=>?_)
 ·skip
  refine o_d 1 [(4,sv 2 0 (4+4+4) (4+4+4+c6))] (zE (zC (qX ?_)))
  have he:m4=stL v e:=by rw [←hm4,←hm1];rfl
  exact ⟨trivial,[sv 2 0 (4+4+4) (4+4+4+c6)],(zV rfl rfl),(zL rfl z4),⟨reg [],[cw (u8 m4++zai zB c6)]⟩,[2],[sv 0 0 (4+4+4) (4+4+4+c6)],WkR.of (rs:= []) rfl rfl dC trivial ⟨.inl (zS (zbk m4 c6)),trivial⟩,rfl,c6,rfl,(by rw [he];exact congrArg (fun x=> [x]) (zcL _ _))⟩
 refine o_d 1 [(4,sv 4 0 (4+4+4) (4+4+4+c6))] (zE (zC (qX ?_)))
 have he:m4=stL v e:=by rw [←hm4,←hm1];rfl
 exact ⟨trivial,[sv 4 0 (4+4+4) (4+4+4+c6)],(zV rfl rfl),(zL rfl z4),⟨reg [],[cw (u8 m4++zai zB c6)]⟩,[4],[sv 0 0 (4+4+4) (4+4+4+c6)],WkR.of (rs:= []) rfl rfl dC trivial ⟨.inl (zS (zbk m4 c6)),trivial⟩,rfl,c6,rfl,(by rw [he];exact congrArg (fun x=> [x]) (zcL _ _))⟩
end Go.Rh

set_option maxHeartbeats 1000000
namespace Go.Rh
theorem ren_pk13 {ρ:Nat→Nat} {a b c d e f g h i k:Int} {j:Bool} {q1 q2:Option (Nat×Nat)} {k1 k2 k1' k2' n1 n2:Nat} (h1:ρ k1=k1') (h2:ρ k2=k2'):zaL ρ (.agg #[iv a,iv b,iv c,iv d,iv e,iv f,iv g,iv h,iv i,bv j,iv k,zN q1 k1 n1,zN q2 k2 n2])= .agg #[iv a,iv b,iv c,iv d,iv e,iv f,iv g,iv h,iv i,bv j,iv k,zN q1 k1' n1,zN q2 k2' n2]:=by
 simp only [zaL,zeG,List.map_toArray,List.map_cons,List.map_nil,zcP h1,zcP h2];rfl
theorem pk_eq {k li pi fr t fp tp fl la co:Int} {ba:Bool} {op da:List Int} {q1 q2:Option (Nat×Nat)} {k1 k2 n1 n2:Nat} (h1:op.length=n1) (h2:da.length=n2):Value.agg #[iv k,iv li,iv pi,iv fr,iv t,iv fp,iv tp,iv fl,iv la,bv ba,iv co,zN q1 k1 n1,zN q2 k2 n2]=pkV ⟨k,li,pi,fr,t,fp,tp,fl,la,ba,co,op,da⟩ q1 k1 q2 k2:=by subst h1 h2;rfl
theorem tk1 {x a:Int} :([x].take (a % 2).toNat).length=(a % 2).toNat:=by simp;omega
def outX (p:q9) (n m:Int):Pk:=
 if 1+zA n 1125899906842624 / 6 % 2=2 then
  ⟨2,1+zA n 1125899906842624 / 12 % 9,0,p (3+5*(zA n 1125899906842624 % 6).toNat+1),1000+zA n 1125899906842624 / 108 % 5,p (3+5*(zA n 1125899906842624 % 6).toNat+2),zA n 1125899906842624 / 540 % 3,0,zA m 65536,zA n 1125899906842624 / 3240 % 3==0,0,[],[zA n 1125899906842624].take (zA n 1125899906842624 / 1620 % 2).toNat⟩
 else ⟨1,1+zA n 1125899906842624 / 12 % 9,0,p (3+5*(zA n 1125899906842624 % 6).toNat+1),1000+zA n 1125899906842624 / 108 % 5,p (3+5*(zA n 1125899906842624 % 6).toNat+2),zA n 1125899906842624 / 540 % 3,zA n 1125899906842624 / 3240 % 16,0,false,0,if zA n 1125899906842624 / 3240 % 4 > 0 then stL (m % 4294967296) (i64.wrap (m.tdiv 5) % 4294967296) else [],[zA n 1125899906842624].take (zA n 1125899906842624 / 1620 % 2).toNat⟩
abbrev yk (a:Int) b:=iv (1+((zA a 1125899906842624) / 6) % 2)::iv (1+((zA a 1125899906842624) / 12) % 9)::iv 0::b
abbrev yQ (a:q9) (b:Int):=[iv (a (3+5*(((zA b 1125899906842624) % 6).toNat))),iv (a (3+5*(((zA b 1125899906842624) % 6).toNat)+1)),iv (a (3+5*(((zA b 1125899906842624) % 6).toNat)+2)),iv (a (3+5*(((zA b 1125899906842624) % 6).toNat)+3)),iv (a (3+5*(((zA b 1125899906842624) % 6).toNat)+4))]
abbrev yS (a:q9) (b:Int) c:=iv (a (3+5*(((zA b 1125899906842624) % 6).toNat)+1))::iv (1000+((zA b 1125899906842624) / 108) % 5)::iv (a (3+5*(((zA b 1125899906842624) % 6).toNat)+2))::iv (((zA b 1125899906842624) / 540) % 3)::c
abbrev yW (a:Int) (b:q9) (c:Int) d:=#[iv (1+((zA a 1125899906842624) / 6) % 2),iv (1+((zA a 1125899906842624) / 12) % 9),iv 0,iv (b (3+5*(((zA a 1125899906842624) % 6).toNat)+1)),iv (1000+((zA a 1125899906842624) / 108) % 5),iv (b (3+5*(((zA a 1125899906842624) % 6).toNat)+2)),iv (((zA a 1125899906842624) / 540) % 3),iv 0,iv (zA c 65536),bv ((((zA a 1125899906842624) / 3240) % 3)==0),iv 0,.slice none 0 0,sv d 0 ((((zA a 1125899906842624) / 1620) % 2).toNat) 1]
abbrev yY (a:Int) (b:q9) c:=#[iv (1+((zA a 1125899906842624) / 6) % 2),iv (1+((zA a 1125899906842624) / 12) % 9),iv 0,iv (b (3+5*(((zA a 1125899906842624) % 6).toNat)+1)),iv (1000+((zA a 1125899906842624) / 108) % 5),iv (b (3+5*(((zA a 1125899906842624) % 6).toNat)+2)),iv (((zA a 1125899906842624) / 540) % 3),iv (((zA a 1125899906842624) / 3240) % 16),iv 0,bv false,iv 0,.slice none 0 0,sv c 0 ((((zA a 1125899906842624) / 1620) % 2).toNat) 1]
abbrev ve (a:Int):=([.int .u8 ((zA a 1125899906842624) % 256)]:List Value)
abbrev vw (a:Int):=[iv 0,.slice none 0 0,sv 3 0 ((((zA a 1125899906842624) / 1620) % 2).toNat) 1]
theorem OutC9 {P:Program} [PrC P] (p:q9) (n m:Int):
    Env P "roundhouse/roundhouselaw9.Out" [zap p,iv n,iv m] ([]) (fun w h'=> ∃q1 L1,RowOf q1 L1 (outX p n m).op∧w=pkV (outX p n m) q1 0 (some (0,1)) 1∧h'= [zG q1 (u8 L1) true,zG (some (0,1)) (u8 [(zA n 1125899906842624)]) true]):=by
 refine Env.by4 PrC.law9_Out ?_
 unfold zjH
 show GC _ 0 _ _ ⟨reg [(0,zap p),(1,iv n),(2,iv m)],[]⟩
 refine zJ (zR (o_b 2 [(6,pv 1 0),(3,pv 0 0)] [cw (pl p),cw wi] (zE (zC (zJ (zR (o_d 1 [(10,iv n)] (qW (zae (within9C n 1125899906842624 dC) rfl rfl rfl ?_)))))))))
 have hw1:=zeJ n (n:=1125899906842624) dC
 refine o_d 1 [(7,iv (zA n 1125899906842624))] (zE (zC (zJ (zR (o_d 1 [(12,iv (zA n 1125899906842624))] (o_s (by refine zK (v:= .int .i64 ((zA n 1125899906842624).tmod 6)) (congrArg wg (zeT om)) ?_;kernel_rfl) ?_))))))
 refine o_d 1 [(14,pv 0 3)] (o_s (by exact zaT (o:=3) (o':=3+5*(((zA n 1125899906842624) % 6).toNat)) rfl rfl om om) ?_)
 refine o_s (by refine zX (v:= .agg #[iv (p (3+5*(((zA n 1125899906842624) % 6).toNat))),iv (p (3+5*(((zA n 1125899906842624) % 6).toNat)+1)),iv (p (3+5*(((zA n 1125899906842624) % 6).toNat)+2)),iv (p (3+5*(((zA n 1125899906842624) % 6).toNat)+3)),iv (p (3+5*(((zA n 1125899906842624) % 6).toNat)+4))]) rfl rfl ?_;exact pl_rS p (((zA n 1125899906842624) % 6).toNat) om om) ?_
 refine o_b 2 [(8,pv 2 0)] [cw (pl p),cw wi,cw (yQ p n)] (zE (zC (zJ (zbG [] (r_d 1 [(17,iv (zA n 1125899906842624))] (r_s (by refine zK (v:= .int .i64 (i64.wrap ((zA n 1125899906842624).tdiv 6))) (congrArg wg (zgY om om)) ?_;kernel_rfl) ?_))))))
 refine r_s (by refine zK (v:= .int .i64 (((zA n 1125899906842624) / 6).tmod 2)) (congrArg wg (zeT om)) ?_;kernel_rfl) ?_
 refine r_s (by refine zK (v:= .int .i64 (i64.wrap (1+((zA n 1125899906842624) / 6) % 2))) (congrArg wg (w64 om om)) ?_;kernel_rfl) ?_
 refine r_d 1 [(21,iv (zA n 1125899906842624))] (r_s (by refine zK (v:= .int .i64 (i64.wrap ((zA n 1125899906842624).tdiv 12))) (congrArg wg (zgY om om)) ?_;kernel_rfl) ?_)
 refine r_s (by refine zK (v:= .int .i64 (((zA n 1125899906842624) / 12).tmod 9)) (congrArg wg (zeT om)) ?_;kernel_rfl) ?_
 refine r_s (by refine zK (v:= .int .i64 (i64.wrap (1+((zA n 1125899906842624) / 12) % 9))) (congrArg wg (w64 om om)) ?_;kernel_rfl) ?_
 refine r_d 5 [(29,iv (zA n 1125899906842624)),(28,iv (p (3+5*(((zA n 1125899906842624) % 6).toNat)+2))),(27,pv 2 2),(26,iv (p (3+5*(((zA n 1125899906842624) % 6).toNat)+1))),(25,pv 2 1)] (r_s (by refine zK (v:= .int .i64 (i64.wrap ((zA n 1125899906842624).tdiv 108))) (congrArg wg (zgY om om)) ?_;kernel_rfl) ?_)
 refine r_s (by refine zK (v:= .int .i64 (((zA n 1125899906842624) / 108).tmod 5)) (congrArg wg (zeT om)) ?_;kernel_rfl) ?_
 refine r_s (by refine zK (v:= .int .i64 (i64.wrap (1000+((zA n 1125899906842624) / 108) % 5))) (congrArg wg (w64 om om)) ?_;kernel_rfl) ?_
 refine r_d 1 [(33,iv (zA n 1125899906842624))] (r_s (by refine zK (v:= .int .i64 (i64.wrap ((zA n 1125899906842624).tdiv 540))) (congrArg wg (zgY om om)) ?_;kernel_rfl) ?_)
 refine r_s (by refine zK (v:= .int .i64 (((zA n 1125899906842624) / 540).tmod 3)) (congrArg wg (zeT om)) ?_;kernel_rfl) ?_
 refine r_b 4 [(39,iv (zA n 1125899906842624)),(38,sv 3 0 1 1),(37,.int .u8 ((zA n 1125899906842624) % 256)),(36,iv (zA n 1125899906842624))] [cw (pl p),cw wi,cw (yQ p n),cw (ve n)] (r_s (by refine zK (v:= .int .i64 (i64.wrap ((zA n 1125899906842624).tdiv 1620))) (congrArg wg (zgY om om)) ?_;kernel_rfl) ?_)
 refine r_s (by refine zK (v:= .int .i64 (((zA n 1125899906842624) / 1620).tmod 2)) (congrArg wg (zeT om)) ?_;kernel_rfl) ?_
 refine r_s (by exact run_slcLo rfl rfl om) ?_
 refine r_b 3 [(9,pv 4 0),(43,.agg #[iv (1+((zA n 1125899906842624) / 6) % 2),iv (1+((zA n 1125899906842624) / 12) % 9),iv 0,iv (p (3+5*(((zA n 1125899906842624) % 6).toNat)+1)),iv (1000+((zA n 1125899906842624) / 108) % 5),iv (p (3+5*(((zA n 1125899906842624) % 6).toNat)+2)),iv (((zA n 1125899906842624) / 540) % 3),iv 0,iv 0,bv false,iv 0,.slice none 0 0,sv 3 0 ((((zA n 1125899906842624) / 1620) % 2).toNat) 1])] [cw (pl p),cw wi,cw (yQ p n),cw (ve n),cw (yk n (yS p n (iv 0::iv 0::bv false::(vw n))))] (zbo (zT [(9,pv 4 0),(7,iv (zA n 1125899906842624)),(6,pv 1 0),(2,iv m)] (zJ (zJ (zR (o_d 3 [(46,bv ((1+((zA n 1125899906842624) / 6) % 2)==2)),(45,iv (1+((zA n 1125899906842624) / 6) % 2)),(44,pv 4 0)] (zE (zC (qJ (t:=(1+((zA n 1125899906842624) / 6) % 2)==2) rfl (fun h2=>?_) (fun h2=>?_))))))))))
 ·skip
  have h2':1+((zA n 1125899906842624) / 6) % 2=2:=zaz h2
  refine zJ (zR (o_d 1 [(47,iv m)] (qW (zae (within9C m 65536 dC) rfl rfl rfl ?_))))
  have hw3:=zeJ m (n:=65536) dC
  refine o_d 1 [(49,iv (zA n 1125899906842624))] (o_s (by refine zK (v:= .int .i64 (i64.wrap ((zA n 1125899906842624).tdiv 3240))) (congrArg wg (zgY om om)) ?_;kernel_rfl) ?_)
  refine o_s (by refine zK (v:= .int .i64 (((zA n 1125899906842624) / 3240).tmod 3)) (congrArg wg (zeT om)) ?_;kernel_rfl) ?_
  refine o_b 5 [(54,pv 4 9),(53,pv 4 8),(52,bv ((((zA n 1125899906842624) / 3240) % 3)==0))] [cw (pl p),cw wi,cw (yQ p n),cw (ve n),cw (yk n (yS p n (iv 0::iv (zA m 65536)::bv ((((zA n 1125899906842624) / 3240) % 3)==0)::(vw n))))] (zE (zC (zJ (zR (o_b 2 [(55,.agg (yW n p m 3))] [cw (pl p),cw (yk n (yS p n (iv 0::iv (zA m 65536)::bv ((((zA n 1125899906842624) / 3240) % 3)==0)::(vw n)))),cw (yQ p n),cw (ve n),cw (yk n (yS p n (iv 0::iv (zA m 65536)::bv ((((zA n 1125899906842624) / 3240) % 3)==0)::(vw n))))] (zE (zC (qX ?_))))))))
  have he:outX p n m=⟨1+((zA n 1125899906842624) / 6) % 2,1+((zA n 1125899906842624) / 12) % 9,0,p (3+5*(((zA n 1125899906842624) % 6).toNat)+1),1000+((zA n 1125899906842624) / 108) % 5,p (3+5*(((zA n 1125899906842624) % 6).toNat)+2),((zA n 1125899906842624) / 540) % 3,0,zA m 65536,(((zA n 1125899906842624) / 3240) % 3)==0,0,[],[(zA n 1125899906842624)].take ((zA n 1125899906842624) / 1620 % 2).toNat⟩:=by
   unfold outX
   rw [if_pos om,show 1+zA n 1125899906842624 / 6 % 2=2 by omega]
  exact ⟨trivial,[.agg (yW n p m 3)],(qZ rfl rfl rfl rfl),(zL rfl z4),⟨reg [],[.gone,cw (ve n)]⟩,[5,3],[.agg (yW n p m 1)],WkR.of (rs:= []) rfl rfl dC trivial ⟨.inr ⟨rfl,rfl⟩,.inl rfl,trivial⟩,(zQ (ren_pk13 (q1:=none) (k1:=0) (k1':=5) (n1:=0) (q2:=some (0,1)) (k2:=1) (k2':=3) (n2:=(((zA n 1125899906842624) / 1620) % 2).toNat) rfl rfl) rfl),none,[],(by rw [he];exact ⟨fun _=>rfl,fun h=>absurd rfl h,fun h=>absurd rfl h,fun o c h=>by cases h⟩),(by rw [he];exact pk_eq (q1:=none) (q2:=some (0,1)) (k1:=0) (k2:=1) (n1:=0) (n2:=(((zA n 1125899906842624) / 1620) % 2).toNat) rfl tk1),rfl⟩
 have h2': ¬(1+((zA n 1125899906842624) / 6) % 2=2):=zaA h2
 refine qK (zC (zJ (zR (o_d 1 [(56,iv (zA n 1125899906842624))] (o_s (by refine zK (v:= .int .i64 (i64.wrap ((zA n 1125899906842624).tdiv 3240))) (congrArg wg (zgY om om)) ?_;kernel_rfl) ?_)))))
 refine o_s (by refine zK (v:= .int .i64 (((zA n 1125899906842624) / 3240).tmod 16)) (congrArg wg (zeT om)) ?_;kernel_rfl) ?_
 refine o_b 2 [(59,pv 4 7)] [cw (pl p),cw wi,cw (yQ p n),cw (ve n),cw (yk n (yS p n (iv (((zA n 1125899906842624) / 3240) % 16)::iv 0::bv false::(vw n))))] (zE (zC (zJ (zJ (zR (o_d 1 [(60,iv (zA n 1125899906842624))] (o_s (by refine zK (v:= .int .i64 (i64.wrap ((zA n 1125899906842624).tdiv 3240))) (congrArg wg (zgY om om)) ?_;kernel_rfl) ?_)))))))
 refine o_s (by refine zK (v:= .int .i64 (((zA n 1125899906842624) / 3240).tmod 4)) (congrArg wg (zeT om)) ?_;kernel_rfl) ?_
 refine o_d 1 [(63,bv (decide (((zA n 1125899906842624) / 3240) % 4 > 0)))] (zE (zC (qJ (t:=decide (((zA n 1125899906842624) / 3240) % 4 > 0)) rfl (fun h4=>?_) (fun h4=>?_))))
 ·skip
  have h4':((zA n 1125899906842624) / 3240) % 4 > 0:=of_decide_eq_true h4
  refine zR (o_d 5 [(68,.int .u32 ((i64.wrap (m.tdiv 5)) % 4294967296)),(67,iv (i64.wrap (m.tdiv 5))),(66,iv m),(65,.int .u32 (m % 4294967296)),(64,iv m)] (qW (zdd [] [] [.int .u32 (m % 4294967296),.int .u32 ((i64.wrap (m.tdiv 5)) % 4294967296)] (make4C (m % 4294967296) ((i64.wrap (m.tdiv 5)) % 4294967296) om om) rfl rfl trivial dC ?_)))
  rintro v1 h1' ⟨m5,rfl,rfl⟩
  refine ⟨zN (some (0,12+m5)) 5 12,[cw (pl p),cw wi,cw (yQ p n),cw (ve n),cw (yk n (yS p n (iv (((zA n 1125899906842624) / 3240) % 16)::iv 0::bv false::(vw n))))],[zG (some (0,12+m5)) (u8 (stL (m % 4294967296) ((i64.wrap (m.tdiv 5)) % 4294967296)++List.replicate m5 0)) true],rfl,⟨rfl,rfl,rfl,rfl,rfl,trivial⟩,⟨(Option.some.inj (zF (zH _))).symm,trivial⟩, ?_⟩
  refine o_b 2 [(70,pv 4 11)] [cw (pl p),cw wi,cw (yQ p n),cw (ve n),cw (yk n (yS p n [iv (((zA n 1125899906842624) / 3240) % 16),iv 0,bv false,iv 0,zN (some (0,12+m5)) 5 12,sv 3 0 ((((zA n 1125899906842624) / 1620) % 2).toNat) 1])),zG (some (0,12+m5)) (u8 (stL (m % 4294967296) ((i64.wrap (m.tdiv 5)) % 4294967296)++List.replicate m5 0)) true] (zE (zC (zJ (zR (o_b 2 [(71,.agg #[iv (1+((zA n 1125899906842624) / 6) % 2),iv (1+((zA n 1125899906842624) / 12) % 9),iv 0,iv (p (3+5*(((zA n 1125899906842624) % 6).toNat)+1)),iv (1000+((zA n 1125899906842624) / 108) % 5),iv (p (3+5*(((zA n 1125899906842624) % 6).toNat)+2)),iv (((zA n 1125899906842624) / 540) % 3),iv (((zA n 1125899906842624) / 3240) % 16),iv 0,bv false,iv 0,zN (some (0,12+m5)) 5 12,sv 3 0 ((((zA n 1125899906842624) / 1620) % 2).toNat) 1])] [cw (pl p),cw (yk n (yS p n [iv (((zA n 1125899906842624) / 3240) % 16),iv 0,bv false,iv 0,zN (some (0,12+m5)) 5 12,sv 3 0 ((((zA n 1125899906842624) / 1620) % 2).toNat) 1])),cw (yQ p n),cw (ve n),cw (yk n (yS p n [iv (((zA n 1125899906842624) / 3240) % 16),iv 0,bv false,iv 0,zN (some (0,12+m5)) 5 12,sv 3 0 ((((zA n 1125899906842624) / 1620) % 2).toNat) 1])),zG (some (0,12+m5)) (u8 (stL (m % 4294967296) ((i64.wrap (m.tdiv 5)) % 4294967296)++List.replicate m5 0)) true] (zE (zT [(6,pv 1 0)] (qX ?_))))))))
  have he:outX p n m=⟨1+((zA n 1125899906842624) / 6) % 2,1+((zA n 1125899906842624) / 12) % 9,0,p (3+5*(((zA n 1125899906842624) % 6).toNat)+1),1000+((zA n 1125899906842624) / 108) % 5,p (3+5*(((zA n 1125899906842624) % 6).toNat)+2),((zA n 1125899906842624) / 540) % 3,((zA n 1125899906842624) / 3240) % 16,0,false,0,(stL (m % 4294967296) ((i64.wrap (m.tdiv 5)) % 4294967296)),[(zA n 1125899906842624)].take ((zA n 1125899906842624) / 1620 % 2).toNat⟩:=by
   unfold outX
   rw [if_neg om,if_pos om,show 1+zA n 1125899906842624 / 6 % 2=1 by omega]
  exact ⟨trivial,[.agg #[iv (1+((zA n 1125899906842624) / 6) % 2),iv (1+((zA n 1125899906842624) / 12) % 9),iv 0,iv (p (3+5*(((zA n 1125899906842624) % 6).toNat)+1)),iv (1000+((zA n 1125899906842624) / 108) % 5),iv (p (3+5*(((zA n 1125899906842624) % 6).toNat)+2)),iv (((zA n 1125899906842624) / 540) % 3),iv (((zA n 1125899906842624) / 3240) % 16),iv 0,bv false,iv 0,zN (some (0,12+m5)) 5 12,sv 3 0 ((((zA n 1125899906842624) / 1620) % 2).toNat) 1]],(qZ rfl rfl rfl rfl),(zL rfl z4),⟨reg [],[zG (some (0,12+m5)) (u8 (stL (m % 4294967296) ((i64.wrap (m.tdiv 5)) % 4294967296)++List.replicate m5 0)) true,cw (ve n)]⟩,[5,3],[.agg #[iv (1+((zA n 1125899906842624) / 6) % 2),iv (1+((zA n 1125899906842624) / 12) % 9),iv 0,iv (p (3+5*(((zA n 1125899906842624) % 6).toNat)+1)),iv (1000+((zA n 1125899906842624) / 108) % 5),iv (p (3+5*(((zA n 1125899906842624) % 6).toNat)+2)),iv (((zA n 1125899906842624) / 540) % 3),iv (((zA n 1125899906842624) / 3240) % 16),iv 0,bv false,iv 0,zN (some (0,12+m5)) 0 12,sv 1 0 ((((zA n 1125899906842624) / 1620) % 2).toNat) 1]],WkR.of (rs:= []) rfl rfl dC trivial ⟨.inl (zF (zH _)),.inl rfl,trivial⟩,(zQ (ren_pk13 (q1:=some (0,12+m5)) (k1:=0) (k1':=5) (n1:=12) (q2:=some (0,1)) (k2:=1) (k2':=3) (n2:=(((zA n 1125899906842624) / 1620) % 2).toNat) rfl rfl) rfl),some (0,12+m5),stL (m % 4294967296) ((i64.wrap (m.tdiv 5)) % 4294967296)++List.replicate m5 0,(by rw [he];exact (row_st (m % 4294967296) ((i64.wrap (m.tdiv 5)) % 4294967296) m5)),(by rw [he];exact pk_eq (q1:=some (0,12+m5)) (q2:=some (0,1)) (k1:=0) (k2:=1) (n1:=12) (n2:=(((zA n 1125899906842624) / 1620) % 2).toNat) rfl tk1),rfl⟩
 have h4': ¬(((zA n 1125899906842624) / 3240) % 4 > 0):=of_decide_eq_false h4
 refine qK (zC (zJ (zR (o_b 2 [(71,.agg (yY n p 3))] [cw (pl p),cw (yk n (yS p n (iv (((zA n 1125899906842624) / 3240) % 16)::iv 0::bv false::(vw n)))),cw (yQ p n),cw (ve n),cw (yk n (yS p n (iv (((zA n 1125899906842624) / 3240) % 16)::iv 0::bv false::(vw n))))] (zE (zC (qX ?_)))))))
 have he:outX p n m=⟨1+((zA n 1125899906842624) / 6) % 2,1+((zA n 1125899906842624) / 12) % 9,0,p (3+5*(((zA n 1125899906842624) % 6).toNat)+1),1000+((zA n 1125899906842624) / 108) % 5,p (3+5*(((zA n 1125899906842624) % 6).toNat)+2),((zA n 1125899906842624) / 540) % 3,((zA n 1125899906842624) / 3240) % 16,0,false,0,[],[(zA n 1125899906842624)].take ((zA n 1125899906842624) / 1620 % 2).toNat⟩:=by
  unfold outX
  rw [if_neg om,if_neg om,show 1+zA n 1125899906842624 / 6 % 2=1 by omega]
 exact ⟨trivial,[.agg (yY n p 3)],(qZ rfl rfl rfl rfl),(zL rfl z4),⟨reg [],[.gone,cw (ve n)]⟩,[5,3],[.agg (yY n p 1)],WkR.of (rs:= []) rfl rfl dC trivial ⟨.inr ⟨rfl,rfl⟩,.inl rfl,trivial⟩,(zQ (ren_pk13 (q1:=none) (k1:=0) (k1':=5) (n1:=0) (q2:=some (0,1)) (k2:=1) (k2':=3) (n2:=(((zA n 1125899906842624) / 1620) % 2).toNat) rfl rfl) rfl),none,[],(by rw [he];exact ⟨fun _=>rfl,fun h=>absurd rfl h,fun h=>absurd rfl h,fun o c h=>by cases h⟩),(by rw [he];exact pk_eq (q1:=none) (q2:=some (0,1)) (k1:=0) (k2:=1) (n1:=0) (n2:=(((zA n 1125899906842624) / 1620) % 2).toNat) rfl tk1),rfl⟩
end Go.Rh
