/- The proofs zch the intermediate form, part QPlaneNearsd. -/
import Derived.Test.YtcgficakdfdepaaQPlaneNearsc
open Go.IntKind (i64)
set_option linter.unusedVariables false
set_option linter.unusedSimpArgs false
set_option maxRecDepth 100000
namespace Go.Rh
theorem cloneC2 {P:Program} [PrC P] (q:Option (Nat×Nat)) (L l:List Int) (hr:RowOf q L l) (hl:l.length≤100000) (h0:0 < l.length):
  Env P "roundhouse/wire.clone" [zQ q 0 l.length] [zG q (u8 L) false] (fun v h'=>v=zQ (some (0,l.length)) 1 l.length∧h'= [zG q (u8 L) false,zG (some (0,l.length)) (u8 l) true]):=by
 have:=cloneC (P:=P) q L l hr hl
 rwa [zdg h0] at this
theorem ParseC2 {P:Program} {q:Option (Nat×Nat)} {L l:List Int} {x:Pk} (hp:qU l=(0,x)) (h:Env P "roundhouse/wire.Parse" [zQ q 0 l.length] [zG q (u8 L) false] (fun v h'=>v=zd1 l 1 2∧h'=zG q (u8 L) false::zdZ (qU l).2)):
  Env P "roundhouse/wire.Parse" [zQ q 0 l.length] [zG q (u8 L) false] (fun v h'=>v= .tuple #[pkV x (zD x.op) 1 (zD x.da) 2,iv 0]∧h'= [zG q (u8 L) false,zG (zD x.op) (u8 x.op) true,zG (zD x.da) (u8 x.da) true]):=by
 simpa only [zd1,zdZ,hp] using h
theorem ren_pkT {ρ:Nat→Nat} {x:Pk} {qo qd:Option (Nat×Nat)} {ko kd ko' kd':Nat} {e:Int} (h1:ρ ko=ko') (h2:ρ kd=kd'):zaI ρ (.tuple #[pkV x qo ko qd kd,iv e])= .tuple #[pkV x qo ko' qd kd',iv e]:=by
 have h:=zcH (ρ:=ρ) (x:=x) (qo:=qo) (qd:=qd) h1 h2
 simp only [zaI,List.map_toArray,List.map_cons,List.map_nil]
 rw [show zeN ρ (pkV x qo ko qd kd)=pkV x qo ko' qd kd' from h];rfl
theorem zhB {ρ:Nat→Nat} {x:Pk} {qo qd:Option (Nat×Nat)} {k k' ko kd ko' kd':Nat} {e:Int} (h0:ρ k=k') (h1:ρ ko=ko') (h2:ρ kd=kd'):zaI ρ (.tuple #[pv k 0,pkV x qo ko qd kd,iv e])= .tuple #[pv k' 0,pkV x qo ko' qd kd',iv e]:=by
 have h:=zcH (ρ:=ρ) (x:=x) (qo:=qo) (qd:=qd) h1 h2
 subst h0
 simp only [zaI,List.map_toArray,List.map_cons,List.map_nil]
 rw [show zeN ρ (pkV x qo ko qd kd)=pkV x qo ko' qd kd' from h];rfl
theorem zcP {l:List Int} {x:Pk} (hp:qU l=(0,x)):24≤l.length∧l.length≤1500:=by
 have:=headS_0 (zfM (by rw [hp]));omega
theorem zfh {l:List Int} {x:Pk} (hp:qU l=(0,x)):x.k=l.getD 0 0 % 256∧(1≤x.k∧x.k≤3)∧x.li=l.getD 1 0 % 256:=by
 have h0:=headS_0 (zfM (l:=l) (by rw [hp]))
 unfold qU at hp
 (repeat' split at hp)<;>first | (cases hp;exact ⟨rfl,⟨by show (1:Int)≤l.getD 0 0 % 256;omega,by show l.getD 0 0 % 256≤(3:Int);omega⟩,rfl⟩) | (simp only [Prod.mk.injEq] at hp;omega)
def turnK (w m:List Int):Nat→Nat→Int→Int
 | 0,_,s=>s
 | k+1,i,s=>turnK w m k (i+2) (zdS s (qD w i 2) (qD m i 2))
def zfE (w m:List Int) (p a n:Nat):Int:=turnK w m ((a+n - a / 2*2+1) / 2) (a / 2*2) (qD m p 2)
def zeD (w m:List Int) (ba:Bool) (a n:Nat):List Int:=if ba then m else zbh m (zaj (m.getD 0 0 % 256)).toNat 2 (zfE w m (zaj (m.getD 0 0 % 256)).toNat a n)
def zdx (m:List Int) (ba:Bool):List Int:=if m.getD 0 0 % 256=2∧ba=false∧qD m 22 2=0 then zbh m 22 2 65535 else m
theorem qW (w m:List Int) (ba:Bool) (a n:Nat):(zeD w m ba a n).length=m.length:=by
 unfold zeD;split<;>simp [zX]
theorem zad (m:List Int) (ba:Bool):(zdx m ba).length=m.length:=by
 unfold zdx;split<;>simp [zX]
def ageL (l:List Int) (ba:Bool):List Int:=
 let m:=l.set 1 (l.getD 1 0 % 256 - 1)
 zdx (zbh m 14 2 (zfE l m 14 0 2)) ba
def natL (l:List Int) (ba source:Bool) (addr port:Int):List Int:=
 let a:=if source then 4 else 8
 let p:=if source then 16 else 18
 let m:=zbh (zbh l a 4 addr) p 2 port
 let m:=zbh m 14 2 (zfE l m 14 a 4)
 zdx (zeD l (zeD l m ba a 4) ba p 2) ba
def zcj (l:List Int) (ba:Bool) (a n:Nat) (v:Int):List Int:=zdx (zeD l (zbh l a n v) ba a n) ba
theorem andNot1 {n:Nat} (h:n < 4611686018427387904):i64.wrap ((BitVec.ofInt 64 (n:Nat)&&& ~~~(BitVec.ofInt 64 1)).toNat)=((n / 2*2:Nat):Int):=by
 have e1:(BitVec.ofInt 64 (n:Nat))=BitVec.ofNat 64 n:=by simp
 have e2:((BitVec.ofNat 64 n)&&& ~~~(BitVec.ofInt 64 1)).toNat=n / 2*2:=by
  have: ~~~(BitVec.ofInt 64 1)=BitVec.ofNat 64 18446744073709551614:=by decide
  rw [this,BitVec.toNat_and,BitVec.toNat_ofNat,BitVec.toNat_ofNat,Nat.mod_eq_of_lt om,Nat.mod_eq_of_lt dC]
  have h1:(n&&&18446744073709551614) / 2=n / 2:=by
   rw [Nat.and_div_two,show 18446744073709551614 / 2=2^63 - 1 from rfl,Nat.and_two_pow_sub_one_eq_mod,Nat.mod_eq_of_lt om]
  have h2:(n&&&18446744073709551614) % 2=0:=by
   have h3:(n&&&18446744073709551614).testBit 0=false:=by rw [Nat.testBit_and];simp
   rw [Nat.testBit_zero] at h3
   have:=of_decide_eq_false h3
   omega
  omega
 rw [e1,e2]
 exact ziZ om (by show _ < (2:Int)^63;omega) dC
end Go.Rh

set_option maxHeartbeats 1000000
namespace Go.Rh
theorem za0 {h1 h1':List Blk} (h:h1.all (fun b=>match b with | .gone=>false | _=>true)=true):zgf h1 h1':=by
 intro i hi
 have:=List.all_eq_true.1 h _ (List.mem_of_getElem? hi)
 cases this
theorem zby {ρ:Nat→Nat} {q:Option (Nat×Nat)} {l m:List Int} (h:l=m):zbo ρ (zG q (u8 l) true)=zG q (u8 m) true:=by
 subst h;exact zc9 (zH _)
abbrev ws (a:Nat) (b:Nat) (c:List Int) (d:Pk) e:=zG (some (a,b)) (u8 c) false::zG (zD d.op) (u8 d.op) true::zG (zD d.da) (u8 d.da) true::e
abbrev wD (a:Pk) b c:=(pkL a (zD a.op) b (zD a.da) c)
abbrev ya (a:Nat) (b:Nat) c (d:List Int) e (f:Pk):=[zQ (wz a b) c d.length,zQ (wa d) e d.length,bv f.ba]
abbrev ve (a:Nat) (b:Nat) (c:List Int) (d:Pk) e:=zG (wz a b) (u8 c) false::cw wm::zG (zD d.op) (u8 d.op) true::zG (zD d.da) (u8 d.da) true::e
abbrev vP (a:Nat) (b:Nat):=[(a,bv false),(b,iv 0)]
abbrev vS (a:Nat) (b:Nat) (c:List Int):=[zG (wz a b) (u8 c) false]
abbrev xw (a:Pk):=#[pv 4 0,pkV a (zD a.op) 1 (zD a.da) 2,iv 0]
theorem beginC {P:Program} [PrC P] (o c:Nat) (L l:List Int) (hr:RowOf (wz o c) L l) (x:Pk) (hp:qU l=(0,x)):
    Env P "roundhouse/wire.begin" [zQ (wz o c) 0 l.length] ((vS o c L)) (fun v h'=>v= .tuple (xw x)∧h'= (ws o c L x [zG (wa l) (u8 l) true,cw (ya o c 0 l 3 x)])):=by
 refine Env.by4 PrC.wire_begin ?_
 unfold zg8
 show GC _ 1 _ _ ⟨reg (vj 0 o c l),(vS o c L)⟩
 have hl:=zcP hp
 have hx:=zfh hp
 refine zJ (zN (o_b 3 [(4,iv 0),(3,pv 1 0),(2,.pointer none)] [zG (wz o c) (u8 L) false,cw wm] (zE (zA (zJ (zN (o_d 1 (vj 8 o c l) (qT (zaH [0] (vS o c L) [zQ (wz o c) 0 l.length] (ParseC2 hp (ParseC (wz o c) L l hr om)) rfl rfl ⟨⟨_,rfl,z4 (zH _) rfl (fun q=>q)⟩,trivial⟩ dC ?_)))))))))
 rintro v1 h1' ⟨rfl,rfl⟩
 refine ⟨zai [_] [_,_],.tuple #[pkV x (zD x.op) 2 (zD x.da) 3,iv 0],[zG (wz o c) (u8 L) false,cw wm],[zG (zD x.op) (u8 x.op) true,zG (zD x.da) (u8 x.da) true],(ren_pkT rfl rfl),⟨rfl,rfl,trivial⟩,⟨(Option.some.inj (zF (zH _))).symm,(Option.some.inj (zF (zH _))).symm,trivial⟩, ?_⟩
 refine o_b 6 [(6,iv 0),(5,pv 4 0),(11,iv 0),(10,pkV x (zD x.op) 2 (zD x.da) 3),(7,.tuple #[pkV x (zD x.op) 2 (zD x.da) 3,iv 0])] (ve o c L x [cw (wD x 2 3)]) (zE (zA (zJ (zJ (zN (o_d 2 (vP 13 12) (zE (zA (zba rfl (qM (zA (zJ ?_))))))))))))
 refine zeW (ve o c L x [cw (wD x 2 3),.gone]) (by kernel_rfl) (d_n 2 2 5 [(17,zQ (wz o c) 0 l.length),(16,zQ (wz o c) 0 l.length)] (ve o c L x [cw (wD x 2 3),.gone]) [] (by kernel_rfl) rfl rfl (d_clN [0] (vS o c L) [zQ (wz o c) 0 l.length] (cloneC2 (wz o c) L l hr om om) rfl rfl ⟨⟨_,rfl,z4 (zH _) rfl (fun q=>q)⟩,trivial⟩ dC ⟨_,_,⟨rfl,rfl⟩,Nat.le_add_right 1 1,zbG [_] [_]⟩ ?_ (by kernel_rfl)))
 rintro v1 h1' ⟨rfl,rfl⟩
 refine ⟨zai [_] [_],zQ (wa l) 6 l.length,(ve o c L x [cw (wD x 2 3),.gone]),[zG (wa l) (u8 l) true],rfl,⟨rfl,rfl,rfl,rfl,rfl,rfl,trivial⟩,⟨(Option.some.inj (zF (zH _))).symm,trivial⟩, ?_⟩
 refine d_n 1 4 5 [(19,pv 4 9)] (ve o c L x [cw (wD x 2 3),.gone,zG (wa l) (u8 l) true]) [⟨2,[0],[],some 6⟩] (by kernel_rfl) rfl rfl (d_s rfl rfl rfl (by kernel_rfl) (by refine zV (v:=bv x.ba) rfl rfl ?_;exact rfl) ?_)
 refine d_n 2 7 6 [(22,pv 5 0),(21,.agg #[zQ (wz o c) 0 l.length,zQ (wa l) 6 l.length,bv x.ba])] (ve o c L x [cw (wD x 2 3),cw (ya o c 0 l 6 x),zG (wa l) (u8 l) true]) [⟨6,[],[5],none⟩,⟨4,[4],[],none⟩,⟨2,[0],[],some 6⟩] (by kernel_rfl) rfl rfl (d_s rfl rfl rfl (by kernel_rfl) (by refine zV (v:=pkV x (zD x.op) 2 (zD x.da) 3) rfl rfl ?_;exact rfl) ?_)
 exact d_n 3 11 6 [(4,iv 0),(2,pv 5 0)] [zG (wz o c) (u8 L) false,cw (wD x 2 3),zG (zD x.op) (u8 x.op) true,zG (zD x.da) (u8 x.da) true,cw (wD x 2 3),cw (ya o c 0 l 6 x),zG (wa l) (u8 l) true] [⟨9,[1],[1],none⟩,⟨7,[4],[],none⟩,⟨6,[],[5],none⟩,⟨4,[4],[],none⟩,⟨2,[0],[],some 6⟩] (by kernel_rfl) rfl rfl (zgQ (zA (qV (⟨trivial,[pv 5 0,pkV x (zD x.op) 2 (zD x.da) 3,iv 0],(zU rfl (qY rfl rfl rfl (zU rfl rfl))),(zK rfl (zK rfl (zK rfl z5))),⟨reg [],(ws o c L x [zG (wa l) (u8 l) true,cw (ya o c 0 l 3 x)])⟩,[0,2,3,6,5],[pv 4 0,pkV x (zD x.op) 1 (zD x.da) 2,iv 0],WkR.of (rs:= []) rfl rfl dC trivial ⟨.inl (zF (zH _)),.inl (zF (zH _)),.inl (zF (zH _)),.inl (zF (zH _)),.inl rfl,trivial⟩,(zM rfl (zM (zcH rfl rfl) (zM rfl rfl))),rfl,rfl⟩))))
end Go.Rh

set_option maxHeartbeats 1000000
namespace Go.Rh
abbrev w7 (a:Nat) (b:Nat) (c:List Int) (d:Bool) (e:List Int) (f:List Int):=[cr [zQ (wz a b) 1 c.length,zQ (wa c) 2 c.length,bv d],zG (wz a b) (u8 e) false,zG (wa c) (u8 f) true]
abbrev yz (a:Nat) (b:List Int) (c:Nat) (d:Nat) (e:Nat) (f:Nat) (g:Nat):=[(a,zQ (wa b) c b.length),(d,pv e 1),(f,pv e 0),(g,pv e 0)]
abbrev Wi (a:List Int) (b:List Int):=[zG (wa a) (u8 b) true]
theorem turnC {P:Program} [PrC P] (w m:List Int) (o c:Nat) (L:List Int) (hr:RowOf (wz o c) L w) (ba:Bool) (pn a n:Nat) (hm:m.length=w.length) (ha:a+n≤w.length) (hp:pn+2≤w.length) (hl:w.length≤100000):
    Env P "(*roundhouse/wire.turner).turn" [pv 0 0,iv (pn:Nat),iv (a:Nat),iv (n:Nat)] ((w7 o c w ba L m)) (fun v h'=>v= .tuple #[]∧h'= [cr [zQ (wz o c) 1 w.length,zQ (wa w) 2 w.length,bv ba],zG (wz o c) (u8 L) false,zG (wa w) (u8 (zbh m pn 2 (zfE w m pn a n))) true]):=by
 refine Env.by2 PrC.wire_turner_turn ?_
 unfold zdG
 show GC _ 3 _ _ ⟨reg [(0,pv 0 0),(1,iv (pn:Nat)),(2,iv (a:Nat)),(3,iv (n:Nat))],(w7 o c w ba L m)⟩
 refine zJ (zN (o_d 5 ((14,iv (pn:Nat))::(yz 13 w 2 12 0 11 10)) (qT (zeC (a1:= [zQ (wa w) 0 m.length,iv (pn:Nat),iv 2]) [2] [u8 m] (getC (wa w) m m (RowOf.whole rfl om) pn 2 om om om) rfl (fun _=>zM (zan rfl om) rfl) ⟨⟨_,rfl⟩,zH _,trivial⟩ rfl ?_))))
 have hn1:=(zcB m pn).2.1
 refine o_d 1 [(8,iv (qD m pn 2))] (zE (zA (zJ (zJ (zN (o_d 1 [(16,iv (a:Nat))] (o_s (by refine zR (congrArg wh (andNot1 (n:=a) om)) ?_;kernel_rfl) ?_)))))))
 refine o_d 1 [(9,iv (a / 2*2:Nat))] (zE (zA (zab (zdv (fun μ s=> ∃(i:Nat),∃(u:Int),μ=a+n - i∧(turnK w m ((a+n - i+1) / 2) i u=zfE w m pn a n)∧(0≤u∧u≤65535)∧s=⟨reg [(9,iv (i:Nat)),(8,iv u),(0,pv 0 0),(1,iv (pn:Nat)),(2,iv (a:Nat)),(3,iv (n:Nat))],(w7 o c w ba L m)⟩) ⟨(a+n - (a / 2*2)), ?_⟩ ?_))))
 ·skip
  refine ⟨⟨reg [(9,iv ((a / 2*2):Nat)),(8,iv (qD m pn 2)),(0,pv 0 0),(1,iv (pn:Nat)),(2,iv (a:Nat)),(3,iv (n:Nat))],(w7 o c w ba L m)⟩, ?_⟩
  refine ⟨?_, ?_⟩
  ·exact Wk.ren [0,1,2] rfl rfl dC ⟨rfl,rfl,rfl,rfl,rfl,rfl,trivial⟩ ⟨.inl rfl,.inl (zF (zH _)),.inl (zF (zH _)),trivial⟩
  ·exact ⟨(a / 2*2),(qD m pn 2),rfl,rfl,om,rfl⟩
 rintro μ s ⟨i,u,rfl,hk,hs,rfl⟩
 refine zJ (zJ (zN (o_d 3 [(20,iv (n:Nat)),(19,iv (a:Nat)),(18,iv (i:Nat))] (o_s (by refine zR (v:= .int .i64 (i64.wrap ((a:Nat)+(n:Nat)))) (congrArg wh (w64 om om)) ?_;kernel_rfl) ?_))))
 refine o_d 1 [(22,bv (decide (((i:Nat):Int) < (a:Nat)+(n:Nat))))] (zE (zA (qK (t:=decide (((i:Nat):Int) < (a:Nat)+(n:Nat))) rfl (fun h2=>?_) (fun h2=>?_))))
 ·skip
  have h2':((i:Nat):Int) < (a:Nat)+(n:Nat):=of_decide_eq_true h2
  refine qM (zA (zJ (zab (zbF [] (r_d 6 [(30,iv (i:Nat)),(29,zQ (wz o c) 1 w.length),(28,pv 0 0),(27,pv 0 0),(26,pv 0 0),(25,iv u)] (zfv (zeZ (a1:= [zQ (wz o c) 0 w.length,iv (i:Nat)]) [1] [u8 L] (pairC (wz o c) L w hr i om om) rfl (fun _=>rfl) ⟨⟨_,rfl⟩,zH _,trivial⟩ rfl ?_)))))))
  have hn3:=(zcB w i).2.1
  refine r_d 5 ((36,iv (i:Nat))::(yz 35 w 2 34 0 33 32)) (zfv (zeZ (a1:= [zQ (wa w) 0 m.length,iv (i:Nat)]) [2] [u8 m] (pairC (wa w) m m (RowOf.whole rfl om) i om om) rfl (fun _=>zM (zan rfl om) rfl) ⟨⟨_,rfl⟩,zH _,trivial⟩ rfl ?_))
  have hn4:=(zcB m i).2.1
  refine zfv (zbH (TurnC u (qD w i 2) (qD m i 2) om) rfl rfl rfl ?_)
  refine r_d 1 [(8,iv (zdS u (qD w i 2) (qD m i 2)))] (zbk (zA (zN (o_d 1 [(23,iv (i:Nat))] (o_s (by refine zR (v:= .int .i64 (i64.wrap ((i:Nat)+2))) (congrArg wh (w64 om om)) ?_;kernel_rfl) ?_)))))
  refine o_d 1 [(9,iv ((i:Nat)+2))] (zE (⟨a+n - (i+2), ?_⟩))
  refine ⟨⟨reg [(9,iv ((i+2):Nat)),(8,iv (zdS u (qD w i 2) (qD m i 2))),(0,pv 0 0),(1,iv (pn:Nat)),(2,iv (a:Nat)),(3,iv (n:Nat))],(w7 o c w ba L m)⟩, ?_⟩
  refine zee om ⟨?_, ?_⟩
  ·exact Wk.ren [0,1,2] rfl rfl dC ⟨rfl,rfl,rfl,rfl,rfl,rfl,trivial⟩ ⟨.inl rfl,.inl (zF (zH _)),.inl (zF (zH _)),trivial⟩
  ·exact ⟨(i+2),(zdS u (qD w i 2) (qD m i 2)),rfl,(by rw [show (a+n - i+1) / 2=(a+n - (i+2)+1) / 2+1 by omega] at hk;exact hk),(turnS_r ⟨hs,om,om⟩),rfl⟩
 have h2': ¬(((i:Nat):Int) < (a:Nat)+(n:Nat)):=of_decide_eq_false h2
 refine zc0 (zA (zN (o_d 6 ((44,iv u)::(43,iv (pn:Nat))::(yz 42 w 2 41 0 40 39)) ?_)))
 obtain ⟨m5,hm5⟩: ∃z9,zbh m pn 2 u=z9:=⟨_,rfl⟩
 have hm5l:m5.length=m.length:=by rw [←hm5,zX]
 refine qT (zaH [2] (Wi w m) [zQ (wa w) 0 m.length,iv (pn:Nat),iv 2,iv u] (putC (wa w) m m (RowOf.whole rfl om) pn 2 u om om om) rfl (zM (zan rfl om) (zM rfl (zM rfl (zM rfl rfl)))) ⟨⟨_,rfl,z4 (zH _) rfl (fun q=>rfl)⟩,trivial⟩ dC ?_)
 rintro v1 h1' ⟨rfl,rfl⟩
 refine ⟨(fun i q=>zcv q),.tuple #[],(w7 o c w ba L m5),[],(by simp [zaI]),⟨rfl,rfl,(zcs hm5),trivial⟩,trivial, ?_⟩
 refine zE ?_
 have hs2:u=zfE w m pn a n:=by
  have e:(a+n - i+1) / 2=0:=om
  rw [e] at hk;exact hk
 exact ⟨trivial,⟨reg [],(w7 o c w ba L m5)⟩,Wk.ren [0,1,2] rfl rfl dC trivial ⟨.inl rfl,.inl (zF (zH _)),.inl (zF (zH _)),trivial⟩,[],rfl,z5,rfl,(by rw [←hm5,hs2])⟩
theorem turnC2 {P:Program} [PrC P] (w m:List Int) (o c:Nat) (L:List Int) (hr:RowOf (some (o,c)) L w) (ba:Bool) (p:Int) (pn a n:Nat) (hpn:p=(pn:Nat)) (hm:m.length=w.length) (ha:a+n≤w.length) (hp:pn+2≤w.length) (hl:w.length≤100000):
  Env P "(*roundhouse/wire.turner).turn" [pv 0 0,iv p,iv (a:Nat),iv (n:Nat)] ([cr [zQ (some (o,c)) 1 w.length,zQ (some (0,w.length)) 2 w.length,bv ba],zG (some (o,c)) (u8 L) false,zG (some (0,w.length)) (u8 m) true]) (fun v h'=>v= .tuple #[]∧h'= [cr [zQ (some (o,c)) 1 w.length,zQ (some (0,w.length)) 2 w.length,bv ba],zG (some (o,c)) (u8 L) false,zG (some (0,w.length)) (u8 (zbh m pn 2 (zfE w m pn a n))) true]):=by
 subst hpn;exact turnC w m o c L hr ba pn a n hm ha hp hl
abbrev wM (a:Nat) (b:Nat) (c:Nat) (d:Nat) (e:Nat) (f:Nat) (g:Nat) (h:Nat) (i:Nat):=[(a,pv b c),(d,pv e 0),(f,pv g 0),(h,pv i 0)]
theorem bodyC {P:Program} [PrC P] (w m:List Int) (o c:Nat) (L:List Int) (hr:RowOf (wz o c) L w) (ba:Bool) (a n:Nat) (hm:m.length=w.length) (ha:a+n≤w.length) (h24:24≤w.length) (hl:w.length≤100000):
    Env P "(*roundhouse/wire.turner).body" [pv 0 0,iv (a:Nat),iv (n:Nat)] ((w7 o c w ba L m)) (fun v h'=>v= .tuple #[]∧h'= [cr [zQ (wz o c) 1 w.length,zQ (wa w) 2 w.length,bv ba],zG (wz o c) (u8 L) false,zG (wa w) (u8 (zeD w m ba a n)) true]):=by
 refine Env.by2 PrC.wire_turner_body ?_
 unfold zdI
 show GC _ 3 _ _ ⟨reg [(0,pv 0 0),(1,iv (a:Nat)),(2,iv (n:Nat))],(w7 o c w ba L m)⟩
 refine zJ (zN (o_d 5 [(10,bv (!ba)),(9,bv ba),(8,pv 0 2),(7,pv 0 0),(6,pv 0 0)] (zE (zA (qK (t:= !ba) rfl (fun h1=>?_) (fun h1=>?_))))))
 ·skip
  have h2:ba=false:=not_t h1
  refine zN (o_d 5 ((15,zQ (wa w) 2 w.length)::(wM 14 0 1 13 0 12 0 11 0)) (o_s (by exact qR (q:=some (0,w.length)) (k:=2) (m:=w.length) (o':=0) rfl (fun q=>by cases q) rfl om (by simp only [qo];omega)) ?_))
  refine o_s (by refine zV (v:= .int .u8 (m.getD 0 0 % 256)) rfl rfl ?_;exact zb4 (q:=some (0,w.length)) (L:=m) (l:=m) (i:=0) (RowOf.whole rfl om) om rfl) ?_
  refine o_s (by refine zR (v:= .int .i64 (i64.wrap (m.getD 0 0 % 256))) (congrArg wh (w64 om om)) ?_;kernel_rfl) ?_
  refine qT (zal (zhU (m.getD 0 0 % 256)) rfl rfl rfl ?_)
  have hy3:=zfg (m.getD 0 0 % 256)
  refine o_d 2 [(21,iv (n:Nat)),(20,iv (a:Nat))] ?_
  obtain ⟨m4,hm4⟩: ∃z9,zbh m ((zaj (m.getD 0 0 % 256)).toNat) 2 (zfE w m ((zaj (m.getD 0 0 % 256)).toNat) a n)=z9:=⟨_,rfl⟩
  have hm4l:m4.length=m.length:=by rw [←hm4];first | exact zX _ _ _ _ | exact qW _ _ _ _ _ | exact zad _ _
  refine qT (zaH [0,1,2] (w7 o c w ba L m) [pv 0 0,iv (zaj (m.getD 0 0 % 256)),iv (a:Nat),iv (n:Nat)] (turnC2 w m _ _ _ hr ba (zaj (m.getD 0 0 % 256)) ((zaj (m.getD 0 0 % 256)).toNat) a n om om om om om) rfl rfl ⟨⟨_,rfl,.inl (⟨rfl,fun q=>q⟩)⟩,⟨_,rfl,z4 (q:=some (o,c)) (q':=some (o,c)) (zH _) rfl (fun q=>q)⟩,⟨_,rfl,z4 (q:=some (0,w.length)) (q':=some (0,w.length)) (zH _) rfl (fun q=>rfl)⟩,trivial⟩ dC ?_)
  rintro v1 h1' ⟨rfl,rfl⟩
  refine ⟨za0 rfl,.tuple #[],(w7 o c w ba L m4),[],(by simp [zaI]),⟨rfl,rfl,(zby hm4),trivial⟩,trivial, ?_⟩
  exact zE (⟨trivial,⟨reg [],(w7 o c w ba L m4)⟩,Wk.ren [0,1,2] rfl rfl dC trivial ⟨.inl rfl,.inl (zF (zH _)),.inl (zF (zH _)),trivial⟩,[],rfl,z5,rfl,(by rw [zeD,if_neg (by simp_all),hm4])⟩)
 have h5:ba=true:=not_f h1
 exact qM (⟨trivial,⟨reg [],(w7 o c w ba L m)⟩,Wk.ren [0,1,2] rfl rfl dC trivial ⟨.inl rfl,.inl (zF (zH _)),.inl (zF (zH _)),trivial⟩,[],rfl,z5,rfl,(by rw [zeD,if_pos (by simp_all)])⟩)
abbrev xK:=[(0,pv 0 0)]
abbrev Yg (a:List Int):=((2,zQ (wa a) 2 a.length)::(yz 34 a 2 33 0 32 31))
theorem doneC {P:Program} [PrC P] (w m:List Int) (o c:Nat) (L:List Int) (hr:RowOf (wz o c) L w) (ba:Bool) (hm:m.length=w.length) (h24:24≤w.length) (hl:w.length≤100000):
    Env P "(*roundhouse/wire.turner).done" [pv 0 0] ((w7 o c w ba L m)) (fun v h'=>v=zQ (wa w) 2 w.length∧h'= [cr [zQ (wz o c) 1 w.length,zQ (wa w) 2 w.length,bv ba],zG (wz o c) (u8 L) false,zG (wa w) (u8 (zdx m ba)) true]):=by
 refine Env.by2 PrC.wire_turner_done ?_
 unfold zdH
 show GC _ 3 _ _ ⟨reg xK,(w7 o c w ba L m)⟩
 refine zJ (zN (o_d 1 [(2,.slice none 0 0)] (zE (zA (zJ (zJ (zN (o_d 4 (yz 6 w 2 5 0 4 3) (o_s (by exact qR (q:=some (0,w.length)) (k:=2) (m:=w.length) (o':=0) rfl (fun q=>by cases q) rfl om (by simp only [qo];omega)) ?_)))))))))
 refine o_s (by refine zV (v:= .int .u8 (m.getD 0 0 % 256)) rfl rfl ?_;exact zb4 (q:=some (0,w.length)) (L:=m) (l:=m) (i:=0) (RowOf.whole rfl om) om rfl) ?_
 refine o_s (by refine zR (v:= .int .i64 (i64.wrap (m.getD 0 0 % 256))) (congrArg wh (w64 om om)) ?_;kernel_rfl) ?_
 refine o_d 2 (W4 11 m 2 10) (zbC (b:=(m.getD 0 0 % 256)==2) 11 rfl (fun h1=>?_) (fun h1=>?_))
 ·skip
  have h1':m.getD 0 0 % 256=2:=zaL h1
  refine o_d 7 [(18,bv (!ba)),(17,bv (!ba)),(16,bv (!ba)),(15,bv ba),(14,pv 0 2),(13,pv 0 0),(12,pv 0 0)] (zbC (b:= !ba) 18 rfl (fun h2=>?_) (fun h2=>?_))
  ·skip
   refine o_d 4 (yz 22 w 2 21 0 20 19) (z8 rfl (qT (zeC (a1:= [zQ (wa w) 0 m.length,iv 22,iv 2]) [2] [u8 m] (getC (wa w) m m (RowOf.whole rfl om) 22 2 om om om) rfl (fun _=>zM (zan rfl om) rfl) ⟨⟨_,rfl⟩,zH _,trivial⟩ rfl ?_)))
   have hn3:=(zcB m 22).2.1
   refine o_d 2 [(25,bv ((qD m 22 2)==0)),(24,bv ((qD m 22 2)==0))] (zE (zT [(25,bv ((qD m 22 2)==0)),(0,pv 0 0)] (qK (t:=(qD m 22 2)==0) rfl (fun h4=>?_) (fun h4=>?_))))
   ·skip
    have h4':qD m 22 2=0:=zaL h4
    refine zN (o_d 4 (yz 29 w 2 28 0 27 26) ?_)
    obtain ⟨m5,hm5⟩: ∃z9,zbh m 22 2 65535=z9:=⟨_,rfl⟩
    have hm5l:m5.length=m.length:=by rw [←hm5,zX]
    refine qT (zaH [2] (Wi w m) [zQ (wa w) 0 m.length,iv 22,iv 2,iv 65535] (putC (wa w) m m (RowOf.whole rfl om) 22 2 65535 om om om) rfl (zM (zan rfl om) (zM rfl (zM rfl (zM rfl rfl)))) ⟨⟨_,rfl,z4 (zH _) rfl (fun q=>rfl)⟩,trivial⟩ dC ?_)
    rintro v1 h1' ⟨rfl,rfl⟩
    refine ⟨(fun i q=>zcv q),.tuple #[],(w7 o c w ba L m5),[],(by simp [zaI]),⟨rfl,rfl,(zcs hm5),trivial⟩,trivial, ?_⟩
    refine zE (zA (zJ (zN (o_d 5 (Yg w) (zE (zA (qV ?_)))))))
    have he:zdx m ba=m5:=by unfold zdx;split<;>simp_all
    exact ⟨trivial,⟨reg [(2,zQ (wa w) 2 w.length)],(w7 o c w ba L m5)⟩,Wk.ren [0,1,2] rfl rfl dC ⟨rfl,trivial⟩ ⟨.inl rfl,.inl (zF (zH _)),.inl (zF (zH _)),trivial⟩,[zQ (wa w) 2 w.length],(zU rfl rfl),(zK rfl z5),rfl,(by rw [he])⟩
   have h4': ¬(qD m 22 2=0):=zaM h4
   refine qM (zA (zJ (zN (o_d 5 (Yg w) (zE (zA (qV ?_)))))))
   have he:zdx m ba=m:=by unfold zdx;split<;>simp_all
   exact ⟨trivial,⟨reg [(2,zQ (wa w) 2 w.length)],(w7 o c w ba L m)⟩,Wk.ren [0,1,2] rfl rfl dC ⟨rfl,trivial⟩ ⟨.inl rfl,.inl (zF (zH _)),.inl (zF (zH _)),trivial⟩,[zQ (wa w) 2 w.length],(zU rfl rfl),(zK rfl z5),rfl,(by rw [he])⟩
  refine o_d 7 ((25,bv false)::(24,undef)::(23,undef)::(y9 22 21 20 19)) (zE (zT [(25,bv false),(0,pv 0 0)] (zba rfl (qM (zA (zJ (zN (o_d 5 (Yg w) (zE (zA (qV ?_)))))))))))
  have he:zdx m ba=m:=by unfold zdx;split<;>simp_all
  exact ⟨trivial,⟨reg [(2,zQ (wa w) 2 w.length)],(w7 o c w ba L m)⟩,Wk.ren [0,1,2] rfl rfl dC ⟨rfl,trivial⟩ ⟨.inl rfl,.inl (zF (zH _)),.inl (zF (zH _)),trivial⟩,[zQ (wa w) 2 w.length],(zU rfl rfl),(zK rfl z5),rfl,(by rw [he])⟩
 have h1': ¬(m.getD 0 0 % 256=2):=zaM h1
 refine o_d 14 ((25,bv false)::(24,undef)::(23,undef)::(22,undef)::(21,undef)::(20,undef)::(19,undef)::(18,bv false)::(17,bv false)::(16,undef)::(y9 15 14 13 12)) (zE (zT [(25,bv false),(0,pv 0 0)] (zba rfl (qM (zA (zJ (zN (o_d 5 (Yg w) (zE (zA (qV ?_)))))))))))
 have he:zdx m ba=m:=by unfold zdx;split<;>simp_all
 exact ⟨trivial,⟨reg [(2,zQ (wa w) 2 w.length)],(w7 o c w ba L m)⟩,Wk.ren [0,1,2] rfl rfl dC ⟨rfl,trivial⟩ ⟨.inl rfl,.inl (zF (zH _)),.inl (zF (zH _)),trivial⟩,[zQ (wa w) 2 w.length],(zU rfl rfl),(zK rfl z5),rfl,(by rw [he])⟩
end Go.Rh

set_option maxHeartbeats 1000000
namespace Go.Rh
abbrev yU (a:Nat) (b:Nat) (c:List Int) (d:Pk) (e:List Int):=(ws a b c d [zG (wa e) (u8 e) true,cw (ya a b 0 e 3 d),cw (wD d 1 2)])
abbrev va (a:Nat) (b:Nat) (c:List Int) (d:Pk) (e:List Int) f:=(ws a b c d [zG (wa e) (u8 f) true,cw (ya a b 0 e 3 d),cw (wD d 1 2)])
abbrev xf (a:Nat) (b:Nat) (c:List Int) (d:Pk) (e:List Int) f:=[cr (ya a b 1 c 2 d),zG (wz a b) (u8 e) false,zG (wa c) (u8 f) true]
abbrev Wy (a:Nat) (b:Nat) (c:List Int) (d:Nat):=[(a,iv 0),(b,zQ (wa c) d c.length)]
abbrev WD (a:Pk) (b:List Int) (c:Nat) (d:Nat):=[zG (zD a.op) (u8 a.op) true,zG (zD a.da) (u8 a.da) true,zG (wa b) (u8 b) true,cw (ya c d 0 b 3 a)]
abbrev WN (a:List Int) b:=#[zQ (wa a) b a.length,iv 0]
abbrev W5 (a:Nat) (b:Nat) (c:Nat) (d:Nat) (e:Nat) (f:Pk) (g:Nat) (h:Nat):=[(a,iv 0),(b,pv 4 0),(c,pv 5 0),(d,iv 0),(e,pkV f (zD f.op) 1 (zD f.da) 2),(g,pv 4 0),(h,.tuple (xw f))]
theorem AgeC {P:Program} [PrC P] (o c:Nat) (L l:List Int) (hr:RowOf (wz o c) L l) (x:Pk) (hp:qU l=(0,x)) (h2:2≤x.li):
    Env P "roundhouse/wire.Age" [zQ (wz o c) 0 l.length] ((vS o c L)) (fun v h'=>v= .tuple (WN l 1)∧h'= [zG (wz o c) (u8 L) false,zG (wa l) (u8 (ageL l x.ba)) true]):=by
 refine Env.by4 PrC.wire_Age ?_
 unfold zjs
 show GC _ 1 _ _ ⟨reg (vj 0 o c l),(vS o c L)⟩
 have hl:=zcP hp
 have hx:=zfh hp
 refine zJ (zN (o_d 2 [(3,iv 0),(2,.slice none 0 0)] (zE (zA (zJ (zN (o_d 1 (vj 8 o c l) (qT (zaH [0] (vS o c L) [zQ (wz o c) 0 l.length] (beginC _ _ L l hr x hp) rfl rfl ⟨⟨_,rfl,z4 (zH _) rfl (fun q=>q)⟩,trivial⟩ dC ?_)))))))))
 rintro v1 h1' ⟨rfl,rfl⟩
 refine ⟨za0 rfl,.tuple (xw x),(vS o c L),(WD x l o c),(zhB rfl rfl rfl),⟨rfl,trivial⟩,⟨(Option.some.inj (zF (zH _))).symm,(Option.some.inj (zF (zH _))).symm,(Option.some.inj (zF (zH _))).symm,rfl,trivial⟩, ?_⟩
 refine o_b 8 (W5 6 4 5 12 11 x 10 7) (yU o c L x l) (zE (zA (zJ (zab (zJ (zN (o_d 3 [(13,bv false),(15,bv false),(14,iv 0)] (zE (zA (zba rfl (zJ (zN ?_))))))))))))
 refine o_d 1 [(18,pv 5 1)] (o_s (by refine zV (v:=iv x.li) rfl rfl ?_;exact rfl) ?_)
 refine o_d 2 [(17,bv (decide (x.li < 2))),(20,bv (decide (x.li < 2)))] (zE (zA (qK (t:=decide (x.li < 2)) rfl (fun q=>by rw [(by simp;omega:(decide (x.li < 2))=false)] at q;cases q) (fun _=>?_))))
 refine qM (zA (zJ (zN (o_d 4 (yz 24 l 3 23 4 22 21) (o_s (by exact qR (q:=some (0,l.length)) (k:=3) (m:=l.length) (o':=1) rfl (fun q=>by cases q) rfl om (by simp only [qo];omega)) ?_)))))
 refine o_s (by refine zV (v:= .int .u8 (l.getD 1 0 % 256)) rfl rfl ?_;exact zb4 (q:=some (0,l.length)) (L:=l) (l:=l) (i:=1) (RowOf.whole rfl (Nat.le_refl _)) om rfl) ?_
 refine o_d 1 [(27,.int .u8 (IntKind.u8.wrap (l.getD 1 0 % 256 - 1)))] (o_s (by exact qR (q:=some (0,l.length)) (k:=3) (m:=l.length) (o':=1) rfl (fun q=>by cases q) rfl om (by simp only [qo];omega)) ?_)
 obtain ⟨m1,hm1⟩: ∃z9,l.set 1 (l.getD 1 0 % 256 - 1)=z9:=⟨_,rfl⟩
 have hm1l:m1.length=l.length:=by rw [←hm1,List.length_set]
 refine zdu (by exact zh6 (x:=l.getD 1 0 % 256 - 1) rfl rfl rfl (by simp) om rfl (by rw [hm1]<;>rfl)) ?_
 refine zE (zT [(4,pv 4 0)] (zJ (zN (o_d 1 [(29,pv 4 0)] ?_))))
 obtain ⟨m2,hm2⟩: ∃z9,zbh m1 14 2 (zfE l m1 14 0 2)=z9:=⟨_,rfl⟩
 have hm2l:m2.length=m1.length:=by rw [←hm2];first | exact zX _ _ _ _ | exact qW _ _ _ _ _ | exact zad _ _
 refine qT (zaH [4,0,3] (xf o c l x L m1) [pv 0 0,iv 14,iv 0,iv 2] (turnC2 l m1 _ _ _ hr x.ba 14 14 0 2 om om om om om) rfl rfl ⟨⟨_,rfl,.inl (⟨rfl,fun q=>by cases q⟩)⟩,⟨_,rfl,z4 (q:=some (o,c)) (q':=some (o,c)) (zH _) rfl (fun q=>q)⟩,⟨_,rfl,z4 (q:=some (0,l.length)) (q':=some (0,l.length)) (zH _) rfl (fun q=>rfl)⟩,trivial⟩ dC ?_)
 rintro v1 h1' ⟨rfl,rfl⟩
 refine ⟨za0 rfl,.tuple #[],(va o c L x l m2),[],(by simp [zaI]),⟨rfl,rfl,rfl,(zby hm2),rfl,rfl,trivial⟩,trivial, ?_⟩
 refine zE (zA (zJ (zN (o_d 1 [(31,pv 4 0)] ?_))))
 obtain ⟨m3,hm3⟩: ∃z9,zdx m2 x.ba=z9:=⟨_,rfl⟩
 have hm3l:m3.length=m2.length:=by rw [←hm3];first | exact zX _ _ _ _ | exact qW _ _ _ _ _ | exact zad _ _
 refine qT (zaH [4,0,3] (xf o c l x L m2) [pv 0 0] (doneC l m2 _ _ _ hr x.ba om om om) rfl rfl ⟨⟨_,rfl,.inl (⟨rfl,fun q=>by cases q⟩)⟩,⟨_,rfl,z4 (q:=some (o,c)) (q':=some (o,c)) (zH _) rfl (fun q=>q)⟩,⟨_,rfl,z4 (q:=some (0,l.length)) (q':=some (0,l.length)) (zH _) rfl (fun q=>rfl)⟩,trivial⟩ dC ?_)
 rintro v1 h1' ⟨rfl,rfl⟩
 refine ⟨za0 rfl,zQ (wa l) 3 l.length,(va o c L x l m3),[],rfl,⟨rfl,rfl,rfl,(zby hm3),rfl,rfl,trivial⟩,trivial, ?_⟩
 refine o_d 2 (Wy 3 2 l 3) (zE (zA (qV ?_)))
 have he:ageL l x.ba=m3:=by simp only [ageL,hm1,hm2,hm3]
 exact ⟨trivial,[zQ (wa l) 3 l.length,iv 0],(zU rfl (zU rfl rfl)),(zK rfl (zK rfl z5)),⟨reg [],[zG (wz o c) (u8 L) false,zG (wa l) (u8 m3) true]⟩,[0,3],[zQ (wa l) 1 l.length,iv 0],WkR.of (rs:= []) rfl rfl dC trivial ⟨.inl (zF (zH _)),.inl (zF (zH _)),trivial⟩,rfl,rfl,(by rw [he])⟩
theorem NatC {P:Program} [PrC P] (o c:Nat) (L l:List Int) (hr:RowOf (some (o,c)) L l) (x:Pk) (hp:qU l=(0,x)) (hk:x.k≠3) (source:Bool) (addr port:Int) (ha:0≤addr∧addr≤4294967295) (hb:0≤port∧port≤65535):
    Env P "roundhouse/wire.Nat" [zQ (some (o,c)) 0 l.length,bv source,iv addr,iv port] ([zG (some (o,c)) (u8 L) false]) (fun v h'=>v= .tuple #[zQ (some (0,l.length)) 1 l.length,iv 0]∧h'= [zG (some (o,c)) (u8 L) false,zG (some (0,l.length)) (u8 (natL l x.ba source addr port)) true]):=by
 refine Env.by4 PrC.wire_Nat ?_
 unfold zjr
 show GC _ 1 _ _ ⟨reg [(0,zQ (some (o,c)) 0 l.length),(1,bv source),(2,iv addr),(3,iv port)],[zG (some (o,c)) (u8 L) false]⟩
 have hl:=zcP hp
 have hx:=zfh hp
 refine zJ (zN (o_d 2 [(9,iv 0),(8,.slice none 0 0)] (zE (zA (zJ (zN (o_d 1 [(16,zQ (some (o,c)) 0 l.length)] (qT (zaH [0] [zG (some (o,c)) (u8 L) false] [zQ (some (o,c)) 0 l.length] (beginC _ _ L l hr x hp) rfl rfl ⟨⟨_,rfl,z4 (zH _) rfl (fun q=>q)⟩,trivial⟩ dC ?_)))))))))
 rintro v1 h1' ⟨rfl,rfl⟩
 refine ⟨za0 rfl,.tuple #[pv 4 0,pkV x (zD x.op) 1 (zD x.da) 2,iv 0],[zG (some (o,c)) (u8 L) false],[zG (zD x.op) (u8 x.op) true,zG (zD x.da) (u8 x.da) true,zG (some (0,l.length)) (u8 l) true,cw [zQ (some (o,c)) 0 l.length,zQ (some (0,l.length)) 3 l.length,bv x.ba]],(zhB rfl rfl rfl),⟨rfl,trivial⟩,⟨(Option.some.inj (zF (zH _))).symm,(Option.some.inj (zF (zH _))).symm,(Option.some.inj (zF (zH _))).symm,rfl,trivial⟩, ?_⟩
 refine o_b 8 [(12,iv 0),(10,pv 4 0),(11,pv 5 0),(20,iv 0),(19,pkV x (zD x.op) 1 (zD x.da) 2),(18,pv 4 0),(15,.tuple #[pv 4 0,pkV x (zD x.op) 1 (zD x.da) 2,iv 0])] [zG (some (o,c)) (u8 L) false,zG (zD x.op) (u8 x.op) true,zG (zD x.da) (u8 x.da) true,zG (some (0,l.length)) (u8 l) true,cw [zQ (some (o,c)) 0 l.length,zQ (some (0,l.length)) 3 l.length,bv x.ba],cw (pkL x (zD x.op) 1 (zD x.da) 2)] (zE (zA (zJ (zab (zJ (zN (o_d 3 [(21,bv false),(23,bv false),(22,iv 0)] (zE (zA (zba rfl (zJ (zN ?_))))))))))))
 refine o_d 1 [(26,pv 5 0)] (o_s (by refine zV (v:=iv x.k) rfl rfl ?_;exact rfl) ?_)
 refine o_d 2 [(25,bv (x.k==3)),(28,bv (x.k==3))] (zE (zA (qK (t:=x.k==3) rfl (fun q=>by rw [(by simp [hk]:(x.k==3)=false)] at q;cases q) (fun _=>?_))))
 refine zJ (zN (o_d 1 [(30,iv addr)] (qT (zal (wwithinC addr 4294967295) rfl rfl rfl (o_d 2 [(33,bv (!(decide (addr≥0)&&decide (addr≤4294967295)))),(32,bv (!(decide (addr≥0)&&decide (addr≤4294967295))))] (zbC (b:= !(decide (addr≥0)&&decide (addr≤4294967295))) 33 rfl (fun q=>by rw [(by rw [(by simp;omega:(decide (addr≥0)&&decide (addr≤4294967295))=true)];rfl:(!(decide (addr≥0)&&decide (addr≤4294967295)))=false)] at q;cases q) (fun k1=>?_)))))))
 refine o_d 1 [(34,iv port)] (z8 rfl (qT (zal (wwithinC port 65535) rfl rfl rfl (o_d 3 [(29,bv (!(decide (port≥0)&&decide (port≤65535)))),(37,bv (!(decide (port≥0)&&decide (port≤65535)))),(36,bv (!(decide (port≥0)&&decide (port≤65535))))] (zE (zT [(29,bv (!(decide (port≥0)&&decide (port≤65535)))),(10,pv 4 0),(1,bv source),(2,iv addr),(3,iv port)] (qK (t:= !(decide (port≥0)&&decide (port≤65535))) rfl (fun q=>by rw [(by rw [(by simp;omega:(decide (port≥0)&&decide (port≤65535))=true)];rfl:(!(decide (port≥0)&&decide (port≤65535)))=false)] at q;cases q) (fun _=>?_))))))))
 refine qM (zA (zJ (zN (o_d 2 [(14,iv 18),(13,iv 8)] (zE (zA (zJ (zJ (zN (o_d 1 [(38,bv source)] (zE (zA ?_))))))))))))
 refine qK (t:=source) rfl (fun h2=>?_) (fun h2=>?_)
 ·skip
  refine zN (o_d 2 [(14,iv 16),(13,iv 4)] (zE (zA (zJ (zN (o_d 6 [(44,iv addr),(43,iv 4),(42,zQ (some (0,l.length)) 3 l.length),(41,pv 4 1),(40,pv 4 0),(39,pv 4 0)] ?_))))))
  obtain ⟨m3,hm3⟩: ∃z9,zbh l 4 4 addr=z9:=⟨_,rfl⟩
  have hm3l:m3.length=l.length:=by rw [←hm3,zX]
  refine qT (zaH [3] [zG (some (0,l.length)) (u8 l) true] [zQ (some (0,l.length)) 0 l.length,iv 4,iv 4,iv addr] (putC (some (0,l.length)) l l (RowOf.whole rfl (Nat.le_refl _)) 4 4 addr om om om) rfl rfl ⟨⟨_,rfl,z4 (zH _) rfl (fun q=>rfl)⟩,trivial⟩ dC ?_)
  rintro v1 h1' ⟨rfl,rfl⟩
  refine ⟨(fun i q=>zcv q),.tuple #[],[zG (some (o,c)) (u8 L) false,zG (zD x.op) (u8 x.op) true,zG (zD x.da) (u8 x.da) true,zG (some (0,l.length)) (u8 m3) true,cw [zQ (some (o,c)) 0 l.length,zQ (some (0,l.length)) 3 l.length,bv x.ba],cw (pkL x (zD x.op) 1 (zD x.da) 2)],[],(by simp [zaI]),⟨rfl,rfl,rfl,(zcs hm3),rfl,rfl,trivial⟩,trivial, ?_⟩
  refine zE (zA (zJ (zN (o_d 6 [(51,iv port),(50,iv 16),(49,zQ (some (0,l.length)) 3 l.length),(48,pv 4 1),(47,pv 4 0),(46,pv 4 0)] ?_))))
  obtain ⟨m4,hm4⟩: ∃z9,zbh m3 16 2 port=z9:=⟨_,rfl⟩
  have hm4l:m4.length=m3.length:=by rw [←hm4,zX]
  refine qT (zaH [3] [zG (some (0,l.length)) (u8 m3) true] [zQ (some (0,l.length)) 0 m3.length,iv 16,iv 2,iv port] (putC (some (0,l.length)) m3 m3 (RowOf.whole rfl om) 16 2 port om om om) rfl (zM (zan rfl om) (zM rfl (zM rfl (zM rfl rfl)))) ⟨⟨_,rfl,z4 (zH _) rfl (fun q=>rfl)⟩,trivial⟩ dC ?_)
  rintro v1 h1' ⟨rfl,rfl⟩
  refine ⟨(fun i q=>zcv q),.tuple #[],[zG (some (o,c)) (u8 L) false,zG (zD x.op) (u8 x.op) true,zG (zD x.da) (u8 x.da) true,zG (some (0,l.length)) (u8 m4) true,cw [zQ (some (o,c)) 0 l.length,zQ (some (0,l.length)) 3 l.length,bv x.ba],cw (pkL x (zD x.op) 1 (zD x.da) 2)],[],(by simp [zaI]),⟨rfl,rfl,rfl,(zcs hm4),rfl,rfl,trivial⟩,trivial, ?_⟩
  refine zE (zT [(14,iv 16),(13,iv 4),(10,pv 4 0)] (zJ (zN (o_d 2 [(54,iv 4),(53,pv 4 0)] ?_))))
  obtain ⟨m5,hm5⟩: ∃z9,zbh m4 14 2 (zfE l m4 14 4 4)=z9:=⟨_,rfl⟩
  have hm5l:m5.length=m4.length:=by rw [←hm5];first | exact zX _ _ _ _ | exact qW _ _ _ _ _ | exact zad _ _
  refine qT (zaH [4,0,3] [cr [zQ (some (o,c)) 1 l.length,zQ (some (0,l.length)) 2 l.length,bv x.ba],zG (some (o,c)) (u8 L) false,zG (some (0,l.length)) (u8 m4) true] [pv 0 0,iv 14,iv 4,iv 4] (turnC2 l m4 _ _ _ hr x.ba 14 14 4 4 om om om om om) rfl rfl ⟨⟨_,rfl,.inl (⟨rfl,fun q=>by cases q⟩)⟩,⟨_,rfl,z4 (q:=some (o,c)) (q':=some (o,c)) (zH _) rfl (fun q=>q)⟩,⟨_,rfl,z4 (q:=some (0,l.length)) (q':=some (0,l.length)) (zH _) rfl (fun q=>rfl)⟩,trivial⟩ dC ?_)
  rintro v1 h1' ⟨rfl,rfl⟩
  refine ⟨za0 rfl,.tuple #[],[zG (some (o,c)) (u8 L) false,zG (zD x.op) (u8 x.op) true,zG (zD x.da) (u8 x.da) true,zG (some (0,l.length)) (u8 m5) true,cw [zQ (some (o,c)) 0 l.length,zQ (some (0,l.length)) 3 l.length,bv x.ba],cw (pkL x (zD x.op) 1 (zD x.da) 2)],[],(by simp [zaI]),⟨rfl,rfl,rfl,(zby hm5),rfl,rfl,trivial⟩,trivial, ?_⟩
  refine zE (zA (zJ (zN (o_d 2 [(57,iv 4),(56,pv 4 0)] ?_))))
  obtain ⟨m6,hm6⟩: ∃z9,zeD l m5 x.ba 4 4=z9:=⟨_,rfl⟩
  have hm6l:m6.length=m5.length:=by rw [←hm6];first | exact zX _ _ _ _ | exact qW _ _ _ _ _ | exact zad _ _
  refine qT (zaH [4,0,3] [cr [zQ (some (o,c)) 1 l.length,zQ (some (0,l.length)) 2 l.length,bv x.ba],zG (some (o,c)) (u8 L) false,zG (some (0,l.length)) (u8 m5) true] [pv 0 0,iv 4,iv 4] (bodyC l m5 _ _ _ hr x.ba 4 4 om om om om) rfl rfl ⟨⟨_,rfl,.inl (⟨rfl,fun q=>by cases q⟩)⟩,⟨_,rfl,z4 (q:=some (o,c)) (q':=some (o,c)) (zH _) rfl (fun q=>q)⟩,⟨_,rfl,z4 (q:=some (0,l.length)) (q':=some (0,l.length)) (zH _) rfl (fun q=>rfl)⟩,trivial⟩ dC ?_)
  rintro v1 h1' ⟨rfl,rfl⟩
  refine ⟨za0 rfl,.tuple #[],[zG (some (o,c)) (u8 L) false,zG (zD x.op) (u8 x.op) true,zG (zD x.da) (u8 x.da) true,zG (some (0,l.length)) (u8 m6) true,cw [zQ (some (o,c)) 0 l.length,zQ (some (0,l.length)) 3 l.length,bv x.ba],cw (pkL x (zD x.op) 1 (zD x.da) 2)],[],(by simp [zaI]),⟨rfl,rfl,rfl,(zby hm6),rfl,rfl,trivial⟩,trivial, ?_⟩
  refine zE (zA (zJ (zN (o_d 2 [(60,iv 16),(59,pv 4 0)] ?_))))
  obtain ⟨m7,hm7⟩: ∃z9,zeD l m6 x.ba 16 2=z9:=⟨_,rfl⟩
  have hm7l:m7.length=m6.length:=by rw [←hm7];first | exact zX _ _ _ _ | exact qW _ _ _ _ _ | exact zad _ _
  refine qT (zaH [4,0,3] [cr [zQ (some (o,c)) 1 l.length,zQ (some (0,l.length)) 2 l.length,bv x.ba],zG (some (o,c)) (u8 L) false,zG (some (0,l.length)) (u8 m6) true] [pv 0 0,iv 16,iv 2] (bodyC l m6 _ _ _ hr x.ba 16 2 om om om om) rfl rfl ⟨⟨_,rfl,.inl (⟨rfl,fun q=>by cases q⟩)⟩,⟨_,rfl,z4 (q:=some (o,c)) (q':=some (o,c)) (zH _) rfl (fun q=>q)⟩,⟨_,rfl,z4 (q:=some (0,l.length)) (q':=some (0,l.length)) (zH _) rfl (fun q=>rfl)⟩,trivial⟩ dC ?_)
  rintro v1 h1' ⟨rfl,rfl⟩
  refine ⟨za0 rfl,.tuple #[],[zG (some (o,c)) (u8 L) false,zG (zD x.op) (u8 x.op) true,zG (zD x.da) (u8 x.da) true,zG (some (0,l.length)) (u8 m7) true,cw [zQ (some (o,c)) 0 l.length,zQ (some (0,l.length)) 3 l.length,bv x.ba],cw (pkL x (zD x.op) 1 (zD x.da) 2)],[],(by simp [zaI]),⟨rfl,rfl,rfl,(zby hm7),rfl,rfl,trivial⟩,trivial, ?_⟩
  refine zE (zA (zJ (zN (o_d 1 [(62,pv 4 0)] ?_))))
  obtain ⟨m8,hm8⟩: ∃z9,zdx m7 x.ba=z9:=⟨_,rfl⟩
  have hm8l:m8.length=m7.length:=by rw [←hm8];first | exact zX _ _ _ _ | exact qW _ _ _ _ _ | exact zad _ _
  refine qT (zaH [4,0,3] [cr [zQ (some (o,c)) 1 l.length,zQ (some (0,l.length)) 2 l.length,bv x.ba],zG (some (o,c)) (u8 L) false,zG (some (0,l.length)) (u8 m7) true] [pv 0 0] (doneC l m7 _ _ _ hr x.ba om om om) rfl rfl ⟨⟨_,rfl,.inl (⟨rfl,fun q=>by cases q⟩)⟩,⟨_,rfl,z4 (q:=some (o,c)) (q':=some (o,c)) (zH _) rfl (fun q=>q)⟩,⟨_,rfl,z4 (q:=some (0,l.length)) (q':=some (0,l.length)) (zH _) rfl (fun q=>rfl)⟩,trivial⟩ dC ?_)
  rintro v1 h1' ⟨rfl,rfl⟩
  refine ⟨za0 rfl,zQ (some (0,l.length)) 3 l.length,[zG (some (o,c)) (u8 L) false,zG (zD x.op) (u8 x.op) true,zG (zD x.da) (u8 x.da) true,zG (some (0,l.length)) (u8 m8) true,cw [zQ (some (o,c)) 0 l.length,zQ (some (0,l.length)) 3 l.length,bv x.ba],cw (pkL x (zD x.op) 1 (zD x.da) 2)],[],rfl,⟨rfl,rfl,rfl,(zby hm8),rfl,rfl,trivial⟩,trivial, ?_⟩
  refine o_d 2 [(9,iv 0),(8,zQ (some (0,l.length)) 3 l.length)] (zE (zA (qV ?_)))
  have he:natL l x.ba source addr port=m8:=by simp only [natL,hm3,hm4,hm5,hm6,hm7,hm8,h2,if_true]
  exact ⟨trivial,[zQ (some (0,l.length)) 3 l.length,iv 0],(zU rfl (zU rfl rfl)),(zK rfl (zK rfl z5)),⟨reg [],[zG (some (o,c)) (u8 L) false,zG (some (0,l.length)) (u8 m8) true]⟩,[0,3],[zQ (some (0,l.length)) 1 l.length,iv 0],WkR.of (rs:= []) rfl rfl dC trivial ⟨.inl (zF (zH _)),.inl (zF (zH _)),trivial⟩,rfl,rfl,(by rw [he])⟩
 refine qM (zA (zJ (zN (o_d 6 [(44,iv addr),(43,iv 8),(42,zQ (some (0,l.length)) 3 l.length),(41,pv 4 1),(40,pv 4 0),(39,pv 4 0)] ?_))))
 obtain ⟨m9,hm9⟩: ∃z9,zbh l 8 4 addr=z9:=⟨_,rfl⟩
 have hm9l:m9.length=l.length:=by rw [←hm9,zX]
 refine qT (zaH [3] [zG (some (0,l.length)) (u8 l) true] [zQ (some (0,l.length)) 0 l.length,iv 8,iv 4,iv addr] (putC (some (0,l.length)) l l (RowOf.whole rfl (Nat.le_refl _)) 8 4 addr om om om) rfl rfl ⟨⟨_,rfl,z4 (zH _) rfl (fun q=>rfl)⟩,trivial⟩ dC ?_)
 rintro v1 h1' ⟨rfl,rfl⟩
 refine ⟨(fun i q=>zcv q),.tuple #[],[zG (some (o,c)) (u8 L) false,zG (zD x.op) (u8 x.op) true,zG (zD x.da) (u8 x.da) true,zG (some (0,l.length)) (u8 m9) true,cw [zQ (some (o,c)) 0 l.length,zQ (some (0,l.length)) 3 l.length,bv x.ba],cw (pkL x (zD x.op) 1 (zD x.da) 2)],[],(by simp [zaI]),⟨rfl,rfl,rfl,(zcs hm9),rfl,rfl,trivial⟩,trivial, ?_⟩
 refine zE (zA (zJ (zN (o_d 6 [(51,iv port),(50,iv 18),(49,zQ (some (0,l.length)) 3 l.length),(48,pv 4 1),(47,pv 4 0),(46,pv 4 0)] ?_))))
 obtain ⟨m10,hm10⟩: ∃z9,zbh m9 18 2 port=z9:=⟨_,rfl⟩
 have hm10l:m10.length=m9.length:=by rw [←hm10,zX]
 refine qT (zaH [3] [zG (some (0,l.length)) (u8 m9) true] [zQ (some (0,l.length)) 0 m9.length,iv 18,iv 2,iv port] (putC (some (0,l.length)) m9 m9 (RowOf.whole rfl om) 18 2 port om om om) rfl (zM (zan rfl om) (zM rfl (zM rfl (zM rfl rfl)))) ⟨⟨_,rfl,z4 (zH _) rfl (fun q=>rfl)⟩,trivial⟩ dC ?_)
 rintro v1 h1' ⟨rfl,rfl⟩
 refine ⟨(fun i q=>zcv q),.tuple #[],[zG (some (o,c)) (u8 L) false,zG (zD x.op) (u8 x.op) true,zG (zD x.da) (u8 x.da) true,zG (some (0,l.length)) (u8 m10) true,cw [zQ (some (o,c)) 0 l.length,zQ (some (0,l.length)) 3 l.length,bv x.ba],cw (pkL x (zD x.op) 1 (zD x.da) 2)],[],(by simp [zaI]),⟨rfl,rfl,rfl,(zcs hm10),rfl,rfl,trivial⟩,trivial, ?_⟩
 refine zE (zA (zJ (zN (o_d 2 [(54,iv 8),(53,pv 4 0)] ?_))))
 obtain ⟨m11,hm11⟩: ∃z9,zbh m10 14 2 (zfE l m10 14 8 4)=z9:=⟨_,rfl⟩
 have hm11l:m11.length=m10.length:=by rw [←hm11];first | exact zX _ _ _ _ | exact qW _ _ _ _ _ | exact zad _ _
 refine qT (zaH [4,0,3] [cr [zQ (some (o,c)) 1 l.length,zQ (some (0,l.length)) 2 l.length,bv x.ba],zG (some (o,c)) (u8 L) false,zG (some (0,l.length)) (u8 m10) true] [pv 0 0,iv 14,iv 8,iv 4] (turnC2 l m10 _ _ _ hr x.ba 14 14 8 4 om om om om om) rfl rfl ⟨⟨_,rfl,.inl (⟨rfl,fun q=>by cases q⟩)⟩,⟨_,rfl,z4 (q:=some (o,c)) (q':=some (o,c)) (zH _) rfl (fun q=>q)⟩,⟨_,rfl,z4 (q:=some (0,l.length)) (q':=some (0,l.length)) (zH _) rfl (fun q=>rfl)⟩,trivial⟩ dC ?_)
 rintro v1 h1' ⟨rfl,rfl⟩
 refine ⟨za0 rfl,.tuple #[],[zG (some (o,c)) (u8 L) false,zG (zD x.op) (u8 x.op) true,zG (zD x.da) (u8 x.da) true,zG (some (0,l.length)) (u8 m11) true,cw [zQ (some (o,c)) 0 l.length,zQ (some (0,l.length)) 3 l.length,bv x.ba],cw (pkL x (zD x.op) 1 (zD x.da) 2)],[],(by simp [zaI]),⟨rfl,rfl,rfl,(zby hm11),rfl,rfl,trivial⟩,trivial, ?_⟩
 refine zE (zT [(14,iv 18),(13,iv 8),(10,pv 4 0)] (zJ (zN (o_d 2 [(57,iv 8),(56,pv 4 0)] ?_))))
 obtain ⟨m12,hm12⟩: ∃z9,zeD l m11 x.ba 8 4=z9:=⟨_,rfl⟩
 have hm12l:m12.length=m11.length:=by rw [←hm12];first | exact zX _ _ _ _ | exact qW _ _ _ _ _ | exact zad _ _
 refine qT (zaH [4,0,3] [cr [zQ (some (o,c)) 1 l.length,zQ (some (0,l.length)) 2 l.length,bv x.ba],zG (some (o,c)) (u8 L) false,zG (some (0,l.length)) (u8 m11) true] [pv 0 0,iv 8,iv 4] (bodyC l m11 _ _ _ hr x.ba 8 4 om om om om) rfl rfl ⟨⟨_,rfl,.inl (⟨rfl,fun q=>by cases q⟩)⟩,⟨_,rfl,z4 (q:=some (o,c)) (q':=some (o,c)) (zH _) rfl (fun q=>q)⟩,⟨_,rfl,z4 (q:=some (0,l.length)) (q':=some (0,l.length)) (zH _) rfl (fun q=>rfl)⟩,trivial⟩ dC ?_)
 rintro v1 h1' ⟨rfl,rfl⟩
 refine ⟨za0 rfl,.tuple #[],[zG (some (o,c)) (u8 L) false,zG (zD x.op) (u8 x.op) true,zG (zD x.da) (u8 x.da) true,zG (some (0,l.length)) (u8 m12) true,cw [zQ (some (o,c)) 0 l.length,zQ (some (0,l.length)) 3 l.length,bv x.ba],cw (pkL x (zD x.op) 1 (zD x.da) 2)],[],(by simp [zaI]),⟨rfl,rfl,rfl,(zby hm12),rfl,rfl,trivial⟩,trivial, ?_⟩
 refine zE (zA (zJ (zN (o_d 2 [(60,iv 18),(59,pv 4 0)] ?_))))
 obtain ⟨m13,hm13⟩: ∃z9,zeD l m12 x.ba 18 2=z9:=⟨_,rfl⟩
 have hm13l:m13.length=m12.length:=by rw [←hm13];first | exact zX _ _ _ _ | exact qW _ _ _ _ _ | exact zad _ _
 refine qT (zaH [4,0,3] [cr [zQ (some (o,c)) 1 l.length,zQ (some (0,l.length)) 2 l.length,bv x.ba],zG (some (o,c)) (u8 L) false,zG (some (0,l.length)) (u8 m12) true] [pv 0 0,iv 18,iv 2] (bodyC l m12 _ _ _ hr x.ba 18 2 om om om om) rfl rfl ⟨⟨_,rfl,.inl (⟨rfl,fun q=>by cases q⟩)⟩,⟨_,rfl,z4 (q:=some (o,c)) (q':=some (o,c)) (zH _) rfl (fun q=>q)⟩,⟨_,rfl,z4 (q:=some (0,l.length)) (q':=some (0,l.length)) (zH _) rfl (fun q=>rfl)⟩,trivial⟩ dC ?_)
 rintro v1 h1' ⟨rfl,rfl⟩
 refine ⟨za0 rfl,.tuple #[],[zG (some (o,c)) (u8 L) false,zG (zD x.op) (u8 x.op) true,zG (zD x.da) (u8 x.da) true,zG (some (0,l.length)) (u8 m13) true,cw [zQ (some (o,c)) 0 l.length,zQ (some (0,l.length)) 3 l.length,bv x.ba],cw (pkL x (zD x.op) 1 (zD x.da) 2)],[],(by simp [zaI]),⟨rfl,rfl,rfl,(zby hm13),rfl,rfl,trivial⟩,trivial, ?_⟩
 refine zE (zA (zJ (zN (o_d 1 [(62,pv 4 0)] ?_))))
 obtain ⟨m14,hm14⟩: ∃z9,zdx m13 x.ba=z9:=⟨_,rfl⟩
 have hm14l:m14.length=m13.length:=by rw [←hm14];first | exact zX _ _ _ _ | exact qW _ _ _ _ _ | exact zad _ _
 refine qT (zaH [4,0,3] [cr [zQ (some (o,c)) 1 l.length,zQ (some (0,l.length)) 2 l.length,bv x.ba],zG (some (o,c)) (u8 L) false,zG (some (0,l.length)) (u8 m13) true] [pv 0 0] (doneC l m13 _ _ _ hr x.ba om om om) rfl rfl ⟨⟨_,rfl,.inl (⟨rfl,fun q=>by cases q⟩)⟩,⟨_,rfl,z4 (q:=some (o,c)) (q':=some (o,c)) (zH _) rfl (fun q=>q)⟩,⟨_,rfl,z4 (q:=some (0,l.length)) (q':=some (0,l.length)) (zH _) rfl (fun q=>rfl)⟩,trivial⟩ dC ?_)
 rintro v1 h1' ⟨rfl,rfl⟩
 refine ⟨za0 rfl,zQ (some (0,l.length)) 3 l.length,[zG (some (o,c)) (u8 L) false,zG (zD x.op) (u8 x.op) true,zG (zD x.da) (u8 x.da) true,zG (some (0,l.length)) (u8 m14) true,cw [zQ (some (o,c)) 0 l.length,zQ (some (0,l.length)) 3 l.length,bv x.ba],cw (pkL x (zD x.op) 1 (zD x.da) 2)],[],rfl,⟨rfl,rfl,rfl,(zby hm14),rfl,rfl,trivial⟩,trivial, ?_⟩
 refine o_d 2 [(9,iv 0),(8,zQ (some (0,l.length)) 3 l.length)] (zE (zA (qV ?_)))
 have he:natL l x.ba source addr port=m14:=by simp only [natL,hm9,hm10,hm11,hm12,hm13,hm14,h2,if_false,Bool.false_eq_true]
 exact ⟨trivial,[zQ (some (0,l.length)) 3 l.length,iv 0],(zU rfl (zU rfl rfl)),(zK rfl (zK rfl z5)),⟨reg [],[zG (some (o,c)) (u8 L) false,zG (some (0,l.length)) (u8 m14) true]⟩,[0,3],[zQ (some (0,l.length)) 1 l.length,iv 0],WkR.of (rs:= []) rfl rfl dC trivial ⟨.inl (zF (zH _)),.inl (zF (zH _)),trivial⟩,rfl,rfl,(by rw [he])⟩
theorem Write2C {P:Program} [PrC P] (o c:Nat) (L l:List Int) (hr:RowOf (wz o c) L l) (x:Pk) (hp:qU l=(0,x)) (a:Nat) (y:Int) (hv:0≤y∧y < 65536) (ha:16≤a∧a+2≤l.length) (hs: ¬((a:Int) < zaj x.k+2∧(a:Int)+2 > zaj x.k)):
    Env P "roundhouse/wire.Write" [zQ (wz o c) 0 l.length,iv (a:Nat),iv 2,iv y] ((vS o c L)) (fun v h'=>v= .tuple (WN l 1)∧h'= [zG (wz o c) (u8 L) false,zG (wa l) (u8 (zcj l x.ba a 2 y)) true]):=by
 refine Env.by4 PrC.wire_Write ?_
 unfold ze1
 show GC _ 1 _ _ ⟨reg [(0,zQ (wz o c) 0 l.length),(1,iv (a:Nat)),(2,iv 2),(3,iv y)],(vS o c L)⟩
 have hl:=zcP hp
 have hx:=zfh hp
 refine zJ (zN (o_d 2 [(9,iv 0),(8,.slice none 0 0)] (zE (zA (zJ (zN (o_d 1 (vj 15 o c l) (qT (zaH [0] (vS o c L) [zQ (wz o c) 0 l.length] (beginC _ _ L l hr x hp) rfl rfl ⟨⟨_,rfl,z4 (zH _) rfl (fun q=>q)⟩,trivial⟩ dC ?_)))))))))
 rintro v1 h1' ⟨rfl,rfl⟩
 refine ⟨za0 rfl,.tuple (xw x),(vS o c L),(WD x l o c),(zhB rfl rfl rfl),⟨rfl,trivial⟩,⟨(Option.some.inj (zF (zH _))).symm,(Option.some.inj (zF (zH _))).symm,(Option.some.inj (zF (zH _))).symm,rfl,trivial⟩, ?_⟩
 refine o_b 8 (W5 12 10 11 19 18 x 17 14) (yU o c L x l) (zE (zA (zJ (zJ (zN (o_d 2 (vP 21 20) (zE (zA (zba rfl (qM (zA (zJ ?_))))))))))))
 refine zJ (zN (o_d 15 [(37,bv (decide (y < 0))),(36,bv (decide (y < 0))),(35,bv (decide (y < 0))),(34,iv y),(33,bv false),(32,bv false),(31,undef),(30,undef),(29,bv false),(28,bv false),(27,bv false),(26,iv 2),(25,bv true),(24,bv true),(23,iv 2)] (zbC (b:=decide (y < 0)) 37 rfl (fun q=>by rw [(by simp;omega:(decide (y < 0))=false)] at q;cases q) (fun k1=>?_))))
 refine o_d 3 [(40,iv 16),(39,iv 2),(38,iv y)] (z8 rfl (o_s (by refine zR (v:= .int .i64 (y.fdiv 65536)) (congrArg wh (zce dC)) ?_;kernel_rfl) ?_))
 refine o_d 3 [(44,bv ((y / 65536)!=0)),(43,bv ((y / 65536)!=0)),(42,bv ((y / 65536)!=0))] (zbC (b:=(y / 65536)!=0) 44 rfl (fun q=>by rw [(by simp;omega:((y / 65536)!=0)=false)] at q;cases q) (fun k2=>?_))
 refine o_d 4 [(48,bv (decide (((a:Nat):Int) < 16))),(47,bv (decide (((a:Nat):Int) < 16))),(46,bv (decide (((a:Nat):Int) < 16))),(45,iv (a:Nat))] (zbC (b:=decide (((a:Nat):Int) < 16)) 48 rfl (fun q=>by rw [(by simp;omega:(decide (((a:Nat):Int) < 16))=false)] at q;cases q) (fun k3=>?_))
 refine o_d 2 [(50,zQ (wz o c) 0 l.length),(49,iv (a:Nat))] (z8 rfl (o_s (by exact qO (q:=some (o,c)) (k:=0) (n:=l.length) rfl (fun q=>by cases q)) ?_))
 refine o_d 1 [(52,iv 2)] (z8 rfl (o_s (by refine zR (v:= .int .i64 (i64.wrap ((l.length:Nat) - 2))) (congrArg wh (w64 om om)) ?_;kernel_rfl) ?_))
 refine o_d 2 [(55,bv (decide (((a:Nat):Int) > (l.length:Nat) - 2))),(54,bv (decide (((a:Nat):Int) > (l.length:Nat) - 2)))] (zE (zT [(55,bv (decide (((a:Nat):Int) > (l.length:Nat) - 2))),(10,pv 4 0),(11,pv 5 0),(1,iv (a:Nat)),(2,iv 2),(3,iv y)] (qK (t:=decide (((a:Nat):Int) > (l.length:Nat) - 2)) rfl (fun q=>by rw [(by simp;omega:(decide (((a:Nat):Int) > (l.length:Nat) - 2))=false)] at q;cases q) (fun _=>?_))))
 refine qM (zA (ziX (fun s=> ∃(z:Nat),0=0∧(z=0)∧s=⟨reg [(10,pv 4 0),(1,iv (a:Nat)),(2,iv 2),(3,iv y)],(yU o c L x l)⟩) ?_ ?_))
 ·skip
  refine zJ (zN (o_d 1 [(56,pv 5 0)] (o_s (by refine zV (v:=iv x.k) rfl rfl ?_;exact rfl) ?_)))
  refine qT (zal (zhU x.k) rfl rfl rfl ?_)
  have hy4:=zfg x.k
  refine o_d 1 [(13,iv (zaj x.k))] (zE (zA (zJ (zN (o_d 2 [(60,iv (zaj x.k)),(59,iv (a:Nat))] (o_s (by refine zR (v:= .int .i64 (i64.wrap (zaj x.k+2))) (congrArg wh (w64 om om)) ?_;kernel_rfl) ?_))))))
  refine o_d 2 [(63,bv (decide (((a:Nat):Int) < zaj x.k+2))),(62,bv (decide (((a:Nat):Int) < zaj x.k+2)))] (zbC (b:=decide (((a:Nat):Int) < zaj x.k+2)) 63 rfl (fun h5=>?_) (fun h5=>?_))
  ·skip
   have h5':((a:Nat):Int) < zaj x.k+2:=of_decide_eq_true h5
   refine o_d 2 [(65,iv 2),(64,iv (a:Nat))] (z8 rfl (o_s (by refine zR (v:= .int .i64 (i64.wrap ((a:Nat)+2))) (congrArg wh (w64 om om)) ?_;kernel_rfl) ?_))
   refine o_d 3 [(69,bv (decide (((a:Nat)+2:Int) > zaj x.k))),(68,bv (decide (((a:Nat)+2:Int) > zaj x.k))),(67,iv (zaj x.k))] (zE (zA (qK (t:=decide (((a:Nat)+2:Int) > zaj x.k)) rfl (fun q=>by rw [(by simp;omega:(decide (((a:Nat)+2:Int) > zaj x.k))=false)] at q;cases q) (fun _=>?_))))
   refine qM (⟨⟨reg [(10,pv 4 0),(1,iv (a:Nat)),(2,iv 2),(3,iv y)],(yU o c L x l)⟩, ?_⟩)
   refine ⟨?_, ?_⟩
   ·exact Wk.ren [0,1,2,3,4,5] rfl rfl dC ⟨rfl,rfl,rfl,rfl,trivial⟩ ⟨.inl (zF (zH _)),.inl (zF (zH _)),.inl (zF (zH _)),.inl (zF (zH _)),.inl rfl,.inl (zcg rfl rfl),trivial⟩
   ·exact ⟨0,rfl,rfl,rfl⟩
  have h5': ¬(((a:Nat):Int) < zaj x.k+2):=of_decide_eq_false h5
  refine o_d 6 ((69,bv false)::(68,undef)::(y9 67 66 65 64)) (zE (zA (zba rfl (qM (⟨⟨reg [(10,pv 4 0),(1,iv (a:Nat)),(2,iv 2),(3,iv y)],(yU o c L x l)⟩, ?_⟩)))))
  refine ⟨?_, ?_⟩
  ·exact Wk.ren [0,1,2,3,4,5] rfl rfl dC ⟨rfl,rfl,rfl,rfl,trivial⟩ ⟨.inl (zF (zH _)),.inl (zF (zH _)),.inl (zF (zH _)),.inl (zF (zH _)),.inl rfl,.inl (zcg rfl rfl),trivial⟩
  ·exact ⟨0,rfl,rfl,rfl⟩
 rintro s ⟨z,-,hz,rfl⟩
 refine zJ (zN (o_d 7 ((76,iv y)::(75,iv 2)::(74,iv (a:Nat))::(yz 73 l 3 72 4 71 70)) ?_))
 obtain ⟨m6,hm6⟩: ∃z9,zbh l a 2 y=z9:=⟨_,rfl⟩
 have hm6l:m6.length=l.length:=by rw [←hm6,zX]
 refine qT (zaH [3] [zG (wa l) (u8 l) true] [zQ (wa l) 0 l.length,iv (a:Nat),iv 2,iv y] (putC (wa l) l l (RowOf.whole rfl (Nat.le_refl _)) a 2 y om om om) rfl rfl ⟨⟨_,rfl,z4 (zH _) rfl (fun q=>rfl)⟩,trivial⟩ dC ?_)
 rintro v1 h1' ⟨rfl,rfl⟩
 refine ⟨(fun i q=>zcv q),.tuple #[],(va o c L x l m6),[],(by simp [zaI]),⟨rfl,rfl,rfl,(zcs hm6),rfl,rfl,trivial⟩,trivial, ?_⟩
 refine zE (zA (zJ (zN (o_d 3 [(80,iv 2),(79,iv (a:Nat)),(78,pv 4 0)] ?_))))
 obtain ⟨m7,hm7⟩: ∃z9,zeD l m6 x.ba a 2=z9:=⟨_,rfl⟩
 have hm7l:m7.length=m6.length:=by rw [←hm7];first | exact zX _ _ _ _ | exact qW _ _ _ _ _ | exact zad _ _
 refine qT (zaH [4,0,3] (xf o c l x L m6) [pv 0 0,iv (a:Nat),iv 2] (bodyC l m6 _ _ _ hr x.ba a 2 om om om om) rfl rfl ⟨⟨_,rfl,.inl (⟨rfl,fun q=>by cases q⟩)⟩,⟨_,rfl,z4 (q:=some (o,c)) (q':=some (o,c)) (zH _) rfl (fun q=>q)⟩,⟨_,rfl,z4 (q:=some (0,l.length)) (q':=some (0,l.length)) (zH _) rfl (fun q=>rfl)⟩,trivial⟩ dC ?_)
 rintro v1 h1' ⟨rfl,rfl⟩
 refine ⟨za0 rfl,.tuple #[],(va o c L x l m7),[],(by simp [zaI]),⟨rfl,rfl,rfl,(zby hm7),rfl,rfl,trivial⟩,trivial, ?_⟩
 refine zE (zA (zJ (zN (o_d 1 [(82,pv 4 0)] ?_))))
 obtain ⟨m8,hm8⟩: ∃z9,zdx m7 x.ba=z9:=⟨_,rfl⟩
 have hm8l:m8.length=m7.length:=by rw [←hm8];first | exact zX _ _ _ _ | exact qW _ _ _ _ _ | exact zad _ _
 refine qT (zaH [4,0,3] (xf o c l x L m7) [pv 0 0] (doneC l m7 _ _ _ hr x.ba om om om) rfl rfl ⟨⟨_,rfl,.inl (⟨rfl,fun q=>by cases q⟩)⟩,⟨_,rfl,z4 (q:=some (o,c)) (q':=some (o,c)) (zH _) rfl (fun q=>q)⟩,⟨_,rfl,z4 (q:=some (0,l.length)) (q':=some (0,l.length)) (zH _) rfl (fun q=>rfl)⟩,trivial⟩ dC ?_)
 rintro v1 h1' ⟨rfl,rfl⟩
 refine ⟨za0 rfl,zQ (wa l) 3 l.length,(va o c L x l m8),[],rfl,⟨rfl,rfl,rfl,(zby hm8),rfl,rfl,trivial⟩,trivial, ?_⟩
 refine o_d 2 (Wy 9 8 l 3) (zE (zA (qV ?_)))
 have he:zcj l x.ba a 2 y=m8:=by simp only [zcj,hm6,hm7,hm8]
 exact ⟨trivial,[zQ (wa l) 3 l.length,iv 0],(zU rfl (zU rfl rfl)),(zK rfl (zK rfl z5)),⟨reg [],[zG (wz o c) (u8 L) false,zG (wa l) (u8 m8) true]⟩,[0,3],[zQ (wa l) 1 l.length,iv 0],WkR.of (rs:= []) rfl rfl dC trivial ⟨.inl (zF (zH _)),.inl (zF (zH _)),trivial⟩,rfl,rfl,(by rw [he])⟩
theorem Write4C {P:Program} [PrC P] (o c:Nat) (L l:List Int) (hr:RowOf (wz o c) L l) (x:Pk) (hp:qU l=(0,x)) (a:Nat) (y:Int) (hv:0≤y∧y < 4294967296) (ha:16≤a∧a+4≤l.length) (hs: ¬((a:Int) < zaj x.k+2∧(a:Int)+4 > zaj x.k)):
    Env P "roundhouse/wire.Write" [zQ (wz o c) 0 l.length,iv (a:Nat),iv 4,iv y] ((vS o c L)) (fun v h'=>v= .tuple (WN l 1)∧h'= [zG (wz o c) (u8 L) false,zG (wa l) (u8 (zcj l x.ba a 4 y)) true]):=by
 refine Env.by4 PrC.wire_Write ?_
 unfold ze1
 show GC _ 1 _ _ ⟨reg [(0,zQ (wz o c) 0 l.length),(1,iv (a:Nat)),(2,iv 4),(3,iv y)],(vS o c L)⟩
 have hl:=zcP hp
 have hx:=zfh hp
 refine zJ (zN (o_d 2 [(9,iv 0),(8,.slice none 0 0)] (zE (zA (zJ (zN (o_d 1 (vj 15 o c l) (qT (zaH [0] (vS o c L) [zQ (wz o c) 0 l.length] (beginC _ _ L l hr x hp) rfl rfl ⟨⟨_,rfl,z4 (zH _) rfl (fun q=>q)⟩,trivial⟩ dC ?_)))))))))
 rintro v1 h1' ⟨rfl,rfl⟩
 refine ⟨za0 rfl,.tuple (xw x),(vS o c L),(WD x l o c),(zhB rfl rfl rfl),⟨rfl,trivial⟩,⟨(Option.some.inj (zF (zH _))).symm,(Option.some.inj (zF (zH _))).symm,(Option.some.inj (zF (zH _))).symm,rfl,trivial⟩, ?_⟩
 refine o_b 8 (W5 12 10 11 19 18 x 17 14) (yU o c L x l) (zE (zA (zJ (zJ (zN (o_d 2 (vP 21 20) (zE (zA (zba rfl (qM (zA (zJ ?_))))))))))))
 refine zJ (zN (o_d 15 [(37,bv (decide (y < 0))),(36,bv (decide (y < 0))),(35,bv (decide (y < 0))),(34,iv y),(33,bv false),(32,bv false),(31,bv false),(30,iv 4),(29,bv true),(28,bv true),(27,bv true),(26,iv 4),(25,bv true),(24,bv true),(23,iv 4)] (zbC (b:=decide (y < 0)) 37 rfl (fun q=>by rw [(by simp;omega:(decide (y < 0))=false)] at q;cases q) (fun k1=>?_))))
 refine o_d 3 [(40,iv 32),(39,iv 4),(38,iv y)] (z8 rfl (o_s (by refine zR (v:= .int .i64 (y.fdiv 4294967296)) (congrArg wh (zce dC)) ?_;kernel_rfl) ?_))
 refine o_d 3 [(44,bv ((y / 4294967296)!=0)),(43,bv ((y / 4294967296)!=0)),(42,bv ((y / 4294967296)!=0))] (zbC (b:=(y / 4294967296)!=0) 44 rfl (fun q=>by rw [(by simp;omega:((y / 4294967296)!=0)=false)] at q;cases q) (fun k2=>?_))
 refine o_d 4 [(48,bv (decide (((a:Nat):Int) < 16))),(47,bv (decide (((a:Nat):Int) < 16))),(46,bv (decide (((a:Nat):Int) < 16))),(45,iv (a:Nat))] (zbC (b:=decide (((a:Nat):Int) < 16)) 48 rfl (fun q=>by rw [(by simp;omega:(decide (((a:Nat):Int) < 16))=false)] at q;cases q) (fun k3=>?_))
 refine o_d 2 [(50,zQ (wz o c) 0 l.length),(49,iv (a:Nat))] (z8 rfl (o_s (by exact qO (q:=some (o,c)) (k:=0) (n:=l.length) rfl (fun q=>by cases q)) ?_))
 refine o_d 1 [(52,iv 4)] (z8 rfl (o_s (by refine zR (v:= .int .i64 (i64.wrap ((l.length:Nat) - 4))) (congrArg wh (w64 om om)) ?_;kernel_rfl) ?_))
 refine o_d 2 [(55,bv (decide (((a:Nat):Int) > (l.length:Nat) - 4))),(54,bv (decide (((a:Nat):Int) > (l.length:Nat) - 4)))] (zE (zT [(55,bv (decide (((a:Nat):Int) > (l.length:Nat) - 4))),(10,pv 4 0),(11,pv 5 0),(1,iv (a:Nat)),(2,iv 4),(3,iv y)] (qK (t:=decide (((a:Nat):Int) > (l.length:Nat) - 4)) rfl (fun q=>by rw [(by simp;omega:(decide (((a:Nat):Int) > (l.length:Nat) - 4))=false)] at q;cases q) (fun _=>?_))))
 refine qM (zA (ziX (fun s=> ∃(z:Nat),0=0∧(z=0)∧s=⟨reg [(10,pv 4 0),(1,iv (a:Nat)),(2,iv 4),(3,iv y)],(yU o c L x l)⟩) ?_ ?_))
 ·skip
  refine zJ (zN (o_d 1 [(56,pv 5 0)] (o_s (by refine zV (v:=iv x.k) rfl rfl ?_;exact rfl) ?_)))
  refine qT (zal (zhU x.k) rfl rfl rfl ?_)
  have hy4:=zfg x.k
  refine o_d 1 [(13,iv (zaj x.k))] (zE (zA (zJ (zN (o_d 2 [(60,iv (zaj x.k)),(59,iv (a:Nat))] (o_s (by refine zR (v:= .int .i64 (i64.wrap (zaj x.k+2))) (congrArg wh (w64 om om)) ?_;kernel_rfl) ?_))))))
  refine o_d 2 [(63,bv (decide (((a:Nat):Int) < zaj x.k+2))),(62,bv (decide (((a:Nat):Int) < zaj x.k+2)))] (zbC (b:=decide (((a:Nat):Int) < zaj x.k+2)) 63 rfl (fun h5=>?_) (fun h5=>?_))
  ·skip
   have h5':((a:Nat):Int) < zaj x.k+2:=of_decide_eq_true h5
   refine o_d 2 [(65,iv 4),(64,iv (a:Nat))] (z8 rfl (o_s (by refine zR (v:= .int .i64 (i64.wrap ((a:Nat)+4))) (congrArg wh (w64 om om)) ?_;kernel_rfl) ?_))
   refine o_d 3 [(69,bv (decide (((a:Nat)+4:Int) > zaj x.k))),(68,bv (decide (((a:Nat)+4:Int) > zaj x.k))),(67,iv (zaj x.k))] (zE (zA (qK (t:=decide (((a:Nat)+4:Int) > zaj x.k)) rfl (fun q=>by rw [(by simp;omega:(decide (((a:Nat)+4:Int) > zaj x.k))=false)] at q;cases q) (fun _=>?_))))
   refine qM (⟨⟨reg [(10,pv 4 0),(1,iv (a:Nat)),(2,iv 4),(3,iv y)],(yU o c L x l)⟩, ?_⟩)
   refine ⟨?_, ?_⟩
   ·exact Wk.ren [0,1,2,3,4,5] rfl rfl dC ⟨rfl,rfl,rfl,rfl,trivial⟩ ⟨.inl (zF (zH _)),.inl (zF (zH _)),.inl (zF (zH _)),.inl (zF (zH _)),.inl rfl,.inl (zcg rfl rfl),trivial⟩
   ·exact ⟨0,rfl,rfl,rfl⟩
  have h5': ¬(((a:Nat):Int) < zaj x.k+2):=of_decide_eq_false h5
  refine o_d 6 ((69,bv false)::(68,undef)::(y9 67 66 65 64)) (zE (zA (zba rfl (qM (⟨⟨reg [(10,pv 4 0),(1,iv (a:Nat)),(2,iv 4),(3,iv y)],(yU o c L x l)⟩, ?_⟩)))))
  refine ⟨?_, ?_⟩
  ·exact Wk.ren [0,1,2,3,4,5] rfl rfl dC ⟨rfl,rfl,rfl,rfl,trivial⟩ ⟨.inl (zF (zH _)),.inl (zF (zH _)),.inl (zF (zH _)),.inl (zF (zH _)),.inl rfl,.inl (zcg rfl rfl),trivial⟩
  ·exact ⟨0,rfl,rfl,rfl⟩
 rintro s ⟨z,-,hz,rfl⟩
 refine zJ (zN (o_d 7 ((76,iv y)::(75,iv 4)::(74,iv (a:Nat))::(yz 73 l 3 72 4 71 70)) ?_))
 obtain ⟨m6,hm6⟩: ∃z9,zbh l a 4 y=z9:=⟨_,rfl⟩
 have hm6l:m6.length=l.length:=by rw [←hm6,zX]
 refine qT (zaH [3] [zG (wa l) (u8 l) true] [zQ (wa l) 0 l.length,iv (a:Nat),iv 4,iv y] (putC (wa l) l l (RowOf.whole rfl (Nat.le_refl _)) a 4 y om om om) rfl rfl ⟨⟨_,rfl,z4 (zH _) rfl (fun q=>rfl)⟩,trivial⟩ dC ?_)
 rintro v1 h1' ⟨rfl,rfl⟩
 refine ⟨(fun i q=>zcv q),.tuple #[],(va o c L x l m6),[],(by simp [zaI]),⟨rfl,rfl,rfl,(zcs hm6),rfl,rfl,trivial⟩,trivial, ?_⟩
 refine zE (zA (zJ (zN (o_d 3 [(80,iv 4),(79,iv (a:Nat)),(78,pv 4 0)] ?_))))
 obtain ⟨m7,hm7⟩: ∃z9,zeD l m6 x.ba a 4=z9:=⟨_,rfl⟩
 have hm7l:m7.length=m6.length:=by rw [←hm7];first | exact zX _ _ _ _ | exact qW _ _ _ _ _ | exact zad _ _
 refine qT (zaH [4,0,3] (xf o c l x L m6) [pv 0 0,iv (a:Nat),iv 4] (bodyC l m6 _ _ _ hr x.ba a 4 om om om om) rfl rfl ⟨⟨_,rfl,.inl (⟨rfl,fun q=>by cases q⟩)⟩,⟨_,rfl,z4 (q:=some (o,c)) (q':=some (o,c)) (zH _) rfl (fun q=>q)⟩,⟨_,rfl,z4 (q:=some (0,l.length)) (q':=some (0,l.length)) (zH _) rfl (fun q=>rfl)⟩,trivial⟩ dC ?_)
 rintro v1 h1' ⟨rfl,rfl⟩
 refine ⟨za0 rfl,.tuple #[],(va o c L x l m7),[],(by simp [zaI]),⟨rfl,rfl,rfl,(zby hm7),rfl,rfl,trivial⟩,trivial, ?_⟩
 refine zE (zA (zJ (zN (o_d 1 [(82,pv 4 0)] ?_))))
 obtain ⟨m8,hm8⟩: ∃z9,zdx m7 x.ba=z9:=⟨_,rfl⟩
 have hm8l:m8.length=m7.length:=by rw [←hm8];first | exact zX _ _ _ _ | exact qW _ _ _ _ _ | exact zad _ _
 refine qT (zaH [4,0,3] (xf o c l x L m7) [pv 0 0] (doneC l m7 _ _ _ hr x.ba om om om) rfl rfl ⟨⟨_,rfl,.inl (⟨rfl,fun q=>by cases q⟩)⟩,⟨_,rfl,z4 (q:=some (o,c)) (q':=some (o,c)) (zH _) rfl (fun q=>q)⟩,⟨_,rfl,z4 (q:=some (0,l.length)) (q':=some (0,l.length)) (zH _) rfl (fun q=>rfl)⟩,trivial⟩ dC ?_)
 rintro v1 h1' ⟨rfl,rfl⟩
 refine ⟨za0 rfl,zQ (wa l) 3 l.length,(va o c L x l m8),[],rfl,⟨rfl,rfl,rfl,(zby hm8),rfl,rfl,trivial⟩,trivial, ?_⟩
 refine o_d 2 (Wy 9 8 l 3) (zE (zA (qV ?_)))
 have he:zcj l x.ba a 4 y=m8:=by simp only [zcj,hm6,hm7,hm8]
 exact ⟨trivial,[zQ (wa l) 3 l.length,iv 0],(zU rfl (zU rfl rfl)),(zK rfl (zK rfl z5)),⟨reg [],[zG (wz o c) (u8 L) false,zG (wa l) (u8 m8) true]⟩,[0,3],[zQ (wa l) 1 l.length,iv 0],WkR.of (rs:= []) rfl rfl dC trivial ⟨.inl (zF (zH _)),.inl (zF (zH _)),trivial⟩,rfl,rfl,(by rw [he])⟩
end Go.Rh

set_option maxHeartbeats 8000000
namespace Go.Rh
def xo (a b:Int):Int:=IntKind.u64.wrap ((BitVec.ofInt 64 a^^^BitVec.ofInt 64 b).toNat)
def ad (a b:Int):Int:=IntKind.u64.wrap (a+b)
def oo (a b:Int):Int:=IntKind.u64.wrap ((BitVec.ofInt 64 a ||| BitVec.ofInt 64 b).toNat)
def sl (a b:Int):Int:=IntKind.u64.wrap (a*2^(min b.toNat 64))
def zcW (R Q x:Int):Int:=IntKind.u64.wrap ((BitVec.ofInt 64 (IntKind.u64.wrap (x*R)) ||| BitVec.ofInt 64 (x.fdiv Q)).toNat)
structure Q4 where
  (a b c d:Int)
def q4L (q:Q4):List Value:= [uv q.a,uv q.b,uv q.c,uv q.d]
def rs1 (q:Q4):Q4:=⟨ad q.a q.b,q.b,q.c,q.d⟩
def rs2 (q:Q4):Q4:=let x:=rs1 q;⟨x.a,xo (zcW 8192 2251799813685248 x.b) x.a,x.c,x.d⟩
def rs3 (q:Q4):Q4:=let x:=rs2 q;⟨zcW 4294967296 4294967296 x.a,x.b,x.c,x.d⟩
def rs4 (q:Q4):Q4:=let x:=rs3 q;⟨x.a,x.b,ad x.c x.d,x.d⟩
def rs5 (q:Q4):Q4:=let x:=rs4 q;⟨x.a,x.b,x.c,xo (zcW 65536 281474976710656 x.d) x.c⟩
def rs6 (q:Q4):Q4:=let x:=rs5 q;⟨ad x.a x.d,x.b,x.c,x.d⟩
def rs7 (q:Q4):Q4:=let x:=rs6 q;⟨x.a,x.b,x.c,xo (zcW 2097152 8796093022208 x.d) x.a⟩
def rs8 (q:Q4):Q4:=let x:=rs7 q;⟨x.a,x.b,ad x.c x.b,x.d⟩
def rs9 (q:Q4):Q4:=let x:=rs8 q;⟨x.a,xo (zcW 131072 140737488355328 x.b) x.c,x.c,x.d⟩
def rs10 (q:Q4):Q4:=let x:=rs9 q;⟨x.a,x.b,zcW 4294967296 4294967296 x.c,x.d⟩
abbrev Ya a:=[(5,uv a),(8,uv a),(7,uv a),(6,iv a)]
theorem rot13C {P:Program} [PrC P] (x:Int):
    Env P "math/bits.RotateLeft64" [uv x,iv 13] ([]) (Ans (uv (zcW 8192 2251799813685248 x)) ([])):=by
 refine Env.by PrC.math_bits_RotateLeft64 ?_
 unfold zaw
 show GC _ 0 _ _ ⟨reg [(0,uv x),(1,iv 13)],[]⟩
 refine zJ (zN (o_d 1 [(4,uv 0)] (zE (zA (zJ (zN (o_d 4 (Ya 13) (zE (zA (zJ (zN (o_d 9 [(4,uv (IntKind.u64.wrap ((BitVec.ofInt 64 (IntKind.u64.wrap (x*8192)) ||| BitVec.ofInt 64 (x.fdiv 2251799813685248)).toNat))),(16,uv (IntKind.u64.wrap ((BitVec.ofInt 64 (IntKind.u64.wrap (x*8192)) ||| BitVec.ofInt 64 (x.fdiv 2251799813685248)).toNat))),(15,uv (x.fdiv 2251799813685248)),(14,uv 51),(13,uv 13),(12,uv x),(11,uv (IntKind.u64.wrap (x*8192))),(10,uv 13),(9,uv x)] ?_))))))))))))
 refine zE (zA (qV ?_))
 have E0_:zcW 8192 2251799813685248 x=IntKind.u64.wrap ((BitVec.ofInt 64 (IntKind.u64.wrap (x*8192)) ||| BitVec.ofInt 64 (x.fdiv 2251799813685248)).toNat):=by
  rfl
 exact qC [uv (IntKind.u64.wrap ((BitVec.ofInt 64 (IntKind.u64.wrap (x*8192)) ||| BitVec.ofInt 64 (x.fdiv 2251799813685248)).toNat))] (zU rfl rfl) rfl (by rw [E0_];rfl) rfl rfl
theorem rot32C {P:Program} [PrC P] (x:Int):
    Env P "math/bits.RotateLeft64" [uv x,iv 32] ([]) (Ans (uv (zcW 4294967296 4294967296 x)) ([])):=by
 refine Env.by PrC.math_bits_RotateLeft64 ?_
 unfold zaw
 show GC _ 0 _ _ ⟨reg [(0,uv x),(1,iv 32)],[]⟩
 refine zJ (zN (o_d 1 [(4,uv 0)] (zE (zA (zJ (zN (o_d 4 (Ya 32) (zE (zA (zJ (zN (o_d 9 [(4,uv (IntKind.u64.wrap ((BitVec.ofInt 64 (IntKind.u64.wrap (x*4294967296)) ||| BitVec.ofInt 64 (x.fdiv 4294967296)).toNat))),(16,uv (IntKind.u64.wrap ((BitVec.ofInt 64 (IntKind.u64.wrap (x*4294967296)) ||| BitVec.ofInt 64 (x.fdiv 4294967296)).toNat))),(15,uv (x.fdiv 4294967296)),(14,uv 32),(13,uv 32),(12,uv x),(11,uv (IntKind.u64.wrap (x*4294967296))),(10,uv 32),(9,uv x)] ?_))))))))))))
 refine zE (zA (qV ?_))
 have E0_:zcW 4294967296 4294967296 x=IntKind.u64.wrap ((BitVec.ofInt 64 (IntKind.u64.wrap (x*4294967296)) ||| BitVec.ofInt 64 (x.fdiv 4294967296)).toNat):=by
  rfl
 exact qC [uv (IntKind.u64.wrap ((BitVec.ofInt 64 (IntKind.u64.wrap (x*4294967296)) ||| BitVec.ofInt 64 (x.fdiv 4294967296)).toNat))] (zU rfl rfl) rfl (by rw [E0_];rfl) rfl rfl
theorem rot16C {P:Program} [PrC P] (x:Int):
    Env P "math/bits.RotateLeft64" [uv x,iv 16] ([]) (Ans (uv (zcW 65536 281474976710656 x)) ([])):=by
 refine Env.by PrC.math_bits_RotateLeft64 ?_
 unfold zaw
 show GC _ 0 _ _ ⟨reg [(0,uv x),(1,iv 16)],[]⟩
 refine zJ (zN (o_d 1 [(4,uv 0)] (zE (zA (zJ (zN (o_d 4 (Ya 16) (zE (zA (zJ (zN (o_d 9 [(4,uv (IntKind.u64.wrap ((BitVec.ofInt 64 (IntKind.u64.wrap (x*65536)) ||| BitVec.ofInt 64 (x.fdiv 281474976710656)).toNat))),(16,uv (IntKind.u64.wrap ((BitVec.ofInt 64 (IntKind.u64.wrap (x*65536)) ||| BitVec.ofInt 64 (x.fdiv 281474976710656)).toNat))),(15,uv (x.fdiv 281474976710656)),(14,uv 48),(13,uv 16),(12,uv x),(11,uv (IntKind.u64.wrap (x*65536))),(10,uv 16),(9,uv x)] ?_))))))))))))
 refine zE (zA (qV ?_))
 have E0_:zcW 65536 281474976710656 x=IntKind.u64.wrap ((BitVec.ofInt 64 (IntKind.u64.wrap (x*65536)) ||| BitVec.ofInt 64 (x.fdiv 281474976710656)).toNat):=by
  rfl
 exact qC [uv (IntKind.u64.wrap ((BitVec.ofInt 64 (IntKind.u64.wrap (x*65536)) ||| BitVec.ofInt 64 (x.fdiv 281474976710656)).toNat))] (zU rfl rfl) rfl (by rw [E0_];rfl) rfl rfl
theorem rot21C {P:Program} [PrC P] (x:Int):
    Env P "math/bits.RotateLeft64" [uv x,iv 21] ([]) (Ans (uv (zcW 2097152 8796093022208 x)) ([])):=by
 refine Env.by PrC.math_bits_RotateLeft64 ?_
 unfold zaw
 show GC _ 0 _ _ ⟨reg [(0,uv x),(1,iv 21)],[]⟩
 refine zJ (zN (o_d 1 [(4,uv 0)] (zE (zA (zJ (zN (o_d 4 (Ya 21) (zE (zA (zJ (zN (o_d 9 [(4,uv (IntKind.u64.wrap ((BitVec.ofInt 64 (IntKind.u64.wrap (x*2097152)) ||| BitVec.ofInt 64 (x.fdiv 8796093022208)).toNat))),(16,uv (IntKind.u64.wrap ((BitVec.ofInt 64 (IntKind.u64.wrap (x*2097152)) ||| BitVec.ofInt 64 (x.fdiv 8796093022208)).toNat))),(15,uv (x.fdiv 8796093022208)),(14,uv 43),(13,uv 21),(12,uv x),(11,uv (IntKind.u64.wrap (x*2097152))),(10,uv 21),(9,uv x)] ?_))))))))))))
 refine zE (zA (qV ?_))
 have E0_:zcW 2097152 8796093022208 x=IntKind.u64.wrap ((BitVec.ofInt 64 (IntKind.u64.wrap (x*2097152)) ||| BitVec.ofInt 64 (x.fdiv 8796093022208)).toNat):=by
  rfl
 exact qC [uv (IntKind.u64.wrap ((BitVec.ofInt 64 (IntKind.u64.wrap (x*2097152)) ||| BitVec.ofInt 64 (x.fdiv 8796093022208)).toNat))] (zU rfl rfl) rfl (by rw [E0_];rfl) rfl rfl
theorem rot17C {P:Program} [PrC P] (x:Int):
    Env P "math/bits.RotateLeft64" [uv x,iv 17] ([]) (Ans (uv (zcW 131072 140737488355328 x)) ([])):=by
 refine Env.by PrC.math_bits_RotateLeft64 ?_
 unfold zaw
 show GC _ 0 _ _ ⟨reg [(0,uv x),(1,iv 17)],[]⟩
 refine zJ (zN (o_d 1 [(4,uv 0)] (zE (zA (zJ (zN (o_d 4 (Ya 17) (zE (zA (zJ (zN (o_d 9 [(4,uv (IntKind.u64.wrap ((BitVec.ofInt 64 (IntKind.u64.wrap (x*131072)) ||| BitVec.ofInt 64 (x.fdiv 140737488355328)).toNat))),(16,uv (IntKind.u64.wrap ((BitVec.ofInt 64 (IntKind.u64.wrap (x*131072)) ||| BitVec.ofInt 64 (x.fdiv 140737488355328)).toNat))),(15,uv (x.fdiv 140737488355328)),(14,uv 47),(13,uv 17),(12,uv x),(11,uv (IntKind.u64.wrap (x*131072))),(10,uv 17),(9,uv x)] ?_))))))))))))
 refine zE (zA (qV ?_))
 have E0_:zcW 131072 140737488355328 x=IntKind.u64.wrap ((BitVec.ofInt 64 (IntKind.u64.wrap (x*131072)) ||| BitVec.ofInt 64 (x.fdiv 140737488355328)).toNat):=by
  rfl
 exact qC [uv (IntKind.u64.wrap ((BitVec.ofInt 64 (IntKind.u64.wrap (x*131072)) ||| BitVec.ofInt 64 (x.fdiv 140737488355328)).toNat))] (zU rfl rfl) rfl (by rw [E0_];rfl) rfl rfl
abbrev Wu:=["math/bits.RotateLeft64"]
theorem roundC {P:Program} [PrC P] (q:Q4):
    Env P "(*roundhouse/sip.state).round" [pv 0 0] ([cw [uv q.a,uv q.b,uv q.c,uv q.d]]) (fun v h'=>v= .tuple #[]∧h'= [cw (q4L (rs10 q))]):=by
 refine Env.by2 PrC.sip_state_round ?_
 unfold zd7
 show GC _ 1 _ _ ⟨reg xK,[cw [uv q.a,uv q.b,uv q.c,uv q.d]]⟩
 refine ziX (fun s=> ∃(x:Q4),0=0∧(x=rs1 q)∧s=⟨reg xK,[cw [uv x.a,uv x.b,uv x.c,uv x.d]]⟩) ?_ ?_
 ·skip
  refine zbF Wu (r_b 12 [(12,pv 0 0),(11,pv 0 0),(10,uv (ad q.a q.b)),(9,uv q.b),(8,pv 0 1),(7,pv 0 0),(6,pv 0 0),(5,uv q.a),(4,pv 0 0),(3,pv 0 0),(2,pv 0 0)] [cw [uv (ad q.a q.b),uv q.b,uv q.c,uv q.d]] (zbk (⟨⟨reg xK,[cw [uv (Q4.mk (ad q.a q.b) q.b q.c q.d).a,uv (Q4.mk (ad q.a q.b) q.b q.c q.d).b,uv (Q4.mk (ad q.a q.b) q.b q.c q.d).c,uv (Q4.mk (ad q.a q.b) q.b q.c q.d).d]]⟩, ?_⟩)))
  refine ⟨?_, ?_⟩
  ·exact Wk.ren [0] rfl rfl dC ⟨rfl,trivial⟩ ⟨.inl rfl,trivial⟩
  ·exact ⟨(Q4.mk (ad q.a q.b) q.b q.c q.d),rfl,rfl,rfl⟩
 rintro s ⟨x,-,hx,rfl⟩
 refine ziX (fun s=> ∃(x:Q4),0=0∧(x=rs2 q)∧s=⟨reg xK,[cw [uv x.a,uv x.b,uv x.c,uv x.d]]⟩) ?_ ?_
 ·skip
  refine zbF Wu (r_d 5 ((17,uv x.b)::(wM 16 0 1 15 0 14 0 13 0)) (zfv (zbH (rot13C x.b) rfl rfl rfl (r_b 8 [(25,pv 0 1),(24,pv 0 0),(23,uv (xo (zcW 8192 2251799813685248 x.b) x.a)),(22,uv x.a),(21,pv 0 0),(20,pv 0 0),(19,pv 0 0)] [cw [uv x.a,uv (xo (zcW 8192 2251799813685248 x.b) x.a),uv x.c,uv x.d]] (zbk (⟨⟨reg xK,[cw [uv (Q4.mk x.a (xo (zcW 8192 2251799813685248 x.b) x.a) x.c x.d).a,uv (Q4.mk x.a (xo (zcW 8192 2251799813685248 x.b) x.a) x.c x.d).b,uv (Q4.mk x.a (xo (zcW 8192 2251799813685248 x.b) x.a) x.c x.d).c,uv (Q4.mk x.a (xo (zcW 8192 2251799813685248 x.b) x.a) x.c x.d).d]]⟩, ?_⟩))))))
  refine ⟨?_, ?_⟩
  ·exact Wk.ren [0] rfl rfl dC ⟨rfl,trivial⟩ ⟨.inl rfl,trivial⟩
  ·exact ⟨(Q4.mk x.a (xo (zcW 8192 2251799813685248 x.b) x.a) x.c x.d),rfl,(by rw [hx];rfl),rfl⟩
 rintro s ⟨x,-,hx,rfl⟩
 refine ziX (fun s=> ∃(x:Q4),0=0∧(x=rs3 q)∧s=⟨reg xK,[cw [uv x.a,uv x.b,uv x.c,uv x.d]]⟩) ?_ ?_
 ·skip
  refine zN (o_d 5 ((30,uv x.a)::(wM 29 0 0 28 0 27 0 26 0)) (qT (zal (rot32C x.a) rfl rfl rfl (o_b 3 [(33,pv 0 0),(32,pv 0 0)] [cw [uv (zcW 4294967296 4294967296 x.a),uv x.b,uv x.c,uv x.d]] (zE (⟨⟨reg xK,[cw [uv (Q4.mk (zcW 4294967296 4294967296 x.a) x.b x.c x.d).a,uv (Q4.mk (zcW 4294967296 4294967296 x.a) x.b x.c x.d).b,uv (Q4.mk (zcW 4294967296 4294967296 x.a) x.b x.c x.d).c,uv (Q4.mk (zcW 4294967296 4294967296 x.a) x.b x.c x.d).d]]⟩, ?_⟩))))))
  refine ⟨?_, ?_⟩
  ·exact Wk.ren [0] rfl rfl dC ⟨rfl,trivial⟩ ⟨.inl rfl,trivial⟩
  ·exact ⟨(Q4.mk (zcW 4294967296 4294967296 x.a) x.b x.c x.d),rfl,(by rw [hx];rfl),rfl⟩
 rintro s ⟨x,-,hx,rfl⟩
 refine ziX (fun s=> ∃(x:Q4),0=0∧(x=rs4 q)∧s=⟨reg xK,[cw [uv x.a,uv x.b,uv x.c,uv x.d]]⟩) ?_ ?_
 ·skip
  refine zbF Wu (r_b 12 [(44,pv 0 2),(43,pv 0 0),(42,uv (ad x.c x.d)),(41,uv x.d),(40,pv 0 3),(39,pv 0 0),(38,pv 0 0),(37,uv x.c),(36,pv 0 2),(35,pv 0 0),(34,pv 0 0)] [cw [uv x.a,uv x.b,uv (ad x.c x.d),uv x.d]] (zbk (⟨⟨reg xK,[cw [uv (Q4.mk x.a x.b (ad x.c x.d) x.d).a,uv (Q4.mk x.a x.b (ad x.c x.d) x.d).b,uv (Q4.mk x.a x.b (ad x.c x.d) x.d).c,uv (Q4.mk x.a x.b (ad x.c x.d) x.d).d]]⟩, ?_⟩)))
  refine ⟨?_, ?_⟩
  ·exact Wk.ren [0] rfl rfl dC ⟨rfl,trivial⟩ ⟨.inl rfl,trivial⟩
  ·exact ⟨(Q4.mk x.a x.b (ad x.c x.d) x.d),rfl,(by rw [hx];rfl),rfl⟩
 rintro s ⟨x,-,hx,rfl⟩
 refine ziX (fun s=> ∃(x:Q4),0=0∧(x=rs5 q)∧s=⟨reg xK,[cw [uv x.a,uv x.b,uv x.c,uv x.d]]⟩) ?_ ?_
 ·skip
  refine zbF Wu (r_d 5 ((49,uv x.d)::(wM 48 0 3 47 0 46 0 45 0)) (zfv (zbH (rot16C x.d) rfl rfl rfl (r_b 8 [(57,pv 0 3),(56,pv 0 0),(55,uv (xo (zcW 65536 281474976710656 x.d) x.c)),(54,uv x.c),(53,pv 0 2),(52,pv 0 0),(51,pv 0 0)] [cw [uv x.a,uv x.b,uv x.c,uv (xo (zcW 65536 281474976710656 x.d) x.c)]] (zbk (⟨⟨reg xK,[cw [uv (Q4.mk x.a x.b x.c (xo (zcW 65536 281474976710656 x.d) x.c)).a,uv (Q4.mk x.a x.b x.c (xo (zcW 65536 281474976710656 x.d) x.c)).b,uv (Q4.mk x.a x.b x.c (xo (zcW 65536 281474976710656 x.d) x.c)).c,uv (Q4.mk x.a x.b x.c (xo (zcW 65536 281474976710656 x.d) x.c)).d]]⟩, ?_⟩))))))
  refine ⟨?_, ?_⟩
  ·exact Wk.ren [0] rfl rfl dC ⟨rfl,trivial⟩ ⟨.inl rfl,trivial⟩
  ·exact ⟨(Q4.mk x.a x.b x.c (xo (zcW 65536 281474976710656 x.d) x.c)),rfl,(by rw [hx];rfl),rfl⟩
 rintro s ⟨x,-,hx,rfl⟩
 refine ziX (fun s=> ∃(x:Q4),0=0∧(x=rs6 q)∧s=⟨reg xK,[cw [uv x.a,uv x.b,uv x.c,uv x.d]]⟩) ?_ ?_
 ·skip
  refine zbF Wu (r_b 12 [(68,pv 0 0),(67,pv 0 0),(66,uv (ad x.a x.d)),(65,uv x.d),(64,pv 0 3),(63,pv 0 0),(62,pv 0 0),(61,uv x.a),(60,pv 0 0),(59,pv 0 0),(58,pv 0 0)] [cw [uv (ad x.a x.d),uv x.b,uv x.c,uv x.d]] (zbk (⟨⟨reg xK,[cw [uv (Q4.mk (ad x.a x.d) x.b x.c x.d).a,uv (Q4.mk (ad x.a x.d) x.b x.c x.d).b,uv (Q4.mk (ad x.a x.d) x.b x.c x.d).c,uv (Q4.mk (ad x.a x.d) x.b x.c x.d).d]]⟩, ?_⟩)))
  refine ⟨?_, ?_⟩
  ·exact Wk.ren [0] rfl rfl dC ⟨rfl,trivial⟩ ⟨.inl rfl,trivial⟩
  ·exact ⟨(Q4.mk (ad x.a x.d) x.b x.c x.d),rfl,(by rw [hx];rfl),rfl⟩
 rintro s ⟨x,-,hx,rfl⟩
 refine ziX (fun s=> ∃(x:Q4),0=0∧(x=rs7 q)∧s=⟨reg xK,[cw [uv x.a,uv x.b,uv x.c,uv x.d]]⟩) ?_ ?_
 ·skip
  refine zbF Wu (r_d 5 ((73,uv x.d)::(wM 72 0 3 71 0 70 0 69 0)) (zfv (zbH (rot21C x.d) rfl rfl rfl (r_b 8 [(81,pv 0 3),(80,pv 0 0),(79,uv (xo (zcW 2097152 8796093022208 x.d) x.a)),(78,uv x.a),(77,pv 0 0),(76,pv 0 0),(75,pv 0 0)] [cw [uv x.a,uv x.b,uv x.c,uv (xo (zcW 2097152 8796093022208 x.d) x.a)]] (zbk (⟨⟨reg xK,[cw [uv (Q4.mk x.a x.b x.c (xo (zcW 2097152 8796093022208 x.d) x.a)).a,uv (Q4.mk x.a x.b x.c (xo (zcW 2097152 8796093022208 x.d) x.a)).b,uv (Q4.mk x.a x.b x.c (xo (zcW 2097152 8796093022208 x.d) x.a)).c,uv (Q4.mk x.a x.b x.c (xo (zcW 2097152 8796093022208 x.d) x.a)).d]]⟩, ?_⟩))))))
  refine ⟨?_, ?_⟩
  ·exact Wk.ren [0] rfl rfl dC ⟨rfl,trivial⟩ ⟨.inl rfl,trivial⟩
  ·exact ⟨(Q4.mk x.a x.b x.c (xo (zcW 2097152 8796093022208 x.d) x.a)),rfl,(by rw [hx];rfl),rfl⟩
 rintro s ⟨x,-,hx,rfl⟩
 refine ziX (fun s=> ∃(x:Q4),0=0∧(x=rs8 q)∧s=⟨reg xK,[cw [uv x.a,uv x.b,uv x.c,uv x.d]]⟩) ?_ ?_
 ·skip
  refine zbF Wu (r_b 12 [(92,pv 0 2),(91,pv 0 0),(90,uv (ad x.c x.b)),(89,uv x.b),(88,pv 0 1),(87,pv 0 0),(86,pv 0 0),(85,uv x.c),(84,pv 0 2),(83,pv 0 0),(82,pv 0 0)] [cw [uv x.a,uv x.b,uv (ad x.c x.b),uv x.d]] (zbk (⟨⟨reg xK,[cw [uv (Q4.mk x.a x.b (ad x.c x.b) x.d).a,uv (Q4.mk x.a x.b (ad x.c x.b) x.d).b,uv (Q4.mk x.a x.b (ad x.c x.b) x.d).c,uv (Q4.mk x.a x.b (ad x.c x.b) x.d).d]]⟩, ?_⟩)))
  refine ⟨?_, ?_⟩
  ·exact Wk.ren [0] rfl rfl dC ⟨rfl,trivial⟩ ⟨.inl rfl,trivial⟩
  ·exact ⟨(Q4.mk x.a x.b (ad x.c x.b) x.d),rfl,(by rw [hx];rfl),rfl⟩
 rintro s ⟨x,-,hx,rfl⟩
 refine ziX (fun s=> ∃(x:Q4),0=0∧(x=rs9 q)∧s=⟨reg xK,[cw [uv x.a,uv x.b,uv x.c,uv x.d]]⟩) ?_ ?_
 ·skip
  refine zbF Wu (r_d 5 ((97,uv x.b)::(wM 96 0 1 95 0 94 0 93 0)) (zfv (zbH (rot17C x.b) rfl rfl rfl (r_b 8 [(105,pv 0 1),(104,pv 0 0),(103,uv (xo (zcW 131072 140737488355328 x.b) x.c)),(102,uv x.c),(101,pv 0 2),(100,pv 0 0),(99,pv 0 0)] [cw [uv x.a,uv (xo (zcW 131072 140737488355328 x.b) x.c),uv x.c,uv x.d]] (zbk (⟨⟨reg xK,[cw [uv (Q4.mk x.a (xo (zcW 131072 140737488355328 x.b) x.c) x.c x.d).a,uv (Q4.mk x.a (xo (zcW 131072 140737488355328 x.b) x.c) x.c x.d).b,uv (Q4.mk x.a (xo (zcW 131072 140737488355328 x.b) x.c) x.c x.d).c,uv (Q4.mk x.a (xo (zcW 131072 140737488355328 x.b) x.c) x.c x.d).d]]⟩, ?_⟩))))))
  refine ⟨?_, ?_⟩
  ·exact Wk.ren [0] rfl rfl dC ⟨rfl,trivial⟩ ⟨.inl rfl,trivial⟩
  ·exact ⟨(Q4.mk x.a (xo (zcW 131072 140737488355328 x.b) x.c) x.c x.d),rfl,(by rw [hx];rfl),rfl⟩
 rintro s ⟨x,-,hx,rfl⟩
 exact zN (o_d 5 ((110,uv x.c)::(wM 109 0 2 108 0 107 0 106 0)) (qT (zal (rot32C x.c) rfl rfl rfl (o_b 3 [(113,pv 0 2),(112,pv 0 0)] [cw [uv x.a,uv x.b,uv (zcW 4294967296 4294967296 x.c),uv x.d]] (zE (⟨trivial,⟨reg [],[cw [uv x.a,uv x.b,uv (zcW 4294967296 4294967296 x.c),uv x.d]]⟩,Wk.ren [0] rfl rfl dC trivial ⟨.inl rfl,trivial⟩,[],rfl,z5,(by rfl),(by rw [hx];rfl)⟩))))))
end Go.Rh

set_option maxHeartbeats 8000000
namespace Go.Rh
def rnds:Nat→Q4→Q4
 | 0,q=>q
 | n+1,q=>rs10 (rnds n q)
def zfF (m:Int) (q:Q4):Q4:=let x:=rnds 2 ⟨q.a,q.b,q.c,xo q.d m⟩;⟨xo x.a m,x.b,x.c,x.d⟩
theorem takeS_eq {m:Int} {q y:Q4} (h:rnds 2 (Q4.mk q.a q.b q.c (xo q.d m))=y):zfF m q=⟨xo y.a m,y.b,y.c,y.d⟩:=by subst h;rfl
def numT (l:List Int):Nat→Int
 | 0=>0
 | i+1=>oo (numT l i) (sl (l.getD i 0 % 256) (8*(i:Int)))
def ziV (l:List Int):Int:=numT l (min l.length 8)
theorem roundsC {P:Program} [PrC P] (q:Q4) (n:Nat) (hn:n≤1000):
    Env P "(*roundhouse/sip.state).rounds" [pv 0 0,iv (n:Nat)] ([cw [uv q.a,uv q.b,uv q.c,uv q.d]]) (fun v h'=>v= .tuple #[]∧h'= [cw (q4L (rnds n q))]):=by
 refine Env.by2 PrC.sip_state_rounds ?_
 unfold zdJ
 show GC _ 1 _ _ ⟨reg [(0,pv 0 0),(1,iv (n:Nat))],[cw [uv q.a,uv q.b,uv q.c,uv q.d]]⟩
 refine zJ (zN (o_d 2 [(5,iv 0),(4,iv (n:Nat))] (zE (zA (zab (zdv (fun μ s=> ∃(i:Nat),∃(x:Q4),μ=n - i∧(i≤n)∧(x=rnds i q)∧s=⟨reg [(5,iv (i:Int)),(4,iv (n:Nat)),(0,pv 0 0)],[cw [uv x.a,uv x.b,uv x.c,uv x.d]]⟩) ⟨(n - 0), ?_⟩ ?_))))))
 ·skip
  refine ⟨⟨reg [(5,iv (0:Int)),(4,iv (n:Nat)),(0,pv 0 0)],[cw [uv q.a,uv q.b,uv q.c,uv q.d]]⟩, ?_⟩
  refine ⟨?_, ?_⟩
  ·exact Wk.ren [0] rfl rfl dC ⟨rfl,rfl,rfl,trivial⟩ ⟨.inl rfl,trivial⟩
  ·exact ⟨0,q,rfl,(Nat.zero_le _),rfl,rfl⟩
 rintro μ s ⟨i,x,rfl,hi,hx,rfl⟩
 refine zJ (zN (o_d 1 [(6,bv (decide ((i:Int) < (n:Nat))))] (zE (zA (zJ (qK (t:=decide ((i:Int) < (n:Nat))) rfl (fun h1=>?_) (fun h1=>?_)))))))
 ·skip
  have h1':(i:Int) < (n:Nat):=of_decide_eq_true h1
  refine qM (zA (zJ (zab (zN (o_d 1 [(7,pv 0 0)] (qT (zdy [0] [cw [uv x.a,uv x.b,uv x.c,uv x.d]] [pv 0 0] (roundC x) rfl rfl ⟨⟨_,rfl,zbZ rfl (fun q=>rfl)⟩,trivial⟩ dC ?_)))))))
  rintro v1 h1' ⟨rfl,rfl⟩
  refine ⟨.tuple #[],[cw [uv ((rs10 x).a),uv ((rs10 x).b),uv ((rs10 x).c),uv ((rs10 x).d)]],[],(by simp [zaI]),⟨rfl,trivial⟩,trivial, ?_⟩
  generalize hy2:rs10 x=y2
  refine zE (zA (zN (o_s (by refine zR (v:= .int .i64 (i64.wrap ((i:Int)+1))) (congrArg (Value.int .i64) (w64 om om)) ?_;kernel_rfl) ?_)))
  refine o_d 1 [(5,iv ((i:Int)+1))] (zE (⟨n - (i+1), ?_⟩))
  refine ⟨⟨reg [(5,iv ((i+1):Int)),(4,iv (n:Nat)),(0,pv 0 0)],[cw [uv y2.a,uv y2.b,uv y2.c,uv y2.d]]⟩, ?_⟩
  refine zee om ⟨?_, ?_⟩
  ·exact Wk.ren [0] rfl rfl dC ⟨rfl,rfl,rfl,trivial⟩ ⟨.inl rfl,trivial⟩
  ·exact ⟨(i+1),y2,rfl,om,(by rw [←hy2,hx];rfl),rfl⟩
 have h1': ¬((i:Int) < (n:Nat)):=of_decide_eq_false h1
 exact zc0 (⟨trivial,⟨reg [],[cw [uv x.a,uv x.b,uv x.c,uv x.d]]⟩,Wk.ren [0] rfl rfl dC trivial ⟨.inl rfl,trivial⟩,[],rfl,z5,rfl,(by rw [hx,show i=n by omega];rfl)⟩)
theorem takeC {P:Program} [PrC P] (q:Q4) (m:Int):
    Env P "(*roundhouse/sip.state).take" [pv 0 0,uv m] ([cw [uv q.a,uv q.b,uv q.c,uv q.d]]) (fun v h'=>v= .tuple #[]∧h'= [cw (q4L (zfF m q))]):=by
 refine Env.by2 PrC.sip_state_take ?_
 unfold zex
 show GC _ 1 _ _ ⟨reg [(0,pv 0 0),(1,uv m)],[cw [uv q.a,uv q.b,uv q.c,uv q.d]]⟩
 refine zJ (zN (o_b 9 [(11,pv 0 3),(10,pv 0 0),(9,uv (xo q.d m)),(8,uv m),(7,uv q.d),(6,pv 0 3),(5,pv 0 0),(4,pv 0 0)] [cw [uv q.a,uv q.b,uv q.c,uv (xo q.d m)]] (zE (zA (zJ (zN (o_d 1 [(12,pv 0 0)] (qT (zdy [0] [cw [uv q.a,uv q.b,uv q.c,uv (xo q.d m)]] [pv 0 0,iv 2] (roundsC (Q4.mk q.a q.b q.c (xo q.d m)) 2 dC) rfl rfl ⟨⟨_,rfl,zbZ rfl (fun q=>rfl)⟩,trivial⟩ dC ?_)))))))))
 rintro v1 h1' ⟨rfl,rfl⟩
 refine ⟨.tuple #[],[cw [uv ((rnds 2 (Q4.mk q.a q.b q.c (xo q.d m))).a),uv ((rnds 2 (Q4.mk q.a q.b q.c (xo q.d m))).b),uv ((rnds 2 (Q4.mk q.a q.b q.c (xo q.d m))).c),uv ((rnds 2 (Q4.mk q.a q.b q.c (xo q.d m))).d)]],[],(by simp [zaI]),⟨rfl,trivial⟩,trivial, ?_⟩
 generalize hy1:rnds 2 (Q4.mk q.a q.b q.c (xo q.d m))=y1
 exact zE (zA (zN (o_b 9 [(21,pv 0 0),(20,pv 0 0),(19,uv (xo y1.a m)),(18,uv m),(17,uv y1.a),(16,pv 0 0),(15,pv 0 0),(14,pv 0 0)] [cw [uv (xo y1.a m),uv y1.b,uv y1.c,uv y1.d]] (zE (⟨trivial,⟨reg [],[cw [uv (xo y1.a m),uv y1.b,uv y1.c,uv y1.d]]⟩,Wk.ren [0] rfl rfl dC trivial ⟨.inl rfl,trivial⟩,[],rfl,z5,rfl,(by rw [takeS_eq hy1];rfl)⟩)))))
theorem numberC {P:Program} [PrC P] (q:Option (Nat×Nat)) (L l:List Int) (hr:RowOf q L l) (hl:l.length≤100000):
    Env P "roundhouse/sip.number[[]byte]" (Wh q l) ((wy q L)) (fun v h'=>v=uv (ziV l)∧h'= (wy q L)):=by
 refine Env.by2 PrC.sip_number_byte ?_
 unfold zd8
 show GC _ 1 _ _ ⟨reg (vc 0 q 0 l),(wy q L)⟩
 refine zJ (zN (o_d 1 [(2,uv 0)] (zE (zA (zJ (zN (o_d 1 [(3,uv 0)] (zE (zA (zJ (zJ (zN ?_))))))))))))
 refine o_d 1 (vc 5 q 0 l) (o_s (by exact qO rfl hr.nil) ?_)
 refine o_d 2 [(8,iv 0),(7,iv (if (8:Int) < ((l.length:Nat):Int) then (8:Int) else ((l.length:Nat):Int)))] (zE (zA (zab (zdv (fun μ s=> ∃(i:Nat),∃(x:Int),μ=8 - i∧(i≤l.length∧i≤8)∧(x=numT l i)∧s=⟨reg [(8,iv (i:Int)),(7,iv (if (8:Int) < ((l.length:Nat):Int) then (8:Int) else ((l.length:Nat):Int))),(3,uv x),(0,zQ q 0 l.length)],(wy q L)⟩) ⟨(8 - 0), ?_⟩ ?_))))
 ·skip
  refine ⟨⟨reg [(8,iv (0:Int)),(7,iv (if (8:Int) < ((l.length:Nat):Int) then (8:Int) else ((l.length:Nat):Int))),(3,uv 0),(0,zQ q 0 l.length)],(wy q L)⟩, ?_⟩
  refine ⟨?_, ?_⟩
  ·exact Wk.ren [0] rfl rfl dC ⟨rfl,rfl,rfl,((qI rfl)).trans rfl,trivial⟩ ⟨.inl (zF (zH _)),trivial⟩
  ·exact ⟨0,0,rfl,⟨Nat.zero_le _,Nat.zero_le _⟩,rfl,rfl⟩
 rintro μ s ⟨i,x,rfl,hi,hx,rfl⟩
 refine zJ (zN (o_d 1 [(9,bv (decide ((i:Int) < (if (8:Int) < ((l.length:Nat):Int) then (8:Int) else ((l.length:Nat):Int)))))] (zE (zA (zJ (qK (t:=decide ((i:Int) < (if (8:Int) < ((l.length:Nat):Int) then (8:Int) else ((l.length:Nat):Int)))) rfl (fun h1=>?_) (fun h1=>?_)))))))
 ·skip
  have h1':(i:Int) < (if (8:Int) < ((l.length:Nat):Int) then (8:Int) else ((l.length:Nat):Int)):=of_decide_eq_true h1
  have h9:i < l.length∧i < 8:=by split at h1'<;>omega
  refine qM (zA (zJ (zab (zJ (zN (o_d 2 [(4,iv (i:Int)),(10,iv (i:Int))] (zE (zA (zN (o_d 3 [(13,iv (i:Int)),(12,zQ q 0 l.length),(11,uv x)] (o_s (by exact qR (o':=qo q+i) rfl hr.nil rfl om om) ?_)))))))))))
  refine o_s (by refine zV (v:= .int .u8 (l.getD i 0 % 256)) rfl (zbd (n:=l.length) rfl rfl hr.nil om) ?_;exact zb4 hr om rfl) ?_
  refine o_s (by refine zR (v:= .int .u64 (IntKind.u64.wrap (l.getD i 0 % 256))) (congrArg (Value.int .u64) (wrap_u64 om)) ?_;kernel_rfl) ?_
  refine o_d 1 [(17,iv (i:Int))] (o_s (by refine zR (v:= .int .i64 (i64.wrap (8*(i:Int)))) (congrArg wh (w64 om om)) ?_;kernel_rfl) ?_)
  refine o_d 3 [(3,uv (oo x (sl (l.getD i 0 % 256) (8*(i:Int))))),(20,uv (oo x (sl (l.getD i 0 % 256) (8*(i:Int))))),(19,uv (sl (l.getD i 0 % 256) (8*(i:Int))))] (zE (zA (zN (o_s (by refine zR (v:= .int .i64 (i64.wrap ((i:Int)+1))) (congrArg wh (w64 om om)) ?_;kernel_rfl) ?_))))
  refine o_d 1 [(8,iv ((i:Int)+1))] (zE (⟨8 - (i+1), ?_⟩))
  refine ⟨⟨reg [(8,iv ((i+1):Int)),(7,iv (if (8:Int) < ((l.length:Nat):Int) then (8:Int) else ((l.length:Nat):Int))),(3,uv (oo x (sl (l.getD i 0 % 256) (8*(i:Int))))),(0,zQ q 0 l.length)],(wy q L)⟩, ?_⟩
  refine zee om ⟨?_, ?_⟩
  ·exact Wk.ren [0] rfl rfl dC ⟨rfl,rfl,rfl,((qI rfl)).trans rfl,trivial⟩ ⟨.inl (zF (zH _)),trivial⟩
  ·exact ⟨(i+1),(oo x (sl (l.getD i 0 % 256) (8*(i:Int)))),rfl,om,(by rw [hx];rfl),rfl⟩
 have h1': ¬((i:Int) < (if (8:Int) < ((l.length:Nat):Int) then (8:Int) else ((l.length:Nat):Int))):=of_decide_eq_false h1
 have h9: ¬(i < l.length∧i < 8):=by split at h1'<;>omega
 refine zc0 (zA (zJ (zN (o_d 2 [(2,uv x),(22,uv x)] (zE (zA (qV ?_)))))))
 have hi9:True:=trivial
 exact ⟨trivial,⟨reg [(2,uv x)],(wy q L)⟩,Wk.ren [0] rfl rfl dC ⟨rfl,trivial⟩ ⟨.inl (zF (zH _)),trivial⟩,[uv x],(zU rfl rfl),(zK rfl z5),(congrArg (Value.int .u64) (hx.trans (congrArg (numT l) (by omega:i=min l.length 8)))),rfl⟩
end Go.Rh

set_option maxHeartbeats 1000000
namespace Go.Rh
def sipT (l:List Int):Nat→Q4→Q4
 | 0,q=>q
 | i+1,q=>zfF (ziV ((l.drop (8*i)).take 8)) (sipT l i q)
def c255 (y:Q4):Q4:=⟨y.a,y.b,xo y.c 255,y.d⟩
def fin4 (z:Q4):Int:=xo (xo (xo z.a z.b) z.c) z.d
def sip0 (ka kb:Int):Q4:=(Q4.mk (xo ka 8317987319222330741) (xo kb 7237128888997146477) (xo ka 7816392313619706465) (xo kb 8387220255154660723))
def ofS (ka kb:Int) (l:List Int):Int:=fin4 (rnds 4 (c255 (zfF (oo (ziV (l.drop (8*(l.length / 8)))) (sl ((l.length:Int) % 18446744073709551616) 56)) (sipT l (l.length / 8) (sip0 ka kb)))))
theorem drop8 {l l2 l3:List Int} {i:Nat} (h:l2=l.drop (8*i)) (h3:l3=(l2.drop 8).take (l2.length - 8)):l3=l.drop (8*(i+1)):=by
 rw [h3,List.take_of_length_le (by simp),h,List.drop_drop];congr 1
theorem ofS_eq {ka kb s:Int} {l l2:List Int} {i:Nat} {x y z:Q4} (hi:i=l.length / 8) (hx:x=sipT l i (Q4.mk (xo ka 8317987319222330741) (xo kb 7237128888997146477) (xo ka 7816392313619706465) (xo kb 8387220255154660723))) (hl:l2=l.drop (8*i)) (hs:s=sl ((l.length:Int) % 18446744073709551616) 56) (hy:zfF (oo (ziV l2) s) x=y) (hz:rnds 4 (Q4.mk y.a y.b (xo y.c 255) y.d)=z):xo (xo (xo z.a z.b) z.c) z.d=ofS ka kb l:=by
 subst hi;subst hx;subst hl;subst hs;subst hy;subst hz;rfl
abbrev wZ (a:Int) (b:Int):=(Q4.mk (xo a 8317987319222330741) (xo b 7237128888997146477) (xo a 7816392313619706465) (xo b 8387220255154660723))
theorem ofC {P:Program} [PrC P] (ka kb:Int) (q:Option (Nat×Nat)) (L l:List Int) (hr:RowOf q L l) (hl:l.length≤100000):
    Env P "roundhouse/sip.Of" [.agg #[uv ka,uv kb],zQ q 0 l.length] ((wy q L)) (fun v h'=>v=uv (ofS ka kb l)∧h'= (wy q L)):=by
 refine Env.by2 PrC.sip_Of ?_
 unfold c_sip_Of
 show GC _ 1 _ _ ⟨reg [(0,.agg #[uv ka,uv kb]),(1,zQ q 0 l.length)],(wy q L)⟩
 refine zJ (zN (o_b 2 [(4,uv 0),(2,pv 1 0)] [zG q (u8 L) false,cw [uv ka,uv kb]] (zE (zA (zJ (zN (o_b 15 [(5,pv 2 0),(20,pv 2 0),(19,.agg #[uv (xo ka 8317987319222330741),uv (xo kb 7237128888997146477),uv (xo ka 7816392313619706465),uv (xo kb 8387220255154660723)]),(18,uv (xo kb 8387220255154660723)),(17,uv kb),(16,pv 1 1),(15,uv (xo ka 7816392313619706465)),(14,uv ka),(13,pv 1 0),(12,uv (xo kb 7237128888997146477)),(11,uv kb),(10,pv 1 1),(9,uv (xo ka 8317987319222330741)),(8,uv ka),(7,pv 1 0)] [zG q (u8 L) false,cw [uv ka,uv kb],cw [uv (xo ka 8317987319222330741),uv (xo kb 7237128888997146477),uv (xo ka 7816392313619706465),uv (xo kb 8387220255154660723)]] (zE (zA (zJ (zN (o_d 2 [(6,zQ q 0 l.length),(21,zQ q 0 l.length)] ?_))))))))))))
 refine zE (zA (zJ (zab (zdv (fun μ s=> ∃(i:Nat),∃(q2:Option (Nat×Nat)),∃(l2:List Int),∃(x:Q4),μ=l.length - i∧(8*i≤l.length)∧(l2=l.drop (8*i))∧(x=sipT l i (wZ ka kb))∧(RowOf q2 L l2)∧(q2.isSome=q.isSome)∧s=⟨reg [(6,zQ q2 0 l2.length),(5,pv 2 0),(1,zQ q 0 l.length)],[zG q (u8 L) false,cw [uv ka,uv kb],cw [uv x.a,uv x.b,uv x.c,uv x.d]]⟩) ⟨(l.length - 0), ?_⟩ ?_))))
 ·skip
  refine ⟨⟨reg [(6,zQ q 0 l.length),(5,pv 2 0),(1,zQ q 0 l.length)],[zG q (u8 L) false,cw [uv ka,uv kb],cw [uv (wZ ka kb).a,uv (wZ ka kb).b,uv (wZ ka kb).c,uv (wZ ka kb).d]]⟩, ?_⟩
  refine ⟨?_, ?_⟩
  ·exact Wk.ren [0,1,2] rfl rfl dC ⟨((qI rfl)).trans rfl,rfl,((qI rfl)).trans rfl,trivial⟩ ⟨.inl (zF (zH _)),.inl rfl,.inl rfl,trivial⟩
  ·exact ⟨0,q,l,(wZ ka kb),rfl,om,rfl,rfl,hr,rfl,rfl⟩
 rintro μ s ⟨i,q2,l2,x,rfl,hi,hl2,hx,hr2,hs2,rfl⟩
 have hn2:l2.length=l.length - 8*i:=by rw [hl2];simp
 refine zJ (zJ (zN (o_d 1 (vc 22 q2 0 l2) (o_s (by exact qO rfl hr2.nil) ?_))))
 refine o_d 1 [(24,bv (decide (((l2.length:Nat):Int)≥8)))] (zE (zA (qK (t:=decide (((l2.length:Nat):Int)≥8)) rfl (fun h1=>?_) (fun h1=>?_))))
 ·skip
  have h1':((l2.length:Nat):Int)≥8:=of_decide_eq_true h1
  refine qM (zA (zab (zJ (zN (o_d 2 [(26,zQ q2 0 l2.length),(25,pv 2 0)] ?_)))))
  obtain ⟨qz2,lz2,hlz2,hn2z,hq2z,hr2z,hs2z⟩:=zcr (k:=0) hr2 (lo:=none) (hi:=(some (iv 8))) (mx:=none) 0 8 om (.inl ⟨rfl,rfl⟩) (.inr rfl) (.inl rfl)
  have hs2y:=hs2z.trans hs2
  refine o_s (by exact zaW rfl hq2z) ?_
  refine qT (zaH [0] (wy qz2 L) (Wh qz2 lz2) (numberC qz2 L lz2 hr2z om) rfl (zM (qI rfl) rfl) ⟨⟨_,rfl,z4 (zH _) hs2y (fun q=>q)⟩,trivial⟩ dC ?_)
  rintro v1 h1' ⟨rfl,rfl⟩
  refine ⟨zai [_] [],uv (ziV lz2),[zG q (u8 L) false,cw [uv ka,uv kb],cw [uv x.a,uv x.b,uv x.c,uv x.d]],[],rfl,⟨(zaY hs2y rfl),rfl,rfl,trivial⟩,trivial, ?_⟩
  refine qT (zdy [2] [cw [uv x.a,uv x.b,uv x.c,uv x.d]] [pv 0 0,uv (ziV lz2)] (takeC x (ziV lz2)) rfl rfl ⟨⟨_,rfl,zbZ rfl (fun q=>rfl)⟩,trivial⟩ dC ?_)
  rintro v1 h1' ⟨rfl,rfl⟩
  refine ⟨.tuple #[],[zG q (u8 L) false,cw [uv ka,uv kb],cw [uv ((zfF (ziV lz2) x).a),uv ((zfF (ziV lz2) x).b),uv ((zfF (ziV lz2) x).c),uv ((zfF (ziV lz2) x).d)]],[],(by simp [zaI]),⟨rfl,rfl,rfl,trivial⟩,trivial, ?_⟩
  generalize hy3:zfF (ziV lz2) x=y3
  refine zE (zA (zN (o_d 1 (vc 30 q2 0 l2) ?_)))
  obtain ⟨qz4,lz4,hlz4,hn4z,hq4z,hr4z,hs4z⟩:=zcr (k:=0) hr2 (lo:=(some (iv 8))) (hi:=none) (mx:=none) 8 l2.length om (.inr rfl) (.inl ⟨rfl,rfl,rfl⟩) (.inl rfl)
  have hs4y:=hs4z.trans hs2
  refine o_s (by exact zaW rfl hq4z) ?_
  refine o_d 1 (vc 6 qz4 0 lz4) (zE (⟨l.length - (i+1), ?_⟩))
  refine ⟨⟨reg [(6,zQ qz4 0 lz4.length),(5,pv 2 0),(1,zQ q 0 l.length)],[zG q (u8 L) false,cw [uv ka,uv kb],cw [uv y3.a,uv y3.b,uv y3.c,uv y3.d]]⟩, ?_⟩
  refine zee om ⟨?_, ?_⟩
  ·exact Wk.ren [0,1,2] rfl rfl dC ⟨((qI rfl)).trans rfl,rfl,((qI rfl)).trans rfl,trivial⟩ ⟨.inl (zF (zH _)),.inl rfl,.inl rfl,trivial⟩
  ·exact ⟨(i+1),qz4,lz4,y3,rfl,om,(drop8 hl2 hlz4),(by rw [←hy3,hlz2,hx,hl2];rfl),hr4z,hs4y,rfl⟩
 have h1': ¬(((l2.length:Nat):Int)≥8):=of_decide_eq_false h1
 refine zc0 (zA (zJ (zN (o_d 2 [(33,zQ q2 0 l2.length),(32,pv 2 0)] (qT (zaH [0] (wy q2 L) (Wh q2 l2) (numberC q2 L l2 hr2 om) rfl (zM (qI rfl) rfl) ⟨⟨_,rfl,z4 (zH _) hs2 (fun q=>q)⟩,trivial⟩ dC ?_))))))
 rintro v1 h1' ⟨rfl,rfl⟩
 refine ⟨zai [_] [],uv (ziV l2),[zG q (u8 L) false,cw [uv ka,uv kb],cw [uv x.a,uv x.b,uv x.c,uv x.d]],[],rfl,⟨(zaY hs2 rfl),rfl,rfl,trivial⟩,trivial, ?_⟩
 refine o_d 1 (vc 35 q 0 l) (o_s (by exact qO rfl hr.nil) ?_)
 refine o_d 3 [(39,uv (oo (ziV l2) (sl (((l.length:Nat):Int) % 18446744073709551616) 56))),(38,uv (sl (((l.length:Nat):Int) % 18446744073709551616) 56)),(37,uv (((l.length:Nat):Int) % 18446744073709551616))] (qT (zdy [2] [cw [uv x.a,uv x.b,uv x.c,uv x.d]] [pv 0 0,uv (oo (ziV l2) (sl (((l.length:Nat):Int) % 18446744073709551616) 56))] (takeC x (oo (ziV l2) (sl (((l.length:Nat):Int) % 18446744073709551616) 56))) rfl rfl ⟨⟨_,rfl,zbZ rfl (fun q=>rfl)⟩,trivial⟩ dC ?_))
 rintro v1 h1' ⟨rfl,rfl⟩
 refine ⟨.tuple #[],[zG q (u8 L) false,cw [uv ka,uv kb],cw [uv ((zfF (oo (ziV l2) (sl (((l.length:Nat):Int) % 18446744073709551616) 56)) x).a),uv ((zfF (oo (ziV l2) (sl (((l.length:Nat):Int) % 18446744073709551616) 56)) x).b),uv ((zfF (oo (ziV l2) (sl (((l.length:Nat):Int) % 18446744073709551616) 56)) x).c),uv ((zfF (oo (ziV l2) (sl (((l.length:Nat):Int) % 18446744073709551616) 56)) x).d)]],[],(by simp [zaI]),⟨rfl,rfl,rfl,trivial⟩,trivial, ?_⟩
 generalize hy5:zfF (oo (ziV l2) (sl (((l.length:Nat):Int) % 18446744073709551616) 56)) x=y5
 refine zE (zA (zJ (zN (o_b 8 [(47,pv 2 2),(46,pv 2 0),(45,uv (xo y5.c 255)),(44,uv y5.c),(43,pv 2 2),(42,pv 2 0),(41,pv 2 0)] [zG q (u8 L) false,cw [uv ka,uv kb],cw [uv y5.a,uv y5.b,uv (xo y5.c 255),uv y5.d]] (zE (zT [(5,pv 2 0)] (zJ (zN (o_d 1 [(48,pv 2 0)] (qT (zdy [2] [cw [uv y5.a,uv y5.b,uv (xo y5.c 255),uv y5.d]] [pv 0 0,iv 4] (roundsC (Q4.mk y5.a y5.b (xo y5.c 255) y5.d) 4 dC) rfl rfl ⟨⟨_,rfl,zbZ rfl (fun q=>rfl)⟩,trivial⟩ dC ?_)))))))))))
 rintro v1 h1' ⟨rfl,rfl⟩
 refine ⟨.tuple #[],[zG q (u8 L) false,cw [uv ka,uv kb],cw [uv ((rnds 4 (Q4.mk y5.a y5.b (xo y5.c 255) y5.d)).a),uv ((rnds 4 (Q4.mk y5.a y5.b (xo y5.c 255) y5.d)).b),uv ((rnds 4 (Q4.mk y5.a y5.b (xo y5.c 255) y5.d)).c),uv ((rnds 4 (Q4.mk y5.a y5.b (xo y5.c 255) y5.d)).d)]],[],(by simp [zaI]),⟨rfl,rfl,rfl,trivial⟩,trivial, ?_⟩
 generalize hy6:rnds 4 (Q4.mk y5.a y5.b (xo y5.c 255) y5.d)=y6
 exact zE (zA (zJ (zbF [] (r_d 20 [(4,uv (xo (xo (xo y6.a y6.b) y6.c) y6.d)),(68,uv (xo (xo (xo y6.a y6.b) y6.c) y6.d)),(67,uv y6.d),(66,pv 2 3),(65,pv 2 0),(64,pv 2 0),(63,uv (xo (xo y6.a y6.b) y6.c)),(62,uv y6.c),(61,pv 2 2),(60,pv 2 0),(59,pv 2 0),(58,uv (xo y6.a y6.b)),(57,uv y6.b),(56,pv 2 1),(55,pv 2 0),(54,pv 2 0),(53,uv y6.a),(52,pv 2 0),(51,pv 2 0),(50,pv 2 0)] (zbk (zT [(4,uv (xo (xo (xo y6.a y6.b) y6.c) y6.d))] (qV (⟨trivial,⟨reg [(4,uv (xo (xo (xo y6.a y6.b) y6.c) y6.d))],(wy q L)⟩,Wk.ren [0] rfl rfl dC ⟨rfl,trivial⟩ ⟨.inl (zF (zH _)),trivial⟩,[uv (xo (xo (xo y6.a y6.b) y6.c) y6.d)],(zU rfl rfl),(zK rfl z5),(congrArg (Value.int .u64) (ofS_eq (i:=i) om hx hl2 rfl hy5 hy6)),rfl⟩))))))))
end Go.Rh

set_option maxHeartbeats 1000000
namespace Go.Rh
def wB (n:Int):Nat→List Int
 | 0=> []
 | j+1=>wB n j++ [(n % 18446744073709551616).fdiv (2^(min (8*(j:Int)).toNat 64))]
def wsT (ns:List Int):Nat→List Int
 | 0=> []
 | i+1=>wsT ns i++wB (ns.getD i 0) 8
def zb2 (ka kb:Int) (ns:List Int):Int:=ofS ka kb (wsT ns ns.length)
abbrev xX (a:List Int) b c:=[(14,iv (a.length:Nat)),(13,sv 0 0 a.length a.length),(5,slV 2 b c),(2,pv 1 0)]
theorem wordsC {P:Program} [PrC P] (ka kb:Int) (ns:List Int) (hl:ns.length≤1000):
    Env P "roundhouse/sip.Words" [.agg #[uv ka,uv kb],sv 0 0 ns.length ns.length] ([cr (ii ns)]) (fun v h'=>v=uv (zb2 ka kb ns)∧h'= [cr (ii ns)]):=by
 refine Env.by2 PrC.sip_Words ?_
 unfold zix
 show GC _ 1 _ _ ⟨reg [(0,.agg #[uv ka,uv kb]),(1,sv 0 0 ns.length ns.length)],[cr (ii ns)]⟩
 refine zJ (zN (o_b 2 [(4,uv 0),(2,pv 1 0)] [cr (ii ns),cw [uv ka,uv kb]] (zE (zA (zJ (zN (o_d 2 [(10,iv (ns.length:Nat)),(9,sv 0 0 ns.length ns.length)] (o_s (by refine zR (v:= .int .i64 (i64.wrap (8*(ns.length:Nat)))) (congrArg wh (w64 om om)) ?_;kernel_rfl) ?_))))))))
 refine o_s (by exact run_mks0 rfl rfl rfl om (by first | rfl | omega) dC) ?_
 refine o_b 1 [(5,sv 2 0 0 (0+(8*ns.length)))] [cr (ii ns),cw [uv ka,uv kb],cw (u8 ([]:List Int)++zah zB (8*ns.length))] (zE (zA (zJ (zJ (zN (o_d 3 [(15,iv 0),(14,iv (ns.length:Nat)),(13,sv 0 0 ns.length ns.length)] (zE (zA (zab (zdv (fun μ s=> ∃(i:Nat),∃(bs:List Int),∃(n:Nat),∃(o:Option Nat),μ=ns.length - i∧(i≤ns.length)∧(bs=wsT ns i)∧(bs.length=n∧n=8*i)∧(o=none→bs.length=0)∧s=⟨reg ((15,iv (i:Int))::(xX ns n o)),[cr (ii ns),cw [uv ka,uv kb],slB zB (u8 bs) o]⟩) ⟨(ns.length - 0), ?_⟩ ?_))))))))))
 ·skip
  refine ⟨⟨reg [(15,iv (0:Int)),(14,iv (ns.length:Nat)),(13,sv 0 0 ns.length ns.length),(5,slV 2 0 (some (8*ns.length))),(2,pv 1 0)],[cr (ii ns),cw [uv ka,uv kb],slB zB (u8 ([]:List Int)) (some (8*ns.length))]⟩, ?_⟩
  refine ⟨?_, ?_⟩
  ·exact Wk.ren [0,1,2] rfl rfl dC ⟨rfl,rfl,rfl,rfl,rfl,trivial⟩ ⟨.inl (zW (zay ns)),.inl rfl,.inl (zW (zbj _ _)),trivial⟩
  ·exact ⟨0,([]:List Int),0,(some (8*ns.length)),rfl,(Nat.zero_le _),rfl,⟨rfl,rfl⟩,(fun _=>rfl),rfl⟩
 rintro μ s ⟨i,bs,n,o,rfl,hi,hbs,hn,ho,rfl⟩
 refine zJ (zN (o_d 1 [(16,bv (decide ((i:Int) < (ns.length:Nat))))] (zE (zA (zJ (qK (t:=decide ((i:Int) < (ns.length:Nat))) rfl (fun h1=>?_) (fun h1=>?_)))))))
 ·skip
  have h1':(i:Int) < (ns.length:Nat):=of_decide_eq_true h1
  obtain ⟨x,hx,hdr,ht⟩:=zd5 (l:=ns) (i:=i) om
  have hgx:ns.getD i 0=x:=by simp [List.getD_eq_getElem?_getD,hx]
  refine qM (zA (zJ (zab (zJ (zN (o_s (by exact zf5 (o:=0) (o':=i) rfl rfl om om) ?_))))))
  refine o_s (by refine zV (v:=iv x) rfl rfl ?_;exact ii_r (i:=i) om hx) ?_
  refine o_d 1 [(7,iv x)] (zE (zA (zJ (zN (o_d 1 [(19,iv 0)] (zE (zA (zab (zdv (fun μ s=> ∃(j:Nat),∃(bs2:List Int),∃(n2:Nat),∃(o2:Option Nat),μ=8 - j∧(j≤8)∧(bs2=bs++wB x j)∧(bs2.length=n2∧n2=n+j)∧(o2=none→bs2.length=0)∧s=⟨reg ((19,iv (j:Int))::(7,iv x)::(15,iv (i:Int))::(xX ns n2 o2)),[cr (ii ns),cw [uv ka,uv kb],slB zB (u8 bs2) o2]⟩) ⟨(8 - 0), ?_⟩ ?_)))))))))
  ·skip
   refine ⟨⟨reg ((19,iv (0:Int))::(7,iv x)::(15,iv (i:Int))::(xX ns n o)),[cr (ii ns),cw [uv ka,uv kb],slB zB (u8 bs) o]⟩, ?_⟩
   refine ⟨?_, ?_⟩
   ·exact Wk.ren [0,1,2] rfl rfl dC ⟨rfl,rfl,rfl,rfl,rfl,((zbO o rfl)).trans rfl,rfl,trivial⟩ ⟨.inl (zW (zay ns)),.inl rfl,.inl (qX o (fun _=>(zbj _ _))),trivial⟩
   ·exact ⟨0,bs,n,o,rfl,om,(List.append_nil _).symm,⟨hn.1,rfl⟩,ho,rfl⟩
  rintro μ s ⟨j,bs2,n2,o2,rfl,hj,hb2,hn2,ho2,rfl⟩
  refine zJ (zN (o_d 1 [(20,bv (decide ((j:Int) < 8)))] (zE (zA (zJ (qK (t:=decide ((j:Int) < 8)) rfl (fun h2=>?_) (fun h2=>?_)))))))
  ·skip
   have h2':(j:Int) < 8:=of_decide_eq_true h2
   refine qM (zA (zJ (zab (zJ (zN (o_d 2 [(8,iv (j:Int)),(21,iv (j:Int))] (zE (zA (zN (o_d 4 [(25,iv (j:Int)),(24,uv (x % 18446744073709551616)),(23,iv x),(22,slV 2 n2 o2)] (o_s (by refine zR (v:= .int .i64 (i64.wrap (8*(j:Int)))) (congrArg wh (w64 om om)) ?_;kernel_rfl) ?_)))))))))))
   refine o_b 3 [(29,sv 3 0 1 1),(28,.int .u8 (((x % 18446744073709551616).fdiv (2^(min (8*(j:Int)).toNat 64))) % 256)),(27,uv ((x % 18446744073709551616).fdiv (2^(min (8*(j:Int)).toNat 64))))] [cr (ii ns),cw [uv ka,uv kb],slB zB (u8 bs2) o2,cw [.int .u8 (((x % 18446744073709551616).fdiv (2^(min (8*(j:Int)).toNat 64))) % 256)]] (zeu (k:=2) (n:=n2) (o:=o2) (q:=1) (cs:=u8 bs2) (xs:= [.int .u8 (((x % 18446744073709551616).fdiv (2^(min (8*(j:Int)).toNat 64))) % 256)]) (cs2:=u8 (bs2++ [(x % 18446744073709551616).fdiv (2^(min (8*(j:Int)).toNat 64))])) (zl:=zB) rfl rfl rfl (fun m q=>by subst q;rfl) (fun z=>by have h0:=ho2 z;have h1:=List.eq_nil_of_length_eq_zero h0;subst h1;exact ⟨om,rfl⟩) (by first | exact u8_len _ | (rw [qL];omega) | simp [u8]) rfl rfl (zbI rfl rfl (by simp)) (by rfl) om om (u8_app1 rfl) (fun m3 e4=>?_) (fun m3=>?_))
   ·skip
    subst e4
    refine o_d 1 [(5,sv 2 0 (n2+1) (n2+1+m3))] (zE (zA (zN (o_s (by refine zR (v:= .int .i64 (i64.wrap ((j:Int)+1))) (congrArg wh (w64 om om)) ?_;kernel_rfl) ?_))))
    refine o_d 1 [(19,iv ((j:Int)+1))] (zE (⟨8 - (j+1), ?_⟩))
    refine ⟨⟨reg [(19,iv ((j+1):Int)),(7,iv x),(15,iv (i:Int)),(14,iv (ns.length:Nat)),(13,sv 0 0 ns.length ns.length),(5,slV 2 (n2+1) (some m3)),(2,pv 1 0)],[cr (ii ns),cw [uv ka,uv kb],slB zB (u8 (bs2++ [(x % 18446744073709551616).fdiv (2^(min (8*(j:Int)).toNat 64))])) (some m3)]⟩, ?_⟩
    refine zee om ⟨?_, ?_⟩
    ·exact Wk.ren [0,1,2] rfl rfl dC ⟨rfl,rfl,rfl,rfl,rfl,rfl,rfl,trivial⟩ ⟨.inl (zW (zay ns)),.inl rfl,.inl (zW (zbj _ _)),trivial⟩
    ·exact ⟨(j+1),(bs2++ [(x % 18446744073709551616).fdiv (2^(min (8*(j:Int)).toNat 64))]),(n2+1),(some m3),rfl,om,(by rw [hb2,List.append_assoc];rfl),(by simp only [List.length_append,List.length_singleton];omega),(fun z=>by cases z),rfl⟩
   refine o_d 1 [(5,sv 4 0 (n2+1) (n2+1+m3))] (zE (zA (zN (o_s (by refine zR (v:= .int .i64 (i64.wrap ((j:Int)+1))) (congrArg wh (w64 om om)) ?_;kernel_rfl) ?_))))
   refine o_d 1 [(19,iv ((j:Int)+1))] (zE (⟨8 - (j+1), ?_⟩))
   refine ⟨⟨reg [(19,iv ((j+1):Int)),(7,iv x),(15,iv (i:Int)),(14,iv (ns.length:Nat)),(13,sv 0 0 ns.length ns.length),(5,slV 2 (n2+1) (some m3)),(2,pv 1 0)],[cr (ii ns),cw [uv ka,uv kb],slB zB (u8 (bs2++ [(x % 18446744073709551616).fdiv (2^(min (8*(j:Int)).toNat 64))])) (some m3)]⟩, ?_⟩
   refine zee om ⟨?_, ?_⟩
   ·exact Wk.ren [0,1,4] rfl rfl dC ⟨rfl,rfl,rfl,rfl,rfl,rfl,rfl,trivial⟩ ⟨.inl (zW (zay ns)),.inl rfl,.inl (zW (zbj _ _)),trivial⟩
   ·exact ⟨(j+1),(bs2++ [(x % 18446744073709551616).fdiv (2^(min (8*(j:Int)).toNat 64))]),(n2+1),(some m3),rfl,om,(by rw [hb2,List.append_assoc];rfl),(by simp only [List.length_append,List.length_singleton];omega),(fun z=>by cases z),rfl⟩
  have h2': ¬((j:Int) < 8):=of_decide_eq_false h2
  refine zc0 (zA (zN (o_s (by refine zR (v:= .int .i64 (i64.wrap ((i:Int)+1))) (congrArg wh (w64 om om)) ?_;kernel_rfl) ?_)))
  refine o_d 1 [(15,iv ((i:Int)+1))] (zE (⟨ns.length - (i+1), ?_⟩))
  refine ⟨⟨reg ((15,iv ((i+1):Int))::(xX ns n2 o2)),[cr (ii ns),cw [uv ka,uv kb],slB zB (u8 bs2) o2]⟩, ?_⟩
  refine zee om ⟨?_, ?_⟩
  ·exact Wk.ren [0,1,2] rfl rfl dC ⟨rfl,rfl,rfl,((zbO o2 rfl)).trans rfl,rfl,trivial⟩ ⟨.inl (zW (zay ns)),.inl rfl,.inl (qX o2 (fun _=>(zbj _ _))),trivial⟩
  ·exact ⟨(i+1),bs2,n2,o2,rfl,om,(by rw [hb2,show j=8 by omega,hbs,←hgx];rfl),om,ho2,rfl⟩
 have h1': ¬((i:Int) < (ns.length:Nat)):=of_decide_eq_false h1
 refine zc0 (zA (zJ (zN (o_d 2 [(34,slV 2 n o),(33,.agg #[uv ka,uv kb])] (qT (zaH [2] [zG (qsl n o) (u8 (bs++List.replicate (o.getD 0) 0)) false] [.agg #[uv ka,uv kb],zQ (qsl n o) 0 bs.length] (ofC ka kb (qsl n o) (bs++List.replicate (o.getD 0) 0) bs (row_qsl ho om) om) rfl (zM (qP rfl) (zM (renV_qsl o rfl om) rfl)) ⟨⟨_,rfl,sees_qsl o⟩,trivial⟩ dC ?_))))))
 rintro v1 h1' ⟨rfl,rfl⟩
 refine ⟨zai [_] [],uv (ofS ka kb bs),[cr (ii ns),cw [uv ka,uv kb],slB zB (u8 bs) o],[],rfl,⟨rfl,rfl,(over_qsl rfl),trivial⟩,trivial, ?_⟩
 exact o_d 1 [(4,uv (ofS ka kb bs))] (zE (zA (qV (⟨trivial,⟨reg [(4,uv (ofS ka kb bs))],[cr (ii ns)]⟩,Wk.ren [0] rfl rfl dC ⟨rfl,trivial⟩ ⟨.inl (zW (zay ns)),trivial⟩,[uv (ofS ka kb bs)],(zU rfl rfl),(zK rfl z5),(congrArg (Value.int .u64) (congrArg (ofS ka kb) (by rw [hbs,show i=ns.length by omega]))),rfl⟩))))
end Go.Rh

namespace Go.Rh
theorem may_call {P:Program} [PrC P] {K:zed} {h:List Blk} {vals:List Value} {rw:Bool} {x0 x1 x2 x3 x4:Int} (l:List Int) (k:Nat) (hl:(l.length:Int)≤1000) (hk:h[k]? =some (.cells (ii l) rw))
  (hv:vals= [.agg #[.int .i64 x0,.int .i64 x1,.int .i64 x2,.int .i64 x3,.int .i64 x4],.slice (some ⟨k,0,none⟩) l.length l.length]) (hK:K (.bool (l.contains x0)) h):zdt (Env P) "roundhouse/pool.may" vals K h:=
 callRS (pre:= [.agg #[.int .i64 x0,.int .i64 x1,.int .i64 x2,.int .i64 x3,.int .i64 x4]]) k (mayC x0 x1 x2 x3 x4 l hl) hk (zay l) rfl hv rfl hK
theorem TakesC {P:Program} [PrC P] (x0 x1 x2 x3 x4:Int):
  Env P "roundhouse/pool.Takes" [.agg #[.int .i64 x0,.int .i64 x1,.int .i64 x2,.int .i64 x3,.int .i64 x4]] [] (Ans (.bool ([1,2,3].contains x0)) []):=by
 refine Env.of PrC.pool_Takes ?_
 unfold wpF zhh
 refine qG (s':=_) rfl (zA (zbw (zaT (s':=_) 2 rfl (zcE (may_call (x0:=x0) [1,2,3] 1 dC rfl rfl ?_)))))
 exact qG (s':=_) rfl (zA (qC [.bool ([1,2,3].contains x0)] rfl rfl rfl rfl rfl))
end Go.Rh

namespace Go.Rh
def eL (e:Ent):List Value:= [.int .i64 e.k,.int .i64 e.s,.int .i64 e.a,.int .i64 e.p,.int .i64 e.g,.int .u64 e.ka,.int .u64 e.kb]
def sL (c:q9) (k:Nat):List Value:= [.int .i64 (c (3+5*k)),.int .i64 (c (3+5*k+1)),.int .i64 (c (3+5*k+2)),.int .i64 (c (3+5*k+3)),.int .i64 (c (3+5*k+4))]
end Go.Rh

set_option maxHeartbeats 8000000
namespace Go.Rh
theorem zac (c d:q9):splice (pl c) 0 (pl d)=pl d:=zgz (by rw [qH,qH])
end Go.Rh

set_option maxHeartbeats 8000000
namespace Go.Rh
end Go.Rh

namespace Go.Rh
theorem pl_r (c:q9) {o:Nat} (i:Nat) (ho:o=i) (h:i < 324):zaG none (pl c) o=some (.int .i64 (c i)):=by subst ho;exact pl_get64 c h
theorem pl_rS (c:q9) {o:Nat} (k:Nat) (ho:o=3+5*k) (h:k < 64):zaG (some 5) (pl c) o=some (slotV c k):=by subst ho;exact pl_slot c h
def zft (c:q9):Value:= .agg ⟨zdC c⟩
theorem slotsV_scl (c:q9):(zdC c).all zbp=true:=zhx (zhE (zaq c) 3) 320
theorem zfc (c:q9):vpf (zft c)=true:=slotsV_scl c
theorem pl_rA (c:q9):zaG (some 320) (pl c) 3=some (zft c):=by
 unfold zaG
 simp only []
 rw [if_pos (by rw [qH];omega)]
 rfl
theorem slots_r (c:q9) {o:Nat} (k:Nat) (ho:o=5*k) (h:k < 64):zaG (some 5) (zdC c) o=some (slotV c k):=by
 subst ho;rw [Nat.mul_comm];exact zh3 c h
theorem zb8 {c:q9} {m:Nat} (h:m≤330):m≤(pl c).length:=by rw [qH];exact h
theorem pl_w (c:q9) {o:Nat} (i:Nat) (v:Int) (ho:o=i) (h:i < 324):splice (pl c) o [.int .i64 v]=pl (upd c i v):=by subst ho;exact zgx c h v
theorem pl_wS (c:q9) {o:Nat} (k:Nat) (x0 x1 x2 x3 x4:Int) (ho:o=3+5*k) (h:k < 64):splice (pl c) o [.int .i64 x0,.int .i64 x1,.int .i64 x2,.int .i64 x3,.int .i64 x4]=pl (qB c k x0 x1 x2 x3 x4):=by subst ho;exact splice_slot c h x0 x1 x2 x3 x4
theorem bld_zP:zgh (zaB zP) []=some (pl qN):=congrArg some zP_pl
end Go.Rh

set_option maxHeartbeats 8000000
namespace Go.Rh
def za4 (h:Nat→Bool):Nat→Nat→Int×Bool
 | _,0=>(0,false)
 | i,n+1=>if h i then ((i:Int),true) else za4 h (i+1) n
def zdo (c:q9) (a p:Int) (k:Nat):Bool:= !([0,4].contains (c (3+5*k)))&&(c (3+5*k+1)==a&&(c (3+5*k+2)==p&&true))
theorem FindC {P:Program} [PrC P] (c:q9) (a p:Int):
  Env P "roundhouse/pool.Find" [zau c,.int .i64 a,.int .i64 p] [] (Ans (.tuple #[.int .i64 (za4 (zdo c a p) 0 64).1,.bool (za4 (zdo c a p) 0 64).2]) []):=by
 refine Env.of PrC.pool_Find ?_
 unfold wpF ziD
 have fin: ∀(x:Int) (b:Bool) (s:St),za4 (zdo c a p) 0 64=(x,b)→s.f 6= .int .i64 x→s.f 7= .bool b→
   True∧∃l',zfW s [.tmp 6,.tmp 7]=some l'∧(∀v∈l',zbl v=false)∧(Ans (.tuple #[.int .i64 (za4 (zdo c a p) 0 64).1,.bool (za4 (zdo c a p) 0 64).2]) [] (one l') s.h∨(vpf (one l')=true∧(∀b∈s.h.take 0,zhH b=true)∧Ans (.tuple #[.int .i64 (za4 (zdo c a p) 0 64).1,.bool (za4 (zdo c a p) 0 64).2]) [] (one l') (s.h.take 0))):=by
  intro x b s h h6 h7
  refine qC [.int .i64 x,.bool b] (by simp [zfW,h6,h7]) rfl (by rw [h];rfl) rfl rfl
 refine qG (s':=_) rfl (zA (zbw (zbw (qG (s':=_) rfl (zA ?_)))))
 refine ⟨fun m s=> ∃i:Nat,i≤64∧m=64 - i∧za4 (zdo c a p) i (64 - i)=za4 (zdo c a p) 0 64∧s=⟨reg [(1,.int .i64 a),(2,.int .i64 p),(3,.pointer (some ⟨0,0,none⟩)),(11,.agg ⟨zdC c⟩),(12,.int .i64 i)],[.cells (pl c) true]⟩,
  ⟨64,_,Wk.to (l:= [(1,.int .i64 a),(2,.int .i64 p),(3,.pointer (some ⟨0,0,none⟩)),(11,.agg ⟨zdC c⟩),(12,.int .i64 (0:Nat))]) (hs:= [.cells (pl c) true]) (Nat.zero_le _) rfl ⟨⟨rfl,rfl⟩,⟨rfl,rfl⟩,⟨rfl,rfl⟩,⟨rfl,zfm (zhx (zhE (zaq c) 3) 320)⟩,⟨rfl,rfl⟩,trivial⟩ (by simp [bbel,pl_bel]),0,Nat.zero_le _,rfl,rfl,rfl⟩, ?_⟩
 rintro m s ⟨i,hi,rfl,hf,rfl⟩
 refine qG (s':=_) rfl (zA (zbw (zbX (t:=decide ((i:Int) < 64)) rfl (fun ht=>?_) (fun ht=>?_))))
 ·refine zA ?_
  have ht:i < 64:=by have:=of_decide_eq_true ht;omega
  have hstep:za4 (zdo c a p) i (64 - i)=if zdo c a p i then ((i:Int),true) else za4 (zdo c a p) (i+1) (64 - (i+1)):=by
   rw [show 64 - i=(64 - (i+1))+1 by omega];rfl
  have next:zdo c a p i=false→∀s:St,s.f 1= .int .i64 a→s.f 2= .int .i64 p→s.f 3= .pointer (some ⟨0,0,none⟩)→s.f 11= .agg ⟨zdC c⟩→s.f 12= .int .i64 (i64.wrap ((i:Int)+1))→s.h.take 1= [.cells (pl c) true]→
    ∃m s0,m < 64 - i∧Wk 0 s s0∧∃i:Nat,i≤64∧m=64 - i∧za4 (zdo c a p) i (64 - i)=za4 (zdo c a p) 0 64∧s0=⟨reg [(1,.int .i64 a),(2,.int .i64 p),(3,.pointer (some ⟨0,0,none⟩)),(11,.agg ⟨zdC c⟩),(12,.int .i64 i)],[.cells (pl c) true]⟩:=by
   intro hto s h1 h2 h3 h11 h12 hh
   refine ⟨64 - (i+1),_,om,Wk.to (l:= [(1,.int .i64 a),(2,.int .i64 p),(3,.pointer (some ⟨0,0,none⟩)),(11,.agg ⟨zdC c⟩),(12,.int .i64 (i+1:Nat))]) (hs:= [.cells (pl c) true]) (Nat.zero_le _) hh ⟨⟨h1,rfl⟩,⟨h2,rfl⟩,⟨h3,rfl⟩,⟨h11,zfm (zhx (zhE (zaq c) 3) 320)⟩,⟨?_,rfl⟩,trivial⟩ (by simp [bbel,pl_bel]),i+1,om,rfl, ?_,rfl⟩
   ·rw [h12,w64 om om];rfl
   ·rw [←hf,hstep,hto];rfl
  refine zbw (zhN (zbw (zaT (s':=_) 1 rfl (wpOps_ixA (n:=i) (v:=slotV c i) rfl rfl om (zh3 c ht) ?_))))
  refine qG (s':=_) rfl (seq_to [(1,.int .i64 a),(2,.int .i64 p),(3,.pointer (some ⟨0,0,none⟩)),(8,.int .i64 i),(9,.pointer (some ⟨1,0,none⟩)),(11,.agg ⟨zdC c⟩),(12,.int .i64 i)] [.cells (pl c) true,.cells (sL c i) true] (Nat.zero_le _) rfl ⟨⟨rfl,rfl⟩,⟨rfl,rfl⟩,⟨rfl,rfl⟩,⟨rfl,rfl⟩,⟨rfl,rfl⟩,⟨rfl,zfm (zhx (zhE (zaq c) 3) 320)⟩,⟨rfl,rfl⟩,trivial⟩ (by simp [bbel,pl_bel,sL,sbel]) ?_)
  refine zbw (zaT (s':=_) 2 rfl (zcE (may_call (x0:=c (3+5*i)) (x1:=c (3+5*i+1)) [0,4] 2 dC rfl rfl ?_)))
  refine zaT (s':=_) 2 rfl (zaz (b:= !([0,4].contains (c (3+5*i)))) 20 rfl (fun h1=>?_) (fun h1=>?_))
  ·refine qG (s':=_) rfl (zA (zbX (t:=(c (3+5*i+1)==a&&(c (3+5*i+2)==p&&true))) rfl (fun h2=>?_) (fun h2=>?_)))
   ·refine qG (s':=_) rfl (zA ?_)
    refine fin i true _ ?_ rfl rfl
    rw [←hf,hstep];simp only [zdo,h1,h2,Bool.and_self,if_true]
   ·refine zA (qG (s':=_) rfl ?_)
    refine next ?_ _ rfl rfl rfl rfl rfl rfl
    simp only [zdo,h2,Bool.and_false]
  ·refine qG (s':=_) rfl (zA (zbX (t:=false) rfl (fun h=>by cases h) (fun h2=>?_)))
   refine zA (qG (s':=_) rfl (next ?_ _ rfl rfl rfl rfl rfl rfl))
   simp only [zdo,h1,Bool.false_and]
 ·refine zA (qG (s':=_) rfl (zA ?_))
  have ht: ¬i < 64:=by have:=of_decide_eq_false ht;omega
  refine fin 0 false _ ?_ rfl rfl
  rw [←hf,show 64 - i=0 by omega];rfl
end Go.Rh

set_option maxHeartbeats 8000000
namespace Go.Rh
end Go.Rh

namespace Go.Rh
end Go.Rh

set_option maxHeartbeats 8000000
namespace Go.Rh
def zet (n lo hi:Int):Bool:=decide (n < lo) || decide (n > hi)
theorem outC {P:Program} [PrC P] (n lo hi:Int):
  Env P "roundhouse/roundhouseref6.out" [.int .i64 n,.int .i64 lo,.int .i64 hi] [] (Ans (.bool (zet n lo hi)) []):=by
 refine Env.of PrC.ref6_out ?_
 unfold wpF zjv
 refine qG (s':=_) rfl (zA (zbw (zaT (s':=_) 4 rfl (zaz (b:=decide (n < lo)) 10 rfl (fun h=>?_) (fun h=>?_)))))
 ·refine qG (s':=_) rfl (zA ?_)
  exact qC [.bool true] rfl rfl (by simp only [one,zet,h,Bool.true_or]) rfl rfl
 ·refine qG (s':=_) rfl (zA ?_)
  exact qC [.bool (decide (n > hi))] rfl rfl (by simp only [one,zet,h,Bool.false_or]) rfl rfl
theorem refNextC {P:Program} [PrC P] {x0 y1 y2 y3 y4 y5 y6 k1 k2:Int} :
  Env P "roundhouse/roundhouseref5.Next" [.agg #[.int .i64 x0,.int .u64 y1,.int .u64 y2,.int .u64 y3,.int .u64 y4,.int .u64 y5,.int .u64 y6],.agg #[.int .u64 k1,.int .u64 k2]] []
   (Ans (.agg #[.int .i64 (i64.wrap (x0+1)),.int .u64 y3,.int .u64 y4,.int .u64 y5,.int .u64 y6,.int .u64 k1,.int .u64 k2]) []):=by
 refine Env.of PrC.ref5_Next ?_
 unfold wpF ziA
 exact qG (s':=_) rfl (zA (qG (s':=_) rfl (zA (qC [.agg #[.int .i64 (i64.wrap (x0+1)),.int .u64 y3,.int .u64 y4,.int .u64 y5,.int .u64 y6,.int .u64 k1,.int .u64 k2]] rfl rfl rfl rfl rfl))))
def zbV (n:Int):Int:=IntKind.u64.wrap (IntKind.u64.wrap n*11400714819323198485)
def zbU (n:Int):Int:=IntKind.u64.wrap (BitVec.ofInt IntKind.u64.bits (IntKind.u64.wrap n)^^^BitVec.ofInt IntKind.u64.bits 19088743).toNat
def keyV (n:Int):Value:= .agg #[.int .u64 (zbV n),.int .u64 (zbU n)]
theorem KeyC {P:Program} [PrC P] (n:Int):
  Env P "roundhouse/roundhouselaw5.Key" [.int .i64 n] [] (Ans (keyV n) []):=by
 refine Env.of PrC.law5_Key ?_
 unfold wpF zjD
 exact qG (s':=_) rfl (zA (qG (s':=_) rfl (zA (qC [keyV n] rfl rfl rfl rfl rfl))))
def zC (at_ n:Int):Int:=if at_.tmod n < 0 then i64.wrap (at_.tmod n+n) else at_.tmod n
theorem withinC {P:Program} [PrC P] (x n:Int) (hn:n≠0):
  Env P "roundhouse/roundhouselaw6.within" [.int .i64 x,.int .i64 n] [] (Ans (.int .i64 (zC x n)) []):=by
 refine Env.of PrC.law6_within ?_
 unfold wpF zgm
 refine qG (s':=_) rfl (zA (zbw (zaT (s':=_) 2 rfl (ze6 (v:= .int .i64 (x.tmod n)) (e:= .no) rfl ?_ ?_))))
 ·show (match (if n=0 then (none:Option Value) else some (.int .i64 (x.tmod n))) with | some v=>some (v,Eff.no) | none=>none)=_
  rw [if_neg hn]
 refine qG (s':=_) rfl (zA (wpC_cut (fun s=>s=⟨reg [(5,.int .i64 (zC x n))],[]⟩) ?_ ?_))
 ·refine zbw (qG (s':=_) rfl (zA (zbX (t:=decide (x.tmod n < 0)) rfl (fun h=>?_) (fun h=>?_))))
  ·have h:=of_decide_eq_true h
   exact qG (s':=_) rfl (⟨_,Wk.to (l:= [(5,.int .i64 (zC x n))]) (hs:= []) (Nat.zero_le _) rfl ⟨⟨by simp only [zC,if_pos h];rfl,rfl⟩,trivial⟩ rfl,rfl⟩)
  ·have h:=of_decide_eq_false h
   exact ⟨_,Wk.to (l:= [(5,.int .i64 (zC x n))]) (hs:= []) (Nat.zero_le _) rfl ⟨⟨by simp only [zC,if_neg h];rfl,rfl⟩,trivial⟩ rfl,rfl⟩
 ·rintro s rfl
  exact qG (s':=_) rfl (zA (qC [.int .i64 (zC x n)] rfl rfl rfl rfl rfl))
end Go.Rh

set_option maxHeartbeats 8000000
namespace Go.Rh
def zdA (x:Int):Bool:=x==1 || (x==2 || x==3)
theorem refTakesC {P:Program} [PrC P] (x0 x1 x2 x3 x4:Int):
  Env P "roundhouse/roundhouseref6.Takes" [.agg #[.int .i64 x0,.int .i64 x1,.int .i64 x2,.int .i64 x3,.int .i64 x4]] [] (Ans (.bool (zdA x0)) []):=by
 refine Env.of PrC.ref6_Takes ?_
 unfold wpF zhc
 refine qG (s':=_) rfl (zA (zbw (zaT (s':=_) 4 rfl (zaz (b:=x0==1) 6 rfl (fun h=>?_) (fun h=>?_)))))
 ·refine qG (s':=_) rfl (zA ?_)
  exact qC [.bool true] rfl rfl (by simp only [one,zdA,h,Bool.true_or]) rfl rfl
 ·refine zaT (s':=_) 5 rfl (zaz (b:=x0==2) 11 rfl (fun h2=>?_) (fun h2=>?_))
  ·refine qG (s':=_) rfl (zA ?_)
   exact qC [.bool true] rfl rfl (by simp only [one,zdA,h,h2,Bool.true_or,Bool.or_true]) rfl rfl
  ·refine qG (s':=_) rfl (zA ?_)
   exact qC [.bool (x0==3)] rfl rfl (by simp only [one,zdA,h,h2,Bool.false_or]) rfl rfl
theorem zd3 (a p:Int):(zet a 0 4294967295 || zet p 0 65535)= !(za8 a p):=by
 simp only [zet,za8]
 by_cases h1:a < 0<;>by_cases h2:a > 4294967295<;>by_cases h3:p < 0<;>by_cases h4:p > 65535<;>simp [h1,h2,h3,h4]<;>omega
theorem refCheckC {P:Program} [PrC P] (e:Ent):
  Env P "roundhouse/roundhouseref6.Check" [entV e] [] (Ans (.int .i64 (za5 e)) []):=by
 refine Env.of PrC.ref6_Check ?_
 unfold wpF zhd
 have hb:([.cells (eL e) true]:List Blk).all (bbel 1)=true:=by simp [bbel,eL,sbel]
 have fin: ∀(x:Int) (s:St),za5 e=x→s.f 2= .int .i64 x→True∧∃l',zfW s [.tmp 2]=some l'∧(∀v∈l',zbl v=false)∧(Ans (.int .i64 (za5 e)) [] (one l') s.h∨(vpf (one l')=true∧(∀b∈s.h.take 0,zhH b=true)∧Ans (.int .i64 (za5 e)) [] (one l') (s.h.take 0))):=by
  intro x s hx h2
  exact qC [.int .i64 x] (by simp [zfW,h2]) rfl (by rw [hx];rfl) rfl rfl
 refine qG (s':=_) rfl (seq_to [(1,.pointer (some ⟨0,0,none⟩))] [.cells (eL e) true] (Nat.zero_le _) rfl ⟨⟨rfl,rfl⟩,trivial⟩ hb (zbw (wpD_all (log':=_) (s':=_) rfl (seq_to [(1,.pointer (some ⟨0,0,none⟩)),(3,.bool (e.k==1)),(4,.bool (e.k==6))] [.cells (eL e) true] (Nat.zero_le _) rfl ⟨⟨rfl,rfl⟩,⟨rfl,rfl⟩,⟨rfl,rfl⟩,trivial⟩ hb ?_))))
 have tob: ∀(t:Nat) (b:Bool) (s:St),s.f 1= .pointer (some ⟨0,0,none⟩)→s.f 3= .bool (e.k==1)→s.f 4= .bool (e.k==6)→s.f t= .bool b→s.h.take 1= [.cells (eL e) true]→
   ∃s0,Wk 0 s s0∧s0=⟨reg [(1,.pointer (some ⟨0,0,none⟩)),(3,.bool (e.k==1)),(4,.bool (e.k==6)),(t,.bool b)],[.cells (eL e) true]⟩:=by
  intro t b s h1 h3 h4 ht hh
  exact ⟨_,Wk.to (l:= [(1,.pointer (some ⟨0,0,none⟩)),(3,.bool (e.k==1)),(4,.bool (e.k==6)),(t,.bool b)]) (hs:= [.cells (eL e) true]) (Nat.zero_le _) hh ⟨⟨h1,rfl⟩,⟨h3,rfl⟩,⟨h4,rfl⟩,⟨ht,rfl⟩,trivial⟩ hb,rfl⟩
 refine zbw (zhN (zbw (zaT (s':=_) 2 rfl (zcE (zal (outC e.k 1 6) rfl rfl rfl (qG (s':=_) rfl (zA (zbX (t:=zet e.k 1 6) rfl (fun h1=>?_) (fun h1=>?_)))))))))
 ·refine zbw (qG (s':=_) rfl (zA (fin 2 _ ?_ rfl)))
  have:e.k < 1∨6 < e.k:=by simpa [zet] using h1
  simp [za5,this]
 have h1: ¬(e.k < 1∨6 < e.k):=by
  intro h;have:zet e.k 1 6=true:=by simpa [zet] using h
  rw [this] at h1;cases h1
 refine wpC_cut (fun s=>s=⟨reg [(1,.pointer (some ⟨0,0,none⟩)),(3,.bool (e.k==1)),(4,.bool (e.k==6)),(15,.bool (zet e.s 0 63 || (e.k==6&&e.s !=0)))],[.cells (eL e) true]⟩) ?_ ?_
 ·refine zaT (s':=_) 2 rfl (zcE (zal (outC e.s 0 63) rfl rfl rfl ?_))
  refine zaT (s':=_) 1 rfl (zaz (b:=zet e.s 0 63) 19 rfl (fun h=>?_) (fun h=>?_))
  ·have hB:(zet e.s 0 63 || (e.k==6&&e.s !=0))=true:=by rw [h];rfl
   rw [hB]
   exact qG (s':=_) rfl (tob 15 true _ rfl rfl rfl rfl rfl)
  ·refine zaT (s':=_) 2 rfl (zaz (b:=e.k==6) 21 rfl (fun h2=>?_) (fun h2=>?_))
   ·have hB:(zet e.s 0 63 || (e.k==6&&e.s !=0))=(e.s !=0):=by rw [h,h2];rfl
    rw [hB]
    exact qG (s':=_) rfl (tob 15 (e.s !=0) _ rfl rfl rfl rfl rfl)
   ·have hB:(zet e.s 0 63 || (e.k==6&&e.s !=0))=false:=by rw [h,h2];rfl
    rw [hB]
    exact qG (s':=_) rfl (tob 15 false _ rfl rfl rfl rfl rfl)
 rintro s rfl
 refine zbX (t:=(zet e.s 0 63 || (e.k==6&&e.s !=0))) rfl (fun h2=>?_) (fun h2=>?_)
 ·refine zbw (qG (s':=_) rfl (zA (fin 11 _ ?_ rfl)))
  have:e.s < 0∨64≤e.s∨(e.k=6∧e.s≠0):=by
   simp [zet] at h2;omega
  simp only [za5,h1,this,if_true,if_false]
 have hs1: ¬(e.s < 0∨64≤e.s∨(e.k=6∧e.s≠0)):=by
  simp [zet] at h2;omega
 refine wpC_cut (fun s=>s=⟨reg [(1,.pointer (some ⟨0,0,none⟩)),(3,.bool (e.k==1)),(4,.bool (e.k==6)),(27,.bool (e.k==1&&((zet e.a 0 4294967295 || zet e.p 0 65535) || zet e.g 1 8)))],[.cells (eL e) true]⟩) ?_ ?_
 ·generalize hB:(e.k==1&&((zet e.a 0 4294967295 || zet e.p 0 65535) || zet e.g 1 8))=B
  refine zaT (s':=_) 2 rfl (zaz (b:=e.k==1) 29 rfl (fun g1=>?_) (fun g1=>?_))
  ·refine zaT (s':=_) 2 rfl (zc6 rfl (zcE (zal (outC e.a 0 4294967295) rfl rfl rfl ?_)))
   refine zaT (s':=_) 1 rfl (zaz (b:=zet e.a 0 4294967295) 33 rfl (fun g2=>?_) (fun g2=>?_))
   ·have:B=true:=by rw [←hB,g1,g2];rfl
    subst this
    exact qG (s':=_) rfl (tob 27 true _ rfl rfl rfl rfl rfl)
   ·refine zaT (s':=_) 2 rfl (zc6 rfl (zcE (zal (outC e.p 0 65535) rfl rfl rfl ?_)))
    refine zaT (s':=_) 2 rfl (zaz (b:=zet e.p 0 65535) 38 rfl (fun g3=>?_) (fun g3=>?_))
    ·have:B=true:=by rw [←hB,g1,g2,g3];rfl
     subst this
     exact qG (s':=_) rfl (tob 27 true _ rfl rfl rfl rfl rfl)
    ·have:B=zet e.g 1 8:=by rw [←hB,g1,g2,g3];rfl
     subst this
     exact zaT (s':=_) 2 rfl (zc6 rfl (zcE (zal (outC e.g 1 8) rfl rfl rfl (qG (s':=_) rfl (tob 27 (zet e.g 1 8) _ rfl rfl rfl rfl rfl)))))
  ·have:B=false:=by rw [←hB,g1];rfl
   subst this
   exact qG (s':=_) rfl (tob 27 false _ rfl rfl rfl rfl rfl)
 rintro s rfl
 refine zbX (t:=(e.k==1&&((zet e.a 0 4294967295 || zet e.p 0 65535) || zet e.g 1 8))) rfl (fun h3=>?_) (fun h3=>?_)
 ·refine zbw (qG (s':=_) rfl (zA (fin 14 _ ?_ rfl)))
  rw [zd3] at h3
  have:e.k=1∧(za8 e.a e.p=false∨e.g < 1∨8 < e.g):=by simpa [zet] using h3
  unfold za5;rw [if_neg h1,if_neg hs1,if_pos this]
 have hp1: ¬(e.k=1∧(za8 e.a e.p=false∨e.g < 1∨8 < e.g)):=by
  intro h
  rw [zd3] at h3
  have:(e.k==1&&(!za8 e.a e.p || zet e.g 1 8))=true:=by simpa [zet] using h
  rw [this] at h3;cases h3
 refine wpC_cut (fun s=>s=⟨reg [(1,.pointer (some ⟨0,0,none⟩)),(3,.bool (e.k==1)),(4,.bool (e.k==6)),(44,.bool ((!(e.k==1)&&((e.a !=0 || e.p !=0) || e.g !=0)) || (!(e.k==6)&& !(e.ka==0&&(e.kb==0&&true)))))],[.cells (eL e) true]⟩) ?_ ?_
 ·generalize hB:((!(e.k==1)&&((e.a !=0 || e.p !=0) || e.g !=0)) || (!(e.k==6)&& !(e.ka==0&&(e.kb==0&&true))))=B
  have tail: ∀(s:St),(!(e.k==1)&&((e.a !=0 || e.p !=0) || e.g !=0))=false→s=s→True:=fun _ _ _=>trivial
  refine zaT (s':=_) 3 rfl (zaz (b:= !(e.k==1)) 47 rfl (fun g1=>?_) (fun g1=>?_))
  ·refine zaT (s':=_) 4 rfl (zaz (b:=e.a !=0) 51 rfl (fun g2=>?_) (fun g2=>?_))
   ·have:B=true:=by rw [←hB,g1,g2];rfl
    subst this
    exact qG (s':=_) rfl (tob 44 true _ rfl rfl rfl rfl rfl)
   ·refine zaT (s':=_) 5 rfl (zaz (b:=e.p !=0) 56 rfl (fun g3=>?_) (fun g3=>?_))
    ·have:B=true:=by rw [←hB,g1,g2,g3];rfl
     subst this
     exact qG (s':=_) rfl (tob 44 true _ rfl rfl rfl rfl rfl)
    ·refine zaT (s':=_) 6 rfl (zaz (b:=e.g !=0) 62 rfl (fun g4=>?_) (fun g4=>?_))
     ·have:B=true:=by rw [←hB,g1,g2,g3,g4];rfl
      subst this
      exact qG (s':=_) rfl (tob 44 true _ rfl rfl rfl rfl rfl)
     ·refine zaT (s':=_) 3 rfl (zaz (b:= !(e.k==6)) 65 rfl (fun g5=>?_) (fun g5=>?_))
      ·have:B= !(e.ka==0&&(e.kb==0&&true)):=by rw [←hB,g1,g2,g3,g4,g5];rfl
       subst this
       exact qG (s':=_) rfl (tob 44 (!(e.ka==0&&(e.kb==0&&true))) _ rfl rfl rfl rfl rfl)
      ·have:B=false:=by rw [←hB,g1,g2,g3,g4,g5];rfl
       subst this
       exact qG (s':=_) rfl (tob 44 false _ rfl rfl rfl rfl rfl)
  ·refine zaT (s':=_) 18 rfl (zaz (b:= !(e.k==6)) 65 rfl (fun g5=>?_) (fun g5=>?_))
   ·have:B= !(e.ka==0&&(e.kb==0&&true)):=by rw [←hB,g1,g5];rfl
    subst this
    exact qG (s':=_) rfl (tob 44 (!(e.ka==0&&(e.kb==0&&true))) _ rfl rfl rfl rfl rfl)
   ·have:B=false:=by rw [←hB,g1,g5];rfl
    subst this
    exact qG (s':=_) rfl (tob 44 false _ rfl rfl rfl rfl rfl)
 have h5:((!(e.k==1)&&((e.a !=0 || e.p !=0) || e.g !=0)) || (!(e.k==6)&& !(e.ka==0&&(e.kb==0&&true))))=decide ((e.k≠1∧(e.a≠0∨e.p≠0∨e.g≠0))∨(e.k≠6∧(e.ka≠0∨e.kb≠0))):=by
  by_cases q1:e.k=1<;>by_cases q2:e.a=0<;>by_cases q3:e.p=0<;>by_cases q4:e.g=0<;>by_cases q5:e.k=6<;>by_cases q6:e.ka=0<;>by_cases q7:e.kb=0<;>simp [q1,q2,q3,q4,q5,q6,q7]
 rintro s rfl
 refine zbX (t:=((!(e.k==1)&&((e.a !=0 || e.p !=0) || e.g !=0)) || (!(e.k==6)&& !(e.ka==0&&(e.kb==0&&true))))) rfl (fun h4=>?_) (fun h4=>?_)
 ·refine zbw (qG (s':=_) rfl (zA (fin 14 _ ?_ rfl)))
  rw [h5] at h4
  unfold za5;rw [if_neg h1,if_neg hs1,if_neg hp1,if_pos (of_decide_eq_true h4)]
 ·refine zA (qG (s':=_) rfl (zA (fin 0 _ ?_ rfl)))
  rw [h5] at h4
  unfold za5;rw [if_neg h1,if_neg hs1,if_neg hp1,if_neg (of_decide_eq_false h4)]
end Go.Rh

set_option maxHeartbeats 8000000
namespace Go.Rh
theorem upd_eq (c:q9) (i:Nat) (v:Int):upd c i v i=v:=by simp [upd]
theorem zc3 (c:q9) {i k:Nat} (v:Int) (h:k≠i):upd c i v k=c k:=by simp [upd,h]
theorem zf2 (d:q9) (k:Nat) (x:Int):qB d k x (d (3+5*k+1)) (d (3+5*k+2)) (d (3+5*k+3)) (d (3+5*k+4))=upd d (3+5*k) x:=by
 funext i;simp only [qB,upd];repeat' split
 all_goals first | rfl | (subst_vars;first | rfl | omega)
theorem zi6 (d:q9) (k:Nat) (x y:Int):qB d k x (d (3+5*k+1)) (d (3+5*k+2)) (d (3+5*k+3)) y=upd (upd d (3+5*k) x) (3+5*k+4) y:=by
 funext i;simp only [qB,upd];repeat' split
 all_goals first | rfl | (subst_vars;first | rfl | omega)
theorem setSlot_5 (d:q9) (k:Nat):qB d k (d (3+5*k)) (d (3+5*k+1)) (d (3+5*k+2)) (d (3+5*k+3)) (d (3+5*k+4))=d:=by
 funext i;simp only [qB,upd];repeat' split
 all_goals first | rfl | (subst_vars;first | rfl | omega)
theorem setSlot_id {d:q9} {k:Nat} {x0 x1 x2 x3 x4:Int} (h0:x0=d (3+5*k)) (h1:x1=d (3+5*k+1)) (h2:x2=d (3+5*k+2)) (h3:x3=d (3+5*k+3)) (h4:x4=d (3+5*k+4)):qB d k x0 x1 x2 x3 x4=d:=by
 subst h0 h1 h2 h3 h4;exact setSlot_5 d k
theorem zek (c:q9) (x0 x1 x2 x3 x4 x5 x6:Int) {i:Nat} (h:i < 323):upd (upd (upd (upd (upd (upd (upd c 323 x0) 324 x1) 325 x2) 326 x3) 327 x4) 328 x5) 329 x6 i=c i:=by
 simp only [upd];rw [if_neg om,if_neg om,if_neg om,if_neg om,if_neg om,if_neg om,if_neg om]
theorem check_s {e:Ent} (h: ¬(za5 e≠0)):0≤e.s∧e.s < 64:=by
 have h1:za5 e=0:=Decidable.of_not_not h
 unfold za5 at h1
 split at h1
 ·cases h1
 ·split at h1
  ·cases h1
  ·omega
theorem check_k {e:Ent} (h: ¬(za5 e≠0)):1≤e.k∧e.k≤6:=by
 have h1:za5 e=0:=Decidable.of_not_not h
 unfold za5 at h1
 split at h1
 ·cases h1
 ·omega
abbrev yn (a:Int) (b:Int) (c:Int) (d:Int) (e:Int) (f:Int):=[uv a,uv b,uv c,uv d,uv e,uv f]
abbrev yG:=[iv 0,uv 0,uv 0,uv 0,uv 0,uv 0,uv 0]
abbrev vl a (b:Int):=[(6,iv a),(5,pv 2 0),(4,pv 1 0),(0,iv b),(1,sv 0 0 3 3)]
abbrev Wj a:=[(14,bv true),(13,bv true),(12,iv a),(11,bv true),(10,bv true),(9,iv 3),(8,sv 0 0 3 3),(7,iv a)]
abbrev Ye a (b:Int) (c:Int) d:=[(22,pv 2 a),(21,.agg #[uv b,uv c]),(20,pv 0 a),(19,iv d),(18,sv 0 0 3 3),(17,iv d)]
theorem refRingC {P:Program} [PrC P] (x a1 b1 a2 b2 a3 b3:Int):
  Env P "roundhouse/roundhouseref5.Ring" [iv x,sv 0 0 3 3] (roL [(yn a1 b1 a2 b2 a3 b3)]) (Ans (.agg #[iv x,uv a1,uv b1,uv a2,uv b2,uv a3,uv b3]) (roL [(yn a1 b1 a2 b2 a3 b3)])):=by
 refine Env.by PrC.ref5_Ring ?_
 unfold ziz
 show GC _ 1 _ _ ⟨reg [(0,iv x),(1,sv 0 0 3 3)],[cr (yn a1 b1 a2 b2 a3 b3)]⟩
 refine zJ (zN (o_b 1 [(4,pv 1 0)] [cr (yn a1 b1 a2 b2 a3 b3),cw yG] (zE (zA (zJ (zN (o_b 1 [(5,pv 2 0)] [cr (yn a1 b1 a2 b2 a3 b3),cw yG,cw [uv 0,uv 0,uv 0,uv 0,uv 0,uv 0]] (zE (zA (zJ (zJ (zN ?_))))))))))))
 refine o_d 1 [(6,iv 0)] (zE (zA (zab (zdv (fun μ s=>(μ=3∧s=⟨reg (vl 0 x),[cr (yn a1 b1 a2 b2 a3 b3),cw yG,cw [uv 0,uv 0,uv 0,uv 0,uv 0,uv 0]]⟩)∨(μ=2∧s=⟨reg (vl 1 x),[cr (yn a1 b1 a2 b2 a3 b3),cw yG,cw [uv a1,uv b1,uv 0,uv 0,uv 0,uv 0]]⟩)∨(μ=1∧s=⟨reg (vl 2 x),[cr (yn a1 b1 a2 b2 a3 b3),cw yG,cw [uv a1,uv b1,uv a2,uv b2,uv 0,uv 0]]⟩)∨(μ=0∧s=⟨reg (vl 3 x),[cr (yn a1 b1 a2 b2 a3 b3),cw yG,cw (yn a1 b1 a2 b2 a3 b3)]⟩)) ⟨3, ?_⟩ ?_))))
 ·skip
  refine ⟨⟨reg (vl 0 x),[cr (yn a1 b1 a2 b2 a3 b3),cw yG,cw [uv 0,uv 0,uv 0,uv 0,uv 0,uv 0]]⟩, ?_⟩
  refine ⟨?_, ?_⟩
  ·exact Wk.ren [0,1,2] rfl rfl dC ⟨rfl,rfl,rfl,rfl,rfl,trivial⟩ ⟨.inl rfl,.inl rfl,.inl rfl,trivial⟩
  ·exact .inl ⟨rfl,rfl⟩
 ·rintro μ s (⟨rfl,rfl⟩ | ⟨rfl,rfl⟩ | ⟨rfl,rfl⟩ | ⟨rfl,rfl⟩)
  ·skip
   refine zJ (zJ (zN (o_d 8 (Wj 0) (zE (zA (zcZ rfl (qM (zA (zJ (zab (zN (o_b 7 (Ye 0 a1 b1 0) [cr (yn a1 b1 a2 b2 a3 b3),cw yG,cw [uv a1,uv b1,uv 0,uv 0,uv 0,uv 0]] ?_))))))))))))
   refine zE (zA (zN (o_d 3 [(6,iv 1),(16,iv 1),(15,iv 0)] (zE (⟨2, ?_⟩)))))
   refine ⟨⟨reg (vl 1 x),[cr (yn a1 b1 a2 b2 a3 b3),cw yG,cw [uv a1,uv b1,uv 0,uv 0,uv 0,uv 0]]⟩, ?_⟩
   refine zee dC ⟨?_, ?_⟩
   ·exact Wk.ren [0,1,2] rfl rfl dC ⟨rfl,rfl,rfl,rfl,rfl,trivial⟩ ⟨.inl rfl,.inl rfl,.inl rfl,trivial⟩
   ·exact .inr (.inl ⟨rfl,rfl⟩)
  ·skip
   refine zJ (zJ (zN (o_d 8 (Wj 1) (zE (zA (zcZ rfl (qM (zA (zJ (zab (zN (o_b 7 (Ye 2 a2 b2 1) [cr (yn a1 b1 a2 b2 a3 b3),cw yG,cw [uv a1,uv b1,uv a2,uv b2,uv 0,uv 0]] ?_))))))))))))
   refine zE (zA (zN (o_d 3 [(6,iv 2),(16,iv 2),(15,iv 1)] (zE (⟨1, ?_⟩)))))
   refine ⟨⟨reg (vl 2 x),[cr (yn a1 b1 a2 b2 a3 b3),cw yG,cw [uv a1,uv b1,uv a2,uv b2,uv 0,uv 0]]⟩, ?_⟩
   refine zee dC ⟨?_, ?_⟩
   ·exact Wk.ren [0,1,2] rfl rfl dC ⟨rfl,rfl,rfl,rfl,rfl,trivial⟩ ⟨.inl rfl,.inl rfl,.inl rfl,trivial⟩
   ·exact .inr (.inr (.inl ⟨rfl,rfl⟩))
  ·skip
   refine zJ (zJ (zN (o_d 8 (Wj 2) (zE (zA (zcZ rfl (qM (zA (zJ (zab (zN (o_b 7 (Ye 4 a3 b3 2) [cr (yn a1 b1 a2 b2 a3 b3),cw yG,cw (yn a1 b1 a2 b2 a3 b3)] ?_))))))))))))
   refine zE (zA (zN (o_d 3 [(6,iv 3),(16,iv 3),(15,iv 2)] (zE (⟨0, ?_⟩)))))
   refine ⟨⟨reg (vl 3 x),[cr (yn a1 b1 a2 b2 a3 b3),cw yG,cw (yn a1 b1 a2 b2 a3 b3)]⟩, ?_⟩
   refine zee dC ⟨?_, ?_⟩
   ·exact Wk.ren [0,1,2] rfl rfl dC ⟨rfl,rfl,rfl,rfl,rfl,trivial⟩ ⟨.inl rfl,.inl rfl,.inl rfl,trivial⟩
   ·exact .inr (.inr (.inr (⟨rfl,rfl⟩)))
  ·skip
   refine zJ (zJ (zN (o_d 8 [(14,bv false),(13,undef),(12,undef),(11,bv false),(10,bv false),(9,iv 3),(8,sv 0 0 3 3),(7,iv 3)] (zE (zA (zba rfl (zc0 (zA (zJ (zN (o_b 9 [(30,.agg #[iv x,uv a1,uv b1,uv a2,uv b2,uv a3,uv b3]),(29,.agg #[uv a3,uv b3]),(28,pv 2 4),(27,.agg #[uv a2,uv b2]),(26,pv 2 2),(25,.agg #[uv a1,uv b1]),(24,pv 2 0),(23,iv x)] [cr (yn a1 b1 a2 b2 a3 b3),cw [iv x,uv a1,uv b1,uv a2,uv b2,uv a3,uv b3],cw (yn a1 b1 a2 b2 a3 b3)] (zE ?_))))))))))))
   exact zA (qV (qC [.agg #[iv x,uv a1,uv b1,uv a2,uv b2,uv a3,uv b3]] (qY rfl rfl rfl rfl) rfl (by rfl) rfl rfl))
theorem refHeldC {P:Program} [PrC P] (c:q9) (a p:Int):
  Env P "roundhouse/roundhouseref6.Held" [zau c,iv a,iv p] ([]) (Ans (.bool (zfq c a p)) ([])):=by
 refine Env.by PrC.ref6_Held ?_
 unfold ziy
 show GC _ 0 _ _ ⟨reg [(0,zau c),(1,iv a),(2,iv p)],[]⟩
 refine zJ (zN (o_b 2 [(6,bv false),(3,pv 0 0)] [cw (pl c)] (zE (zA (zJ (zJ (zN (o_d 1 [(7,iv 0)] (zE (zA (zab (zdv (fun μ s=> ∃(i:Nat),μ=64 - i∧(i≤64)∧(zfw c a p i=false)∧s=⟨reg [(7,iv (i:Int)),(3,pv 0 0),(1,iv a),(2,iv p)],[cw (pl c)]⟩) ⟨(64 - 0), ?_⟩ ?_))))))))))))
 ·skip
  refine ⟨⟨reg [(7,iv (0:Int)),(3,pv 0 0),(1,iv a),(2,iv p)],[cw (pl c)]⟩, ?_⟩
  refine ⟨?_, ?_⟩
  ·exact Wk.ren [0] rfl rfl dC ⟨rfl,rfl,rfl,rfl,trivial⟩ ⟨.inl (zW (zaq c)),trivial⟩
  ·exact ⟨0,rfl,om,rfl,rfl⟩
 rintro μ s ⟨i,rfl,hi,hto,rfl⟩
 refine zJ (zJ (zN (o_d 2 [(10,bv (decide ((i:Int) < 64))),(9,iv (i:Int))] (zE (zA (qK (t:=decide ((i:Int) < 64)) rfl (fun h1=>?_) (fun h1=>?_)))))))
 ·skip
  have h1':(i:Int) < 64:=of_decide_eq_true h1
  refine qM (zA (zJ (zab (zJ (zN (o_d 2 [(14,pv 0 3),(13,iv (i:Int))] (o_s (by exact zaN (o:=3) (o':=3+5*i) rfl rfl om om) ?_)))))))
  refine o_s (by refine zV (v:= .agg #[iv (c (3+5*i)),iv (c (3+5*i+1)),iv (c (3+5*i+2)),iv (c (3+5*i+3)),iv (c (3+5*i+4))]) rfl rfl ?_;exact pl_rS c i om om) ?_
  refine o_b 2 [(8,pv 1 0)] [cw (pl c),cw [iv (c (3+5*i)),iv (c (3+5*i+1)),iv (c (3+5*i+2)),iv (c (3+5*i+3)),iv (c (3+5*i+4))]] (zE (zA (zJ (zN (o_d 4 [(20,bv ((c (3+5*i))!=0)),(19,bv ((c (3+5*i))!=0)),(18,iv (c (3+5*i))),(17,pv 1 0)] (zbC (b:=(c (3+5*i))!=0) 20 rfl (fun h2=>?_) (fun h2=>?_)))))))
  ·skip
   have h2':c (3+5*i)≠0:=zfN h2
   refine o_d 6 [(26,bv ((c (3+5*i+1))==a)),(25,bv ((c (3+5*i+1))==a)),(24,bv ((c (3+5*i+1))==a)),(23,iv a),(22,iv (c (3+5*i+1))),(21,pv 1 1)] (zbC (b:=(c (3+5*i+1))==a) 26 rfl (fun h3=>?_) (fun h3=>?_))
   ·skip
    have h3':c (3+5*i+1)=a:=zaL h3
    refine o_d 5 [(31,bv ((c (3+5*i+2))==p)),(30,bv ((c (3+5*i+2))==p)),(29,iv p),(28,iv (c (3+5*i+2))),(27,pv 1 2)] (zE (zT [(31,bv ((c (3+5*i+2))==p)),(7,iv (i:Int)),(3,pv 0 0),(1,iv a),(2,iv p)] (qK (t:=(c (3+5*i+2))==p) rfl (fun h4=>?_) (fun h4=>?_))))
    ·skip
     have h4':c (3+5*i+2)=p:=zaL h4
     refine zJ (zN (o_d 1 [(6,bv true)] (zE (zA (qV ?_)))))
     have E0_:zfq c a p=true:=by
      simp [zfq,heldTo_of c a p (i:=i) (n:=64) om (by simp [zfK,h1,h1',h2,h2',h3,h3',h4,h4'])]
     exact qC [bv true] (zU rfl rfl) rfl (by rw [E0_];rfl) rfl rfl
    have h4': ¬(c (3+5*i+2)=p):=zaM h4
    refine qM (zA (zN (o_d 1 [(11,iv (i:Int))] (o_s (by refine zR (v:= .int .i64 (i64.wrap ((i:Int)+1))) (congrArg wh (w64 om om)) ?_;kernel_rfl) ?_))))
    refine o_d 1 [(7,iv ((i:Int)+1))] (zE (⟨64 - (i+1), ?_⟩))
    refine ⟨⟨reg [(7,iv ((i+1):Int)),(3,pv 0 0),(1,iv a),(2,iv p)],[cw (pl c)]⟩, ?_⟩
    refine zee om ⟨?_, ?_⟩
    ·exact Wk.ren [0] rfl rfl dC ⟨rfl,rfl,rfl,rfl,trivial⟩ ⟨.inl (zW (zaq c)),trivial⟩
    ·exact ⟨(i+1),rfl,om,(by simp [zfw,hto,zfK,h1,h1',h2,h2',h3,h3',h4,h4']),rfl⟩
   have h3': ¬(c (3+5*i+1)=a):=zaM h3
   refine o_d 5 [(31,bv false),(30,undef),(29,undef),(28,undef),(27,undef)] (zE (zT [(31,bv false),(7,iv (i:Int)),(3,pv 0 0),(1,iv a),(2,iv p)] (zba rfl (qM (zA (zN (o_d 1 [(11,iv (i:Int))] (o_s (by refine zR (v:= .int .i64 (i64.wrap ((i:Int)+1))) (congrArg wh (w64 om om)) ?_;kernel_rfl) ?_))))))))
   refine o_d 1 [(7,iv ((i:Int)+1))] (zE (⟨64 - (i+1), ?_⟩))
   refine ⟨⟨reg [(7,iv ((i+1):Int)),(3,pv 0 0),(1,iv a),(2,iv p)],[cw (pl c)]⟩, ?_⟩
   refine zee om ⟨?_, ?_⟩
   ·exact Wk.ren [0] rfl rfl dC ⟨rfl,rfl,rfl,rfl,trivial⟩ ⟨.inl (zW (zaq c)),trivial⟩
   ·exact ⟨(i+1),rfl,om,(by simp [zfw,hto,zfK,h1,h1',h2,h2',h3,h3']),rfl⟩
  have h2': ¬(c (3+5*i)≠0):=zfO h2
  refine o_d 11 ((31,bv false)::(30,undef)::(29,undef)::(28,undef)::(27,undef)::(26,bv false)::(25,bv false)::(y9 24 23 22 21)) (zE (zT [(31,bv false),(7,iv (i:Int)),(3,pv 0 0),(1,iv a),(2,iv p)] (zba rfl (qM (zA (zN (o_d 1 [(11,iv (i:Int))] (o_s (by refine zR (v:= .int .i64 (i64.wrap ((i:Int)+1))) (congrArg wh (w64 om om)) ?_;kernel_rfl) ?_))))))))
  refine o_d 1 [(7,iv ((i:Int)+1))] (zE (⟨64 - (i+1), ?_⟩))
  refine ⟨⟨reg [(7,iv ((i+1):Int)),(3,pv 0 0),(1,iv a),(2,iv p)],[cw (pl c)]⟩, ?_⟩
  refine zee om ⟨?_, ?_⟩
  ·exact Wk.ren [0] rfl rfl dC ⟨rfl,rfl,rfl,rfl,trivial⟩ ⟨.inl (zW (zaq c)),trivial⟩
  ·exact ⟨(i+1),rfl,om,(by simp [zfw,hto,zfK,h1,h1',h2,h2']),rfl⟩
 have h1': ¬((i:Int) < 64):=of_decide_eq_false h1
 refine zc0 (zA (zJ (zN (o_d 1 [(32,pv 0 1)] (o_s (by refine zV (v:=iv (c 1)) rfl rfl ?_;exact pl_r c 1 rfl om) ?_)))))
 refine o_d 3 [(36,bv ((c 1)==a)),(35,bv ((c 1)==a)),(34,iv a)] (zbC (b:=(c 1)==a) 36 rfl (fun h5=>?_) (fun h5=>?_))
 ·skip
  have h5':c 1=a:=zaL h5
  refine o_d 1 [(37,pv 0 2)] (z8 rfl (o_s (by refine zV (v:=iv (c 2)) rfl rfl ?_;exact pl_r c 2 rfl om) ?_))
  refine o_d 4 [(6,bv ((c 2)==p)),(41,bv ((c 2)==p)),(40,bv ((c 2)==p)),(39,iv p)] (zE (zA (qV ?_)))
  have E0_:zfq c a p=((c 2)==p):=by
   have hi':i=64:=om
   subst hi'
   simp [zfq,hto,h1,h1',h5,h5']<;>rfl
  exact qC [bv ((c 2)==p)] (zU rfl rfl) rfl (by rw [E0_];rfl) rfl rfl
 have h5': ¬(c 1=a):=zaM h5
 refine o_d 6 ((6,bv false)::(41,bv false)::(y9 40 39 38 37)) (zE (zA (qV ?_)))
 have E0_:zfq c a p=false:=by
  have hi':i=64:=om
  subst hi'
  simp [zfq,hto,h1,h1',h5,h5']<;>rfl
 exact qC [bv false] (zU rfl rfl) rfl (by rw [E0_];rfl) rfl rfl
abbrev wF (b:Ent):=[iv b.k,iv b.s,iv b.a,iv b.p,iv b.g,uv b.ka,uv b.kb]
abbrev yA (a:Nat) (b:q9) (c:Ent) (d:Nat) (e:Nat) (f:Nat):=[(a,bv ((b (3+5*c.s.toNat))!=d)),(e,bv ((b (3+5*c.s.toNat))!=d)),(f,iv (b (3+5*c.s.toNat)))]
abbrev xl (b:Ent):=#[iv b.k,iv b.s,iv b.a,iv b.p,iv b.g,uv b.ka,uv b.kb]
theorem refBadC {P:Program} [PrC P] (c:q9) (e:Ent) (hs:0≤e.s∧e.s < 64):
  Env P "roundhouse/roundhouseref6.bad" [zau c,.agg (xl e)] ([]) (Ans (.bool (zcm c e)) ([])):=by
 refine Env.by PrC.ref6_bad ?_
 unfold zjw
 show GC _ 0 _ _ ⟨reg [(0,zau c),(1,.agg (xl e))],[]⟩
 refine zJ (zN (o_b 3 [(4,bv false),(3,pv 1 0),(2,pv 0 0)] [cw (pl c),cw (wF e)] (zE (zA (zJ (zN (o_d 3 [(8,pv 0 3),(7,iv e.s),(6,pv 1 1)] (o_s (by exact zaN (o:=3) (o':=3+5*e.s.toNat) rfl rfl om om) ?_))))))))
 refine o_s (by refine zcf (o':=3+5*e.s.toNat) rfl om) ?_
 refine o_s (by refine zV (v:=iv (c (3+5*e.s.toNat))) rfl rfl ?_;exact pl_r c (3+5*e.s.toNat) om om) ?_
 refine o_d 1 [(5,iv (c (3+5*e.s.toNat)))] (zE (zA (zJ (zJ (zN (o_d 2 [(13,iv e.k),(12,pv 1 0)] (zE (zA (zab (zJ (zN (o_d 2 [(14,bv (e.k==1)),(15,bv (e.k==1))] ?_))))))))))))
 refine zE (zA (qK (t:=e.k==1) rfl (fun h1=>?_) (fun h1=>?_)))
 ·skip
  have h1':e.k=1:=zaL h1
  refine zJ (zN (o_d 3 (yA 18 c e 0 17 16) (zbC (b:=(c (3+5*e.s.toNat))!=0) 18 rfl (fun h2=>?_) (fun h2=>?_))))
  ·skip
   have h2':c (3+5*e.s.toNat)≠0:=zfN h2
   refine o_d 8 ((4,bv true)::(25,bv true)::(24,undef)::(23,undef)::(y9 22 21 20 19)) (zE (zT [(4,bv true)] (qV ?_)))
   have E0_:zcm c e=true:=by
    first | (simp [zcm,h1,h1',h2,h2'];done) | (simp [zcm,h1,h1',h2,h2']<;>rfl) | (rw [Bool.eq_iff_iff];simp [zcm,h1,h1',h2,h2'];done) | (rw [Bool.eq_iff_iff];simp [zcm,h1,h1',h2,h2'];omega) | (simp [zcm,h1,h1',h2,h2'];omega)
   exact qC [bv true] (zU rfl rfl) rfl (by rw [E0_];rfl) rfl rfl
  have h2': ¬(c (3+5*e.s.toNat)≠0):=zfO h2
  refine z8 rfl (o_s (by refine zV (v:=zau c) rfl rfl ?_;exact zaK c) ?_)
  refine o_d 4 [(23,iv e.p),(22,pv 1 3),(21,iv e.a),(20,pv 1 2)] (z8 rfl (qT (zal (refHeldC c e.a e.p) rfl (all_cons (zbr c) (all_cons rfl (all_cons rfl rfl))) rfl (o_d 2 [(4,bv (zfq c e.a e.p)),(25,bv (zfq c e.a e.p))] (zE (zT [(4,bv (zfq c e.a e.p))] (qV ?_)))))))
  have E0_:zcm c e=(zfq c e.a e.p):=by
   first | (simp [zcm,h1,h1',h2,h2'];done) | (simp [zcm,h1,h1',h2,h2']<;>rfl) | (rw [Bool.eq_iff_iff];simp [zcm,h1,h1',h2,h2'];done) | (rw [Bool.eq_iff_iff];simp [zcm,h1,h1',h2,h2'];omega) | (simp [zcm,h1,h1',h2,h2'];omega)
  exact qC [bv (zfq c e.a e.p)] (zU rfl rfl) rfl (by rw [E0_];rfl) rfl rfl
 have h1': ¬(e.k=1):=zaM h1
 refine zJ (zJ (zN (o_d 2 [(26,bv (e.k==2)),(27,bv (e.k==2))] (zE (zA (qK (t:=e.k==2) rfl (fun h3=>?_) (fun h3=>?_)))))))
 ·skip
  have h3':e.k=2:=zaL h3
  refine qM (zA (qK (t:=e.k==2) rfl (fun _=>?_) (fun q=>by rw [h3] at q;cases q)))
  refine zJ (zN (o_d 3 (yA 31 c e 1 30 29) (zbC (b:=(c (3+5*e.s.toNat))!=1) 31 rfl (fun h4=>?_) (fun h4=>?_))))
  ·skip
   have h4':c (3+5*e.s.toNat)≠1:=zfN h4
   refine o_d 4 ((4,bv ((c (3+5*e.s.toNat))!=3))::(yA 34 c e 3 33 32)) (zE (zT [(4,bv ((c (3+5*e.s.toNat))!=3))] (qV ?_)))
   have E0_:zcm c e=((c (3+5*e.s.toNat))!=3):=by
    first | (simp [zcm,h1,h1',h3,h3',h4,h4'];done) | (simp [zcm,h1,h1',h3,h3',h4,h4']<;>rfl) | (rw [Bool.eq_iff_iff];simp [zcm,h1,h1',h3,h3',h4,h4'];done) | (rw [Bool.eq_iff_iff];simp [zcm,h1,h1',h3,h3',h4,h4'];omega) | (simp [zcm,h1,h1',h3,h3',h4,h4'];omega)
   exact qC [bv ((c (3+5*e.s.toNat))!=3)] (zU rfl rfl) rfl (by rw [E0_];rfl) rfl rfl
  have h4': ¬(c (3+5*e.s.toNat)≠1):=zfO h4
  refine o_d 4 [(4,bv false),(34,bv false),(33,undef),(32,undef)] (zE (zT [(4,bv false)] (qV ?_)))
  have E0_:zcm c e=false:=by
   first | (simp [zcm,h1,h1',h3,h3',h4,h4'];done) | (simp [zcm,h1,h1',h3,h3',h4,h4']<;>rfl) | (rw [Bool.eq_iff_iff];simp [zcm,h1,h1',h3,h3',h4,h4'];done) | (rw [Bool.eq_iff_iff];simp [zcm,h1,h1',h3,h3',h4,h4'];omega) | (simp [zcm,h1,h1',h3,h3',h4,h4'];omega)
  exact qC [bv false] (zU rfl rfl) rfl (by rw [E0_];rfl) rfl rfl
 have h3': ¬(e.k=2):=zaM h3
 refine zN (o_d 2 [(26,bv (e.k==4)),(28,bv (e.k==4))] (zE (zA (qK (t:=e.k==4) rfl (fun h5=>?_) (fun h5=>?_)))))
 ·skip
  have h5':e.k=4:=zaL h5
  refine zJ (zN (o_d 3 (yA 31 c e 1 30 29) (zbC (b:=(c (3+5*e.s.toNat))!=1) 31 rfl (fun h6=>?_) (fun h6=>?_))))
  ·skip
   have h6':c (3+5*e.s.toNat)≠1:=zfN h6
   refine o_d 4 ((4,bv ((c (3+5*e.s.toNat))!=3))::(yA 34 c e 3 33 32)) (zE (zT [(4,bv ((c (3+5*e.s.toNat))!=3))] (qV ?_)))
   have E0_:zcm c e=((c (3+5*e.s.toNat))!=3):=by
    first | (simp [zcm,h1,h1',h3,h3',h5,h5',h6,h6'];done) | (simp [zcm,h1,h1',h3,h3',h5,h5',h6,h6']<;>rfl) | (rw [Bool.eq_iff_iff];simp [zcm,h1,h1',h3,h3',h5,h5',h6,h6'];done) | (rw [Bool.eq_iff_iff];simp [zcm,h1,h1',h3,h3',h5,h5',h6,h6'];omega) | (simp [zcm,h1,h1',h3,h3',h5,h5',h6,h6'];omega)
   exact qC [bv ((c (3+5*e.s.toNat))!=3)] (zU rfl rfl) rfl (by rw [E0_];rfl) rfl rfl
  have h6': ¬(c (3+5*e.s.toNat)≠1):=zfO h6
  refine o_d 4 [(4,bv false),(34,bv false),(33,undef),(32,undef)] (zE (zT [(4,bv false)] (qV ?_)))
  have E0_:zcm c e=false:=by
   first | (simp [zcm,h1,h1',h3,h3',h5,h5',h6,h6'];done) | (simp [zcm,h1,h1',h3,h3',h5,h5',h6,h6']<;>rfl) | (rw [Bool.eq_iff_iff];simp [zcm,h1,h1',h3,h3',h5,h5',h6,h6'];done) | (rw [Bool.eq_iff_iff];simp [zcm,h1,h1',h3,h3',h5,h5',h6,h6'];omega) | (simp [zcm,h1,h1',h3,h3',h5,h5',h6,h6'];omega)
  exact qC [bv false] (zU rfl rfl) rfl (by rw [E0_];rfl) rfl rfl
 have h5': ¬(e.k=4):=zaM h5
 refine zJ (zN (o_d 2 [(35,bv (e.k==3)),(36,bv (e.k==3))] (zE (zA (qK (t:=e.k==3) rfl (fun h7=>?_) (fun h7=>?_))))))
 ·skip
  have h7':e.k=3:=zaL h7
  refine zJ (zN (o_d 3 (yA 4 c e 2 38 37) (zE (zT [(4,bv ((c (3+5*e.s.toNat))!=2))] (qV ?_)))))
  have E0_:zcm c e=((c (3+5*e.s.toNat))!=2):=by
   first | (simp [zcm,h1,h1',h3,h3',h5,h5',h7,h7'];done) | (simp [zcm,h1,h1',h3,h3',h5,h5',h7,h7']<;>rfl) | (rw [Bool.eq_iff_iff];simp [zcm,h1,h1',h3,h3',h5,h5',h7,h7'];done) | (rw [Bool.eq_iff_iff];simp [zcm,h1,h1',h3,h3',h5,h5',h7,h7'];omega) | (simp [zcm,h1,h1',h3,h3',h5,h5',h7,h7'];omega)
  exact qC [bv ((c (3+5*e.s.toNat))!=2)] (zU rfl rfl) rfl (by rw [E0_];rfl) rfl rfl
 have h7': ¬(e.k=3):=zaM h7
 refine zJ (zN (o_d 2 [(39,bv (e.k==5)),(40,bv (e.k==5))] (zE (zT [(39,bv (e.k==5)),(5,iv (c (3+5*e.s.toNat)))] (qK (t:=e.k==5) rfl (fun h8=>?_) (fun h8=>?_))))))
 ·skip
  have h8':e.k=5:=zaL h8
  refine zJ (zN (o_d 3 (yA 4 c e 4 42 41) (zE (zA (qV ?_)))))
  have E0_:zcm c e=((c (3+5*e.s.toNat))!=4):=by
   first | (simp [zcm,h1,h1',h3,h3',h5,h5',h7,h7',h8,h8'];done) | (simp [zcm,h1,h1',h3,h3',h5,h5',h7,h7',h8,h8']<;>rfl) | (rw [Bool.eq_iff_iff];simp [zcm,h1,h1',h3,h3',h5,h5',h7,h7',h8,h8'];done) | (rw [Bool.eq_iff_iff];simp [zcm,h1,h1',h3,h3',h5,h5',h7,h7',h8,h8'];omega) | (simp [zcm,h1,h1',h3,h3',h5,h5',h7,h7',h8,h8'];omega)
  exact qC [bv ((c (3+5*e.s.toNat))!=4)] (zU rfl rfl) rfl (by rw [E0_];rfl) rfl rfl
 have h8': ¬(e.k=5):=zaM h8
 refine qM (zA (zJ (zN (o_d 1 [(4,bv false)] (zE (zA (qV ?_)))))))
 have E0_:zcm c e=false:=by
  first | (simp [zcm,h1,h1',h3,h3',h5,h5',h7,h7',h8,h8'];done) | (simp [zcm,h1,h1',h3,h3',h5,h5',h7,h7',h8,h8']<;>rfl) | (rw [Bool.eq_iff_iff];simp [zcm,h1,h1',h3,h3',h5,h5',h7,h7',h8,h8'];done) | (rw [Bool.eq_iff_iff];simp [zcm,h1,h1',h3,h3',h5,h5',h7,h7',h8,h8'];omega) | (simp [zcm,h1,h1',h3,h3',h5,h5',h7,h7',h8,h8'];omega)
 exact qC [bv false] (zU rfl rfl) rfl (by rw [E0_];rfl) rfl rfl
abbrev vF (a:q9):=#[iv (a 323),uv (a 324),uv (a 325),uv (a 326),uv (a 327),uv (a 328),uv (a 329)]
abbrev xi (a:Nat) (b:Nat) (c:Nat) (d:Nat) (e:Nat) (f:Nat) (g:Nat):=[(a,pv b c),(d,pv e 0),(f,pv g 0)]
theorem refApplyC {P:Program} [PrC P] (c:q9) (e:Ent):
  Env P "roundhouse/roundhouseref6.Apply" [zau c,.agg (xl e)] ([]) (Ans (.tuple #[zau (qF c e).1,.int .i64 (qF c e).2]) ([])):=by
 refine Env.by PrC.ref6_Apply ?_
 unfold zhe
 show GC _ 0 _ _ ⟨reg [(0,zau c),(1,.agg (xl e))],[]⟩
 refine zJ (zN (o_b 4 [(5,iv 0),(4,pv 2 0),(3,pv 1 0),(2,pv 0 0)] [cw (pl c),cw (wF e),cw (pl qN)] (zE (zA (zJ (zJ (zN (o_d 1 [(8,.agg (xl e))] (qT (zal (refCheckC e) rfl rfl rfl (o_d 1 [(6,iv (za5 e))] (zE ?_))))))))))))
 refine zA (zJ (zN (o_d 2 [(11,bv ((za5 e)!=0)),(10,iv (za5 e))] (zE (zA (qK (t:=(za5 e)!=0) rfl (fun h1=>?_) (fun h1=>?_)))))))
 ·skip
  have h1':za5 e≠0:=zfN h1
  refine zJ (zN (o_s (by refine zej (c:=pl qN) ?_;exact bld_zP) ?_))
  refine o_d 1 [(13,iv (za5 e))] (zdu (by refine zao (c':=pl qN) rfl rfl rfl ?_ ?_ ?_;exact qH _;exact zb8 om;exact zac qN qN) ?_)
  refine o_d 1 [(5,iv (za5 e))] (zE (zA (qV ?_)))
  have E0_:qF c e=(qN,za5 e):=by
   first | (simp [qF,zew,zbL,za2,h1,h1'];done) | (simp [qF,zew,zbL,za2,h1,h1']<;>rfl) | (rw [Bool.eq_iff_iff];simp [qF,zew,zbL,za2,h1,h1'];done) | (rw [Bool.eq_iff_iff];simp [qF,zew,zbL,za2,h1,h1'];omega) | (simp [qF,zew,zbL,za2,h1,h1'];omega)
  exact qC [zau qN,iv (za5 e)] (qY rfl rfl (zaK qN) (zU rfl rfl)) (all_cons (zaA qN) (all_cons rfl rfl)) (by rw [E0_];rfl) rfl rfl
 have h1': ¬(za5 e≠0):=zfO h1
 have hs:0≤e.s∧e.s < 64:=check_s h1'
 have hk6:1≤e.k∧e.k≤6:=check_k h1'
 refine qM (zA (zJ (zJ (zN (o_s (by refine zV (v:=zau c) rfl rfl ?_;exact zaK c) ?_)))))
 refine o_d 1 [(15,.agg (xl e))] (qT (zal (refBadC c e hs) rfl (all_cons (zbr c) (all_cons rfl rfl)) rfl (zE (zA (qK (t:=zcm c e) rfl (fun h2=>?_) (fun h2=>?_))))))
 ·skip
  refine zJ (zN (o_s (by refine zej (c:=pl qN) ?_;exact bld_zP) ?_))
  refine zdu (by refine zao (c':=pl qN) rfl rfl rfl ?_ ?_ ?_;exact qH _;exact zb8 om;exact zac qN qN) ?_
  refine o_d 1 [(5,iv 12)] (zE (zA (qV ?_)))
  have E0_:qF c e=(qN,12):=by
   first | (simp [qF,zew,zbL,za2,h1,h1',h2];done) | (simp [qF,zew,zbL,za2,h1,h1',h2]<;>rfl) | (rw [Bool.eq_iff_iff];simp [qF,zew,zbL,za2,h1,h1',h2];done) | (rw [Bool.eq_iff_iff];simp [qF,zew,zbL,za2,h1,h1',h2];omega) | (simp [qF,zew,zbL,za2,h1,h1',h2];omega)
  exact qC [zau qN,iv 12] (qY rfl rfl (zaK qN) (zU rfl rfl)) (all_cons (zaA qN) (all_cons rfl rfl)) (by rw [E0_];rfl) rfl rfl
 refine qM (zA (ziX (fun s=>0=0∧(e.k=5→¬(c 323 < i64.wrap (c (3+5*e.s.toNat+4)+3)))∧s=⟨reg (xi 4 2 0 3 1 2 0),[cw (pl c),cw (wF e),cw (pl qN)]⟩) ?_ ?_))
 ·skip
  refine zJ (zbF [] (r_d 4 [(21,bv (e.k==5)),(20,bv (e.k==5)),(19,iv e.k),(18,pv 1 0)] (r_sp (b:=e.k==5) 21 rfl (fun h3=>?_) (fun h3=>?_))))
  ·skip
   have h3':e.k=5:=zaL h3
   refine r_d 2 [(23,pv 0 323),(22,pv 0 323)] (zdY rfl (r_s (by refine zV (v:=iv (c 323)) rfl rfl ?_;exact pl_r c 323 rfl om) ?_))
   refine r_d 3 [(27,pv 0 3),(26,iv e.s),(25,pv 1 1)] (zdY rfl (r_s (by exact zaN (o:=3) (o':=3+5*e.s.toNat) rfl rfl om om) ?_))
   refine zdY rfl (r_s (by refine zcf (o':=7+5*e.s.toNat) rfl om) ?_)
   refine zdY rfl (r_s (by refine zV (v:=iv (c (3+5*e.s.toNat+4))) rfl rfl ?_;exact pl_r c (3+5*e.s.toNat+4) om om) ?_)
   refine r_d 3 [(33,bv (decide (c 323 < i64.wrap (c (3+5*e.s.toNat+4)+3)))),(32,bv (decide (c 323 < i64.wrap (c (3+5*e.s.toNat+4)+3)))),(31,iv (i64.wrap (c (3+5*e.s.toNat+4)+3)))] (zbk (zT [(33,bv (decide (c 323 < i64.wrap (c (3+5*e.s.toNat+4)+3)))),(4,pv 2 0),(3,pv 1 0),(2,pv 0 0)] (qK (t:=decide (c 323 < i64.wrap (c (3+5*e.s.toNat+4)+3))) rfl (fun h4=>?_) (fun h4=>?_))))
   ·skip
    have h4':c 323 < i64.wrap (c (3+5*e.s.toNat+4)+3):=of_decide_eq_true h4
    refine zJ (zN (o_s (by refine zej (c:=pl qN) ?_;exact bld_zP) ?_))
    refine zdu (by refine zao (c':=pl qN) rfl rfl rfl ?_ ?_ ?_;exact qH _;exact zb8 om;exact zac qN qN) ?_
    refine o_d 1 [(5,iv 13)] (zE (zA (qV ?_)))
    have E0_:qF c e=(qN,13):=by
     first | (simp [qF,zew,zbL,za2,h1,h1',h2,h3,h3',h4,h4'];done) | (simp [qF,zew,zbL,za2,h1,h1',h2,h3,h3',h4,h4']<;>rfl) | (rw [Bool.eq_iff_iff];simp [qF,zew,zbL,za2,h1,h1',h2,h3,h3',h4,h4'];done) | (rw [Bool.eq_iff_iff];simp [qF,zew,zbL,za2,h1,h1',h2,h3,h3',h4,h4'];omega) | (simp [qF,zew,zbL,za2,h1,h1',h2,h3,h3',h4,h4'];omega)
    exact qC [zau qN,iv 13] (qY rfl rfl (zaK qN) (zU rfl rfl)) (all_cons (zaA qN) (all_cons rfl rfl)) (by rw [E0_];rfl) rfl rfl
   have h4': ¬(c 323 < i64.wrap (c (3+5*e.s.toNat+4)+3)):=of_decide_eq_false h4
   refine qM (⟨⟨reg (xi 4 2 0 3 1 2 0),[cw (pl c),cw (wF e),cw (pl qN)]⟩, ?_⟩)
   refine ⟨?_, ?_⟩
   ·exact Wk.ren [0,1,2] rfl rfl dC ⟨rfl,rfl,rfl,trivial⟩ ⟨.inl (zW (zaq c)),.inl rfl,.inl (zW (zaq qN)),trivial⟩
   ·exact ⟨rfl,(fun q=>by first | exact absurd q h3' | assumption),rfl⟩
  have h3': ¬(e.k=5):=zaM h3
  refine r_d 12 ((33,bv false)::(32,undef)::(31,undef)::(30,undef)::(29,undef)::(28,undef)::(27,undef)::(26,undef)::(y9 25 24 23 22)) (zbk (zT [(33,bv false),(4,pv 2 0),(3,pv 1 0),(2,pv 0 0)] (zba rfl (qM (⟨⟨reg (xi 4 2 0 3 1 2 0),[cw (pl c),cw (wF e),cw (pl qN)]⟩, ?_⟩)))))
  refine ⟨?_, ?_⟩
  ·exact Wk.ren [0,1,2] rfl rfl dC ⟨rfl,rfl,rfl,trivial⟩ ⟨.inl (zW (zaq c)),.inl rfl,.inl (zW (zaq qN)),trivial⟩
  ·exact ⟨rfl,(fun q=>by first | exact absurd q h3' | assumption),rfl⟩
 rintro s ⟨-,hfit,rfl⟩
 refine ziX (fun s=> ∃(d:q9),0=0∧(d=upd c 0 (i64.wrap (c 0+1)))∧s=⟨reg (xi 4 2 0 3 1 2 0),[cw (pl d),cw (wF e),cw (pl qN)]⟩) ?_ ?_
 ·skip
  refine zN (o_d 1 [(35,pv 0 0)] (o_s (by refine zV (v:=iv (c 0)) rfl rfl ?_;exact pl_r c 0 rfl om) ?_))
  refine o_d 2 [(38,pv 0 0),(37,iv (i64.wrap (c 0+1)))] (zdu (by refine zao (c':=pl (upd c 0 (i64.wrap (c 0+1)))) rfl rfl rfl ?_ ?_ ?_;exact rfl;exact zb8 om;exact pl_w c 0 (i64.wrap (c 0+1)) om om) ?_)
  refine zE (⟨⟨reg (xi 4 2 0 3 1 2 0),[cw (pl (upd c 0 (i64.wrap (c 0+1)))),cw (wF e),cw (pl qN)]⟩, ?_⟩)
  refine ⟨?_, ?_⟩
  ·exact Wk.ren [0,1,2] rfl rfl dC ⟨rfl,rfl,rfl,trivial⟩ ⟨.inl (zW (zaq (upd c 0 (i64.wrap (c 0+1))))),.inl rfl,.inl (zW (zaq qN)),trivial⟩
  ·exact ⟨(upd c 0 (i64.wrap (c 0+1))),rfl,rfl,rfl⟩
 rintro s ⟨d,-,hd,rfl⟩
 refine zJ (zN (o_d 3 [(41,pv 0 3),(40,iv e.s),(39,pv 1 1)] (o_s (by exact zaN (o:=3) (o':=3+5*e.s.toNat) rfl rfl om om) ?_)))
 refine o_s (by refine zV (v:= .agg #[iv (d (3+5*e.s.toNat)),iv (d (3+5*e.s.toNat+1)),iv (d (3+5*e.s.toNat+2)),iv (d (3+5*e.s.toNat+3)),iv (d (3+5*e.s.toNat+4))]) rfl rfl ?_;exact pl_rS d e.s.toNat om om) ?_
 refine o_b 2 [(7,pv 3 0)] [cw (pl d),cw (wF e),cw (pl qN),cw [iv (d (3+5*e.s.toNat)),iv (d (3+5*e.s.toNat+1)),iv (d (3+5*e.s.toNat+2)),iv (d (3+5*e.s.toNat+3)),iv (d (3+5*e.s.toNat+4))]] (zE (zA (zJ (zJ (zN (o_d 2 [(45,iv e.k),(44,pv 1 0)] (zE (zA (zab (zJ (zN (o_d 2 [(46,bv (e.k==1)),(47,bv (e.k==1))] ?_))))))))))))
 refine zE (zA (qK (t:=e.k==1) rfl (fun h5=>?_) (fun h5=>?_)))
 ·skip
  have h5':e.k=1:=zaL h5
  refine zN (o_b 8 [(54,.agg #[iv 1,iv e.a,iv e.p,iv e.g,iv 0]),(53,iv e.g),(52,pv 1 4),(51,iv e.p),(50,pv 1 3),(49,iv e.a),(48,pv 1 2)] [cw (pl d),cw (wF e),cw (pl qN),cw [iv 1,iv e.a,iv e.p,iv e.g,iv 0]] (zE (zA (zJ (zN (o_d 4 [(82,pv 0 3),(81,.agg #[iv 1,iv e.a,iv e.p,iv e.g,iv 0]),(80,iv e.s),(79,pv 1 1)] (o_s (by exact zaN (o:=3) (o':=3+5*e.s.toNat) rfl rfl om om) ?_)))))))
  refine zdu (by refine zao (c':=pl (qB d e.s.toNat 1 e.a e.p e.g 0)) rfl rfl rfl ?_ ?_ ?_;exact rfl;exact zb8 om;exact pl_wS d e.s.toNat 1 e.a e.p e.g 0 om om) ?_
  refine zE (zT [(4,pv 2 0),(2,pv 0 0)] (zJ (zN (o_s (by refine zV (v:=zau (qB d e.s.toNat 1 e.a e.p e.g 0)) rfl rfl ?_;exact zaK (qB d e.s.toNat 1 e.a e.p e.g 0)) ?_))))
  refine zdu (by refine zao (c':=pl (qB d e.s.toNat 1 e.a e.p e.g 0)) rfl rfl rfl ?_ ?_ ?_;exact qH _;exact zb8 om;exact zac qN (qB d e.s.toNat 1 e.a e.p e.g 0)) ?_
  refine o_b 1 [(5,iv 0)] [cw (pl (qB d e.s.toNat 1 e.a e.p e.g 0)),cw (wF e),cw (pl (qB d e.s.toNat 1 e.a e.p e.g 0)),cw [iv 1,iv e.a,iv e.p,iv e.g,iv 0]] (zE (zA (qV ?_)))
  have E0_:qF c e=(qB d e.s.toNat 1 e.a e.p e.g 0,0):=by
   subst hd
   first | (simp [qF,zew,zbL,za2,hfit,h1,h1',h2,h5,h5'];done) | (simp [qF,zew,zbL,za2,hfit,h1,h1',h2,h5,h5']<;>rfl) | (rw [Bool.eq_iff_iff];simp [qF,zew,zbL,za2,hfit,h1,h1',h2,h5,h5'];done) | (rw [Bool.eq_iff_iff];simp [qF,zew,zbL,za2,hfit,h1,h1',h2,h5,h5'];omega) | (simp [qF,zew,zbL,za2,hfit,h1,h1',h2,h5,h5'];omega)
  exact qC [zau (qB d e.s.toNat 1 e.a e.p e.g 0),iv 0] (qY rfl rfl (zaK (qB d e.s.toNat 1 e.a e.p e.g 0)) (zU rfl rfl)) (all_cons (zaA (qB d e.s.toNat 1 e.a e.p e.g 0)) (all_cons rfl rfl)) (by rw [E0_];rfl) rfl rfl
 have h5': ¬(e.k=1):=zaM h5
 refine zJ (zN (o_d 2 [(55,bv (e.k==2)),(56,bv (e.k==2))] (zE (zA (qK (t:=e.k==2) rfl (fun h6=>?_) (fun h6=>?_))))))
 ·skip
  have h6':e.k=2:=zaL h6
  refine zN (o_b 2 [(57,pv 3 0)] [cw (pl d),cw (wF e),cw (pl qN),cw [iv 2,iv (d (3+5*e.s.toNat+1)),iv (d (3+5*e.s.toNat+2)),iv (d (3+5*e.s.toNat+3)),iv (d (3+5*e.s.toNat+4))]] (zE (zA (zJ (zN (o_d 4 [(82,pv 0 3),(81,.agg #[iv 2,iv (d (3+5*e.s.toNat+1)),iv (d (3+5*e.s.toNat+2)),iv (d (3+5*e.s.toNat+3)),iv (d (3+5*e.s.toNat+4))]),(80,iv e.s),(79,pv 1 1)] (o_s (by exact zaN (o:=3) (o':=3+5*e.s.toNat) rfl rfl om om) ?_)))))))
  refine zdu (by refine zao (c':=pl (qB d e.s.toNat 2 (d (3+5*e.s.toNat+1)) (d (3+5*e.s.toNat+2)) (d (3+5*e.s.toNat+3)) (d (3+5*e.s.toNat+4)))) rfl rfl rfl ?_ ?_ ?_;exact rfl;exact zb8 om;exact pl_wS d e.s.toNat 2 (d (3+5*e.s.toNat+1)) (d (3+5*e.s.toNat+2)) (d (3+5*e.s.toNat+3)) (d (3+5*e.s.toNat+4)) om om) ?_
  refine zE (zA (zJ (zN (o_s (by refine zV (v:=zau (qB d e.s.toNat 2 (d (3+5*e.s.toNat+1)) (d (3+5*e.s.toNat+2)) (d (3+5*e.s.toNat+3)) (d (3+5*e.s.toNat+4)))) rfl rfl ?_;exact zaK (qB d e.s.toNat 2 (d (3+5*e.s.toNat+1)) (d (3+5*e.s.toNat+2)) (d (3+5*e.s.toNat+3)) (d (3+5*e.s.toNat+4)))) ?_))))
  refine zdu (by refine zao (c':=pl (qB d e.s.toNat 2 (d (3+5*e.s.toNat+1)) (d (3+5*e.s.toNat+2)) (d (3+5*e.s.toNat+3)) (d (3+5*e.s.toNat+4)))) rfl rfl rfl ?_ ?_ ?_;exact qH _;exact zb8 om;exact zac qN (qB d e.s.toNat 2 (d (3+5*e.s.toNat+1)) (d (3+5*e.s.toNat+2)) (d (3+5*e.s.toNat+3)) (d (3+5*e.s.toNat+4)))) ?_
  refine o_b 1 [(5,iv 0)] [cw (pl (qB d e.s.toNat 2 (d (3+5*e.s.toNat+1)) (d (3+5*e.s.toNat+2)) (d (3+5*e.s.toNat+3)) (d (3+5*e.s.toNat+4)))),cw (wF e),cw (pl (qB d e.s.toNat 2 (d (3+5*e.s.toNat+1)) (d (3+5*e.s.toNat+2)) (d (3+5*e.s.toNat+3)) (d (3+5*e.s.toNat+4)))),cw [iv 2,iv (d (3+5*e.s.toNat+1)),iv (d (3+5*e.s.toNat+2)),iv (d (3+5*e.s.toNat+3)),iv (d (3+5*e.s.toNat+4))]] (zE (zT [(5,iv 0),(4,pv 2 0)] (qV ?_)))
  have E0_:qF c e=(qB d e.s.toNat 2 (d (3+5*e.s.toNat+1)) (d (3+5*e.s.toNat+2)) (d (3+5*e.s.toNat+3)) (d (3+5*e.s.toNat+4)),0):=by
   subst hd
   have hd:=zf2 (upd c 0 (i64.wrap (c 0+1))) e.s.toNat
   simp only [hd]
   simp [qF,zew,zbL,za2,h1,h1',h2,h5,h5',h6,h6',hfit]
  exact qC [zau (qB d e.s.toNat 2 (d (3+5*e.s.toNat+1)) (d (3+5*e.s.toNat+2)) (d (3+5*e.s.toNat+3)) (d (3+5*e.s.toNat+4))),iv 0] (qY rfl rfl (zaK (qB d e.s.toNat 2 (d (3+5*e.s.toNat+1)) (d (3+5*e.s.toNat+2)) (d (3+5*e.s.toNat+3)) (d (3+5*e.s.toNat+4)))) (zU rfl rfl)) (all_cons (zaA (qB d e.s.toNat 2 (d (3+5*e.s.toNat+1)) (d (3+5*e.s.toNat+2)) (d (3+5*e.s.toNat+3)) (d (3+5*e.s.toNat+4)))) (all_cons rfl rfl)) (by rw [E0_];rfl) rfl rfl
 have h6': ¬(e.k=2):=zaM h6
 refine zJ (zN (o_d 2 [(58,bv (e.k==3)),(59,bv (e.k==3))] (zE (zA (qK (t:=e.k==3) rfl (fun h7=>?_) (fun h7=>?_))))))
 ·skip
  have h7':e.k=3:=zaL h7
  refine zN (o_b 2 [(60,pv 3 0)] [cw (pl d),cw (wF e),cw (pl qN),cw [iv 3,iv (d (3+5*e.s.toNat+1)),iv (d (3+5*e.s.toNat+2)),iv (d (3+5*e.s.toNat+3)),iv (d (3+5*e.s.toNat+4))]] (zE (zA (zJ (zN (o_d 4 [(82,pv 0 3),(81,.agg #[iv 3,iv (d (3+5*e.s.toNat+1)),iv (d (3+5*e.s.toNat+2)),iv (d (3+5*e.s.toNat+3)),iv (d (3+5*e.s.toNat+4))]),(80,iv e.s),(79,pv 1 1)] (o_s (by exact zaN (o:=3) (o':=3+5*e.s.toNat) rfl rfl om om) ?_)))))))
  refine zdu (by refine zao (c':=pl (qB d e.s.toNat 3 (d (3+5*e.s.toNat+1)) (d (3+5*e.s.toNat+2)) (d (3+5*e.s.toNat+3)) (d (3+5*e.s.toNat+4)))) rfl rfl rfl ?_ ?_ ?_;exact rfl;exact zb8 om;exact pl_wS d e.s.toNat 3 (d (3+5*e.s.toNat+1)) (d (3+5*e.s.toNat+2)) (d (3+5*e.s.toNat+3)) (d (3+5*e.s.toNat+4)) om om) ?_
  refine zE (zT [(4,pv 2 0),(2,pv 0 0)] (zJ (zN (o_s (by refine zV (v:=zau (qB d e.s.toNat 3 (d (3+5*e.s.toNat+1)) (d (3+5*e.s.toNat+2)) (d (3+5*e.s.toNat+3)) (d (3+5*e.s.toNat+4)))) rfl rfl ?_;exact zaK (qB d e.s.toNat 3 (d (3+5*e.s.toNat+1)) (d (3+5*e.s.toNat+2)) (d (3+5*e.s.toNat+3)) (d (3+5*e.s.toNat+4)))) ?_))))
  refine zdu (by refine zao (c':=pl (qB d e.s.toNat 3 (d (3+5*e.s.toNat+1)) (d (3+5*e.s.toNat+2)) (d (3+5*e.s.toNat+3)) (d (3+5*e.s.toNat+4)))) rfl rfl rfl ?_ ?_ ?_;exact qH _;exact zb8 om;exact zac qN (qB d e.s.toNat 3 (d (3+5*e.s.toNat+1)) (d (3+5*e.s.toNat+2)) (d (3+5*e.s.toNat+3)) (d (3+5*e.s.toNat+4)))) ?_
  refine o_b 1 [(5,iv 0)] [cw (pl (qB d e.s.toNat 3 (d (3+5*e.s.toNat+1)) (d (3+5*e.s.toNat+2)) (d (3+5*e.s.toNat+3)) (d (3+5*e.s.toNat+4)))),cw (wF e),cw (pl (qB d e.s.toNat 3 (d (3+5*e.s.toNat+1)) (d (3+5*e.s.toNat+2)) (d (3+5*e.s.toNat+3)) (d (3+5*e.s.toNat+4)))),cw [iv 3,iv (d (3+5*e.s.toNat+1)),iv (d (3+5*e.s.toNat+2)),iv (d (3+5*e.s.toNat+3)),iv (d (3+5*e.s.toNat+4))]] (zE (zA (qV ?_)))
  have E0_:qF c e=(qB d e.s.toNat 3 (d (3+5*e.s.toNat+1)) (d (3+5*e.s.toNat+2)) (d (3+5*e.s.toNat+3)) (d (3+5*e.s.toNat+4)),0):=by
   subst hd
   have hd:=zf2 (upd c 0 (i64.wrap (c 0+1))) e.s.toNat
   simp only [hd]
   simp [qF,zew,zbL,za2,h1,h1',h2,h5,h5',h6,h6',h7,h7',hfit]
  exact qC [zau (qB d e.s.toNat 3 (d (3+5*e.s.toNat+1)) (d (3+5*e.s.toNat+2)) (d (3+5*e.s.toNat+3)) (d (3+5*e.s.toNat+4))),iv 0] (qY rfl rfl (zaK (qB d e.s.toNat 3 (d (3+5*e.s.toNat+1)) (d (3+5*e.s.toNat+2)) (d (3+5*e.s.toNat+3)) (d (3+5*e.s.toNat+4)))) (zU rfl rfl)) (all_cons (zaA (qB d e.s.toNat 3 (d (3+5*e.s.toNat+1)) (d (3+5*e.s.toNat+2)) (d (3+5*e.s.toNat+3)) (d (3+5*e.s.toNat+4)))) (all_cons rfl rfl)) (by rw [E0_];rfl) rfl rfl
 have h7': ¬(e.k=3):=zaM h7
 refine zJ (zN (o_d 2 [(61,bv (e.k==4)),(62,bv (e.k==4))] (zE (zA (qK (t:=e.k==4) rfl (fun h8=>?_) (fun h8=>?_))))))
 ·skip
  have h8':e.k=4:=zaL h8
  refine gdregK [(67,pv 3 4),(66,pv 3 0),(65,iv (d 323)),(64,pv 0 323),(63,pv 0 323)] [cw (pl d),cw (wF e),cw (pl qN),cw [iv 4,iv (d (3+5*e.s.toNat+1)),iv (d (3+5*e.s.toNat+2)),iv (d (3+5*e.s.toNat+3)),iv (d 323)]] (by kernel_rfl) (zA (zJ (zN (o_d 4 [(82,pv 0 3),(81,.agg #[iv 4,iv (d (3+5*e.s.toNat+1)),iv (d (3+5*e.s.toNat+2)),iv (d (3+5*e.s.toNat+3)),iv (d 323)]),(80,iv e.s),(79,pv 1 1)] (o_s (by exact zaN (o:=3) (o':=3+5*e.s.toNat) rfl rfl om om) ?_)))))
  refine zdu (by refine zao (c':=pl (qB d e.s.toNat 4 (d (3+5*e.s.toNat+1)) (d (3+5*e.s.toNat+2)) (d (3+5*e.s.toNat+3)) (d 323))) rfl rfl rfl ?_ ?_ ?_;exact rfl;exact zb8 om;exact pl_wS d e.s.toNat 4 (d (3+5*e.s.toNat+1)) (d (3+5*e.s.toNat+2)) (d (3+5*e.s.toNat+3)) (d 323) om om) ?_
  refine zE (zT [(4,pv 2 0),(2,pv 0 0)] (zJ (zN (o_s (by refine zV (v:=zau (qB d e.s.toNat 4 (d (3+5*e.s.toNat+1)) (d (3+5*e.s.toNat+2)) (d (3+5*e.s.toNat+3)) (d 323))) rfl rfl ?_;exact zaK (qB d e.s.toNat 4 (d (3+5*e.s.toNat+1)) (d (3+5*e.s.toNat+2)) (d (3+5*e.s.toNat+3)) (d 323))) ?_))))
  refine zdu (by refine zao (c':=pl (qB d e.s.toNat 4 (d (3+5*e.s.toNat+1)) (d (3+5*e.s.toNat+2)) (d (3+5*e.s.toNat+3)) (d 323))) rfl rfl rfl ?_ ?_ ?_;exact qH _;exact zb8 om;exact zac qN (qB d e.s.toNat 4 (d (3+5*e.s.toNat+1)) (d (3+5*e.s.toNat+2)) (d (3+5*e.s.toNat+3)) (d 323))) ?_
  refine o_b 1 [(5,iv 0)] [cw (pl (qB d e.s.toNat 4 (d (3+5*e.s.toNat+1)) (d (3+5*e.s.toNat+2)) (d (3+5*e.s.toNat+3)) (d 323))),cw (wF e),cw (pl (qB d e.s.toNat 4 (d (3+5*e.s.toNat+1)) (d (3+5*e.s.toNat+2)) (d (3+5*e.s.toNat+3)) (d 323))),cw [iv 4,iv (d (3+5*e.s.toNat+1)),iv (d (3+5*e.s.toNat+2)),iv (d (3+5*e.s.toNat+3)),iv (d 323)]] (zE (zA (qV ?_)))
  have E0_:qF c e=(qB d e.s.toNat 4 (d (3+5*e.s.toNat+1)) (d (3+5*e.s.toNat+2)) (d (3+5*e.s.toNat+3)) (d 323),0):=by
   subst hd
   have hd:=zi6 (upd c 0 (i64.wrap (c 0+1))) e.s.toNat
   simp only [hd]
   simp [qF,zew,zbL,za2,zc3,h1,h1',h2,h5,h5',h6,h6',h7,h7',h8,h8',hfit]
  exact qC [zau (qB d e.s.toNat 4 (d (3+5*e.s.toNat+1)) (d (3+5*e.s.toNat+2)) (d (3+5*e.s.toNat+3)) (d 323)),iv 0] (qY rfl rfl (zaK (qB d e.s.toNat 4 (d (3+5*e.s.toNat+1)) (d (3+5*e.s.toNat+2)) (d (3+5*e.s.toNat+3)) (d 323))) (zU rfl rfl)) (all_cons (zaA (qB d e.s.toNat 4 (d (3+5*e.s.toNat+1)) (d (3+5*e.s.toNat+2)) (d (3+5*e.s.toNat+3)) (d 323))) (all_cons rfl rfl)) (by rw [E0_];rfl) rfl rfl
 have h8': ¬(e.k=4):=zaM h8
 refine zJ (zN (o_d 2 [(68,bv (e.k==5)),(69,bv (e.k==5))] (zE (zA (qK (t:=e.k==5) rfl (fun h9=>?_) (fun h9=>?_))))))
 ·skip
  have h9':e.k=5:=zaL h9
  refine zN (o_b 2 [(70,.agg #[iv 0,iv 0,iv 0,iv 0,iv 0])] [cw (pl d),cw (wF e),cw (pl qN),cw [iv 0,iv 0,iv 0,iv 0,iv 0]] (zE (zA (zJ (zN (o_d 4 [(82,pv 0 3),(81,.agg #[iv 0,iv 0,iv 0,iv 0,iv 0]),(80,iv e.s),(79,pv 1 1)] (o_s (by exact zaN (o:=3) (o':=3+5*e.s.toNat) rfl rfl om om) ?_)))))))
  refine zdu (by refine zao (c':=pl (qB d e.s.toNat 0 0 0 0 0)) rfl rfl rfl ?_ ?_ ?_;exact rfl;exact zb8 om;exact pl_wS d e.s.toNat 0 0 0 0 0 om om) ?_
  refine zE (zT [(4,pv 2 0),(2,pv 0 0)] (zJ (zN (o_s (by refine zV (v:=zau (qB d e.s.toNat 0 0 0 0 0)) rfl rfl ?_;exact zaK (qB d e.s.toNat 0 0 0 0 0)) ?_))))
  refine zdu (by refine zao (c':=pl (qB d e.s.toNat 0 0 0 0 0)) rfl rfl rfl ?_ ?_ ?_;exact qH _;exact zb8 om;exact zac qN (qB d e.s.toNat 0 0 0 0 0)) ?_
  refine o_b 1 [(5,iv 0)] [cw (pl (qB d e.s.toNat 0 0 0 0 0)),cw (wF e),cw (pl (qB d e.s.toNat 0 0 0 0 0)),cw [iv 0,iv 0,iv 0,iv 0,iv 0]] (zE (zA (qV ?_)))
  have E0_:qF c e=(qB d e.s.toNat 0 0 0 0 0,0):=by
   subst hd
   first | (simp [qF,zew,zbL,za2,hfit,h1,h1',h2,h5,h5',h6,h6',h7,h7',h8,h8',h9,h9'];done) | (simp [qF,zew,zbL,za2,hfit,h1,h1',h2,h5,h5',h6,h6',h7,h7',h8,h8',h9,h9']<;>rfl) | (rw [Bool.eq_iff_iff];simp [qF,zew,zbL,za2,hfit,h1,h1',h2,h5,h5',h6,h6',h7,h7',h8,h8',h9,h9'];done) | (rw [Bool.eq_iff_iff];simp [qF,zew,zbL,za2,hfit,h1,h1',h2,h5,h5',h6,h6',h7,h7',h8,h8',h9,h9'];omega) | (simp [qF,zew,zbL,za2,hfit,h1,h1',h2,h5,h5',h6,h6',h7,h7',h8,h8',h9,h9'];omega)
  exact qC [zau (qB d e.s.toNat 0 0 0 0 0),iv 0] (qY rfl rfl (zaK (qB d e.s.toNat 0 0 0 0 0)) (zU rfl rfl)) (all_cons (zaA (qB d e.s.toNat 0 0 0 0 0)) (all_cons rfl rfl)) (by rw [E0_];rfl) rfl rfl
 have h9': ¬(e.k=5):=zaM h9
 refine zJ (zN (o_d 2 [(71,bv (e.k==6)),(72,bv (e.k==6))] (zE (zA (qK (t:=e.k==6) rfl (fun h10=>?_) (fun h10=>?_))))))
 ·skip
  have h10':e.k=6:=zaL h10
  refine zN (o_d 1 [(73,pv 0 323)] (o_s (by refine zV (v:= .agg (vF d)) rfl rfl ?_;exact pl_ring d) ?_))
  refine o_d 2 [(76,.agg #[uv e.ka,uv e.kb]),(75,pv 1 5)] (qT (zal (refNextC) rfl rfl rfl (o_d 1 [(78,pv 0 323)] (zdu (by refine zao (c':=pl (upd (upd (upd (upd (upd (upd (upd d 323 (i64.wrap ((d 323)+1))) 324 (d 326)) 325 (d 327)) 326 (d 328)) 327 (d 329)) 328 e.ka) 329 e.kb)) rfl rfl rfl ?_ ?_ ?_;exact rfl;exact zb8 om;exact zh1 d (i64.wrap ((d 323)+1)) (d 326) (d 327) (d 328) (d 329) e.ka e.kb) ?_))))
  refine zE (zT (wM 7 3 0 4 2 3 1 2 0) (zJ (zN (o_d 4 [(82,pv 0 3),(81,.agg #[iv (d (3+5*e.s.toNat)),iv (d (3+5*e.s.toNat+1)),iv (d (3+5*e.s.toNat+2)),iv (d (3+5*e.s.toNat+3)),iv (d (3+5*e.s.toNat+4))]),(80,iv e.s),(79,pv 1 1)] (o_s (by exact zaN (o:=3) (o':=3+5*e.s.toNat) rfl rfl om om) ?_)))))
  refine zdu (by refine zao (c':=pl (qB (upd (upd (upd (upd (upd (upd (upd d 323 (i64.wrap ((d 323)+1))) 324 (d 326)) 325 (d 327)) 326 (d 328)) 327 (d 329)) 328 e.ka) 329 e.kb) e.s.toNat (d (3+5*e.s.toNat)) (d (3+5*e.s.toNat+1)) (d (3+5*e.s.toNat+2)) (d (3+5*e.s.toNat+3)) (d (3+5*e.s.toNat+4)))) rfl rfl rfl ?_ ?_ ?_;exact rfl;exact zb8 om;exact pl_wS (upd (upd (upd (upd (upd (upd (upd d 323 (i64.wrap ((d 323)+1))) 324 (d 326)) 325 (d 327)) 326 (d 328)) 327 (d 329)) 328 e.ka) 329 e.kb) e.s.toNat (d (3+5*e.s.toNat)) (d (3+5*e.s.toNat+1)) (d (3+5*e.s.toNat+2)) (d (3+5*e.s.toNat+3)) (d (3+5*e.s.toNat+4)) om om) ?_
  refine zE (zA (zJ (zN (o_s (by refine zV (v:=zau (qB (upd (upd (upd (upd (upd (upd (upd d 323 (i64.wrap ((d 323)+1))) 324 (d 326)) 325 (d 327)) 326 (d 328)) 327 (d 329)) 328 e.ka) 329 e.kb) e.s.toNat (d (3+5*e.s.toNat)) (d (3+5*e.s.toNat+1)) (d (3+5*e.s.toNat+2)) (d (3+5*e.s.toNat+3)) (d (3+5*e.s.toNat+4)))) rfl rfl ?_;exact zaK (qB (upd (upd (upd (upd (upd (upd (upd d 323 (i64.wrap ((d 323)+1))) 324 (d 326)) 325 (d 327)) 326 (d 328)) 327 (d 329)) 328 e.ka) 329 e.kb) e.s.toNat (d (3+5*e.s.toNat)) (d (3+5*e.s.toNat+1)) (d (3+5*e.s.toNat+2)) (d (3+5*e.s.toNat+3)) (d (3+5*e.s.toNat+4)))) ?_))))
  refine zdu (by refine zao (c':=pl (qB (upd (upd (upd (upd (upd (upd (upd d 323 (i64.wrap ((d 323)+1))) 324 (d 326)) 325 (d 327)) 326 (d 328)) 327 (d 329)) 328 e.ka) 329 e.kb) e.s.toNat (d (3+5*e.s.toNat)) (d (3+5*e.s.toNat+1)) (d (3+5*e.s.toNat+2)) (d (3+5*e.s.toNat+3)) (d (3+5*e.s.toNat+4)))) rfl rfl rfl ?_ ?_ ?_;exact qH _;exact zb8 om;exact zac qN (qB (upd (upd (upd (upd (upd (upd (upd d 323 (i64.wrap ((d 323)+1))) 324 (d 326)) 325 (d 327)) 326 (d 328)) 327 (d 329)) 328 e.ka) 329 e.kb) e.s.toNat (d (3+5*e.s.toNat)) (d (3+5*e.s.toNat+1)) (d (3+5*e.s.toNat+2)) (d (3+5*e.s.toNat+3)) (d (3+5*e.s.toNat+4)))) ?_
  refine o_b 1 [(5,iv 0)] [cw (pl (qB (upd (upd (upd (upd (upd (upd (upd d 323 (i64.wrap ((d 323)+1))) 324 (d 326)) 325 (d 327)) 326 (d 328)) 327 (d 329)) 328 e.ka) 329 e.kb) e.s.toNat (d (3+5*e.s.toNat)) (d (3+5*e.s.toNat+1)) (d (3+5*e.s.toNat+2)) (d (3+5*e.s.toNat+3)) (d (3+5*e.s.toNat+4)))),cw (wF e),cw (pl (qB (upd (upd (upd (upd (upd (upd (upd d 323 (i64.wrap ((d 323)+1))) 324 (d 326)) 325 (d 327)) 326 (d 328)) 327 (d 329)) 328 e.ka) 329 e.kb) e.s.toNat (d (3+5*e.s.toNat)) (d (3+5*e.s.toNat+1)) (d (3+5*e.s.toNat+2)) (d (3+5*e.s.toNat+3)) (d (3+5*e.s.toNat+4)))),cw [iv (d (3+5*e.s.toNat)),iv (d (3+5*e.s.toNat+1)),iv (d (3+5*e.s.toNat+2)),iv (d (3+5*e.s.toNat+3)),iv (d (3+5*e.s.toNat+4))]] (zE (zA (qV ?_)))
  have E0_:qF c e=(qB (upd (upd (upd (upd (upd (upd (upd d 323 (i64.wrap ((d 323)+1))) 324 (d 326)) 325 (d 327)) 326 (d 328)) 327 (d 329)) 328 e.ka) 329 e.kb) e.s.toNat (d (3+5*e.s.toNat)) (d (3+5*e.s.toNat+1)) (d (3+5*e.s.toNat+2)) (d (3+5*e.s.toNat+3)) (d (3+5*e.s.toNat+4)),0):=by
   subst hd
   rw [setSlot_id (zek _ _ _ _ _ _ _ _ om).symm (zek _ _ _ _ _ _ _ _ om).symm (zek _ _ _ _ _ _ _ _ om).symm (zek _ _ _ _ _ _ _ _ om).symm (zek _ _ _ _ _ _ _ _ om).symm]
   simp [qF,zew,zbL,za2,nextS,zc3,h1,h1',h2,h5,h5',h6,h6',h7,h7',h8,h8',h9,h9',h10,h10',hfit]
  exact qC [zau (qB (upd (upd (upd (upd (upd (upd (upd d 323 (i64.wrap ((d 323)+1))) 324 (d 326)) 325 (d 327)) 326 (d 328)) 327 (d 329)) 328 e.ka) 329 e.kb) e.s.toNat (d (3+5*e.s.toNat)) (d (3+5*e.s.toNat+1)) (d (3+5*e.s.toNat+2)) (d (3+5*e.s.toNat+3)) (d (3+5*e.s.toNat+4))),iv 0] (qY rfl rfl (zaK (qB (upd (upd (upd (upd (upd (upd (upd d 323 (i64.wrap ((d 323)+1))) 324 (d 326)) 325 (d 327)) 326 (d 328)) 327 (d 329)) 328 e.ka) 329 e.kb) e.s.toNat (d (3+5*e.s.toNat)) (d (3+5*e.s.toNat+1)) (d (3+5*e.s.toNat+2)) (d (3+5*e.s.toNat+3)) (d (3+5*e.s.toNat+4)))) (zU rfl rfl)) (all_cons (zaA (qB (upd (upd (upd (upd (upd (upd (upd d 323 (i64.wrap ((d 323)+1))) 324 (d 326)) 325 (d 327)) 326 (d 328)) 327 (d 329)) 328 e.ka) 329 e.kb) e.s.toNat (d (3+5*e.s.toNat)) (d (3+5*e.s.toNat+1)) (d (3+5*e.s.toNat+2)) (d (3+5*e.s.toNat+3)) (d (3+5*e.s.toNat+4)))) (all_cons rfl rfl)) (by rw [E0_];rfl) rfl rfl
 have h10': ¬(e.k=6):=zaM h10
 refine qM (zA (zJ (zN (o_d 4 [(82,pv 0 3),(81,.agg #[iv (d (3+5*e.s.toNat)),iv (d (3+5*e.s.toNat+1)),iv (d (3+5*e.s.toNat+2)),iv (d (3+5*e.s.toNat+3)),iv (d (3+5*e.s.toNat+4))]),(80,iv e.s),(79,pv 1 1)] (o_s (by exact zaN (o:=3) (o':=3+5*e.s.toNat) rfl rfl om om) ?_)))))
 refine zdu (by refine zao (c':=pl (qB d e.s.toNat (d (3+5*e.s.toNat)) (d (3+5*e.s.toNat+1)) (d (3+5*e.s.toNat+2)) (d (3+5*e.s.toNat+3)) (d (3+5*e.s.toNat+4)))) rfl rfl rfl ?_ ?_ ?_;exact rfl;exact zb8 om;exact pl_wS d e.s.toNat (d (3+5*e.s.toNat)) (d (3+5*e.s.toNat+1)) (d (3+5*e.s.toNat+2)) (d (3+5*e.s.toNat+3)) (d (3+5*e.s.toNat+4)) om om) ?_
 refine zE (zT [(4,pv 2 0),(2,pv 0 0)] (zJ (zN (o_s (by refine zV (v:=zau (qB d e.s.toNat (d (3+5*e.s.toNat)) (d (3+5*e.s.toNat+1)) (d (3+5*e.s.toNat+2)) (d (3+5*e.s.toNat+3)) (d (3+5*e.s.toNat+4)))) rfl rfl ?_;exact zaK (qB d e.s.toNat (d (3+5*e.s.toNat)) (d (3+5*e.s.toNat+1)) (d (3+5*e.s.toNat+2)) (d (3+5*e.s.toNat+3)) (d (3+5*e.s.toNat+4)))) ?_))))
 refine zdu (by refine zao (c':=pl (qB d e.s.toNat (d (3+5*e.s.toNat)) (d (3+5*e.s.toNat+1)) (d (3+5*e.s.toNat+2)) (d (3+5*e.s.toNat+3)) (d (3+5*e.s.toNat+4)))) rfl rfl rfl ?_ ?_ ?_;exact qH _;exact zb8 om;exact zac qN (qB d e.s.toNat (d (3+5*e.s.toNat)) (d (3+5*e.s.toNat+1)) (d (3+5*e.s.toNat+2)) (d (3+5*e.s.toNat+3)) (d (3+5*e.s.toNat+4)))) ?_
 refine o_b 1 [(5,iv 0)] [cw (pl (qB d e.s.toNat (d (3+5*e.s.toNat)) (d (3+5*e.s.toNat+1)) (d (3+5*e.s.toNat+2)) (d (3+5*e.s.toNat+3)) (d (3+5*e.s.toNat+4)))),cw (wF e),cw (pl (qB d e.s.toNat (d (3+5*e.s.toNat)) (d (3+5*e.s.toNat+1)) (d (3+5*e.s.toNat+2)) (d (3+5*e.s.toNat+3)) (d (3+5*e.s.toNat+4)))),cw [iv (d (3+5*e.s.toNat)),iv (d (3+5*e.s.toNat+1)),iv (d (3+5*e.s.toNat+2)),iv (d (3+5*e.s.toNat+3)),iv (d (3+5*e.s.toNat+4))]] (zE (zA (qV ?_)))
 have E0_:qF c e=(qB d e.s.toNat (d (3+5*e.s.toNat)) (d (3+5*e.s.toNat+1)) (d (3+5*e.s.toNat+2)) (d (3+5*e.s.toNat+3)) (d (3+5*e.s.toNat+4)),0):=by
  subst hd
  first | (simp [qF,zew,zbL,za2,hfit,h1,h1',h2,h5,h5',h6,h6',h7,h7',h8,h8',h9,h9',h10,h10'];done) | (simp [qF,zew,zbL,za2,hfit,h1,h1',h2,h5,h5',h6,h6',h7,h7',h8,h8',h9,h9',h10,h10']<;>rfl) | (rw [Bool.eq_iff_iff];simp [qF,zew,zbL,za2,hfit,h1,h1',h2,h5,h5',h6,h6',h7,h7',h8,h8',h9,h9',h10,h10'];done) | (rw [Bool.eq_iff_iff];simp [qF,zew,zbL,za2,hfit,h1,h1',h2,h5,h5',h6,h6',h7,h7',h8,h8',h9,h9',h10,h10'];omega) | (simp [qF,zew,zbL,za2,hfit,h1,h1',h2,h5,h5',h6,h6',h7,h7',h8,h8',h9,h9',h10,h10'];omega)
 exact qC [zau (qB d e.s.toNat (d (3+5*e.s.toNat)) (d (3+5*e.s.toNat+1)) (d (3+5*e.s.toNat+2)) (d (3+5*e.s.toNat+3)) (d (3+5*e.s.toNat+4))),iv 0] (qY rfl rfl (zaK (qB d e.s.toNat (d (3+5*e.s.toNat)) (d (3+5*e.s.toNat+1)) (d (3+5*e.s.toNat+2)) (d (3+5*e.s.toNat+3)) (d (3+5*e.s.toNat+4)))) (zU rfl rfl)) (all_cons (zaA (qB d e.s.toNat (d (3+5*e.s.toNat)) (d (3+5*e.s.toNat+1)) (d (3+5*e.s.toNat+2)) (d (3+5*e.s.toNat+3)) (d (3+5*e.s.toNat+4)))) (all_cons rfl rfl)) (by rw [E0_];rfl) rfl rfl
end Go.Rh

namespace Go.Rh
theorem bld_newS (a p ka kb na nb:Int):zgh (zaB zP) [(1,1,.int .i64 a),(2,1,.int .i64 p),(323,7,.agg #[.int .i64 1,.int .u64 0,.int .u64 0,.int .u64 ka,.int .u64 kb,.int .u64 na,.int .u64 nb])]=some (pl (newS a p ka kb na nb)):=by
 rw [zP_pl]
 have e1:splice (pl qN) 1 [.int .i64 a]=pl (upd qN 1 a):=zgx _ om _
 have e2:splice (pl (upd qN 1 a)) 2 [.int .i64 p]=pl (upd (upd qN 1 a) 2 p):=zgx _ om _
 have e3:=zh1 (upd (upd qN 1 a) 2 p) 1 0 0 ka kb na nb
 simp only [zgh,zbl,zdz,List.length_cons,List.length_nil,qH]
 simp only [e1,e2,qH]
 simp only [e3]
 simp
 refine pl_ext fun k hk=>?_
 simp only [upd,newS,qN]
 by_cases h1:k=1
 ·subst h1;simp
 by_cases h2:k=2
 ·subst h2;simp
 by_cases h3:k=323
 ·subst h3;simp
 by_cases h4:k=326
 ·subst h4;simp
 by_cases h5:k=327
 ·subst h5;simp
 by_cases h6:k=328
 ·subst h6;simp
 by_cases h7:k=329
 ·subst h7;simp
 simp [h1,h2,h3,h4,h5,h6,h7]
def zhu (a p ka kb na nb:Int):q9×Int:=if za8 a p=true then (newS a p ka kb na nb,0) else (qN,14)
end Go.Rh

set_option maxHeartbeats 8000000
namespace Go.Rh
def hitR (c:q9) (a p:Int) (k:Nat):Bool:=zdA (c (3+5*k))&&(c (3+5*k+1)==a&&c (3+5*k+2)==p)
theorem refNewC {P:Program} [PrC P] (a p ka kb na nb:Int):
  Env P "roundhouse/roundhouseref6.New" [iv a,iv p,.agg #[uv ka,uv kb],.agg #[uv na,uv nb]] ([]) (Ans (.tuple #[zau ((zhu a p ka kb na nb).1),iv ((zhu a p ka kb na nb).2)]) ([])):=by
 refine Env.by PrC.ref6_New ?_
 unfold zjx
 show GC _ 0 _ _ ⟨reg [(0,iv a),(1,iv p),(2,.agg #[uv ka,uv kb]),(3,.agg #[uv na,uv nb])],[]⟩
 refine zJ (zN (o_b 4 [(9,iv 0),(8,pv 2 0),(7,pv 1 0),(6,pv 0 0)] [cw [uv ka,uv kb],cw [uv na,uv nb],cw (pl qN)] (zE (zA (zJ (zJ (zN (o_d 1 [(10,iv a)] (qT (zal (outC a 0 4294967295) rfl rfl rfl (o_d 1 [(12,bv (zet a 0 4294967295))] (zbC (b:=zet a 0 4294967295) 12 rfl (fun h1=>?_) (fun h1=>?_)))))))))))))
 ·skip
  refine o_d 3 [(15,bv true),(14,undef),(13,undef)] (zE (zA (zcZ rfl (zJ (zN (o_s (by refine zej (c:=pl qN) ?_;exact bld_zP) ?_))))))
  refine zdu (by refine zao (c':=pl qN) rfl rfl rfl ?_ ?_ ?_;exact qH _;exact zb8 om;exact zac qN qN) ?_
  refine o_d 1 [(9,iv 14)] (zE (zA (qV ?_)))
  have e0:zhu a p ka kb na nb=(qN,14):=by
   have hp:=zd3 a p
   simp only [h1,Bool.true_or,Bool.false_or] at hp
   have hp2:za8 a p=false:=by revert hp;cases za8 a p<;>simp
   simp [zhu,hp2]
  exact qC [zau qN,iv 14] (qY rfl rfl (zaK qN) (zU rfl rfl)) (all_cons (zaA qN) (all_cons rfl rfl)) (by rw [e0];rfl) rfl rfl
 ·skip
  refine o_d 1 [(13,iv p)] (z8 rfl (qT (zal (outC p 0 65535) rfl rfl rfl (o_d 1 [(15,bv (zet p 0 65535))] (zE (zA (qK (t:=zet p 0 65535) rfl (fun h2=>?_) (fun h2=>?_))))))))
  ·skip
   refine zJ (zN (o_s (by refine zej (c:=pl qN) ?_;exact bld_zP) ?_))
   refine zdu (by refine zao (c':=pl qN) rfl rfl rfl ?_ ?_ ?_;exact qH _;exact zb8 om;exact zac qN qN) ?_
   refine o_d 1 [(9,iv 14)] (zE (zA (qV ?_)))
   have e0:zhu a p ka kb na nb=(qN,14):=by
    have hp:=zd3 a p
    simp only [h1,h2,Bool.true_or,Bool.false_or] at hp
    have hp2:za8 a p=false:=by revert hp;cases za8 a p<;>simp
    simp [zhu,hp2]
   exact qC [zau qN,iv 14] (qY rfl rfl (zaK qN) (zU rfl rfl)) (all_cons (zaA qN) (all_cons rfl rfl)) (by rw [e0];rfl) rfl rfl
  ·skip
   refine qM (zA (zJ (zN (o_b 6 [(22,sv 3 0 3 3),(21,.agg #[uv na,uv nb]),(20,.agg #[uv ka,uv kb]),(19,.agg #[uv 0,uv 0]),(18,iv p),(17,iv a)] [cw [uv ka,uv kb],cw [uv na,uv nb],cw (pl qN),cw [uv 0,uv 0,uv ka,uv kb,uv na,uv nb]] (qT (zeC (a1:= [.int .i64 1,.slice (some ⟨0,0,none⟩) 3 3]) [3] [[uv 0,uv 0,uv ka,uv kb,uv na,uv nb]] (refRingC 1 0 0 ka kb na nb) rfl (fun _=>rfl) ⟨⟨_,rfl⟩,rfl,trivial⟩ rfl ?_))))))
   refine o_s (by refine zej (c:=pl (newS a p ka kb na nb)) ?_;exact (bld_newS a p ka kb na nb)) ?_
   refine zdu (by refine zao (c':=pl (newS a p ka kb na nb)) rfl rfl rfl ?_ ?_ ?_;exact qH _;exact zb8 om;exact zac qN (newS a p ka kb na nb)) ?_
   refine o_b 1 [(9,iv 0)] [cw [uv ka,uv kb],cw [uv na,uv nb],cw (pl (newS a p ka kb na nb)),cw [uv 0,uv 0,uv ka,uv kb,uv na,uv nb]] (zE (zT [(9,iv 0),(8,pv 2 0)] (qV ?_)))
   have e0:zhu a p ka kb na nb=(newS a p ka kb na nb,0):=by
    have hp:=zd3 a p
    simp only [h1,h2,Bool.true_or,Bool.false_or] at hp
    have hp2:za8 a p=true:=by revert hp;cases za8 a p<;>simp
    simp [zhu,hp2]
   exact qC [zau (newS a p ka kb na nb),iv 0] (qY rfl rfl (zaK (newS a p ka kb na nb)) (zU rfl rfl)) (all_cons (zaA (newS a p ka kb na nb)) (all_cons rfl rfl)) (by rw [e0];rfl) rfl rfl
def zcn (n:Int):Ent:=(bif ((i64.wrap ((zC n 1125899906842624).tdiv 48)).tmod 29)==0 then (bif ((zC n 1125899906842624).tmod 8)==0 then ⟨1,(i64.wrap ((zC n 1125899906842624).tdiv 48)).tmod 66,(i64.wrap ((zC n 1125899906842624).tdiv 400)).tmod 5,(i64.wrap ((zC n 1125899906842624).tdiv 2000)).tmod 3,i64.wrap (1+(i64.wrap ((zC n 1125899906842624).tdiv 6000)).tmod 8),0,0⟩ else (bif ((zC n 1125899906842624).tmod 8)==1 then ⟨1,(i64.wrap ((zC n 1125899906842624).tdiv 48)).tmod 66,(i64.wrap ((zC n 1125899906842624).tdiv 400)).tmod 5,(i64.wrap ((zC n 1125899906842624).tdiv 2000)).tmod 3,i64.wrap (1+(i64.wrap ((zC n 1125899906842624).tdiv 6000)).tmod 8),0,0⟩ else (bif ((zC n 1125899906842624).tmod 8)==2 then ⟨2,(i64.wrap ((zC n 1125899906842624).tdiv 48)).tmod 66,0,0,0,0,0⟩ else (bif ((zC n 1125899906842624).tmod 8)==3 then ⟨3,(i64.wrap ((zC n 1125899906842624).tdiv 48)).tmod 66,0,0,0,0,0⟩ else (bif ((zC n 1125899906842624).tmod 8)==4 then ⟨4,(i64.wrap ((zC n 1125899906842624).tdiv 48)).tmod 66,0,0,0,0,0⟩ else (bif ((zC n 1125899906842624).tmod 8)==5 then ⟨5,(i64.wrap ((zC n 1125899906842624).tdiv 48)).tmod 66,0,0,0,0,0⟩ else ⟨6,0,0,0,0,zbV (zC n 1125899906842624),zbU (zC n 1125899906842624)⟩)))))) else (bif ((zC n 1125899906842624).tmod 8)==0 then ⟨1,(i64.wrap ((zC n 1125899906842624).tdiv 8)).tmod 6,(i64.wrap ((zC n 1125899906842624).tdiv 400)).tmod 5,(i64.wrap ((zC n 1125899906842624).tdiv 2000)).tmod 3,i64.wrap (1+(i64.wrap ((zC n 1125899906842624).tdiv 6000)).tmod 8),0,0⟩ else (bif ((zC n 1125899906842624).tmod 8)==1 then ⟨1,(i64.wrap ((zC n 1125899906842624).tdiv 8)).tmod 6,(i64.wrap ((zC n 1125899906842624).tdiv 400)).tmod 5,(i64.wrap ((zC n 1125899906842624).tdiv 2000)).tmod 3,i64.wrap (1+(i64.wrap ((zC n 1125899906842624).tdiv 6000)).tmod 8),0,0⟩ else (bif ((zC n 1125899906842624).tmod 8)==2 then ⟨2,(i64.wrap ((zC n 1125899906842624).tdiv 8)).tmod 6,0,0,0,0,0⟩ else (bif ((zC n 1125899906842624).tmod 8)==3 then ⟨3,(i64.wrap ((zC n 1125899906842624).tdiv 8)).tmod 6,0,0,0,0,0⟩ else (bif ((zC n 1125899906842624).tmod 8)==4 then ⟨4,(i64.wrap ((zC n 1125899906842624).tdiv 8)).tmod 6,0,0,0,0,0⟩ else (bif ((zC n 1125899906842624).tmod 8)==5 then ⟨5,(i64.wrap ((zC n 1125899906842624).tdiv 8)).tmod 6,0,0,0,0,0⟩ else ⟨6,0,0,0,0,zbV (zC n 1125899906842624),zbU (zC n 1125899906842624)⟩)))))))
abbrev wG (a:Nat) (b:Int) (c:Nat) (d:Nat):=[(a,bv (((zC b 1125899906842624).tmod 8)==c)),(d,bv (((zC b 1125899906842624).tmod 8)==c))]
abbrev yL (a:Int) b c:=[(33,.agg #[iv 1,iv ((i64.wrap ((zC a 1125899906842624).tdiv b)).tmod c),iv ((i64.wrap ((zC a 1125899906842624).tdiv 400)).tmod 5),iv ((i64.wrap ((zC a 1125899906842624).tdiv 2000)).tmod 3),iv (i64.wrap (1+(i64.wrap ((zC a 1125899906842624).tdiv 6000)).tmod 8)),uv 0,uv 0]),(32,iv (i64.wrap (1+(i64.wrap ((zC a 1125899906842624).tdiv 6000)).tmod 8))),(31,iv ((i64.wrap ((zC a 1125899906842624).tdiv 6000)).tmod 8)),(30,iv (i64.wrap ((zC a 1125899906842624).tdiv 6000))),(29,iv (zC a 1125899906842624)),(28,iv ((i64.wrap ((zC a 1125899906842624).tdiv 2000)).tmod 3)),(27,iv (i64.wrap ((zC a 1125899906842624).tdiv 2000))),(26,iv (zC a 1125899906842624)),(25,iv ((i64.wrap ((zC a 1125899906842624).tdiv 400)).tmod 5)),(24,iv (i64.wrap ((zC a 1125899906842624).tdiv 400))),(23,iv (zC a 1125899906842624)),(22,iv ((i64.wrap ((zC a 1125899906842624).tdiv b)).tmod c))]
abbrev yT (a:Int):=[iv ((i64.wrap ((zC a 1125899906842624).tdiv 400)).tmod 5),iv ((i64.wrap ((zC a 1125899906842624).tdiv 2000)).tmod 3),iv (i64.wrap (1+(i64.wrap ((zC a 1125899906842624).tdiv 6000)).tmod 8)),uv 0,uv 0]
theorem EntryC {P:Program} [PrC P] (n:Int):
  Env P "roundhouse/roundhouselaw6.Entry" [iv n] ([]) (Ans (.agg #[iv ((zcn n).k),iv ((zcn n).s),iv ((zcn n).a),iv ((zcn n).p),iv ((zcn n).g),uv ((zcn n).ka),uv ((zcn n).kb)]) ([])):=by
 refine Env.by PrC.law6_Entry ?_
 unfold zhl
 show GC _ 0 _ _ ⟨reg [(0,iv n)],[]⟩
 refine zJ (zN (o_b 1 [(2,pv 0 0)] [cw [iv 0,iv 0,iv 0,iv 0,iv 0,uv 0,uv 0]] (zE (zA (zJ (zN (o_d 1 [(5,iv n)] (qT (zal (withinC n 1125899906842624 dC) rfl rfl rfl ?_)))))))))
 refine o_d 1 [(3,iv (zC n 1125899906842624))] (zE (zA (zJ (zN (o_d 4 [(4,iv ((i64.wrap ((zC n 1125899906842624).tdiv 8)).tmod 6)),(9,iv ((i64.wrap ((zC n 1125899906842624).tdiv 8)).tmod 6)),(8,iv (i64.wrap ((zC n 1125899906842624).tdiv 8))),(7,iv (zC n 1125899906842624))] (zE (zA (zJ (zJ (zN (o_d 4 [(13,bv (((i64.wrap ((zC n 1125899906842624).tdiv 48)).tmod 29)==0)),(12,iv ((i64.wrap ((zC n 1125899906842624).tdiv 48)).tmod 29)),(11,iv (i64.wrap ((zC n 1125899906842624).tdiv 48))),(10,iv (zC n 1125899906842624))] (zE ?_))))))))))))
 refine zA (qK (t:=((i64.wrap ((zC n 1125899906842624).tdiv 48)).tmod 29)==0) rfl (fun h1=>?_) (fun h1=>?_))
 ·skip
  have h1':(i64.wrap ((zC n 1125899906842624).tdiv 48)).tmod 29=0:=zaL h1
  refine zN (o_d 4 [(4,iv ((i64.wrap ((zC n 1125899906842624).tdiv 48)).tmod 66)),(16,iv ((i64.wrap ((zC n 1125899906842624).tdiv 48)).tmod 66)),(15,iv (i64.wrap ((zC n 1125899906842624).tdiv 48))),(14,iv (zC n 1125899906842624))] (zE (zA (zJ (zJ (zN (o_d 2 [(18,iv ((zC n 1125899906842624).tmod 8)),(17,iv (zC n 1125899906842624))] (zE (zA (zab (zJ (zJ ?_))))))))))))
  refine zN (o_d 2 (wG 19 n 0 20) (zE (zA (qK (t:=((zC n 1125899906842624).tmod 8)==0) rfl (fun h2=>?_) (fun h2=>?_)))))
  ·skip
   have h2':(zC n 1125899906842624).tmod 8=0:=zaL h2
   refine qM (zA (qK (t:=((zC n 1125899906842624).tmod 8)==0) rfl (fun _=>?_) (fun q=>by rw [h2] at q;cases q)))
   refine zJ (zN (o_b 13 (yL n 48 66) [cw (iv 1::iv ((i64.wrap ((zC n 1125899906842624).tdiv 48)).tmod 66)::(yT n))] (zE (zT [(2,pv 0 0)] (qV ?_)))))
   have e0:zcn n=⟨1,(i64.wrap ((zC n 1125899906842624).tdiv 48)).tmod 66,(i64.wrap ((zC n 1125899906842624).tdiv 400)).tmod 5,(i64.wrap ((zC n 1125899906842624).tdiv 2000)).tmod 3,i64.wrap (1+(i64.wrap ((zC n 1125899906842624).tdiv 6000)).tmod 8),0,0⟩:=by
    simp only [zcn,h1,h2,cond_true,cond_false]
   exact qC [.agg #[iv 1,iv ((i64.wrap ((zC n 1125899906842624).tdiv 48)).tmod 66),iv ((i64.wrap ((zC n 1125899906842624).tdiv 400)).tmod 5),iv ((i64.wrap ((zC n 1125899906842624).tdiv 2000)).tmod 3),iv (i64.wrap (1+(i64.wrap ((zC n 1125899906842624).tdiv 6000)).tmod 8)),uv 0,uv 0]] (qY rfl rfl rfl rfl) rfl (by rw [e0];rfl) rfl rfl
  ·skip
   have h2': ¬((zC n 1125899906842624).tmod 8=0):=zaM h2
   refine zN (o_d 2 (wG 19 n 1 21) (zE (zA (qK (t:=((zC n 1125899906842624).tmod 8)==1) rfl (fun h3=>?_) (fun h3=>?_)))))
   ·skip
    have h3':(zC n 1125899906842624).tmod 8=1:=zaL h3
    refine zJ (zN (o_b 13 (yL n 48 66) [cw (iv 1::iv ((i64.wrap ((zC n 1125899906842624).tdiv 48)).tmod 66)::(yT n))] (zE (zT [(2,pv 0 0)] (qV ?_)))))
    have e0:zcn n=⟨1,(i64.wrap ((zC n 1125899906842624).tdiv 48)).tmod 66,(i64.wrap ((zC n 1125899906842624).tdiv 400)).tmod 5,(i64.wrap ((zC n 1125899906842624).tdiv 2000)).tmod 3,i64.wrap (1+(i64.wrap ((zC n 1125899906842624).tdiv 6000)).tmod 8),0,0⟩:=by
     simp only [zcn,h1,h2,h3,cond_true,cond_false]
    exact qC [.agg #[iv 1,iv ((i64.wrap ((zC n 1125899906842624).tdiv 48)).tmod 66),iv ((i64.wrap ((zC n 1125899906842624).tdiv 400)).tmod 5),iv ((i64.wrap ((zC n 1125899906842624).tdiv 2000)).tmod 3),iv (i64.wrap (1+(i64.wrap ((zC n 1125899906842624).tdiv 6000)).tmod 8)),uv 0,uv 0]] (qY rfl rfl rfl rfl) rfl (by rw [e0];rfl) rfl rfl
   ·skip
    have h3': ¬((zC n 1125899906842624).tmod 8=1):=zaM h3
    refine zJ (zN (o_d 2 (wG 34 n 2 35) (zE (zA (qK (t:=((zC n 1125899906842624).tmod 8)==2) rfl (fun h4=>?_) (fun h4=>?_))))))
    ·skip
     have h4':(zC n 1125899906842624).tmod 8=2:=zaL h4
     refine zJ (zN (o_b 3 [(37,.agg #[iv 2,iv ((i64.wrap ((zC n 1125899906842624).tdiv 48)).tmod 66),iv 0,iv 0,iv 0,uv 0,uv 0]),(36,iv ((i64.wrap ((zC n 1125899906842624).tdiv 48)).tmod 66))] [cw [iv 2,iv ((i64.wrap ((zC n 1125899906842624).tdiv 48)).tmod 66),iv 0,iv 0,iv 0,uv 0,uv 0]] (zE (zT [(2,pv 0 0)] (qV ?_)))))
     have e0:zcn n=⟨2,(i64.wrap ((zC n 1125899906842624).tdiv 48)).tmod 66,0,0,0,0,0⟩:=by
      simp only [zcn,h1,h2,h3,h4,cond_true,cond_false]
     exact qC [.agg #[iv 2,iv ((i64.wrap ((zC n 1125899906842624).tdiv 48)).tmod 66),iv 0,iv 0,iv 0,uv 0,uv 0]] (qY rfl rfl rfl rfl) rfl (by rw [e0];rfl) rfl rfl
    ·skip
     have h4': ¬((zC n 1125899906842624).tmod 8=2):=zaM h4
     refine zJ (zN (o_d 2 (wG 38 n 3 39) (zE (zT [(38,bv (((zC n 1125899906842624).tmod 8)==3)),(18,iv ((zC n 1125899906842624).tmod 8)),(4,iv ((i64.wrap ((zC n 1125899906842624).tdiv 48)).tmod 66)),(3,iv (zC n 1125899906842624)),(2,pv 0 0)] (qK (t:=((zC n 1125899906842624).tmod 8)==3) rfl (fun h5=>?_) (fun h5=>?_))))))
     ·skip
      have h5':(zC n 1125899906842624).tmod 8=3:=zaL h5
      refine zJ (zN (o_b 3 [(41,.agg #[iv 3,iv ((i64.wrap ((zC n 1125899906842624).tdiv 48)).tmod 66),iv 0,iv 0,iv 0,uv 0,uv 0]),(40,iv ((i64.wrap ((zC n 1125899906842624).tdiv 48)).tmod 66))] [cw [iv 3,iv ((i64.wrap ((zC n 1125899906842624).tdiv 48)).tmod 66),iv 0,iv 0,iv 0,uv 0,uv 0]] (zE (zA (qV ?_)))))
      have e0:zcn n=⟨3,(i64.wrap ((zC n 1125899906842624).tdiv 48)).tmod 66,0,0,0,0,0⟩:=by
       simp only [zcn,h1,h2,h3,h4,h5,cond_true,cond_false]
      exact qC [.agg #[iv 3,iv ((i64.wrap ((zC n 1125899906842624).tdiv 48)).tmod 66),iv 0,iv 0,iv 0,uv 0,uv 0]] (qY rfl rfl rfl rfl) rfl (by rw [e0];rfl) rfl rfl
     ·skip
      have h5': ¬((zC n 1125899906842624).tmod 8=3):=zaM h5
      refine zJ (zN (o_d 2 (wG 42 n 4 43) (zE (zA (qK (t:=((zC n 1125899906842624).tmod 8)==4) rfl (fun h6=>?_) (fun h6=>?_))))))
      ·skip
       have h6':(zC n 1125899906842624).tmod 8=4:=zaL h6
       refine zJ (zN (o_b 3 [(45,.agg #[iv 4,iv ((i64.wrap ((zC n 1125899906842624).tdiv 48)).tmod 66),iv 0,iv 0,iv 0,uv 0,uv 0]),(44,iv ((i64.wrap ((zC n 1125899906842624).tdiv 48)).tmod 66))] [cw [iv 4,iv ((i64.wrap ((zC n 1125899906842624).tdiv 48)).tmod 66),iv 0,iv 0,iv 0,uv 0,uv 0]] (zE (zA (qV ?_)))))
       have e0:zcn n=⟨4,(i64.wrap ((zC n 1125899906842624).tdiv 48)).tmod 66,0,0,0,0,0⟩:=by
        simp only [zcn,h1,h2,h3,h4,h5,h6,cond_true,cond_false]
       exact qC [.agg #[iv 4,iv ((i64.wrap ((zC n 1125899906842624).tdiv 48)).tmod 66),iv 0,iv 0,iv 0,uv 0,uv 0]] (qY rfl rfl rfl rfl) rfl (by rw [e0];rfl) rfl rfl
      ·skip
       have h6': ¬((zC n 1125899906842624).tmod 8=4):=zaM h6
       refine zJ (zN (o_d 2 (wG 46 n 5 47) (zE (zA (qK (t:=((zC n 1125899906842624).tmod 8)==5) rfl (fun h7=>?_) (fun h7=>?_))))))
       ·skip
        have h7':(zC n 1125899906842624).tmod 8=5:=zaL h7
        refine zJ (zN (o_b 3 [(49,.agg #[iv 5,iv ((i64.wrap ((zC n 1125899906842624).tdiv 48)).tmod 66),iv 0,iv 0,iv 0,uv 0,uv 0]),(48,iv ((i64.wrap ((zC n 1125899906842624).tdiv 48)).tmod 66))] [cw [iv 5,iv ((i64.wrap ((zC n 1125899906842624).tdiv 48)).tmod 66),iv 0,iv 0,iv 0,uv 0,uv 0]] (zE (zA (qV ?_)))))
        have e0:zcn n=⟨5,(i64.wrap ((zC n 1125899906842624).tdiv 48)).tmod 66,0,0,0,0,0⟩:=by
         simp only [zcn,h1,h2,h3,h4,h5,h6,h7,cond_true,cond_false]
        exact qC [.agg #[iv 5,iv ((i64.wrap ((zC n 1125899906842624).tdiv 48)).tmod 66),iv 0,iv 0,iv 0,uv 0,uv 0]] (qY rfl rfl rfl rfl) rfl (by rw [e0];rfl) rfl rfl
       ·skip
        have h7': ¬((zC n 1125899906842624).tmod 8=5):=zaM h7
        refine qM (zA (zJ (zN (o_d 1 [(50,iv (zC n 1125899906842624))] (qT (zal (KeyC (zC n 1125899906842624)) rfl rfl rfl (o_b 2 [(52,.agg #[iv 6,iv 0,iv 0,iv 0,iv 0,uv (zbV (zC n 1125899906842624)),uv (zbU (zC n 1125899906842624))])] [cw [iv 6,iv 0,iv 0,iv 0,iv 0,uv (zbV (zC n 1125899906842624)),uv (zbU (zC n 1125899906842624))]] (zE (zA (qV ?_))))))))))
        have e0:zcn n=⟨6,0,0,0,0,zbV (zC n 1125899906842624),zbU (zC n 1125899906842624)⟩:=by
         simp only [zcn,h1,h2,h3,h4,h5,h6,h7,cond_true,cond_false]
        exact qC [.agg #[iv 6,iv 0,iv 0,iv 0,iv 0,uv (zbV (zC n 1125899906842624)),uv (zbU (zC n 1125899906842624))]] (qY rfl rfl rfl rfl) rfl (by rw [e0];rfl) rfl rfl
 ·skip
  have h1': ¬((i64.wrap ((zC n 1125899906842624).tdiv 48)).tmod 29=0):=zaM h1
  refine qM (zA (zJ (zJ (zN (o_d 2 [(18,iv ((zC n 1125899906842624).tmod 8)),(17,iv (zC n 1125899906842624))] (zE (zA (zab (zJ (zJ (zN (o_d 2 (wG 19 n 0 20) ?_))))))))))))
  refine zE (zA (qK (t:=((zC n 1125899906842624).tmod 8)==0) rfl (fun h8=>?_) (fun h8=>?_)))
  ·skip
   have h8':(zC n 1125899906842624).tmod 8=0:=zaL h8
   refine qM (zA (qK (t:=((zC n 1125899906842624).tmod 8)==0) rfl (fun _=>?_) (fun q=>by rw [h8] at q;cases q)))
   refine zJ (zN (o_b 13 (yL n 8 6) [cw (iv 1::iv ((i64.wrap ((zC n 1125899906842624).tdiv 8)).tmod 6)::(yT n))] (zE (zT [(2,pv 0 0)] (qV ?_)))))
   have e0:zcn n=⟨1,(i64.wrap ((zC n 1125899906842624).tdiv 8)).tmod 6,(i64.wrap ((zC n 1125899906842624).tdiv 400)).tmod 5,(i64.wrap ((zC n 1125899906842624).tdiv 2000)).tmod 3,i64.wrap (1+(i64.wrap ((zC n 1125899906842624).tdiv 6000)).tmod 8),0,0⟩:=by
    simp only [zcn,h1,h8,cond_true,cond_false]
   exact qC [.agg #[iv 1,iv ((i64.wrap ((zC n 1125899906842624).tdiv 8)).tmod 6),iv ((i64.wrap ((zC n 1125899906842624).tdiv 400)).tmod 5),iv ((i64.wrap ((zC n 1125899906842624).tdiv 2000)).tmod 3),iv (i64.wrap (1+(i64.wrap ((zC n 1125899906842624).tdiv 6000)).tmod 8)),uv 0,uv 0]] (qY rfl rfl rfl rfl) rfl (by rw [e0];rfl) rfl rfl
  ·skip
   have h8': ¬((zC n 1125899906842624).tmod 8=0):=zaM h8
   refine zN (o_d 2 (wG 19 n 1 21) (zE (zA (qK (t:=((zC n 1125899906842624).tmod 8)==1) rfl (fun h9=>?_) (fun h9=>?_)))))
   ·skip
    have h9':(zC n 1125899906842624).tmod 8=1:=zaL h9
    refine zJ (zN (o_b 13 (yL n 8 6) [cw (iv 1::iv ((i64.wrap ((zC n 1125899906842624).tdiv 8)).tmod 6)::(yT n))] (zE (zT [(2,pv 0 0)] (qV ?_)))))
    have e0:zcn n=⟨1,(i64.wrap ((zC n 1125899906842624).tdiv 8)).tmod 6,(i64.wrap ((zC n 1125899906842624).tdiv 400)).tmod 5,(i64.wrap ((zC n 1125899906842624).tdiv 2000)).tmod 3,i64.wrap (1+(i64.wrap ((zC n 1125899906842624).tdiv 6000)).tmod 8),0,0⟩:=by
     simp only [zcn,h1,h8,h9,cond_true,cond_false]
    exact qC [.agg #[iv 1,iv ((i64.wrap ((zC n 1125899906842624).tdiv 8)).tmod 6),iv ((i64.wrap ((zC n 1125899906842624).tdiv 400)).tmod 5),iv ((i64.wrap ((zC n 1125899906842624).tdiv 2000)).tmod 3),iv (i64.wrap (1+(i64.wrap ((zC n 1125899906842624).tdiv 6000)).tmod 8)),uv 0,uv 0]] (qY rfl rfl rfl rfl) rfl (by rw [e0];rfl) rfl rfl
   ·skip
    have h9': ¬((zC n 1125899906842624).tmod 8=1):=zaM h9
    refine zJ (zN (o_d 2 (wG 34 n 2 35) (zE (zA (qK (t:=((zC n 1125899906842624).tmod 8)==2) rfl (fun h10=>?_) (fun h10=>?_))))))
    ·skip
     have h10':(zC n 1125899906842624).tmod 8=2:=zaL h10
     refine zJ (zN (o_b 3 [(37,.agg #[iv 2,iv ((i64.wrap ((zC n 1125899906842624).tdiv 8)).tmod 6),iv 0,iv 0,iv 0,uv 0,uv 0]),(36,iv ((i64.wrap ((zC n 1125899906842624).tdiv 8)).tmod 6))] [cw [iv 2,iv ((i64.wrap ((zC n 1125899906842624).tdiv 8)).tmod 6),iv 0,iv 0,iv 0,uv 0,uv 0]] (zE (zT [(2,pv 0 0)] (qV ?_)))))
     have e0:zcn n=⟨2,(i64.wrap ((zC n 1125899906842624).tdiv 8)).tmod 6,0,0,0,0,0⟩:=by
      simp only [zcn,h1,h8,h9,h10,cond_true,cond_false]
     exact qC [.agg #[iv 2,iv ((i64.wrap ((zC n 1125899906842624).tdiv 8)).tmod 6),iv 0,iv 0,iv 0,uv 0,uv 0]] (qY rfl rfl rfl rfl) rfl (by rw [e0];rfl) rfl rfl
    ·skip
     have h10': ¬((zC n 1125899906842624).tmod 8=2):=zaM h10
     refine zJ (zN (o_d 2 (wG 38 n 3 39) (zE (zA (qK (t:=((zC n 1125899906842624).tmod 8)==3) rfl (fun h11=>?_) (fun h11=>?_))))))
     ·skip
      have h11':(zC n 1125899906842624).tmod 8=3:=zaL h11
      refine zJ (zN (o_b 3 [(41,.agg #[iv 3,iv ((i64.wrap ((zC n 1125899906842624).tdiv 8)).tmod 6),iv 0,iv 0,iv 0,uv 0,uv 0]),(40,iv ((i64.wrap ((zC n 1125899906842624).tdiv 8)).tmod 6))] [cw [iv 3,iv ((i64.wrap ((zC n 1125899906842624).tdiv 8)).tmod 6),iv 0,iv 0,iv 0,uv 0,uv 0]] (zE (zT [(2,pv 0 0)] (qV ?_)))))
      have e0:zcn n=⟨3,(i64.wrap ((zC n 1125899906842624).tdiv 8)).tmod 6,0,0,0,0,0⟩:=by
       simp only [zcn,h1,h8,h9,h10,h11,cond_true,cond_false]
      exact qC [.agg #[iv 3,iv ((i64.wrap ((zC n 1125899906842624).tdiv 8)).tmod 6),iv 0,iv 0,iv 0,uv 0,uv 0]] (qY rfl rfl rfl rfl) rfl (by rw [e0];rfl) rfl rfl
     ·skip
      have h11': ¬((zC n 1125899906842624).tmod 8=3):=zaM h11
      refine zJ (zN (o_d 2 (wG 42 n 4 43) (zE (zA (qK (t:=((zC n 1125899906842624).tmod 8)==4) rfl (fun h12=>?_) (fun h12=>?_))))))
      ·skip
       have h12':(zC n 1125899906842624).tmod 8=4:=zaL h12
       refine zJ (zN (o_b 3 [(45,.agg #[iv 4,iv ((i64.wrap ((zC n 1125899906842624).tdiv 8)).tmod 6),iv 0,iv 0,iv 0,uv 0,uv 0]),(44,iv ((i64.wrap ((zC n 1125899906842624).tdiv 8)).tmod 6))] [cw [iv 4,iv ((i64.wrap ((zC n 1125899906842624).tdiv 8)).tmod 6),iv 0,iv 0,iv 0,uv 0,uv 0]] (zE (zT [(2,pv 0 0)] (qV ?_)))))
       have e0:zcn n=⟨4,(i64.wrap ((zC n 1125899906842624).tdiv 8)).tmod 6,0,0,0,0,0⟩:=by
        simp only [zcn,h1,h8,h9,h10,h11,h12,cond_true,cond_false]
       exact qC [.agg #[iv 4,iv ((i64.wrap ((zC n 1125899906842624).tdiv 8)).tmod 6),iv 0,iv 0,iv 0,uv 0,uv 0]] (qY rfl rfl rfl rfl) rfl (by rw [e0];rfl) rfl rfl
      ·skip
       have h12': ¬((zC n 1125899906842624).tmod 8=4):=zaM h12
       refine zJ (zN (o_d 2 (wG 46 n 5 47) (zE (zT [(46,bv (((zC n 1125899906842624).tmod 8)==5)),(4,iv ((i64.wrap ((zC n 1125899906842624).tdiv 8)).tmod 6)),(3,iv (zC n 1125899906842624)),(2,pv 0 0)] (qK (t:=((zC n 1125899906842624).tmod 8)==5) rfl (fun h13=>?_) (fun h13=>?_))))))
       ·skip
        have h13':(zC n 1125899906842624).tmod 8=5:=zaL h13
        refine zJ (zN (o_b 3 [(49,.agg #[iv 5,iv ((i64.wrap ((zC n 1125899906842624).tdiv 8)).tmod 6),iv 0,iv 0,iv 0,uv 0,uv 0]),(48,iv ((i64.wrap ((zC n 1125899906842624).tdiv 8)).tmod 6))] [cw [iv 5,iv ((i64.wrap ((zC n 1125899906842624).tdiv 8)).tmod 6),iv 0,iv 0,iv 0,uv 0,uv 0]] (zE (zA (qV ?_)))))
        have e0:zcn n=⟨5,(i64.wrap ((zC n 1125899906842624).tdiv 8)).tmod 6,0,0,0,0,0⟩:=by
         simp only [zcn,h1,h8,h9,h10,h11,h12,h13,cond_true,cond_false]
        exact qC [.agg #[iv 5,iv ((i64.wrap ((zC n 1125899906842624).tdiv 8)).tmod 6),iv 0,iv 0,iv 0,uv 0,uv 0]] (qY rfl rfl rfl rfl) rfl (by rw [e0];rfl) rfl rfl
       ·skip
        have h13': ¬((zC n 1125899906842624).tmod 8=5):=zaM h13
        refine qM (zA (zJ (zN (o_d 1 [(50,iv (zC n 1125899906842624))] (qT (zal (KeyC (zC n 1125899906842624)) rfl rfl rfl (o_b 2 [(52,.agg #[iv 6,iv 0,iv 0,iv 0,iv 0,uv (zbV (zC n 1125899906842624)),uv (zbU (zC n 1125899906842624))])] [cw [iv 6,iv 0,iv 0,iv 0,iv 0,uv (zbV (zC n 1125899906842624)),uv (zbU (zC n 1125899906842624))]] (zE (zA (qV ?_))))))))))
        have e0:zcn n=⟨6,0,0,0,0,zbV (zC n 1125899906842624),zbU (zC n 1125899906842624)⟩:=by
         simp only [zcn,h1,h8,h9,h10,h11,h12,h13,cond_true,cond_false]
        exact qC [.agg #[iv 6,iv 0,iv 0,iv 0,iv 0,uv (zbV (zC n 1125899906842624)),uv (zbU (zC n 1125899906842624))]] (qY rfl rfl rfl rfl) rfl (by rw [e0];rfl) rfl rfl
end Go.Rh

set_option maxHeartbeats 4000000
namespace Go.Rh
theorem ss0 (d:q9) (s k:Nat) (x0 x1 x2 x3 x4:Int):qB d s x0 x1 x2 x3 x4 (3+5*k)=if k=s then x0 else d (3+5*k):=by
 simp only [qB,upd];repeat' split
 all_goals first | rfl | omega | (exfalso;omega)
theorem ss1 (d:q9) (s k:Nat) (x0 x1 x2 x3 x4:Int):qB d s x0 x1 x2 x3 x4 (3+5*k+1)=if k=s then x1 else d (3+5*k+1):=by
 simp only [qB,upd];repeat' split
 all_goals first | rfl | omega | (exfalso;omega)
theorem ss2 (d:q9) (s k:Nat) (x0 x1 x2 x3 x4:Int):qB d s x0 x1 x2 x3 x4 (3+5*k+2)=if k=s then x2 else d (3+5*k+2):=by
 simp only [qB,upd];repeat' split
 all_goals first | rfl | omega | (exfalso;omega)
theorem ss3 (d:q9) (s k:Nat) (x0 x1 x2 x3 x4:Int):qB d s x0 x1 x2 x3 x4 (3+5*k+3)=if k=s then x3 else d (3+5*k+3):=by
 simp only [qB,upd];repeat' split
 all_goals first | rfl | omega | (exfalso;omega)
theorem ss4 (d:q9) (s k:Nat) (x0 x1 x2 x3 x4:Int):qB d s x0 x1 x2 x3 x4 (3+5*k+4)=if k=s then x4 else d (3+5*k+4):=by
 simp only [qB,upd];repeat' split
 all_goals first | rfl | omega | (exfalso;omega)
theorem ssN (d:q9) {s i:Nat} (x0 x1 x2 x3 x4:Int) (hs:s < 64) (h:i < 3∨323≤i):qB d s x0 x1 x2 x3 x4 i=d i:=by
 simp only [qB,upd];rw [if_neg om,if_neg om,if_neg om,if_neg om,if_neg om]
theorem done_set (c:q9) (e:Ent) (hk:1≤e.k∧e.k≤5): ∃x0 x1 x2 x3 x4,za2 c e=qB (upd c 0 (i64.wrap (c 0+1))) e.s.toNat x0 x1 x2 x3 x4∧
  (e.k=1→x0=1∧x1=e.a∧x2=e.p∧x3=e.g∧x4=0)∧(e.k=5→x0=0∧x1=0∧x2=0∧x3=0∧x4=0)∧
  (e.k≠1→e.k≠5→x0=e.k∧x1=c (3+5*e.s.toNat+1)∧x2=c (3+5*e.s.toNat+2)∧x3=c (3+5*e.s.toNat+3)∧(e.k=4→x4=c 323)∧(e.k≠4→x4=c (3+5*e.s.toNat+4))):=by
 have hu: ∀j,upd c 0 (i64.wrap (c 0+1)) (3+5*e.s.toNat+j)=c (3+5*e.s.toNat+j):=fun j=>zc3 _ _ om
 by_cases h1:e.k=1
 ·exact ⟨1,e.a,e.p,e.g,0,by simp only [za2,h1,if_true],by simp [h1],by simp [h1],by simp [h1]⟩
 by_cases h5:e.k=5
 ·exact ⟨0,0,0,0,0,by simp [za2,h5],by simp [h5],by simp [h5],by simp [h5]⟩
 by_cases h4:e.k=4
 ·refine ⟨4,_,_,_,c 323, ?_,by simp [h4],by simp [h4],fun _ _=>⟨h4.symm,hu 1,hu 2,hu 3,fun _=>rfl,fun h=>absurd h4 h⟩⟩
  simp only [za2,h4];exact (zi6 _ _ _ _).symm
 by_cases h2:e.k=2
 ·refine ⟨2,_,_,_,_, ?_,by simp [h2],by simp [h2],fun _ _=>⟨h2.symm,hu 1,hu 2,hu 3,fun h=>by omega,fun _=>hu 4⟩⟩
  simp only [za2,h2];exact (zf2 _ _ _).symm
 ·have h3:e.k=3:=om
  refine ⟨3,_,_,_,_, ?_,by simp [h3],by simp [h3],fun _ _=>⟨h3.symm,hu 1,hu 2,hu 3,fun h=>by omega,fun _=>hu 4⟩⟩
  simp only [za2,h3];exact (zf2 _ _ _).symm
theorem done6 {c:q9} {e:Ent} (h:e.k=6) {i:Nat} (hi:1≤i∧i < 323):za2 c e i=c i:=by
 simp only [za2,h]
 show nextS (upd c 0 _) e.ka e.kb i=c i
 unfold nextS
 rw [zek _ _ _ _ _ _ _ _ om]
 exact zc3 _ _ om
theorem done6e {c:q9} {e:Ent} (h:e.k=6):za2 c e 323=i64.wrap (c 323+1):=by
 simp only [za2,h];rfl
theorem done0 (c:q9) (e:Ent) (hs:0≤e.s∧e.s < 64):za2 c e 0=i64.wrap (c 0+1):=by
 simp only [za2]
 repeat' split
 ·rw [ssN _ _ _ _ _ _ om om];rfl
 ·rw [zc3 _ _ om];rfl
 ·rw [zc3 _ _ om];rfl
 ·rw [zc3 _ _ om,zc3 _ _ om];rfl
 ·rw [ssN _ _ _ _ _ _ om om];rfl
 ·unfold nextS;rw [zek _ _ _ _ _ _ _ _ om];rfl
theorem ziq {e:Ent} (h:za5 e=0):(1≤e.k∧e.k≤6)∧(0≤e.s∧e.s < 64)∧(e.k=6→e.s=0)∧(e.k=1→za8 e.a e.p=true∧1≤e.g∧e.g≤8)∧(e.k≠1→e.a=0∧e.p=0∧e.g=0)∧(e.k≠6→e.ka=0∧e.kb=0):=by
 unfold za5 at h
 split at h
 ·cases h
 rename_i h1
 split at h
 ·cases h
 rename_i h2
 split at h
 ·cases h
 rename_i h3
 split at h
 ·cases h
 rename_i h4
 refine ⟨om,om,fun q=>by omega,fun q=>?_,fun q=>by omega,fun q=>by omega⟩
 have: ¬(za8 e.a e.p=false∨e.g < 1∨8 < e.g):=fun x=>h3 ⟨q,x⟩
 exact ⟨by cases hp:za8 e.a e.p<;>simp [hp] at this ⊢,om,om⟩
theorem apply_ok {c:q9} {e:Ent} (h:(qF c e).2=0):(qF c e).1=za2 c e∧za5 e=0∧zcm c e=false∧(e.k=5→¬c 323 < i64.wrap (c (3+5*e.s.toNat+4)+3)):=by
 unfold qF at h ⊢
 split at h
 ·rename_i he
  rw [if_pos he]
  refine ⟨rfl, ?_⟩
  unfold zew at he
  split at he
  ·rename_i hc;exact absurd he hc
  ·rename_i hc
   have hc:za5 e=0:=Decidable.of_not_not hc
   unfold zbL at he
   split at he
   ·cases he
   ·rename_i hb
    split at he
    ·cases he
    ·rename_i hs
     exact ⟨hc,by simpa using hb,fun h5 hx=>hs ⟨h5,hx⟩⟩
 ·rename_i he;exact absurd h he
theorem bad_false {c:q9} {e:Ent} (h:zcm c e=false):(e.k=1→c (3+5*e.s.toNat)=0∧zfq c e.a e.p=false)∧(e.k=2∨e.k=4→c (3+5*e.s.toNat)=1∨c (3+5*e.s.toNat)=3)∧(e.k=3→c (3+5*e.s.toNat)=2)∧(e.k=5→c (3+5*e.s.toNat)=4):=by
 unfold zcm at h
 simp only at h
 refine ⟨fun q=>?_,fun q=>?_,fun q=>?_,fun q=>?_⟩
 ·rw [if_pos q] at h
  simp only [Bool.or_eq_false_iff,decide_eq_false_iff_not,Decidable.not_not] at h;exact h
 ·rw [if_neg om,if_pos q] at h
  simp only [Bool.and_eq_false_iff,decide_eq_false_iff_not,Decidable.not_not] at h;exact h
 ·rw [if_neg om,if_neg om,if_pos q] at h
  simp only [decide_eq_false_iff_not,Decidable.not_not] at h;exact h
 ·rw [if_neg om,if_neg om,if_neg om,if_pos q] at h
  simp only [decide_eq_false_iff_not,Decidable.not_not] at h;exact h
theorem zg3 {c:q9} {a p:Int} : ∀ {n:Nat},zfw c a p n=false→∀k,k < n→c (3+5*k)≠0→¬(c (3+5*k+1)=a∧c (3+5*k+2)=p)
 | n+1,h,k,hk,h0=>by
  simp only [zfw,Bool.or_eq_false_iff] at h
  by_cases e:k=n
  ·subst e
   have:=h.2
   simp [zfK,h0] at this
   exact fun q=>this q.1 q.2
  ·exact zg3 h.1 k om h0
theorem zjh {c:q9} {a p:Int} (h:zfq c a p=false): ¬(c 1=a∧c 2=p)∧∀k,k < 64→c (3+5*k)≠0→¬(c (3+5*k+1)=a∧c (3+5*k+2)=p):=by
 simp only [zfq,Bool.or_eq_false_iff] at h
 refine ⟨?_,zg3 h.2⟩
 have:=h.1
 simp at this
 exact fun q=>this q.1 q.2
structure PInv (c:q9) (b:Nat):Prop where
  ver:0≤c 0∧c 0≤b
  ep:1≤c 323∧c 323≤b+1
  st: ∀k,k < 64→0≤c (3+5*k)∧c (3+5*k)≤4
  since: ∀k,k < 64→0≤c (3+5*k+4)∧c (3+5*k+4)≤c 323
  uniq: ∀j k,j < 64→k < 64→j≠k→c (3+5*j)≠0→c (3+5*k)≠0→¬(c (3+5*j+1)=c (3+5*k+1)∧c (3+5*j+2)=c (3+5*k+2))
  own: ∀k,k < 64→c (3+5*k)≠0→¬(c (3+5*k+1)=c 1∧c (3+5*k+2)=c 2)
  place:za8 (c 1) (c 2)=true
  slot: ∀k,k < 64→c (3+5*k)≠0→za8 (c (3+5*k+1)) (c (3+5*k+2))=true∧1≤c (3+5*k+3)∧c (3+5*k+3)≤8
theorem w1 {x:Int} (h:0≤x∧x≤4611686018427387904):i64.wrap (x+1)=x+1:=w64 om om
theorem PInv.apply {c:q9} {b:Nat} (I:PInv c b) (hb:b≤1000000) {e:Ent} (h:(qF c e).2=0):PInv (qF c e).1 (b+1):=by
 obtain ⟨h1,hc,hbad,hsoon⟩:=apply_ok h
 rw [h1]
 obtain ⟨hk,hs,hk6,hbind,hno,hnk⟩:=ziq hc
 obtain ⟨b1,b2,b3,b4⟩:=bad_false hbad
 have i1:=I.ver;have i2:=I.ep
 have hv:i64.wrap (c 0+1)=c 0+1:=w1 om
 by_cases h6:e.k=6
 ·have hw:i64.wrap (c 323+1)=c 323+1:=w1 om
  have hd: ∀ {i:Nat},1≤i∧i < 323→za2 c e i=c i:=fun hi=>done6 h6 hi
  have e0:=done0 c e hs
  have e323:za2 c e 323=c 323+1:=by rw [done6e h6,hw]
  refine ⟨by rw [e0,hv];omega,by rw [e323];omega,fun k hk=>?_,fun k hk=>?_,fun j k hj hk hjk=>?_,fun k hk=>?_, ?_,fun k hk=>?_⟩
  ·rw [hd om];exact I.st k hk
  ·rw [hd om,e323];have:=I.since k hk;omega
  ·rw [hd om,hd om,hd om,hd om,hd om,hd om];exact I.uniq j k hj hk hjk
  ·rw [hd om,hd om,hd om,hd om,hd om];exact I.own k hk
  ·rw [hd om,hd om];exact I.place
  ·rw [hd om,hd om,hd om,hd om];exact I.slot k hk
 ·obtain ⟨x0,x1,x2,x3,x4,hd,g1,g5,g3⟩:=done_set c e om
  rw [hd]
  have hs64:e.s.toNat < 64:=om
  have u: ∀ {i:Nat},0 < i→upd c 0 (i64.wrap (c 0+1)) i=c i:=fun hi=>zc3 _ _ om
  have hst:=I.st _ hs64
  have hsi:=I.since _ hs64
  refine ⟨?_, ?_,fun k hk=>?_,fun k hk=>?_,fun j k hj hk hjk=>?_,fun k hk=>?_, ?_,fun k hk=>?_⟩
  ·rw [ssN _ _ _ _ _ _ hs64 om,upd_eq,hv];omega
  ·rw [ssN _ _ _ _ _ _ hs64 om,u om];omega
  ·rw [ss0,u om]
   split
   ·by_cases q1:e.k=1
    ·have:=g1 q1;omega
    by_cases q5:e.k=5
    ·have:=g5 q5;omega
    ·have:=g3 q1 q5;omega
   ·exact I.st k hk
  ·rw [ss4,ssN _ _ _ _ _ _ hs64 om,u om,u om]
   split
   ·by_cases q1:e.k=1
    ·have:=g1 q1;omega
    by_cases q5:e.k=5
    ·have:=g5 q5;omega
    ·obtain ⟨_,_,_,_,q4,q4'⟩:=g3 q1 q5
     by_cases q:e.k=4
     ·rw [q4 q];omega
     ·rw [q4' q];exact hsi
   ·exact I.since k hk
  ·rw [ss0,ss0,ss1,ss1,ss2,ss2,u om,u om,u om,u om,u om,u om]
   intro n1 n2
   by_cases q5:e.k=5
   ·obtain ⟨z0,_⟩:=g5 q5
    by_cases ej:j=e.s.toNat
    ·rw [if_pos ej,z0] at n1;exact absurd rfl n1
    by_cases ek:k=e.s.toNat
    ·rw [if_pos ek,z0] at n2;exact absurd rfl n2
    simp only [ej,ek,if_false] at n1 n2 ⊢
    exact I.uniq j k hj hk hjk n1 n2
   by_cases q1:e.k=1
   ·obtain ⟨z0,z1,z2,_⟩:=g1 q1
    obtain ⟨_,hh⟩:=b1 q1
    have hf:=(zjh hh).2
    by_cases ej:j=e.s.toNat
    ·have ek:k≠e.s.toNat:=fun q=>hjk (ej.trans q.symm)
     simp only [ej,ek,if_true,if_false] at n1 n2 ⊢
     have:=hf k hk n2
     rw [z1,z2];exact fun q=>this ⟨q.1.symm,q.2.symm⟩
    by_cases ek:k=e.s.toNat
    ·simp only [ej,ek,if_true,if_false] at n1 n2 ⊢
     rw [z1,z2];exact hf j hj n1
    simp only [ej,ek,if_false] at n1 n2 ⊢
    exact I.uniq j k hj hk hjk n1 n2
   ·obtain ⟨z0,z1,z2,z3,_⟩:=g3 q1 q5
    have hne:c (3+5*e.s.toNat)≠0:=by
     have:e.k=2∨e.k=3∨e.k=4:=om
     rcases this with q | q | q
     ·have:=b2 (.inl q);omega
     ·have:=b3 q;omega
     ·have:=b2 (.inr q);omega
    have f: ∀i,(if i=e.s.toNat then x0 else c (3+5*i))≠0→c (3+5*i)≠0:=fun i q=>by
     by_cases ei:i=e.s.toNat
     ·rw [ei];exact hne
     ·rw [if_neg ei] at q;exact q
    have f1: ∀i,(if i=e.s.toNat then x1 else c (3+5*i+1))=c (3+5*i+1):=fun i=>by
     by_cases ei:i=e.s.toNat
     ·rw [if_pos ei,z1,ei]
     ·rw [if_neg ei]
    have f2: ∀i,(if i=e.s.toNat then x2 else c (3+5*i+2))=c (3+5*i+2):=fun i=>by
     by_cases ei:i=e.s.toNat
     ·rw [if_pos ei,z2,ei]
     ·rw [if_neg ei]
    rw [f1,f1,f2,f2]
    exact I.uniq j k hj hk hjk (f j n1) (f k n2)
  ·rw [ss0,ss1,ss2,ssN _ _ _ _ _ _ hs64 om,ssN _ _ _ _ _ _ hs64 om,u om,u om,u om,u om,u om]
   intro n1
   by_cases ek:k=e.s.toNat
   ·simp only [ek,if_true] at n1 ⊢
    by_cases q1:e.k=1
    ·obtain ⟨z0,z1,z2,_⟩:=g1 q1
     have:=(zjh (b1 q1).2).1
     rw [z1,z2];exact fun q=>this ⟨q.1.symm,q.2.symm⟩
    by_cases q5:e.k=5
    ·rw [(g5 q5).1] at n1;exact absurd rfl n1
    ·obtain ⟨z0,z1,z2,z3,_⟩:=g3 q1 q5
     rw [z1,z2]
     refine I.own _ hs64 ?_
     have:e.k=2∨e.k=3∨e.k=4:=om
     rcases this with q | q | q
     ·have:=b2 (.inl q);omega
     ·have:=b3 q;omega
     ·have:=b2 (.inr q);omega
   ·simp only [ek,if_false] at n1 ⊢
    exact I.own k hk n1
  ·rw [ssN _ _ _ _ _ _ hs64 om,ssN _ _ _ _ _ _ hs64 om,u om,u om];exact I.place
  ·rw [ss0,ss1,ss2,ss3,u om,u om,u om,u om]
   intro n1
   by_cases ek:k=e.s.toNat
   ·simp only [ek,if_true] at n1 ⊢
    by_cases q1:e.k=1
    ·obtain ⟨z0,z1,z2,z3,_⟩:=g1 q1
     rw [z1,z2,z3];exact hbind q1
    by_cases q5:e.k=5
    ·rw [(g5 q5).1] at n1;exact absurd rfl n1
    ·obtain ⟨z0,z1,z2,z3,_⟩:=g3 q1 q5
     rw [z1,z2,z3]
     refine I.slot _ hs64 ?_
     have:e.k=2∨e.k=3∨e.k=4:=om
     rcases this with q | q | q
     ·have:=b2 (.inl q);omega
     ·have:=b3 q;omega
     ·have:=b2 (.inr q);omega
   ·simp only [ek,if_false] at n1 ⊢
    exact I.slot k hk n1
theorem zil (a p ka kb na nb:Int) {i:Nat} (h:3≤i∧i < 323):newS a p ka kb na nb i=0:=by
 simp only [newS]
 rw [if_neg om,if_neg om,if_neg om,if_neg om,if_neg om,if_neg om,if_neg om]
theorem PInv.new {a p ka kb na nb:Int} (h:za8 a p=true):PInv (newS a p ka kb na nb) 0:=by
 refine ⟨(by decide:(0:Int)≤0∧(0:Int)≤0),(by decide:(1:Int)≤1∧(1:Int)≤0+1),fun k hk=>?_,fun k hk=>?_,fun j k hj hk hjk h1=>?_,fun k hk h1=>?_,h,fun k hk h1=>?_⟩
 ·rw [zil _ _ _ _ _ _ om];decide
 ·rw [zil _ _ _ _ _ _ om];exact ⟨dC,(by decide:(0:Int)≤1)⟩
 ·rw [zil _ _ _ _ _ _ om] at h1;exact absurd rfl h1
 ·rw [zil _ _ _ _ _ _ om] at h1;exact absurd rfl h1
 ·rw [zil _ _ _ _ _ _ om] at h1;exact absurd rfl h1
theorem PInv.mono {c:q9} {b b':Nat} (I:PInv c b) (h:b≤b'):PInv c b':=
 ⟨by have:=I.ver;omega,by have:=I.ep;omega,I.st,I.since,I.uniq,I.own,I.place,I.slot⟩
end Go.Rh
