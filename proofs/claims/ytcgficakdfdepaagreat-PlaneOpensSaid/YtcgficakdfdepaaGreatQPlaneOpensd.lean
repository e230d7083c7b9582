/- The proofs zcl the intermediate form, part QPlaneOpensd. -/
import Derived.Test.YtcgficakdfdepaaGreatQPlaneOpensc
open Go.IntKind (i64)
set_option linter.unusedVariables false
set_option linter.unusedSimpArgs false
set_option maxRecDepth 100000
namespace Go.Rh
theorem cloneC2 {P:Program} [PrC P] (q:Option (Nat×Nat)) (L l:List Int) (hr:RowOf q L l) (hl:l.length≤100000) (h0:0 < l.length):
  Env P "roundhouse/wire.clone" [zS q 0 l.length] [zG q (u8 L) false] (fun v h'=>v=zS (some (0,l.length)) 1 l.length∧h'= [zG q (u8 L) false,zG (some (0,l.length)) (u8 l) true]):=by
 have:=cloneC (P:=P) q L l hr hl
 rwa [zdp h0] at this
theorem ParseC2 {P:Program} {q:Option (Nat×Nat)} {L l:List Int} {x:Pk} (hp:qX l=(0,x)) (h:Env P "roundhouse/wire.Parse" [zS q 0 l.length] [zG q (u8 L) false] (fun v h'=>v=zeb l 1 2∧h'=zG q (u8 L) false::zea (qX l).2)):
  Env P "roundhouse/wire.Parse" [zS q 0 l.length] [zG q (u8 L) false] (fun v h'=>v= .tuple #[pkV x (zD x.op) 1 (zD x.da) 2,iv 0]∧h'= [zG q (u8 L) false,zG (zD x.op) (u8 x.op) true,zG (zD x.da) (u8 x.da) true]):=by
 simpa only [zeb,zea,hp] using h
theorem ren_pkT {ρ:Nat→Nat} {x:Pk} {qo qd:Option (Nat×Nat)} {ko kd ko' kd':Nat} {e:Int} (h1:ρ ko=ko') (h2:ρ kd=kd'):zaF ρ (.tuple #[pkV x qo ko qd kd,iv e])= .tuple #[pkV x qo ko' qd kd',iv e]:=by
 have h:=zcO (ρ:=ρ) (x:=x) (qo:=qo) (qd:=qd) h1 h2
 simp only [zaF,List.map_toArray,List.map_cons,List.map_nil]
 rw [show zeY ρ (pkV x qo ko qd kd)=pkV x qo ko' qd kd' from h];rfl
theorem zhK {ρ:Nat→Nat} {x:Pk} {qo qd:Option (Nat×Nat)} {k k' ko kd ko' kd':Nat} {e:Int} (h0:ρ k=k') (h1:ρ ko=ko') (h2:ρ kd=kd'):zaF ρ (.tuple #[pv k 0,pkV x qo ko qd kd,iv e])= .tuple #[pv k' 0,pkV x qo ko' qd kd',iv e]:=by
 have h:=zcO (ρ:=ρ) (x:=x) (qo:=qo) (qd:=qd) h1 h2
 subst h0
 simp only [zaF,List.map_toArray,List.map_cons,List.map_nil]
 rw [show zeY ρ (pkV x qo ko qd kd)=pkV x qo ko' qd kd' from h];rfl
theorem zcZ {l:List Int} {x:Pk} (hp:qX l=(0,x)):24≤l.length∧l.length≤1500:=by
 have:=headS_0 (zfV (by rw [hp]));omega
theorem zfs {l:List Int} {x:Pk} (hp:qX l=(0,x)):x.k=l.getD 0 0 % 256∧(1≤x.k∧x.k≤3)∧x.li=l.getD 1 0 % 256:=by
 have h0:=headS_0 (zfV (l:=l) (by rw [hp]))
 unfold qX at hp
 (repeat' split at hp)<;>first | (cases hp;exact ⟨rfl,⟨by show (1:Int)≤l.getD 0 0 % 256;omega,by show l.getD 0 0 % 256≤(3:Int);omega⟩,rfl⟩) | (simp only [Prod.mk.injEq] at hp;omega)
def turnK (w m:List Int):Nat→Nat→Int→Int
 | 0,_,s=>s
 | k+1,i,s=>turnK w m k (i+2) (zd3 s (qD w i 2) (qD m i 2))
def zfN (w m:List Int) (p a n:Nat):Int:=turnK w m ((a+n - a / 2*2+1) / 2) (a / 2*2) (qD m p 2)
def zeM (w m:List Int) (ba:Bool) (a n:Nat):List Int:=if ba then m else zbq m (zak (m.getD 0 0 % 256)).toNat 2 (zfN w m (zak (m.getD 0 0 % 256)).toNat a n)
def zdC (m:List Int) (ba:Bool):List Int:=if m.getD 0 0 % 256=2∧ba=false∧qD m 22 2=0 then zbq m 22 2 65535 else m
theorem qY (w m:List Int) (ba:Bool) (a n:Nat):(zeM w m ba a n).length=m.length:=by
 unfold zeM;split<;>simp [zX]
theorem zaf (m:List Int) (ba:Bool):(zdC m ba).length=m.length:=by
 unfold zdC;split<;>simp [zX]
def ageL (l:List Int) (ba:Bool):List Int:=
 let m:=l.set 1 (l.getD 1 0 % 256 - 1)
 zdC (zbq m 14 2 (zfN l m 14 0 2)) ba
def natL (l:List Int) (ba source:Bool) (addr port:Int):List Int:=
 let a:=if source then 4 else 8
 let p:=if source then 16 else 18
 let m:=zbq (zbq l a 4 addr) p 2 port
 let m:=zbq m 14 2 (zfN l m 14 a 4)
 zdC (zeM l (zeM l m ba a 4) ba p 2) ba
def zco (l:List Int) (ba:Bool) (a n:Nat) (v:Int):List Int:=zdC (zeM l (zbq l a n v) ba a n) ba
theorem andNot1 {n:Nat} (h:n < 4611686018427387904):i64.wrap ((BitVec.ofInt 64 (n:Nat)&&& ~~~(BitVec.ofInt 64 1)).toNat)=((n / 2*2:Nat):Int):=by
 have e1:(BitVec.ofInt 64 (n:Nat))=BitVec.ofNat 64 n:=by simp
 have e2:((BitVec.ofNat 64 n)&&& ~~~(BitVec.ofInt 64 1)).toNat=n / 2*2:=by
  have: ~~~(BitVec.ofInt 64 1)=BitVec.ofNat 64 18446744073709551614:=by decide
  rw [this,BitVec.toNat_and,BitVec.toNat_ofNat,BitVec.toNat_ofNat,Nat.mod_eq_of_lt om,Nat.mod_eq_of_lt dC]
  have h1:(n&&&18446744073709551614) / 2=n / 2:=by
   rw [Nat.and_div_two,show 18446744073709551614 / 2=2^63 - 1 from rfl,Nat.and_two_pow_sub_one_eq_mod,Nat.mod_eq_of_lt om]
  have h2:(n&&&18446744073709551614) % 2=0:=by
   have h3:(n&&&18446744073709551614).testBit 0=false:=by rw [Nat.testBit_and];simp
   rw [Nat.testBit_zero] at h3
   have:=of_decide_eq_false h3
   omega
  omega
 rw [e1,e2]
 exact zjc om (by show _ < (2:Int)^63;omega) dC
end Go.Rh

set_option maxHeartbeats 1000000
namespace Go.Rh
theorem za6 {h1 h1':List Blk} (h:h1.all (fun b=>match b with | .gone=>false | _=>true)=true):zgm h1 h1':=by
 intro i hi
 have:=List.all_eq_true.1 h _ (List.mem_of_getElem? hi)
 cases this
theorem zbL {ρ:Nat→Nat} {q:Option (Nat×Nat)} {l m:List Int} (h:l=m):zbx ρ (zG q (u8 l) true)=zG q (u8 m) true:=by
 subst h;exact zdh (zH _)
abbrev wv (a:Nat) (b:Nat) (c:List Int) (d:Pk) e:=zG (some (a,b)) (u8 c) false::zG (zD d.op) (u8 d.op) true::zG (zD d.da) (u8 d.da) true::e
abbrev wM (a:Pk) b c:=(pkL a (zD a.op) b (zD a.da) c)
abbrev wZ (a:Nat) (b:Nat):=(some (a,b))
abbrev ye (a:Nat) (b:Nat) c (d:List Int) e (f:Pk):=[zS (wZ a b) c d.length,zS (wa d) e d.length,bv f.ba]
abbrev vK (a:Nat) (b:Nat) (c:List Int) (d:Pk) e:=zG (wZ a b) (u8 c) false::cw wn::zG (zD d.op) (u8 d.op) true::zG (zD d.da) (u8 d.da) true::e
abbrev xq (a:Nat) (b:Nat):=[(a,bv false),(b,iv 0)]
abbrev xU (a:Nat) (b:Nat) (c:List Int):=[zG (wZ a b) (u8 c) false]
abbrev Wc (a:Pk):=#[pv 4 0,pkV a (zD a.op) 1 (zD a.da) 2,iv 0]
theorem beginC {P:Program} [PrC P] (o c:Nat) (L l:List Int) (hr:RowOf (wZ o c) L l) (x:Pk) (hp:qX l=(0,x)):
    Env P "roundhouse/wire.begin" [zS (wZ o c) 0 l.length] ((xU o c L)) (fun v h'=>v= .tuple (Wc x)∧h'= (wv o c L x [zG (wa l) (u8 l) true,cw (ye o c 0 l 3 x)])):=by
 refine Env.by4 PrC.wire_begin ?_
 unfold zhe
 show GC _ 1 _ _ ⟨reg [(0,zS (wZ o c) 0 l.length)],(xU o c L)⟩
 have hl:=zcZ hp
 have hx:=zfs hp
 refine zJ (zN (o_b 3 [(4,iv 0),(3,pv 1 0),(2,.pointer none)] [zG (wZ o c) (u8 L) false,cw wn] (zE (zA (zJ (zN (o_d 1 [(8,zS (wZ o c) 0 l.length)] (qV (zaD [0] (xU o c L) [zS (wZ o c) 0 l.length] (ParseC2 hp (ParseC (wZ o c) L l hr om)) rfl rfl ⟨⟨_,rfl,z4 (zH _) rfl (fun q=>q)⟩,trivial⟩ dC ?_)))))))))
 rintro v1 h1' ⟨rfl,rfl⟩
 refine ⟨q9 [_] [_,_],.tuple #[pkV x (zD x.op) 2 (zD x.da) 3,iv 0],[zG (wZ o c) (u8 L) false,cw wn],[zG (zD x.op) (u8 x.op) true,zG (zD x.da) (u8 x.da) true],(ren_pkT rfl rfl),⟨rfl,rfl,trivial⟩,⟨(Option.some.inj (zF (zH _))).symm,(Option.some.inj (zF (zH _))).symm,trivial⟩, ?_⟩
 refine o_b 6 [(6,iv 0),(5,pv 4 0),(11,iv 0),(10,pkV x (zD x.op) 2 (zD x.da) 3),(7,.tuple #[pkV x (zD x.op) 2 (zD x.da) 3,iv 0])] (vK o c L x [cw (wM x 2 3)]) (zE (zA (zJ (zJ (zN (o_d 2 (xq 13 12) (zE (zA (zbc rfl (qK (zA (zJ ?_))))))))))))
 refine zeE (vK o c L x [cw (wM x 2 3),.gone]) (by kernel_rfl) (d_n 2 2 5 [(17,zS (wZ o c) 0 l.length),(16,zS (wZ o c) 0 l.length)] (vK o c L x [cw (wM x 2 3),.gone]) [] (by kernel_rfl) rfl rfl (d_clN [0] (xU o c L) [zS (wZ o c) 0 l.length] (cloneC2 (wZ o c) L l hr om om) rfl rfl ⟨⟨_,rfl,z4 (zH _) rfl (fun q=>q)⟩,trivial⟩ dC ⟨_,_,⟨rfl,rfl⟩,Nat.le_add_right 1 1,zbD [_] [_]⟩ ?_ (by kernel_rfl)))
 rintro v1 h1' ⟨rfl,rfl⟩
 refine ⟨q9 [_] [_],zS (wa l) 6 l.length,(vK o c L x [cw (wM x 2 3),.gone]),[zG (wa l) (u8 l) true],rfl,⟨rfl,rfl,rfl,rfl,rfl,rfl,trivial⟩,⟨(Option.some.inj (zF (zH _))).symm,trivial⟩, ?_⟩
 refine d_n 1 4 5 [(19,pv 4 9)] (vK o c L x [cw (wM x 2 3),.gone,zG (wa l) (u8 l) true]) [⟨2,[0],[],some 6⟩] (by kernel_rfl) rfl rfl (d_s rfl rfl rfl (by kernel_rfl) (by refine zV (v:=bv x.ba) rfl rfl ?_;exact rfl) ?_)
 refine d_n 2 7 6 [(22,pv 5 0),(21,.agg #[zS (wZ o c) 0 l.length,zS (wa l) 6 l.length,bv x.ba])] (vK o c L x [cw (wM x 2 3),cw (ye o c 0 l 6 x),zG (wa l) (u8 l) true]) [⟨6,[],[5],none⟩,⟨4,[4],[],none⟩,⟨2,[0],[],some 6⟩] (by kernel_rfl) rfl rfl (d_s rfl rfl rfl (by kernel_rfl) (by refine zV (v:=pkV x (zD x.op) 2 (zD x.da) 3) rfl rfl ?_;exact rfl) ?_)
 exact d_n 3 11 6 [(4,iv 0),(2,pv 5 0)] [zG (wZ o c) (u8 L) false,cw (wM x 2 3),zG (zD x.op) (u8 x.op) true,zG (zD x.da) (u8 x.da) true,cw (wM x 2 3),cw (ye o c 0 l 6 x),zG (wa l) (u8 l) true] [⟨9,[1],[1],none⟩,⟨7,[4],[],none⟩,⟨6,[],[5],none⟩,⟨4,[4],[],none⟩,⟨2,[0],[],some 6⟩] (by kernel_rfl) rfl rfl (zgp (zA (qW (⟨trivial,[pv 5 0,pkV x (zD x.op) 2 (zD x.da) 3,iv 0],(zT rfl (q8 rfl rfl rfl (zT rfl rfl))),(zM rfl (zM rfl (zM rfl z5))),⟨reg [],(wv o c L x [zG (wa l) (u8 l) true,cw (ye o c 0 l 3 x)])⟩,[0,2,3,6,5],[pv 4 0,pkV x (zD x.op) 1 (zD x.da) 2,iv 0],WkR.of (rs:= []) rfl rfl dC trivial ⟨.inl (zF (zH _)),.inl (zF (zH _)),.inl (zF (zH _)),.inl (zF (zH _)),.inl rfl,trivial⟩,(zQ rfl (zQ (zcO rfl rfl) (zQ rfl rfl))),rfl,rfl⟩))))
end Go.Rh

set_option maxHeartbeats 1000000
namespace Go.Rh
abbrev yb (a:Nat) (b:Nat) (c:List Int) (d:Bool) (e:List Int) (f:List Int):=[cr [zS (wZ a b) 1 c.length,zS (wa c) 2 c.length,bv d],zG (wZ a b) (u8 e) false,zG (wa c) (u8 f) true]
abbrev vb (a:Nat) (b:List Int) (c:Nat) (d:Nat) (e:Nat) (f:Nat) (g:Nat):=[(a,zS (wa b) c b.length),(d,pv e 1),(f,pv e 0),(g,pv e 0)]
abbrev W4 (a:List Int) (b:List Int):=[zG (wa a) (u8 b) true]
theorem turnC {P:Program} [PrC P] (w m:List Int) (o c:Nat) (L:List Int) (hr:RowOf (wZ o c) L w) (ba:Bool) (pn a n:Nat) (hm:m.length=w.length) (ha:a+n≤w.length) (hp:pn+2≤w.length) (hl:w.length≤100000):
    Env P "(*roundhouse/wire.turner).turn" [pv 0 0,iv (pn:Nat),iv (a:Nat),iv (n:Nat)] ((yb o c w ba L m)) (fun v h'=>v= .tuple #[]∧h'= [cr [zS (wZ o c) 1 w.length,zS (wa w) 2 w.length,bv ba],zG (wZ o c) (u8 L) false,zG (wa w) (u8 (zbq m pn 2 (zfN w m pn a n))) true]):=by
 refine Env.by2 PrC.wire_turner_turn ?_
 unfold zdM
 show GC _ 3 _ _ ⟨reg [(0,pv 0 0),(1,iv (pn:Nat)),(2,iv (a:Nat)),(3,iv (n:Nat))],(yb o c w ba L m)⟩
 refine zJ (zN (o_d 5 ((14,iv (pn:Nat))::(vb 13 w 2 12 0 11 10)) (qV (zdD (a1:= [zS (wa w) 0 m.length,iv (pn:Nat),iv 2]) [2] [u8 m] (getC (wa w) m m (RowOf.whole rfl om) pn 2 om om om) rfl (fun _=>zQ (zam rfl om) rfl) ⟨⟨_,rfl⟩,zH _,trivial⟩ rfl ?_))))
 have hn1:=(zcJ m pn).2.1
 refine o_d 1 [(8,iv (qD m pn 2))] (zE (zA (zJ (zJ (zN (o_d 1 [(16,iv (a:Nat))] (o_s (by refine zK (congrArg wg (andNot1 (n:=a) om)) ?_;kernel_rfl) ?_)))))))
 refine o_d 1 [(9,iv (a / 2*2:Nat))] (zE (zA (qU (zcs (fun μ s=> ∃(i:Nat),∃(u:Int),μ=a+n - i∧(turnK w m ((a+n - i+1) / 2) i u=zfN w m pn a n)∧(0≤u∧u≤65535)∧s=⟨reg [(9,iv (i:Nat)),(8,iv u),(0,pv 0 0),(1,iv (pn:Nat)),(2,iv (a:Nat)),(3,iv (n:Nat))],(yb o c w ba L m)⟩) ⟨(a+n - (a / 2*2)), ?_⟩ ?_))))
 ·skip
  refine ⟨⟨reg [(9,iv ((a / 2*2):Nat)),(8,iv (qD m pn 2)),(0,pv 0 0),(1,iv (pn:Nat)),(2,iv (a:Nat)),(3,iv (n:Nat))],(yb o c w ba L m)⟩, ?_⟩
  refine ⟨?_, ?_⟩
  ·exact Wk.ren [0,1,2] rfl rfl dC ⟨rfl,rfl,rfl,rfl,rfl,rfl,trivial⟩ ⟨.inl rfl,.inl (zF (zH _)),.inl (zF (zH _)),trivial⟩
  ·exact ⟨(a / 2*2),(qD m pn 2),rfl,rfl,om,rfl⟩
 rintro μ s ⟨i,u,rfl,hk,hs,rfl⟩
 refine zJ (zJ (zN (o_d 3 [(20,iv (n:Nat)),(19,iv (a:Nat)),(18,iv (i:Nat))] (o_s (by refine zK (v:= .int .i64 (i64.wrap ((a:Nat)+(n:Nat)))) (congrArg wg (w64 om om)) ?_;kernel_rfl) ?_))))
 refine o_d 1 [(22,bv (decide (((i:Nat):Int) < (a:Nat)+(n:Nat))))] (zE (zA (qJ (t:=decide (((i:Nat):Int) < (a:Nat)+(n:Nat))) rfl (fun h2=>?_) (fun h2=>?_))))
 ·skip
  have h2':((i:Nat):Int) < (a:Nat)+(n:Nat):=of_decide_eq_true h2
  refine qK (zA (zJ (qU (zbe [] (r_d 6 [(30,iv (i:Nat)),(29,zS (wZ o c) 1 w.length),(28,pv 0 0),(27,pv 0 0),(26,pv 0 0),(25,iv u)] (zeJ (zfb (a1:= [zS (wZ o c) 0 w.length,iv (i:Nat)]) [1] [u8 L] (pairC (wZ o c) L w hr i om om) rfl (fun _=>rfl) ⟨⟨_,rfl⟩,zH _,trivial⟩ rfl ?_)))))))
  have hn3:=(zcJ w i).2.1
  refine r_d 5 ((36,iv (i:Nat))::(vb 35 w 2 34 0 33 32)) (zeJ (zfb (a1:= [zS (wa w) 0 m.length,iv (i:Nat)]) [2] [u8 m] (pairC (wa w) m m (RowOf.whole rfl om) i om om) rfl (fun _=>zQ (zam rfl om) rfl) ⟨⟨_,rfl⟩,zH _,trivial⟩ rfl ?_))
  have hn4:=(zcJ m i).2.1
  refine zeJ (zba (TurnC u (qD w i 2) (qD m i 2) om) rfl rfl rfl ?_)
  refine r_d 1 [(8,iv (zd3 u (qD w i 2) (qD m i 2)))] (za3 (zA (zN (o_d 1 [(23,iv (i:Nat))] (o_s (by refine zK (v:= .int .i64 (i64.wrap ((i:Nat)+2))) (congrArg wg (w64 om om)) ?_;kernel_rfl) ?_)))))
  refine o_d 1 [(9,iv ((i:Nat)+2))] (zE (⟨a+n - (i+2), ?_⟩))
  refine ⟨⟨reg [(9,iv ((i+2):Nat)),(8,iv (zd3 u (qD w i 2) (qD m i 2))),(0,pv 0 0),(1,iv (pn:Nat)),(2,iv (a:Nat)),(3,iv (n:Nat))],(yb o c w ba L m)⟩, ?_⟩
  refine zde om ⟨?_, ?_⟩
  ·exact Wk.ren [0,1,2] rfl rfl dC ⟨rfl,rfl,rfl,rfl,rfl,rfl,trivial⟩ ⟨.inl rfl,.inl (zF (zH _)),.inl (zF (zH _)),trivial⟩
  ·exact ⟨(i+2),(zd3 u (qD w i 2) (qD m i 2)),rfl,(by rw [show (a+n - i+1) / 2=(a+n - (i+2)+1) / 2+1 by omega] at hk;exact hk),(turnS_r ⟨hs,om,om⟩),rfl⟩
 have h2': ¬(((i:Nat):Int) < (a:Nat)+(n:Nat)):=of_decide_eq_false h2
 refine zb1 (zA (zN (o_d 6 ((44,iv u)::(43,iv (pn:Nat))::(vb 42 w 2 41 0 40 39)) ?_)))
 obtain ⟨m5,hm5⟩: ∃z9,zbq m pn 2 u=z9:=⟨_,rfl⟩
 have hm5l:m5.length=m.length:=by rw [←hm5,zX]
 refine qV (zaD [2] (W4 w m) [zS (wa w) 0 m.length,iv (pn:Nat),iv 2,iv u] (putC (wa w) m m (RowOf.whole rfl om) pn 2 u om om om) rfl (zQ (zam rfl om) (zQ rfl (zQ rfl (zQ rfl rfl)))) ⟨⟨_,rfl,z4 (zH _) rfl (fun q=>rfl)⟩,trivial⟩ dC ?_)
 rintro v1 h1' ⟨rfl,rfl⟩
 refine ⟨(fun i q=>zcC q),.tuple #[],(yb o c w ba L m5),[],(by simp [zaF]),⟨rfl,rfl,(zcz hm5),trivial⟩,trivial, ?_⟩
 refine zE ?_
 have hs2:u=zfN w m pn a n:=by
  have e:(a+n - i+1) / 2=0:=om
  rw [e] at hk;exact hk
 exact ⟨trivial,⟨reg [],(yb o c w ba L m5)⟩,Wk.ren [0,1,2] rfl rfl dC trivial ⟨.inl rfl,.inl (zF (zH _)),.inl (zF (zH _)),trivial⟩,[],rfl,z5,rfl,(by rw [←hm5,hs2])⟩
theorem turnC2 {P:Program} [PrC P] (w m:List Int) (o c:Nat) (L:List Int) (hr:RowOf (some (o,c)) L w) (ba:Bool) (p:Int) (pn a n:Nat) (hpn:p=(pn:Nat)) (hm:m.length=w.length) (ha:a+n≤w.length) (hp:pn+2≤w.length) (hl:w.length≤100000):
  Env P "(*roundhouse/wire.turner).turn" [pv 0 0,iv p,iv (a:Nat),iv (n:Nat)] ([cr [zS (some (o,c)) 1 w.length,zS (some (0,w.length)) 2 w.length,bv ba],zG (some (o,c)) (u8 L) false,zG (some (0,w.length)) (u8 m) true]) (fun v h'=>v= .tuple #[]∧h'= [cr [zS (some (o,c)) 1 w.length,zS (some (0,w.length)) 2 w.length,bv ba],zG (some (o,c)) (u8 L) false,zG (some (0,w.length)) (u8 (zbq m pn 2 (zfN w m pn a n))) true]):=by
 subst hpn;exact turnC w m o c L hr ba pn a n hm ha hp hl
abbrev wJ (a:Nat) (b:Nat) (c:Nat) (d:Nat) (e:Nat) (f:Nat) (g:Nat) (h:Nat) (i:Nat):=[(a,pv b c),(d,pv e 0),(f,pv g 0),(h,pv i 0)]
theorem bodyC {P:Program} [PrC P] (w m:List Int) (o c:Nat) (L:List Int) (hr:RowOf (wZ o c) L w) (ba:Bool) (a n:Nat) (hm:m.length=w.length) (ha:a+n≤w.length) (h24:24≤w.length) (hl:w.length≤100000):
    Env P "(*roundhouse/wire.turner).body" [pv 0 0,iv (a:Nat),iv (n:Nat)] ((yb o c w ba L m)) (fun v h'=>v= .tuple #[]∧h'= [cr [zS (wZ o c) 1 w.length,zS (wa w) 2 w.length,bv ba],zG (wZ o c) (u8 L) false,zG (wa w) (u8 (zeM w m ba a n)) true]):=by
 refine Env.by2 PrC.wire_turner_body ?_
 unfold zdO
 show GC _ 3 _ _ ⟨reg [(0,pv 0 0),(1,iv (a:Nat)),(2,iv (n:Nat))],(yb o c w ba L m)⟩
 refine zJ (zN (o_d 5 [(10,bv (!ba)),(9,bv ba),(8,pv 0 2),(7,pv 0 0),(6,pv 0 0)] (zE (zA (qJ (t:= !ba) rfl (fun h1=>?_) (fun h1=>?_))))))
 ·skip
  have h2:ba=false:=not_t h1
  refine zN (o_d 5 ((15,zS (wa w) 2 w.length)::(wJ 14 0 1 13 0 12 0 11 0)) (o_s (by exact qP (q:=some (0,w.length)) (k:=2) (m:=w.length) (o':=0) rfl (fun q=>by cases q) rfl om (by simp only [qo];omega)) ?_))
  refine o_s (by refine zV (v:= .int .u8 (m.getD 0 0 % 256)) rfl rfl ?_;exact zb5 (q:=some (0,w.length)) (L:=m) (l:=m) (i:=0) (RowOf.whole rfl om) om rfl) ?_
  refine o_s (by refine zK (v:= .int .i64 (i64.wrap (m.getD 0 0 % 256))) (congrArg wg (w64 om om)) ?_;kernel_rfl) ?_
  refine qV (zab (zh7 (m.getD 0 0 % 256)) rfl rfl rfl ?_)
  have hy3:=zfr (m.getD 0 0 % 256)
  refine o_d 2 [(21,iv (n:Nat)),(20,iv (a:Nat))] ?_
  obtain ⟨m4,hm4⟩: ∃z9,zbq m ((zak (m.getD 0 0 % 256)).toNat) 2 (zfN w m ((zak (m.getD 0 0 % 256)).toNat) a n)=z9:=⟨_,rfl⟩
  have hm4l:m4.length=m.length:=by rw [←hm4];first | exact zX _ _ _ _ | exact qY _ _ _ _ _ | exact zaf _ _
  refine qV (zaD [0,1,2] (yb o c w ba L m) [pv 0 0,iv (zak (m.getD 0 0 % 256)),iv (a:Nat),iv (n:Nat)] (turnC2 w m _ _ _ hr ba (zak (m.getD 0 0 % 256)) ((zak (m.getD 0 0 % 256)).toNat) a n om om om om om) rfl rfl ⟨⟨_,rfl,.inl (⟨rfl,fun q=>q⟩)⟩,⟨_,rfl,z4 (q:=some (o,c)) (q':=some (o,c)) (zH _) rfl (fun q=>q)⟩,⟨_,rfl,z4 (q:=some (0,w.length)) (q':=some (0,w.length)) (zH _) rfl (fun q=>rfl)⟩,trivial⟩ dC ?_)
  rintro v1 h1' ⟨rfl,rfl⟩
  refine ⟨za6 rfl,.tuple #[],(yb o c w ba L m4),[],(by simp [zaF]),⟨rfl,rfl,(zbL hm4),trivial⟩,trivial, ?_⟩
  exact zE (⟨trivial,⟨reg [],(yb o c w ba L m4)⟩,Wk.ren [0,1,2] rfl rfl dC trivial ⟨.inl rfl,.inl (zF (zH _)),.inl (zF (zH _)),trivial⟩,[],rfl,z5,rfl,(by rw [zeM,if_neg (by simp_all),hm4])⟩)
 have h5:ba=true:=not_f h1
 exact qK (⟨trivial,⟨reg [],(yb o c w ba L m)⟩,Wk.ren [0,1,2] rfl rfl dC trivial ⟨.inl rfl,.inl (zF (zH _)),.inl (zF (zH _)),trivial⟩,[],rfl,z5,rfl,(by rw [zeM,if_pos (by simp_all)])⟩)
abbrev vo:=[(0,pv 0 0)]
theorem doneC {P:Program} [PrC P] (w m:List Int) (o c:Nat) (L:List Int) (hr:RowOf (wZ o c) L w) (ba:Bool) (hm:m.length=w.length) (h24:24≤w.length) (hl:w.length≤100000):
    Env P "(*roundhouse/wire.turner).done" [pv 0 0] ((yb o c w ba L m)) (fun v h'=>v=zS (wa w) 2 w.length∧h'= [cr [zS (wZ o c) 1 w.length,zS (wa w) 2 w.length,bv ba],zG (wZ o c) (u8 L) false,zG (wa w) (u8 (zdC m ba)) true]):=by
 refine Env.by2 PrC.wire_turner_done ?_
 unfold zdN
 show GC _ 3 _ _ ⟨reg vo,(yb o c w ba L m)⟩
 refine zJ (zN (o_d 1 [(2,.slice none 0 0)] (zE (zA (zJ (zJ (zN (o_d 4 (vb 6 w 2 5 0 4 3) (o_s (by exact qP (q:=some (0,w.length)) (k:=2) (m:=w.length) (o':=0) rfl (fun q=>by cases q) rfl om (by simp only [qo];omega)) ?_)))))))))
 refine o_s (by refine zV (v:= .int .u8 (m.getD 0 0 % 256)) rfl rfl ?_;exact zb5 (q:=some (0,w.length)) (L:=m) (l:=m) (i:=0) (RowOf.whole rfl om) om rfl) ?_
 refine o_s (by refine zK (v:= .int .i64 (i64.wrap (m.getD 0 0 % 256))) (congrArg wg (w64 om om)) ?_;kernel_rfl) ?_
 refine o_d 2 [(11,bv ((m.getD 0 0 % 256)==2)),(10,bv ((m.getD 0 0 % 256)==2))] (zbJ (b:=(m.getD 0 0 % 256)==2) 11 rfl (fun h1=>?_) (fun h1=>?_))
 ·skip
  have h1':m.getD 0 0 % 256=2:=zaQ h1
  refine o_d 7 [(18,bv (!ba)),(17,bv (!ba)),(16,bv (!ba)),(15,bv ba),(14,pv 0 2),(13,pv 0 0),(12,pv 0 0)] (zbJ (b:= !ba) 18 rfl (fun h2=>?_) (fun h2=>?_))
  ·skip
   refine o_d 4 (vb 22 w 2 21 0 20 19) (qB rfl (qV (zdD (a1:= [zS (wa w) 0 m.length,iv 22,iv 2]) [2] [u8 m] (getC (wa w) m m (RowOf.whole rfl om) 22 2 om om om) rfl (fun _=>zQ (zam rfl om) rfl) ⟨⟨_,rfl⟩,zH _,trivial⟩ rfl ?_)))
   have hn3:=(zcJ m 22).2.1
   refine o_d 2 [(25,bv ((qD m 22 2)==0)),(24,bv ((qD m 22 2)==0))] (zE (zU [(25,bv ((qD m 22 2)==0)),(0,pv 0 0)] (qJ (t:=(qD m 22 2)==0) rfl (fun h4=>?_) (fun h4=>?_))))
   ·skip
    have h4':qD m 22 2=0:=zaQ h4
    refine zN (o_d 4 (vb 29 w 2 28 0 27 26) ?_)
    obtain ⟨m5,hm5⟩: ∃z9,zbq m 22 2 65535=z9:=⟨_,rfl⟩
    have hm5l:m5.length=m.length:=by rw [←hm5,zX]
    refine qV (zaD [2] (W4 w m) [zS (wa w) 0 m.length,iv 22,iv 2,iv 65535] (putC (wa w) m m (RowOf.whole rfl om) 22 2 65535 om om om) rfl (zQ (zam rfl om) (zQ rfl (zQ rfl (zQ rfl rfl)))) ⟨⟨_,rfl,z4 (zH _) rfl (fun q=>rfl)⟩,trivial⟩ dC ?_)
    rintro v1 h1' ⟨rfl,rfl⟩
    refine ⟨(fun i q=>zcC q),.tuple #[],(yb o c w ba L m5),[],(by simp [zaF]),⟨rfl,rfl,(zcz hm5),trivial⟩,trivial, ?_⟩
    refine zE (zA (zJ (zN (o_d 5 ((2,zS (wa w) 2 w.length)::(vb 34 w 2 33 0 32 31)) (zE (zA (qW ?_)))))))
    have he:zdC m ba=m5:=by unfold zdC;split<;>simp_all
    exact ⟨trivial,⟨reg [(2,zS (wa w) 2 w.length)],(yb o c w ba L m5)⟩,Wk.ren [0,1,2] rfl rfl dC ⟨rfl,trivial⟩ ⟨.inl rfl,.inl (zF (zH _)),.inl (zF (zH _)),trivial⟩,[zS (wa w) 2 w.length],(zT rfl rfl),(zM rfl z5),rfl,(by rw [he])⟩
   have h4': ¬(qD m 22 2=0):=zaR h4
   refine qK (zA (zJ (zN (o_d 5 ((2,zS (wa w) 2 w.length)::(vb 34 w 2 33 0 32 31)) (zE (zA (qW ?_)))))))
   have he:zdC m ba=m:=by unfold zdC;split<;>simp_all
   exact ⟨trivial,⟨reg [(2,zS (wa w) 2 w.length)],(yb o c w ba L m)⟩,Wk.ren [0,1,2] rfl rfl dC ⟨rfl,trivial⟩ ⟨.inl rfl,.inl (zF (zH _)),.inl (zF (zH _)),trivial⟩,[zS (wa w) 2 w.length],(zT rfl rfl),(zM rfl z5),rfl,(by rw [he])⟩
  refine o_d 7 ((25,bv false)::(24,undef)::(23,undef)::(vG 22 21 20 19)) (zE (zU [(25,bv false),(0,pv 0 0)] (zbc rfl (qK (zA (zJ (zN (o_d 5 ((2,zS (wa w) 2 w.length)::(vb 34 w 2 33 0 32 31)) (zE (zA (qW ?_)))))))))))
  have he:zdC m ba=m:=by unfold zdC;split<;>simp_all
  exact ⟨trivial,⟨reg [(2,zS (wa w) 2 w.length)],(yb o c w ba L m)⟩,Wk.ren [0,1,2] rfl rfl dC ⟨rfl,trivial⟩ ⟨.inl rfl,.inl (zF (zH _)),.inl (zF (zH _)),trivial⟩,[zS (wa w) 2 w.length],(zT rfl rfl),(zM rfl z5),rfl,(by rw [he])⟩
 have h1': ¬(m.getD 0 0 % 256=2):=zaR h1
 refine o_d 14 ((25,bv false)::(24,undef)::(23,undef)::(22,undef)::(21,undef)::(20,undef)::(19,undef)::(18,bv false)::(17,bv false)::(16,undef)::(vG 15 14 13 12)) (zE (zU [(25,bv false),(0,pv 0 0)] (zbc rfl (qK (zA (zJ (zN (o_d 5 ((2,zS (wa w) 2 w.length)::(vb 34 w 2 33 0 32 31)) (zE (zA (qW ?_)))))))))))
 have he:zdC m ba=m:=by unfold zdC;split<;>simp_all
 exact ⟨trivial,⟨reg [(2,zS (wa w) 2 w.length)],(yb o c w ba L m)⟩,Wk.ren [0,1,2] rfl rfl dC ⟨rfl,trivial⟩ ⟨.inl rfl,.inl (zF (zH _)),.inl (zF (zH _)),trivial⟩,[zS (wa w) 2 w.length],(zT rfl rfl),(zM rfl z5),rfl,(by rw [he])⟩
end Go.Rh

set_option maxHeartbeats 1000000
namespace Go.Rh
abbrev vc (a:Nat) (b:Nat) (c:List Int) (d:Pk) (e:List Int):=(wv a b c d [zG (wa e) (u8 e) true,cw (ye a b 0 e 3 d),cw (wM d 1 2)])
abbrev vH (a:Nat) (b:Nat) (c:List Int) (d:Pk) (e:List Int) f:=(wv a b c d [zG (wa e) (u8 f) true,cw (ye a b 0 e 3 d),cw (wM d 1 2)])
abbrev xQ (a:Nat) (b:Nat) (c:List Int) (d:Pk) (e:List Int) f:=[cr (ye a b 1 c 2 d),zG (wZ a b) (u8 e) false,zG (wa c) (u8 f) true]
theorem AgeC {P:Program} [PrC P] (o c:Nat) (L l:List Int) (hr:RowOf (wZ o c) L l) (x:Pk) (hp:qX l=(0,x)) (h2:2≤x.li):
    Env P "roundhouse/wire.Age" [zS (wZ o c) 0 l.length] ((xU o c L)) (fun v h'=>v= .tuple #[zS (wa l) 1 l.length,iv 0]∧h'= [zG (wZ o c) (u8 L) false,zG (wa l) (u8 (ageL l x.ba)) true]):=by
 refine Env.by4 PrC.wire_Age ?_
 unfold zjH
 show GC _ 1 _ _ ⟨reg [(0,zS (wZ o c) 0 l.length)],(xU o c L)⟩
 have hl:=zcZ hp
 have hx:=zfs hp
 refine zJ (zN (o_d 2 [(3,iv 0),(2,.slice none 0 0)] (zE (zA (zJ (zN (o_d 1 [(8,zS (wZ o c) 0 l.length)] (qV (zaD [0] (xU o c L) [zS (wZ o c) 0 l.length] (beginC _ _ L l hr x hp) rfl rfl ⟨⟨_,rfl,z4 (zH _) rfl (fun q=>q)⟩,trivial⟩ dC ?_)))))))))
 rintro v1 h1' ⟨rfl,rfl⟩
 refine ⟨za6 rfl,.tuple (Wc x),(xU o c L),[zG (zD x.op) (u8 x.op) true,zG (zD x.da) (u8 x.da) true,zG (wa l) (u8 l) true,cw (ye o c 0 l 3 x)],(zhK rfl rfl rfl),⟨rfl,trivial⟩,⟨(Option.some.inj (zF (zH _))).symm,(Option.some.inj (zF (zH _))).symm,(Option.some.inj (zF (zH _))).symm,rfl,trivial⟩, ?_⟩
 refine o_b 8 [(6,iv 0),(4,pv 4 0),(5,pv 5 0),(12,iv 0),(11,pkV x (zD x.op) 1 (zD x.da) 2),(10,pv 4 0),(7,.tuple (Wc x))] (vc o c L x l) (zE (zA (zJ (qU (zJ (zN (o_d 3 [(13,bv false),(15,bv false),(14,iv 0)] (zE (zA (zbc rfl (zJ (zN ?_))))))))))))
 refine o_d 1 [(18,pv 5 1)] (o_s (by refine zV (v:=iv x.li) rfl rfl ?_;exact rfl) ?_)
 refine o_d 2 [(17,bv (decide (x.li < 2))),(20,bv (decide (x.li < 2)))] (zE (zA (qJ (t:=decide (x.li < 2)) rfl (fun q=>by rw [(by simp;omega:(decide (x.li < 2))=false)] at q;cases q) (fun _=>?_))))
 refine qK (zA (zJ (zN (o_d 4 (vb 24 l 3 23 4 22 21) (o_s (by exact qP (q:=some (0,l.length)) (k:=3) (m:=l.length) (o':=1) rfl (fun q=>by cases q) rfl om (by simp only [qo];omega)) ?_)))))
 refine o_s (by refine zV (v:= .int .u8 (l.getD 1 0 % 256)) rfl rfl ?_;exact zb5 (q:=some (0,l.length)) (L:=l) (l:=l) (i:=1) (RowOf.whole rfl (Nat.le_refl _)) om rfl) ?_
 refine o_d 1 [(27,.int .u8 (IntKind.u8.wrap (l.getD 1 0 % 256 - 1)))] (o_s (by exact qP (q:=some (0,l.length)) (k:=3) (m:=l.length) (o':=1) rfl (fun q=>by cases q) rfl om (by simp only [qo];omega)) ?_)
 obtain ⟨m1,hm1⟩: ∃z9,l.set 1 (l.getD 1 0 % 256 - 1)=z9:=⟨_,rfl⟩
 have hm1l:m1.length=l.length:=by rw [←hm1,List.length_set]
 refine zdj (by exact zij (x:=l.getD 1 0 % 256 - 1) rfl rfl rfl (by simp) om rfl (by rw [hm1]<;>rfl)) ?_
 refine zE (zU [(4,pv 4 0)] (zJ (zN (o_d 1 [(29,pv 4 0)] ?_))))
 obtain ⟨m2,hm2⟩: ∃z9,zbq m1 14 2 (zfN l m1 14 0 2)=z9:=⟨_,rfl⟩
 have hm2l:m2.length=m1.length:=by rw [←hm2];first | exact zX _ _ _ _ | exact qY _ _ _ _ _ | exact zaf _ _
 refine qV (zaD [4,0,3] (xQ o c l x L m1) [pv 0 0,iv 14,iv 0,iv 2] (turnC2 l m1 _ _ _ hr x.ba 14 14 0 2 om om om om om) rfl rfl ⟨⟨_,rfl,.inl (⟨rfl,fun q=>by cases q⟩)⟩,⟨_,rfl,z4 (q:=some (o,c)) (q':=some (o,c)) (zH _) rfl (fun q=>q)⟩,⟨_,rfl,z4 (q:=some (0,l.length)) (q':=some (0,l.length)) (zH _) rfl (fun q=>rfl)⟩,trivial⟩ dC ?_)
 rintro v1 h1' ⟨rfl,rfl⟩
 refine ⟨za6 rfl,.tuple #[],(vH o c L x l m2),[],(by simp [zaF]),⟨rfl,rfl,rfl,(zbL hm2),rfl,rfl,trivial⟩,trivial, ?_⟩
 refine zE (zA (zJ (zN (o_d 1 [(31,pv 4 0)] ?_))))
 obtain ⟨m3,hm3⟩: ∃z9,zdC m2 x.ba=z9:=⟨_,rfl⟩
 have hm3l:m3.length=m2.length:=by rw [←hm3];first | exact zX _ _ _ _ | exact qY _ _ _ _ _ | exact zaf _ _
 refine qV (zaD [4,0,3] (xQ o c l x L m2) [pv 0 0] (doneC l m2 _ _ _ hr x.ba om om om) rfl rfl ⟨⟨_,rfl,.inl (⟨rfl,fun q=>by cases q⟩)⟩,⟨_,rfl,z4 (q:=some (o,c)) (q':=some (o,c)) (zH _) rfl (fun q=>q)⟩,⟨_,rfl,z4 (q:=some (0,l.length)) (q':=some (0,l.length)) (zH _) rfl (fun q=>rfl)⟩,trivial⟩ dC ?_)
 rintro v1 h1' ⟨rfl,rfl⟩
 refine ⟨za6 rfl,zS (wa l) 3 l.length,(vH o c L x l m3),[],rfl,⟨rfl,rfl,rfl,(zbL hm3),rfl,rfl,trivial⟩,trivial, ?_⟩
 refine o_d 2 [(3,iv 0),(2,zS (wa l) 3 l.length)] (zE (zA (qW ?_)))
 have he:ageL l x.ba=m3:=by simp only [ageL,hm1,hm2,hm3]
 exact ⟨trivial,[zS (wa l) 3 l.length,iv 0],(zT rfl (zT rfl rfl)),(zM rfl (zM rfl z5)),⟨reg [],[zG (wZ o c) (u8 L) false,zG (wa l) (u8 m3) true]⟩,[0,3],[zS (wa l) 1 l.length,iv 0],WkR.of (rs:= []) rfl rfl dC trivial ⟨.inl (zF (zH _)),.inl (zF (zH _)),trivial⟩,rfl,rfl,(by rw [he])⟩
theorem NatC {P:Program} [PrC P] (o c:Nat) (L l:List Int) (hr:RowOf (some (o,c)) L l) (x:Pk) (hp:qX l=(0,x)) (hk:x.k≠3) (source:Bool) (addr port:Int) (ha:0≤addr∧addr≤4294967295) (hb:0≤port∧port≤65535):
    Env P "roundhouse/wire.Nat" [zS (some (o,c)) 0 l.length,bv source,iv addr,iv port] ([zG (some (o,c)) (u8 L) false]) (fun v h'=>v= .tuple #[zS (some (0,l.length)) 1 l.length,iv 0]∧h'= [zG (some (o,c)) (u8 L) false,zG (some (0,l.length)) (u8 (natL l x.ba source addr port)) true]):=by
 refine Env.by4 PrC.wire_Nat ?_
 unfold zjG
 show GC _ 1 _ _ ⟨reg [(0,zS (some (o,c)) 0 l.length),(1,bv source),(2,iv addr),(3,iv port)],[zG (some (o,c)) (u8 L) false]⟩
 have hl:=zcZ hp
 have hx:=zfs hp
 refine zJ (zN (o_d 2 [(9,iv 0),(8,.slice none 0 0)] (zE (zA (zJ (zN (o_d 1 [(16,zS (some (o,c)) 0 l.length)] (qV (zaD [0] [zG (some (o,c)) (u8 L) false] [zS (some (o,c)) 0 l.length] (beginC _ _ L l hr x hp) rfl rfl ⟨⟨_,rfl,z4 (zH _) rfl (fun q=>q)⟩,trivial⟩ dC ?_)))))))))
 rintro v1 h1' ⟨rfl,rfl⟩
 refine ⟨za6 rfl,.tuple #[pv 4 0,pkV x (zD x.op) 1 (zD x.da) 2,iv 0],[zG (some (o,c)) (u8 L) false],[zG (zD x.op) (u8 x.op) true,zG (zD x.da) (u8 x.da) true,zG (some (0,l.length)) (u8 l) true,cw [zS (some (o,c)) 0 l.length,zS (some (0,l.length)) 3 l.length,bv x.ba]],(zhK rfl rfl rfl),⟨rfl,trivial⟩,⟨(Option.some.inj (zF (zH _))).symm,(Option.some.inj (zF (zH _))).symm,(Option.some.inj (zF (zH _))).symm,rfl,trivial⟩, ?_⟩
 refine o_b 8 [(12,iv 0),(10,pv 4 0),(11,pv 5 0),(20,iv 0),(19,pkV x (zD x.op) 1 (zD x.da) 2),(18,pv 4 0),(15,.tuple #[pv 4 0,pkV x (zD x.op) 1 (zD x.da) 2,iv 0])] [zG (some (o,c)) (u8 L) false,zG (zD x.op) (u8 x.op) true,zG (zD x.da) (u8 x.da) true,zG (some (0,l.length)) (u8 l) true,cw [zS (some (o,c)) 0 l.length,zS (some (0,l.length)) 3 l.length,bv x.ba],cw (pkL x (zD x.op) 1 (zD x.da) 2)] (zE (zA (zJ (qU (zJ (zN (o_d 3 [(21,bv false),(23,bv false),(22,iv 0)] (zE (zA (zbc rfl (zJ (zN ?_))))))))))))
 refine o_d 1 [(26,pv 5 0)] (o_s (by refine zV (v:=iv x.k) rfl rfl ?_;exact rfl) ?_)
 refine o_d 2 [(25,bv (x.k==3)),(28,bv (x.k==3))] (zE (zA (qJ (t:=x.k==3) rfl (fun q=>by rw [(by simp [hk]:(x.k==3)=false)] at q;cases q) (fun _=>?_))))
 refine zJ (zN (o_d 1 [(30,iv addr)] (qV (zab (wwithinC addr 4294967295) rfl rfl rfl (o_d 2 [(33,bv (!(decide (addr≥0)&&decide (addr≤4294967295)))),(32,bv (!(decide (addr≥0)&&decide (addr≤4294967295))))] (zbJ (b:= !(decide (addr≥0)&&decide (addr≤4294967295))) 33 rfl (fun q=>by rw [(by rw [(by simp;omega:(decide (addr≥0)&&decide (addr≤4294967295))=true)];rfl:(!(decide (addr≥0)&&decide (addr≤4294967295)))=false)] at q;cases q) (fun k1=>?_)))))))
 refine o_d 1 [(34,iv port)] (qB rfl (qV (zab (wwithinC port 65535) rfl rfl rfl (o_d 3 [(29,bv (!(decide (port≥0)&&decide (port≤65535)))),(37,bv (!(decide (port≥0)&&decide (port≤65535)))),(36,bv (!(decide (port≥0)&&decide (port≤65535))))] (zE (zU [(29,bv (!(decide (port≥0)&&decide (port≤65535)))),(10,pv 4 0),(1,bv source),(2,iv addr),(3,iv port)] (qJ (t:= !(decide (port≥0)&&decide (port≤65535))) rfl (fun q=>by rw [(by rw [(by simp;omega:(decide (port≥0)&&decide (port≤65535))=true)];rfl:(!(decide (port≥0)&&decide (port≤65535)))=false)] at q;cases q) (fun _=>?_))))))))
 refine qK (zA (zJ (zN (o_d 2 [(14,iv 18),(13,iv 8)] (zE (zA (zJ (zJ (zN (o_d 1 [(38,bv source)] (zE (zA ?_))))))))))))
 refine qJ (t:=source) rfl (fun h2=>?_) (fun h2=>?_)
 ·skip
  refine zN (o_d 2 [(14,iv 16),(13,iv 4)] (zE (zA (zJ (zN (o_d 6 [(44,iv addr),(43,iv 4),(42,zS (some (0,l.length)) 3 l.length),(41,pv 4 1),(40,pv 4 0),(39,pv 4 0)] ?_))))))
  obtain ⟨m3,hm3⟩: ∃z9,zbq l 4 4 addr=z9:=⟨_,rfl⟩
  have hm3l:m3.length=l.length:=by rw [←hm3,zX]
  refine qV (zaD [3] [zG (some (0,l.length)) (u8 l) true] [zS (some (0,l.length)) 0 l.length,iv 4,iv 4,iv addr] (putC (some (0,l.length)) l l (RowOf.whole rfl (Nat.le_refl _)) 4 4 addr om om om) rfl rfl ⟨⟨_,rfl,z4 (zH _) rfl (fun q=>rfl)⟩,trivial⟩ dC ?_)
  rintro v1 h1' ⟨rfl,rfl⟩
  refine ⟨(fun i q=>zcC q),.tuple #[],[zG (some (o,c)) (u8 L) false,zG (zD x.op) (u8 x.op) true,zG (zD x.da) (u8 x.da) true,zG (some (0,l.length)) (u8 m3) true,cw [zS (some (o,c)) 0 l.length,zS (some (0,l.length)) 3 l.length,bv x.ba],cw (pkL x (zD x.op) 1 (zD x.da) 2)],[],(by simp [zaF]),⟨rfl,rfl,rfl,(zcz hm3),rfl,rfl,trivial⟩,trivial, ?_⟩
  refine zE (zA (zJ (zN (o_d 6 [(51,iv port),(50,iv 16),(49,zS (some (0,l.length)) 3 l.length),(48,pv 4 1),(47,pv 4 0),(46,pv 4 0)] ?_))))
  obtain ⟨m4,hm4⟩: ∃z9,zbq m3 16 2 port=z9:=⟨_,rfl⟩
  have hm4l:m4.length=m3.length:=by rw [←hm4,zX]
  refine qV (zaD [3] [zG (some (0,l.length)) (u8 m3) true] [zS (some (0,l.length)) 0 m3.length,iv 16,iv 2,iv port] (putC (some (0,l.length)) m3 m3 (RowOf.whole rfl om) 16 2 port om om om) rfl (zQ (zam rfl om) (zQ rfl (zQ rfl (zQ rfl rfl)))) ⟨⟨_,rfl,z4 (zH _) rfl (fun q=>rfl)⟩,trivial⟩ dC ?_)
  rintro v1 h1' ⟨rfl,rfl⟩
  refine ⟨(fun i q=>zcC q),.tuple #[],[zG (some (o,c)) (u8 L) false,zG (zD x.op) (u8 x.op) true,zG (zD x.da) (u8 x.da) true,zG (some (0,l.length)) (u8 m4) true,cw [zS (some (o,c)) 0 l.length,zS (some (0,l.length)) 3 l.length,bv x.ba],cw (pkL x (zD x.op) 1 (zD x.da) 2)],[],(by simp [zaF]),⟨rfl,rfl,rfl,(zcz hm4),rfl,rfl,trivial⟩,trivial, ?_⟩
  refine zE (zU [(14,iv 16),(13,iv 4),(10,pv 4 0)] (zJ (zN (o_d 2 [(54,iv 4),(53,pv 4 0)] ?_))))
  obtain ⟨m5,hm5⟩: ∃z9,zbq m4 14 2 (zfN l m4 14 4 4)=z9:=⟨_,rfl⟩
  have hm5l:m5.length=m4.length:=by rw [←hm5];first | exact zX _ _ _ _ | exact qY _ _ _ _ _ | exact zaf _ _
  refine qV (zaD [4,0,3] [cr [zS (some (o,c)) 1 l.length,zS (some (0,l.length)) 2 l.length,bv x.ba],zG (some (o,c)) (u8 L) false,zG (some (0,l.length)) (u8 m4) true] [pv 0 0,iv 14,iv 4,iv 4] (turnC2 l m4 _ _ _ hr x.ba 14 14 4 4 om om om om om) rfl rfl ⟨⟨_,rfl,.inl (⟨rfl,fun q=>by cases q⟩)⟩,⟨_,rfl,z4 (q:=some (o,c)) (q':=some (o,c)) (zH _) rfl (fun q=>q)⟩,⟨_,rfl,z4 (q:=some (0,l.length)) (q':=some (0,l.length)) (zH _) rfl (fun q=>rfl)⟩,trivial⟩ dC ?_)
  rintro v1 h1' ⟨rfl,rfl⟩
  refine ⟨za6 rfl,.tuple #[],[zG (some (o,c)) (u8 L) false,zG (zD x.op) (u8 x.op) true,zG (zD x.da) (u8 x.da) true,zG (some (0,l.length)) (u8 m5) true,cw [zS (some (o,c)) 0 l.length,zS (some (0,l.length)) 3 l.length,bv x.ba],cw (pkL x (zD x.op) 1 (zD x.da) 2)],[],(by simp [zaF]),⟨rfl,rfl,rfl,(zbL hm5),rfl,rfl,trivial⟩,trivial, ?_⟩
  refine zE (zA (zJ (zN (o_d 2 [(57,iv 4),(56,pv 4 0)] ?_))))
  obtain ⟨m6,hm6⟩: ∃z9,zeM l m5 x.ba 4 4=z9:=⟨_,rfl⟩
  have hm6l:m6.length=m5.length:=by rw [←hm6];first | exact zX _ _ _ _ | exact qY _ _ _ _ _ | exact zaf _ _
  refine qV (zaD [4,0,3] [cr [zS (some (o,c)) 1 l.length,zS (some (0,l.length)) 2 l.length,bv x.ba],zG (some (o,c)) (u8 L) false,zG (some (0,l.length)) (u8 m5) true] [pv 0 0,iv 4,iv 4] (bodyC l m5 _ _ _ hr x.ba 4 4 om om om om) rfl rfl ⟨⟨_,rfl,.inl (⟨rfl,fun q=>by cases q⟩)⟩,⟨_,rfl,z4 (q:=some (o,c)) (q':=some (o,c)) (zH _) rfl (fun q=>q)⟩,⟨_,rfl,z4 (q:=some (0,l.length)) (q':=some (0,l.length)) (zH _) rfl (fun q=>rfl)⟩,trivial⟩ dC ?_)
  rintro v1 h1' ⟨rfl,rfl⟩
  refine ⟨za6 rfl,.tuple #[],[zG (some (o,c)) (u8 L) false,zG (zD x.op) (u8 x.op) true,zG (zD x.da) (u8 x.da) true,zG (some (0,l.length)) (u8 m6) true,cw [zS (some (o,c)) 0 l.length,zS (some (0,l.length)) 3 l.length,bv x.ba],cw (pkL x (zD x.op) 1 (zD x.da) 2)],[],(by simp [zaF]),⟨rfl,rfl,rfl,(zbL hm6),rfl,rfl,trivial⟩,trivial, ?_⟩
  refine zE (zA (zJ (zN (o_d 2 [(60,iv 16),(59,pv 4 0)] ?_))))
  obtain ⟨m7,hm7⟩: ∃z9,zeM l m6 x.ba 16 2=z9:=⟨_,rfl⟩
  have hm7l:m7.length=m6.length:=by rw [←hm7];first | exact zX _ _ _ _ | exact qY _ _ _ _ _ | exact zaf _ _
  refine qV (zaD [4,0,3] [cr [zS (some (o,c)) 1 l.length,zS (some (0,l.length)) 2 l.length,bv x.ba],zG (some (o,c)) (u8 L) false,zG (some (0,l.length)) (u8 m6) true] [pv 0 0,iv 16,iv 2] (bodyC l m6 _ _ _ hr x.ba 16 2 om om om om) rfl rfl ⟨⟨_,rfl,.inl (⟨rfl,fun q=>by cases q⟩)⟩,⟨_,rfl,z4 (q:=some (o,c)) (q':=some (o,c)) (zH _) rfl (fun q=>q)⟩,⟨_,rfl,z4 (q:=some (0,l.length)) (q':=some (0,l.length)) (zH _) rfl (fun q=>rfl)⟩,trivial⟩ dC ?_)
  rintro v1 h1' ⟨rfl,rfl⟩
  refine ⟨za6 rfl,.tuple #[],[zG (some (o,c)) (u8 L) false,zG (zD x.op) (u8 x.op) true,zG (zD x.da) (u8 x.da) true,zG (some (0,l.length)) (u8 m7) true,cw [zS (some (o,c)) 0 l.length,zS (some (0,l.length)) 3 l.length,bv x.ba],cw (pkL x (zD x.op) 1 (zD x.da) 2)],[],(by simp [zaF]),⟨rfl,rfl,rfl,(zbL hm7),rfl,rfl,trivial⟩,trivial, ?_⟩
  refine zE (zA (zJ (zN (o_d 1 [(62,pv 4 0)] ?_))))
  obtain ⟨m8,hm8⟩: ∃z9,zdC m7 x.ba=z9:=⟨_,rfl⟩
  have hm8l:m8.length=m7.length:=by rw [←hm8];first | exact zX _ _ _ _ | exact qY _ _ _ _ _ | exact zaf _ _
  refine qV (zaD [4,0,3] [cr [zS (some (o,c)) 1 l.length,zS (some (0,l.length)) 2 l.length,bv x.ba],zG (some (o,c)) (u8 L) false,zG (some (0,l.length)) (u8 m7) true] [pv 0 0] (doneC l m7 _ _ _ hr x.ba om om om) rfl rfl ⟨⟨_,rfl,.inl (⟨rfl,fun q=>by cases q⟩)⟩,⟨_,rfl,z4 (q:=some (o,c)) (q':=some (o,c)) (zH _) rfl (fun q=>q)⟩,⟨_,rfl,z4 (q:=some (0,l.length)) (q':=some (0,l.length)) (zH _) rfl (fun q=>rfl)⟩,trivial⟩ dC ?_)
  rintro v1 h1' ⟨rfl,rfl⟩
  refine ⟨za6 rfl,zS (some (0,l.length)) 3 l.length,[zG (some (o,c)) (u8 L) false,zG (zD x.op) (u8 x.op) true,zG (zD x.da) (u8 x.da) true,zG (some (0,l.length)) (u8 m8) true,cw [zS (some (o,c)) 0 l.length,zS (some (0,l.length)) 3 l.length,bv x.ba],cw (pkL x (zD x.op) 1 (zD x.da) 2)],[],rfl,⟨rfl,rfl,rfl,(zbL hm8),rfl,rfl,trivial⟩,trivial, ?_⟩
  refine o_d 2 [(9,iv 0),(8,zS (some (0,l.length)) 3 l.length)] (zE (zA (qW ?_)))
  have he:natL l x.ba source addr port=m8:=by simp only [natL,hm3,hm4,hm5,hm6,hm7,hm8,h2,if_true]
  exact ⟨trivial,[zS (some (0,l.length)) 3 l.length,iv 0],(zT rfl (zT rfl rfl)),(zM rfl (zM rfl z5)),⟨reg [],[zG (some (o,c)) (u8 L) false,zG (some (0,l.length)) (u8 m8) true]⟩,[0,3],[zS (some (0,l.length)) 1 l.length,iv 0],WkR.of (rs:= []) rfl rfl dC trivial ⟨.inl (zF (zH _)),.inl (zF (zH _)),trivial⟩,rfl,rfl,(by rw [he])⟩
 refine qK (zA (zJ (zN (o_d 6 [(44,iv addr),(43,iv 8),(42,zS (some (0,l.length)) 3 l.length),(41,pv 4 1),(40,pv 4 0),(39,pv 4 0)] ?_))))
 obtain ⟨m9,hm9⟩: ∃z9,zbq l 8 4 addr=z9:=⟨_,rfl⟩
 have hm9l:m9.length=l.length:=by rw [←hm9,zX]
 refine qV (zaD [3] [zG (some (0,l.length)) (u8 l) true] [zS (some (0,l.length)) 0 l.length,iv 8,iv 4,iv addr] (putC (some (0,l.length)) l l (RowOf.whole rfl (Nat.le_refl _)) 8 4 addr om om om) rfl rfl ⟨⟨_,rfl,z4 (zH _) rfl (fun q=>rfl)⟩,trivial⟩ dC ?_)
 rintro v1 h1' ⟨rfl,rfl⟩
 refine ⟨(fun i q=>zcC q),.tuple #[],[zG (some (o,c)) (u8 L) false,zG (zD x.op) (u8 x.op) true,zG (zD x.da) (u8 x.da) true,zG (some (0,l.length)) (u8 m9) true,cw [zS (some (o,c)) 0 l.length,zS (some (0,l.length)) 3 l.length,bv x.ba],cw (pkL x (zD x.op) 1 (zD x.da) 2)],[],(by simp [zaF]),⟨rfl,rfl,rfl,(zcz hm9),rfl,rfl,trivial⟩,trivial, ?_⟩
 refine zE (zA (zJ (zN (o_d 6 [(51,iv port),(50,iv 18),(49,zS (some (0,l.length)) 3 l.length),(48,pv 4 1),(47,pv 4 0),(46,pv 4 0)] ?_))))
 obtain ⟨m10,hm10⟩: ∃z9,zbq m9 18 2 port=z9:=⟨_,rfl⟩
 have hm10l:m10.length=m9.length:=by rw [←hm10,zX]
 refine qV (zaD [3] [zG (some (0,l.length)) (u8 m9) true] [zS (some (0,l.length)) 0 m9.length,iv 18,iv 2,iv port] (putC (some (0,l.length)) m9 m9 (RowOf.whole rfl om) 18 2 port om om om) rfl (zQ (zam rfl om) (zQ rfl (zQ rfl (zQ rfl rfl)))) ⟨⟨_,rfl,z4 (zH _) rfl (fun q=>rfl)⟩,trivial⟩ dC ?_)
 rintro v1 h1' ⟨rfl,rfl⟩
 refine ⟨(fun i q=>zcC q),.tuple #[],[zG (some (o,c)) (u8 L) false,zG (zD x.op) (u8 x.op) true,zG (zD x.da) (u8 x.da) true,zG (some (0,l.length)) (u8 m10) true,cw [zS (some (o,c)) 0 l.length,zS (some (0,l.length)) 3 l.length,bv x.ba],cw (pkL x (zD x.op) 1 (zD x.da) 2)],[],(by simp [zaF]),⟨rfl,rfl,rfl,(zcz hm10),rfl,rfl,trivial⟩,trivial, ?_⟩
 refine zE (zA (zJ (zN (o_d 2 [(54,iv 8),(53,pv 4 0)] ?_))))
 obtain ⟨m11,hm11⟩: ∃z9,zbq m10 14 2 (zfN l m10 14 8 4)=z9:=⟨_,rfl⟩
 have hm11l:m11.length=m10.length:=by rw [←hm11];first | exact zX _ _ _ _ | exact qY _ _ _ _ _ | exact zaf _ _
 refine qV (zaD [4,0,3] [cr [zS (some (o,c)) 1 l.length,zS (some (0,l.length)) 2 l.length,bv x.ba],zG (some (o,c)) (u8 L) false,zG (some (0,l.length)) (u8 m10) true] [pv 0 0,iv 14,iv 8,iv 4] (turnC2 l m10 _ _ _ hr x.ba 14 14 8 4 om om om om om) rfl rfl ⟨⟨_,rfl,.inl (⟨rfl,fun q=>by cases q⟩)⟩,⟨_,rfl,z4 (q:=some (o,c)) (q':=some (o,c)) (zH _) rfl (fun q=>q)⟩,⟨_,rfl,z4 (q:=some (0,l.length)) (q':=some (0,l.length)) (zH _) rfl (fun q=>rfl)⟩,trivial⟩ dC ?_)
 rintro v1 h1' ⟨rfl,rfl⟩
 refine ⟨za6 rfl,.tuple #[],[zG (some (o,c)) (u8 L) false,zG (zD x.op) (u8 x.op) true,zG (zD x.da) (u8 x.da) true,zG (some (0,l.length)) (u8 m11) true,cw [zS (some (o,c)) 0 l.length,zS (some (0,l.length)) 3 l.length,bv x.ba],cw (pkL x (zD x.op) 1 (zD x.da) 2)],[],(by simp [zaF]),⟨rfl,rfl,rfl,(zbL hm11),rfl,rfl,trivial⟩,trivial, ?_⟩
 refine zE (zU [(14,iv 18),(13,iv 8),(10,pv 4 0)] (zJ (zN (o_d 2 [(57,iv 8),(56,pv 4 0)] ?_))))
 obtain ⟨m12,hm12⟩: ∃z9,zeM l m11 x.ba 8 4=z9:=⟨_,rfl⟩
 have hm12l:m12.length=m11.length:=by rw [←hm12];first | exact zX _ _ _ _ | exact qY _ _ _ _ _ | exact zaf _ _
 refine qV (zaD [4,0,3] [cr [zS (some (o,c)) 1 l.length,zS (some (0,l.length)) 2 l.length,bv x.ba],zG (some (o,c)) (u8 L) false,zG (some (0,l.length)) (u8 m11) true] [pv 0 0,iv 8,iv 4] (bodyC l m11 _ _ _ hr x.ba 8 4 om om om om) rfl rfl ⟨⟨_,rfl,.inl (⟨rfl,fun q=>by cases q⟩)⟩,⟨_,rfl,z4 (q:=some (o,c)) (q':=some (o,c)) (zH _) rfl (fun q=>q)⟩,⟨_,rfl,z4 (q:=some (0,l.length)) (q':=some (0,l.length)) (zH _) rfl (fun q=>rfl)⟩,trivial⟩ dC ?_)
 rintro v1 h1' ⟨rfl,rfl⟩
 refine ⟨za6 rfl,.tuple #[],[zG (some (o,c)) (u8 L) false,zG (zD x.op) (u8 x.op) true,zG (zD x.da) (u8 x.da) true,zG (some (0,l.length)) (u8 m12) true,cw [zS (some (o,c)) 0 l.length,zS (some (0,l.length)) 3 l.length,bv x.ba],cw (pkL x (zD x.op) 1 (zD x.da) 2)],[],(by simp [zaF]),⟨rfl,rfl,rfl,(zbL hm12),rfl,rfl,trivial⟩,trivial, ?_⟩
 refine zE (zA (zJ (zN (o_d 2 [(60,iv 18),(59,pv 4 0)] ?_))))
 obtain ⟨m13,hm13⟩: ∃z9,zeM l m12 x.ba 18 2=z9:=⟨_,rfl⟩
 have hm13l:m13.length=m12.length:=by rw [←hm13];first | exact zX _ _ _ _ | exact qY _ _ _ _ _ | exact zaf _ _
 refine qV (zaD [4,0,3] [cr [zS (some (o,c)) 1 l.length,zS (some (0,l.length)) 2 l.length,bv x.ba],zG (some (o,c)) (u8 L) false,zG (some (0,l.length)) (u8 m12) true] [pv 0 0,iv 18,iv 2] (bodyC l m12 _ _ _ hr x.ba 18 2 om om om om) rfl rfl ⟨⟨_,rfl,.inl (⟨rfl,fun q=>by cases q⟩)⟩,⟨_,rfl,z4 (q:=some (o,c)) (q':=some (o,c)) (zH _) rfl (fun q=>q)⟩,⟨_,rfl,z4 (q:=some (0,l.length)) (q':=some (0,l.length)) (zH _) rfl (fun q=>rfl)⟩,trivial⟩ dC ?_)
 rintro v1 h1' ⟨rfl,rfl⟩
 refine ⟨za6 rfl,.tuple #[],[zG (some (o,c)) (u8 L) false,zG (zD x.op) (u8 x.op) true,zG (zD x.da) (u8 x.da) true,zG (some (0,l.length)) (u8 m13) true,cw [zS (some (o,c)) 0 l.length,zS (some (0,l.length)) 3 l.length,bv x.ba],cw (pkL x (zD x.op) 1 (zD x.da) 2)],[],(by simp [zaF]),⟨rfl,rfl,rfl,(zbL hm13),rfl,rfl,trivial⟩,trivial, ?_⟩
 refine zE (zA (zJ (zN (o_d 1 [(62,pv 4 0)] ?_))))
 obtain ⟨m14,hm14⟩: ∃z9,zdC m13 x.ba=z9:=⟨_,rfl⟩
 have hm14l:m14.length=m13.length:=by rw [←hm14];first | exact zX _ _ _ _ | exact qY _ _ _ _ _ | exact zaf _ _
 refine qV (zaD [4,0,3] [cr [zS (some (o,c)) 1 l.length,zS (some (0,l.length)) 2 l.length,bv x.ba],zG (some (o,c)) (u8 L) false,zG (some (0,l.length)) (u8 m13) true] [pv 0 0] (doneC l m13 _ _ _ hr x.ba om om om) rfl rfl ⟨⟨_,rfl,.inl (⟨rfl,fun q=>by cases q⟩)⟩,⟨_,rfl,z4 (q:=some (o,c)) (q':=some (o,c)) (zH _) rfl (fun q=>q)⟩,⟨_,rfl,z4 (q:=some (0,l.length)) (q':=some (0,l.length)) (zH _) rfl (fun q=>rfl)⟩,trivial⟩ dC ?_)
 rintro v1 h1' ⟨rfl,rfl⟩
 refine ⟨za6 rfl,zS (some (0,l.length)) 3 l.length,[zG (some (o,c)) (u8 L) false,zG (zD x.op) (u8 x.op) true,zG (zD x.da) (u8 x.da) true,zG (some (0,l.length)) (u8 m14) true,cw [zS (some (o,c)) 0 l.length,zS (some (0,l.length)) 3 l.length,bv x.ba],cw (pkL x (zD x.op) 1 (zD x.da) 2)],[],rfl,⟨rfl,rfl,rfl,(zbL hm14),rfl,rfl,trivial⟩,trivial, ?_⟩
 refine o_d 2 [(9,iv 0),(8,zS (some (0,l.length)) 3 l.length)] (zE (zA (qW ?_)))
 have he:natL l x.ba source addr port=m14:=by simp only [natL,hm9,hm10,hm11,hm12,hm13,hm14,h2,if_false,Bool.false_eq_true]
 exact ⟨trivial,[zS (some (0,l.length)) 3 l.length,iv 0],(zT rfl (zT rfl rfl)),(zM rfl (zM rfl z5)),⟨reg [],[zG (some (o,c)) (u8 L) false,zG (some (0,l.length)) (u8 m14) true]⟩,[0,3],[zS (some (0,l.length)) 1 l.length,iv 0],WkR.of (rs:= []) rfl rfl dC trivial ⟨.inl (zF (zH _)),.inl (zF (zH _)),trivial⟩,rfl,rfl,(by rw [he])⟩
theorem Write2C {P:Program} [PrC P] (o c:Nat) (L l:List Int) (hr:RowOf (wZ o c) L l) (x:Pk) (hp:qX l=(0,x)) (a:Nat) (y:Int) (hv:0≤y∧y < 65536) (ha:16≤a∧a+2≤l.length) (hs: ¬((a:Int) < zak x.k+2∧(a:Int)+2 > zak x.k)):
    Env P "roundhouse/wire.Write" [zS (wZ o c) 0 l.length,iv (a:Nat),iv 2,iv y] ((xU o c L)) (fun v h'=>v= .tuple #[zS (wa l) 1 l.length,iv 0]∧h'= [zG (wZ o c) (u8 L) false,zG (wa l) (u8 (zco l x.ba a 2 y)) true]):=by
 refine Env.by4 PrC.wire_Write ?_
 unfold zfd
 show GC _ 1 _ _ ⟨reg [(0,zS (wZ o c) 0 l.length),(1,iv (a:Nat)),(2,iv 2),(3,iv y)],(xU o c L)⟩
 have hl:=zcZ hp
 have hx:=zfs hp
 refine zJ (zN (o_d 2 [(9,iv 0),(8,.slice none 0 0)] (zE (zA (zJ (zN (o_d 1 [(15,zS (wZ o c) 0 l.length)] (qV (zaD [0] (xU o c L) [zS (wZ o c) 0 l.length] (beginC _ _ L l hr x hp) rfl rfl ⟨⟨_,rfl,z4 (zH _) rfl (fun q=>q)⟩,trivial⟩ dC ?_)))))))))
 rintro v1 h1' ⟨rfl,rfl⟩
 refine ⟨za6 rfl,.tuple (Wc x),(xU o c L),[zG (zD x.op) (u8 x.op) true,zG (zD x.da) (u8 x.da) true,zG (wa l) (u8 l) true,cw (ye o c 0 l 3 x)],(zhK rfl rfl rfl),⟨rfl,trivial⟩,⟨(Option.some.inj (zF (zH _))).symm,(Option.some.inj (zF (zH _))).symm,(Option.some.inj (zF (zH _))).symm,rfl,trivial⟩, ?_⟩
 refine o_b 8 [(12,iv 0),(10,pv 4 0),(11,pv 5 0),(19,iv 0),(18,pkV x (zD x.op) 1 (zD x.da) 2),(17,pv 4 0),(14,.tuple (Wc x))] (vc o c L x l) (zE (zA (zJ (zJ (zN (o_d 2 (xq 21 20) (zE (zA (zbc rfl (qK (zA (zJ ?_))))))))))))
 refine zJ (zN (o_d 15 [(37,bv (decide (y < 0))),(36,bv (decide (y < 0))),(35,bv (decide (y < 0))),(34,iv y),(33,bv false),(32,bv false),(31,undef),(30,undef),(29,bv false),(28,bv false),(27,bv false),(26,iv 2),(25,bv true),(24,bv true),(23,iv 2)] (zbJ (b:=decide (y < 0)) 37 rfl (fun q=>by rw [(by simp;omega:(decide (y < 0))=false)] at q;cases q) (fun k1=>?_))))
 refine o_d 3 [(40,iv 16),(39,iv 2),(38,iv y)] (qB rfl (o_s (by refine zK (v:= .int .i64 (y.fdiv 65536)) (congrArg wg (zb9 dC)) ?_;kernel_rfl) ?_))
 refine o_d 3 [(44,bv ((y / 65536)!=0)),(43,bv ((y / 65536)!=0)),(42,bv ((y / 65536)!=0))] (zbJ (b:=(y / 65536)!=0) 44 rfl (fun q=>by rw [(by simp;omega:((y / 65536)!=0)=false)] at q;cases q) (fun k2=>?_))
 refine o_d 4 [(48,bv (decide (((a:Nat):Int) < 16))),(47,bv (decide (((a:Nat):Int) < 16))),(46,bv (decide (((a:Nat):Int) < 16))),(45,iv (a:Nat))] (zbJ (b:=decide (((a:Nat):Int) < 16)) 48 rfl (fun q=>by rw [(by simp;omega:(decide (((a:Nat):Int) < 16))=false)] at q;cases q) (fun k3=>?_))
 refine o_d 2 [(50,zS (wZ o c) 0 l.length),(49,iv (a:Nat))] (qB rfl (o_s (by exact qM (q:=some (o,c)) (k:=0) (n:=l.length) rfl (fun q=>by cases q)) ?_))
 refine o_d 1 [(52,iv 2)] (qB rfl (o_s (by refine zK (v:= .int .i64 (i64.wrap ((l.length:Nat) - 2))) (congrArg wg (w64 om om)) ?_;kernel_rfl) ?_))
 refine o_d 2 [(55,bv (decide (((a:Nat):Int) > (l.length:Nat) - 2))),(54,bv (decide (((a:Nat):Int) > (l.length:Nat) - 2)))] (zE (zU [(55,bv (decide (((a:Nat):Int) > (l.length:Nat) - 2))),(10,pv 4 0),(11,pv 5 0),(1,iv (a:Nat)),(2,iv 2),(3,iv y)] (qJ (t:=decide (((a:Nat):Int) > (l.length:Nat) - 2)) rfl (fun q=>by rw [(by simp;omega:(decide (((a:Nat):Int) > (l.length:Nat) - 2))=false)] at q;cases q) (fun _=>?_))))
 refine qK (zA (zf2 (fun s=> ∃(z:Nat),0=0∧(z=0)∧s=⟨reg [(10,pv 4 0),(1,iv (a:Nat)),(2,iv 2),(3,iv y)],(vc o c L x l)⟩) ?_ ?_))
 ·skip
  refine zJ (zN (o_d 1 [(56,pv 5 0)] (o_s (by refine zV (v:=iv x.k) rfl rfl ?_;exact rfl) ?_)))
  refine qV (zab (zh7 x.k) rfl rfl rfl ?_)
  have hy4:=zfr x.k
  refine o_d 1 [(13,iv (zak x.k))] (zE (zA (zJ (zN (o_d 2 [(60,iv (zak x.k)),(59,iv (a:Nat))] (o_s (by refine zK (v:= .int .i64 (i64.wrap (zak x.k+2))) (congrArg wg (w64 om om)) ?_;kernel_rfl) ?_))))))
  refine o_d 2 [(63,bv (decide (((a:Nat):Int) < zak x.k+2))),(62,bv (decide (((a:Nat):Int) < zak x.k+2)))] (zbJ (b:=decide (((a:Nat):Int) < zak x.k+2)) 63 rfl (fun h5=>?_) (fun h5=>?_))
  ·skip
   have h5':((a:Nat):Int) < zak x.k+2:=of_decide_eq_true h5
   refine o_d 2 [(65,iv 2),(64,iv (a:Nat))] (qB rfl (o_s (by refine zK (v:= .int .i64 (i64.wrap ((a:Nat)+2))) (congrArg wg (w64 om om)) ?_;kernel_rfl) ?_))
   refine o_d 3 [(69,bv (decide (((a:Nat)+2:Int) > zak x.k))),(68,bv (decide (((a:Nat)+2:Int) > zak x.k))),(67,iv (zak x.k))] (zE (zA (qJ (t:=decide (((a:Nat)+2:Int) > zak x.k)) rfl (fun q=>by rw [(by simp;omega:(decide (((a:Nat)+2:Int) > zak x.k))=false)] at q;cases q) (fun _=>?_))))
   refine qK (⟨⟨reg [(10,pv 4 0),(1,iv (a:Nat)),(2,iv 2),(3,iv y)],(vc o c L x l)⟩, ?_⟩)
   refine ⟨?_, ?_⟩
   ·exact Wk.ren [0,1,2,3,4,5] rfl rfl dC ⟨rfl,rfl,rfl,rfl,trivial⟩ ⟨.inl (zF (zH _)),.inl (zF (zH _)),.inl (zF (zH _)),.inl (zF (zH _)),.inl rfl,.inl (zcj rfl rfl),trivial⟩
   ·exact ⟨0,rfl,rfl,rfl⟩
  have h5': ¬(((a:Nat):Int) < zak x.k+2):=of_decide_eq_false h5
  refine o_d 6 ((69,bv false)::(68,undef)::(vG 67 66 65 64)) (zE (zA (zbc rfl (qK (⟨⟨reg [(10,pv 4 0),(1,iv (a:Nat)),(2,iv 2),(3,iv y)],(vc o c L x l)⟩, ?_⟩)))))
  refine ⟨?_, ?_⟩
  ·exact Wk.ren [0,1,2,3,4,5] rfl rfl dC ⟨rfl,rfl,rfl,rfl,trivial⟩ ⟨.inl (zF (zH _)),.inl (zF (zH _)),.inl (zF (zH _)),.inl (zF (zH _)),.inl rfl,.inl (zcj rfl rfl),trivial⟩
  ·exact ⟨0,rfl,rfl,rfl⟩
 rintro s ⟨z,-,hz,rfl⟩
 refine zJ (zN (o_d 7 ((76,iv y)::(75,iv 2)::(74,iv (a:Nat))::(vb 73 l 3 72 4 71 70)) ?_))
 obtain ⟨m6,hm6⟩: ∃z9,zbq l a 2 y=z9:=⟨_,rfl⟩
 have hm6l:m6.length=l.length:=by rw [←hm6,zX]
 refine qV (zaD [3] [zG (wa l) (u8 l) true] [zS (wa l) 0 l.length,iv (a:Nat),iv 2,iv y] (putC (wa l) l l (RowOf.whole rfl (Nat.le_refl _)) a 2 y om om om) rfl rfl ⟨⟨_,rfl,z4 (zH _) rfl (fun q=>rfl)⟩,trivial⟩ dC ?_)
 rintro v1 h1' ⟨rfl,rfl⟩
 refine ⟨(fun i q=>zcC q),.tuple #[],(vH o c L x l m6),[],(by simp [zaF]),⟨rfl,rfl,rfl,(zcz hm6),rfl,rfl,trivial⟩,trivial, ?_⟩
 refine zE (zA (zJ (zN (o_d 3 [(80,iv 2),(79,iv (a:Nat)),(78,pv 4 0)] ?_))))
 obtain ⟨m7,hm7⟩: ∃z9,zeM l m6 x.ba a 2=z9:=⟨_,rfl⟩
 have hm7l:m7.length=m6.length:=by rw [←hm7];first | exact zX _ _ _ _ | exact qY _ _ _ _ _ | exact zaf _ _
 refine qV (zaD [4,0,3] (xQ o c l x L m6) [pv 0 0,iv (a:Nat),iv 2] (bodyC l m6 _ _ _ hr x.ba a 2 om om om om) rfl rfl ⟨⟨_,rfl,.inl (⟨rfl,fun q=>by cases q⟩)⟩,⟨_,rfl,z4 (q:=some (o,c)) (q':=some (o,c)) (zH _) rfl (fun q=>q)⟩,⟨_,rfl,z4 (q:=some (0,l.length)) (q':=some (0,l.length)) (zH _) rfl (fun q=>rfl)⟩,trivial⟩ dC ?_)
 rintro v1 h1' ⟨rfl,rfl⟩
 refine ⟨za6 rfl,.tuple #[],(vH o c L x l m7),[],(by simp [zaF]),⟨rfl,rfl,rfl,(zbL hm7),rfl,rfl,trivial⟩,trivial, ?_⟩
 refine zE (zA (zJ (zN (o_d 1 [(82,pv 4 0)] ?_))))
 obtain ⟨m8,hm8⟩: ∃z9,zdC m7 x.ba=z9:=⟨_,rfl⟩
 have hm8l:m8.length=m7.length:=by rw [←hm8];first | exact zX _ _ _ _ | exact qY _ _ _ _ _ | exact zaf _ _
 refine qV (zaD [4,0,3] (xQ o c l x L m7) [pv 0 0] (doneC l m7 _ _ _ hr x.ba om om om) rfl rfl ⟨⟨_,rfl,.inl (⟨rfl,fun q=>by cases q⟩)⟩,⟨_,rfl,z4 (q:=some (o,c)) (q':=some (o,c)) (zH _) rfl (fun q=>q)⟩,⟨_,rfl,z4 (q:=some (0,l.length)) (q':=some (0,l.length)) (zH _) rfl (fun q=>rfl)⟩,trivial⟩ dC ?_)
 rintro v1 h1' ⟨rfl,rfl⟩
 refine ⟨za6 rfl,zS (wa l) 3 l.length,(vH o c L x l m8),[],rfl,⟨rfl,rfl,rfl,(zbL hm8),rfl,rfl,trivial⟩,trivial, ?_⟩
 refine o_d 2 [(9,iv 0),(8,zS (wa l) 3 l.length)] (zE (zA (qW ?_)))
 have he:zco l x.ba a 2 y=m8:=by simp only [zco,hm6,hm7,hm8]
 exact ⟨trivial,[zS (wa l) 3 l.length,iv 0],(zT rfl (zT rfl rfl)),(zM rfl (zM rfl z5)),⟨reg [],[zG (wZ o c) (u8 L) false,zG (wa l) (u8 m8) true]⟩,[0,3],[zS (wa l) 1 l.length,iv 0],WkR.of (rs:= []) rfl rfl dC trivial ⟨.inl (zF (zH _)),.inl (zF (zH _)),trivial⟩,rfl,rfl,(by rw [he])⟩
theorem Write4C {P:Program} [PrC P] (o c:Nat) (L l:List Int) (hr:RowOf (wZ o c) L l) (x:Pk) (hp:qX l=(0,x)) (a:Nat) (y:Int) (hv:0≤y∧y < 4294967296) (ha:16≤a∧a+4≤l.length) (hs: ¬((a:Int) < zak x.k+2∧(a:Int)+4 > zak x.k)):
    Env P "roundhouse/wire.Write" [zS (wZ o c) 0 l.length,iv (a:Nat),iv 4,iv y] ((xU o c L)) (fun v h'=>v= .tuple #[zS (wa l) 1 l.length,iv 0]∧h'= [zG (wZ o c) (u8 L) false,zG (wa l) (u8 (zco l x.ba a 4 y)) true]):=by
 refine Env.by4 PrC.wire_Write ?_
 unfold zfd
 show GC _ 1 _ _ ⟨reg [(0,zS (wZ o c) 0 l.length),(1,iv (a:Nat)),(2,iv 4),(3,iv y)],(xU o c L)⟩
 have hl:=zcZ hp
 have hx:=zfs hp
 refine zJ (zN (o_d 2 [(9,iv 0),(8,.slice none 0 0)] (zE (zA (zJ (zN (o_d 1 [(15,zS (wZ o c) 0 l.length)] (qV (zaD [0] (xU o c L) [zS (wZ o c) 0 l.length] (beginC _ _ L l hr x hp) rfl rfl ⟨⟨_,rfl,z4 (zH _) rfl (fun q=>q)⟩,trivial⟩ dC ?_)))))))))
 rintro v1 h1' ⟨rfl,rfl⟩
 refine ⟨za6 rfl,.tuple (Wc x),(xU o c L),[zG (zD x.op) (u8 x.op) true,zG (zD x.da) (u8 x.da) true,zG (wa l) (u8 l) true,cw (ye o c 0 l 3 x)],(zhK rfl rfl rfl),⟨rfl,trivial⟩,⟨(Option.some.inj (zF (zH _))).symm,(Option.some.inj (zF (zH _))).symm,(Option.some.inj (zF (zH _))).symm,rfl,trivial⟩, ?_⟩
 refine o_b 8 [(12,iv 0),(10,pv 4 0),(11,pv 5 0),(19,iv 0),(18,pkV x (zD x.op) 1 (zD x.da) 2),(17,pv 4 0),(14,.tuple (Wc x))] (vc o c L x l) (zE (zA (zJ (zJ (zN (o_d 2 (xq 21 20) (zE (zA (zbc rfl (qK (zA (zJ ?_))))))))))))
 refine zJ (zN (o_d 15 [(37,bv (decide (y < 0))),(36,bv (decide (y < 0))),(35,bv (decide (y < 0))),(34,iv y),(33,bv false),(32,bv false),(31,bv false),(30,iv 4),(29,bv true),(28,bv true),(27,bv true),(26,iv 4),(25,bv true),(24,bv true),(23,iv 4)] (zbJ (b:=decide (y < 0)) 37 rfl (fun q=>by rw [(by simp;omega:(decide (y < 0))=false)] at q;cases q) (fun k1=>?_))))
 refine o_d 3 [(40,iv 32),(39,iv 4),(38,iv y)] (qB rfl (o_s (by refine zK (v:= .int .i64 (y.fdiv 4294967296)) (congrArg wg (zb9 dC)) ?_;kernel_rfl) ?_))
 refine o_d 3 [(44,bv ((y / 4294967296)!=0)),(43,bv ((y / 4294967296)!=0)),(42,bv ((y / 4294967296)!=0))] (zbJ (b:=(y / 4294967296)!=0) 44 rfl (fun q=>by rw [(by simp;omega:((y / 4294967296)!=0)=false)] at q;cases q) (fun k2=>?_))
 refine o_d 4 [(48,bv (decide (((a:Nat):Int) < 16))),(47,bv (decide (((a:Nat):Int) < 16))),(46,bv (decide (((a:Nat):Int) < 16))),(45,iv (a:Nat))] (zbJ (b:=decide (((a:Nat):Int) < 16)) 48 rfl (fun q=>by rw [(by simp;omega:(decide (((a:Nat):Int) < 16))=false)] at q;cases q) (fun k3=>?_))
 refine o_d 2 [(50,zS (wZ o c) 0 l.length),(49,iv (a:Nat))] (qB rfl (o_s (by exact qM (q:=some (o,c)) (k:=0) (n:=l.length) rfl (fun q=>by cases q)) ?_))
 refine o_d 1 [(52,iv 4)] (qB rfl (o_s (by refine zK (v:= .int .i64 (i64.wrap ((l.length:Nat) - 4))) (congrArg wg (w64 om om)) ?_;kernel_rfl) ?_))
 refine o_d 2 [(55,bv (decide (((a:Nat):Int) > (l.length:Nat) - 4))),(54,bv (decide (((a:Nat):Int) > (l.length:Nat) - 4)))] (zE (zU [(55,bv (decide (((a:Nat):Int) > (l.length:Nat) - 4))),(10,pv 4 0),(11,pv 5 0),(1,iv (a:Nat)),(2,iv 4),(3,iv y)] (qJ (t:=decide (((a:Nat):Int) > (l.length:Nat) - 4)) rfl (fun q=>by rw [(by simp;omega:(decide (((a:Nat):Int) > (l.length:Nat) - 4))=false)] at q;cases q) (fun _=>?_))))
 refine qK (zA (zf2 (fun s=> ∃(z:Nat),0=0∧(z=0)∧s=⟨reg [(10,pv 4 0),(1,iv (a:Nat)),(2,iv 4),(3,iv y)],(vc o c L x l)⟩) ?_ ?_))
 ·skip
  refine zJ (zN (o_d 1 [(56,pv 5 0)] (o_s (by refine zV (v:=iv x.k) rfl rfl ?_;exact rfl) ?_)))
  refine qV (zab (zh7 x.k) rfl rfl rfl ?_)
  have hy4:=zfr x.k
  refine o_d 1 [(13,iv (zak x.k))] (zE (zA (zJ (zN (o_d 2 [(60,iv (zak x.k)),(59,iv (a:Nat))] (o_s (by refine zK (v:= .int .i64 (i64.wrap (zak x.k+2))) (congrArg wg (w64 om om)) ?_;kernel_rfl) ?_))))))
  refine o_d 2 [(63,bv (decide (((a:Nat):Int) < zak x.k+2))),(62,bv (decide (((a:Nat):Int) < zak x.k+2)))] (zbJ (b:=decide (((a:Nat):Int) < zak x.k+2)) 63 rfl (fun h5=>?_) (fun h5=>?_))
  ·skip
   have h5':((a:Nat):Int) < zak x.k+2:=of_decide_eq_true h5
   refine o_d 2 [(65,iv 4),(64,iv (a:Nat))] (qB rfl (o_s (by refine zK (v:= .int .i64 (i64.wrap ((a:Nat)+4))) (congrArg wg (w64 om om)) ?_;kernel_rfl) ?_))
   refine o_d 3 [(69,bv (decide (((a:Nat)+4:Int) > zak x.k))),(68,bv (decide (((a:Nat)+4:Int) > zak x.k))),(67,iv (zak x.k))] (zE (zA (qJ (t:=decide (((a:Nat)+4:Int) > zak x.k)) rfl (fun q=>by rw [(by simp;omega:(decide (((a:Nat)+4:Int) > zak x.k))=false)] at q;cases q) (fun _=>?_))))
   refine qK (⟨⟨reg [(10,pv 4 0),(1,iv (a:Nat)),(2,iv 4),(3,iv y)],(vc o c L x l)⟩, ?_⟩)
   refine ⟨?_, ?_⟩
   ·exact Wk.ren [0,1,2,3,4,5] rfl rfl dC ⟨rfl,rfl,rfl,rfl,trivial⟩ ⟨.inl (zF (zH _)),.inl (zF (zH _)),.inl (zF (zH _)),.inl (zF (zH _)),.inl rfl,.inl (zcj rfl rfl),trivial⟩
   ·exact ⟨0,rfl,rfl,rfl⟩
  have h5': ¬(((a:Nat):Int) < zak x.k+2):=of_decide_eq_false h5
  refine o_d 6 ((69,bv false)::(68,undef)::(vG 67 66 65 64)) (zE (zA (zbc rfl (qK (⟨⟨reg [(10,pv 4 0),(1,iv (a:Nat)),(2,iv 4),(3,iv y)],(vc o c L x l)⟩, ?_⟩)))))
  refine ⟨?_, ?_⟩
  ·exact Wk.ren [0,1,2,3,4,5] rfl rfl dC ⟨rfl,rfl,rfl,rfl,trivial⟩ ⟨.inl (zF (zH _)),.inl (zF (zH _)),.inl (zF (zH _)),.inl (zF (zH _)),.inl rfl,.inl (zcj rfl rfl),trivial⟩
  ·exact ⟨0,rfl,rfl,rfl⟩
 rintro s ⟨z,-,hz,rfl⟩
 refine zJ (zN (o_d 7 ((76,iv y)::(75,iv 4)::(74,iv (a:Nat))::(vb 73 l 3 72 4 71 70)) ?_))
 obtain ⟨m6,hm6⟩: ∃z9,zbq l a 4 y=z9:=⟨_,rfl⟩
 have hm6l:m6.length=l.length:=by rw [←hm6,zX]
 refine qV (zaD [3] [zG (wa l) (u8 l) true] [zS (wa l) 0 l.length,iv (a:Nat),iv 4,iv y] (putC (wa l) l l (RowOf.whole rfl (Nat.le_refl _)) a 4 y om om om) rfl rfl ⟨⟨_,rfl,z4 (zH _) rfl (fun q=>rfl)⟩,trivial⟩ dC ?_)
 rintro v1 h1' ⟨rfl,rfl⟩
 refine ⟨(fun i q=>zcC q),.tuple #[],(vH o c L x l m6),[],(by simp [zaF]),⟨rfl,rfl,rfl,(zcz hm6),rfl,rfl,trivial⟩,trivial, ?_⟩
 refine zE (zA (zJ (zN (o_d 3 [(80,iv 4),(79,iv (a:Nat)),(78,pv 4 0)] ?_))))
 obtain ⟨m7,hm7⟩: ∃z9,zeM l m6 x.ba a 4=z9:=⟨_,rfl⟩
 have hm7l:m7.length=m6.length:=by rw [←hm7];first | exact zX _ _ _ _ | exact qY _ _ _ _ _ | exact zaf _ _
 refine qV (zaD [4,0,3] (xQ o c l x L m6) [pv 0 0,iv (a:Nat),iv 4] (bodyC l m6 _ _ _ hr x.ba a 4 om om om om) rfl rfl ⟨⟨_,rfl,.inl (⟨rfl,fun q=>by cases q⟩)⟩,⟨_,rfl,z4 (q:=some (o,c)) (q':=some (o,c)) (zH _) rfl (fun q=>q)⟩,⟨_,rfl,z4 (q:=some (0,l.length)) (q':=some (0,l.length)) (zH _) rfl (fun q=>rfl)⟩,trivial⟩ dC ?_)
 rintro v1 h1' ⟨rfl,rfl⟩
 refine ⟨za6 rfl,.tuple #[],(vH o c L x l m7),[],(by simp [zaF]),⟨rfl,rfl,rfl,(zbL hm7),rfl,rfl,trivial⟩,trivial, ?_⟩
 refine zE (zA (zJ (zN (o_d 1 [(82,pv 4 0)] ?_))))
 obtain ⟨m8,hm8⟩: ∃z9,zdC m7 x.ba=z9:=⟨_,rfl⟩
 have hm8l:m8.length=m7.length:=by rw [←hm8];first | exact zX _ _ _ _ | exact qY _ _ _ _ _ | exact zaf _ _
 refine qV (zaD [4,0,3] (xQ o c l x L m7) [pv 0 0] (doneC l m7 _ _ _ hr x.ba om om om) rfl rfl ⟨⟨_,rfl,.inl (⟨rfl,fun q=>by cases q⟩)⟩,⟨_,rfl,z4 (q:=some (o,c)) (q':=some (o,c)) (zH _) rfl (fun q=>q)⟩,⟨_,rfl,z4 (q:=some (0,l.length)) (q':=some (0,l.length)) (zH _) rfl (fun q=>rfl)⟩,trivial⟩ dC ?_)
 rintro v1 h1' ⟨rfl,rfl⟩
 refine ⟨za6 rfl,zS (wa l) 3 l.length,(vH o c L x l m8),[],rfl,⟨rfl,rfl,rfl,(zbL hm8),rfl,rfl,trivial⟩,trivial, ?_⟩
 refine o_d 2 [(9,iv 0),(8,zS (wa l) 3 l.length)] (zE (zA (qW ?_)))
 have he:zco l x.ba a 4 y=m8:=by simp only [zco,hm6,hm7,hm8]
 exact ⟨trivial,[zS (wa l) 3 l.length,iv 0],(zT rfl (zT rfl rfl)),(zM rfl (zM rfl z5)),⟨reg [],[zG (wZ o c) (u8 L) false,zG (wa l) (u8 m8) true]⟩,[0,3],[zS (wa l) 1 l.length,iv 0],WkR.of (rs:= []) rfl rfl dC trivial ⟨.inl (zF (zH _)),.inl (zF (zH _)),trivial⟩,rfl,rfl,(by rw [he])⟩
end Go.Rh

set_option maxHeartbeats 8000000
namespace Go.Rh
def xo (a b:Int):Int:=IntKind.u64.wrap ((BitVec.ofInt 64 a^^^BitVec.ofInt 64 b).toNat)
def ad (a b:Int):Int:=IntKind.u64.wrap (a+b)
def oo (a b:Int):Int:=IntKind.u64.wrap ((BitVec.ofInt 64 a ||| BitVec.ofInt 64 b).toNat)
def sl (a b:Int):Int:=IntKind.u64.wrap (a*2^(min b.toNat 64))
def zbb (R Q x:Int):Int:=IntKind.u64.wrap ((BitVec.ofInt 64 (IntKind.u64.wrap (x*R)) ||| BitVec.ofInt 64 (x.fdiv Q)).toNat)
structure Q4 where
  (a b c d:Int)
def q4L (q:Q4):List Value:= [uv q.a,uv q.b,uv q.c,uv q.d]
def rs1 (q:Q4):Q4:=⟨ad q.a q.b,q.b,q.c,q.d⟩
def rs2 (q:Q4):Q4:=let x:=rs1 q;⟨x.a,xo (zbb 8192 2251799813685248 x.b) x.a,x.c,x.d⟩
def rs3 (q:Q4):Q4:=let x:=rs2 q;⟨zbb 4294967296 4294967296 x.a,x.b,x.c,x.d⟩
def rs4 (q:Q4):Q4:=let x:=rs3 q;⟨x.a,x.b,ad x.c x.d,x.d⟩
def rs5 (q:Q4):Q4:=let x:=rs4 q;⟨x.a,x.b,x.c,xo (zbb 65536 281474976710656 x.d) x.c⟩
def rs6 (q:Q4):Q4:=let x:=rs5 q;⟨ad x.a x.d,x.b,x.c,x.d⟩
def rs7 (q:Q4):Q4:=let x:=rs6 q;⟨x.a,x.b,x.c,xo (zbb 2097152 8796093022208 x.d) x.a⟩
def rs8 (q:Q4):Q4:=let x:=rs7 q;⟨x.a,x.b,ad x.c x.b,x.d⟩
def rs9 (q:Q4):Q4:=let x:=rs8 q;⟨x.a,xo (zbb 131072 140737488355328 x.b) x.c,x.c,x.d⟩
def zdI (q:Q4):Q4:=let x:=rs9 q;⟨x.a,x.b,zbb 4294967296 4294967296 x.c,x.d⟩
theorem rot13C {P:Program} [PrC P] (x:Int):
    Env P "math/bits.RotateLeft64" [uv x,iv 13] ([]) (Ans (uv (zbb 8192 2251799813685248 x)) ([])):=by
 refine Env.by PrC.math_bits_RotateLeft64 ?_
 unfold zax
 show GC _ 0 _ _ ⟨reg [(0,uv x),(1,iv 13)],[]⟩
 refine zJ (zN (o_d 1 [(4,uv 0)] (zE (zA (zJ (zN (o_d 4 [(5,uv 13),(8,uv 13),(7,uv 13),(6,iv 13)] (zE (zA (zJ (zN (o_d 9 [(4,uv (IntKind.u64.wrap ((BitVec.ofInt 64 (IntKind.u64.wrap (x*8192)) ||| BitVec.ofInt 64 (x.fdiv 2251799813685248)).toNat))),(16,uv (IntKind.u64.wrap ((BitVec.ofInt 64 (IntKind.u64.wrap (x*8192)) ||| BitVec.ofInt 64 (x.fdiv 2251799813685248)).toNat))),(15,uv (x.fdiv 2251799813685248)),(14,uv 51),(13,uv 13),(12,uv x),(11,uv (IntKind.u64.wrap (x*8192))),(10,uv 13),(9,uv x)] ?_))))))))))))
 refine zE (zA (qW ?_))
 have E0_:zbb 8192 2251799813685248 x=IntKind.u64.wrap ((BitVec.ofInt 64 (IntKind.u64.wrap (x*8192)) ||| BitVec.ofInt 64 (x.fdiv 2251799813685248)).toNat):=by
  rfl
 exact z7 [uv (IntKind.u64.wrap ((BitVec.ofInt 64 (IntKind.u64.wrap (x*8192)) ||| BitVec.ofInt 64 (x.fdiv 2251799813685248)).toNat))] (zT rfl rfl) rfl (by rw [E0_];rfl) rfl rfl
theorem rot32C {P:Program} [PrC P] (x:Int):
    Env P "math/bits.RotateLeft64" [uv x,iv 32] ([]) (Ans (uv (zbb 4294967296 4294967296 x)) ([])):=by
 refine Env.by PrC.math_bits_RotateLeft64 ?_
 unfold zax
 show GC _ 0 _ _ ⟨reg [(0,uv x),(1,iv 32)],[]⟩
 refine zJ (zN (o_d 1 [(4,uv 0)] (zE (zA (zJ (zN (o_d 4 [(5,uv 32),(8,uv 32),(7,uv 32),(6,iv 32)] (zE (zA (zJ (zN (o_d 9 [(4,uv (IntKind.u64.wrap ((BitVec.ofInt 64 (IntKind.u64.wrap (x*4294967296)) ||| BitVec.ofInt 64 (x.fdiv 4294967296)).toNat))),(16,uv (IntKind.u64.wrap ((BitVec.ofInt 64 (IntKind.u64.wrap (x*4294967296)) ||| BitVec.ofInt 64 (x.fdiv 4294967296)).toNat))),(15,uv (x.fdiv 4294967296)),(14,uv 32),(13,uv 32),(12,uv x),(11,uv (IntKind.u64.wrap (x*4294967296))),(10,uv 32),(9,uv x)] ?_))))))))))))
 refine zE (zA (qW ?_))
 have E0_:zbb 4294967296 4294967296 x=IntKind.u64.wrap ((BitVec.ofInt 64 (IntKind.u64.wrap (x*4294967296)) ||| BitVec.ofInt 64 (x.fdiv 4294967296)).toNat):=by
  rfl
 exact z7 [uv (IntKind.u64.wrap ((BitVec.ofInt 64 (IntKind.u64.wrap (x*4294967296)) ||| BitVec.ofInt 64 (x.fdiv 4294967296)).toNat))] (zT rfl rfl) rfl (by rw [E0_];rfl) rfl rfl
theorem rot16C {P:Program} [PrC P] (x:Int):
    Env P "math/bits.RotateLeft64" [uv x,iv 16] ([]) (Ans (uv (zbb 65536 281474976710656 x)) ([])):=by
 refine Env.by PrC.math_bits_RotateLeft64 ?_
 unfold zax
 show GC _ 0 _ _ ⟨reg [(0,uv x),(1,iv 16)],[]⟩
 refine zJ (zN (o_d 1 [(4,uv 0)] (zE (zA (zJ (zN (o_d 4 [(5,uv 16),(8,uv 16),(7,uv 16),(6,iv 16)] (zE (zA (zJ (zN (o_d 9 [(4,uv (IntKind.u64.wrap ((BitVec.ofInt 64 (IntKind.u64.wrap (x*65536)) ||| BitVec.ofInt 64 (x.fdiv 281474976710656)).toNat))),(16,uv (IntKind.u64.wrap ((BitVec.ofInt 64 (IntKind.u64.wrap (x*65536)) ||| BitVec.ofInt 64 (x.fdiv 281474976710656)).toNat))),(15,uv (x.fdiv 281474976710656)),(14,uv 48),(13,uv 16),(12,uv x),(11,uv (IntKind.u64.wrap (x*65536))),(10,uv 16),(9,uv x)] ?_))))))))))))
 refine zE (zA (qW ?_))
 have E0_:zbb 65536 281474976710656 x=IntKind.u64.wrap ((BitVec.ofInt 64 (IntKind.u64.wrap (x*65536)) ||| BitVec.ofInt 64 (x.fdiv 281474976710656)).toNat):=by
  rfl
 exact z7 [uv (IntKind.u64.wrap ((BitVec.ofInt 64 (IntKind.u64.wrap (x*65536)) ||| BitVec.ofInt 64 (x.fdiv 281474976710656)).toNat))] (zT rfl rfl) rfl (by rw [E0_];rfl) rfl rfl
theorem rot21C {P:Program} [PrC P] (x:Int):
    Env P "math/bits.RotateLeft64" [uv x,iv 21] ([]) (Ans (uv (zbb 2097152 8796093022208 x)) ([])):=by
 refine Env.by PrC.math_bits_RotateLeft64 ?_
 unfold zax
 show GC _ 0 _ _ ⟨reg [(0,uv x),(1,iv 21)],[]⟩
 refine zJ (zN (o_d 1 [(4,uv 0)] (zE (zA (zJ (zN (o_d 4 [(5,uv 21),(8,uv 21),(7,uv 21),(6,iv 21)] (zE (zA (zJ (zN (o_d 9 [(4,uv (IntKind.u64.wrap ((BitVec.ofInt 64 (IntKind.u64.wrap (x*2097152)) ||| BitVec.ofInt 64 (x.fdiv 8796093022208)).toNat))),(16,uv (IntKind.u64.wrap ((BitVec.ofInt 64 (IntKind.u64.wrap (x*2097152)) ||| BitVec.ofInt 64 (x.fdiv 8796093022208)).toNat))),(15,uv (x.fdiv 8796093022208)),(14,uv 43),(13,uv 21),(12,uv x),(11,uv (IntKind.u64.wrap (x*2097152))),(10,uv 21),(9,uv x)] ?_))))))))))))
 refine zE (zA (qW ?_))
 have E0_:zbb 2097152 8796093022208 x=IntKind.u64.wrap ((BitVec.ofInt 64 (IntKind.u64.wrap (x*2097152)) ||| BitVec.ofInt 64 (x.fdiv 8796093022208)).toNat):=by
  rfl
 exact z7 [uv (IntKind.u64.wrap ((BitVec.ofInt 64 (IntKind.u64.wrap (x*2097152)) ||| BitVec.ofInt 64 (x.fdiv 8796093022208)).toNat))] (zT rfl rfl) rfl (by rw [E0_];rfl) rfl rfl
theorem rot17C {P:Program} [PrC P] (x:Int):
    Env P "math/bits.RotateLeft64" [uv x,iv 17] ([]) (Ans (uv (zbb 131072 140737488355328 x)) ([])):=by
 refine Env.by PrC.math_bits_RotateLeft64 ?_
 unfold zax
 show GC _ 0 _ _ ⟨reg [(0,uv x),(1,iv 17)],[]⟩
 refine zJ (zN (o_d 1 [(4,uv 0)] (zE (zA (zJ (zN (o_d 4 [(5,uv 17),(8,uv 17),(7,uv 17),(6,iv 17)] (zE (zA (zJ (zN (o_d 9 [(4,uv (IntKind.u64.wrap ((BitVec.ofInt 64 (IntKind.u64.wrap (x*131072)) ||| BitVec.ofInt 64 (x.fdiv 140737488355328)).toNat))),(16,uv (IntKind.u64.wrap ((BitVec.ofInt 64 (IntKind.u64.wrap (x*131072)) ||| BitVec.ofInt 64 (x.fdiv 140737488355328)).toNat))),(15,uv (x.fdiv 140737488355328)),(14,uv 47),(13,uv 17),(12,uv x),(11,uv (IntKind.u64.wrap (x*131072))),(10,uv 17),(9,uv x)] ?_))))))))))))
 refine zE (zA (qW ?_))
 have E0_:zbb 131072 140737488355328 x=IntKind.u64.wrap ((BitVec.ofInt 64 (IntKind.u64.wrap (x*131072)) ||| BitVec.ofInt 64 (x.fdiv 140737488355328)).toNat):=by
  rfl
 exact z7 [uv (IntKind.u64.wrap ((BitVec.ofInt 64 (IntKind.u64.wrap (x*131072)) ||| BitVec.ofInt 64 (x.fdiv 140737488355328)).toNat))] (zT rfl rfl) rfl (by rw [E0_];rfl) rfl rfl
theorem left13C {P:Program} [PrC P] (x:Int):
    Env P "roundhouse/roundhouseref2.left" [uv x,uv 13] ([]) (Ans (uv (zbb 8192 2251799813685248 x)) ([])):=by
 refine Env.by PrC.ref2_left ?_
 unfold zcT
 show GC _ 0 _ _ ⟨reg [(0,uv x),(1,uv 13)],[]⟩
 refine zJ (zN (o_d 1 [(4,uv 0)] (zE (zA (zJ (zN (o_d 9 [(4,uv (IntKind.u64.wrap ((BitVec.ofInt 64 (IntKind.u64.wrap (x*8192)) ||| BitVec.ofInt 64 (x.fdiv 2251799813685248)).toNat))),(12,uv (IntKind.u64.wrap ((BitVec.ofInt 64 (IntKind.u64.wrap (x*8192)) ||| BitVec.ofInt 64 (x.fdiv 2251799813685248)).toNat))),(11,uv (x.fdiv 2251799813685248)),(10,uv 51),(9,uv 13),(8,uv x),(7,uv (IntKind.u64.wrap (x*8192))),(6,uv 13),(5,uv x)] (zE (zA (qW ?_))))))))))
 have E0_:zbb 8192 2251799813685248 x=IntKind.u64.wrap ((BitVec.ofInt 64 (IntKind.u64.wrap (x*8192)) ||| BitVec.ofInt 64 (x.fdiv 2251799813685248)).toNat):=by
  rfl
 exact z7 [uv (IntKind.u64.wrap ((BitVec.ofInt 64 (IntKind.u64.wrap (x*8192)) ||| BitVec.ofInt 64 (x.fdiv 2251799813685248)).toNat))] (zT rfl rfl) rfl (by rw [E0_];rfl) rfl rfl
theorem left32C {P:Program} [PrC P] (x:Int):
    Env P "roundhouse/roundhouseref2.left" [uv x,uv 32] ([]) (Ans (uv (zbb 4294967296 4294967296 x)) ([])):=by
 refine Env.by PrC.ref2_left ?_
 unfold zcT
 show GC _ 0 _ _ ⟨reg [(0,uv x),(1,uv 32)],[]⟩
 refine zJ (zN (o_d 1 [(4,uv 0)] (zE (zA (zJ (zN (o_d 9 [(4,uv (IntKind.u64.wrap ((BitVec.ofInt 64 (IntKind.u64.wrap (x*4294967296)) ||| BitVec.ofInt 64 (x.fdiv 4294967296)).toNat))),(12,uv (IntKind.u64.wrap ((BitVec.ofInt 64 (IntKind.u64.wrap (x*4294967296)) ||| BitVec.ofInt 64 (x.fdiv 4294967296)).toNat))),(11,uv (x.fdiv 4294967296)),(10,uv 32),(9,uv 32),(8,uv x),(7,uv (IntKind.u64.wrap (x*4294967296))),(6,uv 32),(5,uv x)] (zE (zA (qW ?_))))))))))
 have E0_:zbb 4294967296 4294967296 x=IntKind.u64.wrap ((BitVec.ofInt 64 (IntKind.u64.wrap (x*4294967296)) ||| BitVec.ofInt 64 (x.fdiv 4294967296)).toNat):=by
  rfl
 exact z7 [uv (IntKind.u64.wrap ((BitVec.ofInt 64 (IntKind.u64.wrap (x*4294967296)) ||| BitVec.ofInt 64 (x.fdiv 4294967296)).toNat))] (zT rfl rfl) rfl (by rw [E0_];rfl) rfl rfl
theorem left16C {P:Program} [PrC P] (x:Int):
    Env P "roundhouse/roundhouseref2.left" [uv x,uv 16] ([]) (Ans (uv (zbb 65536 281474976710656 x)) ([])):=by
 refine Env.by PrC.ref2_left ?_
 unfold zcT
 show GC _ 0 _ _ ⟨reg [(0,uv x),(1,uv 16)],[]⟩
 refine zJ (zN (o_d 1 [(4,uv 0)] (zE (zA (zJ (zN (o_d 9 [(4,uv (IntKind.u64.wrap ((BitVec.ofInt 64 (IntKind.u64.wrap (x*65536)) ||| BitVec.ofInt 64 (x.fdiv 281474976710656)).toNat))),(12,uv (IntKind.u64.wrap ((BitVec.ofInt 64 (IntKind.u64.wrap (x*65536)) ||| BitVec.ofInt 64 (x.fdiv 281474976710656)).toNat))),(11,uv (x.fdiv 281474976710656)),(10,uv 48),(9,uv 16),(8,uv x),(7,uv (IntKind.u64.wrap (x*65536))),(6,uv 16),(5,uv x)] (zE (zA (qW ?_))))))))))
 have E0_:zbb 65536 281474976710656 x=IntKind.u64.wrap ((BitVec.ofInt 64 (IntKind.u64.wrap (x*65536)) ||| BitVec.ofInt 64 (x.fdiv 281474976710656)).toNat):=by
  rfl
 exact z7 [uv (IntKind.u64.wrap ((BitVec.ofInt 64 (IntKind.u64.wrap (x*65536)) ||| BitVec.ofInt 64 (x.fdiv 281474976710656)).toNat))] (zT rfl rfl) rfl (by rw [E0_];rfl) rfl rfl
theorem left21C {P:Program} [PrC P] (x:Int):
    Env P "roundhouse/roundhouseref2.left" [uv x,uv 21] ([]) (Ans (uv (zbb 2097152 8796093022208 x)) ([])):=by
 refine Env.by PrC.ref2_left ?_
 unfold zcT
 show GC _ 0 _ _ ⟨reg [(0,uv x),(1,uv 21)],[]⟩
 refine zJ (zN (o_d 1 [(4,uv 0)] (zE (zA (zJ (zN (o_d 9 [(4,uv (IntKind.u64.wrap ((BitVec.ofInt 64 (IntKind.u64.wrap (x*2097152)) ||| BitVec.ofInt 64 (x.fdiv 8796093022208)).toNat))),(12,uv (IntKind.u64.wrap ((BitVec.ofInt 64 (IntKind.u64.wrap (x*2097152)) ||| BitVec.ofInt 64 (x.fdiv 8796093022208)).toNat))),(11,uv (x.fdiv 8796093022208)),(10,uv 43),(9,uv 21),(8,uv x),(7,uv (IntKind.u64.wrap (x*2097152))),(6,uv 21),(5,uv x)] (zE (zA (qW ?_))))))))))
 have E0_:zbb 2097152 8796093022208 x=IntKind.u64.wrap ((BitVec.ofInt 64 (IntKind.u64.wrap (x*2097152)) ||| BitVec.ofInt 64 (x.fdiv 8796093022208)).toNat):=by
  rfl
 exact z7 [uv (IntKind.u64.wrap ((BitVec.ofInt 64 (IntKind.u64.wrap (x*2097152)) ||| BitVec.ofInt 64 (x.fdiv 8796093022208)).toNat))] (zT rfl rfl) rfl (by rw [E0_];rfl) rfl rfl
theorem left17C {P:Program} [PrC P] (x:Int):
    Env P "roundhouse/roundhouseref2.left" [uv x,uv 17] ([]) (Ans (uv (zbb 131072 140737488355328 x)) ([])):=by
 refine Env.by PrC.ref2_left ?_
 unfold zcT
 show GC _ 0 _ _ ⟨reg [(0,uv x),(1,uv 17)],[]⟩
 refine zJ (zN (o_d 1 [(4,uv 0)] (zE (zA (zJ (zN (o_d 9 [(4,uv (IntKind.u64.wrap ((BitVec.ofInt 64 (IntKind.u64.wrap (x*131072)) ||| BitVec.ofInt 64 (x.fdiv 140737488355328)).toNat))),(12,uv (IntKind.u64.wrap ((BitVec.ofInt 64 (IntKind.u64.wrap (x*131072)) ||| BitVec.ofInt 64 (x.fdiv 140737488355328)).toNat))),(11,uv (x.fdiv 140737488355328)),(10,uv 47),(9,uv 17),(8,uv x),(7,uv (IntKind.u64.wrap (x*131072))),(6,uv 17),(5,uv x)] (zE (zA (qW ?_))))))))))
 have E0_:zbb 131072 140737488355328 x=IntKind.u64.wrap ((BitVec.ofInt 64 (IntKind.u64.wrap (x*131072)) ||| BitVec.ofInt 64 (x.fdiv 140737488355328)).toNat):=by
  rfl
 exact z7 [uv (IntKind.u64.wrap ((BitVec.ofInt 64 (IntKind.u64.wrap (x*131072)) ||| BitVec.ofInt 64 (x.fdiv 140737488355328)).toNat))] (zT rfl rfl) rfl (by rw [E0_];rfl) rfl rfl
abbrev wS (e:Q4):=[cw [uv e.a,uv e.b,uv e.c,uv e.d]]
abbrev x8 (e:Q4):=(Q4.mk (ad e.a e.b) e.b e.c e.d)
theorem roundC {P:Program} [PrC P] (q:Q4):
    Env P "(*roundhouse/sip.state).round" [pv 0 0] ((wS q)) (fun v h'=>v= .tuple #[]∧h'= [cw (q4L (zdI q))]):=by
 refine Env.by2 PrC.sip_state_round ?_
 unfold zei
 show GC _ 1 _ _ ⟨reg vo,(wS q)⟩
 refine zf2 (fun s=> ∃(x:Q4),0=0∧(x=rs1 q)∧s=⟨reg vo,[cw [uv x.a,uv x.b,uv x.c,uv x.d]]⟩) ?_ ?_
 ·skip
  refine zbe ["math/bits.RotateLeft64"] (r_b 12 [(12,pv 0 0),(11,pv 0 0),(10,uv (ad q.a q.b)),(9,uv q.b),(8,pv 0 1),(7,pv 0 0),(6,pv 0 0),(5,uv q.a),(4,pv 0 0),(3,pv 0 0),(2,pv 0 0)] [cw [uv (ad q.a q.b),uv q.b,uv q.c,uv q.d]] (za3 (⟨⟨reg vo,[cw [uv (x8 q).a,uv (x8 q).b,uv (x8 q).c,uv (x8 q).d]]⟩, ?_⟩)))
  refine ⟨?_, ?_⟩
  ·exact Wk.ren [0] rfl rfl dC ⟨rfl,trivial⟩ ⟨.inl rfl,trivial⟩
  ·exact ⟨(x8 q),rfl,rfl,rfl⟩
 rintro s ⟨x,-,hx,rfl⟩
 refine zf2 (fun s=> ∃(x:Q4),0=0∧(x=rs2 q)∧s=⟨reg vo,[cw [uv x.a,uv x.b,uv x.c,uv x.d]]⟩) ?_ ?_
 ·skip
  refine zbe ["math/bits.RotateLeft64"] (r_d 5 ((17,uv x.b)::(wJ 16 0 1 15 0 14 0 13 0)) (zeJ (zba (rot13C x.b) rfl rfl rfl (r_b 8 [(25,pv 0 1),(24,pv 0 0),(23,uv (xo (zbb 8192 2251799813685248 x.b) x.a)),(22,uv x.a),(21,pv 0 0),(20,pv 0 0),(19,pv 0 0)] [cw [uv x.a,uv (xo (zbb 8192 2251799813685248 x.b) x.a),uv x.c,uv x.d]] (za3 (⟨⟨reg vo,[cw [uv (Q4.mk x.a (xo (zbb 8192 2251799813685248 x.b) x.a) x.c x.d).a,uv (Q4.mk x.a (xo (zbb 8192 2251799813685248 x.b) x.a) x.c x.d).b,uv (Q4.mk x.a (xo (zbb 8192 2251799813685248 x.b) x.a) x.c x.d).c,uv (Q4.mk x.a (xo (zbb 8192 2251799813685248 x.b) x.a) x.c x.d).d]]⟩, ?_⟩))))))
  refine ⟨?_, ?_⟩
  ·exact Wk.ren [0] rfl rfl dC ⟨rfl,trivial⟩ ⟨.inl rfl,trivial⟩
  ·exact ⟨(Q4.mk x.a (xo (zbb 8192 2251799813685248 x.b) x.a) x.c x.d),rfl,(by rw [hx];rfl),rfl⟩
 rintro s ⟨x,-,hx,rfl⟩
 refine zf2 (fun s=> ∃(x:Q4),0=0∧(x=rs3 q)∧s=⟨reg vo,[cw [uv x.a,uv x.b,uv x.c,uv x.d]]⟩) ?_ ?_
 ·skip
  refine zN (o_d 5 ((30,uv x.a)::(wJ 29 0 0 28 0 27 0 26 0)) (qV (zab (rot32C x.a) rfl rfl rfl (o_b 3 [(33,pv 0 0),(32,pv 0 0)] [cw [uv (zbb 4294967296 4294967296 x.a),uv x.b,uv x.c,uv x.d]] (zE (⟨⟨reg vo,[cw [uv (Q4.mk (zbb 4294967296 4294967296 x.a) x.b x.c x.d).a,uv (Q4.mk (zbb 4294967296 4294967296 x.a) x.b x.c x.d).b,uv (Q4.mk (zbb 4294967296 4294967296 x.a) x.b x.c x.d).c,uv (Q4.mk (zbb 4294967296 4294967296 x.a) x.b x.c x.d).d]]⟩, ?_⟩))))))
  refine ⟨?_, ?_⟩
  ·exact Wk.ren [0] rfl rfl dC ⟨rfl,trivial⟩ ⟨.inl rfl,trivial⟩
  ·exact ⟨(Q4.mk (zbb 4294967296 4294967296 x.a) x.b x.c x.d),rfl,(by rw [hx];rfl),rfl⟩
 rintro s ⟨x,-,hx,rfl⟩
 refine zf2 (fun s=> ∃(x:Q4),0=0∧(x=rs4 q)∧s=⟨reg vo,[cw [uv x.a,uv x.b,uv x.c,uv x.d]]⟩) ?_ ?_
 ·skip
  refine zbe ["math/bits.RotateLeft64"] (r_b 12 [(44,pv 0 2),(43,pv 0 0),(42,uv (ad x.c x.d)),(41,uv x.d),(40,pv 0 3),(39,pv 0 0),(38,pv 0 0),(37,uv x.c),(36,pv 0 2),(35,pv 0 0),(34,pv 0 0)] [cw [uv x.a,uv x.b,uv (ad x.c x.d),uv x.d]] (za3 (⟨⟨reg vo,[cw [uv (Q4.mk x.a x.b (ad x.c x.d) x.d).a,uv (Q4.mk x.a x.b (ad x.c x.d) x.d).b,uv (Q4.mk x.a x.b (ad x.c x.d) x.d).c,uv (Q4.mk x.a x.b (ad x.c x.d) x.d).d]]⟩, ?_⟩)))
  refine ⟨?_, ?_⟩
  ·exact Wk.ren [0] rfl rfl dC ⟨rfl,trivial⟩ ⟨.inl rfl,trivial⟩
  ·exact ⟨(Q4.mk x.a x.b (ad x.c x.d) x.d),rfl,(by rw [hx];rfl),rfl⟩
 rintro s ⟨x,-,hx,rfl⟩
 refine zf2 (fun s=> ∃(x:Q4),0=0∧(x=rs5 q)∧s=⟨reg vo,[cw [uv x.a,uv x.b,uv x.c,uv x.d]]⟩) ?_ ?_
 ·skip
  refine zbe ["math/bits.RotateLeft64"] (r_d 5 ((49,uv x.d)::(wJ 48 0 3 47 0 46 0 45 0)) (zeJ (zba (rot16C x.d) rfl rfl rfl (r_b 8 [(57,pv 0 3),(56,pv 0 0),(55,uv (xo (zbb 65536 281474976710656 x.d) x.c)),(54,uv x.c),(53,pv 0 2),(52,pv 0 0),(51,pv 0 0)] [cw [uv x.a,uv x.b,uv x.c,uv (xo (zbb 65536 281474976710656 x.d) x.c)]] (za3 (⟨⟨reg vo,[cw [uv (Q4.mk x.a x.b x.c (xo (zbb 65536 281474976710656 x.d) x.c)).a,uv (Q4.mk x.a x.b x.c (xo (zbb 65536 281474976710656 x.d) x.c)).b,uv (Q4.mk x.a x.b x.c (xo (zbb 65536 281474976710656 x.d) x.c)).c,uv (Q4.mk x.a x.b x.c (xo (zbb 65536 281474976710656 x.d) x.c)).d]]⟩, ?_⟩))))))
  refine ⟨?_, ?_⟩
  ·exact Wk.ren [0] rfl rfl dC ⟨rfl,trivial⟩ ⟨.inl rfl,trivial⟩
  ·exact ⟨(Q4.mk x.a x.b x.c (xo (zbb 65536 281474976710656 x.d) x.c)),rfl,(by rw [hx];rfl),rfl⟩
 rintro s ⟨x,-,hx,rfl⟩
 refine zf2 (fun s=> ∃(x:Q4),0=0∧(x=rs6 q)∧s=⟨reg vo,[cw [uv x.a,uv x.b,uv x.c,uv x.d]]⟩) ?_ ?_
 ·skip
  refine zbe ["math/bits.RotateLeft64"] (r_b 12 [(68,pv 0 0),(67,pv 0 0),(66,uv (ad x.a x.d)),(65,uv x.d),(64,pv 0 3),(63,pv 0 0),(62,pv 0 0),(61,uv x.a),(60,pv 0 0),(59,pv 0 0),(58,pv 0 0)] [cw [uv (ad x.a x.d),uv x.b,uv x.c,uv x.d]] (za3 (⟨⟨reg vo,[cw [uv (Q4.mk (ad x.a x.d) x.b x.c x.d).a,uv (Q4.mk (ad x.a x.d) x.b x.c x.d).b,uv (Q4.mk (ad x.a x.d) x.b x.c x.d).c,uv (Q4.mk (ad x.a x.d) x.b x.c x.d).d]]⟩, ?_⟩)))
  refine ⟨?_, ?_⟩
  ·exact Wk.ren [0] rfl rfl dC ⟨rfl,trivial⟩ ⟨.inl rfl,trivial⟩
  ·exact ⟨(Q4.mk (ad x.a x.d) x.b x.c x.d),rfl,(by rw [hx];rfl),rfl⟩
 rintro s ⟨x,-,hx,rfl⟩
 refine zf2 (fun s=> ∃(x:Q4),0=0∧(x=rs7 q)∧s=⟨reg vo,[cw [uv x.a,uv x.b,uv x.c,uv x.d]]⟩) ?_ ?_
 ·skip
  refine zbe ["math/bits.RotateLeft64"] (r_d 5 ((73,uv x.d)::(wJ 72 0 3 71 0 70 0 69 0)) (zeJ (zba (rot21C x.d) rfl rfl rfl (r_b 8 [(81,pv 0 3),(80,pv 0 0),(79,uv (xo (zbb 2097152 8796093022208 x.d) x.a)),(78,uv x.a),(77,pv 0 0),(76,pv 0 0),(75,pv 0 0)] [cw [uv x.a,uv x.b,uv x.c,uv (xo (zbb 2097152 8796093022208 x.d) x.a)]] (za3 (⟨⟨reg vo,[cw [uv (Q4.mk x.a x.b x.c (xo (zbb 2097152 8796093022208 x.d) x.a)).a,uv (Q4.mk x.a x.b x.c (xo (zbb 2097152 8796093022208 x.d) x.a)).b,uv (Q4.mk x.a x.b x.c (xo (zbb 2097152 8796093022208 x.d) x.a)).c,uv (Q4.mk x.a x.b x.c (xo (zbb 2097152 8796093022208 x.d) x.a)).d]]⟩, ?_⟩))))))
  refine ⟨?_, ?_⟩
  ·exact Wk.ren [0] rfl rfl dC ⟨rfl,trivial⟩ ⟨.inl rfl,trivial⟩
  ·exact ⟨(Q4.mk x.a x.b x.c (xo (zbb 2097152 8796093022208 x.d) x.a)),rfl,(by rw [hx];rfl),rfl⟩
 rintro s ⟨x,-,hx,rfl⟩
 refine zf2 (fun s=> ∃(x:Q4),0=0∧(x=rs8 q)∧s=⟨reg vo,[cw [uv x.a,uv x.b,uv x.c,uv x.d]]⟩) ?_ ?_
 ·skip
  refine zbe ["math/bits.RotateLeft64"] (r_b 12 [(92,pv 0 2),(91,pv 0 0),(90,uv (ad x.c x.b)),(89,uv x.b),(88,pv 0 1),(87,pv 0 0),(86,pv 0 0),(85,uv x.c),(84,pv 0 2),(83,pv 0 0),(82,pv 0 0)] [cw [uv x.a,uv x.b,uv (ad x.c x.b),uv x.d]] (za3 (⟨⟨reg vo,[cw [uv (Q4.mk x.a x.b (ad x.c x.b) x.d).a,uv (Q4.mk x.a x.b (ad x.c x.b) x.d).b,uv (Q4.mk x.a x.b (ad x.c x.b) x.d).c,uv (Q4.mk x.a x.b (ad x.c x.b) x.d).d]]⟩, ?_⟩)))
  refine ⟨?_, ?_⟩
  ·exact Wk.ren [0] rfl rfl dC ⟨rfl,trivial⟩ ⟨.inl rfl,trivial⟩
  ·exact ⟨(Q4.mk x.a x.b (ad x.c x.b) x.d),rfl,(by rw [hx];rfl),rfl⟩
 rintro s ⟨x,-,hx,rfl⟩
 refine zf2 (fun s=> ∃(x:Q4),0=0∧(x=rs9 q)∧s=⟨reg vo,[cw [uv x.a,uv x.b,uv x.c,uv x.d]]⟩) ?_ ?_
 ·skip
  refine zbe ["math/bits.RotateLeft64"] (r_d 5 ((97,uv x.b)::(wJ 96 0 1 95 0 94 0 93 0)) (zeJ (zba (rot17C x.b) rfl rfl rfl (r_b 8 [(105,pv 0 1),(104,pv 0 0),(103,uv (xo (zbb 131072 140737488355328 x.b) x.c)),(102,uv x.c),(101,pv 0 2),(100,pv 0 0),(99,pv 0 0)] [cw [uv x.a,uv (xo (zbb 131072 140737488355328 x.b) x.c),uv x.c,uv x.d]] (za3 (⟨⟨reg vo,[cw [uv (Q4.mk x.a (xo (zbb 131072 140737488355328 x.b) x.c) x.c x.d).a,uv (Q4.mk x.a (xo (zbb 131072 140737488355328 x.b) x.c) x.c x.d).b,uv (Q4.mk x.a (xo (zbb 131072 140737488355328 x.b) x.c) x.c x.d).c,uv (Q4.mk x.a (xo (zbb 131072 140737488355328 x.b) x.c) x.c x.d).d]]⟩, ?_⟩))))))
  refine ⟨?_, ?_⟩
  ·exact Wk.ren [0] rfl rfl dC ⟨rfl,trivial⟩ ⟨.inl rfl,trivial⟩
  ·exact ⟨(Q4.mk x.a (xo (zbb 131072 140737488355328 x.b) x.c) x.c x.d),rfl,(by rw [hx];rfl),rfl⟩
 rintro s ⟨x,-,hx,rfl⟩
 exact zN (o_d 5 ((110,uv x.c)::(wJ 109 0 2 108 0 107 0 106 0)) (qV (zab (rot32C x.c) rfl rfl rfl (o_b 3 [(113,pv 0 2),(112,pv 0 0)] [cw [uv x.a,uv x.b,uv (zbb 4294967296 4294967296 x.c),uv x.d]] (zE (⟨trivial,⟨reg [],[cw [uv x.a,uv x.b,uv (zbb 4294967296 4294967296 x.c),uv x.d]]⟩,Wk.ren [0] rfl rfl dC trivial ⟨.inl rfl,trivial⟩,[],rfl,z5,(by rfl),(by rw [hx];rfl)⟩))))))
abbrev Wb:=["roundhouse/roundhouseref2.left"]
theorem zd7 {P:Program} [PrC P] (q:Q4):
    Env P "(*roundhouse/roundhouseref2.state).round" [pv 0 0] ((wS q)) (fun v h'=>v= .tuple #[]∧h'= [cw (q4L (zdI q))]):=by
 refine Env.by2 PrC.ref2_state_round ?_
 unfold zdQ
 show GC _ 1 _ _ ⟨reg vo,(wS q)⟩
 refine zf2 (fun s=> ∃(x:Q4),0=0∧(x=rs1 q)∧s=⟨reg vo,[cw [uv x.a,uv x.b,uv x.c,uv x.d]]⟩) ?_ ?_
 ·skip
  refine zbe Wb (r_b 13 ((13,pv 0 0)::(12,pv 0 0)::(11,uv (ad q.a q.b))::(10,uv q.b)::(9,pv 0 1)::(8,pv 0 0)::(7,pv 0 0)::(6,uv q.a)::(wJ 5 0 0 4 0 3 0 2 0)) [cw [uv (ad q.a q.b),uv q.b,uv q.c,uv q.d]] (za3 (⟨⟨reg vo,[cw [uv (x8 q).a,uv (x8 q).b,uv (x8 q).c,uv (x8 q).d]]⟩, ?_⟩)))
  refine ⟨?_, ?_⟩
  ·exact Wk.ren [0] rfl rfl dC ⟨rfl,trivial⟩ ⟨.inl rfl,trivial⟩
  ·exact ⟨(x8 q),rfl,rfl,rfl⟩
 rintro s ⟨x,-,hx,rfl⟩
 refine zf2 (fun s=> ∃(x:Q4),0=0∧(x=rs2 q)∧s=⟨reg vo,[cw [uv x.a,uv x.b,uv x.c,uv x.d]]⟩) ?_ ?_
 ·skip
  refine zbe Wb (r_d 5 ((18,uv x.b)::(wJ 17 0 1 16 0 15 0 14 0)) (zeJ (zba (left13C x.b) rfl rfl rfl (r_b 8 [(26,pv 0 1),(25,pv 0 0),(24,uv (xo (zbb 8192 2251799813685248 x.b) x.a)),(23,uv x.a),(22,pv 0 0),(21,pv 0 0),(20,pv 0 0)] [cw [uv x.a,uv (xo (zbb 8192 2251799813685248 x.b) x.a),uv x.c,uv x.d]] (za3 (⟨⟨reg vo,[cw [uv (Q4.mk x.a (xo (zbb 8192 2251799813685248 x.b) x.a) x.c x.d).a,uv (Q4.mk x.a (xo (zbb 8192 2251799813685248 x.b) x.a) x.c x.d).b,uv (Q4.mk x.a (xo (zbb 8192 2251799813685248 x.b) x.a) x.c x.d).c,uv (Q4.mk x.a (xo (zbb 8192 2251799813685248 x.b) x.a) x.c x.d).d]]⟩, ?_⟩))))))
  refine ⟨?_, ?_⟩
  ·exact Wk.ren [0] rfl rfl dC ⟨rfl,trivial⟩ ⟨.inl rfl,trivial⟩
  ·exact ⟨(Q4.mk x.a (xo (zbb 8192 2251799813685248 x.b) x.a) x.c x.d),rfl,(by rw [hx];rfl),rfl⟩
 rintro s ⟨x,-,hx,rfl⟩
 refine zf2 (fun s=> ∃(x:Q4),0=0∧(x=rs3 q)∧s=⟨reg vo,[cw [uv x.a,uv x.b,uv x.c,uv x.d]]⟩) ?_ ?_
 ·skip
  refine zN (o_d 5 ((31,uv x.a)::(wJ 30 0 0 29 0 28 0 27 0)) (qV (zab (left32C x.a) rfl rfl rfl (o_b 3 [(34,pv 0 0),(33,pv 0 0)] [cw [uv (zbb 4294967296 4294967296 x.a),uv x.b,uv x.c,uv x.d]] (zE (⟨⟨reg vo,[cw [uv (Q4.mk (zbb 4294967296 4294967296 x.a) x.b x.c x.d).a,uv (Q4.mk (zbb 4294967296 4294967296 x.a) x.b x.c x.d).b,uv (Q4.mk (zbb 4294967296 4294967296 x.a) x.b x.c x.d).c,uv (Q4.mk (zbb 4294967296 4294967296 x.a) x.b x.c x.d).d]]⟩, ?_⟩))))))
  refine ⟨?_, ?_⟩
  ·exact Wk.ren [0] rfl rfl dC ⟨rfl,trivial⟩ ⟨.inl rfl,trivial⟩
  ·exact ⟨(Q4.mk (zbb 4294967296 4294967296 x.a) x.b x.c x.d),rfl,(by rw [hx];rfl),rfl⟩
 rintro s ⟨x,-,hx,rfl⟩
 refine zf2 (fun s=> ∃(x:Q4),0=0∧(x=rs4 q)∧s=⟨reg vo,[cw [uv x.a,uv x.b,uv x.c,uv x.d]]⟩) ?_ ?_
 ·skip
  refine zbe Wb (r_b 13 ((46,pv 0 2)::(45,pv 0 0)::(44,uv (ad x.c x.d))::(43,uv x.d)::(42,pv 0 3)::(41,pv 0 0)::(40,pv 0 0)::(39,uv x.c)::(wJ 38 0 2 37 0 36 0 35 0)) [cw [uv x.a,uv x.b,uv (ad x.c x.d),uv x.d]] (za3 (⟨⟨reg vo,[cw [uv (Q4.mk x.a x.b (ad x.c x.d) x.d).a,uv (Q4.mk x.a x.b (ad x.c x.d) x.d).b,uv (Q4.mk x.a x.b (ad x.c x.d) x.d).c,uv (Q4.mk x.a x.b (ad x.c x.d) x.d).d]]⟩, ?_⟩)))
  refine ⟨?_, ?_⟩
  ·exact Wk.ren [0] rfl rfl dC ⟨rfl,trivial⟩ ⟨.inl rfl,trivial⟩
  ·exact ⟨(Q4.mk x.a x.b (ad x.c x.d) x.d),rfl,(by rw [hx];rfl),rfl⟩
 rintro s ⟨x,-,hx,rfl⟩
 refine zf2 (fun s=> ∃(x:Q4),0=0∧(x=rs5 q)∧s=⟨reg vo,[cw [uv x.a,uv x.b,uv x.c,uv x.d]]⟩) ?_ ?_
 ·skip
  refine zbe Wb (r_d 5 ((51,uv x.d)::(wJ 50 0 3 49 0 48 0 47 0)) (zeJ (zba (left16C x.d) rfl rfl rfl (r_b 8 [(59,pv 0 3),(58,pv 0 0),(57,uv (xo (zbb 65536 281474976710656 x.d) x.c)),(56,uv x.c),(55,pv 0 2),(54,pv 0 0),(53,pv 0 0)] [cw [uv x.a,uv x.b,uv x.c,uv (xo (zbb 65536 281474976710656 x.d) x.c)]] (za3 (⟨⟨reg vo,[cw [uv (Q4.mk x.a x.b x.c (xo (zbb 65536 281474976710656 x.d) x.c)).a,uv (Q4.mk x.a x.b x.c (xo (zbb 65536 281474976710656 x.d) x.c)).b,uv (Q4.mk x.a x.b x.c (xo (zbb 65536 281474976710656 x.d) x.c)).c,uv (Q4.mk x.a x.b x.c (xo (zbb 65536 281474976710656 x.d) x.c)).d]]⟩, ?_⟩))))))
  refine ⟨?_, ?_⟩
  ·exact Wk.ren [0] rfl rfl dC ⟨rfl,trivial⟩ ⟨.inl rfl,trivial⟩
  ·exact ⟨(Q4.mk x.a x.b x.c (xo (zbb 65536 281474976710656 x.d) x.c)),rfl,(by rw [hx];rfl),rfl⟩
 rintro s ⟨x,-,hx,rfl⟩
 refine zf2 (fun s=> ∃(x:Q4),0=0∧(x=rs6 q)∧s=⟨reg vo,[cw [uv x.a,uv x.b,uv x.c,uv x.d]]⟩) ?_ ?_
 ·skip
  refine zbe Wb (r_b 13 ((71,pv 0 0)::(70,pv 0 0)::(69,uv (ad x.a x.d))::(68,uv x.d)::(67,pv 0 3)::(66,pv 0 0)::(65,pv 0 0)::(64,uv x.a)::(wJ 63 0 0 62 0 61 0 60 0)) [cw [uv (ad x.a x.d),uv x.b,uv x.c,uv x.d]] (za3 (⟨⟨reg vo,[cw [uv (Q4.mk (ad x.a x.d) x.b x.c x.d).a,uv (Q4.mk (ad x.a x.d) x.b x.c x.d).b,uv (Q4.mk (ad x.a x.d) x.b x.c x.d).c,uv (Q4.mk (ad x.a x.d) x.b x.c x.d).d]]⟩, ?_⟩)))
  refine ⟨?_, ?_⟩
  ·exact Wk.ren [0] rfl rfl dC ⟨rfl,trivial⟩ ⟨.inl rfl,trivial⟩
  ·exact ⟨(Q4.mk (ad x.a x.d) x.b x.c x.d),rfl,(by rw [hx];rfl),rfl⟩
 rintro s ⟨x,-,hx,rfl⟩
 refine zf2 (fun s=> ∃(x:Q4),0=0∧(x=rs7 q)∧s=⟨reg vo,[cw [uv x.a,uv x.b,uv x.c,uv x.d]]⟩) ?_ ?_
 ·skip
  refine zbe Wb (r_d 5 ((76,uv x.d)::(wJ 75 0 3 74 0 73 0 72 0)) (zeJ (zba (left21C x.d) rfl rfl rfl (r_b 8 [(84,pv 0 3),(83,pv 0 0),(82,uv (xo (zbb 2097152 8796093022208 x.d) x.a)),(81,uv x.a),(80,pv 0 0),(79,pv 0 0),(78,pv 0 0)] [cw [uv x.a,uv x.b,uv x.c,uv (xo (zbb 2097152 8796093022208 x.d) x.a)]] (za3 (⟨⟨reg vo,[cw [uv (Q4.mk x.a x.b x.c (xo (zbb 2097152 8796093022208 x.d) x.a)).a,uv (Q4.mk x.a x.b x.c (xo (zbb 2097152 8796093022208 x.d) x.a)).b,uv (Q4.mk x.a x.b x.c (xo (zbb 2097152 8796093022208 x.d) x.a)).c,uv (Q4.mk x.a x.b x.c (xo (zbb 2097152 8796093022208 x.d) x.a)).d]]⟩, ?_⟩))))))
  refine ⟨?_, ?_⟩
  ·exact Wk.ren [0] rfl rfl dC ⟨rfl,trivial⟩ ⟨.inl rfl,trivial⟩
  ·exact ⟨(Q4.mk x.a x.b x.c (xo (zbb 2097152 8796093022208 x.d) x.a)),rfl,(by rw [hx];rfl),rfl⟩
 rintro s ⟨x,-,hx,rfl⟩
 refine zf2 (fun s=> ∃(x:Q4),0=0∧(x=rs8 q)∧s=⟨reg vo,[cw [uv x.a,uv x.b,uv x.c,uv x.d]]⟩) ?_ ?_
 ·skip
  refine zbe Wb (r_b 13 ((96,pv 0 2)::(95,pv 0 0)::(94,uv (ad x.c x.b))::(93,uv x.b)::(92,pv 0 1)::(91,pv 0 0)::(90,pv 0 0)::(89,uv x.c)::(wJ 88 0 2 87 0 86 0 85 0)) [cw [uv x.a,uv x.b,uv (ad x.c x.b),uv x.d]] (za3 (⟨⟨reg vo,[cw [uv (Q4.mk x.a x.b (ad x.c x.b) x.d).a,uv (Q4.mk x.a x.b (ad x.c x.b) x.d).b,uv (Q4.mk x.a x.b (ad x.c x.b) x.d).c,uv (Q4.mk x.a x.b (ad x.c x.b) x.d).d]]⟩, ?_⟩)))
  refine ⟨?_, ?_⟩
  ·exact Wk.ren [0] rfl rfl dC ⟨rfl,trivial⟩ ⟨.inl rfl,trivial⟩
  ·exact ⟨(Q4.mk x.a x.b (ad x.c x.b) x.d),rfl,(by rw [hx];rfl),rfl⟩
 rintro s ⟨x,-,hx,rfl⟩
 refine zf2 (fun s=> ∃(x:Q4),0=0∧(x=rs9 q)∧s=⟨reg vo,[cw [uv x.a,uv x.b,uv x.c,uv x.d]]⟩) ?_ ?_
 ·skip
  refine zbe Wb (r_d 5 ((101,uv x.b)::(wJ 100 0 1 99 0 98 0 97 0)) (zeJ (zba (left17C x.b) rfl rfl rfl (r_b 8 [(109,pv 0 1),(108,pv 0 0),(107,uv (xo (zbb 131072 140737488355328 x.b) x.c)),(106,uv x.c),(105,pv 0 2),(104,pv 0 0),(103,pv 0 0)] [cw [uv x.a,uv (xo (zbb 131072 140737488355328 x.b) x.c),uv x.c,uv x.d]] (za3 (⟨⟨reg vo,[cw [uv (Q4.mk x.a (xo (zbb 131072 140737488355328 x.b) x.c) x.c x.d).a,uv (Q4.mk x.a (xo (zbb 131072 140737488355328 x.b) x.c) x.c x.d).b,uv (Q4.mk x.a (xo (zbb 131072 140737488355328 x.b) x.c) x.c x.d).c,uv (Q4.mk x.a (xo (zbb 131072 140737488355328 x.b) x.c) x.c x.d).d]]⟩, ?_⟩))))))
  refine ⟨?_, ?_⟩
  ·exact Wk.ren [0] rfl rfl dC ⟨rfl,trivial⟩ ⟨.inl rfl,trivial⟩
  ·exact ⟨(Q4.mk x.a (xo (zbb 131072 140737488355328 x.b) x.c) x.c x.d),rfl,(by rw [hx];rfl),rfl⟩
 rintro s ⟨x,-,hx,rfl⟩
 exact zN (o_d 5 ((114,uv x.c)::(wJ 113 0 2 112 0 111 0 110 0)) (qV (zab (left32C x.c) rfl rfl rfl (o_b 3 [(117,pv 0 2),(116,pv 0 0)] [cw [uv x.a,uv x.b,uv (zbb 4294967296 4294967296 x.c),uv x.d]] (zE (⟨trivial,⟨reg [],[cw [uv x.a,uv x.b,uv (zbb 4294967296 4294967296 x.c),uv x.d]]⟩,Wk.ren [0] rfl rfl dC trivial ⟨.inl rfl,trivial⟩,[],rfl,z5,(by rfl),(by rw [hx];rfl)⟩))))))
end Go.Rh

set_option maxHeartbeats 8000000
namespace Go.Rh
def rnds:Nat→Q4→Q4
 | 0,q=>q
 | n+1,q=>zdI (rnds n q)
def zcW (m:Int) (q:Q4):Q4:=let x:=rnds 2 ⟨q.a,q.b,q.c,xo q.d m⟩;⟨xo x.a m,x.b,x.c,x.d⟩
theorem takeS_eq {m:Int} {q y:Q4} (h:rnds 2 (Q4.mk q.a q.b q.c (xo q.d m))=y):zcW m q=⟨xo y.a m,y.b,y.c,y.d⟩:=by subst h;rfl
theorem rnds2 {q y z:Q4} (h1:zdI q=y) (h2:zdI y=z):rnds 2 q=z:=by subst h1;subst h2;rfl
def numT (l:List Int):Nat→Int
 | 0=>0
 | i+1=>oo (numT l i) (sl (l.getD i 0 % 256) (8*(i:Int)))
def zey (l:List Int):Int:=numT l (min l.length 8)
theorem mul8 {i:Nat} (h:i < 1000):IntKind.u64.wrap (8*((i:Int) % 18446744073709551616))=8*(i:Int):=by
 show (8*((i:Int) % 18446744073709551616)) % 18446744073709551616=_;omega
theorem roundsC {P:Program} [PrC P] (q:Q4) (n:Nat) (hn:n≤1000):
    Env P "(*roundhouse/sip.state).rounds" [pv 0 0,iv (n:Nat)] ([cw [uv q.a,uv q.b,uv q.c,uv q.d]]) (fun v h'=>v= .tuple #[]∧h'= [cw (q4L (rnds n q))]):=by
 refine Env.by2 PrC.sip_state_rounds ?_
 unfold zdP
 show GC _ 1 _ _ ⟨reg [(0,pv 0 0),(1,iv (n:Nat))],[cw [uv q.a,uv q.b,uv q.c,uv q.d]]⟩
 refine zJ (zN (o_d 2 [(5,iv 0),(4,iv (n:Nat))] (zE (zA (qU (zcs (fun μ s=> ∃(i:Nat),∃(x:Q4),μ=n - i∧(i≤n)∧(x=rnds i q)∧s=⟨reg [(5,iv (i:Int)),(4,iv (n:Nat)),(0,pv 0 0)],[cw [uv x.a,uv x.b,uv x.c,uv x.d]]⟩) ⟨(n - 0), ?_⟩ ?_))))))
 ·skip
  refine ⟨⟨reg [(5,iv (0:Int)),(4,iv (n:Nat)),(0,pv 0 0)],[cw [uv q.a,uv q.b,uv q.c,uv q.d]]⟩, ?_⟩
  refine ⟨?_, ?_⟩
  ·exact Wk.ren [0] rfl rfl dC ⟨rfl,rfl,rfl,trivial⟩ ⟨.inl rfl,trivial⟩
  ·exact ⟨0,q,rfl,(Nat.zero_le _),rfl,rfl⟩
 rintro μ s ⟨i,x,rfl,hi,hx,rfl⟩
 refine zJ (zN (o_d 1 [(6,bv (decide ((i:Int) < (n:Nat))))] (zE (zA (zJ (qJ (t:=decide ((i:Int) < (n:Nat))) rfl (fun h1=>?_) (fun h1=>?_)))))))
 ·skip
  have h1':(i:Int) < (n:Nat):=of_decide_eq_true h1
  refine qK (zA (zJ (qU (zN (o_d 1 [(7,pv 0 0)] (qV (zct [0] [cw [uv x.a,uv x.b,uv x.c,uv x.d]] [pv 0 0] (roundC x) rfl rfl ⟨⟨_,rfl,zaC rfl (fun q=>rfl)⟩,trivial⟩ dC ?_)))))))
  rintro v1 h1' ⟨rfl,rfl⟩
  refine ⟨.tuple #[],[cw [uv ((zdI x).a),uv ((zdI x).b),uv ((zdI x).c),uv ((zdI x).d)]],[],(by simp [zaF]),⟨rfl,trivial⟩,trivial, ?_⟩
  generalize hy2:zdI x=y2
  refine zE (zA (zN (o_s (by refine zK (v:= .int .i64 (i64.wrap ((i:Int)+1))) (congrArg (Value.int .i64) (w64 om om)) ?_;kernel_rfl) ?_)))
  refine o_d 1 [(5,iv ((i:Int)+1))] (zE (⟨n - (i+1), ?_⟩))
  refine ⟨⟨reg [(5,iv ((i+1):Int)),(4,iv (n:Nat)),(0,pv 0 0)],[cw [uv y2.a,uv y2.b,uv y2.c,uv y2.d]]⟩, ?_⟩
  refine zde om ⟨?_, ?_⟩
  ·exact Wk.ren [0] rfl rfl dC ⟨rfl,rfl,rfl,trivial⟩ ⟨.inl rfl,trivial⟩
  ·exact ⟨(i+1),y2,rfl,om,(by rw [←hy2,hx];rfl),rfl⟩
 have h1': ¬((i:Int) < (n:Nat)):=of_decide_eq_false h1
 exact zb1 (⟨trivial,⟨reg [],[cw [uv x.a,uv x.b,uv x.c,uv x.d]]⟩,Wk.ren [0] rfl rfl dC trivial ⟨.inl rfl,trivial⟩,[],rfl,z5,rfl,(by rw [hx,show i=n by omega];rfl)⟩)
theorem takeC {P:Program} [PrC P] (q:Q4) (m:Int):
    Env P "(*roundhouse/sip.state).take" [pv 0 0,uv m] ([cw [uv q.a,uv q.b,uv q.c,uv q.d]]) (fun v h'=>v= .tuple #[]∧h'= [cw (q4L (zcW m q))]):=by
 refine Env.by2 PrC.sip_state_take ?_
 unfold zeG
 show GC _ 1 _ _ ⟨reg [(0,pv 0 0),(1,uv m)],[cw [uv q.a,uv q.b,uv q.c,uv q.d]]⟩
 refine zJ (zN (o_b 9 [(11,pv 0 3),(10,pv 0 0),(9,uv (xo q.d m)),(8,uv m),(7,uv q.d),(6,pv 0 3),(5,pv 0 0),(4,pv 0 0)] [cw [uv q.a,uv q.b,uv q.c,uv (xo q.d m)]] (zE (zA (zJ (zN (o_d 1 [(12,pv 0 0)] (qV (zct [0] [cw [uv q.a,uv q.b,uv q.c,uv (xo q.d m)]] [pv 0 0,iv 2] (roundsC (Q4.mk q.a q.b q.c (xo q.d m)) 2 dC) rfl rfl ⟨⟨_,rfl,zaC rfl (fun q=>rfl)⟩,trivial⟩ dC ?_)))))))))
 rintro v1 h1' ⟨rfl,rfl⟩
 refine ⟨.tuple #[],[cw [uv ((rnds 2 (Q4.mk q.a q.b q.c (xo q.d m))).a),uv ((rnds 2 (Q4.mk q.a q.b q.c (xo q.d m))).b),uv ((rnds 2 (Q4.mk q.a q.b q.c (xo q.d m))).c),uv ((rnds 2 (Q4.mk q.a q.b q.c (xo q.d m))).d)]],[],(by simp [zaF]),⟨rfl,trivial⟩,trivial, ?_⟩
 generalize hy1:rnds 2 (Q4.mk q.a q.b q.c (xo q.d m))=y1
 exact zE (zA (zN (o_b 9 [(21,pv 0 0),(20,pv 0 0),(19,uv (xo y1.a m)),(18,uv m),(17,uv y1.a),(16,pv 0 0),(15,pv 0 0),(14,pv 0 0)] [cw [uv (xo y1.a m),uv y1.b,uv y1.c,uv y1.d]] (zE (⟨trivial,⟨reg [],[cw [uv (xo y1.a m),uv y1.b,uv y1.c,uv y1.d]]⟩,Wk.ren [0] rfl rfl dC trivial ⟨.inl rfl,trivial⟩,[],rfl,z5,rfl,(by rw [takeS_eq hy1];rfl)⟩)))))
theorem refEatC {P:Program} [PrC P] (q:Q4) (m:Int):
    Env P "(*roundhouse/roundhouseref2.state).eat" [pv 0 0,uv m] ([cw [uv q.a,uv q.b,uv q.c,uv q.d]]) (fun v h'=>v= .tuple #[]∧h'= [cw (q4L (zcW m q))]):=by
 refine Env.by2 PrC.ref2_state_eat ?_
 unfold zeH
 show GC _ 1 _ _ ⟨reg [(0,pv 0 0),(1,uv m)],[cw [uv q.a,uv q.b,uv q.c,uv q.d]]⟩
 refine zJ (zN (o_b 10 ((12,pv 0 3)::(11,pv 0 0)::(10,uv (xo q.d m))::(9,uv m)::(8,uv q.d)::(wJ 7 0 3 6 0 5 0 4 0)) [cw [uv q.a,uv q.b,uv q.c,uv (xo q.d m)]] (zE (zA (zJ (zN (o_d 1 [(13,pv 0 0)] (qV (zct [0] [cw [uv q.a,uv q.b,uv q.c,uv (xo q.d m)]] [pv 0 0] (zd7 (Q4.mk q.a q.b q.c (xo q.d m))) rfl rfl ⟨⟨_,rfl,zaC rfl (fun q=>rfl)⟩,trivial⟩ dC ?_)))))))))
 rintro v1 h1' ⟨rfl,rfl⟩
 refine ⟨.tuple #[],[cw [uv ((zdI (Q4.mk q.a q.b q.c (xo q.d m))).a),uv ((zdI (Q4.mk q.a q.b q.c (xo q.d m))).b),uv ((zdI (Q4.mk q.a q.b q.c (xo q.d m))).c),uv ((zdI (Q4.mk q.a q.b q.c (xo q.d m))).d)]],[],(by simp [zaF]),⟨rfl,trivial⟩,trivial, ?_⟩
 generalize hy1:zdI (Q4.mk q.a q.b q.c (xo q.d m))=y1
 refine zE (zA (zJ (zN (o_d 1 [(15,pv 0 0)] (qV (zct [0] [cw [uv y1.a,uv y1.b,uv y1.c,uv y1.d]] [pv 0 0] (zd7 y1) rfl rfl ⟨⟨_,rfl,zaC rfl (fun q=>rfl)⟩,trivial⟩ dC ?_))))))
 rintro v1 h1' ⟨rfl,rfl⟩
 refine ⟨.tuple #[],[cw [uv ((zdI y1).a),uv ((zdI y1).b),uv ((zdI y1).c),uv ((zdI y1).d)]],[],(by simp [zaF]),⟨rfl,trivial⟩,trivial, ?_⟩
 generalize hy2:zdI y1=y2
 exact zE (zA (zN (o_b 10 ((25,pv 0 0)::(24,pv 0 0)::(23,uv (xo y2.a m))::(22,uv m)::(21,uv y2.a)::(wJ 20 0 0 19 0 18 0 17 0)) [cw [uv (xo y2.a m),uv y2.b,uv y2.c,uv y2.d]] (zE (⟨trivial,⟨reg [],[cw [uv (xo y2.a m),uv y2.b,uv y2.c,uv y2.d]]⟩,Wk.ren [0] rfl rfl dC trivial ⟨.inl rfl,trivial⟩,[],rfl,z5,rfl,(by rw [takeS_eq (rnds2 hy1 hy2)];rfl)⟩)))))
abbrev Yb:=(Value.int .u64)
theorem numberC {P:Program} [PrC P] (q:Option (Nat×Nat)) (L l:List Int) (hr:RowOf q L l) (hl:l.length≤100000):
    Env P "roundhouse/sip.number[[]byte]" (WO q l) ((wA q L)) (fun v h'=>v=uv (zey l)∧h'= (wA q L)):=by
 refine Env.by2 PrC.sip_number_byte ?_
 unfold zej
 show GC _ 1 _ _ ⟨reg (vF 0 q 0 l),(wA q L)⟩
 refine zJ (zN (o_d 1 [(2,uv 0)] (zE (zA (zJ (zN (o_d 1 [(3,uv 0)] (zE (zA (zJ (zJ (zN ?_))))))))))))
 refine o_d 1 (vF 5 q 0 l) (o_s (by exact qM rfl hr.nil) ?_)
 refine o_d 2 [(8,iv 0),(7,iv (if (8:Int) < ((l.length:Nat):Int) then (8:Int) else ((l.length:Nat):Int)))] (zE (zA (qU (zcs (fun μ s=> ∃(i:Nat),∃(x:Int),μ=8 - i∧(i≤l.length∧i≤8)∧(x=numT l i)∧s=⟨reg [(8,iv (i:Int)),(7,iv (if (8:Int) < ((l.length:Nat):Int) then (8:Int) else ((l.length:Nat):Int))),(3,uv x),(0,zS q 0 l.length)],(wA q L)⟩) ⟨(8 - 0), ?_⟩ ?_))))
 ·skip
  refine ⟨⟨reg [(8,iv (0:Int)),(7,iv (if (8:Int) < ((l.length:Nat):Int) then (8:Int) else ((l.length:Nat):Int))),(3,uv 0),(0,zS q 0 l.length)],(wA q L)⟩, ?_⟩
  refine ⟨?_, ?_⟩
  ·exact Wk.ren [0] rfl rfl dC ⟨rfl,rfl,rfl,((qG rfl)).trans rfl,trivial⟩ ⟨.inl (zF (zH _)),trivial⟩
  ·exact ⟨0,0,rfl,⟨Nat.zero_le _,Nat.zero_le _⟩,rfl,rfl⟩
 rintro μ s ⟨i,x,rfl,hi,hx,rfl⟩
 refine zJ (zN (o_d 1 [(9,bv (decide ((i:Int) < (if (8:Int) < ((l.length:Nat):Int) then (8:Int) else ((l.length:Nat):Int)))))] (zE (zA (zJ (qJ (t:=decide ((i:Int) < (if (8:Int) < ((l.length:Nat):Int) then (8:Int) else ((l.length:Nat):Int)))) rfl (fun h1=>?_) (fun h1=>?_)))))))
 ·skip
  have h1':(i:Int) < (if (8:Int) < ((l.length:Nat):Int) then (8:Int) else ((l.length:Nat):Int)):=of_decide_eq_true h1
  have h9:i < l.length∧i < 8:=by split at h1'<;>omega
  refine qK (zA (zJ (qU (zJ (zN (o_d 2 [(4,iv (i:Int)),(10,iv (i:Int))] (zE (zA (zN (o_d 3 [(13,iv (i:Int)),(12,zS q 0 l.length),(11,uv x)] (o_s (by exact qP (o':=qo q+i) rfl hr.nil rfl om om) ?_)))))))))))
  refine o_s (by refine zV (v:= .int .u8 (l.getD i 0 % 256)) rfl (zbj (n:=l.length) rfl rfl hr.nil om) ?_;exact zb5 hr om rfl) ?_
  refine o_s (by refine zK (v:= .int .u64 (IntKind.u64.wrap (l.getD i 0 % 256))) (congrArg Yb (wrap_u64 om)) ?_;kernel_rfl) ?_
  refine o_d 1 [(17,iv (i:Int))] (o_s (by refine zK (v:= .int .i64 (i64.wrap (8*(i:Int)))) (congrArg wg (w64 om om)) ?_;kernel_rfl) ?_)
  refine o_d 3 [(3,uv (oo x (sl (l.getD i 0 % 256) (8*(i:Int))))),(20,uv (oo x (sl (l.getD i 0 % 256) (8*(i:Int))))),(19,uv (sl (l.getD i 0 % 256) (8*(i:Int))))] (zE (zA (zN (o_s (by refine zK (v:= .int .i64 (i64.wrap ((i:Int)+1))) (congrArg wg (w64 om om)) ?_;kernel_rfl) ?_))))
  refine o_d 1 [(8,iv ((i:Int)+1))] (zE (⟨8 - (i+1), ?_⟩))
  refine ⟨⟨reg [(8,iv ((i+1):Int)),(7,iv (if (8:Int) < ((l.length:Nat):Int) then (8:Int) else ((l.length:Nat):Int))),(3,uv (oo x (sl (l.getD i 0 % 256) (8*(i:Int))))),(0,zS q 0 l.length)],(wA q L)⟩, ?_⟩
  refine zde om ⟨?_, ?_⟩
  ·exact Wk.ren [0] rfl rfl dC ⟨rfl,rfl,rfl,((qG rfl)).trans rfl,trivial⟩ ⟨.inl (zF (zH _)),trivial⟩
  ·exact ⟨(i+1),(oo x (sl (l.getD i 0 % 256) (8*(i:Int)))),rfl,om,(by rw [hx];rfl),rfl⟩
 have h1': ¬((i:Int) < (if (8:Int) < ((l.length:Nat):Int) then (8:Int) else ((l.length:Nat):Int))):=of_decide_eq_false h1
 have h9: ¬(i < l.length∧i < 8):=by split at h1'<;>omega
 refine zb1 (zA (zJ (zN (o_d 2 [(2,uv x),(22,uv x)] (zE (zA (qW ?_)))))))
 have hi9:True:=trivial
 exact ⟨trivial,⟨reg [(2,uv x)],(wA q L)⟩,Wk.ren [0] rfl rfl dC ⟨rfl,trivial⟩ ⟨.inl (zF (zH _)),trivial⟩,[uv x],(zT rfl rfl),(zM rfl z5),(congrArg Yb (hx.trans (congrArg (numT l) (by omega:i=min l.length 8)))),rfl⟩
theorem lowC {P:Program} [PrC P] (q:Option (Nat×Nat)) (L l:List Int) (hr:RowOf q L l) (hl:l.length≤8):
    Env P "roundhouse/roundhouseref2.low" (WO q l) ((wA q L)) (fun v h'=>v=uv (zey l)∧h'= (wA q L)):=by
 refine Env.by2 PrC.ref2_low ?_
 unfold zjQ
 show GC _ 1 _ _ ⟨reg (vF 0 q 0 l),(wA q L)⟩
 refine zJ (zN (o_d 1 [(2,uv 0)] (zE (zA (zJ (zN (o_d 1 [(3,uv 0)] (zE (zA (zJ (zJ (zN ?_))))))))))))
 refine o_d 1 [(4,iv 0)] (zE (zA (qU (zcs (fun μ s=> ∃(i:Nat),∃(x:Int),μ=l.length - i∧(i≤l.length)∧(x=numT l i)∧s=⟨reg [(4,iv (i:Int)),(3,uv x),(0,zS q 0 l.length)],(wA q L)⟩) ⟨(l.length - 0), ?_⟩ ?_))))
 ·skip
  refine ⟨⟨reg [(4,iv (0:Int)),(3,uv 0),(0,zS q 0 l.length)],(wA q L)⟩, ?_⟩
  refine ⟨?_, ?_⟩
  ·exact Wk.ren [0] rfl rfl dC ⟨rfl,rfl,((qG rfl)).trans rfl,trivial⟩ ⟨.inl (zF (zH _)),trivial⟩
  ·exact ⟨0,0,rfl,(Nat.zero_le _),rfl,rfl⟩
 rintro μ s ⟨i,x,rfl,hi,hx,rfl⟩
 refine zJ (zJ (zN (o_d 2 [(6,zS q 0 l.length),(5,iv (i:Int))] (o_s (by exact qM rfl hr.nil) ?_))))
 refine o_d 1 [(8,bv (decide ((i:Int) < (l.length:Nat))))] (zE (zA (qJ (t:=decide ((i:Int) < (l.length:Nat))) rfl (fun h1=>?_) (fun h1=>?_))))
 ·skip
  have h1':(i:Int) < (l.length:Nat):=of_decide_eq_true h1
  refine qK (zA (zJ (qU (zN (o_d 3 [(13,iv (i:Int)),(12,zS q 0 l.length),(11,uv x)] (o_s (by exact qP (o':=qo q+i) rfl hr.nil rfl om om) ?_))))))
  refine o_s (by refine zV (v:= .int .u8 (l.getD i 0 % 256)) rfl (zbj (n:=l.length) rfl rfl hr.nil om) ?_;exact zb5 hr om rfl) ?_
  refine o_s (by refine zK (v:= .int .u64 (IntKind.u64.wrap (l.getD i 0 % 256))) (congrArg Yb (wrap_u64 om)) ?_;kernel_rfl) ?_
  refine o_d 6 [(3,uv (oo x (sl (l.getD i 0 % 256) (IntKind.u64.wrap (8*((i:Int) % 18446744073709551616)))))),(21,uv (oo x (sl (l.getD i 0 % 256) (IntKind.u64.wrap (8*((i:Int) % 18446744073709551616)))))),(20,uv (sl (l.getD i 0 % 256) (IntKind.u64.wrap (8*((i:Int) % 18446744073709551616))))),(19,uv (IntKind.u64.wrap (8*((i:Int) % 18446744073709551616)))),(18,uv ((i:Int) % 18446744073709551616)),(17,iv (i:Int))] (zE (zA (zN (o_d 1 [(9,iv (i:Int))] (o_s (by refine zK (v:= .int .i64 (i64.wrap ((i:Int)+1))) (congrArg wg (w64 om om)) ?_;kernel_rfl) ?_)))))
  refine o_d 1 [(4,iv ((i:Int)+1))] (zE (⟨l.length - (i+1), ?_⟩))
  refine ⟨⟨reg [(4,iv ((i+1):Int)),(3,uv (oo x (sl (l.getD i 0 % 256) (IntKind.u64.wrap (8*((i:Int) % 18446744073709551616)))))),(0,zS q 0 l.length)],(wA q L)⟩, ?_⟩
  refine zde om ⟨?_, ?_⟩
  ·exact Wk.ren [0] rfl rfl dC ⟨rfl,rfl,((qG rfl)).trans rfl,trivial⟩ ⟨.inl (zF (zH _)),trivial⟩
  ·exact ⟨(i+1),(oo x (sl (l.getD i 0 % 256) (IntKind.u64.wrap (8*((i:Int) % 18446744073709551616))))),rfl,om,(by rw [hx,mul8 om];rfl),rfl⟩
 have h1': ¬((i:Int) < (l.length:Nat)):=of_decide_eq_false h1
 exact zb1 (zA (zJ (zN (o_d 2 [(2,uv x),(22,uv x)] (zE (zA (qW (⟨trivial,⟨reg [(2,uv x)],(wA q L)⟩,Wk.ren [0] rfl rfl dC ⟨rfl,trivial⟩ ⟨.inl (zF (zH _)),trivial⟩,[uv x],(zT rfl rfl),(zM rfl z5),(congrArg Yb (hx.trans (congrArg (numT l) (by omega:i=min l.length 8)))),rfl⟩))))))))
end Go.Rh

set_option maxHeartbeats 1000000
namespace Go.Rh
def sipT (l:List Int):Nat→Q4→Q4
 | 0,q=>q
 | i+1,q=>zcW (zey ((l.drop (8*i)).take 8)) (sipT l i q)
def c255 (y:Q4):Q4:=⟨y.a,y.b,xo y.c 255,y.d⟩
def fin4 (z:Q4):Int:=xo (xo (xo z.a z.b) z.c) z.d
def sip0 (ka kb:Int):Q4:=(Q4.mk (xo ka 8317987319222330741) (xo kb 7237128888997146477) (xo ka 7816392313619706465) (xo kb 8387220255154660723))
def ofS (ka kb:Int) (l:List Int):Int:=fin4 (rnds 4 (c255 (zcW (oo (zey (l.drop (8*(l.length / 8)))) (sl ((l.length:Int) % 18446744073709551616) 56)) (sipT l (l.length / 8) (sip0 ka kb)))))
theorem drop8 {l l2 l3:List Int} {i:Nat} (h:l2=l.drop (8*i)) (h3:l3=(l2.drop 8).take (l2.length - 8)):l3=l.drop (8*(i+1)):=by
 rw [h3,List.take_of_length_le (by simp),h,List.drop_drop];congr 1
theorem sl56 (n:Int):sl (n % 256 % 18446744073709551616) 56=sl (n % 18446744073709551616) 56:=by
 have e: ∀a,sl a 56=(a*72057594037927936) % 18446744073709551616:=fun a=>rfl
 rw [e,e];omega
theorem rnds4 {q y1 y2 y3 y4:Q4} (h1:zdI q=y1) (h2:zdI y1=y2) (h3:zdI y2=y3) (h4:zdI y3=y4):rnds 4 q=y4:=by subst h1;subst h2;subst h3;subst h4;rfl
theorem dropA {l l2:List Int} {a i:Nat} (ha:a=8*i) (h:l2=(l.drop a).take (l.length - a)):l2=l.drop (8*i):=by
 rw [h,ha,List.take_of_length_le (by simp)]
theorem ofS_eq {ka kb s:Int} {l l2:List Int} {i:Nat} {x y z:Q4} (hi:i=l.length / 8) (hx:x=sipT l i (Q4.mk (xo ka 8317987319222330741) (xo kb 7237128888997146477) (xo ka 7816392313619706465) (xo kb 8387220255154660723))) (hl:l2=l.drop (8*i)) (hs:s=sl ((l.length:Int) % 18446744073709551616) 56) (hy:zcW (oo (zey l2) s) x=y) (hz:rnds 4 (Q4.mk y.a y.b (xo y.c 255) y.d)=z):xo (xo (xo z.a z.b) z.c) z.d=ofS ka kb l:=by
 subst hi;subst hx;subst hl;subst hs;subst hy;subst hz;rfl
abbrev yu (a:Int) (b:Int):=(Q4.mk (xo a 8317987319222330741) (xo b 7237128888997146477) (xo a 7816392313619706465) (xo b 8387220255154660723))
theorem ofC {P:Program} [PrC P] (ka kb:Int) (q:Option (Nat×Nat)) (L l:List Int) (hr:RowOf q L l) (hl:l.length≤100000):
    Env P "roundhouse/sip.Of" [.agg #[uv ka,uv kb],zS q 0 l.length] ((wA q L)) (fun v h'=>v=uv (ofS ka kb l)∧h'= (wA q L)):=by
 refine Env.by2 PrC.sip_Of ?_
 unfold c_sip_Of
 show GC _ 1 _ _ ⟨reg [(0,.agg #[uv ka,uv kb]),(1,zS q 0 l.length)],(wA q L)⟩
 refine zJ (zN (o_b 2 [(4,uv 0),(2,pv 1 0)] [zG q (u8 L) false,cw [uv ka,uv kb]] (zE (zA (zJ (zN (o_b 15 [(5,pv 2 0),(20,pv 2 0),(19,.agg #[uv (xo ka 8317987319222330741),uv (xo kb 7237128888997146477),uv (xo ka 7816392313619706465),uv (xo kb 8387220255154660723)]),(18,uv (xo kb 8387220255154660723)),(17,uv kb),(16,pv 1 1),(15,uv (xo ka 7816392313619706465)),(14,uv ka),(13,pv 1 0),(12,uv (xo kb 7237128888997146477)),(11,uv kb),(10,pv 1 1),(9,uv (xo ka 8317987319222330741)),(8,uv ka),(7,pv 1 0)] [zG q (u8 L) false,cw [uv ka,uv kb],cw [uv (xo ka 8317987319222330741),uv (xo kb 7237128888997146477),uv (xo ka 7816392313619706465),uv (xo kb 8387220255154660723)]] (zE (zA (zJ (zN (o_d 2 [(6,zS q 0 l.length),(21,zS q 0 l.length)] ?_))))))))))))
 refine zE (zA (zJ (qU (zcs (fun μ s=> ∃(i:Nat),∃(q2:Option (Nat×Nat)),∃(l2:List Int),∃(x:Q4),μ=l.length - i∧(8*i≤l.length)∧(l2=l.drop (8*i))∧(x=sipT l i (yu ka kb))∧(RowOf q2 L l2)∧(q2.isSome=q.isSome)∧s=⟨reg [(6,zS q2 0 l2.length),(5,pv 2 0),(1,zS q 0 l.length)],[zG q (u8 L) false,cw [uv ka,uv kb],cw [uv x.a,uv x.b,uv x.c,uv x.d]]⟩) ⟨(l.length - 0), ?_⟩ ?_))))
 ·skip
  refine ⟨⟨reg [(6,zS q 0 l.length),(5,pv 2 0),(1,zS q 0 l.length)],[zG q (u8 L) false,cw [uv ka,uv kb],cw [uv (yu ka kb).a,uv (yu ka kb).b,uv (yu ka kb).c,uv (yu ka kb).d]]⟩, ?_⟩
  refine ⟨?_, ?_⟩
  ·exact Wk.ren [0,1,2] rfl rfl dC ⟨((qG rfl)).trans rfl,rfl,((qG rfl)).trans rfl,trivial⟩ ⟨.inl (zF (zH _)),.inl rfl,.inl rfl,trivial⟩
  ·exact ⟨0,q,l,(yu ka kb),rfl,om,rfl,rfl,hr,rfl,rfl⟩
 rintro μ s ⟨i,q2,l2,x,rfl,hi,hl2,hx,hr2,hs2,rfl⟩
 have hn2:l2.length=l.length - 8*i:=by rw [hl2];simp
 refine zJ (zJ (zN (o_d 1 (vF 22 q2 0 l2) (o_s (by exact qM rfl hr2.nil) ?_))))
 refine o_d 1 [(24,bv (decide (((l2.length:Nat):Int)≥8)))] (zE (zA (qJ (t:=decide (((l2.length:Nat):Int)≥8)) rfl (fun h1=>?_) (fun h1=>?_))))
 ·skip
  have h1':((l2.length:Nat):Int)≥8:=of_decide_eq_true h1
  refine qK (zA (qU (zJ (zN (o_d 2 [(26,zS q2 0 l2.length),(25,pv 2 0)] ?_)))))
  obtain ⟨qz2,lz2,hlz2,hn2z,hq2z,hr2z,hs2z⟩:=zca (k:=0) hr2 (lo:=none) (hi:=(some (iv 8))) (mx:=none) 0 8 om (.inl ⟨rfl,rfl⟩) (.inr rfl) (.inl rfl)
  have hs2y:=hs2z.trans hs2
  refine o_s (by exact zaN rfl hq2z) ?_
  refine qV (zaD [0] (wA qz2 L) (WO qz2 lz2) (numberC qz2 L lz2 hr2z om) rfl (zQ (qG rfl) rfl) ⟨⟨_,rfl,z4 (zH _) hs2y (fun q=>q)⟩,trivial⟩ dC ?_)
  rintro v1 h1' ⟨rfl,rfl⟩
  refine ⟨q9 [_] [],uv (zey lz2),[zG q (u8 L) false,cw [uv ka,uv kb],cw [uv x.a,uv x.b,uv x.c,uv x.d]],[],rfl,⟨(zaV hs2y rfl),rfl,rfl,trivial⟩,trivial, ?_⟩
  refine qV (zct [2] [cw [uv x.a,uv x.b,uv x.c,uv x.d]] [pv 0 0,uv (zey lz2)] (takeC x (zey lz2)) rfl rfl ⟨⟨_,rfl,zaC rfl (fun q=>rfl)⟩,trivial⟩ dC ?_)
  rintro v1 h1' ⟨rfl,rfl⟩
  refine ⟨.tuple #[],[zG q (u8 L) false,cw [uv ka,uv kb],cw [uv ((zcW (zey lz2) x).a),uv ((zcW (zey lz2) x).b),uv ((zcW (zey lz2) x).c),uv ((zcW (zey lz2) x).d)]],[],(by simp [zaF]),⟨rfl,rfl,rfl,trivial⟩,trivial, ?_⟩
  generalize hy3:zcW (zey lz2) x=y3
  refine zE (zA (zN (o_d 1 (vF 30 q2 0 l2) ?_)))
  obtain ⟨qz4,lz4,hlz4,hn4z,hq4z,hr4z,hs4z⟩:=zca (k:=0) hr2 (lo:=(some (iv 8))) (hi:=none) (mx:=none) 8 l2.length om (.inr rfl) (.inl ⟨rfl,rfl,rfl⟩) (.inl rfl)
  have hs4y:=hs4z.trans hs2
  refine o_s (by exact zaN rfl hq4z) ?_
  refine o_d 1 (vF 6 qz4 0 lz4) (zE (⟨l.length - (i+1), ?_⟩))
  refine ⟨⟨reg [(6,zS qz4 0 lz4.length),(5,pv 2 0),(1,zS q 0 l.length)],[zG q (u8 L) false,cw [uv ka,uv kb],cw [uv y3.a,uv y3.b,uv y3.c,uv y3.d]]⟩, ?_⟩
  refine zde om ⟨?_, ?_⟩
  ·exact Wk.ren [0,1,2] rfl rfl dC ⟨((qG rfl)).trans rfl,rfl,((qG rfl)).trans rfl,trivial⟩ ⟨.inl (zF (zH _)),.inl rfl,.inl rfl,trivial⟩
  ·exact ⟨(i+1),qz4,lz4,y3,rfl,om,(drop8 hl2 hlz4),(by rw [←hy3,hlz2,hx,hl2];rfl),hr4z,hs4y,rfl⟩
 have h1': ¬(((l2.length:Nat):Int)≥8):=of_decide_eq_false h1
 refine zb1 (zA (zJ (zN (o_d 2 [(33,zS q2 0 l2.length),(32,pv 2 0)] (qV (zaD [0] (wA q2 L) (WO q2 l2) (numberC q2 L l2 hr2 om) rfl (zQ (qG rfl) rfl) ⟨⟨_,rfl,z4 (zH _) hs2 (fun q=>q)⟩,trivial⟩ dC ?_))))))
 rintro v1 h1' ⟨rfl,rfl⟩
 refine ⟨q9 [_] [],uv (zey l2),[zG q (u8 L) false,cw [uv ka,uv kb],cw [uv x.a,uv x.b,uv x.c,uv x.d]],[],rfl,⟨(zaV hs2 rfl),rfl,rfl,trivial⟩,trivial, ?_⟩
 refine o_d 1 (vF 35 q 0 l) (o_s (by exact qM rfl hr.nil) ?_)
 refine o_d 3 [(39,uv (oo (zey l2) (sl (((l.length:Nat):Int) % 18446744073709551616) 56))),(38,uv (sl (((l.length:Nat):Int) % 18446744073709551616) 56)),(37,uv (((l.length:Nat):Int) % 18446744073709551616))] (qV (zct [2] [cw [uv x.a,uv x.b,uv x.c,uv x.d]] [pv 0 0,uv (oo (zey l2) (sl (((l.length:Nat):Int) % 18446744073709551616) 56))] (takeC x (oo (zey l2) (sl (((l.length:Nat):Int) % 18446744073709551616) 56))) rfl rfl ⟨⟨_,rfl,zaC rfl (fun q=>rfl)⟩,trivial⟩ dC ?_))
 rintro v1 h1' ⟨rfl,rfl⟩
 refine ⟨.tuple #[],[zG q (u8 L) false,cw [uv ka,uv kb],cw [uv ((zcW (oo (zey l2) (sl (((l.length:Nat):Int) % 18446744073709551616) 56)) x).a),uv ((zcW (oo (zey l2) (sl (((l.length:Nat):Int) % 18446744073709551616) 56)) x).b),uv ((zcW (oo (zey l2) (sl (((l.length:Nat):Int) % 18446744073709551616) 56)) x).c),uv ((zcW (oo (zey l2) (sl (((l.length:Nat):Int) % 18446744073709551616) 56)) x).d)]],[],(by simp [zaF]),⟨rfl,rfl,rfl,trivial⟩,trivial, ?_⟩
 generalize hy5:zcW (oo (zey l2) (sl (((l.length:Nat):Int) % 18446744073709551616) 56)) x=y5
 refine zE (zA (zJ (zN (o_b 8 [(47,pv 2 2),(46,pv 2 0),(45,uv (xo y5.c 255)),(44,uv y5.c),(43,pv 2 2),(42,pv 2 0),(41,pv 2 0)] [zG q (u8 L) false,cw [uv ka,uv kb],cw [uv y5.a,uv y5.b,uv (xo y5.c 255),uv y5.d]] (zE (zU [(5,pv 2 0)] (zJ (zN (o_d 1 [(48,pv 2 0)] (qV (zct [2] [cw [uv y5.a,uv y5.b,uv (xo y5.c 255),uv y5.d]] [pv 0 0,iv 4] (roundsC (Q4.mk y5.a y5.b (xo y5.c 255) y5.d) 4 dC) rfl rfl ⟨⟨_,rfl,zaC rfl (fun q=>rfl)⟩,trivial⟩ dC ?_)))))))))))
 rintro v1 h1' ⟨rfl,rfl⟩
 refine ⟨.tuple #[],[zG q (u8 L) false,cw [uv ka,uv kb],cw [uv ((rnds 4 (Q4.mk y5.a y5.b (xo y5.c 255) y5.d)).a),uv ((rnds 4 (Q4.mk y5.a y5.b (xo y5.c 255) y5.d)).b),uv ((rnds 4 (Q4.mk y5.a y5.b (xo y5.c 255) y5.d)).c),uv ((rnds 4 (Q4.mk y5.a y5.b (xo y5.c 255) y5.d)).d)]],[],(by simp [zaF]),⟨rfl,rfl,rfl,trivial⟩,trivial, ?_⟩
 generalize hy6:rnds 4 (Q4.mk y5.a y5.b (xo y5.c 255) y5.d)=y6
 exact zE (zA (zJ (zbe [] (r_d 20 [(4,uv (xo (xo (xo y6.a y6.b) y6.c) y6.d)),(68,uv (xo (xo (xo y6.a y6.b) y6.c) y6.d)),(67,uv y6.d),(66,pv 2 3),(65,pv 2 0),(64,pv 2 0),(63,uv (xo (xo y6.a y6.b) y6.c)),(62,uv y6.c),(61,pv 2 2),(60,pv 2 0),(59,pv 2 0),(58,uv (xo y6.a y6.b)),(57,uv y6.b),(56,pv 2 1),(55,pv 2 0),(54,pv 2 0),(53,uv y6.a),(52,pv 2 0),(51,pv 2 0),(50,pv 2 0)] (za3 (zU [(4,uv (xo (xo (xo y6.a y6.b) y6.c) y6.d))] (qW (⟨trivial,⟨reg [(4,uv (xo (xo (xo y6.a y6.b) y6.c) y6.d))],(wA q L)⟩,Wk.ren [0] rfl rfl dC ⟨rfl,trivial⟩ ⟨.inl (zF (zH _)),trivial⟩,[uv (xo (xo (xo y6.a y6.b) y6.c) y6.d)],(zT rfl rfl),(zM rfl z5),(congrArg Yb (ofS_eq (i:=i) om hx hl2 rfl hy5 hy6)),rfl⟩))))))))
theorem refOfC {P:Program} [PrC P] (ka kb:Int) (q:Option (Nat×Nat)) (L l:List Int) (hr:RowOf q L l) (hl:l.length≤100000):
    Env P "roundhouse/roundhouseref2.Of" [.agg #[uv ka,uv kb],zS q 0 l.length] ([zG q (u8 L) false]) (fun v h'=>v=uv (ofS ka kb l)∧h'= [zG q (u8 L) false]):=by
 refine Env.by2 PrC.ref2_Of ?_
 unfold c_ref2_Of
 show GC _ 1 _ _ ⟨reg [(0,.agg #[uv ka,uv kb]),(1,zS q 0 l.length)],[zG q (u8 L) false]⟩
 refine zJ (zN (o_b 2 [(4,uv 0),(2,pv 1 0)] [zG q (u8 L) false,cw [uv ka,uv kb]] (zE (zA (zJ (zN (o_b 15 [(5,pv 2 0),(20,pv 2 0),(19,.agg #[uv (xo ka 8317987319222330741),uv (xo kb 7237128888997146477),uv (xo ka 7816392313619706465),uv (xo kb 8387220255154660723)]),(18,uv (xo kb 8387220255154660723)),(17,uv kb),(16,pv 1 1),(15,uv (xo ka 7816392313619706465)),(14,uv ka),(13,pv 1 0),(12,uv (xo kb 7237128888997146477)),(11,uv kb),(10,pv 1 1),(9,uv (xo ka 8317987319222330741)),(8,uv ka),(7,pv 1 0)] [zG q (u8 L) false,cw [uv ka,uv kb],cw [uv (xo ka 8317987319222330741),uv (xo kb 7237128888997146477),uv (xo ka 7816392313619706465),uv (xo kb 8387220255154660723)]] (zE (zA (zJ (zN (o_d 1 [(6,iv 0)] ?_))))))))))))
 refine zE (zA (zJ (qU (zcs (fun μ s=> ∃(i:Nat),∃(a:Nat),∃(x:Q4),μ=l.length - i∧(8*i≤l.length)∧(a=8*i)∧(x=sipT l i (Q4.mk (xo ka 8317987319222330741) (xo kb 7237128888997146477) (xo ka 7816392313619706465) (xo kb 8387220255154660723)))∧s=⟨reg [(6,iv (a:Int)),(5,pv 2 0),(1,zS q 0 l.length)],[zG q (u8 L) false,cw [uv ka,uv kb],cw [uv x.a,uv x.b,uv x.c,uv x.d]]⟩) ⟨(l.length - 0), ?_⟩ ?_))))
 ·skip
  refine ⟨⟨reg [(6,iv (0:Int)),(5,pv 2 0),(1,zS q 0 l.length)],[zG q (u8 L) false,cw [uv ka,uv kb],cw [uv (Q4.mk (xo ka 8317987319222330741) (xo kb 7237128888997146477) (xo ka 7816392313619706465) (xo kb 8387220255154660723)).a,uv (Q4.mk (xo ka 8317987319222330741) (xo kb 7237128888997146477) (xo ka 7816392313619706465) (xo kb 8387220255154660723)).b,uv (Q4.mk (xo ka 8317987319222330741) (xo kb 7237128888997146477) (xo ka 7816392313619706465) (xo kb 8387220255154660723)).c,uv (Q4.mk (xo ka 8317987319222330741) (xo kb 7237128888997146477) (xo ka 7816392313619706465) (xo kb 8387220255154660723)).d]]⟩, ?_⟩
  refine ⟨?_, ?_⟩
  ·exact Wk.ren [0,1,2] rfl rfl dC ⟨rfl,rfl,((qG rfl)).trans rfl,trivial⟩ ⟨.inl (zF (zH _)),.inl rfl,.inl rfl,trivial⟩
  ·exact ⟨0,0,(Q4.mk (xo ka 8317987319222330741) (xo kb 7237128888997146477) (xo ka 7816392313619706465) (xo kb 8387220255154660723)),rfl,om,rfl,rfl,rfl⟩
 rintro μ s ⟨i,a,x,rfl,hi,ha,hx,rfl⟩
 refine zJ (zJ (zN (o_d 1 [(21,iv (a:Int))] (o_s (by refine zK (v:= .int .i64 (i64.wrap ((a:Int)+8))) (congrArg (Value.int .i64) (w64 om om)) ?_;kernel_rfl) ?_))))
 refine o_d 1 [(23,zS q 0 l.length)] (o_s (by exact qM rfl hr.nil) ?_)
 refine o_d 1 [(25,bv (decide ((a:Int)+8≤(l.length:Nat))))] (zE (zA (qJ (t:=decide ((a:Int)+8≤(l.length:Nat))) rfl (fun h1=>?_) (fun h1=>?_))))
 ·skip
  have h1':(a:Int)+8≤(l.length:Nat):=of_decide_eq_true h1
  refine qK (zA (zJ (qU (zN (o_d 4 [(31,iv (a:Int)),(30,iv (a:Int)),(29,zS q 0 l.length),(28,pv 2 0)] (o_s (by refine zK (v:= .int .i64 (i64.wrap ((a:Int)+8))) (congrArg (Value.int .i64) (w64 om om)) ?_;kernel_rfl) ?_))))))
  obtain ⟨qz2,lz2,hlz2,hn2z,hq2z,hr2z,hs2z⟩:=zca (k:=0) hr (lo:=(some (iv (a:Int)))) (hi:=(some (iv ((a:Int)+8)))) (mx:=none) a (a+8) om (.inr rfl) (.inr (by first | rfl | (congr 2;omega))) (.inl rfl)
  have hs2y:=hs2z.trans (rfl:q.isSome=q.isSome)
  refine o_s (by exact zaN rfl hq2z) ?_
  refine qV (zaD [0] [zG qz2 (u8 L) false] [zS qz2 0 lz2.length] (lowC qz2 L lz2 hr2z om) rfl (zQ (qG rfl) rfl) ⟨⟨_,rfl,z4 (zH _) hs2y (fun q=>q)⟩,trivial⟩ dC ?_)
  rintro v1 h1' ⟨rfl,rfl⟩
  refine ⟨q9 [_] [],uv (zey lz2),[zG q (u8 L) false,cw [uv ka,uv kb],cw [uv x.a,uv x.b,uv x.c,uv x.d]],[],rfl,⟨(zaV hs2y rfl),rfl,rfl,trivial⟩,trivial, ?_⟩
  refine qV (zct [2] [cw [uv x.a,uv x.b,uv x.c,uv x.d]] [pv 0 0,uv (zey lz2)] (refEatC x (zey lz2)) rfl rfl ⟨⟨_,rfl,zaC rfl (fun q=>rfl)⟩,trivial⟩ dC ?_)
  rintro v1 h1' ⟨rfl,rfl⟩
  refine ⟨.tuple #[],[zG q (u8 L) false,cw [uv ka,uv kb],cw [uv ((zcW (zey lz2) x).a),uv ((zcW (zey lz2) x).b),uv ((zcW (zey lz2) x).c),uv ((zcW (zey lz2) x).d)]],[],(by simp [zaF]),⟨rfl,rfl,rfl,trivial⟩,trivial, ?_⟩
  generalize hy3:zcW (zey lz2) x=y3
  refine zE (zA (zN (o_d 1 [(26,iv (a:Int))] (o_s (by refine zK (v:= .int .i64 (i64.wrap ((a:Int)+8))) (congrArg (Value.int .i64) (w64 om om)) ?_;kernel_rfl) ?_))))
  refine o_d 1 [(6,iv ((a:Int)+8))] (zE (⟨l.length - (i+1), ?_⟩))
  refine ⟨⟨reg [(6,iv ((a+8):Int)),(5,pv 2 0),(1,zS q 0 l.length)],[zG q (u8 L) false,cw [uv ka,uv kb],cw [uv y3.a,uv y3.b,uv y3.c,uv y3.d]]⟩, ?_⟩
  refine zde om ⟨?_, ?_⟩
  ·exact Wk.ren [0,1,2] rfl rfl dC ⟨rfl,rfl,((qG rfl)).trans rfl,trivial⟩ ⟨.inl (zF (zH _)),.inl rfl,.inl rfl,trivial⟩
  ·exact ⟨(i+1),(a+8),y3,rfl,om,om,(by rw [←hy3,hlz2,hx,ha,show 8*i+8 - 8*i=8 by omega];rfl),rfl⟩
 have h1': ¬((a:Int)+8≤(l.length:Nat)):=of_decide_eq_false h1
 refine zb1 (zA (zJ (zN (o_d 3 [(38,iv (a:Int)),(37,zS q 0 l.length),(36,pv 2 0)] ?_))))
 obtain ⟨qz4,lz4,hlz4,hn4z,hq4z,hr4z,hs4z⟩:=zca (k:=0) hr (lo:=(some (iv (a:Int)))) (hi:=none) (mx:=none) a l.length om (.inr rfl) (.inl ⟨rfl,rfl,rfl⟩) (.inl rfl)
 have hs4y:=hs4z.trans (rfl:q.isSome=q.isSome)
 refine o_s (by exact zaN rfl hq4z) ?_
 refine qV (zaD [0] [zG qz4 (u8 L) false] [zS qz4 0 lz4.length] (lowC qz4 L lz4 hr4z om) rfl (zQ (qG rfl) rfl) ⟨⟨_,rfl,z4 (zH _) hs4y (fun q=>q)⟩,trivial⟩ dC ?_)
 rintro v1 h1' ⟨rfl,rfl⟩
 refine ⟨q9 [_] [],uv (zey lz4),[zG q (u8 L) false,cw [uv ka,uv kb],cw [uv x.a,uv x.b,uv x.c,uv x.d]],[],rfl,⟨(zaV hs4y rfl),rfl,rfl,trivial⟩,trivial, ?_⟩
 refine o_d 1 [(41,zS q 0 l.length)] (o_s (by exact qM rfl hr.nil) ?_)
 refine o_s (by refine zK (congrArg (Value.int .i64) (zcr (k:= .i64) 8 (M:=255) (R:=256) (x:=(l.length:Nat)) dC rfl rfl)) ?_;kernel_rfl) ?_
 refine o_d 3 [(46,uv (oo (zey lz4) (sl (((l.length:Nat) % 256:Int) % 18446744073709551616) 56))),(45,uv (sl (((l.length:Nat) % 256:Int) % 18446744073709551616) 56)),(44,uv (((l.length:Nat) % 256:Int) % 18446744073709551616))] (qV (zct [2] [cw [uv x.a,uv x.b,uv x.c,uv x.d]] [pv 0 0,uv (oo (zey lz4) (sl (((l.length:Nat) % 256:Int) % 18446744073709551616) 56))] (refEatC x (oo (zey lz4) (sl (((l.length:Nat) % 256:Int) % 18446744073709551616) 56))) rfl rfl ⟨⟨_,rfl,zaC rfl (fun q=>rfl)⟩,trivial⟩ dC ?_))
 rintro v1 h1' ⟨rfl,rfl⟩
 refine ⟨.tuple #[],[zG q (u8 L) false,cw [uv ka,uv kb],cw [uv ((zcW (oo (zey lz4) (sl (((l.length:Nat) % 256:Int) % 18446744073709551616) 56)) x).a),uv ((zcW (oo (zey lz4) (sl (((l.length:Nat) % 256:Int) % 18446744073709551616) 56)) x).b),uv ((zcW (oo (zey lz4) (sl (((l.length:Nat) % 256:Int) % 18446744073709551616) 56)) x).c),uv ((zcW (oo (zey lz4) (sl (((l.length:Nat) % 256:Int) % 18446744073709551616) 56)) x).d)]],[],(by simp [zaF]),⟨rfl,rfl,rfl,trivial⟩,trivial, ?_⟩
 generalize hy5:zcW (oo (zey lz4) (sl (((l.length:Nat) % 256:Int) % 18446744073709551616) 56)) x=y5
 refine zE (zA (zJ (zN (o_b 9 [(55,pv 2 2),(54,pv 2 0),(53,uv (xo y5.c 255)),(52,uv y5.c),(51,pv 2 2),(50,pv 2 0),(49,pv 2 0),(48,pv 2 0)] [zG q (u8 L) false,cw [uv ka,uv kb],cw [uv y5.a,uv y5.b,uv (xo y5.c 255),uv y5.d]] (zE (zU [(5,pv 2 0)] (zJ (zN (o_d 1 [(56,pv 2 0)] (qV (zct [2] [cw [uv y5.a,uv y5.b,uv (xo y5.c 255),uv y5.d]] [pv 0 0] (zd7 (Q4.mk y5.a y5.b (xo y5.c 255) y5.d)) rfl rfl ⟨⟨_,rfl,zaC rfl (fun q=>rfl)⟩,trivial⟩ dC ?_)))))))))))
 rintro v1 h1' ⟨rfl,rfl⟩
 refine ⟨.tuple #[],[zG q (u8 L) false,cw [uv ka,uv kb],cw [uv ((zdI (Q4.mk y5.a y5.b (xo y5.c 255) y5.d)).a),uv ((zdI (Q4.mk y5.a y5.b (xo y5.c 255) y5.d)).b),uv ((zdI (Q4.mk y5.a y5.b (xo y5.c 255) y5.d)).c),uv ((zdI (Q4.mk y5.a y5.b (xo y5.c 255) y5.d)).d)]],[],(by simp [zaF]),⟨rfl,rfl,rfl,trivial⟩,trivial, ?_⟩
 generalize hy6:zdI (Q4.mk y5.a y5.b (xo y5.c 255) y5.d)=y6
 refine zE (zA (zJ (zN (o_d 1 [(58,pv 2 0)] (qV (zct [2] [cw [uv y6.a,uv y6.b,uv y6.c,uv y6.d]] [pv 0 0] (zd7 y6) rfl rfl ⟨⟨_,rfl,zaC rfl (fun q=>rfl)⟩,trivial⟩ dC ?_))))))
 rintro v1 h1' ⟨rfl,rfl⟩
 refine ⟨.tuple #[],[zG q (u8 L) false,cw [uv ka,uv kb],cw [uv ((zdI y6).a),uv ((zdI y6).b),uv ((zdI y6).c),uv ((zdI y6).d)]],[],(by simp [zaF]),⟨rfl,rfl,rfl,trivial⟩,trivial, ?_⟩
 generalize hy7:zdI y6=y7
 refine zE (zA (zJ (zN (o_d 1 [(60,pv 2 0)] (qV (zct [2] [cw [uv y7.a,uv y7.b,uv y7.c,uv y7.d]] [pv 0 0] (zd7 y7) rfl rfl ⟨⟨_,rfl,zaC rfl (fun q=>rfl)⟩,trivial⟩ dC ?_))))))
 rintro v1 h1' ⟨rfl,rfl⟩
 refine ⟨.tuple #[],[zG q (u8 L) false,cw [uv ka,uv kb],cw [uv ((zdI y7).a),uv ((zdI y7).b),uv ((zdI y7).c),uv ((zdI y7).d)]],[],(by simp [zaF]),⟨rfl,rfl,rfl,trivial⟩,trivial, ?_⟩
 generalize hy8:zdI y7=y8
 refine zE (zA (zJ (zN (o_d 1 [(62,pv 2 0)] (qV (zct [2] [cw [uv y8.a,uv y8.b,uv y8.c,uv y8.d]] [pv 0 0] (zd7 y8) rfl rfl ⟨⟨_,rfl,zaC rfl (fun q=>rfl)⟩,trivial⟩ dC ?_))))))
 rintro v1 h1' ⟨rfl,rfl⟩
 refine ⟨.tuple #[],[zG q (u8 L) false,cw [uv ka,uv kb],cw [uv ((zdI y8).a),uv ((zdI y8).b),uv ((zdI y8).c),uv ((zdI y8).d)]],[],(by simp [zaF]),⟨rfl,rfl,rfl,trivial⟩,trivial, ?_⟩
 generalize hy9:zdI y8=y9
 exact zE (zA (zJ (zbe [] (r_d 20 [(4,uv (xo (xo (xo y9.a y9.b) y9.c) y9.d)),(82,uv (xo (xo (xo y9.a y9.b) y9.c) y9.d)),(81,uv y9.d),(80,pv 2 3),(79,pv 2 0),(78,pv 2 0),(77,uv (xo (xo y9.a y9.b) y9.c)),(76,uv y9.c),(75,pv 2 2),(74,pv 2 0),(73,pv 2 0),(72,uv (xo y9.a y9.b)),(71,uv y9.b),(70,pv 2 1),(69,pv 2 0),(68,pv 2 0),(67,uv y9.a),(66,pv 2 0),(65,pv 2 0),(64,pv 2 0)] (za3 (zU [(4,uv (xo (xo (xo y9.a y9.b) y9.c) y9.d))] (qW (⟨trivial,⟨reg [(4,uv (xo (xo (xo y9.a y9.b) y9.c) y9.d))],[zG q (u8 L) false]⟩,Wk.ren [0] rfl rfl dC ⟨rfl,trivial⟩ ⟨.inl (zF (zH _)),trivial⟩,[uv (xo (xo (xo y9.a y9.b) y9.c) y9.d)],(zT rfl rfl),(zM rfl z5),(congrArg (Value.int .u64) (ofS_eq (i:=i) om hx (dropA ha hlz4) (sl56 _) hy5 (rnds4 hy6 hy7 hy8 hy9))),rfl⟩))))))))
end Go.Rh

set_option maxHeartbeats 1000000
namespace Go.Rh
def wB (n:Int):Nat→List Int
 | 0=> []
 | j+1=>wB n j++ [(n % 18446744073709551616).fdiv (2^(min (8*(j:Int)).toNat 64))]
def wsT (ns:List Int):Nat→List Int
 | 0=> []
 | i+1=>wsT ns i++wB (ns.getD i 0) 8
def zan (ka kb:Int) (ns:List Int):Int:=ofS ka kb (wsT ns ns.length)
abbrev xZ (a:List Int) (b:Int) (c:Int) d e:=[cr (ii a),cw [uv b,uv c],slB zB (u8 d) e]
abbrev WP (a:List Int) b c:=[(14,iv (a.length:Nat)),(13,sv 0 0 a.length a.length),(5,slV 2 b c),(2,pv 1 0)]
theorem wordsC {P:Program} [PrC P] (ka kb:Int) (ns:List Int) (hl:ns.length≤1000):
    Env P "roundhouse/sip.Words" [.agg #[uv ka,uv kb],sv 0 0 ns.length ns.length] ([cr (ii ns)]) (fun v h'=>v=uv (zan ka kb ns)∧h'= [cr (ii ns)]):=by
 refine Env.by2 PrC.sip_Words ?_
 unfold ziH
 show GC _ 1 _ _ ⟨reg [(0,.agg #[uv ka,uv kb]),(1,sv 0 0 ns.length ns.length)],[cr (ii ns)]⟩
 refine zJ (zN (o_b 2 [(4,uv 0),(2,pv 1 0)] [cr (ii ns),cw [uv ka,uv kb]] (zE (zA (zJ (zN (o_d 2 [(10,iv (ns.length:Nat)),(9,sv 0 0 ns.length ns.length)] (o_s (by refine zK (v:= .int .i64 (i64.wrap (8*(ns.length:Nat)))) (congrArg wg (w64 om om)) ?_;kernel_rfl) ?_))))))))
 refine o_s (by exact run_mks0 rfl rfl rfl om (by first | rfl | omega) dC) ?_
 refine o_b 1 [(5,sv 2 0 0 (0+(8*ns.length)))] [cr (ii ns),cw [uv ka,uv kb],cw (u8 ([]:List Int)++zaj zB (8*ns.length))] (zE (zA (zJ (zJ (zN (o_d 3 [(15,iv 0),(14,iv (ns.length:Nat)),(13,sv 0 0 ns.length ns.length)] (zE (zA (qU (zcs (fun μ s=> ∃(i:Nat),∃(bs:List Int),∃(n:Nat),∃(o:Option Nat),μ=ns.length - i∧(i≤ns.length)∧(bs=wsT ns i)∧(bs.length=n∧n=8*i)∧(o=none→bs.length=0)∧s=⟨reg ((15,iv (i:Int))::(WP ns n o)),(xZ ns ka kb bs o)⟩) ⟨(ns.length - 0), ?_⟩ ?_))))))))))
 ·skip
  refine ⟨⟨reg [(15,iv (0:Int)),(14,iv (ns.length:Nat)),(13,sv 0 0 ns.length ns.length),(5,slV 2 0 (some (8*ns.length))),(2,pv 1 0)],[cr (ii ns),cw [uv ka,uv kb],slB zB (u8 ([]:List Int)) (some (8*ns.length))]⟩, ?_⟩
  refine ⟨?_, ?_⟩
  ·exact Wk.ren [0,1,2] rfl rfl dC ⟨rfl,rfl,rfl,rfl,rfl,trivial⟩ ⟨.inl (zL (qS ns)),.inl rfl,.inl (zL (za5 _ _)),trivial⟩
  ·exact ⟨0,([]:List Int),0,(some (8*ns.length)),rfl,(Nat.zero_le _),rfl,⟨rfl,rfl⟩,(fun _=>rfl),rfl⟩
 rintro μ s ⟨i,bs,n,o,rfl,hi,hbs,hn,ho,rfl⟩
 refine zJ (zN (o_d 1 [(16,bv (decide ((i:Int) < (ns.length:Nat))))] (zE (zA (zJ (qJ (t:=decide ((i:Int) < (ns.length:Nat))) rfl (fun h1=>?_) (fun h1=>?_)))))))
 ·skip
  have h1':(i:Int) < (ns.length:Nat):=of_decide_eq_true h1
  obtain ⟨x,hx,hdr,ht⟩:=zeh (l:=ns) (i:=i) om
  have hgx:ns.getD i 0=x:=by simp [List.getD_eq_getElem?_getD,hx]
  refine qK (zA (zJ (qU (zJ (zN (o_s (by exact zcU (o:=0) (o':=i) rfl rfl om om) ?_))))))
  refine o_s (by refine zV (v:=iv x) rfl rfl ?_;exact ii_r (i:=i) om hx) ?_
  refine o_d 1 [(7,iv x)] (zE (zA (zJ (zN (o_d 1 [(19,iv 0)] (zE (zA (qU (zcs (fun μ s=> ∃(j:Nat),∃(bs2:List Int),∃(n2:Nat),∃(o2:Option Nat),μ=8 - j∧(j≤8)∧(bs2=bs++wB x j)∧(bs2.length=n2∧n2=n+j)∧(o2=none→bs2.length=0)∧s=⟨reg ((19,iv (j:Int))::(7,iv x)::(15,iv (i:Int))::(WP ns n2 o2)),(xZ ns ka kb bs2 o2)⟩) ⟨(8 - 0), ?_⟩ ?_)))))))))
  ·skip
   refine ⟨⟨reg ((19,iv (0:Int))::(7,iv x)::(15,iv (i:Int))::(WP ns n o)),(xZ ns ka kb bs o)⟩, ?_⟩
   refine ⟨?_, ?_⟩
   ·exact Wk.ren [0,1,2] rfl rfl dC ⟨rfl,rfl,rfl,rfl,rfl,((zbz o rfl)).trans rfl,rfl,trivial⟩ ⟨.inl (zL (qS ns)),.inl rfl,.inl (zaa o (fun _=>(za5 _ _))),trivial⟩
   ·exact ⟨0,bs,n,o,rfl,om,(List.append_nil _).symm,⟨hn.1,rfl⟩,ho,rfl⟩
  rintro μ s ⟨j,bs2,n2,o2,rfl,hj,hb2,hn2,ho2,rfl⟩
  refine zJ (zN (o_d 1 [(20,bv (decide ((j:Int) < 8)))] (zE (zA (zJ (qJ (t:=decide ((j:Int) < 8)) rfl (fun h2=>?_) (fun h2=>?_)))))))
  ·skip
   have h2':(j:Int) < 8:=of_decide_eq_true h2
   refine qK (zA (zJ (qU (zJ (zN (o_d 2 [(8,iv (j:Int)),(21,iv (j:Int))] (zE (zA (zN (o_d 4 [(25,iv (j:Int)),(24,uv (x % 18446744073709551616)),(23,iv x),(22,slV 2 n2 o2)] (o_s (by refine zK (v:= .int .i64 (i64.wrap (8*(j:Int)))) (congrArg wg (w64 om om)) ?_;kernel_rfl) ?_)))))))))))
   refine o_b 3 [(29,sv 3 0 1 1),(28,.int .u8 (((x % 18446744073709551616).fdiv (2^(min (8*(j:Int)).toNat 64))) % 256)),(27,uv ((x % 18446744073709551616).fdiv (2^(min (8*(j:Int)).toNat 64))))] [cr (ii ns),cw [uv ka,uv kb],slB zB (u8 bs2) o2,cw [.int .u8 (((x % 18446744073709551616).fdiv (2^(min (8*(j:Int)).toNat 64))) % 256)]] (zef (k:=2) (n:=n2) (o:=o2) (q:=1) (cs:=u8 bs2) (xs:= [.int .u8 (((x % 18446744073709551616).fdiv (2^(min (8*(j:Int)).toNat 64))) % 256)]) (cs2:=u8 (bs2++ [(x % 18446744073709551616).fdiv (2^(min (8*(j:Int)).toNat 64))])) (zl:=zB) rfl rfl rfl (fun m q=>by subst q;rfl) (fun z=>by have h0:=ho2 z;have h1:=List.eq_nil_of_length_eq_zero h0;subst h1;exact ⟨om,rfl⟩) (by first | exact u8_len _ | (rw [qL];omega) | simp [u8]) rfl rfl (zbF rfl rfl (by simp)) (by rfl) om om (u8_app1 rfl) (fun m3 e4=>?_) (fun m3=>?_))
   ·skip
    subst e4
    refine o_d 1 [(5,sv 2 0 (n2+1) (n2+1+m3))] (zE (zA (zN (o_s (by refine zK (v:= .int .i64 (i64.wrap ((j:Int)+1))) (congrArg wg (w64 om om)) ?_;kernel_rfl) ?_))))
    refine o_d 1 [(19,iv ((j:Int)+1))] (zE (⟨8 - (j+1), ?_⟩))
    refine ⟨⟨reg [(19,iv ((j+1):Int)),(7,iv x),(15,iv (i:Int)),(14,iv (ns.length:Nat)),(13,sv 0 0 ns.length ns.length),(5,slV 2 (n2+1) (some m3)),(2,pv 1 0)],[cr (ii ns),cw [uv ka,uv kb],slB zB (u8 (bs2++ [(x % 18446744073709551616).fdiv (2^(min (8*(j:Int)).toNat 64))])) (some m3)]⟩, ?_⟩
    refine zde om ⟨?_, ?_⟩
    ·exact Wk.ren [0,1,2] rfl rfl dC ⟨rfl,rfl,rfl,rfl,rfl,rfl,rfl,trivial⟩ ⟨.inl (zL (qS ns)),.inl rfl,.inl (zL (za5 _ _)),trivial⟩
    ·exact ⟨(j+1),(bs2++ [(x % 18446744073709551616).fdiv (2^(min (8*(j:Int)).toNat 64))]),(n2+1),(some m3),rfl,om,(by rw [hb2,List.append_assoc];rfl),(by simp only [List.length_append,List.length_singleton];omega),(fun z=>by cases z),rfl⟩
   refine o_d 1 [(5,sv 4 0 (n2+1) (n2+1+m3))] (zE (zA (zN (o_s (by refine zK (v:= .int .i64 (i64.wrap ((j:Int)+1))) (congrArg wg (w64 om om)) ?_;kernel_rfl) ?_))))
   refine o_d 1 [(19,iv ((j:Int)+1))] (zE (⟨8 - (j+1), ?_⟩))
   refine ⟨⟨reg [(19,iv ((j+1):Int)),(7,iv x),(15,iv (i:Int)),(14,iv (ns.length:Nat)),(13,sv 0 0 ns.length ns.length),(5,slV 2 (n2+1) (some m3)),(2,pv 1 0)],[cr (ii ns),cw [uv ka,uv kb],slB zB (u8 (bs2++ [(x % 18446744073709551616).fdiv (2^(min (8*(j:Int)).toNat 64))])) (some m3)]⟩, ?_⟩
   refine zde om ⟨?_, ?_⟩
   ·exact Wk.ren [0,1,4] rfl rfl dC ⟨rfl,rfl,rfl,rfl,rfl,rfl,rfl,trivial⟩ ⟨.inl (zL (qS ns)),.inl rfl,.inl (zL (za5 _ _)),trivial⟩
   ·exact ⟨(j+1),(bs2++ [(x % 18446744073709551616).fdiv (2^(min (8*(j:Int)).toNat 64))]),(n2+1),(some m3),rfl,om,(by rw [hb2,List.append_assoc];rfl),(by simp only [List.length_append,List.length_singleton];omega),(fun z=>by cases z),rfl⟩
  have h2': ¬((j:Int) < 8):=of_decide_eq_false h2
  refine zb1 (zA (zN (o_s (by refine zK (v:= .int .i64 (i64.wrap ((i:Int)+1))) (congrArg wg (w64 om om)) ?_;kernel_rfl) ?_)))
  refine o_d 1 [(15,iv ((i:Int)+1))] (zE (⟨ns.length - (i+1), ?_⟩))
  refine ⟨⟨reg ((15,iv ((i+1):Int))::(WP ns n2 o2)),(xZ ns ka kb bs2 o2)⟩, ?_⟩
  refine zde om ⟨?_, ?_⟩
  ·exact Wk.ren [0,1,2] rfl rfl dC ⟨rfl,rfl,rfl,((zbz o2 rfl)).trans rfl,rfl,trivial⟩ ⟨.inl (zL (qS ns)),.inl rfl,.inl (zaa o2 (fun _=>(za5 _ _))),trivial⟩
  ·exact ⟨(i+1),bs2,n2,o2,rfl,om,(by rw [hb2,show j=8 by omega,hbs,←hgx];rfl),om,ho2,rfl⟩
 have h1': ¬((i:Int) < (ns.length:Nat)):=of_decide_eq_false h1
 refine zb1 (zA (zJ (zN (o_d 2 [(34,slV 2 n o),(33,.agg #[uv ka,uv kb])] (qV (zaD [2] [zG (qsl n o) (u8 (bs++List.replicate (o.getD 0) 0)) false] [.agg #[uv ka,uv kb],zS (qsl n o) 0 bs.length] (ofC ka kb (qsl n o) (bs++List.replicate (o.getD 0) 0) bs (row_qsl ho om) om) rfl (zQ (qN rfl) (zQ (renV_qsl o rfl om) rfl)) ⟨⟨_,rfl,sees_qsl o⟩,trivial⟩ dC ?_))))))
 rintro v1 h1' ⟨rfl,rfl⟩
 refine ⟨q9 [_] [],uv (ofS ka kb bs),(xZ ns ka kb bs o),[],rfl,⟨rfl,rfl,(over_qsl rfl),trivial⟩,trivial, ?_⟩
 exact o_d 1 [(4,uv (ofS ka kb bs))] (zE (zA (qW (⟨trivial,⟨reg [(4,uv (ofS ka kb bs))],[cr (ii ns)]⟩,Wk.ren [0] rfl rfl dC ⟨rfl,trivial⟩ ⟨.inl (zL (qS ns)),trivial⟩,[uv (ofS ka kb bs)],(zT rfl rfl),(zM rfl z5),(congrArg Yb (congrArg (ofS ka kb) (by rw [hbs,show i=ns.length by omega]))),rfl⟩))))
abbrev WZ (a:List Int):=[(2,pv 1 0),(1,sv 0 0 a.length a.length)]
theorem zgf {P:Program} [PrC P] (ka kb:Int) (ns:List Int) (hl:ns.length≤1000):
    Env P "roundhouse/roundhouseref2.Words" [.agg #[uv ka,uv kb],sv 0 0 ns.length ns.length] ([cr (ii ns)]) (fun v h'=>v=uv (zan ka kb ns)∧h'= [cr (ii ns)]):=by
 refine Env.by2 PrC.ref2_Words ?_
 unfold zho
 show GC _ 1 _ _ ⟨reg [(0,.agg #[uv ka,uv kb]),(1,sv 0 0 ns.length ns.length)],[cr (ii ns)]⟩
 refine zJ (zN (o_b 2 [(4,uv 0),(2,pv 1 0)] [cr (ii ns),cw [uv ka,uv kb]] (zE (zA (zJ (zN (o_d 1 [(5,.slice none 0 0)] (zE (zA (zJ (zJ (zN ?_))))))))))))
 refine o_d 1 [(6,iv 0)] (zE (zA (qU (zcs (fun μ s=> ∃(i:Nat),∃(bs:List Int),∃(n:Nat),∃(o:Option Nat),μ=ns.length - i∧(i≤ns.length)∧(bs=wsT ns i)∧(bs.length=n∧n=8*i)∧(o=none→bs.length=0)∧s=⟨reg ((6,iv (i:Int))::(5,slV 2 n o)::(WZ ns)),(xZ ns ka kb bs o)⟩) ⟨(ns.length - 0), ?_⟩ ?_))))
 ·skip
  refine ⟨⟨reg ((6,iv (0:Int))::(5,slV 2 0 none)::(WZ ns)),[cr (ii ns),cw [uv ka,uv kb],slB zB (u8 ([]:List Int)) none]⟩, ?_⟩
  refine ⟨?_, ?_⟩
  ·exact Wk.ren [0,1,4] rfl rfl dC ⟨rfl,rfl,rfl,rfl,trivial⟩ ⟨.inl (zL (qS ns)),.inl rfl,.inr ⟨rfl,rfl⟩,trivial⟩
  ·exact ⟨0,([]:List Int),0,none,rfl,(Nat.zero_le _),rfl,⟨rfl,rfl⟩,(fun _=>rfl),rfl⟩
 rintro μ s ⟨i,bs,n,o,rfl,hi,hbs,hn,ho,rfl⟩
 refine zJ (zJ (zN (o_d 4 [(11,bv (decide ((i:Int) < (ns.length:Nat)))),(10,iv (ns.length:Nat)),(9,sv 0 0 ns.length ns.length),(8,iv (i:Int))] (zE (zA (qJ (t:=decide ((i:Int) < (ns.length:Nat))) rfl (fun h1=>?_) (fun h1=>?_)))))))
 ·skip
  have h1':(i:Int) < (ns.length:Nat):=of_decide_eq_true h1
  obtain ⟨x,hx,hdr,ht⟩:=zeh (l:=ns) (i:=i) om
  have hgx:ns.getD i 0=x:=by simp [List.getD_eq_getElem?_getD,hx]
  refine qK (zA (zJ (qU (zJ (zN (o_d 1 [(7,iv 0)] (zE (zA (qU (zcs (fun μ s=> ∃(j:Nat),∃(bs2:List Int),∃(n2:Nat),∃(o2:Option Nat),μ=8 - j∧(j≤8)∧(bs2=bs++wB x j)∧(bs2.length=n2∧n2=n+j)∧(o2=none→bs2.length=0)∧s=⟨reg ((7,iv (j:Int))::(6,iv (i:Int))::(5,slV 2 n2 o2)::(WZ ns)),(xZ ns ka kb bs2 o2)⟩) ⟨(8 - 0), ?_⟩ ?_))))))))))
  ·skip
   refine ⟨⟨reg ((7,iv (0:Int))::(6,iv (i:Int))::(5,slV 2 n o)::(WZ ns)),(xZ ns ka kb bs o)⟩, ?_⟩
   refine ⟨?_, ?_⟩
   ·exact Wk.ren [0,1,2] rfl rfl dC ⟨rfl,rfl,((zbz o rfl)).trans rfl,rfl,rfl,trivial⟩ ⟨.inl (zL (qS ns)),.inl rfl,.inl (zaa o (fun _=>(za5 _ _))),trivial⟩
   ·exact ⟨0,bs,n,o,rfl,om,(List.append_nil _).symm,⟨hn.1,rfl⟩,ho,rfl⟩
  rintro μ s ⟨j,bs2,n2,o2,rfl,hj,hb2,hn2,ho2,rfl⟩
  refine zJ (zJ (zN (o_d 2 [(15,bv (decide ((j:Int) < 8))),(14,iv (j:Int))] (zE (zA (qJ (t:=decide ((j:Int) < 8)) rfl (fun h2=>?_) (fun h2=>?_)))))))
  ·skip
   have h2':(j:Int) < 8:=of_decide_eq_true h2
   refine qK (zA (zJ (qU (zN (o_d 3 [(20,iv (i:Int)),(19,sv 0 0 ns.length ns.length),(18,slV 2 n2 o2)] (o_s (by exact zcU (o:=0) (o':=i) rfl rfl om om) ?_))))))
   refine o_s (by refine zV (v:=iv x) rfl rfl ?_;exact ii_r (i:=i) om hx) ?_
   refine o_b 7 [(29,sv 3 0 1 1),(28,.int .u8 (((x % 18446744073709551616).fdiv (2^(min (IntKind.u64.wrap (8*((j:Int) % 18446744073709551616))).toNat 64))) % 256)),(27,uv ((x % 18446744073709551616).fdiv (2^(min (IntKind.u64.wrap (8*((j:Int) % 18446744073709551616))).toNat 64)))),(26,uv (IntKind.u64.wrap (8*((j:Int) % 18446744073709551616)))),(25,uv ((j:Int) % 18446744073709551616)),(24,iv (j:Int)),(23,uv (x % 18446744073709551616))] [cr (ii ns),cw [uv ka,uv kb],slB zB (u8 bs2) o2,cw [.int .u8 (((x % 18446744073709551616).fdiv (2^(min (IntKind.u64.wrap (8*((j:Int) % 18446744073709551616))).toNat 64))) % 256)]] (zef (k:=2) (n:=n2) (o:=o2) (q:=1) (cs:=u8 bs2) (xs:= [.int .u8 (((x % 18446744073709551616).fdiv (2^(min (IntKind.u64.wrap (8*((j:Int) % 18446744073709551616))).toNat 64))) % 256)]) (cs2:=u8 (bs2++ [(x % 18446744073709551616).fdiv (2^(min (IntKind.u64.wrap (8*((j:Int) % 18446744073709551616))).toNat 64))])) (zl:=zB) rfl rfl rfl (fun m q=>by subst q;rfl) (fun z=>by have h0:=ho2 z;have h1:=List.eq_nil_of_length_eq_zero h0;subst h1;exact ⟨om,rfl⟩) (by first | exact u8_len _ | (rw [qL];omega) | simp [u8]) rfl rfl (zbF rfl rfl (by simp)) (by rfl) om om (u8_app1 rfl) (fun m3 e4=>?_) (fun m3=>?_))
   ·skip
    subst e4
    refine o_d 1 [(5,sv 2 0 (n2+1) (n2+1+m3))] (zE (zA (zN (o_d 1 [(16,iv (j:Int))] (o_s (by refine zK (v:= .int .i64 (i64.wrap ((j:Int)+1))) (congrArg wg (w64 om om)) ?_;kernel_rfl) ?_)))))
    refine o_d 1 [(7,iv ((j:Int)+1))] (zE (⟨8 - (j+1), ?_⟩))
    refine ⟨⟨reg ((7,iv ((j+1):Int))::(6,iv (i:Int))::(5,slV 2 (n2+1) (some m3))::(WZ ns)),[cr (ii ns),cw [uv ka,uv kb],slB zB (u8 (bs2++ [(x % 18446744073709551616).fdiv (2^(min (IntKind.u64.wrap (8*((j:Int) % 18446744073709551616))).toNat 64))])) (some m3)]⟩, ?_⟩
    refine zde om ⟨?_, ?_⟩
    ·exact Wk.ren [0,1,2] rfl rfl dC ⟨rfl,rfl,rfl,rfl,rfl,trivial⟩ ⟨.inl (zL (qS ns)),.inl rfl,.inl (zL (za5 _ _)),trivial⟩
    ·exact ⟨(j+1),(bs2++ [(x % 18446744073709551616).fdiv (2^(min (IntKind.u64.wrap (8*((j:Int) % 18446744073709551616))).toNat 64))]),(n2+1),(some m3),rfl,om,(by rw [hb2,mul8 om,List.append_assoc];rfl),(by simp only [List.length_append,List.length_singleton];omega),(fun z=>by cases z),rfl⟩
   refine o_d 1 [(5,sv 4 0 (n2+1) (n2+1+m3))] (zE (zA (zN (o_d 1 [(16,iv (j:Int))] (o_s (by refine zK (v:= .int .i64 (i64.wrap ((j:Int)+1))) (congrArg wg (w64 om om)) ?_;kernel_rfl) ?_)))))
   refine o_d 1 [(7,iv ((j:Int)+1))] (zE (⟨8 - (j+1), ?_⟩))
   refine ⟨⟨reg ((7,iv ((j+1):Int))::(6,iv (i:Int))::(5,slV 2 (n2+1) (some m3))::(WZ ns)),[cr (ii ns),cw [uv ka,uv kb],slB zB (u8 (bs2++ [(x % 18446744073709551616).fdiv (2^(min (IntKind.u64.wrap (8*((j:Int) % 18446744073709551616))).toNat 64))])) (some m3)]⟩, ?_⟩
   refine zde om ⟨?_, ?_⟩
   ·exact Wk.ren [0,1,4] rfl rfl dC ⟨rfl,rfl,rfl,rfl,rfl,trivial⟩ ⟨.inl (zL (qS ns)),.inl rfl,.inl (zL (za5 _ _)),trivial⟩
   ·exact ⟨(j+1),(bs2++ [(x % 18446744073709551616).fdiv (2^(min (IntKind.u64.wrap (8*((j:Int) % 18446744073709551616))).toNat 64))]),(n2+1),(some m3),rfl,om,(by rw [hb2,mul8 om,List.append_assoc];rfl),(by simp only [List.length_append,List.length_singleton];omega),(fun z=>by cases z),rfl⟩
  have h2': ¬((j:Int) < 8):=of_decide_eq_false h2
  refine zb1 (zA (zN (o_d 1 [(12,iv (i:Int))] (o_s (by refine zK (v:= .int .i64 (i64.wrap ((i:Int)+1))) (congrArg wg (w64 om om)) ?_;kernel_rfl) ?_))))
  refine o_d 1 [(6,iv ((i:Int)+1))] (zE (⟨ns.length - (i+1), ?_⟩))
  refine ⟨⟨reg ((6,iv ((i+1):Int))::(5,slV 2 n2 o2)::(WZ ns)),(xZ ns ka kb bs2 o2)⟩, ?_⟩
  refine zde om ⟨?_, ?_⟩
  ·exact Wk.ren [0,1,2] rfl rfl dC ⟨rfl,((zbz o2 rfl)).trans rfl,rfl,rfl,trivial⟩ ⟨.inl (zL (qS ns)),.inl rfl,.inl (zaa o2 (fun _=>(za5 _ _))),trivial⟩
  ·exact ⟨(i+1),bs2,n2,o2,rfl,om,(by rw [hb2,show j=8 by omega,hbs,←hgx];rfl),om,ho2,rfl⟩
 have h1': ¬((i:Int) < (ns.length:Nat)):=of_decide_eq_false h1
 refine zb1 (zA (zJ (zN (o_d 2 [(32,slV 2 n o),(31,.agg #[uv ka,uv kb])] (qV (zaD [2] [zG (qsl n o) (u8 (bs++List.replicate (o.getD 0) 0)) false] [.agg #[uv ka,uv kb],zS (qsl n o) 0 bs.length] (refOfC ka kb (qsl n o) (bs++List.replicate (o.getD 0) 0) bs (row_qsl ho om) om) rfl (zQ (qN rfl) (zQ (renV_qsl o rfl om) rfl)) ⟨⟨_,rfl,sees_qsl o⟩,trivial⟩ dC ?_))))))
 rintro v1 h1' ⟨rfl,rfl⟩
 refine ⟨q9 [_] [],uv (ofS ka kb bs),(xZ ns ka kb bs o),[],rfl,⟨rfl,rfl,(over_qsl rfl),trivial⟩,trivial, ?_⟩
 exact o_d 1 [(4,uv (ofS ka kb bs))] (zE (zA (qW (⟨trivial,⟨reg [(4,uv (ofS ka kb bs))],[cr (ii ns)]⟩,Wk.ren [0] rfl rfl dC ⟨rfl,trivial⟩ ⟨.inl (zL (qS ns)),trivial⟩,[uv (ofS ka kb bs)],(zT rfl rfl),(zM rfl z5),(congrArg Yb (congrArg (ofS ka kb) (by rw [hbs,show i=ns.length by omega]))),rfl⟩))))
end Go.Rh

namespace Go.Rh
theorem may_call {P:Program} [PrC P] {K:zen} {h:List Blk} {vals:List Value} {rw:Bool} {x0 x1 x2 x3 x4:Int} (l:List Int) (k:Nat) (hl:(l.length:Int)≤1000) (hk:h[k]? =some (.cells (ii l) rw))
  (hv:vals= [.agg #[.int .i64 x0,.int .i64 x1,.int .i64 x2,.int .i64 x3,.int .i64 x4],.slice (some ⟨k,0,none⟩) l.length l.length]) (hK:K (.bool (l.contains x0)) h):zdA (Env P) "roundhouse/pool.may" vals K h:=
 callRS (pre:= [.agg #[.int .i64 x0,.int .i64 x1,.int .i64 x2,.int .i64 x3,.int .i64 x4]]) k (mayC x0 x1 x2 x3 x4 l hl) hk (qS l) rfl hv rfl hK
theorem TakesC {P:Program} [PrC P] (x0 x1 x2 x3 x4:Int):
  Env P "roundhouse/pool.Takes" [.agg #[.int .i64 x0,.int .i64 x1,.int .i64 x2,.int .i64 x3,.int .i64 x4]] [] (Ans (.bool ([1,2,3].contains x0)) []):=by
 refine Env.of PrC.pool_Takes ?_
 unfold wpF zhp
 refine qF (s':=_) rfl (zA (zbK (za1 (s':=_) 2 rfl (zcL (may_call (x0:=x0) [1,2,3] 1 dC rfl rfl ?_)))))
 exact qF (s':=_) rfl (zA (z7 [.bool ([1,2,3].contains x0)] rfl rfl rfl rfl rfl))
end Go.Rh

namespace Go.Rh
def eL (e:Ent):List Value:= [.int .i64 e.k,.int .i64 e.s,.int .i64 e.a,.int .i64 e.p,.int .i64 e.g,.int .u64 e.ka,.int .u64 e.kb]
def sL (c:qZ) (k:Nat):List Value:= [.int .i64 (c (3+5*k)),.int .i64 (c (3+5*k+1)),.int .i64 (c (3+5*k+2)),.int .i64 (c (3+5*k+3)),.int .i64 (c (3+5*k+4))]
end Go.Rh

set_option maxHeartbeats 8000000
namespace Go.Rh
theorem zai (c d:qZ):splice (pl c) 0 (pl d)=pl d:=zgH (by rw [qI,qI])
end Go.Rh

set_option maxHeartbeats 8000000
namespace Go.Rh
end Go.Rh

namespace Go.Rh
theorem zi9 (c:qZ) {o:Nat} (i:Nat) (ho:o=i) (h:i < 324):zaP none (pl c) o=some (.int .i64 (c i)):=by subst ho;exact pl_get64 c h
theorem pl_rS (c:qZ) {o:Nat} (k:Nat) (ho:o=3+5*k) (h:k < 64):zaP (some 5) (pl c) o=some (slotV c k):=by subst ho;exact pl_slot c h
def zfE (c:qZ):Value:= .agg ⟨zdH c⟩
theorem slotsV_scl (c:qZ):(zdH c).all zbG=true:=zhG (zhO (zae c) 3) 320
theorem zfn (c:qZ):vpf (zfE c)=true:=slotsV_scl c
theorem pl_rA (c:qZ):zaP (some 320) (pl c) 3=some (zfE c):=by
 unfold zaP
 simp only []
 rw [if_pos (by rw [qI];omega)]
 rfl
theorem slots_r (c:qZ) {o:Nat} (k:Nat) (ho:o=5*k) (h:k < 64):zaP (some 5) (zdH c) o=some (slotV c k):=by
 subst ho;rw [Nat.mul_comm];exact zig c h
theorem zck {c:qZ} {m:Nat} (h:m≤330):m≤(pl c).length:=by rw [qI];exact h
theorem pl_w (c:qZ) {o:Nat} (i:Nat) (v:Int) (ho:o=i) (h:i < 324):splice (pl c) o [.int .i64 v]=pl (upd c i v):=by subst ho;exact zgF c h v
theorem pl_wS (c:qZ) {o:Nat} (k:Nat) (x0 x1 x2 x3 x4:Int) (ho:o=3+5*k) (h:k < 64):splice (pl c) o [.int .i64 x0,.int .i64 x1,.int .i64 x2,.int .i64 x3,.int .i64 x4]=pl (qA c k x0 x1 x2 x3 x4):=by subst ho;exact splice_slot c h x0 x1 x2 x3 x4
theorem bld_zP:zgo (zaE zP) []=some (pl qO):=congrArg some zP_pl
end Go.Rh

set_option maxHeartbeats 8000000
namespace Go.Rh
def zbR (h:Nat→Bool):Nat→Nat→Int×Bool
 | _,0=>(0,false)
 | i,n+1=>if h i then ((i:Int),true) else zbR h (i+1) n
def zep (c:qZ) (a p:Int) (k:Nat):Bool:= !([0,4].contains (c (3+5*k)))&&(c (3+5*k+1)==a&&(c (3+5*k+2)==p&&true))
theorem FindC {P:Program} [PrC P] (c:qZ) (a p:Int):
  Env P "roundhouse/pool.Find" [zaw c,.int .i64 a,.int .i64 p] [] (Ans (.tuple #[.int .i64 (zbR (zep c a p) 0 64).1,.bool (zbR (zep c a p) 0 64).2]) []):=by
 refine Env.of PrC.pool_Find ?_
 unfold wpF ziT
 have fin: ∀(x:Int) (b:Bool) (s:St),zbR (zep c a p) 0 64=(x,b)→s.f 6= .int .i64 x→s.f 7= .bool b→
   True∧∃l',zf1 s [.tmp 6,.tmp 7]=some l'∧(∀v∈l',zbt v=false)∧(Ans (.tuple #[.int .i64 (zbR (zep c a p) 0 64).1,.bool (zbR (zep c a p) 0 64).2]) [] (one l') s.h∨(vpf (one l')=true∧(∀b∈s.h.take 0,zhR b=true)∧Ans (.tuple #[.int .i64 (zbR (zep c a p) 0 64).1,.bool (zbR (zep c a p) 0 64).2]) [] (one l') (s.h.take 0))):=by
  intro x b s h h6 h7
  refine z7 [.int .i64 x,.bool b] (by simp [zf1,h6,h7]) rfl (by rw [h];rfl) rfl rfl
 refine qF (s':=_) rfl (zA (zbK (zbK (qF (s':=_) rfl (zA ?_)))))
 refine ⟨fun m s=> ∃i:Nat,i≤64∧m=64 - i∧zbR (zep c a p) i (64 - i)=zbR (zep c a p) 0 64∧s=⟨reg [(1,.int .i64 a),(2,.int .i64 p),(3,.pointer (some ⟨0,0,none⟩)),(11,.agg ⟨zdH c⟩),(12,.int .i64 i)],[.cells (pl c) true]⟩,
  ⟨64,_,Wk.to (l:= [(1,.int .i64 a),(2,.int .i64 p),(3,.pointer (some ⟨0,0,none⟩)),(11,.agg ⟨zdH c⟩),(12,.int .i64 (0:Nat))]) (hs:= [.cells (pl c) true]) (Nat.zero_le _) rfl ⟨⟨rfl,rfl⟩,⟨rfl,rfl⟩,⟨rfl,rfl⟩,⟨rfl,zfy (zhG (zhO (zae c) 3) 320)⟩,⟨rfl,rfl⟩,trivial⟩ (by simp [bbel,pl_bel]),0,Nat.zero_le _,rfl,rfl,rfl⟩, ?_⟩
 rintro m s ⟨i,hi,rfl,hf,rfl⟩
 refine qF (s':=_) rfl (zA (zbK (zb3 (t:=decide ((i:Int) < 64)) rfl (fun ht=>?_) (fun ht=>?_))))
 ·refine zA ?_
  have ht:i < 64:=by have:=of_decide_eq_true ht;omega
  have hstep:zbR (zep c a p) i (64 - i)=if zep c a p i then ((i:Int),true) else zbR (zep c a p) (i+1) (64 - (i+1)):=by
   rw [show 64 - i=(64 - (i+1))+1 by omega];rfl
  have next:zep c a p i=false→∀s:St,s.f 1= .int .i64 a→s.f 2= .int .i64 p→s.f 3= .pointer (some ⟨0,0,none⟩)→s.f 11= .agg ⟨zdH c⟩→s.f 12= .int .i64 (i64.wrap ((i:Int)+1))→s.h.take 1= [.cells (pl c) true]→
    ∃m s0,m < 64 - i∧Wk 0 s s0∧∃i:Nat,i≤64∧m=64 - i∧zbR (zep c a p) i (64 - i)=zbR (zep c a p) 0 64∧s0=⟨reg [(1,.int .i64 a),(2,.int .i64 p),(3,.pointer (some ⟨0,0,none⟩)),(11,.agg ⟨zdH c⟩),(12,.int .i64 i)],[.cells (pl c) true]⟩:=by
   intro hto s h1 h2 h3 h11 h12 hh
   refine ⟨64 - (i+1),_,om,Wk.to (l:= [(1,.int .i64 a),(2,.int .i64 p),(3,.pointer (some ⟨0,0,none⟩)),(11,.agg ⟨zdH c⟩),(12,.int .i64 (i+1:Nat))]) (hs:= [.cells (pl c) true]) (Nat.zero_le _) hh ⟨⟨h1,rfl⟩,⟨h2,rfl⟩,⟨h3,rfl⟩,⟨h11,zfy (zhG (zhO (zae c) 3) 320)⟩,⟨?_,rfl⟩,trivial⟩ (by simp [bbel,pl_bel]),i+1,om,rfl, ?_,rfl⟩
   ·rw [h12,w64 om om];rfl
   ·rw [←hf,hstep,hto];rfl
  refine zbK (zhY (zbK (za1 (s':=_) 1 rfl (wpOps_ixA (n:=i) (v:=slotV c i) rfl rfl om (zig c ht) ?_))))
  refine qF (s':=_) rfl (seq_to [(1,.int .i64 a),(2,.int .i64 p),(3,.pointer (some ⟨0,0,none⟩)),(8,.int .i64 i),(9,.pointer (some ⟨1,0,none⟩)),(11,.agg ⟨zdH c⟩),(12,.int .i64 i)] [.cells (pl c) true,.cells (sL c i) true] (Nat.zero_le _) rfl ⟨⟨rfl,rfl⟩,⟨rfl,rfl⟩,⟨rfl,rfl⟩,⟨rfl,rfl⟩,⟨rfl,rfl⟩,⟨rfl,zfy (zhG (zhO (zae c) 3) 320)⟩,⟨rfl,rfl⟩,trivial⟩ (by simp [bbel,pl_bel,sL,sbel]) ?_)
  refine zbK (za1 (s':=_) 2 rfl (zcL (may_call (x0:=c (3+5*i)) (x1:=c (3+5*i+1)) [0,4] 2 dC rfl rfl ?_)))
  refine za1 (s':=_) 2 rfl (zaB (b:= !([0,4].contains (c (3+5*i)))) 20 rfl (fun h1=>?_) (fun h1=>?_))
  ·refine qF (s':=_) rfl (zA (zb3 (t:=(c (3+5*i+1)==a&&(c (3+5*i+2)==p&&true))) rfl (fun h2=>?_) (fun h2=>?_)))
   ·refine qF (s':=_) rfl (zA ?_)
    refine fin i true _ ?_ rfl rfl
    rw [←hf,hstep];simp only [zep,h1,h2,Bool.and_self,if_true]
   ·refine zA (qF (s':=_) rfl ?_)
    refine next ?_ _ rfl rfl rfl rfl rfl rfl
    simp only [zep,h2,Bool.and_false]
  ·refine qF (s':=_) rfl (zA (zb3 (t:=false) rfl (fun h=>by cases h) (fun h2=>?_)))
   refine zA (qF (s':=_) rfl (next ?_ _ rfl rfl rfl rfl rfl rfl))
   simp only [zep,h1,Bool.false_and]
 ·refine zA (qF (s':=_) rfl (zA ?_))
  have ht: ¬i < 64:=by have:=of_decide_eq_false ht;omega
  refine fin 0 false _ ?_ rfl rfl
  rw [←hf,show 64 - i=0 by omega];rfl
end Go.Rh

set_option maxHeartbeats 8000000
namespace Go.Rh
end Go.Rh

namespace Go.Rh
end Go.Rh

set_option maxHeartbeats 8000000
namespace Go.Rh
def zeD (n lo hi:Int):Bool:=decide (n < lo) || decide (n > hi)
theorem outC {P:Program} [PrC P] (n lo hi:Int):
  Env P "roundhouse/roundhouseref6.out" [.int .i64 n,.int .i64 lo,.int .i64 hi] [] (Ans (.bool (zeD n lo hi)) []):=by
 refine Env.of PrC.ref6_out ?_
 unfold wpF zjK
 refine qF (s':=_) rfl (zA (zbK (za1 (s':=_) 4 rfl (zaB (b:=decide (n < lo)) 10 rfl (fun h=>?_) (fun h=>?_)))))
 ·refine qF (s':=_) rfl (zA ?_)
  exact z7 [.bool true] rfl rfl (by simp only [one,zeD,h,Bool.true_or]) rfl rfl
 ·refine qF (s':=_) rfl (zA ?_)
  exact z7 [.bool (decide (n > hi))] rfl rfl (by simp only [one,zeD,h,Bool.false_or]) rfl rfl
theorem refNextC {P:Program} [PrC P] {x0 y1 y2 y3 y4 y5 y6 k1 k2:Int} :
  Env P "roundhouse/roundhouseref5.Next" [.agg #[.int .i64 x0,.int .u64 y1,.int .u64 y2,.int .u64 y3,.int .u64 y4,.int .u64 y5,.int .u64 y6],.agg #[.int .u64 k1,.int .u64 k2]] []
   (Ans (.agg #[.int .i64 (i64.wrap (x0+1)),.int .u64 y3,.int .u64 y4,.int .u64 y5,.int .u64 y6,.int .u64 k1,.int .u64 k2]) []):=by
 refine Env.of PrC.ref5_Next ?_
 unfold wpF ziP
 exact qF (s':=_) rfl (zA (qF (s':=_) rfl (zA (z7 [.agg #[.int .i64 (i64.wrap (x0+1)),.int .u64 y3,.int .u64 y4,.int .u64 y5,.int .u64 y6,.int .u64 k1,.int .u64 k2]] rfl rfl rfl rfl rfl))))
def zdZ (n:Int):Int:=IntKind.u64.wrap (IntKind.u64.wrap n*11400714819323198485)
def zdY (n:Int):Int:=IntKind.u64.wrap (BitVec.ofInt IntKind.u64.bits (IntKind.u64.wrap n)^^^BitVec.ofInt IntKind.u64.bits 19088743).toNat
def keyV (n:Int):Value:= .agg #[.int .u64 (zdZ n),.int .u64 (zdY n)]
theorem KeyC {P:Program} [PrC P] (n:Int):
  Env P "roundhouse/roundhouselaw5.Key" [.int .i64 n] [] (Ans (keyV n) []):=by
 refine Env.of PrC.law5_Key ?_
 unfold wpF zjU
 exact qF (s':=_) rfl (zA (qF (s':=_) rfl (zA (z7 [keyV n] rfl rfl rfl rfl rfl))))
def zC (at_ n:Int):Int:=if at_.tmod n < 0 then i64.wrap (at_.tmod n+n) else at_.tmod n
theorem withinC {P:Program} [PrC P] (x n:Int) (hn:n≠0):
  Env P "roundhouse/roundhouselaw6.within" [.int .i64 x,.int .i64 n] [] (Ans (.int .i64 (zC x n)) []):=by
 refine Env.of PrC.law6_within ?_
 unfold wpF zgu
 refine qF (s':=_) rfl (zA (zbK (za1 (s':=_) 2 rfl (zfi (v:= .int .i64 (x.tmod n)) (e:= .no) rfl ?_ ?_))))
 ·show (match (if n=0 then (none:Option Value) else some (.int .i64 (x.tmod n))) with | some v=>some (v,Eff.no) | none=>none)=_
  rw [if_neg hn]
 refine qF (s':=_) rfl (zA (wpC_cut (fun s=>s=⟨reg [(5,.int .i64 (zC x n))],[]⟩) ?_ ?_))
 ·refine zbK (qF (s':=_) rfl (zA (zb3 (t:=decide (x.tmod n < 0)) rfl (fun h=>?_) (fun h=>?_))))
  ·have h:=of_decide_eq_true h
   exact qF (s':=_) rfl (⟨_,Wk.to (l:= [(5,.int .i64 (zC x n))]) (hs:= []) (Nat.zero_le _) rfl ⟨⟨by simp only [zC,if_pos h];rfl,rfl⟩,trivial⟩ rfl,rfl⟩)
  ·have h:=of_decide_eq_false h
   exact ⟨_,Wk.to (l:= [(5,.int .i64 (zC x n))]) (hs:= []) (Nat.zero_le _) rfl ⟨⟨by simp only [zC,if_neg h];rfl,rfl⟩,trivial⟩ rfl,rfl⟩
 ·rintro s rfl
  exact qF (s':=_) rfl (zA (z7 [.int .i64 (zC x n)] rfl rfl rfl rfl rfl))
end Go.Rh

set_option maxHeartbeats 8000000
namespace Go.Rh
def zeR (x:Int):Bool:=x==1 || (x==2 || x==3)
theorem refTakesC {P:Program} [PrC P] (x0 x1 x2 x3 x4:Int):
  Env P "roundhouse/roundhouseref6.Takes" [.agg #[.int .i64 x0,.int .i64 x1,.int .i64 x2,.int .i64 x3,.int .i64 x4]] [] (Ans (.bool (zeR x0)) []):=by
 refine Env.of PrC.ref6_Takes ?_
 unfold wpF zhj
 refine qF (s':=_) rfl (zA (zbK (za1 (s':=_) 4 rfl (zaB (b:=x0==1) 6 rfl (fun h=>?_) (fun h=>?_)))))
 ·refine qF (s':=_) rfl (zA ?_)
  exact z7 [.bool true] rfl rfl (by simp only [one,zeR,h,Bool.true_or]) rfl rfl
 ·refine za1 (s':=_) 5 rfl (zaB (b:=x0==2) 11 rfl (fun h2=>?_) (fun h2=>?_))
  ·refine qF (s':=_) rfl (zA ?_)
   exact z7 [.bool true] rfl rfl (by simp only [one,zeR,h,h2,Bool.true_or,Bool.or_true]) rfl rfl
  ·refine qF (s':=_) rfl (zA ?_)
   exact z7 [.bool (x0==3)] rfl rfl (by simp only [one,zeR,h,h2,Bool.false_or]) rfl rfl
theorem zed (a p:Int):(zeD a 0 4294967295 || zeD p 0 65535)= !(zbh a p):=by
 simp only [zeD,zbh]
 by_cases h1:a < 0<;>by_cases h2:a > 4294967295<;>by_cases h3:p < 0<;>by_cases h4:p > 65535<;>simp [h1,h2,h3,h4]<;>omega
theorem refCheckC {P:Program} [PrC P] (e:Ent):
  Env P "roundhouse/roundhouseref6.Check" [entV e] [] (Ans (.int .i64 (zbk e)) []):=by
 refine Env.of PrC.ref6_Check ?_
 unfold wpF zhk
 have hb:([.cells (eL e) true]:List Blk).all (bbel 1)=true:=by simp [bbel,eL,sbel]
 have fin: ∀(x:Int) (s:St),zbk e=x→s.f 2= .int .i64 x→True∧∃l',zf1 s [.tmp 2]=some l'∧(∀v∈l',zbt v=false)∧(Ans (.int .i64 (zbk e)) [] (one l') s.h∨(vpf (one l')=true∧(∀b∈s.h.take 0,zhR b=true)∧Ans (.int .i64 (zbk e)) [] (one l') (s.h.take 0))):=by
  intro x s hx h2
  exact z7 [.int .i64 x] (by simp [zf1,h2]) rfl (by rw [hx];rfl) rfl rfl
 refine qF (s':=_) rfl (seq_to [(1,.pointer (some ⟨0,0,none⟩))] [.cells (eL e) true] (Nat.zero_le _) rfl ⟨⟨rfl,rfl⟩,trivial⟩ hb (zbK (wpD_all (log':=_) (s':=_) rfl (seq_to [(1,.pointer (some ⟨0,0,none⟩)),(3,.bool (e.k==1)),(4,.bool (e.k==6))] [.cells (eL e) true] (Nat.zero_le _) rfl ⟨⟨rfl,rfl⟩,⟨rfl,rfl⟩,⟨rfl,rfl⟩,trivial⟩ hb ?_))))
 have tob: ∀(t:Nat) (b:Bool) (s:St),s.f 1= .pointer (some ⟨0,0,none⟩)→s.f 3= .bool (e.k==1)→s.f 4= .bool (e.k==6)→s.f t= .bool b→s.h.take 1= [.cells (eL e) true]→
   ∃s0,Wk 0 s s0∧s0=⟨reg [(1,.pointer (some ⟨0,0,none⟩)),(3,.bool (e.k==1)),(4,.bool (e.k==6)),(t,.bool b)],[.cells (eL e) true]⟩:=by
  intro t b s h1 h3 h4 ht hh
  exact ⟨_,Wk.to (l:= [(1,.pointer (some ⟨0,0,none⟩)),(3,.bool (e.k==1)),(4,.bool (e.k==6)),(t,.bool b)]) (hs:= [.cells (eL e) true]) (Nat.zero_le _) hh ⟨⟨h1,rfl⟩,⟨h3,rfl⟩,⟨h4,rfl⟩,⟨ht,rfl⟩,trivial⟩ hb,rfl⟩
 refine zbK (zhY (zbK (za1 (s':=_) 2 rfl (zcL (zab (outC e.k 1 6) rfl rfl rfl (qF (s':=_) rfl (zA (zb3 (t:=zeD e.k 1 6) rfl (fun h1=>?_) (fun h1=>?_)))))))))
 ·refine zbK (qF (s':=_) rfl (zA (fin 2 _ ?_ rfl)))
  have:e.k < 1∨6 < e.k:=by simpa [zeD] using h1
  simp [zbk,this]
 have h1: ¬(e.k < 1∨6 < e.k):=by
  intro h;have:zeD e.k 1 6=true:=by simpa [zeD] using h
  rw [this] at h1;cases h1
 refine wpC_cut (fun s=>s=⟨reg [(1,.pointer (some ⟨0,0,none⟩)),(3,.bool (e.k==1)),(4,.bool (e.k==6)),(15,.bool (zeD e.s 0 63 || (e.k==6&&e.s !=0)))],[.cells (eL e) true]⟩) ?_ ?_
 ·refine za1 (s':=_) 2 rfl (zcL (zab (outC e.s 0 63) rfl rfl rfl ?_))
  refine za1 (s':=_) 1 rfl (zaB (b:=zeD e.s 0 63) 19 rfl (fun h=>?_) (fun h=>?_))
  ·have hB:(zeD e.s 0 63 || (e.k==6&&e.s !=0))=true:=by rw [h];rfl
   rw [hB]
   exact qF (s':=_) rfl (tob 15 true _ rfl rfl rfl rfl rfl)
  ·refine za1 (s':=_) 2 rfl (zaB (b:=e.k==6) 21 rfl (fun h2=>?_) (fun h2=>?_))
   ·have hB:(zeD e.s 0 63 || (e.k==6&&e.s !=0))=(e.s !=0):=by rw [h,h2];rfl
    rw [hB]
    exact qF (s':=_) rfl (tob 15 (e.s !=0) _ rfl rfl rfl rfl rfl)
   ·have hB:(zeD e.s 0 63 || (e.k==6&&e.s !=0))=false:=by rw [h,h2];rfl
    rw [hB]
    exact qF (s':=_) rfl (tob 15 false _ rfl rfl rfl rfl rfl)
 rintro s rfl
 refine zb3 (t:=(zeD e.s 0 63 || (e.k==6&&e.s !=0))) rfl (fun h2=>?_) (fun h2=>?_)
 ·refine zbK (qF (s':=_) rfl (zA (fin 11 _ ?_ rfl)))
  have:e.s < 0∨64≤e.s∨(e.k=6∧e.s≠0):=by
   simp [zeD] at h2;omega
  simp only [zbk,h1,this,if_true,if_false]
 have hs1: ¬(e.s < 0∨64≤e.s∨(e.k=6∧e.s≠0)):=by
  simp [zeD] at h2;omega
 refine wpC_cut (fun s=>s=⟨reg [(1,.pointer (some ⟨0,0,none⟩)),(3,.bool (e.k==1)),(4,.bool (e.k==6)),(27,.bool (e.k==1&&((zeD e.a 0 4294967295 || zeD e.p 0 65535) || zeD e.g 1 8)))],[.cells (eL e) true]⟩) ?_ ?_
 ·generalize hB:(e.k==1&&((zeD e.a 0 4294967295 || zeD e.p 0 65535) || zeD e.g 1 8))=B
  refine za1 (s':=_) 2 rfl (zaB (b:=e.k==1) 29 rfl (fun g1=>?_) (fun g1=>?_))
  ·refine za1 (s':=_) 2 rfl (zdf rfl (zcL (zab (outC e.a 0 4294967295) rfl rfl rfl ?_)))
   refine za1 (s':=_) 1 rfl (zaB (b:=zeD e.a 0 4294967295) 33 rfl (fun g2=>?_) (fun g2=>?_))
   ·have:B=true:=by rw [←hB,g1,g2];rfl
    subst this
    exact qF (s':=_) rfl (tob 27 true _ rfl rfl rfl rfl rfl)
   ·refine za1 (s':=_) 2 rfl (zdf rfl (zcL (zab (outC e.p 0 65535) rfl rfl rfl ?_)))
    refine za1 (s':=_) 2 rfl (zaB (b:=zeD e.p 0 65535) 38 rfl (fun g3=>?_) (fun g3=>?_))
    ·have:B=true:=by rw [←hB,g1,g2,g3];rfl
     subst this
     exact qF (s':=_) rfl (tob 27 true _ rfl rfl rfl rfl rfl)
    ·have:B=zeD e.g 1 8:=by rw [←hB,g1,g2,g3];rfl
     subst this
     exact za1 (s':=_) 2 rfl (zdf rfl (zcL (zab (outC e.g 1 8) rfl rfl rfl (qF (s':=_) rfl (tob 27 (zeD e.g 1 8) _ rfl rfl rfl rfl rfl)))))
  ·have:B=false:=by rw [←hB,g1];rfl
   subst this
   exact qF (s':=_) rfl (tob 27 false _ rfl rfl rfl rfl rfl)
 rintro s rfl
 refine zb3 (t:=(e.k==1&&((zeD e.a 0 4294967295 || zeD e.p 0 65535) || zeD e.g 1 8))) rfl (fun h3=>?_) (fun h3=>?_)
 ·refine zbK (qF (s':=_) rfl (zA (fin 14 _ ?_ rfl)))
  rw [zed] at h3
  have:e.k=1∧(zbh e.a e.p=false∨e.g < 1∨8 < e.g):=by simpa [zeD] using h3
  unfold zbk;rw [if_neg h1,if_neg hs1,if_pos this]
 have hp1: ¬(e.k=1∧(zbh e.a e.p=false∨e.g < 1∨8 < e.g)):=by
  intro h
  rw [zed] at h3
  have:(e.k==1&&(!zbh e.a e.p || zeD e.g 1 8))=true:=by simpa [zeD] using h
  rw [this] at h3;cases h3
 refine wpC_cut (fun s=>s=⟨reg [(1,.pointer (some ⟨0,0,none⟩)),(3,.bool (e.k==1)),(4,.bool (e.k==6)),(44,.bool ((!(e.k==1)&&((e.a !=0 || e.p !=0) || e.g !=0)) || (!(e.k==6)&& !(e.ka==0&&(e.kb==0&&true)))))],[.cells (eL e) true]⟩) ?_ ?_
 ·generalize hB:((!(e.k==1)&&((e.a !=0 || e.p !=0) || e.g !=0)) || (!(e.k==6)&& !(e.ka==0&&(e.kb==0&&true))))=B
  have tail: ∀(s:St),(!(e.k==1)&&((e.a !=0 || e.p !=0) || e.g !=0))=false→s=s→True:=fun _ _ _=>trivial
  refine za1 (s':=_) 3 rfl (zaB (b:= !(e.k==1)) 47 rfl (fun g1=>?_) (fun g1=>?_))
  ·refine za1 (s':=_) 4 rfl (zaB (b:=e.a !=0) 51 rfl (fun g2=>?_) (fun g2=>?_))
   ·have:B=true:=by rw [←hB,g1,g2];rfl
    subst this
    exact qF (s':=_) rfl (tob 44 true _ rfl rfl rfl rfl rfl)
   ·refine za1 (s':=_) 5 rfl (zaB (b:=e.p !=0) 56 rfl (fun g3=>?_) (fun g3=>?_))
    ·have:B=true:=by rw [←hB,g1,g2,g3];rfl
     subst this
     exact qF (s':=_) rfl (tob 44 true _ rfl rfl rfl rfl rfl)
    ·refine za1 (s':=_) 6 rfl (zaB (b:=e.g !=0) 62 rfl (fun g4=>?_) (fun g4=>?_))
     ·have:B=true:=by rw [←hB,g1,g2,g3,g4];rfl
      subst this
      exact qF (s':=_) rfl (tob 44 true _ rfl rfl rfl rfl rfl)
     ·refine za1 (s':=_) 3 rfl (zaB (b:= !(e.k==6)) 65 rfl (fun g5=>?_) (fun g5=>?_))
      ·have:B= !(e.ka==0&&(e.kb==0&&true)):=by rw [←hB,g1,g2,g3,g4,g5];rfl
       subst this
       exact qF (s':=_) rfl (tob 44 (!(e.ka==0&&(e.kb==0&&true))) _ rfl rfl rfl rfl rfl)
      ·have:B=false:=by rw [←hB,g1,g2,g3,g4,g5];rfl
       subst this
       exact qF (s':=_) rfl (tob 44 false _ rfl rfl rfl rfl rfl)
  ·refine za1 (s':=_) 18 rfl (zaB (b:= !(e.k==6)) 65 rfl (fun g5=>?_) (fun g5=>?_))
   ·have:B= !(e.ka==0&&(e.kb==0&&true)):=by rw [←hB,g1,g5];rfl
    subst this
    exact qF (s':=_) rfl (tob 44 (!(e.ka==0&&(e.kb==0&&true))) _ rfl rfl rfl rfl rfl)
   ·have:B=false:=by rw [←hB,g1,g5];rfl
    subst this
    exact qF (s':=_) rfl (tob 44 false _ rfl rfl rfl rfl rfl)
 have h5:((!(e.k==1)&&((e.a !=0 || e.p !=0) || e.g !=0)) || (!(e.k==6)&& !(e.ka==0&&(e.kb==0&&true))))=decide ((e.k≠1∧(e.a≠0∨e.p≠0∨e.g≠0))∨(e.k≠6∧(e.ka≠0∨e.kb≠0))):=by
  by_cases q1:e.k=1<;>by_cases q2:e.a=0<;>by_cases q3:e.p=0<;>by_cases q4:e.g=0<;>by_cases q5:e.k=6<;>by_cases q6:e.ka=0<;>by_cases q7:e.kb=0<;>simp [q1,q2,q3,q4,q5,q6,q7]
 rintro s rfl
 refine zb3 (t:=((!(e.k==1)&&((e.a !=0 || e.p !=0) || e.g !=0)) || (!(e.k==6)&& !(e.ka==0&&(e.kb==0&&true))))) rfl (fun h4=>?_) (fun h4=>?_)
 ·refine zbK (qF (s':=_) rfl (zA (fin 14 _ ?_ rfl)))
  rw [h5] at h4
  unfold zbk;rw [if_neg h1,if_neg hs1,if_neg hp1,if_pos (of_decide_eq_true h4)]
 ·refine zA (qF (s':=_) rfl (zA (fin 0 _ ?_ rfl)))
  rw [h5] at h4
  unfold zbk;rw [if_neg h1,if_neg hs1,if_neg hp1,if_neg (of_decide_eq_false h4)]
end Go.Rh

set_option maxHeartbeats 8000000
namespace Go.Rh
theorem upd_eq (c:qZ) (i:Nat) (v:Int):upd c i v i=v:=by simp [upd]
theorem zeP (c:qZ) {i k:Nat} (v:Int) (h:k≠i):upd c i v k=c k:=by simp [upd,h]
theorem zga (d:qZ) (k:Nat) (x:Int):qA d k x (d (3+5*k+1)) (d (3+5*k+2)) (d (3+5*k+3)) (d (3+5*k+4))=upd d (3+5*k) x:=by
 funext i;simp only [qA,upd];repeat' split
 all_goals first | rfl | (subst_vars;first | rfl | omega)
theorem zjk (d:qZ) (k:Nat) (x y:Int):qA d k x (d (3+5*k+1)) (d (3+5*k+2)) (d (3+5*k+3)) y=upd (upd d (3+5*k) x) (3+5*k+4) y:=by
 funext i;simp only [qA,upd];repeat' split
 all_goals first | rfl | (subst_vars;first | rfl | omega)
theorem setSlot_5 (d:qZ) (k:Nat):qA d k (d (3+5*k)) (d (3+5*k+1)) (d (3+5*k+2)) (d (3+5*k+3)) (d (3+5*k+4))=d:=by
 funext i;simp only [qA,upd];repeat' split
 all_goals first | rfl | (subst_vars;first | rfl | omega)
theorem setSlot_id {d:qZ} {k:Nat} {x0 x1 x2 x3 x4:Int} (h0:x0=d (3+5*k)) (h1:x1=d (3+5*k+1)) (h2:x2=d (3+5*k+2)) (h3:x3=d (3+5*k+3)) (h4:x4=d (3+5*k+4)):qA d k x0 x1 x2 x3 x4=d:=by
 subst h0 h1 h2 h3 h4;exact setSlot_5 d k
theorem zev (c:qZ) (x0 x1 x2 x3 x4 x5 x6:Int) {i:Nat} (h:i < 323):upd (upd (upd (upd (upd (upd (upd c 323 x0) 324 x1) 325 x2) 326 x3) 327 x4) 328 x5) 329 x6 i=c i:=by
 simp only [upd];rw [if_neg om,if_neg om,if_neg om,if_neg om,if_neg om,if_neg om,if_neg om]
theorem check_s {e:Ent} (h: ¬(zbk e≠0)):0≤e.s∧e.s < 64:=by
 have h1:zbk e=0:=Decidable.of_not_not h
 unfold zbk at h1
 split at h1
 ·cases h1
 ·split at h1
  ·cases h1
  ·omega
theorem check_k {e:Ent} (h: ¬(zbk e≠0)):1≤e.k∧e.k≤6:=by
 have h1:zbk e=0:=Decidable.of_not_not h
 unfold zbk at h1
 split at h1
 ·cases h1
 ·omega
abbrev yD (a:Int) (b:Int) (c:Int) (d:Int) (e:Int) (f:Int):=[uv a,uv b,uv c,uv d,uv e,uv f]
abbrev vh:=[iv 0,uv 0,uv 0,uv 0,uv 0,uv 0,uv 0]
abbrev vQ a (b:Int):=[(6,iv a),(5,pv 2 0),(4,pv 1 0),(0,iv b),(1,sv 0 0 3 3)]
abbrev W5 a:=[(14,bv true),(13,bv true),(12,iv a),(11,bv true),(10,bv true),(9,iv 3),(8,sv 0 0 3 3),(7,iv a)]
theorem refRingC {P:Program} [PrC P] (x a1 b1 a2 b2 a3 b3:Int):
  Env P "roundhouse/roundhouseref5.Ring" [iv x,sv 0 0 3 3] (roL [(yD a1 b1 a2 b2 a3 b3)]) (Ans (.agg #[iv x,uv a1,uv b1,uv a2,uv b2,uv a3,uv b3]) (roL [(yD a1 b1 a2 b2 a3 b3)])):=by
 refine Env.by PrC.ref5_Ring ?_
 unfold ziO
 show GC _ 1 _ _ ⟨reg [(0,iv x),(1,sv 0 0 3 3)],[cr (yD a1 b1 a2 b2 a3 b3)]⟩
 refine zJ (zN (o_b 1 [(4,pv 1 0)] [cr (yD a1 b1 a2 b2 a3 b3),cw vh] (zE (zA (zJ (zN (o_b 1 [(5,pv 2 0)] [cr (yD a1 b1 a2 b2 a3 b3),cw vh,cw [uv 0,uv 0,uv 0,uv 0,uv 0,uv 0]] (zE (zA (zJ (zJ (zN ?_))))))))))))
 refine o_d 1 [(6,iv 0)] (zE (zA (qU (zcs (fun μ s=>(μ=3∧s=⟨reg (vQ 0 x),[cr (yD a1 b1 a2 b2 a3 b3),cw vh,cw [uv 0,uv 0,uv 0,uv 0,uv 0,uv 0]]⟩)∨(μ=2∧s=⟨reg (vQ 1 x),[cr (yD a1 b1 a2 b2 a3 b3),cw vh,cw [uv a1,uv b1,uv 0,uv 0,uv 0,uv 0]]⟩)∨(μ=1∧s=⟨reg (vQ 2 x),[cr (yD a1 b1 a2 b2 a3 b3),cw vh,cw [uv a1,uv b1,uv a2,uv b2,uv 0,uv 0]]⟩)∨(μ=0∧s=⟨reg (vQ 3 x),[cr (yD a1 b1 a2 b2 a3 b3),cw vh,cw (yD a1 b1 a2 b2 a3 b3)]⟩)) ⟨3, ?_⟩ ?_))))
 ·skip
  refine ⟨⟨reg (vQ 0 x),[cr (yD a1 b1 a2 b2 a3 b3),cw vh,cw [uv 0,uv 0,uv 0,uv 0,uv 0,uv 0]]⟩, ?_⟩
  refine ⟨?_, ?_⟩
  ·exact Wk.ren [0,1,2] rfl rfl dC ⟨rfl,rfl,rfl,rfl,rfl,trivial⟩ ⟨.inl rfl,.inl rfl,.inl rfl,trivial⟩
  ·exact .inl ⟨rfl,rfl⟩
 ·rintro μ s (⟨rfl,rfl⟩ | ⟨rfl,rfl⟩ | ⟨rfl,rfl⟩ | ⟨rfl,rfl⟩)
  ·skip
   refine zJ (zJ (zN (o_d 8 (W5 0) (zE (zA (zc8 rfl (qK (zA (zJ (qU (zN (o_b 7 [(22,pv 2 0),(21,.agg #[uv a1,uv b1]),(20,pv 0 0),(19,iv 0),(18,sv 0 0 3 3),(17,iv 0)] [cr (yD a1 b1 a2 b2 a3 b3),cw vh,cw [uv a1,uv b1,uv 0,uv 0,uv 0,uv 0]] ?_))))))))))))
   refine zE (zA (zN (o_d 3 [(6,iv 1),(16,iv 1),(15,iv 0)] (zE (⟨2, ?_⟩)))))
   refine ⟨⟨reg (vQ 1 x),[cr (yD a1 b1 a2 b2 a3 b3),cw vh,cw [uv a1,uv b1,uv 0,uv 0,uv 0,uv 0]]⟩, ?_⟩
   refine zde dC ⟨?_, ?_⟩
   ·exact Wk.ren [0,1,2] rfl rfl dC ⟨rfl,rfl,rfl,rfl,rfl,trivial⟩ ⟨.inl rfl,.inl rfl,.inl rfl,trivial⟩
   ·exact .inr (.inl ⟨rfl,rfl⟩)
  ·skip
   refine zJ (zJ (zN (o_d 8 (W5 1) (zE (zA (zc8 rfl (qK (zA (zJ (qU (zN (o_b 7 [(22,pv 2 2),(21,.agg #[uv a2,uv b2]),(20,pv 0 2),(19,iv 1),(18,sv 0 0 3 3),(17,iv 1)] [cr (yD a1 b1 a2 b2 a3 b3),cw vh,cw [uv a1,uv b1,uv a2,uv b2,uv 0,uv 0]] ?_))))))))))))
   refine zE (zA (zN (o_d 3 [(6,iv 2),(16,iv 2),(15,iv 1)] (zE (⟨1, ?_⟩)))))
   refine ⟨⟨reg (vQ 2 x),[cr (yD a1 b1 a2 b2 a3 b3),cw vh,cw [uv a1,uv b1,uv a2,uv b2,uv 0,uv 0]]⟩, ?_⟩
   refine zde dC ⟨?_, ?_⟩
   ·exact Wk.ren [0,1,2] rfl rfl dC ⟨rfl,rfl,rfl,rfl,rfl,trivial⟩ ⟨.inl rfl,.inl rfl,.inl rfl,trivial⟩
   ·exact .inr (.inr (.inl ⟨rfl,rfl⟩))
  ·skip
   refine zJ (zJ (zN (o_d 8 (W5 2) (zE (zA (zc8 rfl (qK (zA (zJ (qU (zN (o_b 7 [(22,pv 2 4),(21,.agg #[uv a3,uv b3]),(20,pv 0 4),(19,iv 2),(18,sv 0 0 3 3),(17,iv 2)] [cr (yD a1 b1 a2 b2 a3 b3),cw vh,cw (yD a1 b1 a2 b2 a3 b3)] ?_))))))))))))
   refine zE (zA (zN (o_d 3 [(6,iv 3),(16,iv 3),(15,iv 2)] (zE (⟨0, ?_⟩)))))
   refine ⟨⟨reg (vQ 3 x),[cr (yD a1 b1 a2 b2 a3 b3),cw vh,cw (yD a1 b1 a2 b2 a3 b3)]⟩, ?_⟩
   refine zde dC ⟨?_, ?_⟩
   ·exact Wk.ren [0,1,2] rfl rfl dC ⟨rfl,rfl,rfl,rfl,rfl,trivial⟩ ⟨.inl rfl,.inl rfl,.inl rfl,trivial⟩
   ·exact .inr (.inr (.inr (⟨rfl,rfl⟩)))
  ·skip
   refine zJ (zJ (zN (o_d 8 [(14,bv false),(13,undef),(12,undef),(11,bv false),(10,bv false),(9,iv 3),(8,sv 0 0 3 3),(7,iv 3)] (zE (zA (zbc rfl (zb1 (zA (zJ (zN (o_b 9 [(30,.agg #[iv x,uv a1,uv b1,uv a2,uv b2,uv a3,uv b3]),(29,.agg #[uv a3,uv b3]),(28,pv 2 4),(27,.agg #[uv a2,uv b2]),(26,pv 2 2),(25,.agg #[uv a1,uv b1]),(24,pv 2 0),(23,iv x)] [cr (yD a1 b1 a2 b2 a3 b3),cw [iv x,uv a1,uv b1,uv a2,uv b2,uv a3,uv b3],cw (yD a1 b1 a2 b2 a3 b3)] (zE ?_))))))))))))
   exact zA (qW (z7 [.agg #[iv x,uv a1,uv b1,uv a2,uv b2,uv a3,uv b3]] (q8 rfl rfl rfl rfl) rfl (by rfl) rfl rfl))
abbrev wj (a:qZ) (b:Nat):=[iv (a (3+5*b)),iv (a (3+5*b+1)),iv (a (3+5*b+2)),iv (a (3+5*b+3)),iv (a (3+5*b+4))]
abbrev vz (a:qZ) (b:Nat):=#[iv (a (3+5*b)),iv (a (3+5*b+1)),iv (a (3+5*b+2)),iv (a (3+5*b+3)),iv (a (3+5*b+4))]
theorem refHeldC {P:Program} [PrC P] (c:qZ) (a p:Int):
  Env P "roundhouse/roundhouseref6.Held" [zaw c,iv a,iv p] ([]) (Ans (.bool (zfC c a p)) ([])):=by
 refine Env.by PrC.ref6_Held ?_
 unfold ziK
 show GC _ 0 _ _ ⟨reg [(0,zaw c),(1,iv a),(2,iv p)],[]⟩
 refine zJ (zN (o_b 2 [(6,bv false),(3,pv 0 0)] [cw (pl c)] (zE (zA (zJ (zJ (zN (o_d 1 [(7,iv 0)] (zE (zA (qU (zcs (fun μ s=> ∃(i:Nat),μ=64 - i∧(i≤64)∧(zfG c a p i=false)∧s=⟨reg [(7,iv (i:Int)),(3,pv 0 0),(1,iv a),(2,iv p)],[cw (pl c)]⟩) ⟨(64 - 0), ?_⟩ ?_))))))))))))
 ·skip
  refine ⟨⟨reg [(7,iv (0:Int)),(3,pv 0 0),(1,iv a),(2,iv p)],[cw (pl c)]⟩, ?_⟩
  refine ⟨?_, ?_⟩
  ·exact Wk.ren [0] rfl rfl dC ⟨rfl,rfl,rfl,rfl,trivial⟩ ⟨.inl (zL (zae c)),trivial⟩
  ·exact ⟨0,rfl,om,rfl,rfl⟩
 rintro μ s ⟨i,rfl,hi,hto,rfl⟩
 refine zJ (zJ (zN (o_d 2 [(10,bv (decide ((i:Int) < 64))),(9,iv (i:Int))] (zE (zA (qJ (t:=decide ((i:Int) < 64)) rfl (fun h1=>?_) (fun h1=>?_)))))))
 ·skip
  have h1':(i:Int) < 64:=of_decide_eq_true h1
  refine qK (zA (zJ (qU (zJ (zN (o_d 2 [(14,pv 0 3),(13,iv (i:Int))] (o_s (by exact zaA (o:=3) (o':=3+5*i) rfl rfl om om) ?_)))))))
  refine o_s (by refine zV (v:= .agg (vz c i)) rfl rfl ?_;exact pl_rS c i om om) ?_
  refine o_b 2 [(8,pv 1 0)] [cw (pl c),cw (wj c i)] (zE (zA (zJ (zN (o_d 4 [(20,bv ((c (3+5*i))!=0)),(19,bv ((c (3+5*i))!=0)),(18,iv (c (3+5*i))),(17,pv 1 0)] (zbJ (b:=(c (3+5*i))!=0) 20 rfl (fun h2=>?_) (fun h2=>?_)))))))
  ·skip
   have h2':c (3+5*i)≠0:=ze5 h2
   refine o_d 6 [(26,bv ((c (3+5*i+1))==a)),(25,bv ((c (3+5*i+1))==a)),(24,bv ((c (3+5*i+1))==a)),(23,iv a),(22,iv (c (3+5*i+1))),(21,pv 1 1)] (zbJ (b:=(c (3+5*i+1))==a) 26 rfl (fun h3=>?_) (fun h3=>?_))
   ·skip
    have h3':c (3+5*i+1)=a:=zaQ h3
    refine o_d 5 [(31,bv ((c (3+5*i+2))==p)),(30,bv ((c (3+5*i+2))==p)),(29,iv p),(28,iv (c (3+5*i+2))),(27,pv 1 2)] (zE (zU [(31,bv ((c (3+5*i+2))==p)),(7,iv (i:Int)),(3,pv 0 0),(1,iv a),(2,iv p)] (qJ (t:=(c (3+5*i+2))==p) rfl (fun h4=>?_) (fun h4=>?_))))
    ·skip
     have h4':c (3+5*i+2)=p:=zaQ h4
     refine zJ (zN (o_d 1 [(6,bv true)] (zE (zA (qW ?_)))))
     have E0_:zfC c a p=true:=by
      simp [zfC,heldTo_of c a p (i:=i) (n:=64) om (by simp [zfS,h1,h1',h2,h2',h3,h3',h4,h4'])]
     exact z7 [bv true] (zT rfl rfl) rfl (by rw [E0_];rfl) rfl rfl
    have h4': ¬(c (3+5*i+2)=p):=zaR h4
    refine qK (zA (zN (o_d 1 [(11,iv (i:Int))] (o_s (by refine zK (v:= .int .i64 (i64.wrap ((i:Int)+1))) (congrArg wg (w64 om om)) ?_;kernel_rfl) ?_))))
    refine o_d 1 [(7,iv ((i:Int)+1))] (zE (⟨64 - (i+1), ?_⟩))
    refine ⟨⟨reg [(7,iv ((i+1):Int)),(3,pv 0 0),(1,iv a),(2,iv p)],[cw (pl c)]⟩, ?_⟩
    refine zde om ⟨?_, ?_⟩
    ·exact Wk.ren [0] rfl rfl dC ⟨rfl,rfl,rfl,rfl,trivial⟩ ⟨.inl (zL (zae c)),trivial⟩
    ·exact ⟨(i+1),rfl,om,(by simp [zfG,hto,zfS,h1,h1',h2,h2',h3,h3',h4,h4']),rfl⟩
   have h3': ¬(c (3+5*i+1)=a):=zaR h3
   refine o_d 5 [(31,bv false),(30,undef),(29,undef),(28,undef),(27,undef)] (zE (zU [(31,bv false),(7,iv (i:Int)),(3,pv 0 0),(1,iv a),(2,iv p)] (zbc rfl (qK (zA (zN (o_d 1 [(11,iv (i:Int))] (o_s (by refine zK (v:= .int .i64 (i64.wrap ((i:Int)+1))) (congrArg wg (w64 om om)) ?_;kernel_rfl) ?_))))))))
   refine o_d 1 [(7,iv ((i:Int)+1))] (zE (⟨64 - (i+1), ?_⟩))
   refine ⟨⟨reg [(7,iv ((i+1):Int)),(3,pv 0 0),(1,iv a),(2,iv p)],[cw (pl c)]⟩, ?_⟩
   refine zde om ⟨?_, ?_⟩
   ·exact Wk.ren [0] rfl rfl dC ⟨rfl,rfl,rfl,rfl,trivial⟩ ⟨.inl (zL (zae c)),trivial⟩
   ·exact ⟨(i+1),rfl,om,(by simp [zfG,hto,zfS,h1,h1',h2,h2',h3,h3']),rfl⟩
  have h2': ¬(c (3+5*i)≠0):=ze6 h2
  refine o_d 11 ((31,bv false)::(30,undef)::(29,undef)::(28,undef)::(27,undef)::(26,bv false)::(25,bv false)::(vG 24 23 22 21)) (zE (zU [(31,bv false),(7,iv (i:Int)),(3,pv 0 0),(1,iv a),(2,iv p)] (zbc rfl (qK (zA (zN (o_d 1 [(11,iv (i:Int))] (o_s (by refine zK (v:= .int .i64 (i64.wrap ((i:Int)+1))) (congrArg wg (w64 om om)) ?_;kernel_rfl) ?_))))))))
  refine o_d 1 [(7,iv ((i:Int)+1))] (zE (⟨64 - (i+1), ?_⟩))
  refine ⟨⟨reg [(7,iv ((i+1):Int)),(3,pv 0 0),(1,iv a),(2,iv p)],[cw (pl c)]⟩, ?_⟩
  refine zde om ⟨?_, ?_⟩
  ·exact Wk.ren [0] rfl rfl dC ⟨rfl,rfl,rfl,rfl,trivial⟩ ⟨.inl (zL (zae c)),trivial⟩
  ·exact ⟨(i+1),rfl,om,(by simp [zfG,hto,zfS,h1,h1',h2,h2']),rfl⟩
 have h1': ¬((i:Int) < 64):=of_decide_eq_false h1
 refine zb1 (zA (zJ (zN (o_d 1 [(32,pv 0 1)] (o_s (by refine zV (v:=iv (c 1)) rfl rfl ?_;exact zi9 c 1 rfl om) ?_)))))
 refine o_d 3 [(36,bv ((c 1)==a)),(35,bv ((c 1)==a)),(34,iv a)] (zbJ (b:=(c 1)==a) 36 rfl (fun h5=>?_) (fun h5=>?_))
 ·skip
  have h5':c 1=a:=zaQ h5
  refine o_d 1 [(37,pv 0 2)] (qB rfl (o_s (by refine zV (v:=iv (c 2)) rfl rfl ?_;exact zi9 c 2 rfl om) ?_))
  refine o_d 4 [(6,bv ((c 2)==p)),(41,bv ((c 2)==p)),(40,bv ((c 2)==p)),(39,iv p)] (zE (zA (qW ?_)))
  have E0_:zfC c a p=((c 2)==p):=by
   have hi':i=64:=om
   subst hi'
   simp [zfC,hto,h1,h1',h5,h5']<;>rfl
  exact z7 [bv ((c 2)==p)] (zT rfl rfl) rfl (by rw [E0_];rfl) rfl rfl
 have h5': ¬(c 1=a):=zaR h5
 refine o_d 6 ((6,bv false)::(41,bv false)::(vG 40 39 38 37)) (zE (zA (qW ?_)))
 have E0_:zfC c a p=false:=by
  have hi':i=64:=om
  subst hi'
  simp [zfC,hto,h1,h1',h5,h5']<;>rfl
 exact z7 [bv false] (zT rfl rfl) rfl (by rw [E0_];rfl) rfl rfl
abbrev wO (b:Ent):=[iv b.k,iv b.s,iv b.a,iv b.p,iv b.g,uv b.ka,uv b.kb]
abbrev yr (a:Nat) (b:Ent) (c:Nat) (d:Nat):=[(a,bv (b.k==c)),(d,bv (b.k==c))]
abbrev vd (a:Nat) (b:qZ) (c:Ent) (d:Nat) (e:Nat) (f:Nat):=[(a,bv ((b (3+5*c.s.toNat))!=d)),(e,bv ((b (3+5*c.s.toNat))!=d)),(f,iv (b (3+5*c.s.toNat)))]
abbrev xX (b:Ent):=#[iv b.k,iv b.s,iv b.a,iv b.p,iv b.g,uv b.ka,uv b.kb]
theorem refBadC {P:Program} [PrC P] (c:qZ) (e:Ent) (hs:0≤e.s∧e.s < 64):
  Env P "roundhouse/roundhouseref6.bad" [zaw c,.agg (xX e)] ([]) (Ans (.bool (zcv c e)) ([])):=by
 refine Env.by PrC.ref6_bad ?_
 unfold zjL
 show GC _ 0 _ _ ⟨reg [(0,zaw c),(1,.agg (xX e))],[]⟩
 refine zJ (zN (o_b 3 [(4,bv false),(3,pv 1 0),(2,pv 0 0)] [cw (pl c),cw (wO e)] (zE (zA (zJ (zN (o_d 3 [(8,pv 0 3),(7,iv e.s),(6,pv 1 1)] (o_s (by exact zaA (o:=3) (o':=3+5*e.s.toNat) rfl rfl om om) ?_))))))))
 refine o_s (by refine zci (o':=3+5*e.s.toNat) rfl om) ?_
 refine o_s (by refine zV (v:=iv (c (3+5*e.s.toNat))) rfl rfl ?_;exact zi9 c (3+5*e.s.toNat) om om) ?_
 refine o_d 1 [(5,iv (c (3+5*e.s.toNat)))] (zE (zA (zJ (zJ (zN (o_d 2 [(13,iv e.k),(12,pv 1 0)] (zE (zA (qU (zJ (zN (o_d 2 (yr 14 e 1 15) ?_))))))))))))
 refine zE (zA (qJ (t:=e.k==1) rfl (fun h1=>?_) (fun h1=>?_)))
 ·skip
  have h1':e.k=1:=zaQ h1
  refine zJ (zN (o_d 3 (vd 18 c e 0 17 16) (zbJ (b:=(c (3+5*e.s.toNat))!=0) 18 rfl (fun h2=>?_) (fun h2=>?_))))
  ·skip
   have h2':c (3+5*e.s.toNat)≠0:=ze5 h2
   refine o_d 8 ((4,bv true)::(25,bv true)::(24,undef)::(23,undef)::(vG 22 21 20 19)) (zE (zU [(4,bv true)] (qW ?_)))
   have E0_:zcv c e=true:=by
    first | (simp [zcv,h1,h1',h2,h2'];done) | (simp [zcv,h1,h1',h2,h2']<;>rfl) | (rw [Bool.eq_iff_iff];simp [zcv,h1,h1',h2,h2'];done) | (rw [Bool.eq_iff_iff];simp [zcv,h1,h1',h2,h2'];omega) | (simp [zcv,h1,h1',h2,h2'];omega)
   exact z7 [bv true] (zT rfl rfl) rfl (by rw [E0_];rfl) rfl rfl
  have h2': ¬(c (3+5*e.s.toNat)≠0):=ze6 h2
  refine qB rfl (o_s (by refine zV (v:=zaw c) rfl rfl ?_;exact zaS c) ?_)
  refine o_d 4 [(23,iv e.p),(22,pv 1 3),(21,iv e.a),(20,pv 1 2)] (qB rfl (qV (zab (refHeldC c e.a e.p) rfl (all_cons (zbO c) (all_cons rfl (all_cons rfl rfl))) rfl (o_d 2 [(4,bv (zfC c e.a e.p)),(25,bv (zfC c e.a e.p))] (zE (zU [(4,bv (zfC c e.a e.p))] (qW ?_)))))))
  have E0_:zcv c e=(zfC c e.a e.p):=by
   first | (simp [zcv,h1,h1',h2,h2'];done) | (simp [zcv,h1,h1',h2,h2']<;>rfl) | (rw [Bool.eq_iff_iff];simp [zcv,h1,h1',h2,h2'];done) | (rw [Bool.eq_iff_iff];simp [zcv,h1,h1',h2,h2'];omega) | (simp [zcv,h1,h1',h2,h2'];omega)
  exact z7 [bv (zfC c e.a e.p)] (zT rfl rfl) rfl (by rw [E0_];rfl) rfl rfl
 have h1': ¬(e.k=1):=zaR h1
 refine zJ (zJ (zN (o_d 2 (yr 26 e 2 27) (zE (zA (qJ (t:=e.k==2) rfl (fun h3=>?_) (fun h3=>?_)))))))
 ·skip
  have h3':e.k=2:=zaQ h3
  refine qK (zA (qJ (t:=e.k==2) rfl (fun _=>?_) (fun q=>by rw [h3] at q;cases q)))
  refine zJ (zN (o_d 3 (vd 31 c e 1 30 29) (zbJ (b:=(c (3+5*e.s.toNat))!=1) 31 rfl (fun h4=>?_) (fun h4=>?_))))
  ·skip
   have h4':c (3+5*e.s.toNat)≠1:=ze5 h4
   refine o_d 4 ((4,bv ((c (3+5*e.s.toNat))!=3))::(vd 34 c e 3 33 32)) (zE (zU [(4,bv ((c (3+5*e.s.toNat))!=3))] (qW ?_)))
   have E0_:zcv c e=((c (3+5*e.s.toNat))!=3):=by
    first | (simp [zcv,h1,h1',h3,h3',h4,h4'];done) | (simp [zcv,h1,h1',h3,h3',h4,h4']<;>rfl) | (rw [Bool.eq_iff_iff];simp [zcv,h1,h1',h3,h3',h4,h4'];done) | (rw [Bool.eq_iff_iff];simp [zcv,h1,h1',h3,h3',h4,h4'];omega) | (simp [zcv,h1,h1',h3,h3',h4,h4'];omega)
   exact z7 [bv ((c (3+5*e.s.toNat))!=3)] (zT rfl rfl) rfl (by rw [E0_];rfl) rfl rfl
  have h4': ¬(c (3+5*e.s.toNat)≠1):=ze6 h4
  refine o_d 4 [(4,bv false),(34,bv false),(33,undef),(32,undef)] (zE (zU [(4,bv false)] (qW ?_)))
  have E0_:zcv c e=false:=by
   first | (simp [zcv,h1,h1',h3,h3',h4,h4'];done) | (simp [zcv,h1,h1',h3,h3',h4,h4']<;>rfl) | (rw [Bool.eq_iff_iff];simp [zcv,h1,h1',h3,h3',h4,h4'];done) | (rw [Bool.eq_iff_iff];simp [zcv,h1,h1',h3,h3',h4,h4'];omega) | (simp [zcv,h1,h1',h3,h3',h4,h4'];omega)
  exact z7 [bv false] (zT rfl rfl) rfl (by rw [E0_];rfl) rfl rfl
 have h3': ¬(e.k=2):=zaR h3
 refine zN (o_d 2 (yr 26 e 4 28) (zE (zA (qJ (t:=e.k==4) rfl (fun h5=>?_) (fun h5=>?_)))))
 ·skip
  have h5':e.k=4:=zaQ h5
  refine zJ (zN (o_d 3 (vd 31 c e 1 30 29) (zbJ (b:=(c (3+5*e.s.toNat))!=1) 31 rfl (fun h6=>?_) (fun h6=>?_))))
  ·skip
   have h6':c (3+5*e.s.toNat)≠1:=ze5 h6
   refine o_d 4 ((4,bv ((c (3+5*e.s.toNat))!=3))::(vd 34 c e 3 33 32)) (zE (zU [(4,bv ((c (3+5*e.s.toNat))!=3))] (qW ?_)))
   have E0_:zcv c e=((c (3+5*e.s.toNat))!=3):=by
    first | (simp [zcv,h1,h1',h3,h3',h5,h5',h6,h6'];done) | (simp [zcv,h1,h1',h3,h3',h5,h5',h6,h6']<;>rfl) | (rw [Bool.eq_iff_iff];simp [zcv,h1,h1',h3,h3',h5,h5',h6,h6'];done) | (rw [Bool.eq_iff_iff];simp [zcv,h1,h1',h3,h3',h5,h5',h6,h6'];omega) | (simp [zcv,h1,h1',h3,h3',h5,h5',h6,h6'];omega)
   exact z7 [bv ((c (3+5*e.s.toNat))!=3)] (zT rfl rfl) rfl (by rw [E0_];rfl) rfl rfl
  have h6': ¬(c (3+5*e.s.toNat)≠1):=ze6 h6
  refine o_d 4 [(4,bv false),(34,bv false),(33,undef),(32,undef)] (zE (zU [(4,bv false)] (qW ?_)))
  have E0_:zcv c e=false:=by
   first | (simp [zcv,h1,h1',h3,h3',h5,h5',h6,h6'];done) | (simp [zcv,h1,h1',h3,h3',h5,h5',h6,h6']<;>rfl) | (rw [Bool.eq_iff_iff];simp [zcv,h1,h1',h3,h3',h5,h5',h6,h6'];done) | (rw [Bool.eq_iff_iff];simp [zcv,h1,h1',h3,h3',h5,h5',h6,h6'];omega) | (simp [zcv,h1,h1',h3,h3',h5,h5',h6,h6'];omega)
  exact z7 [bv false] (zT rfl rfl) rfl (by rw [E0_];rfl) rfl rfl
 have h5': ¬(e.k=4):=zaR h5
 refine zJ (zN (o_d 2 (yr 35 e 3 36) (zE (zA (qJ (t:=e.k==3) rfl (fun h7=>?_) (fun h7=>?_))))))
 ·skip
  have h7':e.k=3:=zaQ h7
  refine zJ (zN (o_d 3 (vd 4 c e 2 38 37) (zE (zU [(4,bv ((c (3+5*e.s.toNat))!=2))] (qW ?_)))))
  have E0_:zcv c e=((c (3+5*e.s.toNat))!=2):=by
   first | (simp [zcv,h1,h1',h3,h3',h5,h5',h7,h7'];done) | (simp [zcv,h1,h1',h3,h3',h5,h5',h7,h7']<;>rfl) | (rw [Bool.eq_iff_iff];simp [zcv,h1,h1',h3,h3',h5,h5',h7,h7'];done) | (rw [Bool.eq_iff_iff];simp [zcv,h1,h1',h3,h3',h5,h5',h7,h7'];omega) | (simp [zcv,h1,h1',h3,h3',h5,h5',h7,h7'];omega)
  exact z7 [bv ((c (3+5*e.s.toNat))!=2)] (zT rfl rfl) rfl (by rw [E0_];rfl) rfl rfl
 have h7': ¬(e.k=3):=zaR h7
 refine zJ (zN (o_d 2 (yr 39 e 5 40) (zE (zU [(39,bv (e.k==5)),(5,iv (c (3+5*e.s.toNat)))] (qJ (t:=e.k==5) rfl (fun h8=>?_) (fun h8=>?_))))))
 ·skip
  have h8':e.k=5:=zaQ h8
  refine zJ (zN (o_d 3 (vd 4 c e 4 42 41) (zE (zA (qW ?_)))))
  have E0_:zcv c e=((c (3+5*e.s.toNat))!=4):=by
   first | (simp [zcv,h1,h1',h3,h3',h5,h5',h7,h7',h8,h8'];done) | (simp [zcv,h1,h1',h3,h3',h5,h5',h7,h7',h8,h8']<;>rfl) | (rw [Bool.eq_iff_iff];simp [zcv,h1,h1',h3,h3',h5,h5',h7,h7',h8,h8'];done) | (rw [Bool.eq_iff_iff];simp [zcv,h1,h1',h3,h3',h5,h5',h7,h7',h8,h8'];omega) | (simp [zcv,h1,h1',h3,h3',h5,h5',h7,h7',h8,h8'];omega)
  exact z7 [bv ((c (3+5*e.s.toNat))!=4)] (zT rfl rfl) rfl (by rw [E0_];rfl) rfl rfl
 have h8': ¬(e.k=5):=zaR h8
 refine qK (zA (zJ (zN (o_d 1 [(4,bv false)] (zE (zA (qW ?_)))))))
 have E0_:zcv c e=false:=by
  first | (simp [zcv,h1,h1',h3,h3',h5,h5',h7,h7',h8,h8'];done) | (simp [zcv,h1,h1',h3,h3',h5,h5',h7,h7',h8,h8']<;>rfl) | (rw [Bool.eq_iff_iff];simp [zcv,h1,h1',h3,h3',h5,h5',h7,h7',h8,h8'];done) | (rw [Bool.eq_iff_iff];simp [zcv,h1,h1',h3,h3',h5,h5',h7,h7',h8,h8'];omega) | (simp [zcv,h1,h1',h3,h3',h5,h5',h7,h7',h8,h8'];omega)
 exact z7 [bv false] (zT rfl rfl) rfl (by rw [E0_];rfl) rfl rfl
abbrev xa (a:qZ):=#[iv (a 323),uv (a 324),uv (a 325),uv (a 326),uv (a 327),uv (a 328),uv (a 329)]
abbrev xV (a:Nat) (b:Nat) (c:Nat) (d:Nat) (e:Nat) (f:Nat) (g:Nat):=[(a,pv b c),(d,pv e 0),(f,pv g 0)]
theorem refApplyC {P:Program} [PrC P] (c:qZ) (e:Ent):
  Env P "roundhouse/roundhouseref6.Apply" [zaw c,.agg (xX e)] ([]) (Ans (.tuple #[zaw (qT c e).1,.int .i64 (qT c e).2]) ([])):=by
 refine Env.by PrC.ref6_Apply ?_
 unfold zhl
 show GC _ 0 _ _ ⟨reg [(0,zaw c),(1,.agg (xX e))],[]⟩
 refine zJ (zN (o_b 4 [(5,iv 0),(4,pv 2 0),(3,pv 1 0),(2,pv 0 0)] [cw (pl c),cw (wO e),cw (pl qO)] (zE (zA (zJ (zJ (zN (o_d 1 [(8,.agg (xX e))] (qV (zab (refCheckC e) rfl rfl rfl (o_d 1 [(6,iv (zbk e))] (zE ?_))))))))))))
 refine zA (zJ (zN (o_d 2 [(11,bv ((zbk e)!=0)),(10,iv (zbk e))] (zE (zA (qJ (t:=(zbk e)!=0) rfl (fun h1=>?_) (fun h1=>?_)))))))
 ·skip
  have h1':zbk e≠0:=ze5 h1
  refine zJ (zN (o_s (by refine zeu (c:=pl qO) ?_;exact bld_zP) ?_))
  refine o_d 1 [(13,iv (zbk e))] (zdj (by refine zao (c':=pl qO) rfl rfl rfl ?_ ?_ ?_;exact qI _;exact zck om;exact zai qO qO) ?_)
  refine o_d 1 [(5,iv (zbk e))] (zE (zA (qW ?_)))
  have E0_:qT c e=(qO,zbk e):=by
   first | (simp [qT,zeL,zbX,za9,h1,h1'];done) | (simp [qT,zeL,zbX,za9,h1,h1']<;>rfl) | (rw [Bool.eq_iff_iff];simp [qT,zeL,zbX,za9,h1,h1'];done) | (rw [Bool.eq_iff_iff];simp [qT,zeL,zbX,za9,h1,h1'];omega) | (simp [qT,zeL,zbX,za9,h1,h1'];omega)
  exact z7 [zaw qO,iv (zbk e)] (q8 rfl rfl (zaS qO) (zT rfl rfl)) (all_cons (zaH qO) (all_cons rfl rfl)) (by rw [E0_];rfl) rfl rfl
 have h1': ¬(zbk e≠0):=ze6 h1
 have hs:0≤e.s∧e.s < 64:=check_s h1'
 have hk6:1≤e.k∧e.k≤6:=check_k h1'
 refine qK (zA (zJ (zJ (zN (o_s (by refine zV (v:=zaw c) rfl rfl ?_;exact zaS c) ?_)))))
 refine o_d 1 [(15,.agg (xX e))] (qV (zab (refBadC c e hs) rfl (all_cons (zbO c) (all_cons rfl rfl)) rfl (zE (zA (qJ (t:=zcv c e) rfl (fun h2=>?_) (fun h2=>?_))))))
 ·skip
  refine zJ (zN (o_s (by refine zeu (c:=pl qO) ?_;exact bld_zP) ?_))
  refine zdj (by refine zao (c':=pl qO) rfl rfl rfl ?_ ?_ ?_;exact qI _;exact zck om;exact zai qO qO) ?_
  refine o_d 1 [(5,iv 12)] (zE (zA (qW ?_)))
  have E0_:qT c e=(qO,12):=by
   first | (simp [qT,zeL,zbX,za9,h1,h1',h2];done) | (simp [qT,zeL,zbX,za9,h1,h1',h2]<;>rfl) | (rw [Bool.eq_iff_iff];simp [qT,zeL,zbX,za9,h1,h1',h2];done) | (rw [Bool.eq_iff_iff];simp [qT,zeL,zbX,za9,h1,h1',h2];omega) | (simp [qT,zeL,zbX,za9,h1,h1',h2];omega)
  exact z7 [zaw qO,iv 12] (q8 rfl rfl (zaS qO) (zT rfl rfl)) (all_cons (zaH qO) (all_cons rfl rfl)) (by rw [E0_];rfl) rfl rfl
 refine qK (zA (zf2 (fun s=>0=0∧(e.k=5→¬(c 323 < i64.wrap (c (3+5*e.s.toNat+4)+3)))∧s=⟨reg (xV 4 2 0 3 1 2 0),[cw (pl c),cw (wO e),cw (pl qO)]⟩) ?_ ?_))
 ·skip
  refine zJ (zbe [] (r_d 4 [(21,bv (e.k==5)),(20,bv (e.k==5)),(19,iv e.k),(18,pv 1 0)] (r_sp (b:=e.k==5) 21 rfl (fun h3=>?_) (fun h3=>?_))))
  ·skip
   have h3':e.k=5:=zaQ h3
   refine r_d 2 [(23,pv 0 323),(22,pv 0 323)] (zd9 rfl (r_s (by refine zV (v:=iv (c 323)) rfl rfl ?_;exact zi9 c 323 rfl om) ?_))
   refine r_d 3 [(27,pv 0 3),(26,iv e.s),(25,pv 1 1)] (zd9 rfl (r_s (by exact zaA (o:=3) (o':=3+5*e.s.toNat) rfl rfl om om) ?_))
   refine zd9 rfl (r_s (by refine zci (o':=7+5*e.s.toNat) rfl om) ?_)
   refine zd9 rfl (r_s (by refine zV (v:=iv (c (3+5*e.s.toNat+4))) rfl rfl ?_;exact zi9 c (3+5*e.s.toNat+4) om om) ?_)
   refine r_d 3 [(33,bv (decide (c 323 < i64.wrap (c (3+5*e.s.toNat+4)+3)))),(32,bv (decide (c 323 < i64.wrap (c (3+5*e.s.toNat+4)+3)))),(31,iv (i64.wrap (c (3+5*e.s.toNat+4)+3)))] (za3 (zU [(33,bv (decide (c 323 < i64.wrap (c (3+5*e.s.toNat+4)+3)))),(4,pv 2 0),(3,pv 1 0),(2,pv 0 0)] (qJ (t:=decide (c 323 < i64.wrap (c (3+5*e.s.toNat+4)+3))) rfl (fun h4=>?_) (fun h4=>?_))))
   ·skip
    have h4':c 323 < i64.wrap (c (3+5*e.s.toNat+4)+3):=of_decide_eq_true h4
    refine zJ (zN (o_s (by refine zeu (c:=pl qO) ?_;exact bld_zP) ?_))
    refine zdj (by refine zao (c':=pl qO) rfl rfl rfl ?_ ?_ ?_;exact qI _;exact zck om;exact zai qO qO) ?_
    refine o_d 1 [(5,iv 13)] (zE (zA (qW ?_)))
    have E0_:qT c e=(qO,13):=by
     first | (simp [qT,zeL,zbX,za9,h1,h1',h2,h3,h3',h4,h4'];done) | (simp [qT,zeL,zbX,za9,h1,h1',h2,h3,h3',h4,h4']<;>rfl) | (rw [Bool.eq_iff_iff];simp [qT,zeL,zbX,za9,h1,h1',h2,h3,h3',h4,h4'];done) | (rw [Bool.eq_iff_iff];simp [qT,zeL,zbX,za9,h1,h1',h2,h3,h3',h4,h4'];omega) | (simp [qT,zeL,zbX,za9,h1,h1',h2,h3,h3',h4,h4'];omega)
    exact z7 [zaw qO,iv 13] (q8 rfl rfl (zaS qO) (zT rfl rfl)) (all_cons (zaH qO) (all_cons rfl rfl)) (by rw [E0_];rfl) rfl rfl
   have h4': ¬(c 323 < i64.wrap (c (3+5*e.s.toNat+4)+3)):=of_decide_eq_false h4
   refine qK (⟨⟨reg (xV 4 2 0 3 1 2 0),[cw (pl c),cw (wO e),cw (pl qO)]⟩, ?_⟩)
   refine ⟨?_, ?_⟩
   ·exact Wk.ren [0,1,2] rfl rfl dC ⟨rfl,rfl,rfl,trivial⟩ ⟨.inl (zL (zae c)),.inl rfl,.inl (zL (zae qO)),trivial⟩
   ·exact ⟨rfl,(fun q=>by first | exact absurd q h3' | assumption),rfl⟩
  have h3': ¬(e.k=5):=zaR h3
  refine r_d 12 ((33,bv false)::(32,undef)::(31,undef)::(30,undef)::(29,undef)::(28,undef)::(27,undef)::(26,undef)::(vG 25 24 23 22)) (za3 (zU [(33,bv false),(4,pv 2 0),(3,pv 1 0),(2,pv 0 0)] (zbc rfl (qK (⟨⟨reg (xV 4 2 0 3 1 2 0),[cw (pl c),cw (wO e),cw (pl qO)]⟩, ?_⟩)))))
  refine ⟨?_, ?_⟩
  ·exact Wk.ren [0,1,2] rfl rfl dC ⟨rfl,rfl,rfl,trivial⟩ ⟨.inl (zL (zae c)),.inl rfl,.inl (zL (zae qO)),trivial⟩
  ·exact ⟨rfl,(fun q=>by first | exact absurd q h3' | assumption),rfl⟩
 rintro s ⟨-,hfit,rfl⟩
 refine zf2 (fun s=> ∃(d:qZ),0=0∧(d=upd c 0 (i64.wrap (c 0+1)))∧s=⟨reg (xV 4 2 0 3 1 2 0),[cw (pl d),cw (wO e),cw (pl qO)]⟩) ?_ ?_
 ·skip
  refine zN (o_d 1 [(35,pv 0 0)] (o_s (by refine zV (v:=iv (c 0)) rfl rfl ?_;exact zi9 c 0 rfl om) ?_))
  refine o_d 2 [(38,pv 0 0),(37,iv (i64.wrap (c 0+1)))] (zdj (by refine zao (c':=pl (upd c 0 (i64.wrap (c 0+1)))) rfl rfl rfl ?_ ?_ ?_;exact rfl;exact zck om;exact pl_w c 0 (i64.wrap (c 0+1)) om om) ?_)
  refine zE (⟨⟨reg (xV 4 2 0 3 1 2 0),[cw (pl (upd c 0 (i64.wrap (c 0+1)))),cw (wO e),cw (pl qO)]⟩, ?_⟩)
  refine ⟨?_, ?_⟩
  ·exact Wk.ren [0,1,2] rfl rfl dC ⟨rfl,rfl,rfl,trivial⟩ ⟨.inl (zL (zae (upd c 0 (i64.wrap (c 0+1))))),.inl rfl,.inl (zL (zae qO)),trivial⟩
  ·exact ⟨(upd c 0 (i64.wrap (c 0+1))),rfl,rfl,rfl⟩
 rintro s ⟨d,-,hd,rfl⟩
 refine zJ (zN (o_d 3 [(41,pv 0 3),(40,iv e.s),(39,pv 1 1)] (o_s (by exact zaA (o:=3) (o':=3+5*e.s.toNat) rfl rfl om om) ?_)))
 refine o_s (by refine zV (v:= .agg #[iv (d (3+5*e.s.toNat)),iv (d (3+5*e.s.toNat+1)),iv (d (3+5*e.s.toNat+2)),iv (d (3+5*e.s.toNat+3)),iv (d (3+5*e.s.toNat+4))]) rfl rfl ?_;exact pl_rS d e.s.toNat om om) ?_
 refine o_b 2 [(7,pv 3 0)] [cw (pl d),cw (wO e),cw (pl qO),cw [iv (d (3+5*e.s.toNat)),iv (d (3+5*e.s.toNat+1)),iv (d (3+5*e.s.toNat+2)),iv (d (3+5*e.s.toNat+3)),iv (d (3+5*e.s.toNat+4))]] (zE (zA (zJ (zJ (zN (o_d 2 [(45,iv e.k),(44,pv 1 0)] (zE (zA (qU (zJ (zN (o_d 2 (yr 46 e 1 47) ?_))))))))))))
 refine zE (zA (qJ (t:=e.k==1) rfl (fun h5=>?_) (fun h5=>?_)))
 ·skip
  have h5':e.k=1:=zaQ h5
  refine zN (o_b 8 [(54,.agg #[iv 1,iv e.a,iv e.p,iv e.g,iv 0]),(53,iv e.g),(52,pv 1 4),(51,iv e.p),(50,pv 1 3),(49,iv e.a),(48,pv 1 2)] [cw (pl d),cw (wO e),cw (pl qO),cw [iv 1,iv e.a,iv e.p,iv e.g,iv 0]] (zE (zA (zJ (zN (o_d 4 [(82,pv 0 3),(81,.agg #[iv 1,iv e.a,iv e.p,iv e.g,iv 0]),(80,iv e.s),(79,pv 1 1)] (o_s (by exact zaA (o:=3) (o':=3+5*e.s.toNat) rfl rfl om om) ?_)))))))
  refine zdj (by refine zao (c':=pl (qA d e.s.toNat 1 e.a e.p e.g 0)) rfl rfl rfl ?_ ?_ ?_;exact rfl;exact zck om;exact pl_wS d e.s.toNat 1 e.a e.p e.g 0 om om) ?_
  refine zE (zU [(4,pv 2 0),(2,pv 0 0)] (zJ (zN (o_s (by refine zV (v:=zaw (qA d e.s.toNat 1 e.a e.p e.g 0)) rfl rfl ?_;exact zaS (qA d e.s.toNat 1 e.a e.p e.g 0)) ?_))))
  refine zdj (by refine zao (c':=pl (qA d e.s.toNat 1 e.a e.p e.g 0)) rfl rfl rfl ?_ ?_ ?_;exact qI _;exact zck om;exact zai qO (qA d e.s.toNat 1 e.a e.p e.g 0)) ?_
  refine o_b 1 [(5,iv 0)] [cw (pl (qA d e.s.toNat 1 e.a e.p e.g 0)),cw (wO e),cw (pl (qA d e.s.toNat 1 e.a e.p e.g 0)),cw [iv 1,iv e.a,iv e.p,iv e.g,iv 0]] (zE (zA (qW ?_)))
  have E0_:qT c e=(qA d e.s.toNat 1 e.a e.p e.g 0,0):=by
   subst hd
   first | (simp [qT,zeL,zbX,za9,hfit,h1,h1',h2,h5,h5'];done) | (simp [qT,zeL,zbX,za9,hfit,h1,h1',h2,h5,h5']<;>rfl) | (rw [Bool.eq_iff_iff];simp [qT,zeL,zbX,za9,hfit,h1,h1',h2,h5,h5'];done) | (rw [Bool.eq_iff_iff];simp [qT,zeL,zbX,za9,hfit,h1,h1',h2,h5,h5'];omega) | (simp [qT,zeL,zbX,za9,hfit,h1,h1',h2,h5,h5'];omega)
  exact z7 [zaw (qA d e.s.toNat 1 e.a e.p e.g 0),iv 0] (q8 rfl rfl (zaS (qA d e.s.toNat 1 e.a e.p e.g 0)) (zT rfl rfl)) (all_cons (zaH (qA d e.s.toNat 1 e.a e.p e.g 0)) (all_cons rfl rfl)) (by rw [E0_];rfl) rfl rfl
 have h5': ¬(e.k=1):=zaR h5
 refine zJ (zN (o_d 2 (yr 55 e 2 56) (zE (zA (qJ (t:=e.k==2) rfl (fun h6=>?_) (fun h6=>?_))))))
 ·skip
  have h6':e.k=2:=zaQ h6
  refine zN (o_b 2 [(57,pv 3 0)] [cw (pl d),cw (wO e),cw (pl qO),cw [iv 2,iv (d (3+5*e.s.toNat+1)),iv (d (3+5*e.s.toNat+2)),iv (d (3+5*e.s.toNat+3)),iv (d (3+5*e.s.toNat+4))]] (zE (zA (zJ (zN (o_d 4 [(82,pv 0 3),(81,.agg #[iv 2,iv (d (3+5*e.s.toNat+1)),iv (d (3+5*e.s.toNat+2)),iv (d (3+5*e.s.toNat+3)),iv (d (3+5*e.s.toNat+4))]),(80,iv e.s),(79,pv 1 1)] (o_s (by exact zaA (o:=3) (o':=3+5*e.s.toNat) rfl rfl om om) ?_)))))))
  refine zdj (by refine zao (c':=pl (qA d e.s.toNat 2 (d (3+5*e.s.toNat+1)) (d (3+5*e.s.toNat+2)) (d (3+5*e.s.toNat+3)) (d (3+5*e.s.toNat+4)))) rfl rfl rfl ?_ ?_ ?_;exact rfl;exact zck om;exact pl_wS d e.s.toNat 2 (d (3+5*e.s.toNat+1)) (d (3+5*e.s.toNat+2)) (d (3+5*e.s.toNat+3)) (d (3+5*e.s.toNat+4)) om om) ?_
  refine zE (zA (zJ (zN (o_s (by refine zV (v:=zaw (qA d e.s.toNat 2 (d (3+5*e.s.toNat+1)) (d (3+5*e.s.toNat+2)) (d (3+5*e.s.toNat+3)) (d (3+5*e.s.toNat+4)))) rfl rfl ?_;exact zaS (qA d e.s.toNat 2 (d (3+5*e.s.toNat+1)) (d (3+5*e.s.toNat+2)) (d (3+5*e.s.toNat+3)) (d (3+5*e.s.toNat+4)))) ?_))))
  refine zdj (by refine zao (c':=pl (qA d e.s.toNat 2 (d (3+5*e.s.toNat+1)) (d (3+5*e.s.toNat+2)) (d (3+5*e.s.toNat+3)) (d (3+5*e.s.toNat+4)))) rfl rfl rfl ?_ ?_ ?_;exact qI _;exact zck om;exact zai qO (qA d e.s.toNat 2 (d (3+5*e.s.toNat+1)) (d (3+5*e.s.toNat+2)) (d (3+5*e.s.toNat+3)) (d (3+5*e.s.toNat+4)))) ?_
  refine o_b 1 [(5,iv 0)] [cw (pl (qA d e.s.toNat 2 (d (3+5*e.s.toNat+1)) (d (3+5*e.s.toNat+2)) (d (3+5*e.s.toNat+3)) (d (3+5*e.s.toNat+4)))),cw (wO e),cw (pl (qA d e.s.toNat 2 (d (3+5*e.s.toNat+1)) (d (3+5*e.s.toNat+2)) (d (3+5*e.s.toNat+3)) (d (3+5*e.s.toNat+4)))),cw [iv 2,iv (d (3+5*e.s.toNat+1)),iv (d (3+5*e.s.toNat+2)),iv (d (3+5*e.s.toNat+3)),iv (d (3+5*e.s.toNat+4))]] (zE (zU [(5,iv 0),(4,pv 2 0)] (qW ?_)))
  have E0_:qT c e=(qA d e.s.toNat 2 (d (3+5*e.s.toNat+1)) (d (3+5*e.s.toNat+2)) (d (3+5*e.s.toNat+3)) (d (3+5*e.s.toNat+4)),0):=by
   subst hd
   have hd:=zga (upd c 0 (i64.wrap (c 0+1))) e.s.toNat
   simp only [hd]
   simp [qT,zeL,zbX,za9,h1,h1',h2,h5,h5',h6,h6',hfit]
  exact z7 [zaw (qA d e.s.toNat 2 (d (3+5*e.s.toNat+1)) (d (3+5*e.s.toNat+2)) (d (3+5*e.s.toNat+3)) (d (3+5*e.s.toNat+4))),iv 0] (q8 rfl rfl (zaS (qA d e.s.toNat 2 (d (3+5*e.s.toNat+1)) (d (3+5*e.s.toNat+2)) (d (3+5*e.s.toNat+3)) (d (3+5*e.s.toNat+4)))) (zT rfl rfl)) (all_cons (zaH (qA d e.s.toNat 2 (d (3+5*e.s.toNat+1)) (d (3+5*e.s.toNat+2)) (d (3+5*e.s.toNat+3)) (d (3+5*e.s.toNat+4)))) (all_cons rfl rfl)) (by rw [E0_];rfl) rfl rfl
 have h6': ¬(e.k=2):=zaR h6
 refine zJ (zN (o_d 2 (yr 58 e 3 59) (zE (zA (qJ (t:=e.k==3) rfl (fun h7=>?_) (fun h7=>?_))))))
 ·skip
  have h7':e.k=3:=zaQ h7
  refine zN (o_b 2 [(60,pv 3 0)] [cw (pl d),cw (wO e),cw (pl qO),cw [iv 3,iv (d (3+5*e.s.toNat+1)),iv (d (3+5*e.s.toNat+2)),iv (d (3+5*e.s.toNat+3)),iv (d (3+5*e.s.toNat+4))]] (zE (zA (zJ (zN (o_d 4 [(82,pv 0 3),(81,.agg #[iv 3,iv (d (3+5*e.s.toNat+1)),iv (d (3+5*e.s.toNat+2)),iv (d (3+5*e.s.toNat+3)),iv (d (3+5*e.s.toNat+4))]),(80,iv e.s),(79,pv 1 1)] (o_s (by exact zaA (o:=3) (o':=3+5*e.s.toNat) rfl rfl om om) ?_)))))))
  refine zdj (by refine zao (c':=pl (qA d e.s.toNat 3 (d (3+5*e.s.toNat+1)) (d (3+5*e.s.toNat+2)) (d (3+5*e.s.toNat+3)) (d (3+5*e.s.toNat+4)))) rfl rfl rfl ?_ ?_ ?_;exact rfl;exact zck om;exact pl_wS d e.s.toNat 3 (d (3+5*e.s.toNat+1)) (d (3+5*e.s.toNat+2)) (d (3+5*e.s.toNat+3)) (d (3+5*e.s.toNat+4)) om om) ?_
  refine zE (zU [(4,pv 2 0),(2,pv 0 0)] (zJ (zN (o_s (by refine zV (v:=zaw (qA d e.s.toNat 3 (d (3+5*e.s.toNat+1)) (d (3+5*e.s.toNat+2)) (d (3+5*e.s.toNat+3)) (d (3+5*e.s.toNat+4)))) rfl rfl ?_;exact zaS (qA d e.s.toNat 3 (d (3+5*e.s.toNat+1)) (d (3+5*e.s.toNat+2)) (d (3+5*e.s.toNat+3)) (d (3+5*e.s.toNat+4)))) ?_))))
  refine zdj (by refine zao (c':=pl (qA d e.s.toNat 3 (d (3+5*e.s.toNat+1)) (d (3+5*e.s.toNat+2)) (d (3+5*e.s.toNat+3)) (d (3+5*e.s.toNat+4)))) rfl rfl rfl ?_ ?_ ?_;exact qI _;exact zck om;exact zai qO (qA d e.s.toNat 3 (d (3+5*e.s.toNat+1)) (d (3+5*e.s.toNat+2)) (d (3+5*e.s.toNat+3)) (d (3+5*e.s.toNat+4)))) ?_
  refine o_b 1 [(5,iv 0)] [cw (pl (qA d e.s.toNat 3 (d (3+5*e.s.toNat+1)) (d (3+5*e.s.toNat+2)) (d (3+5*e.s.toNat+3)) (d (3+5*e.s.toNat+4)))),cw (wO e),cw (pl (qA d e.s.toNat 3 (d (3+5*e.s.toNat+1)) (d (3+5*e.s.toNat+2)) (d (3+5*e.s.toNat+3)) (d (3+5*e.s.toNat+4)))),cw [iv 3,iv (d (3+5*e.s.toNat+1)),iv (d (3+5*e.s.toNat+2)),iv (d (3+5*e.s.toNat+3)),iv (d (3+5*e.s.toNat+4))]] (zE (zA (qW ?_)))
  have E0_:qT c e=(qA d e.s.toNat 3 (d (3+5*e.s.toNat+1)) (d (3+5*e.s.toNat+2)) (d (3+5*e.s.toNat+3)) (d (3+5*e.s.toNat+4)),0):=by
   subst hd
   have hd:=zga (upd c 0 (i64.wrap (c 0+1))) e.s.toNat
   simp only [hd]
   simp [qT,zeL,zbX,za9,h1,h1',h2,h5,h5',h6,h6',h7,h7',hfit]
  exact z7 [zaw (qA d e.s.toNat 3 (d (3+5*e.s.toNat+1)) (d (3+5*e.s.toNat+2)) (d (3+5*e.s.toNat+3)) (d (3+5*e.s.toNat+4))),iv 0] (q8 rfl rfl (zaS (qA d e.s.toNat 3 (d (3+5*e.s.toNat+1)) (d (3+5*e.s.toNat+2)) (d (3+5*e.s.toNat+3)) (d (3+5*e.s.toNat+4)))) (zT rfl rfl)) (all_cons (zaH (qA d e.s.toNat 3 (d (3+5*e.s.toNat+1)) (d (3+5*e.s.toNat+2)) (d (3+5*e.s.toNat+3)) (d (3+5*e.s.toNat+4)))) (all_cons rfl rfl)) (by rw [E0_];rfl) rfl rfl
 have h7': ¬(e.k=3):=zaR h7
 refine zJ (zN (o_d 2 (yr 61 e 4 62) (zE (zA (qJ (t:=e.k==4) rfl (fun h8=>?_) (fun h8=>?_))))))
 ·skip
  have h8':e.k=4:=zaQ h8
  refine gdregK [(67,pv 3 4),(66,pv 3 0),(65,iv (d 323)),(64,pv 0 323),(63,pv 0 323)] [cw (pl d),cw (wO e),cw (pl qO),cw [iv 4,iv (d (3+5*e.s.toNat+1)),iv (d (3+5*e.s.toNat+2)),iv (d (3+5*e.s.toNat+3)),iv (d 323)]] (by kernel_rfl) (zA (zJ (zN (o_d 4 [(82,pv 0 3),(81,.agg #[iv 4,iv (d (3+5*e.s.toNat+1)),iv (d (3+5*e.s.toNat+2)),iv (d (3+5*e.s.toNat+3)),iv (d 323)]),(80,iv e.s),(79,pv 1 1)] (o_s (by exact zaA (o:=3) (o':=3+5*e.s.toNat) rfl rfl om om) ?_)))))
  refine zdj (by refine zao (c':=pl (qA d e.s.toNat 4 (d (3+5*e.s.toNat+1)) (d (3+5*e.s.toNat+2)) (d (3+5*e.s.toNat+3)) (d 323))) rfl rfl rfl ?_ ?_ ?_;exact rfl;exact zck om;exact pl_wS d e.s.toNat 4 (d (3+5*e.s.toNat+1)) (d (3+5*e.s.toNat+2)) (d (3+5*e.s.toNat+3)) (d 323) om om) ?_
  refine zE (zU [(4,pv 2 0),(2,pv 0 0)] (zJ (zN (o_s (by refine zV (v:=zaw (qA d e.s.toNat 4 (d (3+5*e.s.toNat+1)) (d (3+5*e.s.toNat+2)) (d (3+5*e.s.toNat+3)) (d 323))) rfl rfl ?_;exact zaS (qA d e.s.toNat 4 (d (3+5*e.s.toNat+1)) (d (3+5*e.s.toNat+2)) (d (3+5*e.s.toNat+3)) (d 323))) ?_))))
  refine zdj (by refine zao (c':=pl (qA d e.s.toNat 4 (d (3+5*e.s.toNat+1)) (d (3+5*e.s.toNat+2)) (d (3+5*e.s.toNat+3)) (d 323))) rfl rfl rfl ?_ ?_ ?_;exact qI _;exact zck om;exact zai qO (qA d e.s.toNat 4 (d (3+5*e.s.toNat+1)) (d (3+5*e.s.toNat+2)) (d (3+5*e.s.toNat+3)) (d 323))) ?_
  refine o_b 1 [(5,iv 0)] [cw (pl (qA d e.s.toNat 4 (d (3+5*e.s.toNat+1)) (d (3+5*e.s.toNat+2)) (d (3+5*e.s.toNat+3)) (d 323))),cw (wO e),cw (pl (qA d e.s.toNat 4 (d (3+5*e.s.toNat+1)) (d (3+5*e.s.toNat+2)) (d (3+5*e.s.toNat+3)) (d 323))),cw [iv 4,iv (d (3+5*e.s.toNat+1)),iv (d (3+5*e.s.toNat+2)),iv (d (3+5*e.s.toNat+3)),iv (d 323)]] (zE (zA (qW ?_)))
  have E0_:qT c e=(qA d e.s.toNat 4 (d (3+5*e.s.toNat+1)) (d (3+5*e.s.toNat+2)) (d (3+5*e.s.toNat+3)) (d 323),0):=by
   subst hd
   have hd:=zjk (upd c 0 (i64.wrap (c 0+1))) e.s.toNat
   simp only [hd]
   simp [qT,zeL,zbX,za9,zeP,h1,h1',h2,h5,h5',h6,h6',h7,h7',h8,h8',hfit]
  exact z7 [zaw (qA d e.s.toNat 4 (d (3+5*e.s.toNat+1)) (d (3+5*e.s.toNat+2)) (d (3+5*e.s.toNat+3)) (d 323)),iv 0] (q8 rfl rfl (zaS (qA d e.s.toNat 4 (d (3+5*e.s.toNat+1)) (d (3+5*e.s.toNat+2)) (d (3+5*e.s.toNat+3)) (d 323))) (zT rfl rfl)) (all_cons (zaH (qA d e.s.toNat 4 (d (3+5*e.s.toNat+1)) (d (3+5*e.s.toNat+2)) (d (3+5*e.s.toNat+3)) (d 323))) (all_cons rfl rfl)) (by rw [E0_];rfl) rfl rfl
 have h8': ¬(e.k=4):=zaR h8
 refine zJ (zN (o_d 2 (yr 68 e 5 69) (zE (zA (qJ (t:=e.k==5) rfl (fun h9=>?_) (fun h9=>?_))))))
 ·skip
  have h9':e.k=5:=zaQ h9
  refine zN (o_b 2 [(70,.agg #[iv 0,iv 0,iv 0,iv 0,iv 0])] [cw (pl d),cw (wO e),cw (pl qO),cw [iv 0,iv 0,iv 0,iv 0,iv 0]] (zE (zA (zJ (zN (o_d 4 [(82,pv 0 3),(81,.agg #[iv 0,iv 0,iv 0,iv 0,iv 0]),(80,iv e.s),(79,pv 1 1)] (o_s (by exact zaA (o:=3) (o':=3+5*e.s.toNat) rfl rfl om om) ?_)))))))
  refine zdj (by refine zao (c':=pl (qA d e.s.toNat 0 0 0 0 0)) rfl rfl rfl ?_ ?_ ?_;exact rfl;exact zck om;exact pl_wS d e.s.toNat 0 0 0 0 0 om om) ?_
  refine zE (zU [(4,pv 2 0),(2,pv 0 0)] (zJ (zN (o_s (by refine zV (v:=zaw (qA d e.s.toNat 0 0 0 0 0)) rfl rfl ?_;exact zaS (qA d e.s.toNat 0 0 0 0 0)) ?_))))
  refine zdj (by refine zao (c':=pl (qA d e.s.toNat 0 0 0 0 0)) rfl rfl rfl ?_ ?_ ?_;exact qI _;exact zck om;exact zai qO (qA d e.s.toNat 0 0 0 0 0)) ?_
  refine o_b 1 [(5,iv 0)] [cw (pl (qA d e.s.toNat 0 0 0 0 0)),cw (wO e),cw (pl (qA d e.s.toNat 0 0 0 0 0)),cw [iv 0,iv 0,iv 0,iv 0,iv 0]] (zE (zA (qW ?_)))
  have E0_:qT c e=(qA d e.s.toNat 0 0 0 0 0,0):=by
   subst hd
   first | (simp [qT,zeL,zbX,za9,hfit,h1,h1',h2,h5,h5',h6,h6',h7,h7',h8,h8',h9,h9'];done) | (simp [qT,zeL,zbX,za9,hfit,h1,h1',h2,h5,h5',h6,h6',h7,h7',h8,h8',h9,h9']<;>rfl) | (rw [Bool.eq_iff_iff];simp [qT,zeL,zbX,za9,hfit,h1,h1',h2,h5,h5',h6,h6',h7,h7',h8,h8',h9,h9'];done) | (rw [Bool.eq_iff_iff];simp [qT,zeL,zbX,za9,hfit,h1,h1',h2,h5,h5',h6,h6',h7,h7',h8,h8',h9,h9'];omega) | (simp [qT,zeL,zbX,za9,hfit,h1,h1',h2,h5,h5',h6,h6',h7,h7',h8,h8',h9,h9'];omega)
  exact z7 [zaw (qA d e.s.toNat 0 0 0 0 0),iv 0] (q8 rfl rfl (zaS (qA d e.s.toNat 0 0 0 0 0)) (zT rfl rfl)) (all_cons (zaH (qA d e.s.toNat 0 0 0 0 0)) (all_cons rfl rfl)) (by rw [E0_];rfl) rfl rfl
 have h9': ¬(e.k=5):=zaR h9
 refine zJ (zN (o_d 2 (yr 71 e 6 72) (zE (zA (qJ (t:=e.k==6) rfl (fun h10=>?_) (fun h10=>?_))))))
 ·skip
  have h10':e.k=6:=zaQ h10
  refine zN (o_d 1 [(73,pv 0 323)] (o_s (by refine zV (v:= .agg (xa d)) rfl rfl ?_;exact pl_ring d) ?_))
  refine o_d 2 [(76,.agg #[uv e.ka,uv e.kb]),(75,pv 1 5)] (qV (zab (refNextC) rfl rfl rfl (o_d 1 [(78,pv 0 323)] (zdj (by refine zao (c':=pl (upd (upd (upd (upd (upd (upd (upd d 323 (i64.wrap ((d 323)+1))) 324 (d 326)) 325 (d 327)) 326 (d 328)) 327 (d 329)) 328 e.ka) 329 e.kb)) rfl rfl rfl ?_ ?_ ?_;exact rfl;exact zck om;exact zie d (i64.wrap ((d 323)+1)) (d 326) (d 327) (d 328) (d 329) e.ka e.kb) ?_))))
  refine zE (zU (wJ 7 3 0 4 2 3 1 2 0) (zJ (zN (o_d 4 [(82,pv 0 3),(81,.agg #[iv (d (3+5*e.s.toNat)),iv (d (3+5*e.s.toNat+1)),iv (d (3+5*e.s.toNat+2)),iv (d (3+5*e.s.toNat+3)),iv (d (3+5*e.s.toNat+4))]),(80,iv e.s),(79,pv 1 1)] (o_s (by exact zaA (o:=3) (o':=3+5*e.s.toNat) rfl rfl om om) ?_)))))
  refine zdj (by refine zao (c':=pl (qA (upd (upd (upd (upd (upd (upd (upd d 323 (i64.wrap ((d 323)+1))) 324 (d 326)) 325 (d 327)) 326 (d 328)) 327 (d 329)) 328 e.ka) 329 e.kb) e.s.toNat (d (3+5*e.s.toNat)) (d (3+5*e.s.toNat+1)) (d (3+5*e.s.toNat+2)) (d (3+5*e.s.toNat+3)) (d (3+5*e.s.toNat+4)))) rfl rfl rfl ?_ ?_ ?_;exact rfl;exact zck om;exact pl_wS (upd (upd (upd (upd (upd (upd (upd d 323 (i64.wrap ((d 323)+1))) 324 (d 326)) 325 (d 327)) 326 (d 328)) 327 (d 329)) 328 e.ka) 329 e.kb) e.s.toNat (d (3+5*e.s.toNat)) (d (3+5*e.s.toNat+1)) (d (3+5*e.s.toNat+2)) (d (3+5*e.s.toNat+3)) (d (3+5*e.s.toNat+4)) om om) ?_
  refine zE (zA (zJ (zN (o_s (by refine zV (v:=zaw (qA (upd (upd (upd (upd (upd (upd (upd d 323 (i64.wrap ((d 323)+1))) 324 (d 326)) 325 (d 327)) 326 (d 328)) 327 (d 329)) 328 e.ka) 329 e.kb) e.s.toNat (d (3+5*e.s.toNat)) (d (3+5*e.s.toNat+1)) (d (3+5*e.s.toNat+2)) (d (3+5*e.s.toNat+3)) (d (3+5*e.s.toNat+4)))) rfl rfl ?_;exact zaS (qA (upd (upd (upd (upd (upd (upd (upd d 323 (i64.wrap ((d 323)+1))) 324 (d 326)) 325 (d 327)) 326 (d 328)) 327 (d 329)) 328 e.ka) 329 e.kb) e.s.toNat (d (3+5*e.s.toNat)) (d (3+5*e.s.toNat+1)) (d (3+5*e.s.toNat+2)) (d (3+5*e.s.toNat+3)) (d (3+5*e.s.toNat+4)))) ?_))))
  refine zdj (by refine zao (c':=pl (qA (upd (upd (upd (upd (upd (upd (upd d 323 (i64.wrap ((d 323)+1))) 324 (d 326)) 325 (d 327)) 326 (d 328)) 327 (d 329)) 328 e.ka) 329 e.kb) e.s.toNat (d (3+5*e.s.toNat)) (d (3+5*e.s.toNat+1)) (d (3+5*e.s.toNat+2)) (d (3+5*e.s.toNat+3)) (d (3+5*e.s.toNat+4)))) rfl rfl rfl ?_ ?_ ?_;exact qI _;exact zck om;exact zai qO (qA (upd (upd (upd (upd (upd (upd (upd d 323 (i64.wrap ((d 323)+1))) 324 (d 326)) 325 (d 327)) 326 (d 328)) 327 (d 329)) 328 e.ka) 329 e.kb) e.s.toNat (d (3+5*e.s.toNat)) (d (3+5*e.s.toNat+1)) (d (3+5*e.s.toNat+2)) (d (3+5*e.s.toNat+3)) (d (3+5*e.s.toNat+4)))) ?_
  refine o_b 1 [(5,iv 0)] [cw (pl (qA (upd (upd (upd (upd (upd (upd (upd d 323 (i64.wrap ((d 323)+1))) 324 (d 326)) 325 (d 327)) 326 (d 328)) 327 (d 329)) 328 e.ka) 329 e.kb) e.s.toNat (d (3+5*e.s.toNat)) (d (3+5*e.s.toNat+1)) (d (3+5*e.s.toNat+2)) (d (3+5*e.s.toNat+3)) (d (3+5*e.s.toNat+4)))),cw (wO e),cw (pl (qA (upd (upd (upd (upd (upd (upd (upd d 323 (i64.wrap ((d 323)+1))) 324 (d 326)) 325 (d 327)) 326 (d 328)) 327 (d 329)) 328 e.ka) 329 e.kb) e.s.toNat (d (3+5*e.s.toNat)) (d (3+5*e.s.toNat+1)) (d (3+5*e.s.toNat+2)) (d (3+5*e.s.toNat+3)) (d (3+5*e.s.toNat+4)))),cw [iv (d (3+5*e.s.toNat)),iv (d (3+5*e.s.toNat+1)),iv (d (3+5*e.s.toNat+2)),iv (d (3+5*e.s.toNat+3)),iv (d (3+5*e.s.toNat+4))]] (zE (zA (qW ?_)))
  have E0_:qT c e=(qA (upd (upd (upd (upd (upd (upd (upd d 323 (i64.wrap ((d 323)+1))) 324 (d 326)) 325 (d 327)) 326 (d 328)) 327 (d 329)) 328 e.ka) 329 e.kb) e.s.toNat (d (3+5*e.s.toNat)) (d (3+5*e.s.toNat+1)) (d (3+5*e.s.toNat+2)) (d (3+5*e.s.toNat+3)) (d (3+5*e.s.toNat+4)),0):=by
   subst hd
   rw [setSlot_id (zev _ _ _ _ _ _ _ _ om).symm (zev _ _ _ _ _ _ _ _ om).symm (zev _ _ _ _ _ _ _ _ om).symm (zev _ _ _ _ _ _ _ _ om).symm (zev _ _ _ _ _ _ _ _ om).symm]
   simp [qT,zeL,zbX,za9,nextS,zeP,h1,h1',h2,h5,h5',h6,h6',h7,h7',h8,h8',h9,h9',h10,h10',hfit]
  exact z7 [zaw (qA (upd (upd (upd (upd (upd (upd (upd d 323 (i64.wrap ((d 323)+1))) 324 (d 326)) 325 (d 327)) 326 (d 328)) 327 (d 329)) 328 e.ka) 329 e.kb) e.s.toNat (d (3+5*e.s.toNat)) (d (3+5*e.s.toNat+1)) (d (3+5*e.s.toNat+2)) (d (3+5*e.s.toNat+3)) (d (3+5*e.s.toNat+4))),iv 0] (q8 rfl rfl (zaS (qA (upd (upd (upd (upd (upd (upd (upd d 323 (i64.wrap ((d 323)+1))) 324 (d 326)) 325 (d 327)) 326 (d 328)) 327 (d 329)) 328 e.ka) 329 e.kb) e.s.toNat (d (3+5*e.s.toNat)) (d (3+5*e.s.toNat+1)) (d (3+5*e.s.toNat+2)) (d (3+5*e.s.toNat+3)) (d (3+5*e.s.toNat+4)))) (zT rfl rfl)) (all_cons (zaH (qA (upd (upd (upd (upd (upd (upd (upd d 323 (i64.wrap ((d 323)+1))) 324 (d 326)) 325 (d 327)) 326 (d 328)) 327 (d 329)) 328 e.ka) 329 e.kb) e.s.toNat (d (3+5*e.s.toNat)) (d (3+5*e.s.toNat+1)) (d (3+5*e.s.toNat+2)) (d (3+5*e.s.toNat+3)) (d (3+5*e.s.toNat+4)))) (all_cons rfl rfl)) (by rw [E0_];rfl) rfl rfl
 have h10': ¬(e.k=6):=zaR h10
 refine qK (zA (zJ (zN (o_d 4 [(82,pv 0 3),(81,.agg #[iv (d (3+5*e.s.toNat)),iv (d (3+5*e.s.toNat+1)),iv (d (3+5*e.s.toNat+2)),iv (d (3+5*e.s.toNat+3)),iv (d (3+5*e.s.toNat+4))]),(80,iv e.s),(79,pv 1 1)] (o_s (by exact zaA (o:=3) (o':=3+5*e.s.toNat) rfl rfl om om) ?_)))))
 refine zdj (by refine zao (c':=pl (qA d e.s.toNat (d (3+5*e.s.toNat)) (d (3+5*e.s.toNat+1)) (d (3+5*e.s.toNat+2)) (d (3+5*e.s.toNat+3)) (d (3+5*e.s.toNat+4)))) rfl rfl rfl ?_ ?_ ?_;exact rfl;exact zck om;exact pl_wS d e.s.toNat (d (3+5*e.s.toNat)) (d (3+5*e.s.toNat+1)) (d (3+5*e.s.toNat+2)) (d (3+5*e.s.toNat+3)) (d (3+5*e.s.toNat+4)) om om) ?_
 refine zE (zU [(4,pv 2 0),(2,pv 0 0)] (zJ (zN (o_s (by refine zV (v:=zaw (qA d e.s.toNat (d (3+5*e.s.toNat)) (d (3+5*e.s.toNat+1)) (d (3+5*e.s.toNat+2)) (d (3+5*e.s.toNat+3)) (d (3+5*e.s.toNat+4)))) rfl rfl ?_;exact zaS (qA d e.s.toNat (d (3+5*e.s.toNat)) (d (3+5*e.s.toNat+1)) (d (3+5*e.s.toNat+2)) (d (3+5*e.s.toNat+3)) (d (3+5*e.s.toNat+4)))) ?_))))
 refine zdj (by refine zao (c':=pl (qA d e.s.toNat (d (3+5*e.s.toNat)) (d (3+5*e.s.toNat+1)) (d (3+5*e.s.toNat+2)) (d (3+5*e.s.toNat+3)) (d (3+5*e.s.toNat+4)))) rfl rfl rfl ?_ ?_ ?_;exact qI _;exact zck om;exact zai qO (qA d e.s.toNat (d (3+5*e.s.toNat)) (d (3+5*e.s.toNat+1)) (d (3+5*e.s.toNat+2)) (d (3+5*e.s.toNat+3)) (d (3+5*e.s.toNat+4)))) ?_
 refine o_b 1 [(5,iv 0)] [cw (pl (qA d e.s.toNat (d (3+5*e.s.toNat)) (d (3+5*e.s.toNat+1)) (d (3+5*e.s.toNat+2)) (d (3+5*e.s.toNat+3)) (d (3+5*e.s.toNat+4)))),cw (wO e),cw (pl (qA d e.s.toNat (d (3+5*e.s.toNat)) (d (3+5*e.s.toNat+1)) (d (3+5*e.s.toNat+2)) (d (3+5*e.s.toNat+3)) (d (3+5*e.s.toNat+4)))),cw [iv (d (3+5*e.s.toNat)),iv (d (3+5*e.s.toNat+1)),iv (d (3+5*e.s.toNat+2)),iv (d (3+5*e.s.toNat+3)),iv (d (3+5*e.s.toNat+4))]] (zE (zA (qW ?_)))
 have E0_:qT c e=(qA d e.s.toNat (d (3+5*e.s.toNat)) (d (3+5*e.s.toNat+1)) (d (3+5*e.s.toNat+2)) (d (3+5*e.s.toNat+3)) (d (3+5*e.s.toNat+4)),0):=by
  subst hd
  first | (simp [qT,zeL,zbX,za9,hfit,h1,h1',h2,h5,h5',h6,h6',h7,h7',h8,h8',h9,h9',h10,h10'];done) | (simp [qT,zeL,zbX,za9,hfit,h1,h1',h2,h5,h5',h6,h6',h7,h7',h8,h8',h9,h9',h10,h10']<;>rfl) | (rw [Bool.eq_iff_iff];simp [qT,zeL,zbX,za9,hfit,h1,h1',h2,h5,h5',h6,h6',h7,h7',h8,h8',h9,h9',h10,h10'];done) | (rw [Bool.eq_iff_iff];simp [qT,zeL,zbX,za9,hfit,h1,h1',h2,h5,h5',h6,h6',h7,h7',h8,h8',h9,h9',h10,h10'];omega) | (simp [qT,zeL,zbX,za9,hfit,h1,h1',h2,h5,h5',h6,h6',h7,h7',h8,h8',h9,h9',h10,h10'];omega)
 exact z7 [zaw (qA d e.s.toNat (d (3+5*e.s.toNat)) (d (3+5*e.s.toNat+1)) (d (3+5*e.s.toNat+2)) (d (3+5*e.s.toNat+3)) (d (3+5*e.s.toNat+4))),iv 0] (q8 rfl rfl (zaS (qA d e.s.toNat (d (3+5*e.s.toNat)) (d (3+5*e.s.toNat+1)) (d (3+5*e.s.toNat+2)) (d (3+5*e.s.toNat+3)) (d (3+5*e.s.toNat+4)))) (zT rfl rfl)) (all_cons (zaH (qA d e.s.toNat (d (3+5*e.s.toNat)) (d (3+5*e.s.toNat+1)) (d (3+5*e.s.toNat+2)) (d (3+5*e.s.toNat+3)) (d (3+5*e.s.toNat+4)))) (all_cons rfl rfl)) (by rw [E0_];rfl) rfl rfl
end Go.Rh

namespace Go.Rh
theorem bld_newS (a p ka kb na nb:Int):zgo (zaE zP) [(1,1,.int .i64 a),(2,1,.int .i64 p),(323,7,.agg #[.int .i64 1,.int .u64 0,.int .u64 0,.int .u64 ka,.int .u64 kb,.int .u64 na,.int .u64 nb])]=some (pl (newS a p ka kb na nb)):=by
 rw [zP_pl]
 have e1:splice (pl qO) 1 [.int .i64 a]=pl (upd qO 1 a):=zgF _ om _
 have e2:splice (pl (upd qO 1 a)) 2 [.int .i64 p]=pl (upd (upd qO 1 a) 2 p):=zgF _ om _
 have e3:=zie (upd (upd qO 1 a) 2 p) 1 0 0 ka kb na nb
 simp only [zgo,zbt,zdE,List.length_cons,List.length_nil,qI]
 simp only [e1,e2,qI]
 simp only [e3]
 simp
 refine pl_ext fun k hk=>?_
 simp only [upd,newS,qO]
 by_cases h1:k=1
 ·subst h1;simp
 by_cases h2:k=2
 ·subst h2;simp
 by_cases h3:k=323
 ·subst h3;simp
 by_cases h4:k=326
 ·subst h4;simp
 by_cases h5:k=327
 ·subst h5;simp
 by_cases h6:k=328
 ·subst h6;simp
 by_cases h7:k=329
 ·subst h7;simp
 simp [h1,h2,h3,h4,h5,h6,h7]
def zhC (a p ka kb na nb:Int):qZ×Int:=if zbh a p=true then (newS a p ka kb na nb,0) else (qO,14)
end Go.Rh
