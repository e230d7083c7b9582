/- The proofs zfh the intermediate form, part QPlaneShutf. -/
import Derived.Test.YtcgficakdfdepaaGreatQPlaneShute
open Go.IntKind (i64)
set_option linter.unusedVariables false
set_option linter.unusedSimpArgs false
set_option maxRecDepth 100000
set_option maxHeartbeats 4000000
namespace Go.Rh
theorem zdD {c:q9} {e:Ent} (h:(qD c e).2=0):(qD c e).1 1=c 1∧(qD c e).1 2=c 2:=by
 obtain ⟨h1,hc,_,_⟩:=ziC h
 rw [h1]
 obtain ⟨hk,hs,_⟩:=zjq hc
 by_cases h6:e.k=6
 ·exact ⟨done6 h6 (by omega),done6 h6 (by omega)⟩
 ·obtain ⟨x0,x1,x2,x3,x4,hd,_⟩:=zix c e (by omega)
  rw [hd,ssN _ _ _ _ _ _ (by omega) (by omega),ssN _ _ _ _ _ _ (by omega) (by omega)]
  exact ⟨zeM _ _ (by omega),zeM _ _ (by omega)⟩
theorem zkF: ∀(l:List Int) (c:q9),(l.foldl ziQ c) 1=c 1∧(l.foldl ziQ c) 2=c 2
 | [],c=>⟨rfl,rfl⟩
 | n::l,c=>by
  have:=zkF l (ziQ c n)
  simp only [List.foldl_cons]
  rw [this.1,this.2]
  unfold ziQ
  split
  ·rename_i h;exact zdD h
  ·exact ⟨rfl,rfl⟩
theorem zjl (ns:List Int) (k:Nat):qA ns k 1=10∧qA ns k 2=80:=by
 have:=zkF (ns.take k) (zin 10 80 (zdX 1) (zdW 1) (zdX 2) (zdW 2)).1
 unfold qA
 rw [this.1,this.2]
 have hp:zbb 10 80=true:=by decide
 simp only [zin,hp,if_true]
 exact ⟨rfl,rfl⟩
theorem zkK {c:q9} {e:Ent} (h:(qD c e).2=0) (h6:e.k≠6) {i:Nat} (hi:323≤i):(qD c e).1 i=c i:=by
 obtain ⟨h1,hc,_,_⟩:=ziC h
 rw [h1]
 obtain ⟨hkk,hs,_⟩:=zjq hc
 obtain ⟨x0,x1,x2,x3,x4,hd,_⟩:=zix c e (by omega)
 rw [hd,ssN _ _ _ _ _ _ (by omega) (by omega)]
 exact zeM _ _ (by omega)
end Go.Rh

namespace Go.Rh
end Go.Rh

namespace Go.Rh
end Go.Rh

set_option maxHeartbeats 8000000
namespace Go.Rh
theorem PVersionC {P:Program} [PrC P] (p:q9) (is:Bool) (nr:Nat→Int×Bool) (q:Option Nat):
    Env P "(*roundhouse/plane.Plane).Version" [pv 0 0] ([cr (zN p is nr (slV 1 127 q)),cr []]) (fun v h'=>v= .tuple #[iv (p 0),bv is]∧h'= [cr (zN p is nr (slV 1 127 q)),cr []]):=by
 refine Env.by2 PrC.plane_Plane_Version ?_
 unfold zbV
 show GC _ 2 _ _ ⟨reg [(0,pv 0 0)],[cr (zN p is nr (slV 1 127 q)),cr []]⟩
 refine zJ (zM (o_d 2 [(3,bv false),(2,iv 0)] (zE (zA (zJ (zbe [] (r_d 5 [(8,pv 0 0),(7,pv 0 0),(6,pv 0 0),(5,pv 0 0),(4,pv 0 0)] (r_s (by refine zX (v:=iv (p 0)) rfl rfl ?_;exact zeu (zkw p 0 rfl (by omega))) ?_))))))))
 refine r_d 4 [(13,pv 0 330),(12,pv 0 0),(11,pv 0 0),(10,pv 0 0)] (r_s (by refine zX (v:=bv is) rfl rfl ?_;exact (zfY 0).trans rfl) ?_)
 exact r_d 2 [(3,bv is),(2,iv (p 0))] (za1 (zA (qS (⟨trivial,⟨reg [(2,iv (p 0)),(3,bv is)],[cr (zN p is nr (slV 1 127 q)),cr []]⟩,Wk.ren [0,1] rfl rfl (by decide) ⟨rfl,⟨rfl,trivial⟩⟩ ⟨.inl (qF (zaX q rfl)),⟨.inl rfl,trivial⟩⟩,[iv (p 0),bv is],(zR rfl (zR rfl rfl)),(zK rfl (zK rfl z5)),rfl,rfl⟩))))
theorem PCrashC {P:Program} [PrC P] (p:q9) (is:Bool) (nr:Nat→Int×Bool) (q:Option Nat):
    Env P "(*roundhouse/plane.Plane).Crash" [pv 0 0] ([cw (zN p is nr (slV 1 127 q)),cr []]) (fun v h'=>v= .tuple #[]∧h'= [cw (zN qL false nr0 (slV 1 127 none)),cr []]):=by
 refine Env.by2 PrC.plane_Plane_Crash ?_
 unfold zcj
 show GC _ 2 _ _ ⟨reg [(0,pv 0 0)],[cw (zN p is nr (slV 1 127 q)),cr []]⟩
 refine zM (o_d 1 [(2,pv 0 0)] (o_s (by refine zep (c:=zN qL false nr0 (.slice none 0 0)) ?_;exact bld_plane) ?_))
 refine o_d 1 [(4,pv 0 0)] (zdj (by refine zas (c':=zN qL false nr0 (.slice none 0 0)) rfl rfl rfl ?_ ?_ ?_;exact zdh _ _ _ _;exact zfZ (by omega);exact plane_wAll) ?_)
 exact zE (⟨trivial,⟨reg [],[cw (zN qL false nr0 (.slice none 0 0)),cr []]⟩,Wk.ren [0,1] rfl rfl (by decide) trivial ⟨.inl (qF rfl),⟨.inl rfl,trivial⟩⟩,[],rfl,z5,rfl,rfl⟩)
theorem PLayC {P:Program} [PrC P] (p:q9) (is:Bool) (nr:Nat→Int×Bool) (q:Option Nat) (x:q9):
    Env P "(*roundhouse/plane.maybe[roundhouse/api.Pool]).lay" [pv 0 0,zaq x] ([cw (zN p is nr (slV 1 127 q)),cr []]) (fun v h'=>v= .tuple #[]∧h'= [cw (zN x true nr (slV 1 127 q)),cr []]):=by
 refine Env.by2 PrC.plane_maybe_api_Pool_lay ?_
 unfold zbh
 show GC _ 2 _ _ ⟨reg [(0,pv 0 0),(1,zaq x)],[cw (zN p is nr (slV 1 127 q)),cr []]⟩
 refine zJ (zM (o_b 1 [(3,pv 2 0)] [cw (zN p is nr (slV 1 127 q)),cr [],cw (pl x)] (zE (zA (zM (o_d 2 [(5,pv 0 0),(4,pv 0 0)] (o_s (by refine zX (v:=zaq x) rfl rfl ?_;exact zaD x) ?_)))))))
 refine o_d 2 [(8,pv 0 0),(7,pv 0 0)] (zdj (by refine zas (c':=zN x is nr (slV 1 127 q)) rfl rfl rfl ?_ ?_ ?_;exact qI _;exact zfZ (by omega);exact plane_wP) ?_)
 refine o_b 2 [(10,pv 0 330),(9,pv 0 0)] [cw (zN x is nr (slV 1 127 q)),cr [],cw (pl x)] (zdj (by refine zas (c':=zN x true nr (slV 1 127 q)) rfl rfl rfl ?_ ?_ ?_;exact rfl;exact zfZ (by omega);exact plane_wI) ?_)
 exact zE (⟨trivial,⟨reg [],[cw (zN x true nr (slV 1 127 q)),cr []]⟩,Wk.ren [0,1] rfl rfl (by decide) trivial ⟨.inl (qF (zaX q rfl)),⟨.inl rfl,trivial⟩⟩,[],rfl,z5,rfl,rfl⟩)
theorem PLoadC {P:Program} [PrC P] (p:q9) (is:Bool) (nr:Nat→Int×Bool) (q:Option Nat) (x:q9):
    Env P "(*roundhouse/plane.Plane).Load" [pv 0 0,zaq x] ([cw (zN p is nr (slV 1 127 q)),cr []]) (fun v h'=>v= .tuple #[]∧∃m,h'= [cw (zN x true nr (slV 2 127 (some m))),cr [],slB zI (ii (qC x)) (some m)]):=by
 refine Env.by2 PrC.plane_Plane_Load ?_
 unfold zcC
 show GC _ 2 _ _ ⟨reg [(0,pv 0 0),(1,zaq x)],[cw (zN p is nr (slV 1 127 q)),cr []]⟩
 refine zJ (zM (o_b 1 [(3,pv 2 0)] [cw (zN p is nr (slV 1 127 q)),cr [],cw (pl x)] (zE (zA (zJ (zjn [cw (zN p is nr (slV 1 127 q)),cr [],cw (pl x)] (by kernel_rfl) (d_n 3 3 3 [(6,pv 0 0),(5,pv 0 0),(4,pv 0 0)] [cw (zN p is nr (slV 1 127 q)),cr [],cw (pl x)] [] (by kernel_rfl) rfl rfl (d_s rfl rfl rfl (by kernel_rfl) (by refine zX (v:=zaq x) rfl rfl ?_;exact zaD x) ?_))))))))
 refine d_clH [0,1] [cw (zN p is nr (slV 1 127 q)),cr []] [pv 0 0,zaq x] (PLayC p is nr q x) rfl (zS rfl (zS (qQ (zbk x)) rfl)) ⟨⟨_,rfl,zao (.inl (zaP (zaX q rfl) (fun q=>rfl)))⟩,⟨⟨_,rfl,zaH⟩,trivial⟩⟩ (by decide) ⟨_,_,⟨rfl,rfl⟩,Nat.le_refl _,zf4 rfl (zb9 [_] [])⟩ ?_ (by kernel_rfl)
 rintro v1 h1' ⟨rfl,rfl⟩
 refine ⟨(zW zaF (zW z8 zah)),.tuple #[],[cw (zN x true nr (slV 1 127 q)),cr [],cw (pl x)],[],(by simp [zaN]),⟨zbi (zaX q rfl),⟨(by cases true<;>rfl),⟨rfl,trivial⟩⟩⟩,trivial, ?_⟩
 refine d_nil (zA (zM (o_d 1 [(9,pv 0 0)] (o_s (by refine zX (v:=zaq x) rfl rfl ?_;exact zaD x) ?_))))
 refine qT (zdA [] [] [zaq x] (makeWC x) rfl (zS (qQ (zbk x)) rfl) trivial (by decide) ?_)
 rintro v1 h1' ⟨m1,rfl,rfl⟩
 refine ⟨zah,slV 3 127 (some m1),[cw (zN x true nr (slV 1 127 q)),cr [],cw (pl x)],[slB zI (ii (qC x)) (some m1)],rfl,⟨rfl,⟨rfl,⟨rfl,trivial⟩⟩⟩,⟨(Option.some.inj (q8 (some m1) (fun _=>(zaf _ _)))).symm,trivial⟩, ?_⟩
 refine o_d 2 [(13,pv 0 459),(12,pv 0 0)] (zdj (by refine zas (c':=zN x true nr (slV 3 127 (some m1))) rfl rfl rfl ?_ ?_ ?_;exact rfl;exact zfZ (by omega);exact plane_wW) ?_)
 exact zE (⟨trivial,⟨reg [],[cw (zN x true nr (slV 2 127 (some m1))),cr [],slB zI (ii (qC x)) (some m1)]⟩,Wk.ren [0,1,3] rfl rfl (by decide) trivial ⟨.inl (qF rfl),⟨.inl rfl,⟨.inl (q8 (some m1) (fun _=>(zaf _ _))),trivial⟩⟩⟩,[],rfl,z5,rfl,m1,rfl⟩)
theorem PNewC {P:Program} [PrC P]:
    Env P "roundhouse/plane.New" [] ([]) (fun v h'=>v=pv 0 0∧h'= [cw (zN qL false nr0 (.slice none 0 0))]):=by
 refine Env.by2 PrC.plane_New ?_
 unfold zgS
 show GC _ 0 _ _ ⟨reg [],[]⟩
 refine zJ (zM (o_d 1 [(0,.pointer none)] (zE (zA (zJ (zM (o_s (by refine zep (c:=zN qL false nr0 (.slice none 0 0)) ?_;exact bld_plane) ?_)))))))
 exact o_b 2 [(0,pv 0 0),(2,pv 0 0)] [cw (zN qL false nr0 (.slice none 0 0))] (zE (zA (qS (⟨trivial,⟨reg [(0,pv 0 0)],[cw (zN qL false nr0 (.slice none 0 0))]⟩,Wk.ren [0] rfl rfl (by decide) ⟨rfl,trivial⟩ ⟨.inl (qF rfl),trivial⟩,[pv 0 0],(zR rfl rfl),(zK rfl z5),rfl,rfl⟩))))
end Go.Rh

namespace Go.Rh
structure WIn (l0:List Wl) (S:WS):Prop where
  len:S.1.length=127
  w: ∀v∈S.1,v= -1∨∃y∈l0,v=y.s
  l: ∀x∈S.2,∃y∈l0,x.s=y.s
theorem WIn.turn {l0:List Wl} {S:WS} (h:WIn l0 S) (k:Nat):WIn l0 (zeO k S):=by
 unfold zeO
 split
 ·exact h
 split
 ·exact h
 ·rename_i x hx
  have hxm:=h.l x (List.mem_of_getElem? hx)
  refine ⟨by rw [List.length_set];exact h.len,fun v hv=>?_,fun z hz=>?_⟩
  ·rcases List.mem_or_eq_of_mem_set hv with q | q
   ·exact h.w v q
   ·exact .inr (q▸hxm)
  ·rcases List.mem_or_eq_of_mem_set hz with q | q
   ·exact h.l z q
   ·subst q;exact hxm
theorem WIn.itr {l0:List Wl} {f:WS→WS} (hf: ∀S,WIn l0 S→WIn l0 (f S)) {S:WS} (h:WIn l0 S): ∀n,WIn l0 (itr f n S)
 | 0=>h
 | n+1=>hf _ (WIn.itr hf h n)
theorem WIn.round {l0:List Wl} {S:WS} (h:WIn l0 S): ∀k,WIn l0 (zeP l0 S k)
 | 0=>h
 | k+1=>WIn.itr (fun S hS=>hS.turn k) (WIn.round h k) _
theorem wlks_st (p:q9): ∀n,∀y∈zjR p n,∃k:Nat,k < n∧y.s=(k:Int)∧p (3+5*k)=2
 | 0,y,hy=>by simp [zjR] at hy
 | n+1,y,hy=>by
  simp only [zjR] at hy
  split at hy
  ·rename_i h2
   rcases List.mem_append.1 hy with q | q
   ·obtain ⟨k,h⟩:=wlks_st p n y q;exact ⟨k,by omega,h.2⟩
   ·simp at q;subst q;exact ⟨n,by omega,rfl,h2⟩
  ·obtain ⟨k,h⟩:=wlks_st p n y hy;exact ⟨k,by omega,h.2⟩
theorem wheel_in (p:q9):(qC p).length=127∧∀v∈qC p,v= -1∨∃k:Nat,k < 64∧v=(k:Int)∧p (3+5*k)=2:=by
 have h0:WIn (zjR p 64) (zji,zjR p 64):=⟨rfl,fun v hv=> .inl (List.eq_of_mem_replicate hv),fun x hx=>⟨x,hx,rfl⟩⟩
 have h:WIn (zjR p 64) (zbE (zjR p 64) 127):=WIn.itr (fun S hS=>hS.round _) h0 127
 refine ⟨h.len,fun v hv=>?_⟩
 rcases h.w v hv with q | ⟨y,hy,q⟩
 ·exact .inl q
 ·obtain ⟨k,h1,h2,h3⟩:=wlks_st p 64 y hy
  exact .inr ⟨k,h1,by rw [q,h2],h3⟩
def zdi (W:List Int) (f:Fl):Int:=W.getD (za4 127 [3,f.a,f.p,f.ta,f.tp]).toNat 0
theorem pick_r (p:q9) (f:Fl):zdi (qC p) f= -1∨∃k:Nat,k < 64∧zdi (qC p) f=(k:Int)∧p (3+5*k)=2:=by
 have h:=wheel_in p
 have hr:=zfU (m:=127) (ns:= [3,f.a,f.p,f.ta,f.tp]) (by decide)
 refine h.2 _ ?_
 have hl:(za4 127 [3,f.a,f.p,f.ta,f.tp]).toNat < (qC p).length:=by rw [h.1];omega
 unfold zdi
 rw [List.getD_eq_getElem?_getD,List.getElem?_eq_getElem hl]
 exact List.getElem_mem hl
structure Oc where
  (e s:Int)
  c:Bool
  b:List Int
def zex (e:Int):Oc:=⟨e,-1,false,[]⟩
def rgP (p:q9):Rg:=⟨p 323,p 324,p 325,p 326,p 327,p 328,p 329⟩
abbrev zdS:=Nat→Int×Bool
def zcf (nr:zdS) (i:Nat) (y:Int×Bool):zdS:=fun j=>if j=i then y else nr j
def outC9 (p:q9) (x:Pk) (s:Int):Int:=zac (rgP p) x.k ⟨x.t,x.tp,p 1,p 2⟩ s
def outL (p:q9) (x:Pk) (m:List Int) (s:Int):List Int:=
 if x.k=2 then zck (natL m x.ba true (p 1) (p 2)) x.ba 20 2 (outC9 p x s)
 else match zcG x.op with
  | none=>natL m x.ba true (p 1) (p 2)
  | some a=>zck (natL m x.ba true (p 1) (p 2)) x.ba (24+a) 4 (putS (qE x.op a 4) (outC9 p x s))
def outN (nr:zdS) (x:Pk) (s:Nat):zdS:=
 if x.k=2 then nr else match zcG x.op with
  | none=>nr
  | some a=>zcf nr s (qE x.op a 4,true)
def zhp (p:q9) (x:Pk) (f:Fl):Option Int:=
 if x.k=2 then (if x.la=0 then none else zfc (rgP p) x.k f x.la)
 else match zcG x.op with
  | none=>none
  | some a=>if x.fl=1 then none else zfc (rgP p) x.k f (qE x.op (a+4) 4 % 1048576)
def inF (p:q9) (x:Pk):Fl:=⟨x.fr,x.fp,p 1,p 2⟩
def inP (p:q9) (x:Pk):Int×Bool:=match zhp p x (inF p x) with
 | none=>(zdi (qC p) (inF p x),false)
 | some s=>if [1,2,3].contains (p (3+5*s.toNat)) then (s,true) else (zdi (qC p) (inF p x),false)
def backN (nr:zdS) (s:Nat) (echo:Int):Int:=if (nr s).2 then zgV echo (nr s).1 else 0
def inL (p:q9) (nr:zdS) (x:Pk) (m:List Int) (s:Nat):List Int:=match zcG x.op with
 | none=>natL m x.ba false (p (3+5*s+1)) (p (3+5*s+2))
 | some a=>if x.k=1∧qE x.op (a+4) 4≠0 then zck (natL m x.ba false (p (3+5*s+1)) (p (3+5*s+2))) x.ba (24+a+4) 4 (backN nr s (qE x.op (a+4) 4)) else natL m x.ba false (p (3+5*s+1)) (p (3+5*s+2))
def stepF (b:List Int) (a:Nat) (v:Int):List Int:=zbs (zbs b a 2 v) 14 2 (zd2 (qE b 14 2) (qE b a 2) v)
def fauF (p:q9) (x:Pk):Fl:=⟨qE x.da 8 4,qE x.da 18 2,p 1,p 2⟩
def fauL (p:q9) (m:List Int) (s:Nat):List Int:=
 stepF (stepF (zck (zck m false 24 4 (p (3+5*s+1))) false 36 2 (p (3+5*s+2))) 8 (p (3+5*s+1) / 65536 % 65536)) 10 (p (3+5*s+1) / 1 % 65536)
def fauE (p:q9) (x:Pk):Prop:=(¬x.da.getD 0 0 % 256=1∧¬x.da.getD 0 0 % 256=2)∨¬qE x.da 4 4=p 1∨¬qE x.da 16 2=p 2
instance (p:q9) (x:Pk):Decidable (fauE p x):=by unfold fauE;infer_instance
def go9S (p:q9) (nr:zdS) (x:Pk) (m:List Int):Oc×zdS:=
 if x.k=3 then
  (if¬x.t=p 1 then zex 8 else if fauE p x then zex 8 else if zdi (qC p) (fauF p x) < 0 then zex 9
   else ⟨0,zdi (qC p) (fauF p x),false,fauL p m (zdi (qC p) (fauF p x)).toNat⟩,nr)
 else if x.t=p 1∧x.tp=p 2 then
  (if (inP p x).1 < 0 then zex 9 else ⟨0,(inP p x).1,(inP p x).2,inL p nr x m (inP p x).1.toNat⟩,nr)
 else if (zbL (zek p x.fr x.fp) 0 64).2=true then (⟨0,-1,false,outL p x m (zbL (zek p x.fr x.fp) 0 64).1⟩,outN nr x (zbL (zek p x.fr x.fp) 0 64).1.toNat)
 else (zex 8,nr)
def zaB (p:q9) (nr:zdS) (b:List Int):Oc×zdS:=
 if¬(qW b).1=0 then (zex (qW b).1,nr)
 else if¬(qW b).2.pi=0 then (zex 6,nr)
 else if (qW b).2.li < 2 then (zex 7,nr)
 else go9S p nr (qW b).2 (ageL b (qW b).2.ba)
def ocL (o:Oc) (k:Nat):List Value:= [iv o.e,iv o.s,bv o.c,zQ (zD o.b) k o.b.length]
def ocV (o:Oc) (k:Nat):Value:= .agg ⟨ocL o k⟩
def qR (x:Pk) (qo:Option (Nat×Nat)) (ko:Nat) (qd:Option (Nat×Nat)) (kd:Nat) (kp:Nat) (qb:Option (Nat×Nat)) (kb nb:Nat):List Value:=pkL x qo ko qd kd++ [pv kp 0,zQ qb kb nb]
theorem ren_packL {ρ:Nat→Nat} {x:Pk} {qo qd qb:Option (Nat×Nat)} {ko kd kp kb nb ko' kd' kp' kb':Nat} (h1:ρ ko=ko') (h2:ρ kd=kd') (h3:ρ kp=kp') (h4:ρ kb=kb'):(qR x qo ko qd kd kp qb kb nb).map (zes ρ)=qR x qo ko' qd kd' kp' qb kb' nb:=by
 subst h3
 simp only [qR,List.map_append,ren_pkL h1 h2,List.map_cons,List.map_nil,zhd h4];rfl
theorem zbT {ρ:Nat→Nat} {x:Pk} {qo qd qb:Option (Nat×Nat)} {ko kd kp kb nb ko' kd' kp' kb':Nat} {rw:Bool} (h1:ρ ko=ko') (h2:ρ kd=kd') (h3:ρ kp=kp') (h4:ρ kb=kb'):zbB ρ (.cells (qR x qo ko qd kd kp qb kb nb) rw)= .cells (qR x qo ko' qd kd' kp' qb kb' nb) rw:=by
 simp only [zbB];rw [ren_packL h1 h2 h3 h4]
theorem zau {ρ:Nat→Nat} {x:Pk} {qo qd qb:Option (Nat×Nat)} {ko kd kp kb nb ko' kd' kp' kb':Nat} {rw:Bool} (h1:ρ ko=ko') (h2:ρ kd=kd') (h3:ρ kp=kp') (h4:ρ kb=kb'):some (Blk.cells (qR x qo ko' qd kd' kp' qb kb' nb) rw)=some (zbB ρ (.cells (qR x qo ko qd kd kp qb kb nb) rw)):=by
 rw [zbT h1 h2 h3 h4]
theorem zb0 {ρ:Nat→Nat} {x:Pk} {qo qd qb:Option (Nat×Nat)} {ko kd kp kb nb ko' kd' kp' kb':Nat} {rw rw':Bool} (h1:ρ ko=ko') (h2:ρ kd=kd') (h3:ρ kp=kp') (h4:ρ kb=kb') (hr:rw=true→rw'=true):Blk.seen (zbB ρ (.cells (qR x qo ko qd kd kp qb kb nb) rw)) (.cells (qR x qo ko' qd kd' kp' qb kb' nb) rw'):=by
 rw [zbT h1 h2 h3 h4];exact ⟨rfl,hr⟩
theorem zhL {α:Type} (f:Nat→List α) {i:Nat} (h:i < 64):((List.range 64).map f).flatten=((List.range i).map f).flatten++(f i++((List.range' (i+1) (63 - i)).map f).flatten):=by
 have e:List.range 64=List.range i++i::List.range' (i+1) (63 - i):=by
  rw [List.range_eq_range',List.range_eq_range',show (64:Nat)=i+(63 - i+1) by omega,←List.range'_append_1,Nat.zero_add,List.range'_succ]
 rw [e];simp
theorem near_len (nr:zdS) (l:List Nat):((l.map fun i=> [Value.int .u32 (nr i).1,bv (nr i).2]).flatten).length=2*l.length:=by
 induction l with
 | nil=>rfl
 | cons a l ih=>simp only [List.map_cons,List.flatten_cons,List.length_append,ih,List.length_cons,List.length_nil];omega
theorem near_r {nr:zdS} {i j:Nat} {m:Option Nat} {v:Value} (h:i < 64) (hv:zaR m [Value.int .u32 (nr i).1,bv (nr i).2] j=some v):zaR m (zeW nr) (2*i+j)=some v:=by
 unfold zeW
 rw [zhL _ h,partL_r (by rw [near_len,List.length_range])]
 exact zcN hv
theorem zkv {p:q9} {is:Bool} {nr:zdS} {w v:Value} {i j o:Nat} {m:Option Nat} (h:i < 64) (ho:o=331+2*i+j) (hv:zaR m [Value.int .u32 (nr i).1,bv (nr i).2] j=some v):zaR m (zN p is nr w) o=some v:=by
 rw [ho,show 331+2*i+j=330+(1+(2*i+j)) by omega,zfY]
 have e1: ∀o,zaR m ([bv is]++(zeW nr++ [w])) (1+o)=zaR m (zeW nr++ [w]) o:=fun o=>partL_r rfl
 exact (e1 _).trans (zcN (near_r h hv))
theorem near_w {nr:zdS} {i j:Nat} {vs:List Value} {y:Int×Bool} (h:i < 64) (hj:j+vs.length≤2) (hv:splice [Value.int .u32 (nr i).1,bv (nr i).2] j vs= [Value.int .u32 y.1,bv y.2]):splice (zeW nr) (2*i+j) vs=zeW (zcf nr i y):=by
 unfold zeW
 have e1:((List.range i).map fun k=> [Value.int .u32 (zcf nr i y k).1,bv (zcf nr i y k).2])=(List.range i).map fun k=> [Value.int .u32 (nr k).1,bv (nr k).2]:=List.map_congr_left fun k hk=>by
  have:=List.mem_range.1 hk;simp only [zcf];rw [if_neg (by omega)]
 have e2:((List.range' (i+1) (63 - i)).map fun k=> [Value.int .u32 (zcf nr i y k).1,bv (zcf nr i y k).2])=(List.range' (i+1) (63 - i)).map fun k=> [Value.int .u32 (nr k).1,bv (nr k).2]:=List.map_congr_left fun k hk=>by
  have:=List.mem_range'_1.1 hk;simp only [zcf];rw [if_neg (by omega)]
 have e3: [Value.int .u32 (zcf nr i y i).1,bv (zcf nr i y i).2]= [Value.int .u32 y.1,bv y.2]:=by simp [zcf]
 rw [zhL _ h,zhL _ h,e1,e2,e3,zde (by rw [near_len,List.length_range]),zen hj,hv]
theorem plane_wN {p:q9} {is:Bool} {nr:zdS} {w:Value} {i j o:Nat} {vs:List Value} {y:Int×Bool} (h:i < 64) (ho:o=331+2*i+j) (hj:j+vs.length≤2) (hv:splice [Value.int .u32 (nr i).1,bv (nr i).2] j vs= [Value.int .u32 y.1,bv y.2]):splice (zN p is nr w) o vs=zN p is (zcf nr i y) w:=by
 rw [ho,show 331+2*i+j=330+(1+(2*i+j)) by omega]
 unfold zN zjc
 have e1: ∀o,splice ([bv is]++(zeW nr++ [w])) (1+o) vs= [bv is]++splice (zeW nr++ [w]) o vs:=fun o=>zde rfl
 rw [zde (qI p),e1,zen (by rw [nearL_length];omega),near_w h hj hv]
theorem zco {ρ:Nat→Nat} {c:List Value} {rw:Bool} (q:Option (Nat×Nat)):Blk.view (zbB ρ (zaK q.isSome)) (zH q c rw):=by
 cases q with
 | none=>exact zao (.inr ⟨rfl,rfl⟩)
 | some p=>exact zaH
theorem find_r {h:Nat→Bool} : ∀n i,i+n≤64→0≤(zbL h i n).1∧(zbL h i n).1 < 64
 | 0,_,_=>by simp [zbL]
 | n+1,i,q=>by
  simp only [zbL];split
  ·exact ⟨by simp,by show (i:Int) < 64;omega⟩
  ·exact find_r n (i+1) (by omega)
structure PRng (p:q9):Prop where
  a:0≤p 1∧p 1≤4294967295
  b:0≤p 2∧p 2≤65535
  e: -4611686018427387904≤p 323 - 1∧p 323 - 1≤4611686018427387904
  s: ∀k,k < 64→p (3+5*k)≠0→(0≤p (3+5*k+1)∧p (3+5*k+1)≤4294967295)∧(0≤p (3+5*k+2)∧p (3+5*k+2)≤65535)
theorem placed_r {a p:Int} (h:zbb a p=true):(0≤a∧a≤4294967295)∧(0≤p∧p≤65535):=by
 simp only [zbb,Bool.and_eq_true,decide_eq_true_eq] at h;omega
theorem PInv.rng {p:q9} {b:Nat} (I:PInv p b) (hb:b≤1000000):PRng p:=by
 have h1:=placed_r I.place
 have h2:=I.ep
 exact ⟨h1.1,h1.2,by omega,fun k hk h0=>placed_r (I.slot k hk h0).1⟩
theorem PRng.pick {p:q9} (H:PRng p) {f:Fl} {s:Nat} (h:zdi (qC p) f=(s:Int)):s < 64∧(0≤p (3+5*s+1)∧p (3+5*s+1)≤4294967295)∧(0≤p (3+5*s+2)∧p (3+5*s+2)≤65535):=by
 rcases pick_r p f with q | ⟨k,h1,h2,h3⟩
 ·omega
 ·have:s=k:=by omega
  subst this
  exact ⟨h1,H.s s h1 (by omega)⟩
theorem nrSet_set (nr:zdS) (i:Nat) (y z:Int×Bool):zcf (zcf nr i y) i z=zcf nr i z:=by
 funext j;unfold zcf;split<;>rfl
theorem nrSet_at (nr:zdS) (i:Nat) (y:Int×Bool):zcf nr i y i=y:=if_pos rfl
end Go.Rh

set_option maxHeartbeats 1000000
namespace Go.Rh
theorem dropC {P:Program} [PrC P] (e:Int):
    Env P "roundhouse/plane.drop" [iv e] ([]) (Ans (.agg #[iv e,iv (-1),bv false,.slice none 0 0]) ([])):=by
 refine Env.by PrC.plane_drop ?_
 unfold zfD
 show GC _ 0 _ _ ⟨reg [(0,iv e)],[]⟩
 exact zJ (zM (o_b 1 [(2,pv 0 0)] [cw [iv 0,iv 0,bv false,.slice none 0 0]] (zE (zA (zJ (zM (o_b 3 [(4,.agg #[iv e,iv (-1),bv false,.slice none 0 0]),(3,iv e)] [cw [iv e,iv (-1),bv false,.slice none 0 0]] (zE (zA (qS (z7 [.agg #[iv e,iv (-1),bv false,.slice none 0 0]] (zaa rfl rfl rfl rfl) rfl (by rfl) rfl rfl)))))))))))
theorem PickC {P:Program} [PrC P] (W:List Int) (m:Nat) (f:Fl) (hW:W.length=127):
    Env P "roundhouse/wheel.Pick" [sv 0 0 127 (127+m),.agg #[iv f.a,iv f.p,iv f.ta,iv f.tp]] ([cr (ii W++zay zI m)]) (fun v h'=>v=iv (zdi W f)∧h'= [cr (ii W++zay zI m)]):=by
 refine Env.by2 PrC.wheel_Pick ?_
 unfold zfu
 show GC _ 1 _ _ ⟨reg [(0,sv 0 0 127 (127+m)),(1,.agg #[iv f.a,iv f.p,iv f.ta,iv f.tp])],[cr (ii W++zay zI m)]⟩
 refine zJ (zM (o_b 2 [(4,iv 0),(3,pv 1 0)] [cr (ii W++zay zI m),cw [iv f.a,iv f.p,iv f.ta,iv f.tp]] (zE (zA (zJ (zM (o_b 9 [(14,sv 2 0 5 5),(13,iv f.tp),(12,pv 1 3),(11,iv f.ta),(10,pv 1 2),(9,iv f.p),(8,pv 1 1),(7,iv f.a),(6,pv 1 0)] [cr (ii W++zay zI m),cw [iv f.a,iv f.p,iv f.ta,iv f.tp],cw [iv 3,iv f.a,iv f.p,iv f.ta,iv f.tp]] ?_)))))))
 have hsp127:=zfU (m:=127) (ns:= [3,f.a,f.p,f.ta,f.tp]) (by decide)
 refine qT (zfp (a1:= [uv 127,sv 0 0 5 5]) [2] [ii [3,f.a,f.p,f.ta,f.tp]] (spun127C [3,f.a,f.p,f.ta,f.tp] (by simp)) rfl (fun _=>zS rfl (zS rfl rfl)) ⟨⟨_,rfl⟩,zan _,trivial⟩ rfl ?_)
 refine o_d 1 [(5,iv (za4 127 [3,f.a,f.p,f.ta,f.tp]))] (zE (zA (zJ (zJ (zM (o_d 4 [(19,bv (decide (za4 127 [3,f.a,f.p,f.ta,f.tp]≥127))),(18,iv 127),(17,sv 0 0 127 (127+m)),(16,iv (za4 127 [3,f.a,f.p,f.ta,f.tp]))] (zE (zA (qK (t:=decide (za4 127 [3,f.a,f.p,f.ta,f.tp]≥127)) rfl (fun q=>by rw [(by simp;omega:(decide (za4 127 [3,f.a,f.p,f.ta,f.tp]≥127))=false)] at q;cases q) (fun _=>?_))))))))))
 refine qM (zA (zJ (zM (o_d 2 [(21,iv (za4 127 [3,f.a,f.p,f.ta,f.tp])),(20,sv 0 0 127 (127+m))] (o_s (by exact zis (o:=0) (o':=((za4 127 [3,f.a,f.p,f.ta,f.tp]).toNat)) rfl rfl (by omega) (by omega)) ?_)))))
 refine o_s (by refine zX (v:=iv (W.getD ((za4 127 [3,f.a,f.p,f.ta,f.tp]).toNat) 0)) rfl rfl ?_;exact zcN (ii_g (i:=((za4 127 [3,f.a,f.p,f.ta,f.tp]).toNat)) rfl (by omega))) ?_
 exact o_d 1 [(4,iv (W.getD ((za4 127 [3,f.a,f.p,f.ta,f.tp]).toNat) 0))] (zE (zT [(4,iv (W.getD ((za4 127 [3,f.a,f.p,f.ta,f.tp]).toNat) 0))] (qS (⟨trivial,⟨reg [(4,iv (W.getD ((za4 127 [3,f.a,f.p,f.ta,f.tp]).toNat) 0))],[cr (ii W++zay zI m)]⟩,Wk.ren [0] rfl rfl (by decide) ⟨rfl,trivial⟩ ⟨.inl (zV (zaf W m)),trivial⟩,[iv (W.getD ((za4 127 [3,f.a,f.p,f.ta,f.tp]).toNat) 0)],(zR rfl rfl),(zK rfl z5),rfl,rfl⟩))))
theorem thenC {P:Program} [PrC P] (x:Pk) (qo qd:Option (Nat×Nat)) (o c n o2 c2 n2:Nat) (zo zd:Bool):
    Env P "(*roundhouse/plane.packet).then" [pv 0 0,zQ (some (o2,c2)) 5 n2,iv 0] ([cw (qR x qo 1 qd 2 3 (some (o,c)) 4 n),zaK zo,zaK zd,cr [],cr [],cr []]) (fun v h'=>v= .tuple #[]∧h'= [cw (qR x qo 1 qd 2 3 (some (o2,c2)) 5 n2),zaK zo,zaK zd,cr [],cr [],cr []]):=by
 refine Env.by2 PrC.plane_packet_then ?_
 unfold zci
 show GC _ 6 _ _ ⟨reg [(0,pv 0 0),(1,zQ (some (o2,c2)) 5 n2),(2,iv 0)],[cw (qR x qo 1 qd 2 3 (some (o,c)) 4 n),zaK zo,zaK zd,cr [],cr [],cr []]⟩
 refine zJ (zM (o_d 2 [(7,bv true),(6,iv 0)] (zE (zA (zc6 rfl (zM (o_d 4 [(11,pv 0 14),(10,pv 0 0),(9,zQ (some (o2,c2)) 5 n2),(8,pv 0 0)] (zdj (by refine zas (c':=qR x qo 1 qd 2 3 (some (o2,c2)) 5 n2) rfl rfl rfl ?_ ?_ ?_;exact rfl;exact (Nat.le_of_ble_eq_true rfl);exact rfl) ?_))))))))
 exact zE (⟨trivial,⟨reg [],[cw (qR x qo 1 qd 2 3 (some (o2,c2)) 5 n2),zaK zo,zaK zd,cr [],cr [],cr []]⟩,Wk.ren [0,1,2,3,4,5] rfl rfl (by decide) trivial ⟨.inl (zau rfl rfl rfl rfl),⟨.inl (congrArg some (zaO _).symm),⟨.inl (congrArg some (zaO _).symm),⟨.inl rfl,⟨.inl rfl,⟨.inl rfl,trivial⟩⟩⟩⟩⟩⟩,[],rfl,z5,rfl,rfl⟩)
end Go.Rh

set_option maxHeartbeats 1000000
namespace Go.Rh
def zc0 (nr:zdS) (s:Int):Int×Bool:=if s < 0∨64≤s then (0,false) else nr s.toNat
theorem NearC {P:Program} [PrC P] (p:q9) (is:Bool) (nr:zdS) (q:Option Nat) (s:Int):
    Env P "(*roundhouse/plane.Plane).Near" [pv 0 0,iv s] ([cr (zN p is nr (slV 1 127 q)),cr []]) (fun v h'=>v= .tuple #[u32v (zc0 nr s).1,bv (zc0 nr s).2]∧h'= [cr (zN p is nr (slV 1 127 q)),cr []]):=by
 refine Env.by2 PrC.plane_Plane_Near ?_
 unfold zcB
 show GC _ 2 _ _ ⟨reg [(0,pv 0 0),(1,iv s)],[cr (zN p is nr (slV 1 127 q)),cr []]⟩
 refine zJ (zM (o_d 2 [(5,bv false),(4,.int .u32 0)] (zE (zA (zJ (zJ (zM (o_d 3 [(8,bv (decide (s < 0))),(7,bv (decide (s < 0))),(6,iv s)] (zce (b:=decide (s < 0)) 8 rfl (fun h1=>?_) (fun h1=>?_))))))))))
 ·skip
  have h1':s < 0:=of_decide_eq_true h1
  exact o_d 3 [(11,bv true),(10,undef),(9,undef)] (zE (zA (zc6 rfl (zJ (zM (o_d 2 [(5,bv false),(4,.int .u32 0)] (zE (zA (qS (⟨trivial,⟨reg [(4,.int .u32 0),(5,bv false)],[cr (zN p is nr (slV 1 127 q)),cr []]⟩,Wk.ren [0,1] rfl rfl (by decide) ⟨rfl,⟨rfl,trivial⟩⟩ ⟨.inl (qF (zaX q rfl)),⟨.inl rfl,trivial⟩⟩,[.int .u32 0,bv false],(zR rfl (zR rfl rfl)),(zK rfl (zK rfl z5)),(by rw [zc0,if_pos (by omega)];rfl),rfl⟩))))))))))
 have h1': ¬(s < 0):=of_decide_eq_false h1
 refine o_d 3 [(11,bv (decide (s≥64))),(10,bv (decide (s≥64))),(9,iv s)] (zE (zA (qK (t:=decide (s≥64)) rfl (fun h2=>?_) (fun h2=>?_))))
 ·skip
  have h2':s≥64:=of_decide_eq_true h2
  exact zJ (zM (o_d 2 [(5,bv false),(4,.int .u32 0)] (zE (zA (qS (⟨trivial,⟨reg [(4,.int .u32 0),(5,bv false)],[cr (zN p is nr (slV 1 127 q)),cr []]⟩,Wk.ren [0,1] rfl rfl (by decide) ⟨rfl,⟨rfl,trivial⟩⟩ ⟨.inl (qF (zaX q rfl)),⟨.inl rfl,trivial⟩⟩,[.int .u32 0,bv false],(zR rfl (zR rfl rfl)),(zK rfl (zK rfl z5)),(by rw [zc0,if_pos (by omega)];rfl),rfl⟩))))))
 have h2': ¬(s≥64):=of_decide_eq_false h2
 refine qM (zA (zJ (zbe [] (r_d 4 [(15,pv 0 331),(14,pv 0 0),(13,iv s),(12,pv 0 0)] (r_s (by exact zaW (o:=331) (o':=331+2*s.toNat) rfl rfl (by omega) (by omega)) ?_)))))
 refine r_s (by refine zcq (o':=331+2*s.toNat) rfl (by omega)) ?_
 refine r_s (by refine zX (v:= .int .u32 ((nr s.toNat).1)) rfl rfl ?_;exact zkv (i:=s.toNat) (j:=0) (by omega) (by omega) rfl) ?_
 refine r_d 4 [(22,pv 0 331),(21,pv 0 0),(20,iv s),(19,pv 0 0)] (r_s (by exact zaW (o:=331) (o':=331+2*s.toNat) rfl rfl (by omega) (by omega)) ?_)
 refine r_s (by refine zcq (o':=332+2*s.toNat) rfl (by omega)) ?_
 refine r_s (by refine zX (v:=bv ((nr s.toNat).2)) rfl rfl ?_;exact zkv (i:=s.toNat) (j:=1) (by omega) (by omega) rfl) ?_
 exact r_d 2 [(5,bv ((nr s.toNat).2)),(4,.int .u32 ((nr s.toNat).1))] (za1 (zT [(5,bv ((nr s.toNat).2)),(4,.int .u32 ((nr s.toNat).1))] (qS (⟨trivial,⟨reg [(4,.int .u32 ((nr s.toNat).1)),(5,bv ((nr s.toNat).2))],[cr (zN p is nr (slV 1 127 q)),cr []]⟩,Wk.ren [0,1] rfl rfl (by decide) ⟨rfl,⟨rfl,trivial⟩⟩ ⟨.inl (qF (zaX q rfl)),⟨.inl rfl,trivial⟩⟩,[.int .u32 ((nr s.toNat).1),bv ((nr s.toNat).2)],(zR rfl (zR rfl rfl)),(zK rfl (zK rfl z5)),(by rw [zc0,if_neg (by omega)];rfl),rfl⟩))))
theorem LayUC {P:Program} [PrC P] (p:q9) (is:Bool) (nr:zdS) (q:Option Nat) (i:Nat) (v:Int) (hi:i < 64):
    Env P "(*roundhouse/plane.maybe[uint32]).lay" [pv 0 (331+2*i),.int .u32 v] ([cw (zN p is nr (slV 1 127 q)),cr []]) (fun w h'=>w= .tuple #[]∧h'= [cw (zN p is (zcf nr i (v,true)) (slV 1 127 q)),cr []]):=by
 refine Env.by2 PrC.plane_maybe_uint32_lay ?_
 unfold zby
 show GC _ 2 _ _ ⟨reg [(0,pv 0 (331+2*i)),(1,.int .u32 v)],[cw (zN p is nr (slV 1 127 q)),cr []]⟩
 refine zM (o_d 4 [(7,pv 0 (331+2*i)),(6,.int .u32 v),(5,pv 0 (331+2*i)),(4,pv 0 (331+2*i))] (o_s (by refine zcq (o':=331+2*i) rfl (by omega)) ?_))
 refine zdj (by refine zas (c':=zN p is (zcf nr i (v,(nr i).2)) (slV 1 127 q)) rfl rfl rfl ?_ ?_ ?_;exact rfl;exact zfZ (by omega);exact plane_wN (i:=i) (j:=0) (y:=(v,(nr i).2)) (by omega) (by omega) (Nat.le_of_ble_eq_true rfl) rfl) ?_
 refine o_b 1 [(9,pv 0 (331+2*i))] [cw (zN p is (zcf nr i (v,(nr i).2)) (slV 1 127 q)),cr []] (o_s (by refine zcq (o':=332+2*i) rfl (by omega)) ?_)
 refine zdj (by refine zas (c':=zN p is (zcf (zcf nr i (v,(nr i).2)) i (((zcf nr i (v,(nr i).2)) i).1,true)) (slV 1 127 q)) rfl rfl rfl ?_ ?_ ?_;exact rfl;exact zfZ (by omega);exact plane_wN (i:=i) (j:=1) (y:=(((zcf nr i (v,(nr i).2)) i).1,true)) (by omega) (by omega) (Nat.le_of_ble_eq_true rfl) rfl) ?_
 exact zE (⟨trivial,⟨reg [],[cw (zN p is (zcf (zcf nr i (v,(nr i).2)) i (((zcf nr i (v,(nr i).2)) i).1,true)) (slV 1 127 q)),cr []]⟩,Wk.ren [0,1] rfl rfl (by decide) trivial ⟨.inl (qF (zaX q rfl)),⟨.inl rfl,trivial⟩⟩,[],rfl,z5,rfl,(by rw [nrSet_set,nrSet_at])⟩)
theorem carriedC {P:Program} [PrC P] (p:q9) (is:Bool) (nr:zdS) (q:Option Nat) (x:Pk) (qd:Option (Nat×Nat)) (o c n:Nat) (zd:Bool) (f:Fl) (r:Option Int) (ho:zhp p x f=r) (hl:x.op.length≤100000) (H:PRng p):
    Env P "(*roundhouse/plane.packet).carried" [pv 0 0,.agg #[iv f.a,iv f.p,iv f.ta,iv f.tp]] ([cr (qR x (zD x.op) 1 qd 2 3 (some (o,c)) 4 n),zH (zD x.op) (u8 x.op) false,zaK zd,cr (zN p is nr (slV 5 127 q)),cr [],cr []]) (fun v h'=>v=zd7 r∧h'= [cr (qR x (zD x.op) 1 qd 2 3 (some (o,c)) 4 n),zH (zD x.op) (u8 x.op) false,zaK zd,cr (zN p is nr (slV 5 127 q)),cr [],cr []]):=by
 refine Env.by2 PrC.plane_packet_carried ?_
 unfold zbO
 show GC _ 6 _ _ ⟨reg [(0,pv 0 0),(1,.agg #[iv f.a,iv f.p,iv f.ta,iv f.tp])],[cr (qR x (zD x.op) 1 qd 2 3 (some (o,c)) 4 n),zH (zD x.op) (u8 x.op) false,zaK zd,cr (zN p is nr (slV 5 127 q)),cr [],cr []]⟩
 have hep:=H.e
 refine zJ (zM (o_b 3 [(5,bv false),(4,iv 0),(3,pv 6 0)] [cr (qR x (zD x.op) 1 qd 2 3 (some (o,c)) 4 n),zH (zD x.op) (u8 x.op) false,zaK zd,cr (zN p is nr (slV 5 127 q)),cr [],cr [],cw [iv f.a,iv f.p,iv f.ta,iv f.tp]] (zE (zA (zJ (zM (o_d 3 [(15,pv 0 13),(14,pv 0 0),(13,pv 0 0)] (o_s (by refine zX (v:=pv 3 0) rfl rfl ?_;exact rfl) ?_))))))))
 refine o_d 4 [(20,pv 3 323),(19,pv 3 0),(18,pv 3 0),(17,pv 3 0)] (o_s (by refine zX (v:= .agg #[iv (p 323),uv (p 324),uv (p 325),uv (p 326),uv (p 327),uv (p 328),uv (p 329)]) rfl rfl ?_;exact zeu (pl_ring p)) ?_)
 refine o_b 2 [(6,pv 7 0)] [cr (qR x (zD x.op) 1 qd 2 3 (some (o,c)) 4 n),zH (zD x.op) (u8 x.op) false,zaK zd,cr (zN p is nr (slV 5 127 q)),cr [],cr [],cw [iv f.a,iv f.p,iv f.ta,iv f.tp],cw [iv (p 323),uv (p 324),uv (p 325),uv (p 326),uv (p 327),uv (p 328),uv (p 329)]] (zE (zA (zJ (zJ (zM (o_d 4 [(25,pv 0 0),(24,pv 0 0),(23,pv 0 0),(22,pv 0 0)] (o_s (by refine zX (v:=iv x.k) rfl rfl ?_;exact rfl) ?_)))))))
 refine o_d 1 [(27,bv (x.k==2))] (zE (zA (qK (t:=x.k==2) rfl (fun h1=>?_) (fun h1=>?_))))
 ·skip
  have h1':x.k=2:=zaL h1
  refine zJ (zJ (zM (o_d 4 [(31,pv 0 8),(30,pv 0 0),(29,pv 0 0),(28,pv 0 0)] (o_s (by refine zX (v:=iv x.la) rfl rfl ?_;exact rfl) ?_))))
  refine o_d 1 [(33,bv (x.la==0))] (zE (zT [(33,bv (x.la==0)),(6,pv 7 0),(3,pv 6 0),(0,pv 0 0)] (qK (t:=x.la==0) rfl (fun h2=>?_) (fun h2=>?_))))
  ·skip
   have h2':x.la=0:=zaL h2
   refine zJ (zM (o_d 2 [(5,bv false),(4,iv 0)] (zE (zA (qS ?_)))))
   have he:zhp p x f=none:=by
    unfold zhp
    rw [if_pos (by assumption)]
    rw [if_pos (by assumption)]
   exact ⟨trivial,⟨reg [(4,iv 0),(5,bv false)],[cr (qR x (zD x.op) 1 qd 2 3 (some (o,c)) 4 n),zH (zD x.op) (u8 x.op) false,zaK zd,cr (zN p is nr (slV 5 127 q)),cr [],cr []]⟩,Wk.ren [0,1,2,3,4,5] rfl rfl (by decide) ⟨rfl,⟨rfl,trivial⟩⟩ ⟨.inl (zau rfl rfl rfl rfl),⟨.inl (zF (zG _)),⟨.inl (congrArg some (zaO _).symm),⟨.inl (qF (zaX q rfl)),⟨.inl rfl,⟨.inl rfl,trivial⟩⟩⟩⟩⟩⟩,[iv 0,bv false],(zR rfl (zR rfl rfl)),(zK rfl (zK rfl z5)),(congrArg zd7 (he.symm.trans ho)),rfl⟩
  have h2': ¬(x.la=0):=zaM h2
  refine qM (zA (zJ (zbe [] (r_d 5 [(38,pv 0 0),(37,pv 0 0),(36,pv 0 0),(35,pv 0 0),(34,.agg #[iv (p 323),uv (p 324),uv (p 325),uv (p 326),uv (p 327),uv (p 328),uv (p 329)])] (r_s (by refine zX (v:=iv x.k) rfl rfl ?_;exact rfl) ?_)))))
  refine r_d 5 [(44,pv 0 8),(43,pv 0 0),(42,pv 0 0),(41,pv 0 0),(40,.agg #[iv f.a,iv f.p,iv f.ta,iv f.tp])] (r_s (by refine zX (v:=iv x.la) rfl rfl ?_;exact rfl) ?_)
  rcases r3:zfc (rgP p) x.k f x.la with _ | s4
  ·skip
   refine zeV (zbg (cReadC (rgP p) x.k f x.la none r3 (by exact hep)) rfl rfl rfl ?_)
   refine r_d 4 [(5,bv false),(4,iv 0),(48,bv false),(47,iv 0)] (za1 (zA (qS ?_)))
   have he:zhp p x f=none:=by
    unfold zhp
    rw [if_pos (by assumption)]
    rw [if_neg (by assumption)]
    exact r3
   exact ⟨trivial,⟨reg [(4,iv 0),(5,bv false)],[cr (qR x (zD x.op) 1 qd 2 3 (some (o,c)) 4 n),zH (zD x.op) (u8 x.op) false,zaK zd,cr (zN p is nr (slV 5 127 q)),cr [],cr []]⟩,Wk.ren [0,1,2,3,4,5] rfl rfl (by decide) ⟨rfl,⟨rfl,trivial⟩⟩ ⟨.inl (zau rfl rfl rfl rfl),⟨.inl (zF (zG _)),⟨.inl (congrArg some (zaO _).symm),⟨.inl (qF (zaX q rfl)),⟨.inl rfl,⟨.inl rfl,trivial⟩⟩⟩⟩⟩⟩,[iv 0,bv false],(zR rfl (zR rfl rfl)),(zK rfl (zK rfl z5)),(congrArg zd7 (he.symm.trans ho)),rfl⟩
  ·skip
   have hs4:=readS_r r3
   refine zeV (zbg (cReadC (rgP p) x.k f x.la (some s4) r3 (by exact hep)) rfl rfl rfl ?_)
   refine r_d 4 [(5,bv true),(4,iv s4),(48,bv true),(47,iv s4)] (za1 (zA (qS ?_)))
   have he:zhp p x f=some s4:=by
    unfold zhp
    rw [if_pos (by assumption)]
    rw [if_neg (by assumption)]
    exact r3
   exact ⟨trivial,⟨reg [(4,iv s4),(5,bv true)],[cr (qR x (zD x.op) 1 qd 2 3 (some (o,c)) 4 n),zH (zD x.op) (u8 x.op) false,zaK zd,cr (zN p is nr (slV 5 127 q)),cr [],cr []]⟩,Wk.ren [0,1,2,3,4,5] rfl rfl (by decide) ⟨rfl,⟨rfl,trivial⟩⟩ ⟨.inl (zau rfl rfl rfl rfl),⟨.inl (zF (zG _)),⟨.inl (congrArg some (zaO _).symm),⟨.inl (qF (zaX q rfl)),⟨.inl rfl,⟨.inl rfl,trivial⟩⟩⟩⟩⟩⟩,[iv s4,bv true],(zR rfl (zR rfl rfl)),(zK rfl (zK rfl z5)),(congrArg zd7 (he.symm.trans ho)),rfl⟩
 have h1': ¬(x.k=2):=zaM h1
 refine qM (zA (zJ (zM (o_d 4 [(53,pv 0 11),(52,pv 0 0),(51,pv 0 0),(50,pv 0 0)] (o_s (by refine zX (v:=zQ (zD x.op) 1 x.op.length) rfl rfl ?_;exact rfl) ?_)))))
 rcases ha5:zcG x.op with _ | a5
 ·skip
  refine qT (zaG [1] [zH (zD x.op) (u8 x.op) false] [zQ (zD x.op) 0 x.op.length] (zhy ha5 (zkM (zD x.op) x.op x.op (zdv x.op) (by omega))) rfl (zS (qH rfl) rfl) ⟨⟨_,rfl,zZ (zG _) rfl (fun q=>q)⟩,trivial⟩ (by decide) ?_)
  rintro v1 h1' ⟨rfl,rfl⟩
  refine ⟨zab [_] [],.tuple #[iv 0,.int .u32 0,.int .u32 0,bv false],[cr (qR x (zD x.op) 1 qd 2 3 (some (o,c)) 4 n),zH (zD x.op) (u8 x.op) false,zaK zd,cr (zN p is nr (slV 5 127 q)),cr [],cr [],cw [iv f.a,iv f.p,iv f.ta,iv f.tp],cw [iv (p 323),uv (p 324),uv (p 325),uv (p 326),uv (p 327),uv (p 328),uv (p 329)]],[],(qQ rfl),⟨rfl,⟨(zaS rfl rfl),⟨rfl,⟨rfl,⟨rfl,⟨rfl,⟨rfl,⟨rfl,trivial⟩⟩⟩⟩⟩⟩⟩⟩,trivial, ?_⟩
  refine o_d 9 [(10,bv false),(9,.int .u32 0),(8,.int .u32 0),(7,iv 0),(59,bv false),(58,.int .u32 0),(57,.int .u32 0),(56,iv 0),(49,.tuple #[iv 0,.int .u32 0,.int .u32 0,bv false])] (zE (zT [(10,bv false),(9,.int .u32 0),(6,pv 7 0),(3,pv 6 0),(0,pv 0 0)] (zJ (zJ (zM (o_d 10 [(69,bv true),(68,undef),(67,undef),(66,undef),(65,undef),(64,undef),(63,undef),(62,bv true),(61,bv true),(60,bv false)] (zE (zA (zc6 rfl (zJ (zM (o_d 2 [(5,bv false),(4,iv 0)] ?_))))))))))))
  refine zE (zA (qS ?_))
  have he:zhp p x f=none:=by
   unfold zhp
   rw [if_neg (by assumption)]
   simp only [ha5]
  exact ⟨trivial,⟨reg [(4,iv 0),(5,bv false)],[cr (qR x (zD x.op) 1 qd 2 3 (some (o,c)) 4 n),zH (zD x.op) (u8 x.op) false,zaK zd,cr (zN p is nr (slV 5 127 q)),cr [],cr []]⟩,Wk.ren [0,1,2,3,4,5] rfl rfl (by decide) ⟨rfl,⟨rfl,trivial⟩⟩ ⟨.inl (zau rfl rfl rfl rfl),⟨.inl (zF (zG _)),⟨.inl (congrArg some (zaO _).symm),⟨.inl (qF (zaX q rfl)),⟨.inl rfl,⟨.inl rfl,trivial⟩⟩⟩⟩⟩⟩,[iv 0,bv false],(zR rfl (zR rfl rfl)),(zK rfl (zK rfl z5)),(congrArg zd7 (he.symm.trans ho)),rfl⟩
 ·skip
  have ha5r:=stampO_r ha5
  have ha5m:=zew x.op a5 4 (by decide)
  have ha5n:=zew x.op (a5+4) 4 (by decide)
  refine qT (zaG [1] [zH (zD x.op) (u8 x.op) false] [zQ (zD x.op) 0 x.op.length] (zhx ha5 (zkM (zD x.op) x.op x.op (zdv x.op) (by omega))) rfl (zS (qH rfl) rfl) ⟨⟨_,rfl,zZ (zG _) rfl (fun q=>q)⟩,trivial⟩ (by decide) ?_)
  rintro v1 h1' ⟨rfl,rfl⟩
  refine ⟨zab [_] [],.tuple #[iv (a5:Nat),.int .u32 (qE x.op a5 4),.int .u32 (qE x.op (a5+4) 4),bv true],[cr (qR x (zD x.op) 1 qd 2 3 (some (o,c)) 4 n),zH (zD x.op) (u8 x.op) false,zaK zd,cr (zN p is nr (slV 5 127 q)),cr [],cr [],cw [iv f.a,iv f.p,iv f.ta,iv f.tp],cw [iv (p 323),uv (p 324),uv (p 325),uv (p 326),uv (p 327),uv (p 328),uv (p 329)]],[],(qQ rfl),⟨rfl,⟨(zaS rfl rfl),⟨rfl,⟨rfl,⟨rfl,⟨rfl,⟨rfl,⟨rfl,trivial⟩⟩⟩⟩⟩⟩⟩⟩,trivial, ?_⟩
  refine o_d 9 [(10,bv true),(9,.int .u32 (qE x.op (a5+4) 4)),(8,.int .u32 (qE x.op a5 4)),(7,iv (a5:Nat)),(59,bv true),(58,.int .u32 (qE x.op (a5+4) 4)),(57,.int .u32 (qE x.op a5 4)),(56,iv (a5:Nat)),(49,.tuple #[iv (a5:Nat),.int .u32 (qE x.op a5 4),.int .u32 (qE x.op (a5+4) 4),bv true])] (zE (zT [(10,bv true),(9,.int .u32 (qE x.op (a5+4) 4)),(6,pv 7 0),(3,pv 6 0),(0,pv 0 0)] (zJ (zJ (zM (o_d 7 [(66,pv 0 7),(65,pv 0 0),(64,pv 0 0),(63,pv 0 0),(62,bv false),(61,bv false),(60,bv true)] (qJ rfl (o_s (by refine zX (v:=iv x.fl) rfl rfl ?_;exact rfl) ?_))))))))
  refine o_d 2 [(69,bv (x.fl==1)),(68,bv (x.fl==1))] (zE (zA (qK (t:=x.fl==1) rfl (fun h6=>?_) (fun h6=>?_))))
  ·skip
   have h6':x.fl=1:=zaL h6
   refine zJ (zM (o_d 2 [(5,bv false),(4,iv 0)] (zE (zA (qS ?_)))))
   have he:zhp p x f=none:=by
    unfold zhp
    rw [if_neg (by assumption)]
    simp only [ha5]
    exact if_pos (by assumption)
   exact ⟨trivial,⟨reg [(4,iv 0),(5,bv false)],[cr (qR x (zD x.op) 1 qd 2 3 (some (o,c)) 4 n),zH (zD x.op) (u8 x.op) false,zaK zd,cr (zN p is nr (slV 5 127 q)),cr [],cr []]⟩,Wk.ren [0,1,2,3,4,5] rfl rfl (by decide) ⟨rfl,⟨rfl,trivial⟩⟩ ⟨.inl (zau rfl rfl rfl rfl),⟨.inl (zF (zG _)),⟨.inl (congrArg some (zaO _).symm),⟨.inl (qF (zaX q rfl)),⟨.inl rfl,⟨.inl rfl,trivial⟩⟩⟩⟩⟩⟩,[iv 0,bv false],(zR rfl (zR rfl rfl)),(zK rfl (zK rfl z5)),(congrArg zd7 (he.symm.trans ho)),rfl⟩
  have h6': ¬(x.fl=1):=zaM h6
  refine qM (zA (zJ (zM (o_d 1 [(71,.int .u32 (qE x.op (a5+4) 4))] (qT (zag (cGetC (qE x.op (a5+4) 4) (by omega)) rfl rfl rfl ?_))))))
  refine o_d 5 [(12,iv ((qE x.op (a5+4) 4) % 1048576)),(11,iv ((qE x.op (a5+4) 4) / 1048576)),(74,iv ((qE x.op (a5+4) 4) % 1048576)),(73,iv ((qE x.op (a5+4) 4) / 1048576)),(70,.tuple #[iv ((qE x.op (a5+4) 4) / 1048576),iv ((qE x.op (a5+4) 4) % 1048576)])] (zE (zA (zJ (zbe [] (r_d 5 [(79,pv 0 0),(78,pv 0 0),(77,pv 0 0),(76,pv 0 0),(75,.agg #[iv (p 323),uv (p 324),uv (p 325),uv (p 326),uv (p 327),uv (p 328),uv (p 329)])] (r_s (by refine zX (v:=iv x.k) rfl rfl ?_;exact rfl) ?_))))))
  refine r_d 2 [(82,iv ((qE x.op (a5+4) 4) % 1048576)),(81,.agg #[iv f.a,iv f.p,iv f.ta,iv f.tp])] ?_
  rcases r7:zfc (rgP p) x.k f ((qE x.op (a5+4) 4) % 1048576) with _ | s8
  ·skip
   refine zeV (zbg (cReadC (rgP p) x.k f ((qE x.op (a5+4) 4) % 1048576) none r7 (by exact hep)) rfl rfl rfl ?_)
   refine r_d 4 [(5,bv false),(4,iv 0),(85,bv false),(84,iv 0)] (za1 (zT [(5,bv false),(4,iv 0)] (qS ?_)))
   have he:zhp p x f=none:=by
    unfold zhp
    rw [if_neg (by assumption)]
    simp only [ha5]
    rw [if_neg (by assumption)]
    exact r7
   exact ⟨trivial,⟨reg [(4,iv 0),(5,bv false)],[cr (qR x (zD x.op) 1 qd 2 3 (some (o,c)) 4 n),zH (zD x.op) (u8 x.op) false,zaK zd,cr (zN p is nr (slV 5 127 q)),cr [],cr []]⟩,Wk.ren [0,1,2,3,4,5] rfl rfl (by decide) ⟨rfl,⟨rfl,trivial⟩⟩ ⟨.inl (zau rfl rfl rfl rfl),⟨.inl (zF (zG _)),⟨.inl (congrArg some (zaO _).symm),⟨.inl (qF (zaX q rfl)),⟨.inl rfl,⟨.inl rfl,trivial⟩⟩⟩⟩⟩⟩,[iv 0,bv false],(zR rfl (zR rfl rfl)),(zK rfl (zK rfl z5)),(congrArg zd7 (he.symm.trans ho)),rfl⟩
  ·skip
   have hs8:=readS_r r7
   refine zeV (zbg (cReadC (rgP p) x.k f ((qE x.op (a5+4) 4) % 1048576) (some s8) r7 (by exact hep)) rfl rfl rfl ?_)
   refine r_d 4 [(5,bv true),(4,iv s8),(85,bv true),(84,iv s8)] (za1 (zT [(5,bv true),(4,iv s8)] (qS ?_)))
   have he:zhp p x f=some s8:=by
    unfold zhp
    rw [if_neg (by assumption)]
    simp only [ha5]
    rw [if_neg (by assumption)]
    exact r7
   exact ⟨trivial,⟨reg [(4,iv s8),(5,bv true)],[cr (qR x (zD x.op) 1 qd 2 3 (some (o,c)) 4 n),zH (zD x.op) (u8 x.op) false,zaK zd,cr (zN p is nr (slV 5 127 q)),cr [],cr []]⟩,Wk.ren [0,1,2,3,4,5] rfl rfl (by decide) ⟨rfl,⟨rfl,trivial⟩⟩ ⟨.inl (zau rfl rfl rfl rfl),⟨.inl (zF (zG _)),⟨.inl (congrArg some (zaO _).symm),⟨.inl (qF (zaX q rfl)),⟨.inl rfl,⟨.inl rfl,trivial⟩⟩⟩⟩⟩⟩,[iv s8,bv true],(zR rfl (zR rfl rfl)),(zK rfl (zK rfl z5)),(congrArg zd7 (he.symm.trans ho)),rfl⟩
end Go.Rh

set_option maxHeartbeats 1000000
namespace Go.Rh
theorem zbn {ρ:Nat→Nat} {a b:Int} {c:Bool} {q:Option (Nat×Nat)} {k k' n:Nat} (h:ρ k=k'):zaN ρ (.agg #[iv a,iv b,bv c,zQ q k n])= .agg #[iv a,iv b,bv c,zQ q k' n]:=by
 simp only [zaN,ze9,List.map_toArray,List.map_cons,List.map_nil,zhd h];rfl
theorem chgR {P:Program} {g:String} {l m f:List Int} {rest:List Value} {o c n:Nat} {L:List Int} (hm:f=m) (hn:l.length=n) (h:Env P g (zQ (some (o,c)) 0 l.length::rest) [zH (some (o,c)) (u8 L) false] (fun v h'=>v= .tuple #[zQ (some (0,l.length)) 1 l.length,iv 0]∧h'= [zH (some (o,c)) (u8 L) false,zH (some (0,l.length)) (u8 f) true])):
  Env P g (zQ (some (o,c)) 0 n::rest) [zH (some (o,c)) (u8 L) false] (fun v h'=>v= .tuple #[zQ (some (0,n)) 1 n,iv 0]∧h'= [zH (some (o,c)) (u8 L) false,zH (some (0,n)) (u8 m) true]):=by
 subst hm;subst hn;exact h
theorem putS_r (v c:Int):0≤putS v c∧putS v c < 4294967296:=by unfold putS;omega
theorem carS_r {p:q9} {x:Pk} {f:Fl} {s:Int} (h:zhp p x f=some s):0≤s∧s < 64:=by
 unfold zhp at h
 split at h
 ·split at h
  ·cases h
  ·exact readS_r h
 ·split at h
  ·cases h
  ·split at h
   ·cases h
   ·exact readS_r h
theorem outC3 {P:Program} [PrC P] (p:q9) (is:Bool) (nr:zdS) (q:Option Nat) (x:Pk) (qd:Option (Nat×Nat)) (zd:Bool) (l:List Int) (y:Pk) (hp:qW l=(0,y)) (hk:y.k=x.k) (hba:y.ba=x.ba) (h3:x.k≠3) (hop:x.op.length+24≤l.length) (s:Nat) (hs:s < 64) (H:PRng p):
    Env P "(*roundhouse/plane.packet).out" [pv 0 0,iv (s:Nat)] ([cw (qR x (zD x.op) 1 qd 2 3 (some (0,l.length)) 4 l.length),zH (zD x.op) (u8 x.op) false,zaK zd,cw (zN p is nr (slV 5 127 q)),zH (some (0,l.length)) (u8 l) false,cr []]) (fun v h'=>v= .agg #[iv 0,iv (-1),bv false,zQ (some (0,l.length)) 6 l.length]∧h'= [cw (qR x (zD x.op) 1 qd 2 3 (some (0,l.length)) 6 l.length),zH (zD x.op) (u8 x.op) false,zaK zd,cw (zN p is (outN nr x s) (slV 5 127 q)),zH (some (0,l.length)) (u8 l) false,cr [],zH (some (0,l.length)) (u8 (outL p x l (s:Nat))) true]):=by
 refine Env.by4 PrC.plane_packet_out ?_
 unfold zcA
 show GC _ 6 _ _ ⟨reg [(0,pv 0 0),(1,iv (s:Nat))],[cw (qR x (zD x.op) 1 qd 2 3 (some (0,l.length)) 4 l.length),zH (zD x.op) (u8 x.op) false,zaK zd,cw (zN p is nr (slV 5 127 q)),zH (some (0,l.length)) (u8 l) false,cr []]⟩
 have hl:=zcY hp
 have hp1:=H.a
 have hp2:=H.b
 refine zJ (zM (o_b 1 [(4,pv 6 0)] [cw (qR x (zD x.op) 1 qd 2 3 (some (0,l.length)) 4 l.length),zH (zD x.op) (u8 x.op) false,zaK zd,cw (zN p is nr (slV 5 127 q)),zH (some (0,l.length)) (u8 l) false,cr [],cw [iv 0,iv 0,bv false,.slice none 0 0]] (zE (zA (zJ (zM (o_d 3 [(13,pv 0 13),(12,pv 0 0),(11,pv 0 0)] (o_s (by refine zX (v:=pv 3 0) rfl rfl ?_;exact rfl) ?_))))))))
 refine o_d 3 [(17,pv 3 0),(16,pv 3 0),(15,pv 3 0)] (o_s (by refine zX (v:=zaq p) rfl rfl ?_;exact zeu (zaD p)) ?_)
 refine o_b 1 [(5,pv 7 0)] [cw (qR x (zD x.op) 1 qd 2 3 (some (0,l.length)) 4 l.length),zH (zD x.op) (u8 x.op) false,zaK zd,cw (zN p is nr (slV 5 127 q)),zH (some (0,l.length)) (u8 l) false,cr [],cw [iv 0,iv 0,bv false,.slice none 0 0],cw (pl qL)] (zdj (by refine zas (c':=pl p) rfl rfl rfl ?_ ?_ ?_;exact qI _;exact zb2 (by omega);exact qZ qL p) ?_)
 refine zE (zA (zJ (zbe [] (r_d 1 [(19,pv 7 323)] (r_s (by refine zX (v:= .agg #[iv (p 323),uv (p 324),uv (p 325),uv (p 326),uv (p 327),uv (p 328),uv (p 329)]) rfl rfl ?_;exact pl_ring p) ?_)))))
 refine r_d 4 [(24,pv 0 0),(23,pv 0 0),(22,pv 0 0),(21,pv 0 0)] (r_s (by refine zX (v:=iv x.k) rfl rfl ?_;exact rfl) ?_)
 refine r_d 4 [(29,pv 0 4),(28,pv 0 0),(27,pv 0 0),(26,pv 0 0)] (r_s (by refine zX (v:=iv x.t) rfl rfl ?_;exact rfl) ?_)
 refine r_d 4 [(34,pv 0 6),(33,pv 0 0),(32,pv 0 0),(31,pv 0 0)] (r_s (by refine zX (v:=iv x.tp) rfl rfl ?_;exact rfl) ?_)
 refine r_d 1 [(36,pv 7 1)] (r_s (by refine zX (v:=iv (p 1)) rfl rfl ?_;exact zkw p 1 rfl (by omega)) ?_)
 refine r_d 1 [(38,pv 7 2)] (r_s (by refine zX (v:=iv (p 2)) rfl rfl ?_;exact zkw p 2 rfl (by omega)) ?_)
 refine r_d 2 [(41,iv (s:Nat)),(40,.agg #[iv x.t,iv x.tp,iv (p 1),iv (p 2)])] (zeV (zbg (cMakeC (rgP p) x.k (Fl.mk x.t x.tp (p 1) (p 2)) (s:Nat) (by omega)) rfl rfl rfl ?_))
 have hy1:=cookS_r (rgP p) x.k (Fl.mk x.t x.tp (p 1) (p 2)) (s:=(s:Nat)) (by omega)
 refine r_d 1 [(6,iv (zac (rgP p) x.k (Fl.mk x.t x.tp (p 1) (p 2)) (s:Nat)))] (za1 (zT [(6,iv (zac (rgP p) x.k (Fl.mk x.t x.tp (p 1) (p 2)) (s:Nat))),(5,pv 7 0),(4,pv 6 0),(0,pv 0 0),(1,iv (s:Nat))] (zJ (zjn [cw (qR x (zD x.op) 1 qd 2 3 (some (0,l.length)) 4 l.length),zH (zD x.op) (u8 x.op) false,zaK zd,cw (zN p is nr (slV 5 127 q)),zH (some (0,l.length)) (u8 l) false,cr [],cw [iv 0,iv 0,bv false,.slice none 0 0],cw (pl p)] (by kernel_rfl) (d_n 4 4 8 [(46,pv 0 14),(45,pv 0 0),(44,pv 0 0),(43,pv 0 0)] [cw (qR x (zD x.op) 1 qd 2 3 (some (0,l.length)) 4 l.length),zH (zD x.op) (u8 x.op) false,zaK zd,cw (zN p is nr (slV 5 127 q)),zH (some (0,l.length)) (u8 l) false,cr [],cw [iv 0,iv 0,bv false,.slice none 0 0],cw (pl p)] [] (by kernel_rfl) rfl rfl (d_s rfl rfl rfl (by kernel_rfl) (by refine zX (v:=zQ (some (0,l.length)) 4 l.length) rfl rfl ?_;exact rfl) ?_))))))
 refine d_n 1 6 8 [(48,pv 7 1)] [cw (qR x (zD x.op) 1 qd 2 3 (some (0,l.length)) 4 l.length),zH (zD x.op) (u8 x.op) false,zaK zd,cw (zN p is nr (slV 5 127 q)),zH (some (0,l.length)) (u8 l) false,cr [],cw [iv 0,iv 0,bv false,.slice none 0 0],cw (pl p)] [⟨4,[0],[],none⟩] (by kernel_rfl) rfl rfl (d_s rfl rfl rfl (by kernel_rfl) (by refine zX (v:=iv (p 1)) rfl rfl ?_;exact zkw p 1 rfl (by omega)) ?_)
 refine d_n 1 8 8 [(50,pv 7 2)] [cw (qR x (zD x.op) 1 qd 2 3 (some (0,l.length)) 4 l.length),zH (zD x.op) (u8 x.op) false,zaK zd,cw (zN p is nr (slV 5 127 q)),zH (some (0,l.length)) (u8 l) false,cr [],cw [iv 0,iv 0,bv false,.slice none 0 0],cw (pl p)] [⟨6,[7],[],none⟩,⟨4,[0],[],none⟩] (by kernel_rfl) rfl rfl (d_s rfl rfl rfl (by kernel_rfl) (by refine zX (v:=iv (p 2)) rfl rfl ?_;exact zkw p 2 rfl (by omega)) ?_)
 obtain ⟨m2,hm2⟩: ∃z9,natL l y.ba true (p 1) (p 2)=z9:=⟨_,rfl⟩
 have hm2a:Alike l m2:=by rw [←hm2];exact nat_alike hp (by omega) true
 have hm2p:=hm2a.parse hp
 have hm2l:=hm2p.2.2.2
 have hm2k:=hm2p.2.1
 have hm2b:=hm2p.2.2.1
 have hm2e:m2.length=l.length:=hm2l
 refine d_clN [4] [zH (some (0,l.length)) (u8 l) false] [zQ (some (0,l.length)) 0 l.length,bv true,iv (p 1),iv (p 2)] (chgR hm2 rfl (NatC _ _ l l (RowOf.whole rfl (Nat.le_refl _)) y hp (by omega) true (p 1) (p 2) (by omega) (by omega))) rfl rfl ⟨⟨_,rfl,zZ (zG _) rfl (fun q=>q)⟩,trivial⟩ (by decide) ⟨_,_,⟨rfl,rfl⟩,Nat.le_add_right 1 1,zb9 [_] [_]⟩ ?_ (by kernel_rfl)
 rintro v1 h1' ⟨rfl,rfl⟩
 refine ⟨za5 rfl,.tuple #[zQ (some (0,l.length)) 8 l.length,iv 0],[cw (qR x (zD x.op) 1 qd 2 3 (some (0,l.length)) 4 l.length),zH (zD x.op) (u8 x.op) false,zaK zd,cw (zN p is nr (slV 5 127 q)),zH (some (0,l.length)) (u8 l) false,cr [],cw [iv 0,iv 0,bv false,.slice none 0 0],cw (pl p)],[zH (some (0,l.length)) (u8 m2) true],((zdO _).trans rfl),⟨rfl,⟨rfl,⟨rfl,⟨rfl,⟨rfl,⟨rfl,⟨rfl,⟨rfl,trivial⟩⟩⟩⟩⟩⟩⟩⟩,⟨(Option.some.inj (zF (zG _))).symm,trivial⟩, ?_⟩
 refine d_n 2 12 8 [(54,iv 0),(53,zQ (some (0,l.length)) 8 l.length)] [cw (qR x (zD x.op) 1 qd 2 3 (some (0,l.length)) 4 l.length),zH (zD x.op) (u8 x.op) false,zaK zd,cw (zN p is nr (slV 5 127 q)),zH (some (0,l.length)) (u8 l) false,cr [],cw [iv 0,iv 0,bv false,.slice none 0 0],cw (pl p),zH (some (0,l.length)) (u8 m2) true] [⟨9,[4],(zdc [4] [zH (some (0,l.length)) (u8 l) false]),some 8⟩,⟨8,[7],[],none⟩,⟨6,[7],[],none⟩,⟨4,[0],[],none⟩] (by kernel_rfl) rfl rfl (d_clH [0,1,2,3,4,8] [cw (qR x (zD x.op) 1 qd 2 3 (some (0,l.length)) 4 l.length),zaK ((zD x.op).isSome),zaK zd,cr [],cr [],cr []] [pv 0 0,zQ (some (0,l.length)) 5 l.length,iv 0] (thenC x (zD x.op) qd 0 l.length l.length 0 l.length l.length ((zD x.op).isSome) zd) rfl rfl ⟨⟨_,rfl,zao (.inl (zb0 rfl rfl rfl rfl (fun q=>rfl)))⟩,⟨⟨_,rfl,(zco (zD x.op))⟩,⟨⟨_,rfl,(zd1 _)⟩,⟨⟨_,rfl,zaH⟩,⟨⟨_,rfl,zaH⟩,⟨⟨_,rfl,zaH⟩,trivial⟩⟩⟩⟩⟩⟩ (by decide) ⟨_,_,⟨rfl,rfl⟩,Nat.le_refl _,zf4 rfl (zb9 [_,_,_,_,_] [])⟩ ?_ (by kernel_rfl))
 rintro v1 h1' ⟨rfl,rfl⟩
 refine ⟨(zW zaF (zW z8 (zW z8 (zW z8 (zW z8 (zW z8 zah)))))),.tuple #[],[cw (qR x (zD x.op) 1 qd 2 3 (some (0,l.length)) 8 l.length),zH (zD x.op) (u8 x.op) false,zaK zd,cw (zN p is nr (slV 5 127 q)),zH (some (0,l.length)) (u8 l) false,cr [],cw [iv 0,iv 0,bv false,.slice none 0 0],cw (pl p),zH (some (0,l.length)) (u8 m2) true],[],(by simp [zaN]),⟨zbT rfl rfl rfl rfl,⟨(by generalize zD x.op=z9;cases z9<;>rfl),⟨(by cases zd<;>rfl),⟨rfl,⟨rfl,⟨rfl,⟨rfl,⟨rfl,⟨rfl,trivial⟩⟩⟩⟩⟩⟩⟩⟩⟩,trivial, ?_⟩
 refine d_nil (zA (zJ (zJ (zM (o_d 4 [(59,pv 0 0),(58,pv 0 0),(57,pv 0 0),(56,pv 0 0)] (o_s (by refine zX (v:=iv x.k) rfl rfl ?_;exact rfl) ?_))))))
 refine o_d 1 [(61,bv (x.k==2))] (zE (zA (qK (t:=x.k==2) rfl (fun h3=>?_) (fun h3=>?_))))
 ·skip
  have h3':x.k=2:=zaL h3
  have hTB:TB x.k=256:=if_pos (by assumption)
  refine zM (o_d 4 [(65,pv 0 14),(64,pv 0 0),(63,pv 0 0),(62,pv 0 0)] (o_s (by refine zX (v:=zQ (some (0,l.length)) 8 l.length) rfl rfl ?_;exact rfl) ?_))
  refine o_d 1 [(67,iv (zac (rgP p) x.k (Fl.mk x.t x.tp (p 1) (p 2)) (s:Nat)))] ?_
  have hy4:=zf0 (zfe m2).k
  obtain ⟨m5,hm5⟩: ∃z9,zck m2 (zfe m2).ba 20 2 (zac (rgP p) x.k (Fl.mk x.t x.tp (p 1) (p 2)) (s:Nat))=z9:=⟨_,rfl⟩
  have hm5a:Alike m2 m5:=by rw [←hm5];exact zgr hm2p.1 (by omega) (by omega) (by omega) (by omega)
  have hm5p:=hm5a.parse hm2p.1
  have hm5l:=hm5p.2.2.2
  have hm5k:=hm5p.2.1
  have hm5b:=hm5p.2.2.1
  have hm5e:m5.length=l.length:=(hm5l.trans hm2l)
  refine qT (zaG [8] [zH (some (0,l.length)) (u8 m2) false] [zQ (some (0,l.length)) 0 l.length,iv 20,iv 2,iv (zac (rgP p) x.k (Fl.mk x.t x.tp (p 1) (p 2)) (s:Nat))] (chgR hm5 hm2l (Write2C _ _ m2 m2 (RowOf.whole rfl (by omega)) (zfe m2) hm2p.1 20 (zac (rgP p) x.k (Fl.mk x.t x.tp (p 1) (p 2)) (s:Nat)) (by omega) (by omega) (by omega))) rfl rfl ⟨⟨_,rfl,zZ (zG _) rfl (fun q=>rfl)⟩,trivial⟩ (by decide) ?_)
  rintro v1 h1' ⟨rfl,rfl⟩
  refine ⟨za5 rfl,.tuple #[zQ (some (0,l.length)) 9 l.length,iv 0],[cw (qR x (zD x.op) 1 qd 2 3 (some (0,l.length)) 8 l.length),zH (zD x.op) (u8 x.op) false,zaK zd,cw (zN p is nr (slV 5 127 q)),zH (some (0,l.length)) (u8 l) false,cr [],cw [iv 0,iv 0,bv false,.slice none 0 0],cw (pl p),zH (some (0,l.length)) (u8 m2) true],[zH (some (0,l.length)) (u8 m5) true],((zdO _).trans rfl),⟨rfl,⟨rfl,⟨rfl,⟨rfl,⟨rfl,⟨rfl,⟨rfl,⟨rfl,⟨rfl,trivial⟩⟩⟩⟩⟩⟩⟩⟩⟩,⟨(Option.some.inj (zF (zG _))).symm,trivial⟩, ?_⟩
  refine o_d 2 [(70,iv 0),(69,zQ (some (0,l.length)) 9 l.length)] (qT (zdA [0,1,2,3,8,9] [cw (qR x (zD x.op) 1 qd 2 3 (some (0,l.length)) 4 l.length),zaK ((zD x.op).isSome),zaK zd,cr [],cr [],cr []] [pv 0 0,zQ (some (0,l.length)) 5 l.length,iv 0] (thenC x (zD x.op) qd 0 l.length l.length 0 l.length l.length ((zD x.op).isSome) zd) rfl rfl ⟨⟨_,rfl,zao (.inl (zb0 rfl rfl rfl rfl (fun q=>rfl)))⟩,⟨⟨_,rfl,(zco (zD x.op))⟩,⟨⟨_,rfl,(zd1 _)⟩,⟨⟨_,rfl,zaH⟩,⟨⟨_,rfl,zaH⟩,⟨⟨_,rfl,zaH⟩,trivial⟩⟩⟩⟩⟩⟩ (by decide) ?_))
  rintro v1 h1' ⟨rfl,rfl⟩
  refine ⟨(zW zaF (zW z8 (zW z8 (zW z8 (zW z8 (zW z8 zah)))))),.tuple #[],[cw (qR x (zD x.op) 1 qd 2 3 (some (0,l.length)) 9 l.length),zH (zD x.op) (u8 x.op) false,zaK zd,cw (zN p is nr (slV 5 127 q)),zH (some (0,l.length)) (u8 l) false,cr [],cw [iv 0,iv 0,bv false,.slice none 0 0],cw (pl p),zH (some (0,l.length)) (u8 m2) true,zH (some (0,l.length)) (u8 m5) true],[],(by simp [zaN]),⟨zbT rfl rfl rfl rfl,⟨(by generalize zD x.op=z9;cases z9<;>rfl),⟨(by cases zd<;>rfl),⟨rfl,⟨rfl,⟨rfl,⟨rfl,⟨rfl,⟨rfl,⟨rfl,trivial⟩⟩⟩⟩⟩⟩⟩⟩⟩⟩,trivial, ?_⟩
  refine zE (zT [(4,pv 6 0),(0,pv 0 0)] (zJ (zM (o_d 3 [(111,pv 0 14),(110,pv 0 0),(109,pv 0 0)] (o_s (by refine zX (v:=zQ (some (0,l.length)) 9 l.length) rfl rfl ?_;exact rfl) ?_)))))
  refine o_b 2 [(113,.agg #[iv 0,iv (-1),bv false,zQ (some (0,l.length)) 9 l.length])] [cw (qR x (zD x.op) 1 qd 2 3 (some (0,l.length)) 9 l.length),zH (zD x.op) (u8 x.op) false,zaK zd,cw (zN p is nr (slV 5 127 q)),zH (some (0,l.length)) (u8 l) false,cr [],cw [iv 0,iv (-1),bv false,zQ (some (0,l.length)) 9 l.length],cw (pl p),zH (some (0,l.length)) (u8 m2) true,zH (some (0,l.length)) (u8 m5) true] (zE (zA (qS ?_)))
  have e1:outL p x l (s:Nat)=m5:=by
   unfold outL outC9
   rw [if_pos (by assumption)]
   rw [←hba,hm2,←hm2b];exact hm5
  have e2:outN nr x s=nr:=by
   unfold outN;rw [if_pos (by assumption)]
  exact ⟨trivial,[.agg #[iv 0,iv (-1),bv false,zQ (some (0,l.length)) 9 l.length]],(zaa rfl rfl rfl rfl),(zK rfl z5),⟨reg [],[cw (qR x (zD x.op) 1 qd 2 3 (some (0,l.length)) 6 l.length),zH (zD x.op) (u8 x.op) false,zaK zd,cw (zN p is nr (slV 5 127 q)),zH (some (0,l.length)) (u8 l) false,cr [],zH (some (0,l.length)) (u8 m5) true]⟩,[0,1,2,3,4,5,9],[.agg #[iv 0,iv (-1),bv false,zQ (some (0,l.length)) 6 l.length]],WkR.of (rs:= []) rfl rfl (by decide) trivial ⟨.inl (zau rfl rfl rfl rfl),⟨.inl (zF (zG _)),⟨.inl (congrArg some (zaO _).symm),⟨.inl (qF (zaX q rfl)),⟨.inl (zF (zG _)),⟨.inl rfl,⟨.inl (zF (zG _)),trivial⟩⟩⟩⟩⟩⟩⟩,(zS (zbn rfl) rfl),rfl,(by rw [e1,e2])⟩
 have h3': ¬(x.k=2):=zaM h3
 refine zJ (zM (o_d 4 [(76,pv 0 11),(75,pv 0 0),(74,pv 0 0),(73,pv 0 0)] (o_s (by refine zX (v:=zQ (zD x.op) 1 x.op.length) rfl rfl ?_;exact rfl) ?_)))
 rcases ha6:zcG x.op with _ | a6
 ·skip
  refine qT (zaG [1] [zH (zD x.op) (u8 x.op) false] [zQ (zD x.op) 0 x.op.length] (zhy ha6 (zkM (zD x.op) x.op x.op (zdv x.op) (by omega))) rfl (zS (qH rfl) rfl) ⟨⟨_,rfl,zZ (zG _) rfl (fun q=>q)⟩,trivial⟩ (by decide) ?_)
  rintro v1 h1' ⟨rfl,rfl⟩
  refine ⟨zab [_] [],.tuple #[iv 0,.int .u32 0,.int .u32 0,bv false],[cw (qR x (zD x.op) 1 qd 2 3 (some (0,l.length)) 8 l.length),zH (zD x.op) (u8 x.op) false,zaK zd,cw (zN p is nr (slV 5 127 q)),zH (some (0,l.length)) (u8 l) false,cr [],cw [iv 0,iv 0,bv false,.slice none 0 0],cw (pl p),zH (some (0,l.length)) (u8 m2) true],[],(qQ rfl),⟨rfl,⟨(zaS rfl rfl),⟨rfl,⟨rfl,⟨rfl,⟨rfl,⟨rfl,⟨rfl,⟨rfl,trivial⟩⟩⟩⟩⟩⟩⟩⟩⟩,trivial, ?_⟩
  refine o_d 9 [(10,bv false),(9,.int .u32 0),(8,.int .u32 0),(7,iv 0),(82,bv false),(81,.int .u32 0),(80,.int .u32 0),(79,iv 0),(72,.tuple #[iv 0,.int .u32 0,.int .u32 0,bv false])] (zE (zT [(10,bv false),(8,.int .u32 0),(7,iv 0),(6,iv (zac (rgP p) x.k (Fl.mk x.t x.tp (p 1) (p 2)) (s:Nat))),(4,pv 6 0),(0,pv 0 0),(1,iv (s:Nat))] (zJ (zM (o_d 1 [(83,bv false)] (zE (zA (zbx rfl (qM (zA (zJ (zM ?_))))))))))))
  refine o_d 3 [(111,pv 0 14),(110,pv 0 0),(109,pv 0 0)] (o_s (by refine zX (v:=zQ (some (0,l.length)) 8 l.length) rfl rfl ?_;exact rfl) ?_)
  refine o_b 2 [(113,.agg #[iv 0,iv (-1),bv false,zQ (some (0,l.length)) 8 l.length])] [cw (qR x (zD x.op) 1 qd 2 3 (some (0,l.length)) 8 l.length),zH (zD x.op) (u8 x.op) false,zaK zd,cw (zN p is nr (slV 5 127 q)),zH (some (0,l.length)) (u8 l) false,cr [],cw [iv 0,iv (-1),bv false,zQ (some (0,l.length)) 8 l.length],cw (pl p),zH (some (0,l.length)) (u8 m2) true] (zE (zA (qS ?_)))
  have e1:outL p x l (s:Nat)=m2:=by
   unfold outL outC9
   rw [if_neg (by assumption)]
   simp only [ha6]
   rw [←hba];exact hm2
  have e2:outN nr x s=nr:=by
   unfold outN;rw [if_neg (by assumption)];simp only [ha6]
  exact ⟨trivial,[.agg #[iv 0,iv (-1),bv false,zQ (some (0,l.length)) 8 l.length]],(zaa rfl rfl rfl rfl),(zK rfl z5),⟨reg [],[cw (qR x (zD x.op) 1 qd 2 3 (some (0,l.length)) 6 l.length),zH (zD x.op) (u8 x.op) false,zaK zd,cw (zN p is nr (slV 5 127 q)),zH (some (0,l.length)) (u8 l) false,cr [],zH (some (0,l.length)) (u8 m2) true]⟩,[0,1,2,3,4,5,8],[.agg #[iv 0,iv (-1),bv false,zQ (some (0,l.length)) 6 l.length]],WkR.of (rs:= []) rfl rfl (by decide) trivial ⟨.inl (zau rfl rfl rfl rfl),⟨.inl (zF (zG _)),⟨.inl (congrArg some (zaO _).symm),⟨.inl (qF (zaX q rfl)),⟨.inl (zF (zG _)),⟨.inl rfl,⟨.inl (zF (zG _)),trivial⟩⟩⟩⟩⟩⟩⟩,(zS (zbn rfl) rfl),rfl,(by rw [e1,e2])⟩
 ·skip
  have ha6r:=stampO_r ha6
  have ha6m:=zew x.op a6 4 (by decide)
  have ha6n:=zew x.op (a6+4) 4 (by decide)
  refine qT (zaG [1] [zH (zD x.op) (u8 x.op) false] [zQ (zD x.op) 0 x.op.length] (zhx ha6 (zkM (zD x.op) x.op x.op (zdv x.op) (by omega))) rfl (zS (qH rfl) rfl) ⟨⟨_,rfl,zZ (zG _) rfl (fun q=>q)⟩,trivial⟩ (by decide) ?_)
  rintro v1 h1' ⟨rfl,rfl⟩
  refine ⟨zab [_] [],.tuple #[iv (a6:Nat),.int .u32 (qE x.op a6 4),.int .u32 (qE x.op (a6+4) 4),bv true],[cw (qR x (zD x.op) 1 qd 2 3 (some (0,l.length)) 8 l.length),zH (zD x.op) (u8 x.op) false,zaK zd,cw (zN p is nr (slV 5 127 q)),zH (some (0,l.length)) (u8 l) false,cr [],cw [iv 0,iv 0,bv false,.slice none 0 0],cw (pl p),zH (some (0,l.length)) (u8 m2) true],[],(qQ rfl),⟨rfl,⟨(zaS rfl rfl),⟨rfl,⟨rfl,⟨rfl,⟨rfl,⟨rfl,⟨rfl,⟨rfl,trivial⟩⟩⟩⟩⟩⟩⟩⟩⟩,trivial, ?_⟩
  refine o_d 9 [(10,bv true),(9,.int .u32 (qE x.op (a6+4) 4)),(8,.int .u32 (qE x.op a6 4)),(7,iv (a6:Nat)),(82,bv true),(81,.int .u32 (qE x.op (a6+4) 4)),(80,.int .u32 (qE x.op a6 4)),(79,iv (a6:Nat)),(72,.tuple #[iv (a6:Nat),.int .u32 (qE x.op a6 4),.int .u32 (qE x.op (a6+4) 4),bv true])] (zE (zT [(10,bv true),(8,.int .u32 (qE x.op a6 4)),(7,iv (a6:Nat)),(6,iv (zac (rgP p) x.k (Fl.mk x.t x.tp (p 1) (p 2)) (s:Nat))),(4,pv 6 0),(0,pv 0 0),(1,iv (s:Nat))] (zJ (zM (o_d 1 [(83,bv true)] (zE (zA (zc6 rfl (zJ (zjn [cw (qR x (zD x.op) 1 qd 2 3 (some (0,l.length)) 8 l.length),zH (zD x.op) (u8 x.op) false,zaK zd,cw (zN p is nr (slV 5 127 q)),zH (some (0,l.length)) (u8 l) false,cr [],cw [iv 0,iv 0,bv false,.slice none 0 0],cw (pl p),zH (some (0,l.length)) (u8 m2) true] (by kernel_rfl) (d_n 4 4 9 [(87,pv 0 14),(86,pv 0 0),(85,pv 0 0),(84,pv 0 0)] [cw (qR x (zD x.op) 1 qd 2 3 (some (0,l.length)) 8 l.length),zH (zD x.op) (u8 x.op) false,zaK zd,cw (zN p is nr (slV 5 127 q)),zH (some (0,l.length)) (u8 l) false,cr [],cw [iv 0,iv 0,bv false,.slice none 0 0],cw (pl p),zH (some (0,l.length)) (u8 m2) true] [] (by kernel_rfl) rfl rfl (d_s rfl rfl rfl (by kernel_rfl) (by refine zX (v:=zQ (some (0,l.length)) 8 l.length) rfl rfl ?_;exact rfl) ?_))))))))))))
  refine d_n 1 6 9 [(89,iv (a6:Nat))] [cw (qR x (zD x.op) 1 qd 2 3 (some (0,l.length)) 8 l.length),zH (zD x.op) (u8 x.op) false,zaK zd,cw (zN p is nr (slV 5 127 q)),zH (some (0,l.length)) (u8 l) false,cr [],cw [iv 0,iv 0,bv false,.slice none 0 0],cw (pl p),zH (some (0,l.length)) (u8 m2) true] [⟨4,[0],[],none⟩] (by kernel_rfl) rfl rfl (d_s rfl rfl rfl (by kernel_rfl) (by refine zL (v:= .int .i64 (i64.wrap (24+(a6:Nat)))) (congrArg (Value.int .i64) (w64 (by omega) (by omega))) ?_;kernel_rfl) ?_)
  refine d_n 2 9 9 [(92,iv (zac (rgP p) x.k (Fl.mk x.t x.tp (p 1) (p 2)) (s:Nat))),(91,.int .u32 (qE x.op a6 4))] [cw (qR x (zD x.op) 1 qd 2 3 (some (0,l.length)) 8 l.length),zH (zD x.op) (u8 x.op) false,zaK zd,cw (zN p is nr (slV 5 127 q)),zH (some (0,l.length)) (u8 l) false,cr [],cw [iv 0,iv 0,bv false,.slice none 0 0],cw (pl p),zH (some (0,l.length)) (u8 m2) true] [⟨4,[0],[],none⟩] (by kernel_rfl) rfl rfl (d_cl (zbg (cPutC (qE x.op a6 4) (zac (rgP p) x.k (Fl.mk x.t x.tp (p 1) (p 2)) (s:Nat)) (by omega)) rfl rfl rfl ?_))
  have hy7:=putS_r (qE x.op a6 4) (zac (rgP p) x.k (Fl.mk x.t x.tp (p 1) (p 2)) (s:Nat))
  refine d_s rfl rfl rfl (by kernel_rfl) (by refine zL (v:= .int .i64 (i64.wrap (putS (qE x.op a6 4) (zac (rgP p) x.k (Fl.mk x.t x.tp (p 1) (p 2)) (s:Nat))))) (congrArg (Value.int .i64) (w64 (by omega) (by omega))) ?_;kernel_rfl) ?_
  have hy8:=zf0 (zfe m2).k
  obtain ⟨m9,hm9⟩: ∃z9,zck m2 (zfe m2).ba (24+a6) 4 (putS (qE x.op a6 4) (zac (rgP p) x.k (Fl.mk x.t x.tp (p 1) (p 2)) (s:Nat)))=z9:=⟨_,rfl⟩
  have hm9a:Alike m2 m9:=by rw [←hm9];exact zgr hm2p.1 (by omega) (by omega) (by omega) (by omega)
  have hm9p:=hm9a.parse hm2p.1
  have hm9l:=hm9p.2.2.2
  have hm9k:=hm9p.2.1
  have hm9b:=hm9p.2.2.1
  have hm9e:m9.length=l.length:=(hm9l.trans hm2l)
  refine d_clN [8] [zH (some (0,l.length)) (u8 m2) false] [zQ (some (0,l.length)) 0 l.length,iv (24+(a6:Nat)),iv 4,iv (putS (qE x.op a6 4) (zac (rgP p) x.k (Fl.mk x.t x.tp (p 1) (p 2)) (s:Nat)))] (chgR hm9 hm2l (Write4C _ _ m2 m2 (RowOf.whole rfl (by omega)) (zfe m2) hm2p.1 (24+a6) (putS (qE x.op a6 4) (zac (rgP p) x.k (Fl.mk x.t x.tp (p 1) (p 2)) (s:Nat))) (by omega) (by omega) (by omega))) rfl rfl ⟨⟨_,rfl,zZ (zG _) rfl (fun q=>rfl)⟩,trivial⟩ (by decide) ⟨_,_,⟨rfl,rfl⟩,Nat.le_add_right 1 1,zb9 [_] [_]⟩ ?_ (by kernel_rfl)
  rintro v1 h1' ⟨rfl,rfl⟩
  refine ⟨za5 rfl,.tuple #[zQ (some (0,l.length)) 9 l.length,iv 0],[cw (qR x (zD x.op) 1 qd 2 3 (some (0,l.length)) 8 l.length),zH (zD x.op) (u8 x.op) false,zaK zd,cw (zN p is nr (slV 5 127 q)),zH (some (0,l.length)) (u8 l) false,cr [],cw [iv 0,iv 0,bv false,.slice none 0 0],cw (pl p),zH (some (0,l.length)) (u8 m2) true],[zH (some (0,l.length)) (u8 m9) true],((zdO _).trans rfl),⟨rfl,⟨rfl,⟨rfl,⟨rfl,⟨rfl,⟨rfl,⟨rfl,⟨rfl,⟨rfl,trivial⟩⟩⟩⟩⟩⟩⟩⟩⟩,⟨(Option.some.inj (zF (zG _))).symm,trivial⟩, ?_⟩
  refine d_n 2 14 9 [(97,iv 0),(96,zQ (some (0,l.length)) 9 l.length)] [cw (qR x (zD x.op) 1 qd 2 3 (some (0,l.length)) 8 l.length),zH (zD x.op) (u8 x.op) false,zaK zd,cw (zN p is nr (slV 5 127 q)),zH (some (0,l.length)) (u8 l) false,cr [],cw [iv 0,iv 0,bv false,.slice none 0 0],cw (pl p),zH (some (0,l.length)) (u8 m2) true,zH (some (0,l.length)) (u8 m9) true] [⟨11,[8],(zdc [8] [zH (some (0,l.length)) (u8 m2) false]),some 9⟩,⟨9,[],[],some 9⟩,⟨4,[0],[],none⟩] (by kernel_rfl) rfl rfl (d_clH [0,1,2,3,8,9] [cw (qR x (zD x.op) 1 qd 2 3 (some (0,l.length)) 4 l.length),zaK ((zD x.op).isSome),zaK zd,cr [],cr [],cr []] [pv 0 0,zQ (some (0,l.length)) 5 l.length,iv 0] (thenC x (zD x.op) qd 0 l.length l.length 0 l.length l.length ((zD x.op).isSome) zd) rfl rfl ⟨⟨_,rfl,zao (.inl (zb0 rfl rfl rfl rfl (fun q=>rfl)))⟩,⟨⟨_,rfl,(zco (zD x.op))⟩,⟨⟨_,rfl,(zd1 _)⟩,⟨⟨_,rfl,zaH⟩,⟨⟨_,rfl,zaH⟩,⟨⟨_,rfl,zaH⟩,trivial⟩⟩⟩⟩⟩⟩ (by decide) ⟨_,_,⟨rfl,rfl⟩,Nat.le_refl _,zf4 rfl (zb9 [_,_,_,_,_] [])⟩ ?_ (by kernel_rfl))
  rintro v1 h1' ⟨rfl,rfl⟩
  refine ⟨(zW zaF (zW z8 (zW z8 (zW z8 (zW z8 (zW z8 zah)))))),.tuple #[],[cw (qR x (zD x.op) 1 qd 2 3 (some (0,l.length)) 9 l.length),zH (zD x.op) (u8 x.op) false,zaK zd,cw (zN p is nr (slV 5 127 q)),zH (some (0,l.length)) (u8 l) false,cr [],cw [iv 0,iv 0,bv false,.slice none 0 0],cw (pl p),zH (some (0,l.length)) (u8 m2) true,zH (some (0,l.length)) (u8 m9) true],[],(by simp [zaN]),⟨zbT rfl rfl rfl rfl,⟨(by generalize zD x.op=z9;cases z9<;>rfl),⟨(by cases zd<;>rfl),⟨rfl,⟨rfl,⟨rfl,⟨rfl,⟨rfl,⟨rfl,⟨rfl,trivial⟩⟩⟩⟩⟩⟩⟩⟩⟩⟩,trivial, ?_⟩
  refine d_nil (zA (zM (o_d 3 [(101,pv 0 13),(100,pv 0 0),(99,pv 0 0)] (o_s (by refine zX (v:=pv 3 0) rfl rfl ?_;exact rfl) ?_))))
  refine o_d 3 [(105,pv 3 331),(104,pv 3 0),(103,iv (s:Nat))] (o_s (by exact zaW (o:=331) (o':=331+2*s) rfl rfl (by omega) (by omega)) ?_)
  refine o_d 1 [(107,.int .u32 (qE x.op a6 4))] (qT (zdA [3,5] [cw (zN p is nr (slV 1 127 q)),cr []] [pv 0 (331+2*s),.int .u32 (qE x.op a6 4)] (LayUC p is nr q s (qE x.op a6 4) (by omega)) rfl rfl ⟨⟨_,rfl,zao (.inl (zaP (zaX q rfl) (fun q=>rfl)))⟩,⟨⟨_,rfl,zaH⟩,trivial⟩⟩ (by decide) ?_))
  rintro v1 h1' ⟨rfl,rfl⟩
  refine ⟨(zW zaF (zW z8 zah)),.tuple #[],[cw (qR x (zD x.op) 1 qd 2 3 (some (0,l.length)) 9 l.length),zH (zD x.op) (u8 x.op) false,zaK zd,cw (zN p is (zcf nr s (qE x.op a6 4,true)) (slV 5 127 q)),zH (some (0,l.length)) (u8 l) false,cr [],cw [iv 0,iv 0,bv false,.slice none 0 0],cw (pl p),zH (some (0,l.length)) (u8 m2) true,zH (some (0,l.length)) (u8 m9) true],[],(by simp [zaN]),⟨rfl,⟨rfl,⟨rfl,⟨zbi (zaX q rfl),⟨rfl,⟨(by cases true<;>rfl),⟨rfl,⟨rfl,⟨rfl,⟨rfl,trivial⟩⟩⟩⟩⟩⟩⟩⟩⟩⟩,trivial, ?_⟩
  refine zE (zT [(4,pv 6 0),(0,pv 0 0)] (zJ (zM (o_d 3 [(111,pv 0 14),(110,pv 0 0),(109,pv 0 0)] (o_s (by refine zX (v:=zQ (some (0,l.length)) 9 l.length) rfl rfl ?_;exact rfl) ?_)))))
  refine o_b 2 [(113,.agg #[iv 0,iv (-1),bv false,zQ (some (0,l.length)) 9 l.length])] [cw (qR x (zD x.op) 1 qd 2 3 (some (0,l.length)) 9 l.length),zH (zD x.op) (u8 x.op) false,zaK zd,cw (zN p is (zcf nr s (qE x.op a6 4,true)) (slV 5 127 q)),zH (some (0,l.length)) (u8 l) false,cr [],cw [iv 0,iv (-1),bv false,zQ (some (0,l.length)) 9 l.length],cw (pl p),zH (some (0,l.length)) (u8 m2) true,zH (some (0,l.length)) (u8 m9) true] (zE (zA (qS ?_)))
  have e1:outL p x l (s:Nat)=m9:=by
   unfold outL outC9
   rw [if_neg (by assumption)]
   simp only [ha6]
   rw [←hba,hm2,←hm2b];exact hm9
  have e2:outN nr x s=(zcf nr s (qE x.op a6 4,true)):=by
   unfold outN;rw [if_neg (by assumption)];simp only [ha6]
  exact ⟨trivial,[.agg #[iv 0,iv (-1),bv false,zQ (some (0,l.length)) 9 l.length]],(zaa rfl rfl rfl rfl),(zK rfl z5),⟨reg [],[cw (qR x (zD x.op) 1 qd 2 3 (some (0,l.length)) 6 l.length),zH (zD x.op) (u8 x.op) false,zaK zd,cw (zN p is (zcf nr s (qE x.op a6 4,true)) (slV 5 127 q)),zH (some (0,l.length)) (u8 l) false,cr [],zH (some (0,l.length)) (u8 m9) true]⟩,[0,1,2,3,4,5,9],[.agg #[iv 0,iv (-1),bv false,zQ (some (0,l.length)) 6 l.length]],WkR.of (rs:= []) rfl rfl (by decide) trivial ⟨.inl (zau rfl rfl rfl rfl),⟨.inl (zF (zG _)),⟨.inl (congrArg some (zaO _).symm),⟨.inl (qF (zaX q rfl)),⟨.inl (zF (zG _)),⟨.inl rfl,⟨.inl (zF (zG _)),trivial⟩⟩⟩⟩⟩⟩⟩,(zS (zbn rfl) rfl),rfl,(by rw [e1,e2])⟩
theorem outW {P:Program} [PrC P] (p:q9) (is:Bool) (nr:zdS) (q:Option Nat) (x:Pk) (qd:Option (Nat×Nat)) (zd:Bool) (l:List Int) (y:Pk) (hp:qW l=(0,y)) (hk:y.k=x.k) (hba:y.ba=x.ba) (h3:x.k≠3) (hop:x.op.length+24≤l.length) (s:Nat) (hs:s < 64) (H:PRng p) (N:Nat) (hN:l.length=N):
  Env P "(*roundhouse/plane.packet).out" [pv 0 0,iv (s:Int)] ([cw (qR x (zD x.op) 1 qd 2 3 (some (0,N)) 4 N),zH (zD x.op) (u8 x.op) false,zaK zd,cw (zN p is nr (slV 5 127 q)),zH (some (0,N)) (u8 l) false,cr []]) (fun v h'=>v= .agg #[iv 0,iv (-1),bv false,zQ (some (0,N)) 6 N]∧h'= [cw (qR x (zD x.op) 1 qd 2 3 (some (0,N)) 6 N),zH (zD x.op) (u8 x.op) false,zaK zd,cw (zN p is (outN nr x s) (slV 5 127 q)),zH (some (0,N)) (u8 l) false,cr [],zH (some (0,N)) (u8 (outL p x l (s:Nat))) true]):=by
 subst hN;exact outC3 p is nr q x qd zd l y hp hk hba h3 hop s hs H
end Go.Rh

set_option maxHeartbeats 1000000
namespace Go.Rh
theorem carS_q {p:q9} {x:Pk} {f:Fl} {r:Option Int} (h:zhp p x f=r):0≤r.getD 0∧r.getD 0 < 64:=by
 cases r with
 | none=>exact ⟨by decide,by decide⟩
 | some s=>exact carS_r h
theorem carriedC2 {P:Program} {p:q9} {x:Pk} {f:Fl} {A:List Value} {h1 h2:List Blk} {r:Option Int} (h:Env P "(*roundhouse/plane.packet).carried" A h1 (fun v h'=>v=zd7 r∧h'=h2)):Env P "(*roundhouse/plane.packet).carried" A h1 (fun v h'=>v= .tuple #[iv (r.getD 0),bv r.isSome]∧h'=h2):=by
 cases r<;>exact h
theorem inP_n {p:q9} {x:Pk} {r:Option Int} (h:zhp p x (inF p x)=r) (hn:r.isSome=false):inP p x=(zdi (qC p) (inF p x),false):=by
 cases r with
 | none=>unfold inP;rw [h]
 | some s=>cases hn
theorem inP_t {p:q9} {x:Pk} {r:Option Int} (h:zhp p x (inF p x)=r) (hs:r.isSome=true) (ht: [1,2,3].contains (p (3+5*(r.getD 0).toNat))=true):inP p x=(r.getD 0,true):=by
 cases r with
 | none=>cases hs
 | some s=>unfold inP;rw [h];exact if_pos ht
theorem inP_f {p:q9} {x:Pk} {r:Option Int} (h:zhp p x (inF p x)=r) (hs:r.isSome=true) (ht: [1,2,3].contains (p (3+5*(r.getD 0).toNat))=false):inP p x=(zdi (qC p) (inF p x),false):=by
 cases r with
 | none=>cases hs
 | some s=>unfold inP;rw [h];exact if_neg (by rw [show (some s).getD 0=s from rfl] at ht;rw [ht];simp)
theorem takes_ne {z:Int} (h: [1,2,3].contains z=true):z≠0:=by rintro rfl;revert h;decide
theorem PRng.pickI {p:q9} (H:PRng p) {f:Fl} {sl:Int} (h:sl=zdi (qC p) f): ∀k:Nat,sl=(k:Int)→k < 64∧(0≤p (3+5*k+1)∧p (3+5*k+1)≤4294967295)∧(0≤p (3+5*k+2)∧p (3+5*k+2)≤65535):=fun k hk=>H.pick (h.symm.trans hk)
theorem PRng.takeI {p:q9} (H:PRng p) {sl:Int} (h0:0≤sl∧sl < 64) (h: [1,2,3].contains (p (3+5*sl.toNat))=true): ∀k:Nat,sl=(k:Int)→k < 64∧(0≤p (3+5*k+1)∧p (3+5*k+1)≤4294967295)∧(0≤p (3+5*k+2)∧p (3+5*k+2)≤65535):=fun k hk=>by
 subst hk;exact ⟨by omega,H.s k (by omega) (takes_ne h)⟩
theorem nearS_k (nr:zdS) {k:Nat} (h:k < 64):zc0 nr (k:Nat)=nr k:=by rw [zc0,if_neg (by omega)];rfl
theorem NearK {P:Program} {nr:zdS} {k:Nat} {A:List Value} {h1 h2:List Blk} (hk:k < 64) (h:Env P "(*roundhouse/plane.Plane).Near" A h1 (fun v h'=>v= .tuple #[u32v (zc0 nr (k:Nat)).1,bv (zc0 nr (k:Nat)).2]∧h'=h2)):Env P "(*roundhouse/plane.Plane).Near" A h1 (fun v h'=>v= .tuple #[u32v (nr k).1,bv (nr k).2]∧h'=h2):=by
 rwa [nearS_k nr hk] at h
theorem backS_r (v n:Int):0≤zgV v n∧zgV v n < 4294967296:=by
 unfold zgV
 show 0≤(_:Int) % 4294967296∧(_:Int) % 4294967296 < 4294967296
 omega
theorem inC4 {P:Program} [PrC P] (p:q9) (is:Bool) (nr:zdS) (w9:Nat) (x:Pk) (qd:Option (Nat×Nat)) (zd:Bool) (l:List Int) (y:Pk) (hp:qW l=(0,y)) (hk:y.k=x.k) (hba:y.ba=x.ba) (h3:x.k≠3) (hop:x.op.length+24≤l.length) (H:PRng p) (hnr: ∀k,0≤(nr k).1∧(nr k).1 < 4294967296):
    Env P "(*roundhouse/plane.packet).in" [pv 0 0] ([cw (qR x (zD x.op) 1 qd 2 3 (some (0,l.length)) 4 l.length),zH (zD x.op) (u8 x.op) false,zaK zd,cr (zN p is nr (slV 5 127 (some w9))),zH (some (0,l.length)) (u8 l) false,slB zI (ii (qC p)) (some w9)]) (fun v h'=>((inP p x).1 < 0∧v= .agg #[iv 9,iv (-1),bv false,.slice none 0 0]∧h'= [cw (qR x (zD x.op) 1 qd 2 3 (some (0,l.length)) 4 l.length),zH (zD x.op) (u8 x.op) false,zaK zd,cr (zN p is nr (slV 5 127 (some w9))),zH (some (0,l.length)) (u8 l) false,slB zI (ii (qC p)) (some w9)])∨(∃k:Nat,(inP p x).1=(k:Int)∧k < 64∧v= .agg #[iv 0,iv (k:Int),bv (inP p x).2,zQ (some (0,l.length)) 6 l.length]∧h'= [cw (qR x (zD x.op) 1 qd 2 3 (some (0,l.length)) 6 l.length),zH (zD x.op) (u8 x.op) false,zaK zd,cr (zN p is nr (slV 5 127 (some w9))),zH (some (0,l.length)) (u8 l) false,slB zI (ii (qC p)) (some w9),zH (some (0,l.length)) (u8 (inL p nr x l k)) true])):=by
 refine Env.by4 PrC.plane_packet_in ?_
 unfold zcS
 show GC _ 6 _ _ ⟨reg [(0,pv 0 0)],[cw (qR x (zD x.op) 1 qd 2 3 (some (0,l.length)) 4 l.length),zH (zD x.op) (u8 x.op) false,zaK zd,cr (zN p is nr (slV 5 127 (some w9))),zH (some (0,l.length)) (u8 l) false,slB zI (ii (qC p)) (some w9)]⟩
 have hl:=zcY hp
 have hp1:=H.a
 have hp2:=H.b
 refine zJ (zM (o_b 1 [(2,pv 6 0)] [cw (qR x (zD x.op) 1 qd 2 3 (some (0,l.length)) 4 l.length),zH (zD x.op) (u8 x.op) false,zaK zd,cr (zN p is nr (slV 5 127 (some w9))),zH (some (0,l.length)) (u8 l) false,slB zI (ii (qC p)) (some w9),cw [iv 0,iv 0,bv false,.slice none 0 0]] (zE (zA (zJ (zM (o_d 3 [(17,pv 0 13),(16,pv 0 0),(15,pv 0 0)] (o_s (by refine zX (v:=pv 3 0) rfl rfl ?_;exact rfl) ?_))))))))
 refine o_d 3 [(21,pv 3 0),(20,pv 3 0),(19,pv 3 0)] (o_s (by refine zX (v:=zaq p) rfl rfl ?_;exact zeu (zaD p)) ?_)
 refine o_b 1 [(3,pv 7 0)] [cw (qR x (zD x.op) 1 qd 2 3 (some (0,l.length)) 4 l.length),zH (zD x.op) (u8 x.op) false,zaK zd,cr (zN p is nr (slV 5 127 (some w9))),zH (some (0,l.length)) (u8 l) false,slB zI (ii (qC p)) (some w9),cw [iv 0,iv 0,bv false,.slice none 0 0],cw (pl qL)] (zdj (by refine zas (c':=pl p) rfl rfl rfl ?_ ?_ ?_;exact qI _;exact zb2 (by omega);exact qZ qL p) ?_)
 refine zE (zA (zJ (zbe [] (r_d 4 [(26,pv 0 3),(25,pv 0 0),(24,pv 0 0),(23,pv 0 0)] (r_s (by refine zX (v:=iv x.fr) rfl rfl ?_;exact rfl) ?_)))))
 refine r_d 4 [(31,pv 0 5),(30,pv 0 0),(29,pv 0 0),(28,pv 0 0)] (r_s (by refine zX (v:=iv x.fp) rfl rfl ?_;exact rfl) ?_)
 refine r_d 1 [(33,pv 7 1)] (r_s (by refine zX (v:=iv (p 1)) rfl rfl ?_;exact zkw p 1 rfl (by omega)) ?_)
 refine r_d 1 [(35,pv 7 2)] (r_s (by refine zX (v:=iv (p 2)) rfl rfl ?_;exact zkw p 2 rfl (by omega)) ?_)
 refine r_b 3 [(4,pv 8 0),(37,.agg #[iv x.fr,iv x.fp,iv (p 1),iv (p 2)])] [cw (qR x (zD x.op) 1 qd 2 3 (some (0,l.length)) 4 l.length),zH (zD x.op) (u8 x.op) false,zaK zd,cr (zN p is nr (slV 5 127 (some w9))),zH (some (0,l.length)) (u8 l) false,slB zI (ii (qC p)) (some w9),cw [iv 0,iv 0,bv false,.slice none 0 0],cw (pl p),cw [iv x.fr,iv x.fp,iv (p 1),iv (p 2)]] (za1 (zT [(4,pv 8 0),(3,pv 7 0),(2,pv 6 0),(0,pv 0 0)] (zJ (zM (o_d 2 [(40,.agg #[iv x.fr,iv x.fp,iv (p 1),iv (p 2)]),(39,pv 0 0)] ?_)))))
 obtain ⟨ca,hcr⟩: ∃z9,zhp p x (inF p x)=z9:=⟨_,rfl⟩
 have hcq:=carS_q hcr
 refine qT (zdA [0,1,2,3,4,5] [cr (qR x (zD x.op) 1 qd 2 3 (some (0,l.length)) 4 l.length),zH (zD x.op) (u8 x.op) false,zaK zd,cr (zN p is nr (slV 5 127 (some w9))),cr [],cr []] [pv 0 0,.agg #[iv x.fr,iv x.fp,iv (p 1),iv (p 2)]] (carriedC2 (p:=p) (x:=x) (f:=(inF p x)) (carriedC p is nr (some w9) x qd 0 l.length l.length zd (inF p x) ca hcr (by omega) H)) rfl (zS rfl (zS (qQ rfl) rfl)) ⟨⟨_,rfl,zao (.inl (zb0 rfl rfl rfl rfl (fun q=>rfl)))⟩,⟨⟨_,rfl,zao (zZ (q:=zD x.op) (q':=zD x.op) (zG _) rfl (fun q=>q))⟩,⟨⟨_,rfl,(zd1 _)⟩,⟨⟨_,rfl,zao (.inl (zaP rfl (fun q=>q)))⟩,⟨⟨_,rfl,zaH⟩,⟨⟨_,rfl,zds (some w9)⟩,trivial⟩⟩⟩⟩⟩⟩ (by decide) ?_)
 rintro v1 h1' ⟨rfl,rfl⟩
 refine ⟨(zW z8 (zW z8 (zW z8 (zW z8 (zW z8 (zW z8 zah)))))),.tuple #[iv (ca.getD 0),bv ca.isSome],[cw (qR x (zD x.op) 1 qd 2 3 (some (0,l.length)) 4 l.length),zH (zD x.op) (u8 x.op) false,zaK zd,cr (zN p is nr (slV 5 127 (some w9))),zH (some (0,l.length)) (u8 l) false,slB zI (ii (qC p)) (some w9),cw [iv 0,iv 0,bv false,.slice none 0 0],cw (pl p),cw [iv x.fr,iv x.fp,iv (p 1),iv (p 2)]],[],(qQ rfl),⟨rfl,⟨(by generalize zD x.op=z9;cases z9<;>rfl),⟨(by cases zd<;>rfl),⟨rfl,⟨rfl,⟨rfl,⟨rfl,⟨rfl,⟨rfl,trivial⟩⟩⟩⟩⟩⟩⟩⟩⟩,trivial, ?_⟩
 refine o_d 5 [(6,bv ca.isSome),(5,iv (ca.getD 0)),(43,bv ca.isSome),(42,iv (ca.getD 0)),(38,.tuple #[iv (ca.getD 0),bv ca.isSome])] (zE (zA (zhm (fun s=> ∃(sl:Int),∃(tk:Bool),0=0∧(inP p x=(sl,tk))∧(∀k:Nat,sl=(k:Int)→k < 64∧(0≤p (3+5*k+1)∧p (3+5*k+1)≤4294967295)∧(0≤p (3+5*k+2)∧p (3+5*k+2)≤65535))∧s=⟨reg [(6,bv tk),(5,iv sl),(3,pv 7 0),(2,pv 6 0),(0,pv 0 0)],[cw (qR x (zD x.op) 1 qd 2 3 (some (0,l.length)) 4 l.length),zH (zD x.op) (u8 x.op) false,zaK zd,cr (zN p is nr (slV 5 127 (some w9))),zH (some (0,l.length)) (u8 l) false,slB zI (ii (qC p)) (some w9),cw [iv 0,iv 0,bv false,.slice none 0 0],cw (pl p),cw [iv x.fr,iv x.fp,iv (p 1),iv (p 2)]]⟩) ?_ ?_)))
 ·skip
  refine zJ (zM (o_d 2 [(45,bv ca.isSome),(44,bv ca.isSome)] (zce (b:=ca.isSome) 45 rfl (fun h1=>?_) (fun h1=>?_))))
  ·skip
   refine o_d 2 [(47,pv 7 3),(46,iv (ca.getD 0))] (qJ rfl (o_s (by exact zaW (o:=3) (o':=3+5*((ca.getD 0).toNat)) rfl rfl (by omega) (by omega)) ?_))
   refine qJ rfl (o_s (by refine zX (v:= .agg #[iv (p (3+5*((ca.getD 0).toNat))),iv (p (3+5*((ca.getD 0).toNat)+1)),iv (p (3+5*((ca.getD 0).toNat)+2)),iv (p (3+5*((ca.getD 0).toNat)+3)),iv (p (3+5*((ca.getD 0).toNat)+4))]) rfl rfl ?_;exact pl_rS p ((ca.getD 0).toNat) (by omega) (by omega)) ?_)
   refine qJ rfl (qT (zag (TakesC (p (3+5*((ca.getD 0).toNat))) (p (3+5*((ca.getD 0).toNat)+1)) (p (3+5*((ca.getD 0).toNat)+2)) (p (3+5*((ca.getD 0).toNat)+3)) (p (3+5*((ca.getD 0).toNat)+4))) rfl rfl rfl (o_d 2 [(6,bv ([1,2,3].contains (p (3+5*((ca.getD 0).toNat))))),(51,bv ([1,2,3].contains (p (3+5*((ca.getD 0).toNat)))))] (zE (zA (zJ (zM (o_d 2 [(53,bv (!([1,2,3].contains (p (3+5*((ca.getD 0).toNat)))))),(52,bv ([1,2,3].contains (p (3+5*((ca.getD 0).toNat)))))] (zE (zA (qK (t:= !([1,2,3].contains (p (3+5*((ca.getD 0).toNat))))) rfl (fun h2=>?_) (fun h2=>?_))))))))))))
   ·skip
    have h3:([1,2,3].contains (p (3+5*((ca.getD 0).toNat))))=false:=not_t h2
    refine zbe [] (r_d 3 [(56,pv 0 13),(55,pv 0 0),(54,pv 0 0)] (r_s (by refine zX (v:=pv 3 0) rfl rfl ?_;exact rfl) ?_))
    refine r_d 2 [(59,pv 3 459),(58,pv 3 0)] (r_s (by refine zX (v:=slV 5 127 (some w9)) rfl rfl ?_;exact (zfY 129).trans rfl) ?_)
    refine r_d 1 [(61,.agg #[iv x.fr,iv x.fp,iv (p 1),iv (p 2)])] (zeV (zfo (a1:= [sv 0 0 127 (127+w9),.agg #[iv x.fr,iv x.fp,iv (p 1),iv (p 2)]]) [5] [ii (qC p)++zay zI w9] (PickC (qC p) w9 (Fl.mk x.fr x.fp (p 1) (p 2)) (by first | assumption | exact (wheel_in _).1)) rfl (fun _=>zS rfl (zS (qQ rfl) rfl)) ⟨⟨_,rfl⟩,zaf _ _,trivial⟩ rfl ?_))
    refine r_d 1 [(5,iv (zdi (qC p) (Fl.mk x.fr x.fp (p 1) (p 2))))] (za1 (⟨⟨reg [(6,bv ([1,2,3].contains (p (3+5*((ca.getD 0).toNat))))),(5,iv (zdi (qC p) (Fl.mk x.fr x.fp (p 1) (p 2)))),(3,pv 7 0),(2,pv 6 0),(0,pv 0 0)],[cw (qR x (zD x.op) 1 qd 2 3 (some (0,l.length)) 4 l.length),zH (zD x.op) (u8 x.op) false,zaK zd,cr (zN p is nr (slV 5 127 (some w9))),zH (some (0,l.length)) (u8 l) false,slB zI (ii (qC p)) (some w9),cw [iv 0,iv 0,bv false,.slice none 0 0],cw (pl p),cw [iv x.fr,iv x.fp,iv (p 1),iv (p 2)]]⟩, ?_⟩))
    refine ⟨?_, ?_⟩
    ·exact Wk.ren [0,1,2,3,4,5,6,7,8] rfl rfl (by decide) ⟨rfl,⟨rfl,⟨rfl,⟨rfl,⟨rfl,trivial⟩⟩⟩⟩⟩ ⟨.inl (zau rfl rfl rfl rfl),⟨.inl (zF (zG _)),⟨.inl (congrArg some (zaO _).symm),⟨.inl (qF rfl),⟨.inl (zF (zG _)),⟨.inl (q8 (some w9) (fun _=>(zaf _ _))),⟨.inl rfl,⟨.inl (zV (zam p)),⟨.inl rfl,trivial⟩⟩⟩⟩⟩⟩⟩⟩⟩
    ·exact ⟨(zdi (qC p) (Fl.mk x.fr x.fp (p 1) (p 2))),([1,2,3].contains (p (3+5*((ca.getD 0).toNat)))),rfl,(by rw [h3];exact inP_f hcr h1 h3),(H.pickI rfl),rfl⟩
   have h4:([1,2,3].contains (p (3+5*((ca.getD 0).toNat))))=true:=not_f h2
   refine qM (⟨⟨reg [(6,bv ([1,2,3].contains (p (3+5*((ca.getD 0).toNat))))),(5,iv (ca.getD 0)),(3,pv 7 0),(2,pv 6 0),(0,pv 0 0)],[cw (qR x (zD x.op) 1 qd 2 3 (some (0,l.length)) 4 l.length),zH (zD x.op) (u8 x.op) false,zaK zd,cr (zN p is nr (slV 5 127 (some w9))),zH (some (0,l.length)) (u8 l) false,slB zI (ii (qC p)) (some w9),cw [iv 0,iv 0,bv false,.slice none 0 0],cw (pl p),cw [iv x.fr,iv x.fp,iv (p 1),iv (p 2)]]⟩, ?_⟩)
   refine ⟨?_, ?_⟩
   ·exact Wk.ren [0,1,2,3,4,5,6,7,8] rfl rfl (by decide) ⟨rfl,⟨rfl,⟨rfl,⟨rfl,⟨rfl,trivial⟩⟩⟩⟩⟩ ⟨.inl (zau rfl rfl rfl rfl),⟨.inl (zF (zG _)),⟨.inl (congrArg some (zaO _).symm),⟨.inl (qF rfl),⟨.inl (zF (zG _)),⟨.inl (q8 (some w9) (fun _=>(zaf _ _))),⟨.inl rfl,⟨.inl (zV (zam p)),⟨.inl rfl,trivial⟩⟩⟩⟩⟩⟩⟩⟩⟩
   ·exact ⟨(ca.getD 0),([1,2,3].contains (p (3+5*((ca.getD 0).toNat)))),rfl,(by rw [h4];exact inP_t hcr h1 h4),(H.takeI hcq h4),rfl⟩
  refine o_d 7 [(6,bv false),(51,bv false),(50,undef),(49,undef),(48,undef),(47,undef),(46,undef)] (zE (zA (zJ (zM (o_d 2 [(53,bv true),(52,bv false)] (zE (zA (zc6 rfl (zbe [] (r_d 3 [(56,pv 0 13),(55,pv 0 0),(54,pv 0 0)] (r_s (by refine zX (v:=pv 3 0) rfl rfl ?_;exact rfl) ?_)))))))))))
  refine r_d 2 [(59,pv 3 459),(58,pv 3 0)] (r_s (by refine zX (v:=slV 5 127 (some w9)) rfl rfl ?_;exact (zfY 129).trans rfl) ?_)
  refine r_d 1 [(61,.agg #[iv x.fr,iv x.fp,iv (p 1),iv (p 2)])] (zeV (zfo (a1:= [sv 0 0 127 (127+w9),.agg #[iv x.fr,iv x.fp,iv (p 1),iv (p 2)]]) [5] [ii (qC p)++zay zI w9] (PickC (qC p) w9 (Fl.mk x.fr x.fp (p 1) (p 2)) (by first | assumption | exact (wheel_in _).1)) rfl (fun _=>zS rfl (zS (qQ rfl) rfl)) ⟨⟨_,rfl⟩,zaf _ _,trivial⟩ rfl ?_))
  refine r_d 1 [(5,iv (zdi (qC p) (Fl.mk x.fr x.fp (p 1) (p 2))))] (za1 (⟨⟨reg [(6,bv false),(5,iv (zdi (qC p) (Fl.mk x.fr x.fp (p 1) (p 2)))),(3,pv 7 0),(2,pv 6 0),(0,pv 0 0)],[cw (qR x (zD x.op) 1 qd 2 3 (some (0,l.length)) 4 l.length),zH (zD x.op) (u8 x.op) false,zaK zd,cr (zN p is nr (slV 5 127 (some w9))),zH (some (0,l.length)) (u8 l) false,slB zI (ii (qC p)) (some w9),cw [iv 0,iv 0,bv false,.slice none 0 0],cw (pl p),cw [iv x.fr,iv x.fp,iv (p 1),iv (p 2)]]⟩, ?_⟩))
  refine ⟨?_, ?_⟩
  ·exact Wk.ren [0,1,2,3,4,5,6,7,8] rfl rfl (by decide) ⟨rfl,⟨rfl,⟨rfl,⟨rfl,⟨rfl,trivial⟩⟩⟩⟩⟩ ⟨.inl (zau rfl rfl rfl rfl),⟨.inl (zF (zG _)),⟨.inl (congrArg some (zaO _).symm),⟨.inl (qF rfl),⟨.inl (zF (zG _)),⟨.inl (q8 (some w9) (fun _=>(zaf _ _))),⟨.inl rfl,⟨.inl (zV (zam p)),⟨.inl rfl,trivial⟩⟩⟩⟩⟩⟩⟩⟩⟩
  ·exact ⟨(zdi (qC p) (Fl.mk x.fr x.fp (p 1) (p 2))),false,rfl,(inP_n hcr h1),(H.pickI rfl),rfl⟩
 rintro s ⟨sl,tk,-,hin,hrg,rfl⟩
 refine zJ (zJ (zM (o_d 2 [(64,bv (decide (sl < 0))),(63,iv sl)] (zE (zA (qK (t:=decide (sl < 0)) rfl (fun h5=>?_) (fun h5=>?_)))))))
 ·skip
  have h5':sl < 0:=of_decide_eq_true h5
  exact zJ (zM (qT (zag (dropC 9) rfl rfl rfl (o_b 1 [] [cw (qR x (zD x.op) 1 qd 2 3 (some (0,l.length)) 4 l.length),zH (zD x.op) (u8 x.op) false,zaK zd,cr (zN p is nr (slV 5 127 (some w9))),zH (some (0,l.length)) (u8 l) false,slB zI (ii (qC p)) (some w9),cw [iv 9,iv (-1),bv false,.slice none 0 0],cw (pl p),cw [iv x.fr,iv x.fp,iv (p 1),iv (p 2)]] (zE (zA (qS (⟨trivial,[.agg #[iv 9,iv (-1),bv false,.slice none 0 0]],(zaa rfl rfl rfl rfl),(zK rfl z5),⟨reg [],[cw (qR x (zD x.op) 1 qd 2 3 (some (0,l.length)) 4 l.length),zH (zD x.op) (u8 x.op) false,zaK zd,cr (zN p is nr (slV 5 127 (some w9))),zH (some (0,l.length)) (u8 l) false,slB zI (ii (qC p)) (some w9)]⟩,[0,1,2,3,4,5],[.agg #[iv 9,iv (-1),bv false,.slice none 0 0]],WkR.of (rs:= []) rfl rfl (by decide) trivial ⟨.inl (zau rfl rfl rfl rfl),⟨.inl (zF (zG _)),⟨.inl (congrArg some (zaO _).symm),⟨.inl (qF rfl),⟨.inl (zF (zG _)),⟨.inl (q8 (some w9) (fun _=>(zaf _ _))),trivial⟩⟩⟩⟩⟩⟩,(zS (zbn (q:=none) (k:=0) (k':=0) (n:=0) rfl) rfl),.inl ⟨by rw [hin];assumption,rfl,rfl⟩⟩))))))))
 have h5': ¬(sl < 0):=of_decide_eq_false h5
 obtain ⟨k,rfl⟩: ∃k:Nat,sl=(k:Int):=⟨sl.toNat,by omega⟩
 have hkr:=hrg k rfl
 have hnk:=hnr k
 refine qM (zA (zJ (zM (o_d 2 [(67,pv 7 3),(66,iv (k:Int))] (o_s (by exact zaW (o:=3) (o':=3+5*k) rfl rfl (by omega) (by omega)) ?_)))))
 refine o_s (by refine zX (v:= .agg #[iv (p (3+5*k)),iv (p (3+5*k+1)),iv (p (3+5*k+2)),iv (p (3+5*k+3)),iv (p (3+5*k+4))]) rfl rfl ?_;exact pl_rS p k (by omega) (by omega)) ?_
 refine o_b 2 [(7,pv 9 0)] [cw (qR x (zD x.op) 1 qd 2 3 (some (0,l.length)) 4 l.length),zH (zD x.op) (u8 x.op) false,zaK zd,cr (zN p is nr (slV 5 127 (some w9))),zH (some (0,l.length)) (u8 l) false,slB zI (ii (qC p)) (some w9),cw [iv 0,iv 0,bv false,.slice none 0 0],cw (pl p),cw [iv x.fr,iv x.fp,iv (p 1),iv (p 2)],cw [iv (p (3+5*k)),iv (p (3+5*k+1)),iv (p (3+5*k+2)),iv (p (3+5*k+3)),iv (p (3+5*k+4))]] (zE (zA (zJ (zjn [cw (qR x (zD x.op) 1 qd 2 3 (some (0,l.length)) 4 l.length),zH (zD x.op) (u8 x.op) false,zaK zd,cr (zN p is nr (slV 5 127 (some w9))),zH (some (0,l.length)) (u8 l) false,slB zI (ii (qC p)) (some w9),cw [iv 0,iv 0,bv false,.slice none 0 0],cw (pl p),cw [iv x.fr,iv x.fp,iv (p 1),iv (p 2)],cw [iv (p (3+5*k)),iv (p (3+5*k+1)),iv (p (3+5*k+2)),iv (p (3+5*k+3)),iv (p (3+5*k+4))]] (by kernel_rfl) (d_n 4 4 10 [(73,pv 0 14),(72,pv 0 0),(71,pv 0 0),(70,pv 0 0)] [cw (qR x (zD x.op) 1 qd 2 3 (some (0,l.length)) 4 l.length),zH (zD x.op) (u8 x.op) false,zaK zd,cr (zN p is nr (slV 5 127 (some w9))),zH (some (0,l.length)) (u8 l) false,slB zI (ii (qC p)) (some w9),cw [iv 0,iv 0,bv false,.slice none 0 0],cw (pl p),cw [iv x.fr,iv x.fp,iv (p 1),iv (p 2)],cw [iv (p (3+5*k)),iv (p (3+5*k+1)),iv (p (3+5*k+2)),iv (p (3+5*k+3)),iv (p (3+5*k+4))]] [] (by kernel_rfl) rfl rfl (d_s rfl rfl rfl (by kernel_rfl) (by refine zX (v:=zQ (some (0,l.length)) 4 l.length) rfl rfl ?_;exact rfl) ?_))))))
 refine d_n 4 9 10 [(78,iv (p (3+5*k+2))),(77,pv 9 2),(76,iv (p (3+5*k+1))),(75,pv 9 1)] [cw (qR x (zD x.op) 1 qd 2 3 (some (0,l.length)) 4 l.length),zH (zD x.op) (u8 x.op) false,zaK zd,cr (zN p is nr (slV 5 127 (some w9))),zH (some (0,l.length)) (u8 l) false,slB zI (ii (qC p)) (some w9),cw [iv 0,iv 0,bv false,.slice none 0 0],cw (pl p),cw [iv x.fr,iv x.fp,iv (p 1),iv (p 2)],cw [iv (p (3+5*k)),iv (p (3+5*k+1)),iv (p (3+5*k+2)),iv (p (3+5*k+3)),iv (p (3+5*k+4))]] [⟨8,[9],[],none⟩,⟨6,[9],[],none⟩,⟨4,[0],[],none⟩] (by kernel_rfl) rfl rfl ?_
 obtain ⟨m6,hm6⟩: ∃z9,natL l y.ba false (p (3+5*k+1)) (p (3+5*k+2))=z9:=⟨_,rfl⟩
 have hm6a:Alike l m6:=by rw [←hm6];exact nat_alike hp (by omega) false
 have hm6p:=hm6a.parse hp
 have hm6l:=hm6p.2.2.2
 have hm6k:=hm6p.2.1
 have hm6b:=hm6p.2.2.1
 have hm6e:m6.length=l.length:=hm6l
 refine d_clN [4] [zH (some (0,l.length)) (u8 l) false] [zQ (some (0,l.length)) 0 l.length,bv false,iv (p (3+5*k+1)),iv (p (3+5*k+2))] (chgR hm6 rfl (NatC _ _ l l (RowOf.whole rfl (Nat.le_refl _)) y hp (by omega) false (p (3+5*k+1)) (p (3+5*k+2)) (by omega) (by omega))) rfl rfl ⟨⟨_,rfl,zZ (zG _) rfl (fun q=>q)⟩,trivial⟩ (by decide) ⟨_,_,⟨rfl,rfl⟩,Nat.le_add_right 1 1,zb9 [_] [_]⟩ ?_ (by kernel_rfl)
 rintro v1 h1' ⟨rfl,rfl⟩
 refine ⟨za5 rfl,.tuple #[zQ (some (0,l.length)) 10 l.length,iv 0],[cw (qR x (zD x.op) 1 qd 2 3 (some (0,l.length)) 4 l.length),zH (zD x.op) (u8 x.op) false,zaK zd,cr (zN p is nr (slV 5 127 (some w9))),zH (some (0,l.length)) (u8 l) false,slB zI (ii (qC p)) (some w9),cw [iv 0,iv 0,bv false,.slice none 0 0],cw (pl p),cw [iv x.fr,iv x.fp,iv (p 1),iv (p 2)],cw [iv (p (3+5*k)),iv (p (3+5*k+1)),iv (p (3+5*k+2)),iv (p (3+5*k+3)),iv (p (3+5*k+4))]],[zH (some (0,l.length)) (u8 m6) true],((zdO _).trans rfl),⟨rfl,⟨rfl,⟨rfl,⟨rfl,⟨rfl,⟨rfl,⟨rfl,⟨rfl,⟨rfl,⟨rfl,trivial⟩⟩⟩⟩⟩⟩⟩⟩⟩⟩,⟨(Option.some.inj (zF (zG _))).symm,trivial⟩, ?_⟩
 refine d_n 2 12 10 [(81,iv 0),(80,zQ (some (0,l.length)) 10 l.length)] [cw (qR x (zD x.op) 1 qd 2 3 (some (0,l.length)) 4 l.length),zH (zD x.op) (u8 x.op) false,zaK zd,cr (zN p is nr (slV 5 127 (some w9))),zH (some (0,l.length)) (u8 l) false,slB zI (ii (qC p)) (some w9),cw [iv 0,iv 0,bv false,.slice none 0 0],cw (pl p),cw [iv x.fr,iv x.fp,iv (p 1),iv (p 2)],cw [iv (p (3+5*k)),iv (p (3+5*k+1)),iv (p (3+5*k+2)),iv (p (3+5*k+3)),iv (p (3+5*k+4))],zH (some (0,l.length)) (u8 m6) true] [⟨9,[4],(zdc [4] [zH (some (0,l.length)) (u8 l) false]),some 10⟩,⟨8,[9],[],none⟩,⟨6,[9],[],none⟩,⟨4,[0],[],none⟩] (by kernel_rfl) rfl rfl (d_clH [0,1,2,3,4,10] [cw (qR x (zD x.op) 1 qd 2 3 (some (0,l.length)) 4 l.length),zaK ((zD x.op).isSome),zaK zd,cr [],cr [],cr []] [pv 0 0,zQ (some (0,l.length)) 5 l.length,iv 0] (thenC x (zD x.op) qd 0 l.length l.length 0 l.length l.length ((zD x.op).isSome) zd) rfl rfl ⟨⟨_,rfl,zao (.inl (zb0 rfl rfl rfl rfl (fun q=>rfl)))⟩,⟨⟨_,rfl,(zco (zD x.op))⟩,⟨⟨_,rfl,(zd1 _)⟩,⟨⟨_,rfl,zaH⟩,⟨⟨_,rfl,zaH⟩,⟨⟨_,rfl,zaH⟩,trivial⟩⟩⟩⟩⟩⟩ (by decide) ⟨_,_,⟨rfl,rfl⟩,Nat.le_refl _,zf4 rfl (zb9 [_,_,_,_,_] [])⟩ ?_ (by kernel_rfl))
 rintro v1 h1' ⟨rfl,rfl⟩
 refine ⟨(zW zaF (zW z8 (zW z8 (zW z8 (zW z8 (zW z8 zah)))))),.tuple #[],[cw (qR x (zD x.op) 1 qd 2 3 (some (0,l.length)) 10 l.length),zH (zD x.op) (u8 x.op) false,zaK zd,cr (zN p is nr (slV 5 127 (some w9))),zH (some (0,l.length)) (u8 l) false,slB zI (ii (qC p)) (some w9),cw [iv 0,iv 0,bv false,.slice none 0 0],cw (pl p),cw [iv x.fr,iv x.fp,iv (p 1),iv (p 2)],cw [iv (p (3+5*k)),iv (p (3+5*k+1)),iv (p (3+5*k+2)),iv (p (3+5*k+3)),iv (p (3+5*k+4))],zH (some (0,l.length)) (u8 m6) true],[],(by simp [zaN]),⟨zbT rfl rfl rfl rfl,⟨(by generalize zD x.op=z9;cases z9<;>rfl),⟨(by cases zd<;>rfl),⟨rfl,⟨rfl,⟨rfl,⟨rfl,⟨rfl,⟨rfl,⟨rfl,⟨rfl,trivial⟩⟩⟩⟩⟩⟩⟩⟩⟩⟩⟩,trivial, ?_⟩
 refine d_nil (zT [(6,bv tk),(5,iv (k:Int)),(2,pv 6 0),(0,pv 0 0)] (zJ (zJ (zM (o_d 4 [(87,pv 0 11),(86,pv 0 0),(85,pv 0 0),(84,pv 0 0)] (o_s (by refine zX (v:=zQ (zD x.op) 1 x.op.length) rfl rfl ?_;exact rfl) ?_))))))
 rcases ha7:zcG x.op with _ | a7
 ·skip
  refine qT (zaG [1] [zH (zD x.op) (u8 x.op) false] [zQ (zD x.op) 0 x.op.length] (zhy ha7 (zkM (zD x.op) x.op x.op (zdv x.op) (by omega))) rfl (zS (qH rfl) rfl) ⟨⟨_,rfl,zZ (zG _) rfl (fun q=>q)⟩,trivial⟩ (by decide) ?_)
  rintro v1 h1' ⟨rfl,rfl⟩
  refine ⟨zab [_] [],.tuple #[iv 0,.int .u32 0,.int .u32 0,bv false],[cw (qR x (zD x.op) 1 qd 2 3 (some (0,l.length)) 10 l.length),zH (zD x.op) (u8 x.op) false,zaK zd,cr (zN p is nr (slV 5 127 (some w9))),zH (some (0,l.length)) (u8 l) false,slB zI (ii (qC p)) (some w9),cw [iv 0,iv 0,bv false,.slice none 0 0],cw (pl p),cw [iv x.fr,iv x.fp,iv (p 1),iv (p 2)],cw [iv (p (3+5*k)),iv (p (3+5*k+1)),iv (p (3+5*k+2)),iv (p (3+5*k+3)),iv (p (3+5*k+4))],zH (some (0,l.length)) (u8 m6) true],[],(qQ rfl),⟨rfl,⟨(zaS rfl rfl),⟨rfl,⟨rfl,⟨rfl,⟨rfl,⟨rfl,⟨rfl,⟨rfl,⟨rfl,⟨rfl,trivial⟩⟩⟩⟩⟩⟩⟩⟩⟩⟩⟩,trivial, ?_⟩
  refine o_d 9 [(11,bv false),(10,.int .u32 0),(9,.int .u32 0),(8,iv 0),(93,bv false),(92,.int .u32 0),(91,.int .u32 0),(90,iv 0),(83,.tuple #[iv 0,.int .u32 0,.int .u32 0,bv false])] (zE (zA (zJ (zM (o_d 13 [(106,bv false),(105,undef),(104,undef),(103,bv false),(102,bv false),(101,undef),(100,undef),(99,undef),(98,undef),(97,undef),(96,undef),(95,bv false),(94,bv false)] (zE (zT [(106,bv false),(10,.int .u32 0),(8,iv 0),(6,bv tk),(5,iv (k:Int)),(2,pv 6 0),(0,pv 0 0)] (zbx rfl (qM (zA (zJ (zM ?_))))))))))))
  refine o_d 5 [(138,pv 0 14),(137,pv 0 0),(136,pv 0 0),(135,bv tk),(134,iv (k:Int))] (o_s (by refine zX (v:=zQ (some (0,l.length)) 10 l.length) rfl rfl ?_;exact rfl) ?_)
  refine o_b 2 [(140,.agg #[iv 0,iv (k:Int),bv tk,zQ (some (0,l.length)) 10 l.length])] [cw (qR x (zD x.op) 1 qd 2 3 (some (0,l.length)) 10 l.length),zH (zD x.op) (u8 x.op) false,zaK zd,cr (zN p is nr (slV 5 127 (some w9))),zH (some (0,l.length)) (u8 l) false,slB zI (ii (qC p)) (some w9),cw [iv 0,iv (k:Int),bv tk,zQ (some (0,l.length)) 10 l.length],cw (pl p),cw [iv x.fr,iv x.fp,iv (p 1),iv (p 2)],cw [iv (p (3+5*k)),iv (p (3+5*k+1)),iv (p (3+5*k+2)),iv (p (3+5*k+3)),iv (p (3+5*k+4))],zH (some (0,l.length)) (u8 m6) true] (zE (zA (qS ?_)))
  have e1:inL p nr x l k=m6:=by
   unfold inL
   simp only [ha7]
   rw [←hba];exact hm6
  exact ⟨trivial,[.agg #[iv 0,iv (k:Int),bv tk,zQ (some (0,l.length)) 10 l.length]],(zaa rfl rfl rfl rfl),(zK rfl z5),⟨reg [],[cw (qR x (zD x.op) 1 qd 2 3 (some (0,l.length)) 6 l.length),zH (zD x.op) (u8 x.op) false,zaK zd,cr (zN p is nr (slV 5 127 (some w9))),zH (some (0,l.length)) (u8 l) false,slB zI (ii (qC p)) (some w9),zH (some (0,l.length)) (u8 m6) true]⟩,[0,1,2,3,4,5,10],[.agg #[iv 0,iv (k:Int),bv tk,zQ (some (0,l.length)) 6 l.length]],WkR.of (rs:= []) rfl rfl (by decide) trivial ⟨.inl (zau rfl rfl rfl rfl),⟨.inl (zF (zG _)),⟨.inl (congrArg some (zaO _).symm),⟨.inl (qF rfl),⟨.inl (zF (zG _)),⟨.inl (q8 (some w9) (fun _=>(zaf _ _))),⟨.inl (zF (zG _)),trivial⟩⟩⟩⟩⟩⟩⟩,(zS (zbn rfl) rfl),.inr ⟨k,by rw [hin],by omega,by rw [hin];rfl,by rw [e1]⟩⟩
 ·skip
  have ha7r:=stampO_r ha7
  have ha7m:=zew x.op a7 4 (by decide)
  have ha7n:=zew x.op (a7+4) 4 (by decide)
  refine qT (zaG [1] [zH (zD x.op) (u8 x.op) false] [zQ (zD x.op) 0 x.op.length] (zhx ha7 (zkM (zD x.op) x.op x.op (zdv x.op) (by omega))) rfl (zS (qH rfl) rfl) ⟨⟨_,rfl,zZ (zG _) rfl (fun q=>q)⟩,trivial⟩ (by decide) ?_)
  rintro v1 h1' ⟨rfl,rfl⟩
  refine ⟨zab [_] [],.tuple #[iv (a7:Nat),.int .u32 (qE x.op a7 4),.int .u32 (qE x.op (a7+4) 4),bv true],[cw (qR x (zD x.op) 1 qd 2 3 (some (0,l.length)) 10 l.length),zH (zD x.op) (u8 x.op) false,zaK zd,cr (zN p is nr (slV 5 127 (some w9))),zH (some (0,l.length)) (u8 l) false,slB zI (ii (qC p)) (some w9),cw [iv 0,iv 0,bv false,.slice none 0 0],cw (pl p),cw [iv x.fr,iv x.fp,iv (p 1),iv (p 2)],cw [iv (p (3+5*k)),iv (p (3+5*k+1)),iv (p (3+5*k+2)),iv (p (3+5*k+3)),iv (p (3+5*k+4))],zH (some (0,l.length)) (u8 m6) true],[],(qQ rfl),⟨rfl,⟨(zaS rfl rfl),⟨rfl,⟨rfl,⟨rfl,⟨rfl,⟨rfl,⟨rfl,⟨rfl,⟨rfl,⟨rfl,trivial⟩⟩⟩⟩⟩⟩⟩⟩⟩⟩⟩,trivial, ?_⟩
  refine o_d 9 [(11,bv true),(10,.int .u32 (qE x.op (a7+4) 4)),(9,.int .u32 (qE x.op a7 4)),(8,iv (a7:Nat)),(93,bv true),(92,.int .u32 (qE x.op (a7+4) 4)),(91,.int .u32 (qE x.op a7 4)),(90,iv (a7:Nat)),(83,.tuple #[iv (a7:Nat),.int .u32 (qE x.op a7 4),.int .u32 (qE x.op (a7+4) 4),bv true])] (zE (zA (zJ (zM (o_d 6 [(99,pv 0 0),(98,pv 0 0),(97,pv 0 0),(96,pv 0 0),(95,bv true),(94,bv true)] (qJ rfl (o_s (by refine zX (v:=iv x.k) rfl rfl ?_;exact rfl) ?_)))))))
  refine o_d 3 [(103,bv (x.k==1)),(102,bv (x.k==1)),(101,bv (x.k==1))] (zce (b:=x.k==1) 103 rfl (fun h8=>?_) (fun h8=>?_))
  ·skip
   have h8':x.k=1:=zaL h8
   refine o_d 3 [(106,bv ((qE x.op (a7+4) 4)!=0)),(105,bv ((qE x.op (a7+4) 4)!=0)),(104,.int .u32 (qE x.op (a7+4) 4))] (zE (zT [(106,bv ((qE x.op (a7+4) 4)!=0)),(10,.int .u32 (qE x.op (a7+4) 4)),(8,iv (a7:Nat)),(6,bv tk),(5,iv (k:Int)),(2,pv 6 0),(0,pv 0 0)] (qK (t:=(qE x.op (a7+4) 4)!=0) rfl (fun h9=>?_) (fun h9=>?_))))
   ·skip
    have h9':qE x.op (a7+4) 4≠0:=zgC h9
    refine zJ (zM (o_d 1 [(12,iv 0)] (zE (zA (zhm (fun s=> ∃(bk:Int),0=0∧(bk=backN nr k (qE x.op (a7+4) 4))∧(0≤bk∧bk < 4294967296)∧s=⟨reg [(12,iv bk),(8,iv (a7:Nat)),(6,bv tk),(5,iv (k:Int)),(2,pv 6 0),(0,pv 0 0)],[cw (qR x (zD x.op) 1 qd 2 3 (some (0,l.length)) 10 l.length),zH (zD x.op) (u8 x.op) false,zaK zd,cr (zN p is nr (slV 5 127 (some w9))),zH (some (0,l.length)) (u8 l) false,slB zI (ii (qC p)) (some w9),cw [iv 0,iv 0,bv false,.slice none 0 0],cw (pl p),cw [iv x.fr,iv x.fp,iv (p 1),iv (p 2)],cw [iv (p (3+5*k)),iv (p (3+5*k+1)),iv (p (3+5*k+2)),iv (p (3+5*k+3)),iv (p (3+5*k+4))],zH (some (0,l.length)) (u8 m6) true]⟩) ?_ ?_)))))
    ·skip
     refine zJ (zM (o_d 3 [(110,pv 0 13),(109,pv 0 0),(108,pv 0 0)] (o_s (by refine zX (v:=pv 3 0) rfl rfl ?_;exact rfl) ?_)))
     refine o_d 1 [(112,iv (k:Int))] (qT (zdA [3,5] [cr (zN p is nr (slV 1 127 (some w9))),cr []] [pv 0 0,iv (k:Int)] (NearK (by omega) (NearC p is nr (some w9) (k:Int))) rfl rfl ⟨⟨_,rfl,zao (.inl (zaP rfl (fun q=>q)))⟩,⟨⟨_,rfl,zds (some w9)⟩,trivial⟩⟩ (by decide) ?_))
     rintro v1 h1' ⟨rfl,rfl⟩
     refine ⟨(zW z8 (zW z8 zah)),.tuple #[.int .u32 ((nr k).1),bv ((nr k).2)],[cw (qR x (zD x.op) 1 qd 2 3 (some (0,l.length)) 10 l.length),zH (zD x.op) (u8 x.op) false,zaK zd,cr (zN p is nr (slV 5 127 (some w9))),zH (some (0,l.length)) (u8 l) false,slB zI (ii (qC p)) (some w9),cw [iv 0,iv 0,bv false,.slice none 0 0],cw (pl p),cw [iv x.fr,iv x.fp,iv (p 1),iv (p 2)],cw [iv (p (3+5*k)),iv (p (3+5*k+1)),iv (p (3+5*k+2)),iv (p (3+5*k+3)),iv (p (3+5*k+4))],zH (some (0,l.length)) (u8 m6) true],[],(qQ rfl),⟨rfl,⟨rfl,⟨rfl,⟨rfl,⟨rfl,⟨rfl,⟨rfl,⟨rfl,⟨rfl,⟨rfl,⟨rfl,trivial⟩⟩⟩⟩⟩⟩⟩⟩⟩⟩⟩,trivial, ?_⟩
     refine o_d 5 [(14,bv ((nr k).2)),(13,.int .u32 ((nr k).1)),(115,bv ((nr k).2)),(114,.int .u32 ((nr k).1)),(107,.tuple #[.int .u32 ((nr k).1),bv ((nr k).2)])] (zE (zA (zJ (zM (o_d 1 [(116,bv ((nr k).2))] (zE (zA (qK (t:=(nr k).2) rfl (fun h10=>?_) (fun h10=>?_)))))))))
     ·skip
      refine zM (o_d 2 [(118,.int .u32 ((nr k).1)),(117,.int .u32 (qE x.op (a7+4) 4))] (qT (zag (cBackC (qE x.op (a7+4) 4) ((nr k).1) (by omega) (by omega)) rfl rfl rfl ?_)))
      have hy11:=backS_r (qE x.op (a7+4) 4) ((nr k).1)
      refine o_s (by refine zL (v:= .int .i64 (i64.wrap (zgV (qE x.op (a7+4) 4) ((nr k).1)))) (congrArg (Value.int .i64) (w64 (by omega) (by omega))) ?_;kernel_rfl) ?_
      refine o_d 1 [(12,iv (zgV (qE x.op (a7+4) 4) ((nr k).1)))] (zE (⟨⟨reg [(12,iv (zgV (qE x.op (a7+4) 4) ((nr k).1))),(8,iv (a7:Nat)),(6,bv tk),(5,iv (k:Int)),(2,pv 6 0),(0,pv 0 0)],[cw (qR x (zD x.op) 1 qd 2 3 (some (0,l.length)) 10 l.length),zH (zD x.op) (u8 x.op) false,zaK zd,cr (zN p is nr (slV 5 127 (some w9))),zH (some (0,l.length)) (u8 l) false,slB zI (ii (qC p)) (some w9),cw [iv 0,iv 0,bv false,.slice none 0 0],cw (pl p),cw [iv x.fr,iv x.fp,iv (p 1),iv (p 2)],cw [iv (p (3+5*k)),iv (p (3+5*k+1)),iv (p (3+5*k+2)),iv (p (3+5*k+3)),iv (p (3+5*k+4))],zH (some (0,l.length)) (u8 m6) true]⟩, ?_⟩))
      refine ⟨?_, ?_⟩
      ·exact Wk.ren [0,1,2,3,4,5,6,7,8,9,10] rfl rfl (by decide) ⟨rfl,⟨rfl,⟨rfl,⟨rfl,⟨rfl,⟨rfl,trivial⟩⟩⟩⟩⟩⟩ ⟨.inl (zau rfl rfl rfl rfl),⟨.inl (zF (zG _)),⟨.inl (congrArg some (zaO _).symm),⟨.inl (qF rfl),⟨.inl (zF (zG _)),⟨.inl (q8 (some w9) (fun _=>(zaf _ _))),⟨.inl rfl,⟨.inl (zV (zam p)),⟨.inl rfl,⟨.inl rfl,⟨.inl (zF (zG _)),trivial⟩⟩⟩⟩⟩⟩⟩⟩⟩⟩⟩
      ·exact ⟨(zgV (qE x.op (a7+4) 4) ((nr k).1)),rfl,(by rw [backN,if_pos (by rw [h10])]),(backS_r _ _),rfl⟩
     refine qM (⟨⟨reg [(12,iv 0),(8,iv (a7:Nat)),(6,bv tk),(5,iv (k:Int)),(2,pv 6 0),(0,pv 0 0)],[cw (qR x (zD x.op) 1 qd 2 3 (some (0,l.length)) 10 l.length),zH (zD x.op) (u8 x.op) false,zaK zd,cr (zN p is nr (slV 5 127 (some w9))),zH (some (0,l.length)) (u8 l) false,slB zI (ii (qC p)) (some w9),cw [iv 0,iv 0,bv false,.slice none 0 0],cw (pl p),cw [iv x.fr,iv x.fp,iv (p 1),iv (p 2)],cw [iv (p (3+5*k)),iv (p (3+5*k+1)),iv (p (3+5*k+2)),iv (p (3+5*k+3)),iv (p (3+5*k+4))],zH (some (0,l.length)) (u8 m6) true]⟩, ?_⟩)
     refine ⟨?_, ?_⟩
     ·exact Wk.ren [0,1,2,3,4,5,6,7,8,9,10] rfl rfl (by decide) ⟨rfl,⟨rfl,⟨rfl,⟨rfl,⟨rfl,⟨rfl,trivial⟩⟩⟩⟩⟩⟩ ⟨.inl (zau rfl rfl rfl rfl),⟨.inl (zF (zG _)),⟨.inl (congrArg some (zaO _).symm),⟨.inl (qF rfl),⟨.inl (zF (zG _)),⟨.inl (q8 (some w9) (fun _=>(zaf _ _))),⟨.inl rfl,⟨.inl (zV (zam p)),⟨.inl rfl,⟨.inl rfl,⟨.inl (zF (zG _)),trivial⟩⟩⟩⟩⟩⟩⟩⟩⟩⟩⟩
     ·exact ⟨0,rfl,(by rw [backN,if_neg (by rw [h10];simp)]),(by omega),rfl⟩
    rintro s ⟨bk,-,hbk,hbr,rfl⟩
    refine zM (o_d 4 [(124,pv 0 14),(123,pv 0 0),(122,pv 0 0),(121,pv 0 0)] (o_s (by refine zX (v:=zQ (some (0,l.length)) 10 l.length) rfl rfl ?_;exact rfl) ?_))
    refine o_d 1 [(126,iv (a7:Nat))] (o_s (by refine zL (v:= .int .i64 (i64.wrap (24+(a7:Nat)))) (congrArg (Value.int .i64) (w64 (by omega) (by omega))) ?_;kernel_rfl) ?_)
    refine o_s (by refine zL (v:= .int .i64 (i64.wrap (24+(a7:Nat)+4))) (congrArg (Value.int .i64) (w64 (by omega) (by omega))) ?_;kernel_rfl) ?_
    refine o_d 1 [(129,iv bk)] ?_
    have hy12:=zf0 (zfe m6).k
    obtain ⟨m13,hm13⟩: ∃z9,zck m6 (zfe m6).ba (24+a7+4) 4 bk=z9:=⟨_,rfl⟩
    have hm13a:Alike m6 m13:=by rw [←hm13];exact zgr hm6p.1 (by omega) (by omega) (by omega) (by omega)
    have hm13p:=hm13a.parse hm6p.1
    have hm13l:=hm13p.2.2.2
    have hm13k:=hm13p.2.1
    have hm13b:=hm13p.2.2.1
    have hm13e:m13.length=l.length:=(hm13l.trans hm6l)
    refine qT (zaG [10] [zH (some (0,l.length)) (u8 m6) false] [zQ (some (0,l.length)) 0 l.length,iv (24+(a7:Nat)+4),iv 4,iv bk] (chgR hm13 hm6l (Write4C _ _ m6 m6 (RowOf.whole rfl (by omega)) (zfe m6) hm6p.1 (24+a7+4) bk (by omega) (by omega) (by omega))) rfl rfl ⟨⟨_,rfl,zZ (zG _) rfl (fun q=>rfl)⟩,trivial⟩ (by decide) ?_)
    rintro v1 h1' ⟨rfl,rfl⟩
    refine ⟨za5 rfl,.tuple #[zQ (some (0,l.length)) 11 l.length,iv 0],[cw (qR x (zD x.op) 1 qd 2 3 (some (0,l.length)) 10 l.length),zH (zD x.op) (u8 x.op) false,zaK zd,cr (zN p is nr (slV 5 127 (some w9))),zH (some (0,l.length)) (u8 l) false,slB zI (ii (qC p)) (some w9),cw [iv 0,iv 0,bv false,.slice none 0 0],cw (pl p),cw [iv x.fr,iv x.fp,iv (p 1),iv (p 2)],cw [iv (p (3+5*k)),iv (p (3+5*k+1)),iv (p (3+5*k+2)),iv (p (3+5*k+3)),iv (p (3+5*k+4))],zH (some (0,l.length)) (u8 m6) true],[zH (some (0,l.length)) (u8 m13) true],((zdO _).trans rfl),⟨rfl,⟨rfl,⟨rfl,⟨rfl,⟨rfl,⟨rfl,⟨rfl,⟨rfl,⟨rfl,⟨rfl,⟨rfl,trivial⟩⟩⟩⟩⟩⟩⟩⟩⟩⟩⟩,⟨(Option.some.inj (zF (zG _))).symm,trivial⟩, ?_⟩
    refine o_d 2 [(132,iv 0),(131,zQ (some (0,l.length)) 11 l.length)] (qT (zdA [0,1,2,3,10,11] [cw (qR x (zD x.op) 1 qd 2 3 (some (0,l.length)) 4 l.length),zaK ((zD x.op).isSome),zaK zd,cr [],cr [],cr []] [pv 0 0,zQ (some (0,l.length)) 5 l.length,iv 0] (thenC x (zD x.op) qd 0 l.length l.length 0 l.length l.length ((zD x.op).isSome) zd) rfl rfl ⟨⟨_,rfl,zao (.inl (zb0 rfl rfl rfl rfl (fun q=>rfl)))⟩,⟨⟨_,rfl,(zco (zD x.op))⟩,⟨⟨_,rfl,(zd1 _)⟩,⟨⟨_,rfl,zaH⟩,⟨⟨_,rfl,zaH⟩,⟨⟨_,rfl,zaH⟩,trivial⟩⟩⟩⟩⟩⟩ (by decide) ?_))
    rintro v1 h1' ⟨rfl,rfl⟩
    refine ⟨(zW zaF (zW z8 (zW z8 (zW z8 (zW z8 (zW z8 zah)))))),.tuple #[],[cw (qR x (zD x.op) 1 qd 2 3 (some (0,l.length)) 11 l.length),zH (zD x.op) (u8 x.op) false,zaK zd,cr (zN p is nr (slV 5 127 (some w9))),zH (some (0,l.length)) (u8 l) false,slB zI (ii (qC p)) (some w9),cw [iv 0,iv 0,bv false,.slice none 0 0],cw (pl p),cw [iv x.fr,iv x.fp,iv (p 1),iv (p 2)],cw [iv (p (3+5*k)),iv (p (3+5*k+1)),iv (p (3+5*k+2)),iv (p (3+5*k+3)),iv (p (3+5*k+4))],zH (some (0,l.length)) (u8 m6) true,zH (some (0,l.length)) (u8 m13) true],[],(by simp [zaN]),⟨zbT rfl rfl rfl rfl,⟨(by generalize zD x.op=z9;cases z9<;>rfl),⟨(by cases zd<;>rfl),⟨rfl,⟨rfl,⟨rfl,⟨rfl,⟨rfl,⟨rfl,⟨rfl,⟨rfl,⟨rfl,trivial⟩⟩⟩⟩⟩⟩⟩⟩⟩⟩⟩⟩,trivial, ?_⟩
    refine zE (zA (zJ (zM (o_d 5 [(138,pv 0 14),(137,pv 0 0),(136,pv 0 0),(135,bv tk),(134,iv (k:Int))] (o_s (by refine zX (v:=zQ (some (0,l.length)) 11 l.length) rfl rfl ?_;exact rfl) ?_)))))
    refine o_b 2 [(140,.agg #[iv 0,iv (k:Int),bv tk,zQ (some (0,l.length)) 11 l.length])] [cw (qR x (zD x.op) 1 qd 2 3 (some (0,l.length)) 11 l.length),zH (zD x.op) (u8 x.op) false,zaK zd,cr (zN p is nr (slV 5 127 (some w9))),zH (some (0,l.length)) (u8 l) false,slB zI (ii (qC p)) (some w9),cw [iv 0,iv (k:Int),bv tk,zQ (some (0,l.length)) 11 l.length],cw (pl p),cw [iv x.fr,iv x.fp,iv (p 1),iv (p 2)],cw [iv (p (3+5*k)),iv (p (3+5*k+1)),iv (p (3+5*k+2)),iv (p (3+5*k+3)),iv (p (3+5*k+4))],zH (some (0,l.length)) (u8 m6) true,zH (some (0,l.length)) (u8 m13) true] (zE (zT [(2,pv 6 0)] (qS ?_)))
    have e1:inL p nr x l k=m13:=by
     unfold inL
     simp only [ha7]
     rw [if_pos ⟨by omega,by assumption⟩,←hba,hm6,←hm6b,←hbk];exact hm13
    exact ⟨trivial,[.agg #[iv 0,iv (k:Int),bv tk,zQ (some (0,l.length)) 11 l.length]],(zaa rfl rfl rfl rfl),(zK rfl z5),⟨reg [],[cw (qR x (zD x.op) 1 qd 2 3 (some (0,l.length)) 6 l.length),zH (zD x.op) (u8 x.op) false,zaK zd,cr (zN p is nr (slV 5 127 (some w9))),zH (some (0,l.length)) (u8 l) false,slB zI (ii (qC p)) (some w9),zH (some (0,l.length)) (u8 m13) true]⟩,[0,1,2,3,4,5,11],[.agg #[iv 0,iv (k:Int),bv tk,zQ (some (0,l.length)) 6 l.length]],WkR.of (rs:= []) rfl rfl (by decide) trivial ⟨.inl (zau rfl rfl rfl rfl),⟨.inl (zF (zG _)),⟨.inl (congrArg some (zaO _).symm),⟨.inl (qF rfl),⟨.inl (zF (zG _)),⟨.inl (q8 (some w9) (fun _=>(zaf _ _))),⟨.inl (zF (zG _)),trivial⟩⟩⟩⟩⟩⟩⟩,(zS (zbn rfl) rfl),.inr ⟨k,by rw [hin],by omega,by rw [hin];rfl,by rw [e1]⟩⟩
   have h9': ¬(qE x.op (a7+4) 4≠0):=zgD h9
   refine qM (zA (zJ (zM (o_d 5 [(138,pv 0 14),(137,pv 0 0),(136,pv 0 0),(135,bv tk),(134,iv (k:Int))] (o_s (by refine zX (v:=zQ (some (0,l.length)) 10 l.length) rfl rfl ?_;exact rfl) ?_)))))
   refine o_b 2 [(140,.agg #[iv 0,iv (k:Int),bv tk,zQ (some (0,l.length)) 10 l.length])] [cw (qR x (zD x.op) 1 qd 2 3 (some (0,l.length)) 10 l.length),zH (zD x.op) (u8 x.op) false,zaK zd,cr (zN p is nr (slV 5 127 (some w9))),zH (some (0,l.length)) (u8 l) false,slB zI (ii (qC p)) (some w9),cw [iv 0,iv (k:Int),bv tk,zQ (some (0,l.length)) 10 l.length],cw (pl p),cw [iv x.fr,iv x.fp,iv (p 1),iv (p 2)],cw [iv (p (3+5*k)),iv (p (3+5*k+1)),iv (p (3+5*k+2)),iv (p (3+5*k+3)),iv (p (3+5*k+4))],zH (some (0,l.length)) (u8 m6) true] (zE (zA (qS ?_)))
   have e1:inL p nr x l k=m6:=by
    unfold inL
    simp only [ha7]
    rw [if_neg (by omega),←hba];exact hm6
   exact ⟨trivial,[.agg #[iv 0,iv (k:Int),bv tk,zQ (some (0,l.length)) 10 l.length]],(zaa rfl rfl rfl rfl),(zK rfl z5),⟨reg [],[cw (qR x (zD x.op) 1 qd 2 3 (some (0,l.length)) 6 l.length),zH (zD x.op) (u8 x.op) false,zaK zd,cr (zN p is nr (slV 5 127 (some w9))),zH (some (0,l.length)) (u8 l) false,slB zI (ii (qC p)) (some w9),zH (some (0,l.length)) (u8 m6) true]⟩,[0,1,2,3,4,5,10],[.agg #[iv 0,iv (k:Int),bv tk,zQ (some (0,l.length)) 6 l.length]],WkR.of (rs:= []) rfl rfl (by decide) trivial ⟨.inl (zau rfl rfl rfl rfl),⟨.inl (zF (zG _)),⟨.inl (congrArg some (zaO _).symm),⟨.inl (qF rfl),⟨.inl (zF (zG _)),⟨.inl (q8 (some w9) (fun _=>(zaf _ _))),⟨.inl (zF (zG _)),trivial⟩⟩⟩⟩⟩⟩⟩,(zS (zbn rfl) rfl),.inr ⟨k,by rw [hin],by omega,by rw [hin];rfl,by rw [e1]⟩⟩
  have h8': ¬(x.k=1):=zaM h8
  refine o_d 3 [(106,bv false),(105,undef),(104,undef)] (zE (zT [(106,bv false),(10,.int .u32 (qE x.op (a7+4) 4)),(8,iv (a7:Nat)),(6,bv tk),(5,iv (k:Int)),(2,pv 6 0),(0,pv 0 0)] (zbx rfl (qM (zA (zJ (zM (o_d 5 [(138,pv 0 14),(137,pv 0 0),(136,pv 0 0),(135,bv tk),(134,iv (k:Int))] (o_s (by refine zX (v:=zQ (some (0,l.length)) 10 l.length) rfl rfl ?_;exact rfl) ?_)))))))))
  refine o_b 2 [(140,.agg #[iv 0,iv (k:Int),bv tk,zQ (some (0,l.length)) 10 l.length])] [cw (qR x (zD x.op) 1 qd 2 3 (some (0,l.length)) 10 l.length),zH (zD x.op) (u8 x.op) false,zaK zd,cr (zN p is nr (slV 5 127 (some w9))),zH (some (0,l.length)) (u8 l) false,slB zI (ii (qC p)) (some w9),cw [iv 0,iv (k:Int),bv tk,zQ (some (0,l.length)) 10 l.length],cw (pl p),cw [iv x.fr,iv x.fp,iv (p 1),iv (p 2)],cw [iv (p (3+5*k)),iv (p (3+5*k+1)),iv (p (3+5*k+2)),iv (p (3+5*k+3)),iv (p (3+5*k+4))],zH (some (0,l.length)) (u8 m6) true] (zE (zA (qS ?_)))
  have e1:inL p nr x l k=m6:=by
   unfold inL
   simp only [ha7]
   rw [if_neg (by omega),←hba];exact hm6
  exact ⟨trivial,[.agg #[iv 0,iv (k:Int),bv tk,zQ (some (0,l.length)) 10 l.length]],(zaa rfl rfl rfl rfl),(zK rfl z5),⟨reg [],[cw (qR x (zD x.op) 1 qd 2 3 (some (0,l.length)) 6 l.length),zH (zD x.op) (u8 x.op) false,zaK zd,cr (zN p is nr (slV 5 127 (some w9))),zH (some (0,l.length)) (u8 l) false,slB zI (ii (qC p)) (some w9),zH (some (0,l.length)) (u8 m6) true]⟩,[0,1,2,3,4,5,10],[.agg #[iv 0,iv (k:Int),bv tk,zQ (some (0,l.length)) 6 l.length]],WkR.of (rs:= []) rfl rfl (by decide) trivial ⟨.inl (zau rfl rfl rfl rfl),⟨.inl (zF (zG _)),⟨.inl (congrArg some (zaO _).symm),⟨.inl (qF rfl),⟨.inl (zF (zG _)),⟨.inl (q8 (some w9) (fun _=>(zaf _ _))),⟨.inl (zF (zG _)),trivial⟩⟩⟩⟩⟩⟩⟩,(zS (zbn rfl) rfl),.inr ⟨k,by rw [hin],by omega,by rw [hin];rfl,by rw [e1]⟩⟩
theorem inW {P:Program} [PrC P] (p:q9) (is:Bool) (nr:zdS) (w9:Nat) (x:Pk) (qd:Option (Nat×Nat)) (zd:Bool) (l:List Int) (y:Pk) (hp:qW l=(0,y)) (hk:y.k=x.k) (hba:y.ba=x.ba) (h3:x.k≠3) (hop:x.op.length+24≤l.length) (H:PRng p) (hnr: ∀k,0≤(nr k).1∧(nr k).1 < 4294967296) (N:Nat) (hN:l.length=N):
  Env P "(*roundhouse/plane.packet).in" [pv 0 0] ([cw (qR x (zD x.op) 1 qd 2 3 (some (0,N)) 4 N),zH (zD x.op) (u8 x.op) false,zaK zd,cr (zN p is nr (slV 5 127 (some w9))),zH (some (0,N)) (u8 l) false,slB zI (ii (qC p)) (some w9)]) (fun v h'=>((inP p x).1 < 0∧v= .agg #[iv 9,iv (-1),bv false,.slice none 0 0]∧h'= [cw (qR x (zD x.op) 1 qd 2 3 (some (0,N)) 4 N),zH (zD x.op) (u8 x.op) false,zaK zd,cr (zN p is nr (slV 5 127 (some w9))),zH (some (0,N)) (u8 l) false,slB zI (ii (qC p)) (some w9)])∨(∃k:Nat,(inP p x).1=(k:Int)∧k < 64∧v= .agg #[iv 0,iv (k:Int),bv (inP p x).2,zQ (some (0,N)) 6 N]∧h'= [cw (qR x (zD x.op) 1 qd 2 3 (some (0,N)) 6 N),zH (zD x.op) (u8 x.op) false,zaK zd,cr (zN p is nr (slV 5 127 (some w9))),zH (some (0,N)) (u8 l) false,slB zI (ii (qC p)) (some w9),zH (some (0,N)) (u8 (inL p nr x l k)) true])):=by
 subst hN;exact inC4 p is nr w9 x qd zd l y hp hk hba h3 hop H hnr
end Go.Rh

namespace Go.Rh
theorem app_fit {h:Nat→Option Blk} {z:RL} {zl:List Value} {size bytes q n k r2 c nid:Nat} {cs xs:List Value} {vx:Value} (hzl:zl.length=size) (hk:h k=some (.cells (cs++zay zl (q+r2)) true)) (hcs:cs.length=n*size) (hq:zkC vx=some q) (hf1:first h size q vx=some xs) (hxl:xs.length=q*size):
  appE z size bytes (sv k 0 n (n+(q+r2))) vx h nid c=some (sv k 0 (n+q) (n+q+r2),if q=0 then .no else .set k (cw (cs++xs++zay zl r2))):=by
 have e1:first h size n (.slice (some ⟨k,0,none⟩) n (n+(q+r2)))=some cs:=by
  refine zbY hk ?_ ?_
  ·rw [List.drop_zero,←hcs,List.take_append_of_le_length (Nat.le_refl _),List.take_length]
  ·simp [hcs]
 simp only [appE,sv,hq]
 rw [e1,hf1]
 simp only
 rw [if_pos (by omega)]
 by_cases h0:q=0
 ·subst h0;simp
 ·rw [if_neg h0,if_neg h0,hk]
  simp only
  have hsz:(cs++zay zl (q+r2)).length=n*size+(q+r2)*size:=by simp [room_len,hzl,hcs]
  rw [if_pos (by rw [hsz,hxl,Nat.add_mul];omega)]
  have e2:splice (cs++zay zl (q+r2)) (0+n*size) xs=(cs++xs)++zay zl r2:=by
   rw [Nat.zero_add,←hcs];exact ziU (by rw [hzl];exact hxl)
  rw [e2,show n+(q+r2)=n+q+r2 by omega]
theorem set_same {h:List Blk} {k:Nat} {b:Blk} (hk:h[k]? =some b):h.set k b=h:=by
 refine List.ext_getElem? fun i=>?_
 rw [List.getElem?_set]
 split
 ·rename_i e;subst e;rw [if_pos (z4 hk),hk]
 ·rfl
section
variable {C:zae} {K:St→Prop} {L:List (Nat×Value)} {h h':List Blk} {z:RL} {zl:List Value} {size bytes q n k r r2 d:Nat} {cs xs cs2:List Value} {vx:Value} {s x:Opd} {rs:List ICell}
theorem o_appF (hzl:zl.length=size) (hs:evf (reg L) s=sv k 0 n (n+r)) (hr:r=q+r2) (hk:h[k]? =some (.cells (cs++zay zl r) true)) (hcs:cs.length=n*size) (hx:evf (reg L) x=vx) (hq:zkC vx=some q) (hf1:first (hf h) size q vx=some xs) (hxl:xs.length=q*size) (hc:cs++xs=cs2) (hh:h.set k (cw (cs2++zay zl r2))=h')
  (hK:GO C rs K ⟨reg ((d,sv k 0 (n+q) (n+q+r2))::L),h'⟩):GO C (⟨some d,.app z size bytes s x,none⟩::rs) K ⟨reg L,h⟩:=by
 subst hr;subst hc;subst hh
 refine ⟨?_⟩
 show zgk C (.app z size bytes s x) (reg L) h (fun v h=>zbt C rs K ⟨zat (reg L) (some d) v,h⟩)
 show appK z size bytes (evf (reg L) s) (evf (reg L) x) (fun v e=>zbt C rs K ⟨zat (reg L) (some d) v,e.on h⟩) (hf h) h.length
 rw [hs,hx]
 refine appK_of fun c=>⟨_,_,app_fit hzl (zak.2 ⟨hk,by simp⟩) hcs hq hf1 hxl, ?_⟩
 have:=hK.out
 by_cases h0:q=0
 ·subst h0
  have hx0:xs= []:=List.eq_nil_of_length_eq_zero (by simpa using hxl)
  subst hx0
  rw [if_pos rfl]
  rw [List.append_nil,set_same (by rw [hk,Nat.zero_add])] at this
  exact this
 ·rw [if_neg h0];exact this
end
theorem zfj (q:Option (Nat×Nat)) (k n:Nat) (hq:q=none→n=0):zkC (zQ q k n)=some n:=by
 cases q with
 | none=>rw [hq rfl];rfl
 | some p=>rfl
theorem ze7 {h:List Blk} {k:Nat} {q q0:Option (Nat×Nat)} {L l:List Int} {rw:Bool} (hk:h[k]? =some (zH q0 (u8 L) rw)) (hs:q.isSome=q0.isSome) (hr:RowOf q L l):first (hf h) 1 l.length (zQ q k l.length)=some (u8 l):=by
 cases q with
 | none=>have:=List.eq_nil_of_length_eq_zero (hr.nil rfl);subst this;rfl
 | some p=>
  obtain ⟨p0,rfl⟩: ∃p0,q0=some p0:=by cases q0 with | none=>cases hs | some p0=>exact ⟨p0,rfl⟩
  have h6:hf h k=some (.cells (u8 L) rw):=zak.2 ⟨hk,by simp⟩
  have h7:=hr.off (by simp)
  have h8:=hr.at_ (by simp)
  simp only [qo] at h7 h8
  simp only [zQ]
  refine zbY h6 ?_ (by rw [qV];omega)
  rw [Nat.mul_one]
  conv=>rhs;rw [←h8]
  simp [u8]
theorem u8R_set {l:List Int} {i r:Nat} {x w:Int} (hi:i < l.length) (hw:x % 256=w):splice (u8 l++zay zB r) i [.int .u8 w]=u8 (l.set i x)++zay zB r:=by
 rw [zen (by rw [qV];simp;omega),u8_set hi hw]
theorem run_mksR {d:Option Nat} {l c:Opd} {L:List (Nat×Value)} {hp:List Blk} {a n r:Nat} (hl:evf (reg L) l=iv (a:Nat)) (hc:evf (reg L) c=iv (n:Nat)) (hn:n=a+r) (hb:n≤1000000):
  zdf [⟨d,.mks [(1,(.int .u8 0))] 1 1 l c,none⟩] ⟨reg L,hp⟩=some ⟨zat (reg L) d (sv hp.length 0 a (a+r)),hp++ [cw (u8 (List.replicate a 0)++zay zB r)]⟩:=by
 subst hn
 refine zaV (e:= .push (cw (u8 (List.replicate a 0)++zay zB r))) (v:=sv hp.length 0 a (a+r)) rfl rfl ?_
 simp only [z6,hl,hc,iv]
 rw [if_pos ⟨by omega,by omega,by omega,by omega⟩]
 simp only [Int.toNat_natCast]
 rw [zhG,zeN,List.replicate_append_replicate,←u8_rep];rfl
def zcX (b:List Int):List Int:=
 (if b.getD 0 0 % 256=3 then [0,b.getD 0 0,((b.length:Int) - 16) / 256,(b.length:Int) - 16] else (b.drop 4).take 8++ [0,b.getD 0 0,((b.length:Int) - 16) / 256,(b.length:Int) - 16])++b.drop 16
def bldH (x:Pk) (n:Int):List Int:=
 zbs (zbs (zbs ((((List.replicate 16 (0:Int)).set 0 x.k).set 1 x.li).set 12 x.pi) 2 2 n) 4 4 x.fr) 8 4 x.t
def bldS (x:Pk) (n:Int):List Int:=zbs (bldH x n) 14 2 (65535 - zcc (bldH x n))
def bldB (x:Pk):List Int:=
 if x.k=3 then bldS x (20+(x.da.length:Nat))++ [x.co,0,0,0]++x.da
 else if x.k=2 then zbs (zbs (zbs (bldS x (24+(x.da.length:Nat))++List.replicate 8 0) 20 2 x.la) 16 2 x.fp) 18 2 x.tp++x.da
 else zbs (zbs (((bldS x (24+(x.da.length:Nat)+(x.op.length:Nat))++List.replicate 8 0++x.op).set 20 x.fl).set 21 (x.op.length:Nat)) 16 2 x.fp) 18 2 x.tp++x.da
def bldX (x:Pk):Int:=
 if x.k=2 then (if x.ba then 0 else if 65535 - zcc (zcX (bldB x))=0 then 65535 else 65535 - zcc (zcX (bldB x))) else 65535 - zcc (zcX (bldB x))
def bld (x:Pk):List Int:=zbs (bldB x) (zai x.k).toNat 2 (bldX x)
structure BOk (x:Pk):Prop where
  k:1≤x.k∧x.k≤3
  li:0≤x.li∧x.li≤255
  pi:0≤x.pi∧x.pi≤255
  fr:0≤x.fr∧x.fr≤4294967295
  t:0≤x.t∧x.t≤4294967295
  co:x.k=3→0≤x.co∧x.co≤255
  fp:x.k≠3→(0≤x.fp∧x.fp≤65535)∧(0≤x.tp∧x.tp≤65535)
  fl:x.k=1→0≤x.fl∧x.fl≤15
  la:x.k=2→0≤x.la∧x.la≤65535
  op:x.k=1→x.op.length≤40
  da:x.k=3→24≤x.da.length
  n:(x.k=1→24+x.da.length+x.op.length≤1500)∧(x.k=2→24+x.da.length≤1500)∧(x.k=3→20+x.da.length≤1500)
end Go.Rh

namespace Go.Rh
theorem zc1 {l m:List Int} {i:Nat} (h:i < l.length):(l++m).getD i 0=l.getD i 0:=by
 rw [List.getD_eq_getElem?_getD,List.getD_eq_getElem?_getD,List.getElem?_append_left h]
theorem zhK {l m:List Int} {a:Nat} : ∀k,(∀i,a≤i→i < a+k→l.getD i 0=m.getD i 0)→qE l a k=qE m a k
 | 0,_=>rfl
 | k+1,h=>by simp only [qE];rw [zhK k (fun i h1 h2=>h i h1 (by omega)),h (a+k) (by omega) (by omega)]
theorem zhf {l m:List Int} {a k:Nat} (h:a+k≤l.length):qE (l++m) a k=qE l a k:=zhK k fun i _ h2=>zc1 (by omega)
theorem getD_rep (n i:Nat):(List.replicate n (0:Int)).getD i 0=0:=by
 rw [List.getD_eq_getElem?_getD,List.getElem?_replicate];split<;>rfl
theorem zjz (x:Pk) (n:Int):(bldH x n).length=16:=by unfold bldH;simp only [zY,List.length_set,List.length_replicate]
theorem zbf (x:Pk) (n:Int):(bldS x n).length=16:=by unfold bldS;rw [zY,zjz]
structure HdOk (l:List Int) (x:Pk) (n:Int):Prop where
  b0:l.getD 0 0 % 256=x.k
  b1:l.getD 1 0 % 256=x.li
  b12:l.getD 12 0 % 256=x.pi
  b13:l.getD 13 0 % 256=0
  n2:qE l 2 2=n
  fr:qE l 4 4=x.fr
  t:qE l 8 4=x.t
  w:zhN l % 65535=0
theorem bldH_hd {x:Pk} {n:Int} (hk:1≤x.k∧x.k≤3) (hl:0≤x.li∧x.li≤255) (hp:0≤x.pi∧x.pi≤255) (hf:0≤x.fr∧x.fr≤4294967295) (ht:0≤x.t∧x.t≤4294967295) (hn:0≤n∧n < 65536):
  (bldH x n).getD 0 0 % 256=x.k∧(bldH x n).getD 1 0 % 256=x.li∧(bldH x n).getD 12 0 % 256=x.pi∧(bldH x n).getD 13 0 % 256=0∧qE (bldH x n) 2 2=n∧qE (bldH x n) 4 4=x.fr∧qE (bldH x n) 8 4=x.t∧qE (bldH x n) 14 2=0:=by
 unfold bldH
 have gp:=zbl
 refine ⟨?_, ?_, ?_, ?_, ?_, ?_, ?_, ?_⟩
 ·rw [gp _ _ _ _ _ (by omega),gp _ _ _ _ _ (by omega),gp _ _ _ _ _ (by omega),zav (by omega),zav (by omega),zbp (by simp)];omega
 ·rw [gp _ _ _ _ _ (by omega),gp _ _ _ _ _ (by omega),gp _ _ _ _ _ (by omega),zav (by omega),zbp (by simp)];omega
 ·rw [gp _ _ _ _ _ (by omega),gp _ _ _ _ _ (by omega),gp _ _ _ _ _ (by omega),zbp (by simp)];omega
 ·rw [gp _ _ _ _ _ (by omega),gp _ _ _ _ _ (by omega),gp _ _ _ _ _ (by omega),zav (by omega),zav (by omega),zav (by omega),getD_rep];rfl
 ·rw [qU _ (by omega),qU _ (by omega),zcr (by simp) (by omega)]
 ·rw [qU _ (by omega),numB_put4 (by simp only [zY];simp) (by omega)]
 ·rw [numB_put4 (by simp only [zY];simp) (by omega)]
 ·rw [qU _ (by omega),qU _ (by omega),qU _ (by omega),zf2 _ (by omega),zf2 _ (by omega),zf2 _ (by omega)]
  simp only [qE,getD_rep];rfl
theorem bldS_hd {x:Pk} {n:Int} (hk:1≤x.k∧x.k≤3) (hl:0≤x.li∧x.li≤255) (hp:0≤x.pi∧x.pi≤255) (hf:0≤x.fr∧x.fr≤4294967295) (ht:0≤x.t∧x.t≤4294967295) (hn:0≤n∧n < 65536):HdOk (bldS x n) x n:=by
 have h:=bldH_hd hk hl hp hf ht hn
 have hln:=zjz x n
 have ha:=zkL (bldH x n)
 have h8:=zjO (l:=bldH x n) (by omega) (zhg (by omega)) 8 (Nat.le_refl _)
 rw [List.take_of_length_le (by omega)] at h8
 have e:zcc (bldH x n)=zim (bldH x n) 8:=by unfold zcc;rw [hln]
 rw [←e] at h8
 unfold bldS
 have gp:=zbl
 refine ⟨?_, ?_, ?_, ?_, ?_, ?_, ?_, ?_⟩
 ·rw [gp _ _ _ _ _ (by omega)];exact h.1
 ·rw [gp _ _ _ _ _ (by omega)];exact h.2.1
 ·rw [gp _ _ _ _ _ (by omega)];exact h.2.2.1
 ·rw [gp _ _ _ _ _ (by omega)];exact h.2.2.2.1
 ·rw [qU _ (by omega)];exact h.2.2.2.2.1
 ·rw [qU _ (by omega)];exact h.2.2.2.2.2.1
 ·rw [qU _ (by omega)];exact h.2.2.2.2.2.2.1
 ·unfold zhN
  rw [qU _ (by omega),qU _ (by omega),qU _ (by omega),qU _ (by omega),qU _ (by omega),qU _ (by omega),qU _ (by omega),zcr (by omega) (by omega)]
  have h14:=h.2.2.2.2.2.2.2
  simp at h8
  omega
theorem HdOk.same {l m:List Int} {x:Pk} {n:Int} (h:HdOk l x n) (e: ∀i,i < 16→m.getD i 0=l.getD i 0):HdOk m x n:=by
 have c: ∀a k,a+k≤16→qE m a k=qE l a k:=fun a k q=>zhK k fun i _ h2=>e i (by omega)
 refine ⟨?_, ?_, ?_, ?_, ?_, ?_, ?_, ?_⟩
 ·rw [e 0 (by omega)];exact h.b0
 ·rw [e 1 (by omega)];exact h.b1
 ·rw [e 12 (by omega)];exact h.b12
 ·rw [e 13 (by omega)];exact h.b13
 ·rw [c _ _ (by omega)];exact h.n2
 ·rw [c _ _ (by omega)];exact h.fr
 ·rw [c _ _ (by omega)];exact h.t
 ·unfold zhN
  rw [c _ _ (by omega),c _ _ (by omega),c _ _ (by omega),c _ _ (by omega),c _ _ (by omega),c _ _ (by omega),c _ _ (by omega),c _ _ (by omega)]
  exact h.w
theorem bldX_r (x:Pk):0≤bldX x∧bldX x < 65536:=by
 have:=zkL (zcX (bldB x))
 unfold bldX;(repeat' split)<;>omega
theorem bldB_length (x:Pk):(bldB x).length=if x.k=3 then 20+x.da.length else if x.k=2 then 24+x.da.length else 24+x.op.length+x.da.length:=by
 unfold bldB
 split
 ·simp only [List.length_append,zbf,List.length_cons,List.length_nil]
 split
 ·simp only [List.length_append,zY,zbf,List.length_replicate]
 ·simp only [List.length_append,zY,List.length_set,zbf,List.length_replicate]
theorem zh7 (x:Pk):(bld x).length=if x.k=3 then 20+x.da.length else if x.k=2 then 24+x.da.length else 24+x.op.length+x.da.length:=by
 unfold bld;rw [zY,bldB_length]
theorem bld_hd {x:Pk} (B:BOk x):HdOk (bld x) x ((bld x).length:Int):=by
 have hn:=B.n
 rw [zh7]
 have gp:=zbl
 have hX: ∀i,i < 16→(bld x).getD i 0=(bldB x).getD i 0:=fun i hi=>by
  unfold bld;rw [gp _ _ _ _ _ (by rw [zje];split<;>omega)]
 by_cases h3:x.k=3
 ·rw [if_pos h3]
  refine (bldS_hd B.k B.li B.pi B.fr B.t (n:=20+(x.da.length:Nat)) (by omega)).same fun i hi=>?_
  rw [hX i hi];unfold bldB;rw [if_pos h3,zc1 (by simp [zbf];omega),zc1 (by rw [zbf];omega)]
 ·rw [if_neg h3]
  by_cases h2:x.k=2
  ·rw [if_pos h2]
   refine (bldS_hd B.k B.li B.pi B.fr B.t (n:=24+(x.da.length:Nat)) (by omega)).same fun i hi=>?_
   rw [hX i hi];unfold bldB
   rw [if_neg h3,if_pos h2,zc1 (by simp only [zY,List.length_append,zbf];omega),gp _ _ _ _ _ (by omega),gp _ _ _ _ _ (by omega),gp _ _ _ _ _ (by omega),zc1 (by rw [zbf];omega)]
  ·rw [if_neg h2]
   have h1:x.k=1:=by have:=B.k;omega
   have:=hn.1 h1
   rw [show ((24+x.op.length+x.da.length:Nat):Int)=24+(x.da.length:Nat)+(x.op.length:Nat) by omega]
   refine (bldS_hd B.k B.li B.pi B.fr B.t (n:=24+(x.da.length:Nat)+(x.op.length:Nat)) (by omega)).same fun i hi=>?_
   rw [hX i hi];unfold bldB
   rw [if_neg h3,if_neg h2,zc1 (by simp only [zY,List.length_set,List.length_append,zbf];omega),gp _ _ _ _ _ (by omega),gp _ _ _ _ _ (by omega),zav (by omega),zav (by omega),zc1 (by simp only [List.length_append,zbf];omega),zc1 (by rw [zbf];omega)]
theorem parse_bld2 {x:Pk} (B:BOk x) (h2:x.k=2) (hfl:x.fl=0) (hco:x.co=0) (hop:x.op= []):qW (bld x)=(0,x):=by
 have H:=bld_hd B
 have hl:=zh7 x
 rw [if_neg (by omega),if_pos h2] at hl
 have hn:=B.n.2.1 h2;have hla:=B.la h2;have hf:=B.fp (by omega)
 have hX:=bldX_r x
 have hp:(zai x.k).toNat=22:=by rw [zje,if_neg (by omega)]
 have hY:bldB x=zbs (zbs (zbs (bldS x (24+(x.da.length:Nat))++List.replicate 8 0) 20 2 x.la) 16 2 x.fp) 18 2 x.tp++x.da:=by unfold bldB;rw [if_neg (by omega),if_pos h2]
 have hYl:(zbs (zbs (zbs (bldS x (24+(x.da.length:Nat))++List.replicate 8 0) 20 2 x.la) 16 2 x.fp) 18 2 x.tp).length=24:=by
  simp only [zY,List.length_append,zbf,List.length_replicate]
 have hb:bld x=zbs (zbs (zbs (zbs (bldS x (24+(x.da.length:Nat))++List.replicate 8 0) 20 2 x.la) 16 2 x.fp) 18 2 x.tp) 22 2 (bldX x)++x.da:=by
  unfold bld;rw [hp,hY,putB_app _ _ _ _ _ (by omega)]
 have P:PkB (bld x):=⟨by omega,by rw [H.b0];omega,by rw [H.n2],H.b13,H.w,fun q=>by rw [H.b0] at q;omega,fun q=>by rw [H.b0] at q;omega⟩
 rw [P.parse]
 have hlY:=hYl
 simp only [zY] at hlY
 unfold zfe
 rw [if_neg (by rw [H.b0];omega),if_pos (by rw [H.b0];omega),H.b0,H.b1,H.b12,H.fr,H.t]
 have e16:qE (bld x) 16 2=x.fp:=by
  rw [hb,zhf (by simp only [zY];omega),qU _ (by omega),qU _ (by omega),zcr (by simp only [zY];omega) (by omega)]
 have e18:qE (bld x) 18 2=x.tp:=by
  rw [hb,zhf (by simp only [zY];omega),qU _ (by omega),zcr (by simp only [zY];omega) (by omega)]
 have e20:qE (bld x) 20 2=x.la:=by
  rw [hb,zhf (by simp only [zY];omega),qU _ (by omega),qU _ (by omega),qU _ (by omega),zcr (by omega) (by omega)]
 have e22:qE (bld x) 22 2=bldX x:=by
  rw [hb,zhf (by simp only [zY];omega),zcr (by simp only [zY];omega) (by omega)]
 have ed:(bld x).drop 24=x.da:=by
  rw [hb,List.drop_left' (by simp only [zY];omega)]
 have eb:(bldX x==0)=x.ba:=by
  unfold bldX;rw [if_pos h2]
  cases hba:x.ba
  ·rw [if_neg (by simp)]
   split
   ·rfl
   ·rw [beq_eq_false_iff_ne];assumption
  ·rw [if_pos rfl];rfl
 rw [e16,e18,e20,e22,ed,eb]
 obtain ⟨k,li,pi,fr,t,fp,tp,fl,la,ba,co,op,da⟩:=x
 subst hfl hco hop;rfl
end Go.Rh

namespace Go.Rh
theorem cook_parts {E X T t:Int} (hE:0≤E∧E < 4) (hX:0≤X∧X < 64) (hT:T=256∨T=4096) (ht:0≤t∧t < T):
  let c:=(E*64+X)*T+t
  ¬(c < 0∨256*T≤c)∧c / (64*T)=E∧c / T % 64=X∧c % T=t:=by
 intro c
 rcases hT with rfl | rfl<;>(simp only [c];omega)
theorem read_by {r r':Rg} {k:Int} {f:Fl} {s:Int} (hs:0≤s∧s < 64) (hk:keyS r' (r.e % 4)=some (r.ca,r.cb)):zfc r' k f (zac r k f s)=some s:=by
 have hX:=xoN_r hs (ze0 r.ca r.cb k f (r.e % 4))
 have ht:=tagS_r r.ca r.cb k f s (r.e % 4)
 obtain ⟨h1,h2,h3,h4⟩:=cook_parts (E:=r.e % 4) (by omega) hX (TB_r k) ht
 unfold zfc zac
 rw [if_neg h1,h2,hk,Option.bind_some]
 unfold readT
 rw [h2,h3,h4]
 simp only [xoN_2 hs.1,if_true]
theorem read_cook {r:Rg} {k:Int} {f:Fl} {s:Int} (hs:0≤s∧s < 64):zfc r k f (zac r k f s)=some s:=
 read_by hs (by unfold keyS atS;rw [if_neg (by omega),if_pos (by omega)])
theorem take_known {p:q9} {nr:zdS} {l:List Int} {x:Pk} (hp:qW l=(0,x)) (hpi:x.pi=0) (hli:2≤x.li):zaB p nr l=go9S p nr x (ageL l x.ba):=by
 unfold zaB;rw [hp,if_neg (by simp),if_neg (by simpa using hpi),if_neg (by show¬x.li < 2;omega)]
theorem take_in {p:q9} {nr:zdS} {l:List Int} {x:Pk} (hp:qW l=(0,x)) (hpi:x.pi=0) (hli:2≤x.li) (hk:x.k≠3) (ht:x.t=p 1∧x.tp=p 2):
  zaB p nr l=(if (inP p x).1 < 0 then zex 9 else ⟨0,(inP p x).1,(inP p x).2,inL p nr x (ageL l x.ba) (inP p x).1.toNat⟩,nr):=by
 rw [take_known hp hpi hli];unfold go9S;rw [if_neg hk,if_pos ht]
theorem inP_some {p:q9} {x:Pk} {s:Int} (h:zhp p x (inF p x)=some s) (ht: [1,2,3].contains (p (3+5*s.toNat))=true):inP p x=(s,true):=by
 unfold inP;rw [h];simp only;rw [if_pos ht]
theorem inP_bad {p:q9} {x:Pk} {s:Int} (h:zhp p x (inF p x)=some s) (ht: [1,2,3].contains (p (3+5*s.toNat))=false):inP p x=(zdi (qC p) (inF p x),false):=by
 unfold inP;rw [h];simp only;rw [if_neg (by rw [ht];simp)]
theorem inP_none {p:q9} {x:Pk} (h:zhp p x (inF p x)=none):inP p x=(zdi (qC p) (inF p x),false):=by
 unfold inP;rw [h]
theorem drain_ok {c:q9} {s:Int} (hs:0≤s∧s < 64) (h:c (3+5*s.toNat)=2):(qD c ⟨3,s,0,0,0,0,0⟩).2=0:=by
 have hc:za0 ⟨3,s,0,0,0,0,0⟩=0:=by unfold za0;simp;omega
 rw [apply_snd];simp [zel,hc,zbK,zcl,h]
theorem shut_ok {c:q9} {s:Int} (hs:0≤s∧s < 64) (h:c (3+5*s.toNat)=1∨c (3+5*s.toNat)=3):(qD c ⟨4,s,0,0,0,0,0⟩).2=0:=by
 have hc:za0 ⟨4,s,0,0,0,0,0⟩=0:=by unfold za0;simp;omega
 rw [apply_snd];rcases h with h | h<;>simp [zel,hc,zbK,zcl,h]
theorem apply_st {c:q9} {e:Ent} (h:(qD c e).2=0) (hk:2≤e.k∧e.k≤4):(qD c e).1 (3+5*e.s.toNat)=e.k:=by
 obtain ⟨h1,hc,_,_⟩:=ziC h
 obtain ⟨x0,x1,x2,x3,x4,hd,_,_,hx⟩:=zix c e (by omega)
 rw [h1,hd,ss0,if_pos rfl,(hx (by omega) (by omega)).1]
theorem rgP_eq {p q:q9} (h: ∀i,323≤i→q i=p i):rgP q=rgP p:=by
 unfold rgP;rw [h 323 (by omega),h 324 (by omega),h 325 (by omega),h 326 (by omega),h 327 (by omega),h 328 (by omega),h 329 (by omega)]
def pkG (fr fp t tp la:Int):Pk:=⟨2,5,0,fr,t,fp,tp,0,la,false,0,[],[]⟩
theorem pkG_ok {fr fp t tp la:Int} (h1:0≤fr∧fr≤4294967295) (h2:0≤fp∧fp≤65535) (h3:0≤t∧t≤4294967295) (h4:0≤tp∧tp≤65535) (h5:0≤la∧la≤65535):BOk (pkG fr fp t tp la):=by
 constructor<;>simp [pkG]<;>omega
theorem zjf {fr fp t tp la:Int} (B:BOk (pkG fr fp t tp la)):qW (bld (pkG fr fp t tp la))=(0,pkG fr fp t tp la):=parse_bld2 B rfl rfl rfl rfl
theorem zff (fr fp t tp la:Int):(bld (pkG fr fp t tp la)).length=24:=by rw [zh7];simp [pkG]
theorem take_gram {q:q9} {nr:zdS} {fp:Int} {s:Int} {r:Rg} (hq1:q 1=10) (hq2:q 2=80) (hf:0≤fp∧fp≤65535) (hs:0≤s∧s < 64) (hr:rgP q=r):
  let c:=zac r 2 ⟨4000,fp,10,80⟩ s
  let T:=zaB q nr (bld (pkG 4000 fp 10 80 c))
  (c=0∨ [1,2,3].contains (q (3+5*s.toNat))=false→T.1.c=false∧(T.1.s= -1∨∃k:Nat,k < 64∧T.1.s=(k:Int)∧q (3+5*k)=2))∧
  (c≠0→ [1,2,3].contains (q (3+5*s.toNat))=true→T.1.e=0∧T.1.c=true∧T.1.s=s):=by
 intro c T
 have hc:=cookS_r r 2 ⟨4000,fp,10,80⟩ hs
 have hT2:TB 2=256:=rfl
 rw [hT2] at hc
 have B:BOk (pkG 4000 fp 10 80 c):=pkG_ok (by omega) (by omega) (by omega) (by omega) (by simp only [c];omega)
 have hT:T=_:=take_in (zjf B) rfl (by simp [pkG]) (by simp [pkG]) ⟨hq1.symm,hq2.symm⟩
 have hF:inF q (pkG 4000 fp 10 80 c)=⟨4000,fp,10,80⟩:=by simp only [inF,pkG,hq1,hq2]
 have hcar:c≠0→zhp q (pkG 4000 fp 10 80 c) (inF q (pkG 4000 fp 10 80 c))=some s:=fun h0=>by
  rw [hF];unfold zhp;rw [if_pos (show (pkG 4000 fp 10 80 c).k=2 from rfl),if_neg (show¬(pkG 4000 fp 10 80 c).la=0 from h0),hr];exact read_cook hs
 have hpick:inP q (pkG 4000 fp 10 80 c)=(zdi (qC q) (inF q (pkG 4000 fp 10 80 c)),false)→T.1.c=false∧(T.1.s= -1∨∃k:Nat,k < 64∧T.1.s=(k:Int)∧q (3+5*k)=2):=fun hi=>by
  rw [hT,hi]
  have hw:=pick_r q (inF q (pkG 4000 fp 10 80 c))
  by_cases hn:zdi (qC q) (inF q (pkG 4000 fp 10 80 c)) < 0
  ·simp only [if_pos hn];exact ⟨rfl,.inl rfl⟩
  ·simp only [if_neg hn]
   refine ⟨trivial, ?_⟩
   rcases hw with h | ⟨k,h1,h2,h3⟩
   ·omega
   ·exact .inr ⟨k,h1,h2,h3⟩
 refine ⟨fun h=>?_,fun h0 h=>?_⟩
 ·by_cases h0:c=0
  ·refine hpick (inP_none ?_)
   unfold zhp;rw [if_pos (show (pkG 4000 fp 10 80 c).k=2 from rfl),if_pos (show (pkG 4000 fp 10 80 c).la=0 from h0)]
  ·exact hpick (inP_bad (hcar h0) (h.resolve_left h0))
 ·have hi:=inP_some (hcar h0) h
  rw [hT,hi]
  simp only [if_neg (show¬s < 0 by omega)]
  exact ⟨trivial,trivial,trivial⟩
end Go.Rh

set_option maxHeartbeats 1000000
namespace Go.Rh
theorem r5fourC {P:Program} [PrC P] (e:Int):
    Env P "roundhouse/roundhouseref5.four" [iv e] ([]) (Ans (iv (e % 4)) ([])):=by
 refine Env.by PrC.ref5_four ?_
 unfold zgL
 show GC _ 0 _ _ ⟨reg [(0,iv e)],[]⟩
 refine zJ (zM (o_d 1 [(2,iv 0)] (zE (zA (zJ (zM (o_d 1 [(3,iv e)] (o_s (by refine zL (congrArg (Value.int .i64) (zcE (k:= .i64) 2 (M:=3) (R:=4) (x:=e) (by decide) rfl rfl)) ?_;kernel_rfl) ?_))))))))
 refine o_d 1 [(2,iv (e % 4))] (zE (zA (qS ?_)))
 have E0_:e % 4=e % 4:=by
  rfl
 exact z7 [iv (e % 4)] (zR rfl rfl) rfl (by rw [E0_];rfl) rfl rfl
theorem r5b12C {P:Program} [PrC P] (k:Int) (h:k=1):
    Env P "roundhouse/roundhouseref5.bits" [iv k] ([]) (Ans (uv 12) ([])):=by
 refine Env.by PrC.ref5_bits ?_
 unfold zez
 show GC _ 0 _ _ ⟨reg [(0,iv k)],[]⟩
 refine zJ (zM (o_d 1 [(2,uv 0)] (zE (zA (zJ (zJ (zM (o_d 2 [(4,bv (k==1)),(3,iv k)] (zE (zA (qK (t:=k==1) rfl (fun _=>?_) (fun q=>by rw [(by simp [h]:(k==1)=true)] at q;cases q))))))))))))
 exact zJ (zM (o_d 1 [(2,uv 12)] (zE (zA (qS (z7 [uv 12] (zR rfl rfl) rfl (by rfl) rfl rfl))))))
theorem r5b8C {P:Program} [PrC P] (k:Int) (h: ¬k=1):
    Env P "roundhouse/roundhouseref5.bits" [iv k] ([]) (Ans (uv 8) ([])):=by
 refine Env.by PrC.ref5_bits ?_
 unfold zez
 show GC _ 0 _ _ ⟨reg [(0,iv k)],[]⟩
 refine zJ (zM (o_d 1 [(2,uv 0)] (zE (zA (zJ (zJ (zM (o_d 2 [(4,bv (k==1)),(3,iv k)] (zE (zA (qK (t:=k==1) rfl (fun q=>by rw [(by simp [h]:(k==1)=false)] at q;cases q) (fun _=>?_))))))))))))
 exact qM (zA (zJ (zM (o_d 1 [(2,uv 8)] (zE (zA (qS (z7 [uv 8] (zR rfl rfl) rfl (by rfl) rfl rfl))))))))
theorem r5wordC {P:Program} [PrC P] (ka kb k:Int) (f:Fl) (a b:Int):
    Env P "roundhouse/roundhouseref5.word" [.agg #[uv ka,uv kb],iv k,.agg #[iv f.a,iv f.p,iv f.ta,iv f.tp],iv a,iv b] ([]) (Ans (uv (zaI ka kb k f a b)) ([])):=by
 refine Env.by PrC.ref5_word ?_
 unfold zgK
 show GC _ 0 _ _ ⟨reg [(0,.agg #[uv ka,uv kb]),(1,iv k),(2,.agg #[iv f.a,iv f.p,iv f.ta,iv f.tp]),(3,iv a),(4,iv b)],[]⟩
 refine zJ (zM (o_b 3 [(10,uv 0),(7,pv 1 0),(5,pv 0 0)] [cw [uv ka,uv kb],cw [iv f.a,iv f.p,iv f.ta,iv f.tp]] (zE (zA (zJ (zM (o_b 13 [(23,sv 2 0 7 7),(22,iv b),(21,iv a),(20,iv f.tp),(19,pv 1 3),(18,iv f.ta),(17,pv 1 2),(16,iv f.p),(15,pv 1 1),(14,iv f.a),(13,pv 1 0),(12,iv k),(11,.agg #[uv ka,uv kb])] [cw [uv ka,uv kb],cw [iv f.a,iv f.p,iv f.ta,iv f.tp],cw [iv k,iv f.a,iv f.p,iv f.ta,iv f.tp,iv a,iv b]] (qT (zfp (a1:= [.agg #[uv ka,uv kb],sv 0 0 7 7]) [2] [ii [k,f.a,f.p,f.ta,f.tp,a,b]] (refWordsC ka kb [k,f.a,f.p,f.ta,f.tp,a,b] (by first | omega | decide | (simp;done))) rfl (fun _=>zS (qQ rfl) (zS rfl rfl)) ⟨⟨_,rfl⟩,zan _,trivial⟩ rfl ?_)))))))))
 refine o_d 1 [(10,uv (zbv ka kb [k,f.a,f.p,f.ta,f.tp,a,b]))] (zE (zT [(10,uv (zbv ka kb [k,f.a,f.p,f.ta,f.tp,a,b]))] (qS ?_)))
 have E0_:zaI ka kb k f a b=zbv ka kb [k,f.a,f.p,f.ta,f.tp,a,b]:=by
  rfl
 exact z7 [uv (zbv ka kb [k,f.a,f.p,f.ta,f.tp,a,b])] (zR rfl rfl) rfl (by rw [E0_];rfl) rfl rfl
theorem r5cookC {P:Program} [PrC P] (ka kb k:Int) (f:Fl) (s e:Int) (hk:k=1∨k=2) (hs:0≤s∧s < 64) (he:0≤e∧e < 4):
    Env P "roundhouse/roundhouseref5.cook" [.agg #[uv ka,uv kb],iv k,.agg #[iv f.a,iv f.p,iv f.ta,iv f.tp],iv s,iv e] ([]) (Ans (iv ((e*64+xoN s (zaJ ka kb k f e))*TB k+zej ka kb k f s e)) ([])):=by
 refine Env.by PrC.ref5_cook ?_
 unfold zgM
 show GC _ 0 _ _ ⟨reg [(0,.agg #[uv ka,uv kb]),(1,iv k),(2,.agg #[iv f.a,iv f.p,iv f.ta,iv f.tp]),(3,iv s),(4,iv e)],[]⟩
 have hx9:0≤xoN s (zaI ka kb k f 64 e % 64)∧xoN s (zaI ka kb k f 64 e % 64) < 64:=xoN_r hs (ze0 ka kb k f e)
 refine zJ (zM (o_b 3 [(10,iv 0),(7,pv 1 0),(5,pv 0 0)] [cw [uv ka,uv kb],cw [iv f.a,iv f.p,iv f.ta,iv f.tp]] (zE (zA (zJ (zM (o_d 1 [(13,iv k)] ?_)))))))
 rcases Decidable.em (k=1) with t1 | t1
 ·skip
  have t1b:TB k=4096:=if_neg (by omega)
  refine qT (zag (r5b12C k t1) rfl rfl rfl (o_d 1 [(11,uv 12)] (zE (zA (zJ (zM (o_d 5 [(19,iv e),(18,.agg #[iv f.a,iv f.p,iv f.ta,iv f.tp]),(17,iv k),(16,.agg #[uv ka,uv kb]),(15,iv s)] (qT (zag (r5wordC ka kb k f 64 e) rfl rfl rfl (o_s (by refine zL (congrArg (Value.int .u64) (zcE (k:= .u64) 6 (M:=63) (R:=64) (x:=zaI ka kb k f 64 e) (by decide) rfl rfl)) ?_;kernel_rfl) ?_))))))))))
  refine o_s (by refine zL (v:= .int .i64 (i64.wrap ((zaI ka kb k f 64 e) % 64))) (congrArg (Value.int .i64) (w64 (by omega) (by omega))) ?_;kernel_rfl) ?_
  refine o_s (by refine zL (congrArg (Value.int .i64) (ziE (a:=s) (b:=(zaI ka kb k f 64 e) % 64) (by omega) (by omega))) ?_;kernel_rfl) ?_
  refine o_d 1 [(12,iv (xoN s ((zaI ka kb k f 64 e) % 64)))] (zE (zA (zJ (zM (o_d 3 [(26,uv 18),(25,uv 12),(24,iv e)] (o_s (by refine zL (v:= .int .i64 (i64.wrap (e*262144))) (congrArg (Value.int .i64) (w64 (by omega) (by omega))) ?_;kernel_rfl) ?_))))))
  refine o_d 2 [(29,uv 12),(28,iv (xoN s ((zaI ka kb k f 64 e) % 64)))] (o_s (by refine zL (v:= .int .i64 (i64.wrap ((xoN s ((zaI ka kb k f 64 e) % 64))*4096))) (congrArg (Value.int .i64) (w64 (by omega) (by omega))) ?_;kernel_rfl) ?_)
  refine o_s (by refine zL (congrArg (Value.int .i64) (zeR (k:= .i64) 18 (R:=262144) (x:=e*262144) (y:=(xoN s ((zaI ka kb k f 64 e) % 64))*4096) rfl (by omega) (by omega) (by rw [show (2:Int)^IntKind.i64.bits=18446744073709551616 from rfl];omega) (w64 (by omega) (by omega)))) ?_;kernel_rfl) ?_
  refine o_d 5 [(36,iv e),(35,iv s),(34,.agg #[iv f.a,iv f.p,iv f.ta,iv f.tp]),(33,iv k),(32,.agg #[uv ka,uv kb])] (qT (zag (r5wordC ka kb k f s e) rfl rfl rfl (o_d 3 [(40,uv 4095),(39,uv 4096),(38,uv 12)] (o_s (by refine zL (congrArg (Value.int .u64) (zcE (k:= .u64) 12 (M:=4095) (R:=4096) (x:=zaI ka kb k f s e) (by decide) rfl rfl)) ?_;kernel_rfl) ?_))))
  refine o_s (by refine zL (v:= .int .i64 (i64.wrap ((zaI ka kb k f s e) % 4096))) (congrArg (Value.int .i64) (w64 (by omega) (by omega))) ?_;kernel_rfl) ?_
  refine o_s (by refine zL (congrArg (Value.int .i64) (zeR (k:= .i64) 12 (R:=4096) (x:=e*262144+(xoN s ((zaI ka kb k f 64 e) % 64))*4096) (y:=(zaI ka kb k f s e) % 4096) rfl (by omega) (by omega) (by rw [show (2:Int)^IntKind.i64.bits=18446744073709551616 from rfl];omega) (w64 (by omega) (by omega)))) ?_;kernel_rfl) ?_
  refine o_d 1 [(10,iv (e*262144+(xoN s ((zaI ka kb k f 64 e) % 64))*4096+(zaI ka kb k f s e) % 4096))] (zE (zT [(10,iv (e*262144+(xoN s ((zaI ka kb k f 64 e) % 64))*4096+(zaI ka kb k f s e) % 4096))] (qS ?_)))
  have E0_:(e*64+xoN s (zaJ ka kb k f e))*TB k+zej ka kb k f s e=e*262144+(xoN s ((zaI ka kb k f 64 e) % 64))*4096+(zaI ka kb k f s e) % 4096:=by
   unfold zej zaJ;rw [t1b];omega
  exact z7 [iv (e*262144+(xoN s ((zaI ka kb k f 64 e) % 64))*4096+(zaI ka kb k f s e) % 4096)] (zR rfl rfl) rfl (by rw [E0_];rfl) rfl rfl
 ·skip
  have t1b:TB k=256:=if_pos (by omega)
  refine qT (zag (r5b8C k t1) rfl rfl rfl (o_d 1 [(11,uv 8)] (zE (zA (zJ (zM (o_d 5 [(19,iv e),(18,.agg #[iv f.a,iv f.p,iv f.ta,iv f.tp]),(17,iv k),(16,.agg #[uv ka,uv kb]),(15,iv s)] (qT (zag (r5wordC ka kb k f 64 e) rfl rfl rfl (o_s (by refine zL (congrArg (Value.int .u64) (zcE (k:= .u64) 6 (M:=63) (R:=64) (x:=zaI ka kb k f 64 e) (by decide) rfl rfl)) ?_;kernel_rfl) ?_))))))))))
  refine o_s (by refine zL (v:= .int .i64 (i64.wrap ((zaI ka kb k f 64 e) % 64))) (congrArg (Value.int .i64) (w64 (by omega) (by omega))) ?_;kernel_rfl) ?_
  refine o_s (by refine zL (congrArg (Value.int .i64) (ziE (a:=s) (b:=(zaI ka kb k f 64 e) % 64) (by omega) (by omega))) ?_;kernel_rfl) ?_
  refine o_d 1 [(12,iv (xoN s ((zaI ka kb k f 64 e) % 64)))] (zE (zA (zJ (zM (o_d 3 [(26,uv 14),(25,uv 8),(24,iv e)] (o_s (by refine zL (v:= .int .i64 (i64.wrap (e*16384))) (congrArg (Value.int .i64) (w64 (by omega) (by omega))) ?_;kernel_rfl) ?_))))))
  refine o_d 2 [(29,uv 8),(28,iv (xoN s ((zaI ka kb k f 64 e) % 64)))] (o_s (by refine zL (v:= .int .i64 (i64.wrap ((xoN s ((zaI ka kb k f 64 e) % 64))*256))) (congrArg (Value.int .i64) (w64 (by omega) (by omega))) ?_;kernel_rfl) ?_)
  refine o_s (by refine zL (congrArg (Value.int .i64) (zeR (k:= .i64) 14 (R:=16384) (x:=e*16384) (y:=(xoN s ((zaI ka kb k f 64 e) % 64))*256) rfl (by omega) (by omega) (by rw [show (2:Int)^IntKind.i64.bits=18446744073709551616 from rfl];omega) (w64 (by omega) (by omega)))) ?_;kernel_rfl) ?_
  refine o_d 5 [(36,iv e),(35,iv s),(34,.agg #[iv f.a,iv f.p,iv f.ta,iv f.tp]),(33,iv k),(32,.agg #[uv ka,uv kb])] (qT (zag (r5wordC ka kb k f s e) rfl rfl rfl (o_d 3 [(40,uv 255),(39,uv 256),(38,uv 8)] (o_s (by refine zL (congrArg (Value.int .u64) (zcE (k:= .u64) 8 (M:=255) (R:=256) (x:=zaI ka kb k f s e) (by decide) rfl rfl)) ?_;kernel_rfl) ?_))))
  refine o_s (by refine zL (v:= .int .i64 (i64.wrap ((zaI ka kb k f s e) % 256))) (congrArg (Value.int .i64) (w64 (by omega) (by omega))) ?_;kernel_rfl) ?_
  refine o_s (by refine zL (congrArg (Value.int .i64) (zeR (k:= .i64) 8 (R:=256) (x:=e*16384+(xoN s ((zaI ka kb k f 64 e) % 64))*256) (y:=(zaI ka kb k f s e) % 256) rfl (by omega) (by omega) (by rw [show (2:Int)^IntKind.i64.bits=18446744073709551616 from rfl];omega) (w64 (by omega) (by omega)))) ?_;kernel_rfl) ?_
  refine o_d 1 [(10,iv (e*16384+(xoN s ((zaI ka kb k f 64 e) % 64))*256+(zaI ka kb k f s e) % 256))] (zE (zT [(10,iv (e*16384+(xoN s ((zaI ka kb k f 64 e) % 64))*256+(zaI ka kb k f s e) % 256))] (qS ?_)))
  have E0_:(e*64+xoN s (zaJ ka kb k f e))*TB k+zej ka kb k f s e=e*16384+(xoN s ((zaI ka kb k f 64 e) % 64))*256+(zaI ka kb k f s e) % 256:=by
   unfold zej zaJ;rw [t1b];omega
  exact z7 [iv (e*16384+(xoN s ((zaI ka kb k f 64 e) % 64))*256+(zaI ka kb k f s e) % 256)] (zR rfl rfl) rfl (by rw [E0_];rfl) rfl rfl
theorem r5MakeC {P:Program} [PrC P] (r:Rg) (k:Int) (f:Fl) (s:Int) (hk:k=1∨k=2) (hs:0≤s∧s < 64):
    Env P "roundhouse/roundhouseref5.Make" [.agg #[iv r.e,uv r.pa,uv r.pb,uv r.ca,uv r.cb,uv r.na,uv r.nb],iv k,.agg #[iv f.a,iv f.p,iv f.ta,iv f.tp],iv s] ([]) (Ans (iv (zac r k f s)) ([])):=by
 refine Env.by PrC.ref5_Make ?_
 unfold zgP
 show GC _ 0 _ _ ⟨reg [(0,.agg #[iv r.e,uv r.pa,uv r.pb,uv r.ca,uv r.cb,uv r.na,uv r.nb]),(1,iv k),(2,.agg #[iv f.a,iv f.p,iv f.ta,iv f.tp]),(3,iv s)],[]⟩
 refine zJ (zM (o_b 3 [(8,iv 0),(6,pv 1 0),(4,pv 0 0)] [cw [iv r.e,uv r.pa,uv r.pb,uv r.ca,uv r.cb,uv r.na,uv r.nb],cw [iv f.a,iv f.p,iv f.ta,iv f.tp]] (zE (zA (zJ (zbe [] (r_d 7 [(15,iv r.e),(14,pv 0 0),(13,iv s),(12,.agg #[iv f.a,iv f.p,iv f.ta,iv f.tp]),(11,iv k),(10,.agg #[uv r.ca,uv r.cb]),(9,pv 0 3)] (zeV (zbg (r5fourC r.e) rfl rfl rfl (zeV (zbg (r5cookC r.ca r.cb k f s (r.e % 4) hk hs (by omega)) rfl rfl rfl ?_)))))))))))
 refine r_d 1 [(8,iv ((r.e % 4*64+xoN s (zaJ r.ca r.cb k f (r.e % 4)))*TB k+zej r.ca r.cb k f s (r.e % 4)))] (za1 (zA (qS ?_)))
 have E0_:zac r k f s=(r.e % 4*64+xoN s (zaJ r.ca r.cb k f (r.e % 4)))*TB k+zej r.ca r.cb k f s (r.e % 4):=by
  rfl
 exact z7 [iv ((r.e % 4*64+xoN s (zaJ r.ca r.cb k f (r.e % 4)))*TB k+zej r.ca r.cb k f s (r.e % 4))] (zR rfl rfl) rfl (by rw [E0_];rfl) rfl rfl
theorem within9C {P:Program} [PrC P] (x n:Int) (hn:n≠0):
    Env P "roundhouse/roundhouselaw9.within" [iv x,iv n] ([]) (Ans (.int .i64 (zC x n)) ([])):=by
 refine Env.by PrC.law9_within ?_
 unfold zeC
 show GC _ 0 _ _ ⟨reg [(0,iv x),(1,iv n)],[]⟩
 refine zJ (zM (o_d 1 [(4,iv 0)] (zE (zA (zJ (zM (o_d 2 [(7,iv n),(6,iv x)] (o_s (by exact run_rem rfl rfl (by omega)) ?_))))))))
 refine o_d 1 [(5,iv (x.tmod n))] (zE (zA (zJ (zJ (zM (o_d 2 [(10,bv (decide (x.tmod n < 0))),(9,iv (x.tmod n))] (zE (zA (qK (t:=decide (x.tmod n < 0)) rfl (fun h1=>?_) (fun h1=>?_))))))))))
 ·skip
  have h1':x.tmod n < 0:=of_decide_eq_true h1
  refine zM (o_d 4 [(5,iv (i64.wrap (x.tmod n+n))),(13,iv (i64.wrap (x.tmod n+n))),(12,iv n),(11,iv (x.tmod n))] (zE (zA (zJ (zM (o_d 2 [(4,iv (i64.wrap (x.tmod n+n))),(14,iv (i64.wrap (x.tmod n+n)))] (zE (zA (qS ?_)))))))))
  have E0_:zC x n=(i64.wrap (x.tmod n+n)):=by
   unfold zC;simp only [h1',if_true,if_false]
  exact z7 [iv (i64.wrap (x.tmod n+n))] (zR rfl rfl) rfl (by rw [E0_];rfl) rfl rfl
 have h1': ¬(x.tmod n < 0):=of_decide_eq_false h1
 refine qM (zA (zJ (zM (o_d 2 [(4,iv (x.tmod n)),(14,iv (x.tmod n))] (zE (zA (qS ?_)))))))
 have E0_:zC x n=(x.tmod n):=by
  unfold zC;simp only [h1',if_true,if_false]
 exact z7 [iv (x.tmod n)] (zR rfl rfl) rfl (by rw [E0_];rfl) rfl rfl
theorem upC {P:Program} [PrC P] (x:q9):
    Env P "roundhouse/roundhouselaw9.up" [zaq x] ([]) (fun v h'=> ∃m,v=pv 0 0∧h'= [cw (zN x true nr0 (slV 1 127 (some m))),slB zI (ii (qC x)) (some m)]):=by
 refine Env.by4 PrC.law9_up ?_
 unfold zjw
 show GC _ 0 _ _ ⟨reg [(0,zaq x)],[]⟩
 refine zJ (zM (o_b 2 [(2,.pointer none),(1,pv 0 0)] [cw (pl x)] (zE (zA (zJ (zM (qT (zdA [] [] [] (PNewC) rfl rfl trivial (by decide) ?_))))))))
 rintro v1 h1' ⟨rfl,rfl⟩
 refine ⟨zah,pv 1 0,[cw (pl x)],[cw (zN qL false nr0 (.slice none 0 0))],rfl,⟨rfl,trivial⟩,⟨(Option.some.inj (qF rfl)).symm,trivial⟩, ?_⟩
 refine o_d 1 [(3,pv 1 0)] (zE (zA (zJ (zJ (zM (o_d 2 [(6,bv true),(5,pv 1 0)] (zE (⟨⟨reg [(6,bv true),(3,pv 1 0),(1,pv 0 0)],[cw (pl x),cw (zN qL false nr0 (.slice none 0 0)),.gone]⟩,Wk.ren [0,1,2] rfl rfl (by decide) ⟨rfl,⟨rfl,⟨rfl,trivial⟩⟩⟩ ⟨.inl (zV (zam x)),⟨.inl (qF rfl),⟨.inr ⟨rfl,rfl⟩,trivial⟩⟩⟩, ?_⟩))))))))
 refine zc6 rfl (zM (o_d 1 [(7,pv 1 0)] (o_s (by refine zX (v:=zaq x) rfl rfl ?_;exact zaD x) ?_)))
 refine qT (zdA [1,0] [cw (zN qL false nr0 (slV 1 127 none)),cr []] [pv 0 0,zaq x] (PLoadC qL false nr0 none x) rfl (zS rfl (zS (qQ (zbk x)) rfl)) ⟨⟨_,rfl,zao (.inl (zaP rfl (fun q=>rfl)))⟩,⟨⟨_,rfl,zaH⟩,trivial⟩⟩ (by decide) ?_)
 rintro v1 h1' ⟨rfl,m1,rfl⟩
 refine ⟨(zW zaF (zW z8 zah)),.tuple #[],[cw (pl x),cw (zN x true nr0 (slV 3 127 (some m1))),.gone],[slB zI (ii (qC x)) (some m1)],(by simp [zaN]),⟨rfl,⟨zbi rfl,⟨rfl,trivial⟩⟩⟩,⟨(Option.some.inj (q8 (some m1) (fun _=>(zaf _ _)))).symm,trivial⟩, ?_⟩
 exact zE (zA (zJ (zM (o_d 2 [(2,pv 1 0),(10,pv 1 0)] (zE (zA (qS (⟨trivial,[pv 1 0],(zR rfl rfl),(zK rfl z5),⟨reg [],[cw (zN x true nr0 (slV 1 127 (some m1))),slB zI (ii (qC x)) (some m1)]⟩,[1,3],[pv 0 0],WkR.of (rs:= []) rfl rfl (by decide) trivial ⟨.inl (qF rfl),⟨.inl (q8 (some m1) (fun _=>(zaf _ _))),trivial⟩⟩,rfl,m1,rfl,rfl⟩))))))))
end Go.Rh

set_option maxHeartbeats 1000000
namespace Go.Rh
theorem sumB_length (b:List Int):(zcX b).length≤b.length+12:=by
 unfold zcX;split<;>simp<;>omega
theorem summedC {P:Program} [PrC P] (q:Option (Nat×Nat)) (L l:List Int) (hr:RowOf q L l) (h24:24≤l.length) (hl:l.length≤100000):
    Env P "roundhouse/roundhouseref3.summed" [zQ q 0 l.length] ([zH q (u8 L) false]) (fun v h'=> ∃m:Nat,v=sv 1 0 (zcX l).length ((zcX l).length+m)∧h'= [zH q (u8 L) false,cw (u8 (zcX l)++zay zB m)]):=by
 refine Env.by4 PrC.ref3_summed ?_
 unfold zeA
 show GC _ 1 _ _ ⟨reg [(0,zQ q 0 l.length)],[zH q (u8 L) false]⟩
 refine zJ (zM (o_d 1 [(2,.slice none 0 0)] (zE (zA (zJ (zM (o_d 1 [(5,zQ q 0 l.length)] (o_s (by exact qN rfl hr.nil) ?_))))))))
 refine o_s (by refine zL (v:= .int .i64 (i64.wrap ((l.length:Nat) - 16))) (congrArg (Value.int .i64) (w64 (by omega) (by omega))) ?_;kernel_rfl) ?_
 refine o_d 1 [(3,iv ((l.length:Nat) - 16))] (zE (zA (zJ (zM (o_d 1 [(8,zQ q 0 l.length)] (o_s (by exact qO (o':=qo q+0) rfl hr.nil rfl (by omega) (by omega)) ?_))))))
 refine o_s (by refine zX (v:= .int .u8 (l.getD 0 0 % 256)) rfl (zbd (n:=l.length) rfl rfl hr.nil (by omega)) ?_;exact zb1 hr (by omega) rfl) ?_
 refine o_d 1 [(11,iv ((l.length:Nat) - 16))] (o_s (by refine zL (v:= .int .i64 (((l.length:Nat) - 16:Int).fdiv 256)) (congrArg (Value.int .i64) (zc4 (by decide))) ?_;kernel_rfl) ?_)
 refine o_b 5 [(4,sv 1 0 4 4),(16,sv 1 0 4 4),(15,.int .u8 (((l.length:Nat) - 16:Int) % 256)),(14,iv ((l.length:Nat) - 16)),(13,.int .u8 ((((l.length:Nat) - 16:Int) / 256:Int) % 256))] [zH q (u8 L) false,cw [.int .u8 0,.int .u8 (l.getD 0 0 % 256),.int .u8 ((((l.length:Nat) - 16:Int) / 256:Int) % 256),.int .u8 (((l.length:Nat) - 16:Int) % 256)]] (zE (zA (zJ (zJ (zM (o_d 1 [(17,zQ q 0 l.length)] (o_s (by exact qO (o':=qo q+0) rfl hr.nil rfl (by omega) (by omega)) ?_)))))))
 refine o_s (by refine zX (v:= .int .u8 (l.getD 0 0 % 256)) rfl (zbd (n:=l.length) rfl rfl hr.nil (by omega)) ?_;exact zb1 hr (by omega) rfl) ?_
 refine o_d 1 [(20,bv ((l.getD 0 0 % 256)!=3))] (zE (zA (qK (t:=(l.getD 0 0 % 256)!=3) rfl (fun h1=>?_) (fun h1=>?_))))
 ·skip
  have h1':l.getD 0 0 % 256≠3:=zgC h1
  refine zM (o_b 2 [(22,zQ q 0 l.length),(21,sv 2 0 0 (0+0))] [zH q (u8 L) false,cw [.int .u8 0,.int .u8 (l.getD 0 0 % 256),.int .u8 ((((l.length:Nat) - 16:Int) / 256:Int) % 256),.int .u8 (((l.length:Nat) - 16:Int) % 256)],cw (u8 ([]:List Int)++zay zB 0)] ?_)
  obtain ⟨qz2,lz2,hlz2,hn2z,hq2z,hr2z,hs2z⟩:=zb4 (k:=0) hr (lo:=(some (iv 4))) (hi:=(some (iv 12))) (mx:=none) 4 12 (by omega) (.inr rfl) (.inr rfl) (.inl rfl)
  have hs2y:=hs2z.trans (rfl:q.isSome=q.isSome)
  refine o_s (by exact zaQ rfl hq2z) ?_
  obtain ⟨m3,hm3⟩: ∃z9,([]:List Int)++lz2=z9:=⟨_,rfl⟩
  have hm3l:m3.length=0+lz2.length:=by rw [←hm3,List.length_append]<;>(first | omega | (simp only [List.length_set,List.length_replicate,List.length_append];omega) | (simp;done) | (simp;omega))
  refine zfi (k:=2) (n:=0) (o:=some 0) (q:=lz2.length) (cs:=u8 ([]:List Int)) (xs:=u8 lz2) (cs2:=u8 m3) (zl:=zB) rfl rfl rfl (fun m q=>by cases q;rfl) (fun q=>by cases q) (by rw [qV]<;>(first | omega | (simp only [List.length_set,List.length_replicate,List.length_append];omega) | (simp;done) | (simp;omega))) rfl (zfj _ _ _ hr2z.nil) (ze7 rfl hs2y hr2z) (by rw [qV]<;>(first | omega | (simp only [List.length_set,List.length_replicate,List.length_append];omega) | (simp;done) | (simp;omega))) (by omega) (by omega) (by rw [zeN,hm3]) (fun c5 e4=>?_) (fun c5=>?_)
  ·exact absurd (Option.some.inj e4) (by omega)
  refine o_d 1 [(25,sv 1 0 4 4)] ?_
  obtain ⟨m6,hm6⟩: ∃z9,m3++([0,(l.getD 0 0),(((l.length:Nat) - 16:Int) / 256:Int),((l.length:Nat) - 16:Int)]:List Int)=z9:=⟨_,rfl⟩
  have hm6l:m6.length=0+lz2.length+4:=by rw [←hm6,List.length_append]<;>(first | omega | (simp only [List.length_set,List.length_replicate,List.length_append];omega) | (simp;done) | (simp;omega))
  refine zfi (k:=3) (n:=0+lz2.length) (o:=some c5) (q:=4) (cs:=u8 m3) (xs:=u8 ([0,(l.getD 0 0),(((l.length:Nat) - 16:Int) / 256:Int),((l.length:Nat) - 16:Int)]:List Int)) (cs2:=u8 m6) (zl:=zB) rfl rfl rfl (fun m q=>by cases q;rfl) (fun q=>by cases q) (by rw [qV]<;>(first | omega | (simp only [List.length_set,List.length_replicate,List.length_append];omega) | (simp;done) | (simp;omega))) rfl rfl (zbY rfl rfl (Nat.le_of_ble_eq_true rfl)) (by rw [qV]<;>(first | omega | (simp only [List.length_set,List.length_replicate,List.length_append];omega) | (simp;done) | (simp;omega))) (by omega) (by omega) (by rw [zeN,hm6]) (fun c8 e7=>?_) (fun c8=>?_)
  ·skip
   refine o_d 1 [(4,sv 3 0 (0+lz2.length+4) (0+lz2.length+4+c8))] (zE (zT [(4,sv 3 0 (0+lz2.length+4) (0+lz2.length+4+c8)),(0,zQ q 0 l.length)] (zJ (zM (o_d 2 [(28,zQ q 0 l.length),(27,sv 3 0 (0+lz2.length+4) (0+lz2.length+4+c8))] ?_)))))
   obtain ⟨qz9,lz9,hlz9,hn9z,hq9z,hr9z,hs9z⟩:=zb4 (k:=0) hr (lo:=(some (iv 16))) (hi:=none) (mx:=none) 16 l.length (by omega) (.inr rfl) (.inl ⟨rfl,rfl,rfl⟩) (.inl rfl)
   have hs9y:=hs9z.trans (rfl:q.isSome=q.isSome)
   refine o_s (by exact zaQ rfl hq9z) ?_
   obtain ⟨m10,hm10⟩: ∃z9,m6++lz9=z9:=⟨_,rfl⟩
   have hm10l:m10.length=0+lz2.length+4+lz9.length:=by rw [←hm10,List.length_append]<;>(first | omega | (simp only [List.length_set,List.length_replicate,List.length_append];omega) | (simp;done) | (simp;omega))
   refine zfi (k:=3) (n:=0+lz2.length+4) (o:=some c8) (q:=lz9.length) (cs:=u8 m6) (xs:=u8 lz9) (cs2:=u8 m10) (zl:=zB) rfl rfl rfl (fun m q=>by cases q;rfl) (fun q=>by cases q) (by rw [qV]<;>(first | omega | (simp only [List.length_set,List.length_replicate,List.length_append];omega) | (simp;done) | (simp;omega))) rfl (zfj _ _ _ hr9z.nil) (ze7 rfl hs9y hr9z) (by rw [qV]<;>(first | omega | (simp only [List.length_set,List.length_replicate,List.length_append];omega) | (simp;done) | (simp;omega))) (by omega) (by omega) (by rw [zeN,hm10]) (fun c12 e11=>?_) (fun c12=>?_)
   ·skip
    refine o_d 1 [(2,sv 3 0 (0+lz2.length+4+lz9.length) (0+lz2.length+4+lz9.length+c12))] (zE (zA (qS ?_)))
    have he:zcX l=m10:=by
     unfold zcX;rw [if_neg (by omega)]
     rw [←hm10,←hm6,←hm3,hlz2,hlz9,List.take_of_length_le (l:=l.drop 16) (by simp)];rfl
    exact ⟨trivial,[sv 3 0 (0+lz2.length+4+lz9.length) (0+lz2.length+4+lz9.length+c12)],(zR rfl rfl),(zK rfl z5),⟨reg [],[zH q (u8 L) false,cw (u8 m10++zay zB c12)]⟩,[0,3],[sv 1 0 (0+lz2.length+4+lz9.length) (0+lz2.length+4+lz9.length+c12)],WkR.of (rs:= []) rfl rfl (by decide) trivial ⟨.inl (zF (zG _)),⟨.inl (zV (zbD m10 c12)),trivial⟩⟩,rfl,c12,(by rw [he,hm10l];first | rfl | simp only [hm3l,hm6l,hm10l,List.length_nil];rfl),(by rw [he])⟩
   refine o_d 1 [(2,sv 4 0 (0+lz2.length+4+lz9.length) (0+lz2.length+4+lz9.length+c12))] (zE (zA (qS ?_)))
   have he:zcX l=m10:=by
    unfold zcX;rw [if_neg (by omega)]
    rw [←hm10,←hm6,←hm3,hlz2,hlz9,List.take_of_length_le (l:=l.drop 16) (by simp)];rfl
   exact ⟨trivial,[sv 4 0 (0+lz2.length+4+lz9.length) (0+lz2.length+4+lz9.length+c12)],(zR rfl rfl),(zK rfl z5),⟨reg [],[zH q (u8 L) false,cw (u8 m10++zay zB c12)]⟩,[0,4],[sv 1 0 (0+lz2.length+4+lz9.length) (0+lz2.length+4+lz9.length+c12)],WkR.of (rs:= []) rfl rfl (by decide) trivial ⟨.inl (zF (zG _)),⟨.inl (zV (zbD m10 c12)),trivial⟩⟩,rfl,c12,(by rw [he,hm10l];first | rfl | simp only [hm3l,hm6l,hm10l,List.length_nil];rfl),(by rw [he])⟩
  refine o_d 1 [(4,sv 4 0 (0+lz2.length+4) (0+lz2.length+4+c8))] (zE (zT [(4,sv 4 0 (0+lz2.length+4) (0+lz2.length+4+c8)),(0,zQ q 0 l.length)] (zJ (zM (o_d 2 [(28,zQ q 0 l.length),(27,sv 4 0 (0+lz2.length+4) (0+lz2.length+4+c8))] ?_)))))
  obtain ⟨qz13,lz13,hlz13,hn13z,hq13z,hr13z,hs13z⟩:=zb4 (k:=0) hr (lo:=(some (iv 16))) (hi:=none) (mx:=none) 16 l.length (by omega) (.inr rfl) (.inl ⟨rfl,rfl,rfl⟩) (.inl rfl)
  have hs13y:=hs13z.trans (rfl:q.isSome=q.isSome)
  refine o_s (by exact zaQ rfl hq13z) ?_
  obtain ⟨m14,hm14⟩: ∃z9,m6++lz13=z9:=⟨_,rfl⟩
  have hm14l:m14.length=0+lz2.length+4+lz13.length:=by rw [←hm14,List.length_append]<;>(first | omega | (simp only [List.length_set,List.length_replicate,List.length_append];omega) | (simp;done) | (simp;omega))
  refine zfi (k:=4) (n:=0+lz2.length+4) (o:=some c8) (q:=lz13.length) (cs:=u8 m6) (xs:=u8 lz13) (cs2:=u8 m14) (zl:=zB) rfl rfl rfl (fun m q=>by cases q;rfl) (fun q=>by cases q) (by rw [qV]<;>(first | omega | (simp only [List.length_set,List.length_replicate,List.length_append];omega) | (simp;done) | (simp;omega))) rfl (zfj _ _ _ hr13z.nil) (ze7 rfl hs13y hr13z) (by rw [qV]<;>(first | omega | (simp only [List.length_set,List.length_replicate,List.length_append];omega) | (simp;done) | (simp;omega))) (by omega) (by omega) (by rw [zeN,hm14]) (fun c16 e15=>?_) (fun c16=>?_)
  ·skip
   refine o_d 1 [(2,sv 4 0 (0+lz2.length+4+lz13.length) (0+lz2.length+4+lz13.length+c16))] (zE (zA (qS ?_)))
   have he:zcX l=m14:=by
    unfold zcX;rw [if_neg (by omega)]
    rw [←hm14,←hm6,←hm3,hlz2,hlz13,List.take_of_length_le (l:=l.drop 16) (by simp)];rfl
   exact ⟨trivial,[sv 4 0 (0+lz2.length+4+lz13.length) (0+lz2.length+4+lz13.length+c16)],(zR rfl rfl),(zK rfl z5),⟨reg [],[zH q (u8 L) false,cw (u8 m14++zay zB c16)]⟩,[0,4],[sv 1 0 (0+lz2.length+4+lz13.length) (0+lz2.length+4+lz13.length+c16)],WkR.of (rs:= []) rfl rfl (by decide) trivial ⟨.inl (zF (zG _)),⟨.inl (zV (zbD m14 c16)),trivial⟩⟩,rfl,c16,(by rw [he,hm14l];first | rfl | simp only [hm3l,hm6l,hm14l,List.length_nil];rfl),(by rw [he])⟩
  refine o_d 1 [(2,sv 5 0 (0+lz2.length+4+lz13.length) (0+lz2.length+4+lz13.length+c16))] (zE (zA (qS ?_)))
  have he:zcX l=m14:=by
   unfold zcX;rw [if_neg (by omega)]
   rw [←hm14,←hm6,←hm3,hlz2,hlz13,List.take_of_length_le (l:=l.drop 16) (by simp)];rfl
  exact ⟨trivial,[sv 5 0 (0+lz2.length+4+lz13.length) (0+lz2.length+4+lz13.length+c16)],(zR rfl rfl),(zK rfl z5),⟨reg [],[zH q (u8 L) false,cw (u8 m14++zay zB c16)]⟩,[0,5],[sv 1 0 (0+lz2.length+4+lz13.length) (0+lz2.length+4+lz13.length+c16)],WkR.of (rs:= []) rfl rfl (by decide) trivial ⟨.inl (zF (zG _)),⟨.inl (zV (zbD m14 c16)),trivial⟩⟩,rfl,c16,(by rw [he,hm14l];first | rfl | simp only [hm3l,hm6l,hm14l,List.length_nil];rfl),(by rw [he])⟩
 have h1': ¬(l.getD 0 0 % 256≠3):=zgD h1
 refine qM (zA (zJ (zM (o_d 2 [(28,zQ q 0 l.length),(27,sv 1 0 4 4)] ?_))))
 obtain ⟨qz17,lz17,hlz17,hn17z,hq17z,hr17z,hs17z⟩:=zb4 (k:=0) hr (lo:=(some (iv 16))) (hi:=none) (mx:=none) 16 l.length (by omega) (.inr rfl) (.inl ⟨rfl,rfl,rfl⟩) (.inl rfl)
 have hs17y:=hs17z.trans (rfl:q.isSome=q.isSome)
 refine o_s (by exact zaQ rfl hq17z) ?_
 obtain ⟨m18,hm18⟩: ∃z9,([0,(l.getD 0 0),(((l.length:Nat) - 16:Int) / 256:Int),((l.length:Nat) - 16:Int)]:List Int)++lz17=z9:=⟨_,rfl⟩
 have hm18l:m18.length=4+lz17.length:=by rw [←hm18,List.length_append]<;>(first | omega | (simp only [List.length_set,List.length_replicate,List.length_append];omega) | (simp;done) | (simp;omega))
 refine zfi (k:=1) (n:=4) (o:=some 0) (q:=lz17.length) (cs:=u8 ([0,(l.getD 0 0),(((l.length:Nat) - 16:Int) / 256:Int),((l.length:Nat) - 16:Int)]:List Int)) (xs:=u8 lz17) (cs2:=u8 m18) (zl:=zB) rfl rfl rfl (fun m q=>by cases q;rfl) (fun q=>by cases q) (by rw [qV]<;>(first | omega | (simp only [List.length_set,List.length_replicate,List.length_append];omega) | (simp;done) | (simp;omega))) rfl (zfj _ _ _ hr17z.nil) (ze7 rfl hs17y hr17z) (by rw [qV]<;>(first | omega | (simp only [List.length_set,List.length_replicate,List.length_append];omega) | (simp;done) | (simp;omega))) (by omega) (by omega) (by rw [zeN,hm18]) (fun c20 e19=>?_) (fun c20=>?_)
 ·exact absurd (Option.some.inj e19) (by omega)
 refine o_d 1 [(2,sv 2 0 (4+lz17.length) (4+lz17.length+c20))] (zE (zT [(2,sv 2 0 (4+lz17.length) (4+lz17.length+c20))] (qS ?_)))
 have he:zcX l=m18:=by
  unfold zcX;rw [if_pos (by omega)]
  rw [←hm18,hlz17,List.take_of_length_le (by simp)]
 exact ⟨trivial,[sv 2 0 (4+lz17.length) (4+lz17.length+c20)],(zR rfl rfl),(zK rfl z5),⟨reg [],[zH q (u8 L) false,cw (u8 m18++zay zB c20)]⟩,[0,2],[sv 1 0 (4+lz17.length) (4+lz17.length+c20)],WkR.of (rs:= []) rfl rfl (by decide) trivial ⟨.inl (zF (zG _)),⟨.inl (zV (zbD m18 c20)),trivial⟩⟩,rfl,c20,(by rw [he,hm18l];first | rfl | simp only [hm18l,List.length_nil];rfl),(by rw [he])⟩
end Go.Rh

set_option maxHeartbeats 1000000
namespace Go.Rh
theorem place22C {P:Program} {k:Int} (hk: ¬k=3) (h:Env P "roundhouse/roundhouseref3.place" [iv k] [] (Ans (iv (zai k)) [])):Env P "roundhouse/roundhouseref3.place" [iv k] [] (Ans (iv 22) []):=by rwa [zai,if_neg hk] at h
theorem zcd {ρ:Nat→Nat} {l:List Int} {r c:Nat} {rw:Bool} :Blk.seen (zbB ρ (zH (some (0,c)) (u8 (l++List.replicate r 0)) rw)) (.cells (u8 l++zay zB r) true):=by
 rw [zhQ,zdg (zG _)];exact ⟨rfl,fun _=>rfl⟩
theorem conv_sv {ρ:Nat→Nat} {k n r N:Nat} (hk:ρ k=k) (hn:n=N) (hr:r=0):zaN ρ (zQ (some (0,N)) k N)=sv k 0 n (n+r):=by
 subst hn;subst hr;rw [qH hk];rfl
theorem conv_cells {ρ:Nat→Nat} {m:List Int} {r N:Nat} (hr:r=0):some (Blk.cells (u8 m++zay zB r) true)=some (zbB ρ (zH (some (0,N)) (u8 m) true)):=by
 subst hr;rw [zdg (zG _),zhG];simp [u8,zH]
theorem Build2C {P:Program} [PrC P] (qp qd:Option (Nat×Nat)) (Lo Ld:List Int) (x:Pk) (hro:RowOf qp Lo x.op) (hrd:RowOf qd Ld x.da) (B:BOk x) (hk:x.k=2):
    Env P "roundhouse/roundhouseref3.Build" [pkV x qp 0 qd 1] ([zH qp (u8 Lo) false,zH qd (u8 Ld) false]) (fun v h'=>v= .tuple #[zQ (some (0,(bld x).length)) 2 (bld x).length,iv 0]∧h'= [zH qp (u8 Lo) false,zH qd (u8 Ld) false,zH (some (0,(bld x).length)) (u8 (bld x)) true]):=by
 refine Env.by4 PrC.ref3_Build ?_
 unfold zfA
 show GC _ 2 _ _ ⟨reg [(0,pkV x qp 0 qd 1)],[zH qp (u8 Lo) false,zH qd (u8 Ld) false]⟩
 have b1:=B.li
 have b2:=B.pi
 have b3:=B.fr
 have b4:=B.t
 have b5:=B.co
 have b6:=B.fp
 have b7:=B.fl
 have b8_:=B.la
 have b9:=B.op
 have b10:=B.da
 have b11:=B.n
 have hl40:x.da.length≤100000:=by omega
 refine zJ (zM (o_b 3 [(3,iv 0),(2,.slice none 0 0),(1,pv 2 0)] [zH qp (u8 Lo) false,zH qd (u8 Ld) false,cw (pkL x qp 0 qd 1)] (zE (zA (zJ (zJ (zM (o_d 1 [(10,pv 2 0)] (o_s (by refine zX (v:=iv x.k) rfl rfl ?_;exact rfl) ?_)))))))))
 refine o_d 2 [(13,bv (decide (x.k < 1))),(12,bv (decide (x.k < 1)))] (zce (b:=decide (x.k < 1)) 13 rfl (fun q=>by rw [(by exact decide_eq_false (by omega):(decide (x.k < 1))=false)] at q;cases q) (fun k1=>?_))
 refine o_d 1 [(14,pv 2 0)] (qJ rfl (o_s (by refine zX (v:=iv x.k) rfl rfl ?_;exact rfl) ?_))
 refine o_d 2 [(17,bv (decide (x.k > 3))),(16,bv (decide (x.k > 3)))] (zE (zA (qK (t:=decide (x.k > 3)) rfl (fun q=>by rw [(by exact decide_eq_false (by omega):(decide (x.k > 3))=false)] at q;cases q) (fun _=>?_))))
 refine qM (zA (zJ (zbe [] (r_d 1 [(18,pv 2 0)] (r_s (by refine zX (v:=iv x.k) rfl rfl ?_;exact rfl) ?_)))))
 refine r_d 2 [(21,pv 2 0),(20,bv (x.k==1))] (r_s (by refine zX (v:=iv x.k) rfl rfl ?_;exact rfl) ?_)
 refine r_d 2 [(24,pv 2 0),(23,bv (x.k==2))] (r_s (by refine zX (v:=iv x.k) rfl rfl ?_;exact rfl) ?_)
 refine r_d 4 [(6,bv (x.k==3)),(5,bv (x.k==2)),(4,bv (x.k==1)),(26,bv (x.k==3))] (za1 (zT [(6,bv (x.k==3)),(5,bv (x.k==2)),(4,bv (x.k==1)),(1,pv 2 0)] (zJ (zJ (zM (o_d 1 [(27,pv 2 1)] (o_s (by refine zX (v:=iv x.li) rfl rfl ?_;exact rfl) ?_)))))))
 refine qT (zag (zjb x.li 255) rfl rfl rfl (o_d 1 [(30,bv (decide (x.li < 0) || decide (x.li > 255)))] (zce (b:=decide (x.li < 0) || decide (x.li > 255)) 30 rfl (fun q=>by rw [(by simp;omega:(decide (x.li < 0) || decide (x.li > 255))=false)] at q;cases q) (fun k2=>?_))))
 refine o_d 1 [(31,pv 2 2)] (qJ rfl (o_s (by refine zX (v:=iv x.pi) rfl rfl ?_;exact rfl) ?_))
 refine qJ rfl (qT (zag (zjb x.pi 255) rfl rfl rfl (o_d 2 [(35,bv (decide (x.pi < 0) || decide (x.pi > 255))),(34,bv (decide (x.pi < 0) || decide (x.pi > 255)))] (zce (b:=decide (x.pi < 0) || decide (x.pi > 255)) 35 rfl (fun q=>by rw [(by simp;omega:(decide (x.pi < 0) || decide (x.pi > 255))=false)] at q;cases q) (fun k3=>?_)))))
 refine o_d 2 [(37,bv (x.k==3)),(36,bv (x.k==3))] (zce (b:=x.k==3) 37 rfl (fun q=>by rw [(by rw [hk];rfl:(x.k==3)=false)] at q;cases q) (fun k4=>?_))
 refine o_d 7 [(44,pv 2 3),(43,bv false),(42,bv false),(41,bv false),(40,undef),(39,undef),(38,undef)] (qJ rfl (o_s (by refine zX (v:=iv x.fr) rfl rfl ?_;exact rfl) ?_))
 refine qJ rfl (qT (zag (zjb x.fr 4294967295) rfl rfl rfl (o_d 2 [(48,bv (decide (x.fr < 0) || decide (x.fr > 4294967295))),(47,bv (decide (x.fr < 0) || decide (x.fr > 4294967295)))] (zce (b:=decide (x.fr < 0) || decide (x.fr > 4294967295)) 48 rfl (fun q=>by rw [(by simp;omega:(decide (x.fr < 0) || decide (x.fr > 4294967295))=false)] at q;cases q) (fun k5=>?_)))))
 refine o_d 1 [(49,pv 2 4)] (qJ rfl (o_s (by refine zX (v:=iv x.t) rfl rfl ?_;exact rfl) ?_))
 refine qJ rfl (qT (zag (zjb x.t 4294967295) rfl rfl rfl (o_d 2 [(53,bv (decide (x.t < 0) || decide (x.t > 4294967295))),(52,bv (decide (x.t < 0) || decide (x.t > 4294967295)))] (zce (b:=decide (x.t < 0) || decide (x.t > 4294967295)) 53 rfl (fun q=>by rw [(by simp;omega:(decide (x.t < 0) || decide (x.t > 4294967295))=false)] at q;cases q) (fun k6=>?_)))))
 refine o_d 3 [(56,bv (!(x.k==3))),(55,bv (!(x.k==3))),(54,bv (x.k==3))] (zce (b:= !(x.k==3)) 56 rfl (fun k7=>?_) (fun q=>by rw [(by rw [(by rw [hk];rfl:(x.k==3)=false)];rfl:(!(x.k==3))=true)] at q;cases q))
 refine o_d 1 [(57,pv 2 5)] (qJ rfl (o_s (by refine zX (v:=iv x.fp) rfl rfl ?_;exact rfl) ?_))
 refine qJ rfl (qT (zag (zjb x.fp 65535) rfl rfl rfl (o_d 1 [(60,bv (decide (x.fp < 0) || decide (x.fp > 65535)))] (zce (b:=decide (x.fp < 0) || decide (x.fp > 65535)) 60 rfl (fun q=>by rw [(by simp;omega:(decide (x.fp < 0) || decide (x.fp > 65535))=false)] at q;cases q) (fun k8=>?_)))))
 refine o_d 1 [(61,pv 2 6)] (qJ rfl (o_s (by refine zX (v:=iv x.tp) rfl rfl ?_;exact rfl) ?_))
 refine qJ rfl (qT (zag (zjb x.tp 65535) rfl rfl rfl (o_d 4 [(67,bv (decide (x.tp < 0) || decide (x.tp > 65535))),(66,bv (decide (x.tp < 0) || decide (x.tp > 65535))),(65,bv (decide (x.tp < 0) || decide (x.tp > 65535))),(64,bv (decide (x.tp < 0) || decide (x.tp > 65535)))] (zce (b:=decide (x.tp < 0) || decide (x.tp > 65535)) 67 rfl (fun q=>by rw [(by simp;omega:(decide (x.tp < 0) || decide (x.tp > 65535))=false)] at q;cases q) (fun k9=>?_)))))
 refine o_d 2 [(69,bv (x.k==1)),(68,bv (x.k==1))] (zce (b:=x.k==1) 69 rfl (fun q=>by rw [(by rw [hk];rfl:(x.k==1)=false)] at q;cases q) (fun k10=>?_))
 refine o_d 8 [(77,bv (x.k==2)),(76,bv (x.k==2)),(75,bv false),(74,bv false),(73,bv false),(72,undef),(71,undef),(70,undef)] (zce (b:=x.k==2) 77 rfl (fun k11=>?_) (fun q=>by rw [(by rw [hk];rfl:(x.k==2)=true)] at q;cases q))
 refine o_d 1 [(78,pv 2 8)] (qJ rfl (o_s (by refine zX (v:=iv x.la) rfl rfl ?_;exact rfl) ?_))
 refine qJ rfl (qT (zag (zjb x.la 65535) rfl rfl rfl (o_d 2 [(82,bv (decide (x.la < 0) || decide (x.la > 65535))),(81,bv (decide (x.la < 0) || decide (x.la > 65535)))] (zE (zT [(82,bv (decide (x.la < 0) || decide (x.la > 65535))),(6,bv (x.k==3)),(5,bv (x.k==2)),(4,bv (x.k==1)),(1,pv 2 0)] (qK (t:=decide (x.la < 0) || decide (x.la > 65535)) rfl (fun q=>by rw [(by simp;omega:(decide (x.la < 0) || decide (x.la > 65535))=false)] at q;cases q) (fun _=>?_)))))))
 refine qM (zA (zJ (zJ (zM (o_d 2 [(84,bv (x.k==1)),(83,bv (x.k==1))] (zce (b:=x.k==1) 84 rfl (fun q=>by rw [(by rw [hk];rfl:(x.k==1)=false)] at q;cases q) (fun k12=>?_)))))))
 refine o_d 5 [(89,bv false),(88,undef),(87,undef),(86,undef),(85,undef)] (zE (zA (zbx rfl (qM (zA (zJ (zM (o_d 1 [(90,pv 2 12)] (o_s (by refine zX (v:=zQ qd 1 x.da.length) rfl rfl ?_;exact rfl) ?_)))))))))
 refine o_s (by exact qN rfl hrd.nil) ?_
 refine o_s (by refine zL (v:= .int .i64 (i64.wrap (24+(x.da.length:Nat)))) (congrArg (Value.int .i64) (w64 (by first | omega | (simp only [List.length_set,List.length_replicate,List.length_append];omega) | (simp;done) | (simp;omega)) (by first | omega | (simp only [List.length_set,List.length_replicate,List.length_append];omega) | (simp;done) | (simp;omega)))) ?_;kernel_rfl) ?_
 refine o_d 1 [(7,iv (24+(x.da.length:Nat)))] (zE (zA (zJ (zJ (zM (o_d 1 [(94,bv (x.k==1))] (zE (zA (qK (t:=x.k==1) rfl (fun q=>by rw [(by rw [hk];rfl:(x.k==1)=false)] at q;cases q) (fun _=>?_))))))))))
 refine qM (zA (zJ (zJ (zM (o_d 1 [(100,bv (x.k==3))] (zE (zA (qK (t:=x.k==3) rfl (fun q=>by rw [(by rw [hk];rfl:(x.k==3)=false)] at q;cases q) (fun _=>?_)))))))))
 refine qM (zA (zJ (zJ (zM (o_d 2 [(106,bv (x.k==3)),(105,bv (x.k==3))] (zce (b:=x.k==3) 106 rfl (fun q=>by rw [(by rw [hk];rfl:(x.k==3)=false)] at q;cases q) (fun k13=>?_)))))))
 refine o_d 9 [(115,bv (decide ((24+(x.da.length:Nat):Int) > 1500))),(114,bv (decide ((24+(x.da.length:Nat):Int) > 1500))),(113,iv (24+(x.da.length:Nat))),(112,bv false),(111,bv false),(110,undef),(109,undef),(108,undef),(107,undef)] (zE (zT [(115,bv (decide ((24+(x.da.length:Nat):Int) > 1500))),(7,iv (24+(x.da.length:Nat))),(6,bv (x.k==3)),(5,bv (x.k==2)),(1,pv 2 0)] (qK (t:=decide ((24+(x.da.length:Nat):Int) > 1500)) rfl (fun q=>by rw [(by exact decide_eq_false (by omega):(decide ((24+(x.da.length:Nat):Int) > 1500))=false)] at q;cases q) (fun _=>?_))))
 refine qM (zA (zJ (zM (o_d 1 [(116,iv (24+(x.da.length:Nat)))] (o_s (by exact run_mksR (a:=16) (n:=24+x.da.length) (r:=24+x.da.length - 16) rfl rfl (by omega) (by omega)) ?_)))))
 refine o_b 1 [(8,sv 3 0 16 (16+(24+x.da.length - 16)))] [zH qp (u8 Lo) false,zH qd (u8 Ld) false,cw (pkL x qp 0 qd 1),cw (u8 (List.replicate 16 0)++zay zB (24+x.da.length - 16))] (zE (zA (zJ (zjn [zH qp (u8 Lo) false,zH qd (u8 Ld) false,cw (pkL x qp 0 qd 1),cw (u8 (List.replicate 16 0)++zay zB (24+x.da.length - 16))] (by kernel_rfl) (d_n 4 4 4 [(121,pv 2 0),(120,sv 3 0 16 (16+(24+x.da.length - 16))),(119,sv 3 0 16 (16+(24+x.da.length - 16))),(118,sv 3 0 16 (16+(24+x.da.length - 16)))] [zH qp (u8 Lo) false,zH qd (u8 Ld) false,cw (pkL x qp 0 qd 1),cw (u8 (List.replicate 16 0)++zay zB (24+x.da.length - 16))] [] (by kernel_rfl) rfl rfl (d_s rfl rfl rfl (by kernel_rfl) (by refine zX (v:=iv x.k) rfl rfl ?_;exact rfl) ?_))))))
 refine d_n 2 7 4 [(124,pv 2 1),(123,.int .u8 (x.k % 256))] [zH qp (u8 Lo) false,zH qd (u8 Ld) false,cw (pkL x qp 0 qd 1),cw (u8 (List.replicate 16 0)++zay zB (24+x.da.length - 16))] [⟨4,[2],[],none⟩] (by kernel_rfl) rfl rfl (d_s rfl rfl rfl (by kernel_rfl) (by refine zX (v:=iv x.li) rfl rfl ?_;exact rfl) ?_)
 refine d_n 2 10 4 [(127,pv 2 2),(126,.int .u8 (x.li % 256))] [zH qp (u8 Lo) false,zH qd (u8 Ld) false,cw (pkL x qp 0 qd 1),cw (u8 (List.replicate 16 0)++zay zB (24+x.da.length - 16))] [⟨7,[2],[],none⟩,⟨4,[2],[],none⟩] (by kernel_rfl) rfl rfl (d_s rfl rfl rfl (by kernel_rfl) (by refine zX (v:=iv x.pi) rfl rfl ?_;exact rfl) ?_)
 refine d_n 2 13 4 [(130,pv 3 0),(129,.int .u8 (x.pi % 256))] [zH qp (u8 Lo) false,zH qd (u8 Ld) false,cw (pkL x qp 0 qd 1),cw (u8 (List.replicate 16 0)++zay zB (24+x.da.length - 16))] [⟨10,[2],[],none⟩,⟨7,[2],[],none⟩,⟨4,[2],[],none⟩] (by kernel_rfl) rfl rfl (d_s0 rfl rfl ⟨_,_,_,rfl⟩ (by kernel_rfl) (by refine zas (c':=u8 ((List.replicate 16 0).set 0 x.k)++zay zB (24+x.da.length - 16)) rfl rfl rfl ?_ ?_ ?_;exact rfl;exact (by simp only [List.length_append,qV];first | omega | (simp only [List.length_set,List.length_replicate,List.length_append];omega) | (simp;done) | (simp;omega));exact u8R_set (l:=List.replicate 16 0) (x:=x.k) (by first | omega | (simp only [List.length_set,List.length_replicate,List.length_append];omega) | (simp;done) | (simp;omega)) rfl) ?_)
 refine d_n 1 15 4 [(131,pv 3 1)] [zH qp (u8 Lo) false,zH qd (u8 Ld) false,cw (pkL x qp 0 qd 1),cw (u8 ((List.replicate 16 0).set 0 x.k)++zay zB (24+x.da.length - 16))] [⟨13,[3],[3],none⟩,⟨10,[2],[],none⟩,⟨7,[2],[],none⟩,⟨4,[2],[],none⟩] (by kernel_rfl) rfl rfl (d_s0 rfl rfl ⟨_,_,_,rfl⟩ (by kernel_rfl) (by refine zas (c':=u8 (((List.replicate 16 0).set 0 x.k).set 1 x.li)++zay zB (24+x.da.length - 16)) rfl rfl rfl ?_ ?_ ?_;exact rfl;exact (by simp only [List.length_append,qV];first | omega | (simp only [List.length_set,List.length_replicate,List.length_append];omega) | (simp;done) | (simp;omega));exact u8R_set (l:=(List.replicate 16 0).set 0 x.k) (x:=x.li) (by first | omega | (simp only [List.length_set,List.length_replicate,List.length_append];omega) | (simp;done) | (simp;omega)) rfl) ?_)
 refine d_n 1 17 4 [(132,pv 3 12)] [zH qp (u8 Lo) false,zH qd (u8 Ld) false,cw (pkL x qp 0 qd 1),cw (u8 (((List.replicate 16 0).set 0 x.k).set 1 x.li)++zay zB (24+x.da.length - 16))] [⟨15,[3],[3],none⟩,⟨13,[3],[3],none⟩,⟨10,[2],[],none⟩,⟨7,[2],[],none⟩,⟨4,[2],[],none⟩] (by kernel_rfl) rfl rfl (d_s0 rfl rfl ⟨_,_,_,rfl⟩ (by kernel_rfl) (by refine zas (c':=u8 ((((List.replicate 16 0).set 0 x.k).set 1 x.li).set 12 x.pi)++zay zB (24+x.da.length - 16)) rfl rfl rfl ?_ ?_ ?_;exact rfl;exact (by simp only [List.length_append,qV];first | omega | (simp only [List.length_set,List.length_replicate,List.length_append];omega) | (simp;done) | (simp;omega));exact u8R_set (l:=((List.replicate 16 0).set 0 x.k).set 1 x.li) (x:=x.pi) (by first | omega | (simp only [List.length_set,List.length_replicate,List.length_append];omega) | (simp;done) | (simp;omega)) rfl) ?_)
 refine d_nil (zA (zJ (zM (o_d 2 [(134,iv (24+(x.da.length:Nat))),(133,sv 3 0 16 (16+(24+x.da.length - 16)))] ?_))))
 obtain ⟨m14,hm14⟩: ∃z9,zbs ((((List.replicate 16 0).set 0 x.k).set 1 x.li).set 12 x.pi) 2 2 (24+(x.da.length:Nat))=z9:=⟨_,rfl⟩
 have hm14l:m14.length=((((List.replicate 16 0).set 0 x.k).set 1 x.li).set 12 x.pi).length:=by rw [←hm14,zY]
 have hm14n:m14.length=16:=by rw [hm14l]<;>(first | omega | (simp only [List.length_set,List.length_replicate,List.length_append];omega) | (simp;done) | (simp;omega))
 refine qT (zdH [3] [zH (some (0,16+(24+x.da.length - 16))) (u8 (((((List.replicate 16 0).set 0 x.k).set 1 x.li).set 12 x.pi)++List.replicate (24+x.da.length - 16) 0)) true] [zQ (some (0,16+(24+x.da.length - 16))) 0 (((((List.replicate 16 0).set 0 x.k).set 1 x.li).set 12 x.pi).length),iv 2,iv 2,iv (24+(x.da.length:Nat))] (zet (some (0,16+(24+x.da.length - 16))) (((((List.replicate 16 0).set 0 x.k).set 1 x.li).set 12 x.pi)++List.replicate (24+x.da.length - 16) 0) ((((List.replicate 16 0).set 0 x.k).set 1 x.li).set 12 x.pi) (zhb (l:=(((List.replicate 16 0).set 0 x.k).set 1 x.li).set 12 x.pi) (n:=16) (r:=(24+x.da.length - 16)) (by first | omega | (simp only [List.length_set,List.length_replicate,List.length_append];omega) | (simp;done) | (simp;omega))) 2 2 (24+(x.da.length:Nat)) (by first | omega | (simp only [List.length_set,List.length_replicate,List.length_append];omega) | (simp;done) | (simp;omega)) (by first | omega | (simp only [List.length_set,List.length_replicate,List.length_append];omega) | (simp;done) | (simp;omega)) (by first | omega | (simp only [List.length_set,List.length_replicate,List.length_append];omega) | (simp;done) | (simp;omega))) rfl (zS (zaT rfl (by first | omega | (simp only [List.length_set,List.length_replicate,List.length_append];omega) | (simp;done) | (simp;omega))) (zS rfl (zS rfl (zS rfl rfl)))) ⟨⟨_,rfl,zcd⟩,trivial⟩ (by decide) ?_)
 rintro v1 h1' ⟨rfl,rfl⟩
 refine ⟨.tuple #[],[zH qp (u8 Lo) false,zH qd (u8 Ld) false,cw (pkL x qp 0 qd 1),cw (u8 m14++zay zB (24+x.da.length - 16))],[],(by simp [zaN]),⟨rfl,⟨rfl,⟨rfl,⟨(zer hm14 (by first | omega | (simp only [List.length_set,List.length_replicate,List.length_append];omega) | (simp;done) | (simp;omega))),trivial⟩⟩⟩⟩,trivial, ?_⟩
 refine zE (zT [(8,sv 3 0 16 (16+(24+x.da.length - 16))),(6,bv (x.k==3)),(5,bv (x.k==2)),(1,pv 2 0)] (zJ (zM (o_d 2 [(137,pv 2 3),(136,sv 3 0 16 (16+(24+x.da.length - 16)))] (o_s (by refine zX (v:=iv x.fr) rfl rfl ?_;exact rfl) ?_)))))
 obtain ⟨m15,hm15⟩: ∃z9,zbs m14 4 4 x.fr=z9:=⟨_,rfl⟩
 have hm15l:m15.length=m14.length:=by rw [←hm15,zY]
 have hm15n:m15.length=16:=by rw [hm15l]<;>(first | omega | (simp only [List.length_set,List.length_replicate,List.length_append];omega) | (simp;done) | (simp;omega))
 refine qT (zdH [3] [zH (some (0,16+(24+x.da.length - 16))) (u8 (m14++List.replicate (24+x.da.length - 16) 0)) true] [zQ (some (0,16+(24+x.da.length - 16))) 0 m14.length,iv 4,iv 4,iv x.fr] (zet (some (0,16+(24+x.da.length - 16))) (m14++List.replicate (24+x.da.length - 16) 0) m14 (zhb (l:=m14) (n:=16) (r:=(24+x.da.length - 16)) (by first | omega | (simp only [List.length_set,List.length_replicate,List.length_append];omega) | (simp;done) | (simp;omega))) 4 4 x.fr (by first | omega | (simp only [List.length_set,List.length_replicate,List.length_append];omega) | (simp;done) | (simp;omega)) (by first | omega | (simp only [List.length_set,List.length_replicate,List.length_append];omega) | (simp;done) | (simp;omega)) (by first | omega | (simp only [List.length_set,List.length_replicate,List.length_append];omega) | (simp;done) | (simp;omega))) rfl (zS (zaT rfl (by first | omega | (simp only [List.length_set,List.length_replicate,List.length_append];omega) | (simp;done) | (simp;omega))) (zS rfl (zS rfl (zS rfl rfl)))) ⟨⟨_,rfl,zcd⟩,trivial⟩ (by decide) ?_)
 rintro v1 h1' ⟨rfl,rfl⟩
 refine ⟨.tuple #[],[zH qp (u8 Lo) false,zH qd (u8 Ld) false,cw (pkL x qp 0 qd 1),cw (u8 m15++zay zB (24+x.da.length - 16))],[],(by simp [zaN]),⟨rfl,⟨rfl,⟨rfl,⟨(zer hm15 (by first | omega | (simp only [List.length_set,List.length_replicate,List.length_append];omega) | (simp;done) | (simp;omega))),trivial⟩⟩⟩⟩,trivial, ?_⟩
 refine zE (zA (zJ (zM (o_d 2 [(141,pv 2 4),(140,sv 3 0 16 (16+(24+x.da.length - 16)))] (o_s (by refine zX (v:=iv x.t) rfl rfl ?_;exact rfl) ?_)))))
 obtain ⟨m16,hm16⟩: ∃z9,zbs m15 8 4 x.t=z9:=⟨_,rfl⟩
 have hm16l:m16.length=m15.length:=by rw [←hm16,zY]
 have hm16n:m16.length=16:=by rw [hm16l]<;>(first | omega | (simp only [List.length_set,List.length_replicate,List.length_append];omega) | (simp;done) | (simp;omega))
 refine qT (zdH [3] [zH (some (0,16+(24+x.da.length - 16))) (u8 (m15++List.replicate (24+x.da.length - 16) 0)) true] [zQ (some (0,16+(24+x.da.length - 16))) 0 m15.length,iv 8,iv 4,iv x.t] (zet (some (0,16+(24+x.da.length - 16))) (m15++List.replicate (24+x.da.length - 16) 0) m15 (zhb (l:=m15) (n:=16) (r:=(24+x.da.length - 16)) (by first | omega | (simp only [List.length_set,List.length_replicate,List.length_append];omega) | (simp;done) | (simp;omega))) 8 4 x.t (by first | omega | (simp only [List.length_set,List.length_replicate,List.length_append];omega) | (simp;done) | (simp;omega)) (by first | omega | (simp only [List.length_set,List.length_replicate,List.length_append];omega) | (simp;done) | (simp;omega)) (by first | omega | (simp only [List.length_set,List.length_replicate,List.length_append];omega) | (simp;done) | (simp;omega))) rfl (zS (zaT rfl (by first | omega | (simp only [List.length_set,List.length_replicate,List.length_append];omega) | (simp;done) | (simp;omega))) (zS rfl (zS rfl (zS rfl rfl)))) ⟨⟨_,rfl,zcd⟩,trivial⟩ (by decide) ?_)
 rintro v1 h1' ⟨rfl,rfl⟩
 refine ⟨.tuple #[],[zH qp (u8 Lo) false,zH qd (u8 Ld) false,cw (pkL x qp 0 qd 1),cw (u8 m16++zay zB (24+x.da.length - 16))],[],(by simp [zaN]),⟨rfl,⟨rfl,⟨rfl,⟨(zer hm16 (by first | omega | (simp only [List.length_set,List.length_replicate,List.length_append];omega) | (simp;done) | (simp;omega))),trivial⟩⟩⟩⟩,trivial, ?_⟩
 refine zE (zA (zJ (zM (o_d 2 [(145,sv 3 0 16 (16+(24+x.da.length - 16))),(144,sv 3 0 16 (16+(24+x.da.length - 16)))] (qT (zfp (a1:= [zQ (some (0,16+(24+x.da.length - 16))) 0 m16.length]) [3] [u8 (m16++List.replicate (24+x.da.length - 16) 0)] (refOf1C (some (0,16+(24+x.da.length - 16))) (m16++List.replicate (24+x.da.length - 16) 0) m16 (zhb (l:=m16) (n:=16) (r:=(24+x.da.length - 16)) (by first | omega | (simp only [List.length_set,List.length_replicate,List.length_append];omega) | (simp;done) | (simp;omega))) (by first | omega | (simp only [List.length_set,List.length_replicate,List.length_append];omega) | (simp;done) | (simp;omega))) rfl (fun _=>zS (zaT rfl (by first | omega | (simp only [List.length_set,List.length_replicate,List.length_append];omega) | (simp;done) | (simp;omega))) rfl) ⟨⟨_,congrArg some (zhQ _ _)⟩,zG _,trivial⟩ rfl ?_))))))
 have hy17:=zkL m16
 obtain ⟨m18,hm18⟩: ∃z9,zbs m16 14 2 (65535 - zcc m16)=z9:=⟨_,rfl⟩
 have hm18l:m18.length=m16.length:=by rw [←hm18,zY]
 have hm18n:m18.length=16:=by rw [hm18l]<;>(first | omega | (simp only [List.length_set,List.length_replicate,List.length_append];omega) | (simp;done) | (simp;omega))
 refine qT (zdH [3] [zH (some (0,16+(24+x.da.length - 16))) (u8 (m16++List.replicate (24+x.da.length - 16) 0)) true] [zQ (some (0,16+(24+x.da.length - 16))) 0 m16.length,iv 14,iv 2,iv (65535 - zcc m16)] (zet (some (0,16+(24+x.da.length - 16))) (m16++List.replicate (24+x.da.length - 16) 0) m16 (zhb (l:=m16) (n:=16) (r:=(24+x.da.length - 16)) (by first | omega | (simp only [List.length_set,List.length_replicate,List.length_append];omega) | (simp;done) | (simp;omega))) 14 2 (65535 - zcc m16) (by first | omega | (simp only [List.length_set,List.length_replicate,List.length_append];omega) | (simp;done) | (simp;omega)) (by first | omega | (simp only [List.length_set,List.length_replicate,List.length_append];omega) | (simp;done) | (simp;omega)) (by first | omega | (simp only [List.length_set,List.length_replicate,List.length_append];omega) | (simp;done) | (simp;omega))) rfl (zS (zaT rfl (by first | omega | (simp only [List.length_set,List.length_replicate,List.length_append];omega) | (simp;done) | (simp;omega))) (zS rfl (zS rfl (zS rfl rfl)))) ⟨⟨_,rfl,zcd⟩,trivial⟩ (by decide) ?_)
 rintro v1 h1' ⟨rfl,rfl⟩
 refine ⟨.tuple #[],[zH qp (u8 Lo) false,zH qd (u8 Ld) false,cw (pkL x qp 0 qd 1),cw (u8 m18++zay zB (24+x.da.length - 16))],[],(by simp [zaN]),⟨rfl,⟨rfl,⟨rfl,⟨(zer hm18 (by first | omega | (simp only [List.length_set,List.length_replicate,List.length_append];omega) | (simp;done) | (simp;omega))),trivial⟩⟩⟩⟩,trivial, ?_⟩
 refine zE (zA (zJ (qX (zJ (zM (o_d 2 [(164,bv (x.k==3)),(165,bv (x.k==3))] (zE (zA (qK (t:=x.k==3) rfl (fun q=>by rw [(by rw [hk];rfl:(x.k==3)=false)] at q;cases q) (fun _=>?_))))))))))
 refine zJ (zM (o_d 2 [(172,bv (x.k==2)),(173,bv (x.k==2))] (zE (zA (qK (t:=x.k==2) rfl (fun _=>?_) (fun q=>by rw [(by rw [hk];rfl:(x.k==2)=true)] at q;cases q))))))
 refine zJ (zM (o_d 1 [(174,sv 3 0 16 (16+(24+x.da.length - 16)))] ?_))
 obtain ⟨m19,hm19⟩: ∃z9,m18++List.replicate 8 (0:Int)=z9:=⟨_,rfl⟩
 have hm19l:m19.length=16+8:=by rw [←hm19,List.length_append]<;>(first | omega | (simp only [List.length_set,List.length_replicate,List.length_append];omega) | (simp;done) | (simp;omega))
 refine o_appF (q:=8) (r:=(24+x.da.length - 16)) (r2:=((24+x.da.length - 16) - 8)) (n:=16) (k:=3) (cs:=u8 m18) (xs:=u8 (List.replicate 8 (0:Int))) (cs2:=u8 m19) (zl:=zB) rfl rfl (by omega) rfl (by rw [qV]<;>(first | omega | (simp only [List.length_set,List.length_replicate,List.length_append];omega) | (simp;done) | (simp;omega))) rfl (by kernel_rfl) (by kernel_rfl) (by rw [qV]<;>(first | omega | (simp only [List.length_set,List.length_replicate,List.length_append];omega) | (simp;done) | (simp;omega))) (by rw [zeN,hm19]) rfl ?_
 refine o_d 1 [(8,sv 3 0 (16+8) (16+8+((24+x.da.length - 16) - 8)))] (zE (zA (zM (o_d 2 [(177,pv 2 8),(176,sv 3 0 (16+8) (16+8+((24+x.da.length - 16) - 8)))] (o_s (by refine zX (v:=iv x.la) rfl rfl ?_;exact rfl) ?_)))))
 obtain ⟨m20,hm20⟩: ∃z9,zbs m19 20 2 x.la=z9:=⟨_,rfl⟩
 have hm20l:m20.length=m19.length:=by rw [←hm20,zY]
 have hm20n:m20.length=16+8:=by rw [hm20l]<;>(first | omega | (simp only [List.length_set,List.length_replicate,List.length_append];omega) | (simp;done) | (simp;omega))
 refine qT (zdH [3] [zH (some (0,16+8+((24+x.da.length - 16) - 8))) (u8 (m19++List.replicate ((24+x.da.length - 16) - 8) 0)) true] [zQ (some (0,16+8+((24+x.da.length - 16) - 8))) 0 m19.length,iv 20,iv 2,iv x.la] (zet (some (0,16+8+((24+x.da.length - 16) - 8))) (m19++List.replicate ((24+x.da.length - 16) - 8) 0) m19 (zhb (l:=m19) (n:=16+8) (r:=((24+x.da.length - 16) - 8)) (by first | omega | (simp only [List.length_set,List.length_replicate,List.length_append];omega) | (simp;done) | (simp;omega))) 20 2 x.la (by first | omega | (simp only [List.length_set,List.length_replicate,List.length_append];omega) | (simp;done) | (simp;omega)) (by first | omega | (simp only [List.length_set,List.length_replicate,List.length_append];omega) | (simp;done) | (simp;omega)) (by first | omega | (simp only [List.length_set,List.length_replicate,List.length_append];omega) | (simp;done) | (simp;omega))) rfl (zS (zaT rfl (by first | omega | (simp only [List.length_set,List.length_replicate,List.length_append];omega) | (simp;done) | (simp;omega))) (zS rfl (zS rfl (zS rfl rfl)))) ⟨⟨_,rfl,zcd⟩,trivial⟩ (by decide) ?_)
 rintro v1 h1' ⟨rfl,rfl⟩
 refine ⟨.tuple #[],[zH qp (u8 Lo) false,zH qd (u8 Ld) false,cw (pkL x qp 0 qd 1),cw (u8 m20++zay zB ((24+x.da.length - 16) - 8))],[],(by simp [zaN]),⟨rfl,⟨rfl,⟨rfl,⟨(zer hm20 (by first | omega | (simp only [List.length_set,List.length_replicate,List.length_append];omega) | (simp;done) | (simp;omega))),trivial⟩⟩⟩⟩,trivial, ?_⟩
 refine zE (zT [(8,sv 3 0 (16+8) (16+8+((24+x.da.length - 16) - 8))),(6,bv (x.k==3)),(5,bv (x.k==2)),(1,pv 2 0)] (zJ (zJ (zM (o_d 2 [(181,bv (!(x.k==3))),(180,bv (x.k==3))] (zE (zA (qK (t:= !(x.k==3)) rfl (fun _=>?_) (fun q=>by rw [(by rw [(by rw [hk];rfl:(x.k==3)=false)];rfl:(!(x.k==3))=true)] at q;cases q)))))))))
 refine zJ (zM (o_d 2 [(183,pv 2 5),(182,sv 3 0 (16+8) (16+8+((24+x.da.length - 16) - 8)))] (o_s (by refine zX (v:=iv x.fp) rfl rfl ?_;exact rfl) ?_)))
 obtain ⟨m21,hm21⟩: ∃z9,zbs m20 16 2 x.fp=z9:=⟨_,rfl⟩
 have hm21l:m21.length=m20.length:=by rw [←hm21,zY]
 have hm21n:m21.length=16+8:=by rw [hm21l]<;>(first | omega | (simp only [List.length_set,List.length_replicate,List.length_append];omega) | (simp;done) | (simp;omega))
 refine qT (zdH [3] [zH (some (0,16+8+((24+x.da.length - 16) - 8))) (u8 (m20++List.replicate ((24+x.da.length - 16) - 8) 0)) true] [zQ (some (0,16+8+((24+x.da.length - 16) - 8))) 0 m20.length,iv 16,iv 2,iv x.fp] (zet (some (0,16+8+((24+x.da.length - 16) - 8))) (m20++List.replicate ((24+x.da.length - 16) - 8) 0) m20 (zhb (l:=m20) (n:=16+8) (r:=((24+x.da.length - 16) - 8)) (by first | omega | (simp only [List.length_set,List.length_replicate,List.length_append];omega) | (simp;done) | (simp;omega))) 16 2 x.fp (by first | omega | (simp only [List.length_set,List.length_replicate,List.length_append];omega) | (simp;done) | (simp;omega)) (by first | omega | (simp only [List.length_set,List.length_replicate,List.length_append];omega) | (simp;done) | (simp;omega)) (by first | omega | (simp only [List.length_set,List.length_replicate,List.length_append];omega) | (simp;done) | (simp;omega))) rfl (zS (zaT rfl (by first | omega | (simp only [List.length_set,List.length_replicate,List.length_append];omega) | (simp;done) | (simp;omega))) (zS rfl (zS rfl (zS rfl rfl)))) ⟨⟨_,rfl,zcd⟩,trivial⟩ (by decide) ?_)
 rintro v1 h1' ⟨rfl,rfl⟩
 refine ⟨.tuple #[],[zH qp (u8 Lo) false,zH qd (u8 Ld) false,cw (pkL x qp 0 qd 1),cw (u8 m21++zay zB ((24+x.da.length - 16) - 8))],[],(by simp [zaN]),⟨rfl,⟨rfl,⟨rfl,⟨(zer hm21 (by first | omega | (simp only [List.length_set,List.length_replicate,List.length_append];omega) | (simp;done) | (simp;omega))),trivial⟩⟩⟩⟩,trivial, ?_⟩
 refine zE (zA (zM (o_d 2 [(187,pv 2 6),(186,sv 3 0 (16+8) (16+8+((24+x.da.length - 16) - 8)))] (o_s (by refine zX (v:=iv x.tp) rfl rfl ?_;exact rfl) ?_))))
 obtain ⟨m22,hm22⟩: ∃z9,zbs m21 18 2 x.tp=z9:=⟨_,rfl⟩
 have hm22l:m22.length=m21.length:=by rw [←hm22,zY]
 have hm22n:m22.length=16+8:=by rw [hm22l]<;>(first | omega | (simp only [List.length_set,List.length_replicate,List.length_append];omega) | (simp;done) | (simp;omega))
 refine qT (zdH [3] [zH (some (0,16+8+((24+x.da.length - 16) - 8))) (u8 (m21++List.replicate ((24+x.da.length - 16) - 8) 0)) true] [zQ (some (0,16+8+((24+x.da.length - 16) - 8))) 0 m21.length,iv 18,iv 2,iv x.tp] (zet (some (0,16+8+((24+x.da.length - 16) - 8))) (m21++List.replicate ((24+x.da.length - 16) - 8) 0) m21 (zhb (l:=m21) (n:=16+8) (r:=((24+x.da.length - 16) - 8)) (by first | omega | (simp only [List.length_set,List.length_replicate,List.length_append];omega) | (simp;done) | (simp;omega))) 18 2 x.tp (by first | omega | (simp only [List.length_set,List.length_replicate,List.length_append];omega) | (simp;done) | (simp;omega)) (by first | omega | (simp only [List.length_set,List.length_replicate,List.length_append];omega) | (simp;done) | (simp;omega)) (by first | omega | (simp only [List.length_set,List.length_replicate,List.length_append];omega) | (simp;done) | (simp;omega))) rfl (zS (zaT rfl (by first | omega | (simp only [List.length_set,List.length_replicate,List.length_append];omega) | (simp;done) | (simp;omega))) (zS rfl (zS rfl (zS rfl rfl)))) ⟨⟨_,rfl,zcd⟩,trivial⟩ (by decide) ?_)
 rintro v1 h1' ⟨rfl,rfl⟩
 refine ⟨.tuple #[],[zH qp (u8 Lo) false,zH qd (u8 Ld) false,cw (pkL x qp 0 qd 1),cw (u8 m22++zay zB ((24+x.da.length - 16) - 8))],[],(by simp [zaN]),⟨rfl,⟨rfl,⟨rfl,⟨(zer hm22 (by first | omega | (simp only [List.length_set,List.length_replicate,List.length_append];omega) | (simp;done) | (simp;omega))),trivial⟩⟩⟩⟩,trivial, ?_⟩
 refine zE (zA (zJ (zM (o_d 2 [(191,pv 2 12),(190,sv 3 0 (16+8) (16+8+((24+x.da.length - 16) - 8)))] (o_s (by refine zX (v:=zQ qd 1 x.da.length) rfl rfl ?_;exact rfl) ?_)))))
 obtain ⟨m23,hm23⟩: ∃z9,m22++x.da=z9:=⟨_,rfl⟩
 have hm23l:m23.length=16+8+x.da.length:=by rw [←hm23,List.length_append]<;>(first | omega | (simp only [List.length_set,List.length_replicate,List.length_append];omega) | (simp;done) | (simp;omega))
 refine o_appF (q:=x.da.length) (r:=((24+x.da.length - 16) - 8)) (r2:=(((24+x.da.length - 16) - 8) - x.da.length)) (n:=16+8) (k:=3) (cs:=u8 m22) (xs:=u8 x.da) (cs2:=u8 m23) (zl:=zB) rfl rfl (by omega) rfl (by rw [qV]<;>(first | omega | (simp only [List.length_set,List.length_replicate,List.length_append];omega) | (simp;done) | (simp;omega))) rfl (zfj _ _ _ hrd.nil) (ze7 rfl rfl hrd) (by rw [qV]<;>(first | omega | (simp only [List.length_set,List.length_replicate,List.length_append];omega) | (simp;done) | (simp;omega))) (by rw [zeN,hm23]) rfl ?_
 refine o_d 1 [(8,sv 3 0 (16+8+x.da.length) (16+8+x.da.length+(((24+x.da.length - 16) - 8) - x.da.length)))] (zE ?_)
 have hB:bldB x=m23:=by
  unfold bldB;rw [if_neg (by omega),if_pos hk]
  unfold bldS bldH;rw [hm14,hm15,hm16,hm18,hm19,hm20,hm21,hm22,hm23]
 have hml:m23.length=(24+x.da.length):=by rw [hm23l]<;>omega
 refine ⟨⟨reg [(8,zQ (some (0,(24+x.da.length))) 3 (24+x.da.length)),(5,bv (x.k==2)),(1,pv 2 0)],[zH qp (u8 Lo) false,zH qd (u8 Ld) false,cw (pkL x qp 0 qd 1),zH (some (0,(24+x.da.length))) (u8 m23) true]⟩,Wk.ren [0,1,2,3] rfl rfl (by decide) ⟨conv_sv rfl (by omega) (by omega),⟨rfl,⟨rfl,trivial⟩⟩⟩ ⟨.inl (zF (zG _)),⟨.inl (zF (zG _)),⟨.inl (zdx rfl rfl),⟨.inl (conv_cells (by omega)),trivial⟩⟩⟩⟩, ?_⟩
 refine zJ (zM (o_d 1 [(194,zQ (some (0,(24+x.da.length))) 3 (24+x.da.length))] ?_))
 have hsl:=sumB_length m23
 refine qT (zaG [3] [zH (some (0,(24+x.da.length))) (u8 m23) false] [zQ (some (0,(24+x.da.length))) 0 m23.length] (summedC (some (0,(24+x.da.length))) m23 m23 (RowOf.whole rfl (by omega)) (by omega) (by omega)) rfl (zS (zaT rfl (by first | omega | (simp only [List.length_set,List.length_replicate,List.length_append];omega) | (simp;done) | (simp;omega))) rfl) ⟨⟨_,rfl,zZ (zG _) rfl (fun q=>rfl)⟩,trivial⟩ (by decide) ?_)
 rintro v1 h1' ⟨c24,rfl,rfl⟩
 refine ⟨zab [_] [_],sv 4 0 ((zcX m23).length) ((zcX m23).length+c24),[zH qp (u8 Lo) false,zH qd (u8 Ld) false,cw (pkL x qp 0 qd 1),zH (some (0,(24+x.da.length))) (u8 m23) true],[cw (u8 (zcX m23)++zay zB c24)],rfl,⟨rfl,⟨rfl,⟨rfl,⟨rfl,trivial⟩⟩⟩⟩,⟨(Option.some.inj (zV (zbD (zcX m23) c24))).symm,trivial⟩, ?_⟩
 refine qT (zfp (a1:= [sv 0 0 ((zcX m23).length) ((zcX m23).length+c24)]) [4] [u8 ((zcX m23)++List.replicate c24 0)] (refOf1C (some (0,(zcX m23).length+c24)) ((zcX m23)++List.replicate c24 0) (zcX m23) (zhb (l:=zcX m23) (n:=(zcX m23).length) (r:=c24) (by first | omega | (simp only [List.length_set,List.length_replicate,List.length_append];omega) | (simp;done) | (simp;omega))) (by first | omega | (simp only [List.length_set,List.length_replicate,List.length_append];omega) | (simp;done) | (simp;omega))) rfl (fun _=>rfl) ⟨⟨_,congrArg some (zhQ _ _)⟩,zG _,trivial⟩ rfl ?_)
 have hy25:=zkL (zcX m23)
 refine o_d 1 [(9,iv (65535 - zcc (zcX m23)))] (zE (zA (zJ (zJ (zM (o_d 2 [(198,bv (x.k==2)),(197,bv (x.k==2))] (zce (b:=x.k==2) 198 rfl (fun k26=>?_) (fun q=>by rw [(by rw [hk];rfl:(x.k==2)=true)] at q;cases q))))))))
 refine o_d 3 [(201,bv ((65535 - zcc (zcX m23))==0)),(200,bv ((65535 - zcc (zcX m23))==0)),(199,iv (65535 - zcc (zcX m23)))] (zE (zA (qK (t:=(65535 - zcc (zcX m23))==0) rfl (fun h27=>?_) (fun h27=>?_))))
 ·skip
  have h27':65535 - zcc (zcX m23)=0:=zaL h27
  refine zM (o_d 1 [(9,iv 65535)] (zE (zA (zhm (fun s=> ∃(sx:Int),0=0∧(sx=bldX x)∧s=⟨reg [(9,iv sx),(8,zQ (some (0,(24+x.da.length))) 3 (24+x.da.length)),(1,pv 2 0)],[zH qp (u8 Lo) false,zH qd (u8 Ld) false,cw (pkL x qp 0 qd 1),zH (some (0,(24+x.da.length))) (u8 m23) true,cw (u8 (zcX m23)++zay zB c24)]⟩) ?_ ?_))))
  ·skip
   refine zJ (zM (o_d 2 [(203,bv (x.k==2)),(202,bv (x.k==2))] (zce (b:=x.k==2) 203 rfl (fun k28=>?_) (fun q=>by rw [(by rw [hk];rfl:(x.k==2)=true)] at q;cases q))))
   refine o_d 1 [(204,pv 2 9)] (qJ rfl (o_s (by refine zX (v:=bv x.ba) rfl rfl ?_;exact rfl) ?_))
   refine o_d 1 [(206,bv x.ba)] (zE (zA (qK (t:=x.ba) rfl (fun h29=>?_) (fun h29=>?_))))
   ·skip
    refine zM (o_d 1 [(9,iv 0)] (zE (⟨⟨reg [(9,iv 0),(8,zQ (some (0,(24+x.da.length))) 3 (24+x.da.length)),(1,pv 2 0)],[zH qp (u8 Lo) false,zH qd (u8 Ld) false,cw (pkL x qp 0 qd 1),zH (some (0,(24+x.da.length))) (u8 m23) true,cw (u8 (zcX m23)++zay zB c24)]⟩, ?_⟩)))
    refine ⟨?_, ?_⟩
    ·exact Wk.ren [0,1,2,3,4] rfl rfl (by decide) ⟨rfl,⟨rfl,⟨rfl,trivial⟩⟩⟩ ⟨.inl (zF (zG _)),⟨.inl (zF (zG _)),⟨.inl (zdx rfl rfl),⟨.inl (zF (zG _)),⟨.inl (zV (zbD (zcX m23) c24)),trivial⟩⟩⟩⟩⟩
    ·exact ⟨0,rfl,(by rw [bldX,if_pos hk,hB];rw [if_pos h29]),rfl⟩
   refine qM (⟨⟨reg [(9,iv 65535),(8,zQ (some (0,(24+x.da.length))) 3 (24+x.da.length)),(1,pv 2 0)],[zH qp (u8 Lo) false,zH qd (u8 Ld) false,cw (pkL x qp 0 qd 1),zH (some (0,(24+x.da.length))) (u8 m23) true,cw (u8 (zcX m23)++zay zB c24)]⟩, ?_⟩)
   refine ⟨?_, ?_⟩
   ·exact Wk.ren [0,1,2,3,4] rfl rfl (by decide) ⟨rfl,⟨rfl,⟨rfl,trivial⟩⟩⟩ ⟨.inl (zF (zG _)),⟨.inl (zF (zG _)),⟨.inl (zdx rfl rfl),⟨.inl (zF (zG _)),⟨.inl (zV (zbD (zcX m23) c24)),trivial⟩⟩⟩⟩⟩
   ·exact ⟨65535,rfl,(by rw [bldX,if_pos hk,hB];rw [if_neg (by rw [h29];simp),if_pos (by omega)]),rfl⟩
  rintro s ⟨sx,-,hsx,rfl⟩
  refine zJ (zM (o_d 2 [(208,pv 2 0),(207,zQ (some (0,(24+x.da.length))) 3 (24+x.da.length))] (o_s (by refine zX (v:=iv x.k) rfl rfl ?_;exact rfl) ?_)))
  refine qT (zag (place22C (by omega) (placeC x.k)) rfl rfl rfl ?_)
  refine o_d 1 [(211,iv sx)] ?_
  obtain ⟨m30,hm30⟩: ∃z9,zbs m23 22 2 sx=z9:=⟨_,rfl⟩
  have hm30l:m30.length=m23.length:=by rw [←hm30,zY]
  refine qT (zaG [3] [zH (some (0,(24+x.da.length))) (u8 m23) true] [zQ (some (0,(24+x.da.length))) 0 m23.length,iv 22,iv 2,iv sx] (zet (some (0,(24+x.da.length))) m23 m23 (RowOf.whole rfl (by omega)) 22 2 sx (by first | omega | (simp only [List.length_set,List.length_replicate,List.length_append];omega) | (simp;done) | (simp;omega)) (by first | omega | (simp only [List.length_set,List.length_replicate,List.length_append];omega) | (simp;done) | (simp;omega)) (by first | omega | (simp only [List.length_set,List.length_replicate,List.length_append];omega) | (simp;done) | (simp;omega))) rfl (zS (zaT rfl (by first | omega | (simp only [List.length_set,List.length_replicate,List.length_append];omega) | (simp;done) | (simp;omega))) (zS rfl (zS rfl (zS rfl rfl)))) ⟨⟨_,rfl,zZ (zG _) rfl (fun q=>rfl)⟩,trivial⟩ (by decide) ?_)
  rintro v1 h1' ⟨rfl,rfl⟩
  refine ⟨(fun i q=>zcU q),.tuple #[],[zH qp (u8 Lo) false,zH qd (u8 Ld) false,cw (pkL x qp 0 qd 1),zH (some (0,(24+x.da.length))) (u8 m30) true,cw (u8 (zcX m23)++zay zB c24)],[],(by simp [zaN]),⟨rfl,⟨rfl,⟨rfl,⟨(zcT hm30),⟨rfl,trivial⟩⟩⟩⟩⟩,trivial, ?_⟩
  refine zE (zA (zJ (zM (o_d 3 [(3,iv 0),(2,zQ (some (0,(24+x.da.length))) 3 (24+x.da.length)),(213,zQ (some (0,(24+x.da.length))) 3 (24+x.da.length))] (zE (zA (qS ?_)))))))
  have he:bld x=m30:=by unfold bld;rw [hB,zje,if_neg (by omega),←hsx];exact hm30
  have hlen:m30.length=(24+x.da.length):=by omega
  exact ⟨trivial,[zQ (some (0,(24+x.da.length))) 3 (24+x.da.length),iv 0],(zR rfl (zR rfl rfl)),(zK rfl (zK rfl z5)),⟨reg [],[zH qp (u8 Lo) false,zH qd (u8 Ld) false,zH (some (0,(24+x.da.length))) (u8 m30) true]⟩,[0,1,3],[zQ (some (0,(24+x.da.length))) 2 (24+x.da.length),iv 0],WkR.of (rs:= []) rfl rfl (by decide) trivial ⟨.inl (zF (zG _)),⟨.inl (zF (zG _)),⟨.inl (zF (zG _)),trivial⟩⟩⟩,rfl,(by rw [he,hlen];rfl),(by rw [he,hlen])⟩
 have h27': ¬(65535 - zcc (zcX m23)=0):=zaM h27
 refine qM (zA (zhm (fun s=> ∃(sx:Int),0=0∧(sx=bldX x)∧s=⟨reg [(9,iv sx),(8,zQ (some (0,(24+x.da.length))) 3 (24+x.da.length)),(1,pv 2 0)],[zH qp (u8 Lo) false,zH qd (u8 Ld) false,cw (pkL x qp 0 qd 1),zH (some (0,(24+x.da.length))) (u8 m23) true,cw (u8 (zcX m23)++zay zB c24)]⟩) ?_ ?_))
 ·skip
  refine zJ (zM (o_d 2 [(203,bv (x.k==2)),(202,bv (x.k==2))] (zce (b:=x.k==2) 203 rfl (fun k31=>?_) (fun q=>by rw [(by rw [hk];rfl:(x.k==2)=true)] at q;cases q))))
  refine o_d 1 [(204,pv 2 9)] (qJ rfl (o_s (by refine zX (v:=bv x.ba) rfl rfl ?_;exact rfl) ?_))
  refine o_d 1 [(206,bv x.ba)] (zE (zA (qK (t:=x.ba) rfl (fun h32=>?_) (fun h32=>?_))))
  ·skip
   refine zM (o_d 1 [(9,iv 0)] (zE (⟨⟨reg [(9,iv 0),(8,zQ (some (0,(24+x.da.length))) 3 (24+x.da.length)),(1,pv 2 0)],[zH qp (u8 Lo) false,zH qd (u8 Ld) false,cw (pkL x qp 0 qd 1),zH (some (0,(24+x.da.length))) (u8 m23) true,cw (u8 (zcX m23)++zay zB c24)]⟩, ?_⟩)))
   refine ⟨?_, ?_⟩
   ·exact Wk.ren [0,1,2,3,4] rfl rfl (by decide) ⟨rfl,⟨rfl,⟨rfl,trivial⟩⟩⟩ ⟨.inl (zF (zG _)),⟨.inl (zF (zG _)),⟨.inl (zdx rfl rfl),⟨.inl (zF (zG _)),⟨.inl (zV (zbD (zcX m23) c24)),trivial⟩⟩⟩⟩⟩
   ·exact ⟨0,rfl,(by rw [bldX,if_pos hk,hB];rw [if_pos h32]),rfl⟩
  refine qM (⟨⟨reg [(9,iv (65535 - zcc (zcX m23))),(8,zQ (some (0,(24+x.da.length))) 3 (24+x.da.length)),(1,pv 2 0)],[zH qp (u8 Lo) false,zH qd (u8 Ld) false,cw (pkL x qp 0 qd 1),zH (some (0,(24+x.da.length))) (u8 m23) true,cw (u8 (zcX m23)++zay zB c24)]⟩, ?_⟩)
  refine ⟨?_, ?_⟩
  ·exact Wk.ren [0,1,2,3,4] rfl rfl (by decide) ⟨rfl,⟨rfl,⟨rfl,trivial⟩⟩⟩ ⟨.inl (zF (zG _)),⟨.inl (zF (zG _)),⟨.inl (zdx rfl rfl),⟨.inl (zF (zG _)),⟨.inl (zV (zbD (zcX m23) c24)),trivial⟩⟩⟩⟩⟩
  ·exact ⟨(65535 - zcc (zcX m23)),rfl,(by rw [bldX,if_pos hk,hB];rw [if_neg (by rw [h32];simp),if_neg (by omega)]),rfl⟩
 rintro s ⟨sx,-,hsx,rfl⟩
 refine zJ (zM (o_d 2 [(208,pv 2 0),(207,zQ (some (0,(24+x.da.length))) 3 (24+x.da.length))] (o_s (by refine zX (v:=iv x.k) rfl rfl ?_;exact rfl) ?_)))
 refine qT (zag (place22C (by omega) (placeC x.k)) rfl rfl rfl ?_)
 refine o_d 1 [(211,iv sx)] ?_
 obtain ⟨m33,hm33⟩: ∃z9,zbs m23 22 2 sx=z9:=⟨_,rfl⟩
 have hm33l:m33.length=m23.length:=by rw [←hm33,zY]
 refine qT (zaG [3] [zH (some (0,(24+x.da.length))) (u8 m23) true] [zQ (some (0,(24+x.da.length))) 0 m23.length,iv 22,iv 2,iv sx] (zet (some (0,(24+x.da.length))) m23 m23 (RowOf.whole rfl (by omega)) 22 2 sx (by first | omega | (simp only [List.length_set,List.length_replicate,List.length_append];omega) | (simp;done) | (simp;omega)) (by first | omega | (simp only [List.length_set,List.length_replicate,List.length_append];omega) | (simp;done) | (simp;omega)) (by first | omega | (simp only [List.length_set,List.length_replicate,List.length_append];omega) | (simp;done) | (simp;omega))) rfl (zS (zaT rfl (by first | omega | (simp only [List.length_set,List.length_replicate,List.length_append];omega) | (simp;done) | (simp;omega))) (zS rfl (zS rfl (zS rfl rfl)))) ⟨⟨_,rfl,zZ (zG _) rfl (fun q=>rfl)⟩,trivial⟩ (by decide) ?_)
 rintro v1 h1' ⟨rfl,rfl⟩
 refine ⟨(fun i q=>zcU q),.tuple #[],[zH qp (u8 Lo) false,zH qd (u8 Ld) false,cw (pkL x qp 0 qd 1),zH (some (0,(24+x.da.length))) (u8 m33) true,cw (u8 (zcX m23)++zay zB c24)],[],(by simp [zaN]),⟨rfl,⟨rfl,⟨rfl,⟨(zcT hm33),⟨rfl,trivial⟩⟩⟩⟩⟩,trivial, ?_⟩
 refine zE (zA (zJ (zM (o_d 3 [(3,iv 0),(2,zQ (some (0,(24+x.da.length))) 3 (24+x.da.length)),(213,zQ (some (0,(24+x.da.length))) 3 (24+x.da.length))] (zE (zA (qS ?_)))))))
 have he:bld x=m33:=by unfold bld;rw [hB,zje,if_neg (by omega),←hsx];exact hm33
 have hlen:m33.length=(24+x.da.length):=by omega
 exact ⟨trivial,[zQ (some (0,(24+x.da.length))) 3 (24+x.da.length),iv 0],(zR rfl (zR rfl rfl)),(zK rfl (zK rfl z5)),⟨reg [],[zH qp (u8 Lo) false,zH qd (u8 Ld) false,zH (some (0,(24+x.da.length))) (u8 m33) true]⟩,[0,1,3],[zQ (some (0,(24+x.da.length))) 2 (24+x.da.length),iv 0],WkR.of (rs:= []) rfl rfl (by decide) trivial ⟨.inl (zF (zG _)),⟨.inl (zF (zG _)),⟨.inl (zF (zG _)),trivial⟩⟩⟩,rfl,(by rw [he,hlen];rfl),(by rw [he,hlen])⟩
end Go.Rh

set_option maxHeartbeats 1000000
namespace Go.Rh
theorem bld_pack {x:Pk} {qo qd:Option (Nat×Nat)} {ko kd kp o c kb nb:Nat} :zho (zaA [(9,Value.int .i64 0),(1,.bool false),(1,.int .i64 0),(2,.slice none 0 0),(1,.pointer none),(1,.slice none 0 0)]) [(0,13,pkV x qo ko qd kd),(13,1,pv kp 0),(14,1,zQ (some (o,c)) kb nb)]=some (qR x qo ko qd kd kp (some (o,c)) kb nb):=by kernel_rfl
theorem ParseC3 {P:Program} {q:Option (Nat×Nat)} {L l:List Int} {e:Int} {x:Pk} (hp:qW l=(e,x)) (h:Env P "roundhouse/wire.Parse" [zQ q 0 l.length] [zH q (u8 L) false] (fun v h'=>v=zea l 1 2∧h'=zH q (u8 L) false::zd9 (qW l).2)):
  Env P "roundhouse/wire.Parse" [zQ q 0 l.length] [zH q (u8 L) false] (fun v h'=>v= .tuple #[pkV x (zD x.op) 1 (zD x.da) 2,iv e]∧h'= [zH q (u8 L) false,zH (zD x.op) (u8 x.op) true,zH (zD x.da) (u8 x.da) true]):=by
 simpa only [zea,zd9,hp] using h
theorem take_e {p:q9} {nr:zdS} {b:List Int} {e:Int} {x:Pk} (hp:qW b=(e,x)) (h: ¬e=0):zaB p nr b=(zex e,nr):=by unfold zaB;rw [hp];exact if_pos h
theorem take_pi {p:q9} {nr:zdS} {b:List Int} {x:Pk} (hp:qW b=(0,x)) (h: ¬x.pi=0):zaB p nr b=(zex 6,nr):=by unfold zaB;rw [hp,if_neg (by simp)];exact if_pos h
theorem take_li {p:q9} {nr:zdS} {b:List Int} {x:Pk} (hp:qW b=(0,x)) (h:x.pi=0) (h2:x.li < 2):zaB p nr b=(zex 7,nr):=by unfold zaB;rw [hp,if_neg (by simp),if_neg (by simpa using h)];exact if_pos h2
theorem take_go {p:q9} {nr:zdS} {b m:List Int} {x:Pk} (hp:qW b=(0,x)) (h:x.pi=0) (h2: ¬x.li < 2) (hm:ageL b x.ba=m):zaB p nr b=go9S p nr x m:=by subst hm;unfold zaB;rw [hp,if_neg (by simp),if_neg (by simpa using h)];exact if_neg h2
theorem go_f3 {p:q9} {nr:zdS} {x:Pk} {m:List Int} {k:Nat} (h:x.k=3) (h2:x.t=p 1) (h3: ¬fauE p x) (h4:zdi (qC p) (fauF p x)=(k:Int)):go9S p nr x m=(⟨0,(k:Int),false,fauL p m k⟩,nr):=by unfold go9S;rw [if_pos h,if_neg (fun q=>q h2),if_neg h3,h4,if_neg (by omega)];rfl
theorem go_i1 {p:q9} {nr:zdS} {x:Pk} {m:List Int} (h: ¬x.k=3) (h2:x.t=p 1∧x.tp=p 2) (h4:(inP p x).1 < 0):go9S p nr x m=(zex 9,nr):=by unfold go9S;rw [if_neg h,if_pos h2,if_pos h4]
theorem go_i2 {p:q9} {nr:zdS} {x:Pk} {m:List Int} {k:Nat} (h: ¬x.k=3) (h2:x.t=p 1∧x.tp=p 2) (h4:(inP p x).1=(k:Int)):go9S p nr x m=(⟨0,(k:Int),(inP p x).2,inL p nr x m k⟩,nr):=by unfold go9S;rw [if_neg h,if_pos h2,h4,if_neg (by omega)];rfl
theorem go_n {p:q9} {nr:zdS} {x:Pk} {m:List Int} (h: ¬x.k=3) (h2: ¬(x.t=p 1∧x.tp=p 2)) (h4:(zbL (zek p x.fr x.fp) 0 64).2=false):go9S p nr x m=(zex 8,nr):=by unfold go9S;rw [if_neg h,if_neg h2,if_neg (by rw [h4];simp)]
theorem go_o {p:q9} {nr:zdS} {x:Pk} {m:List Int} {s:Nat} (h: ¬x.k=3) (h2: ¬(x.t=p 1∧x.tp=p 2)) (h4:(zbL (zek p x.fr x.fp) 0 64).2=true) (hs:(zbL (zek p x.fr x.fp) 0 64).1=(s:Int)):go9S p nr x m=(⟨0,-1,false,outL p x m (s:Nat)⟩,outN nr x s):=by unfold go9S;rw [if_neg h,if_neg h2,if_pos h4,hs];rfl
theorem outL_length {p:q9} {x:Pk} {m:List Int} {s:Int} :(outL p x m s).length=m.length:=by
 have hn: ∀(l:List Int) ba so a b,(natL l ba so a b).length=l.length:=fun l ba so a b=>by unfold natL;simp only;rw [zad,qY,qY,zY,zY,zY]
 have hw: ∀(l:List Int) ba a n v,(zck l ba a n v).length=l.length:=fun l ba a n v=>by unfold zck;rw [zad,qY,zY]
 unfold outL;split
 ·rw [hw,hn]
 ·split
  ·rw [hn]
  ·rw [hw,hn]
theorem inL_length {p:q9} {nr:zdS} {x:Pk} {m:List Int} {s:Nat} :(inL p nr x m s).length=m.length:=by
 have hn: ∀(l:List Int) ba so a b,(natL l ba so a b).length=l.length:=fun l ba so a b=>by unfold natL;simp only;rw [zad,qY,qY,zY,zY,zY]
 have hw: ∀(l:List Int) ba a n v,(zck l ba a n v).length=l.length:=fun l ba a n v=>by unfold zck;rw [zad,qY,zY]
 unfold inL;split
 ·rw [hn]
 ·split
  ·rw [hw,hn]
  ·rw [hn]
theorem oc_some {e s:Int} {c:Bool} {m:List Int} {n k:Nat} (h:m.length=n) (h0:0 < n):ocV ⟨e,s,c,m⟩ k= .agg #[iv e,iv s,bv c,zQ (some (0,n)) k n]:=by
 subst h;simp only [ocV,ocL];rw [zdr h0]
theorem ob_some {m:List Int} {n:Nat} (h:m.length=n) (h0:0 < n):zH (zD m) (u8 m) true=zH (some (0,n)) (u8 m) true:=by
 subst h;rw [zdr h0]
theorem pk_op {l:List Int} (h:24≤l.length):(zfe l).op.length+24≤l.length:=by
 unfold zfe;split
 ·simpa using h
 split
 ·simpa using h
 ·simp only [List.length_take,List.length_drop];omega
theorem FindC2 {P:Program} {p:q9} {a b:Int} {s:Nat} (hs:(zbL (zek p a b) 0 64).1=(s:Int)) (h:Env P "roundhouse/pool.Find" [zaq p,.int .i64 a,.int .i64 b] [] (Ans (.tuple #[.int .i64 (zbL (zek p a b) 0 64).1,.bool (zbL (zek p a b) 0 64).2]) [])):Env P "roundhouse/pool.Find" [zaq p,.int .i64 a,.int .i64 b] [] (Ans (.tuple #[iv (s:Int),bv (zbL (zek p a b) 0 64).2]) []):=by
 rwa [hs] at h
end Go.Rh

set_option maxHeartbeats 1000000
namespace Go.Rh
theorem TakeC9 {P:Program} [PrC P] (p:q9) (nr:zdS) (w9:Nat) (q:Option (Nat×Nat)) (L l:List Int) (hr:RowOf q L l) (hl:l.length≤100000) (H:PRng p) (hnr: ∀k,0≤(nr k).1∧(nr k).1 < 4294967296) (hnf:(qW l).2.k≠3):
    Env P "(*roundhouse/plane.Plane).Take" [pv 0 0,zQ q 1 l.length] ([cw (zN p true nr (slV 2 127 (some w9))),zH q (u8 L) false,slB zI (ii (qC p)) (some w9)]) (fun v h'=>v=ocV (zaB p nr l).1 3∧h'= [cw (zN p true (zaB p nr l).2 (slV 2 127 (some w9))),zH q (u8 L) false,slB zI (ii (qC p)) (some w9),zH (zD (zaB p nr l).1.b) (u8 (zaB p nr l).1.b) true]):=by
 refine Env.by4 PrC.plane_Plane_Take ?_
 unfold zbS
 show GC _ 3 _ _ ⟨reg [(0,pv 0 0),(1,zQ q 1 l.length)],[cw (zN p true nr (slV 2 127 (some w9))),zH q (u8 L) false,slB zI (ii (qC p)) (some w9)]⟩
 have hp1:=H.a
 have hp2:=H.b
 refine zJ (zM (o_b 1 [(4,pv 3 0)] [cw (zN p true nr (slV 2 127 (some w9))),zH q (u8 L) false,slB zI (ii (qC p)) (some w9),cw [iv 0,iv 0,bv false,.slice none 0 0]] (zE (zA (zJ (zJ (zM (o_d 4 [(13,pv 0 330),(12,pv 0 0),(11,pv 0 0),(10,pv 0 0)] (o_s (by refine zX (v:=bv true) rfl rfl ?_;exact (zfY 0).trans rfl) ?_)))))))))
 refine o_d 1 [(15,bv false)] (zE (zA (zbx rfl (qM (zA (zJ (zM (o_d 1 [(18,zQ q 1 l.length)] ?_))))))))
 obtain ⟨⟨e1,xe1⟩,he1⟩: ∃z9,qW l=z9:=⟨_,rfl⟩
 refine qT (zaG [1] [zH q (u8 L) false] [zQ q 0 l.length] (ParseC3 he1 (ParseC q L l hr (by omega))) rfl (zS (qH rfl) rfl) ⟨⟨_,rfl,zZ (zG _) rfl (fun q=>q)⟩,trivial⟩ (by decide) ?_)
 rintro v1 h1' ⟨rfl,rfl⟩
 refine ⟨zab [_] [_,_],.tuple #[pkV xe1 (zD xe1.op) 4 (zD xe1.da) 5,iv e1],[cw (zN p true nr (slV 2 127 (some w9))),zH q (u8 L) false,slB zI (ii (qC p)) (some w9),cw [iv 0,iv 0,bv false,.slice none 0 0]],[zH (zD xe1.op) (u8 xe1.op) true,zH (zD xe1.da) (u8 xe1.da) true],(ren_pkT rfl rfl),⟨rfl,⟨(zaS rfl rfl),⟨rfl,⟨rfl,trivial⟩⟩⟩⟩,⟨(Option.some.inj (zF (zG _))).symm,⟨(Option.some.inj (zF (zG _))).symm,trivial⟩⟩, ?_⟩
 refine o_b 6 [(6,iv e1),(5,pv 6 0),(21,iv e1),(20,pkV xe1 (zD xe1.op) 4 (zD xe1.da) 5),(17,.tuple #[pkV xe1 (zD xe1.op) 4 (zD xe1.da) 5,iv e1])] [cw (zN p true nr (slV 2 127 (some w9))),zH q (u8 L) false,slB zI (ii (qC p)) (some w9),cw [iv 0,iv 0,bv false,.slice none 0 0],zH (zD xe1.op) (u8 xe1.op) true,zH (zD xe1.da) (u8 xe1.da) true,cw (pkL xe1 (zD xe1.op) 4 (zD xe1.da) 5)] (zE (zA (zJ (qX (zJ (zM (o_d 3 [(22,bv (e1 !=0)),(24,bv (e1 !=0)),(23,iv e1)] (zE (zA (qK (t:=e1 !=0) rfl (fun h2=>?_) (fun h2=>?_)))))))))))
 ·skip
  have h2':e1≠0:=zgC h2
  refine zJ (zM (o_d 1 [(25,iv e1)] (qT (zag (dropC e1) rfl rfl rfl (o_b 1 [] [cw (zN p true nr (slV 2 127 (some w9))),zH q (u8 L) false,slB zI (ii (qC p)) (some w9),cw [iv e1,iv (-1),bv false,.slice none 0 0],zH (zD xe1.op) (u8 xe1.op) true,zH (zD xe1.da) (u8 xe1.da) true,cw (pkL xe1 (zD xe1.op) 4 (zD xe1.da) 5)] (zE (zA (qS ?_))))))))
  have he:zaB p nr l=(zex e1,nr):=take_e he1 (by assumption)
  exact ⟨trivial,[.agg #[iv e1,iv (-1),bv false,.slice none 0 0]],(zaa rfl rfl rfl rfl),(zK rfl z5),⟨reg [],[cw (zN p true nr (slV 2 127 (some w9))),zH q (u8 L) false,slB zI (ii (qC p)) (some w9),.gone]⟩,[0,1,2,10],[.agg #[iv e1,iv (-1),bv false,.slice none 0 0]],WkR.of (rs:= []) rfl rfl (by decide) trivial ⟨.inl (qF rfl),⟨.inl (zF (zG _)),⟨.inl (q8 (some w9) (fun _=>(zaf _ _))),⟨.inr ⟨rfl,rfl⟩,trivial⟩⟩⟩⟩,(zS (zbn (q:=none) (k:=0) (k':=0) (n:=0) rfl) rfl),(by rw [he];rfl),(by rw [he];rfl)⟩
 have h2': ¬(e1≠0):=zgD h2
 have hk3: ¬xe1.k=3:=by have:=hnf;rw [he1] at this;exact this
 have he0:e1=0:=by omega
 subst he0
 have hp9:=he1
 have hl9:=zcY hp9
 have hx9:=zf1 hp9
 have hop9:xe1.op.length+24≤l.length:=by rw [(zfg hp9).2];exact pk_op hl9.1
 obtain ⟨o,c,rfl⟩: ∃o c,q=some (o,c):=by cases q with | none=>(have:=hr.nil rfl;omega) | some p=>exact ⟨p.1,p.2,rfl⟩
 refine zJ (zM (o_d 1 [(28,pv 6 2)] (o_s (by refine zX (v:=iv xe1.pi) rfl rfl ?_;exact rfl) ?_)))
 refine o_d 2 [(27,bv (xe1.pi !=0)),(30,bv (xe1.pi !=0))] (zE (zA (qK (t:=xe1.pi !=0) rfl (fun h3=>?_) (fun h3=>?_))))
 ·skip
  have h3':xe1.pi≠0:=zgC h3
  refine zJ (zM (qT (zag (dropC 6) rfl rfl rfl (o_b 1 [] [cw (zN p true nr (slV 2 127 (some w9))),zH (some (o,c)) (u8 L) false,slB zI (ii (qC p)) (some w9),cw [iv 6,iv (-1),bv false,.slice none 0 0],zH (zD xe1.op) (u8 xe1.op) true,zH (zD xe1.da) (u8 xe1.da) true,cw (pkL xe1 (zD xe1.op) 4 (zD xe1.da) 5)] (zE (zT [(4,pv 3 0)] (qS ?_)))))))
  have he:zaB p nr l=(zex 6,nr):=take_pi hp9 (by assumption)
  exact ⟨trivial,[.agg #[iv 6,iv (-1),bv false,.slice none 0 0]],(zaa rfl rfl rfl rfl),(zK rfl z5),⟨reg [],[cw (zN p true nr (slV 2 127 (some w9))),zH (some (o,c)) (u8 L) false,slB zI (ii (qC p)) (some w9),.gone]⟩,[0,1,2,10],[.agg #[iv 6,iv (-1),bv false,.slice none 0 0]],WkR.of (rs:= []) rfl rfl (by decide) trivial ⟨.inl (qF rfl),⟨.inl (zF (zG _)),⟨.inl (q8 (some w9) (fun _=>(zaf _ _))),⟨.inr ⟨rfl,rfl⟩,trivial⟩⟩⟩⟩,(zS (zbn (q:=none) (k:=0) (k':=0) (n:=0) rfl) rfl),(by rw [he];rfl),(by rw [he];rfl)⟩
 have h3': ¬(xe1.pi≠0):=zgD h3
 refine zJ (zM (o_d 1 [(33,pv 6 1)] (o_s (by refine zX (v:=iv xe1.li) rfl rfl ?_;exact rfl) ?_)))
 refine o_d 2 [(32,bv (decide (xe1.li < 2))),(35,bv (decide (xe1.li < 2)))] (zE (zT [(32,bv (decide (xe1.li < 2))),(5,pv 6 0),(4,pv 3 0),(0,pv 0 0),(1,zQ (some (o,c)) 1 l.length)] (qK (t:=decide (xe1.li < 2)) rfl (fun h4=>?_) (fun h4=>?_))))
 ·skip
  have h4':xe1.li < 2:=of_decide_eq_true h4
  refine zJ (zM (qT (zag (dropC 7) rfl rfl rfl (o_b 1 [] [cw (zN p true nr (slV 2 127 (some w9))),zH (some (o,c)) (u8 L) false,slB zI (ii (qC p)) (some w9),cw [iv 7,iv (-1),bv false,.slice none 0 0],zH (zD xe1.op) (u8 xe1.op) true,zH (zD xe1.da) (u8 xe1.da) true,cw (pkL xe1 (zD xe1.op) 4 (zD xe1.da) 5)] (zE (zA (qS ?_)))))))
  have he:zaB p nr l=(zex 7,nr):=take_li hp9 (by omega) (by assumption)
  exact ⟨trivial,[.agg #[iv 7,iv (-1),bv false,.slice none 0 0]],(zaa rfl rfl rfl rfl),(zK rfl z5),⟨reg [],[cw (zN p true nr (slV 2 127 (some w9))),zH (some (o,c)) (u8 L) false,slB zI (ii (qC p)) (some w9),.gone]⟩,[0,1,2,10],[.agg #[iv 7,iv (-1),bv false,.slice none 0 0]],WkR.of (rs:= []) rfl rfl (by decide) trivial ⟨.inl (qF rfl),⟨.inl (zF (zG _)),⟨.inl (q8 (some w9) (fun _=>(zaf _ _))),⟨.inr ⟨rfl,rfl⟩,trivial⟩⟩⟩⟩,(zS (zbn (q:=none) (k:=0) (k':=0) (n:=0) rfl) rfl),(by rw [he];rfl),(by rw [he];rfl)⟩
 have h4': ¬(xe1.li < 2):=of_decide_eq_false h4
 refine qM (zA (zJ (zM (o_s (by refine zX (v:=pkV xe1 (zD xe1.op) 4 (zD xe1.da) 5) rfl rfl ?_;exact rfl) ?_))))
 refine o_d 2 [(39,zQ (some (o,c)) 1 l.length),(38,pv 0 0)] (o_s (by refine zep (c:=qR xe1 (zD xe1.op) 4 (zD xe1.da) 5 0 (some (o,c)) 1 l.length) ?_;exact bld_pack) ?_)
 refine o_b 2 [(7,pv 7 0),(41,pv 7 0)] [cw (zN p true nr (slV 2 127 (some w9))),zH (some (o,c)) (u8 L) false,slB zI (ii (qC p)) (some w9),cw [iv 0,iv 0,bv false,.slice none 0 0],zH (zD xe1.op) (u8 xe1.op) true,zH (zD xe1.da) (u8 xe1.da) true,cw (pkL xe1 (zD xe1.op) 4 (zD xe1.da) 5),cw (qR xe1 (zD xe1.op) 4 (zD xe1.da) 5 0 (some (o,c)) 1 l.length)] (zE (zA (zJ (zM (o_d 2 [(43,zQ (some (o,c)) 1 l.length),(42,pv 7 0)] ?_)))))
 obtain ⟨m5,hm5⟩: ∃z9,ageL l xe1.ba=z9:=⟨_,rfl⟩
 have hm5a:Alike l m5:=by rw [←hm5];exact age_alike hp9 (by omega)
 have hm5p:=hm5a.parse hp9
 have hm5l:=hm5p.2.2.2
 have hm5k:=hm5p.2.1
 have hm5b:=hm5p.2.2.1
 have hm5e:m5.length=l.length:=hm5l
 refine qT (zaG [1] [zH (some (o,c)) (u8 L) false] [zQ (some (o,c)) 0 l.length] (chgR hm5 rfl (AgeC _ _ L l hr xe1 hp9 (by omega))) rfl rfl ⟨⟨_,rfl,zZ (zG _) rfl (fun q=>q)⟩,trivial⟩ (by decide) ?_)
 rintro v1 h1' ⟨rfl,rfl⟩
 refine ⟨za5 rfl,.tuple #[zQ (some (0,l.length)) 8 l.length,iv 0],[cw (zN p true nr (slV 2 127 (some w9))),zH (some (o,c)) (u8 L) false,slB zI (ii (qC p)) (some w9),cw [iv 0,iv 0,bv false,.slice none 0 0],zH (zD xe1.op) (u8 xe1.op) true,zH (zD xe1.da) (u8 xe1.da) true,cw (pkL xe1 (zD xe1.op) 4 (zD xe1.da) 5),cw (qR xe1 (zD xe1.op) 4 (zD xe1.da) 5 0 (some (o,c)) 1 l.length)],[zH (some (0,l.length)) (u8 m5) true],((zdO _).trans rfl),⟨rfl,⟨rfl,⟨rfl,⟨rfl,⟨rfl,⟨rfl,⟨rfl,⟨rfl,trivial⟩⟩⟩⟩⟩⟩⟩⟩,⟨(Option.some.inj (zF (zG _))).symm,trivial⟩, ?_⟩
 refine o_d 2 [(46,iv 0),(45,zQ (some (0,l.length)) 8 l.length)] (qT (zdA [7,4,5,0,1,8] [cw (qR xe1 (zD xe1.op) 1 (zD xe1.da) 2 3 (some (o,c)) 4 l.length),zaK ((zD xe1.op).isSome),zaK ((zD xe1.da).isSome),cr [],cr [],cr []] [pv 0 0,zQ (some (0,l.length)) 5 l.length,iv 0] (thenC xe1 (zD xe1.op) (zD xe1.da) o c l.length 0 l.length l.length ((zD xe1.op).isSome) ((zD xe1.da).isSome)) rfl rfl ⟨⟨_,rfl,zao (.inl (zb0 rfl rfl rfl rfl (fun q=>rfl)))⟩,⟨⟨_,rfl,(zco (zD xe1.op))⟩,⟨⟨_,rfl,(zco (zD xe1.da))⟩,⟨⟨_,rfl,zaH⟩,⟨⟨_,rfl,zaH⟩,⟨⟨_,rfl,zaH⟩,trivial⟩⟩⟩⟩⟩⟩ (by decide) ?_))
 rintro v1 h1' ⟨rfl,rfl⟩
 refine ⟨(zW zaF (zW z8 (zW z8 (zW z8 (zW z8 (zW z8 zah)))))),.tuple #[],[cw (zN p true nr (slV 2 127 (some w9))),zH (some (o,c)) (u8 L) false,slB zI (ii (qC p)) (some w9),cw [iv 0,iv 0,bv false,.slice none 0 0],zH (zD xe1.op) (u8 xe1.op) true,zH (zD xe1.da) (u8 xe1.da) true,cw (pkL xe1 (zD xe1.op) 4 (zD xe1.da) 5),cw (qR xe1 (zD xe1.op) 4 (zD xe1.da) 5 0 (some (0,l.length)) 8 l.length),zH (some (0,l.length)) (u8 m5) true],[],(by simp [zaN]),⟨rfl,⟨rfl,⟨rfl,⟨rfl,⟨(by generalize zD xe1.op=z9;cases z9<;>rfl),⟨(by generalize zD xe1.da=z9;cases z9<;>rfl),⟨rfl,⟨zbT rfl rfl rfl rfl,⟨rfl,trivial⟩⟩⟩⟩⟩⟩⟩⟩⟩,trivial, ?_⟩
 refine zE (zA (zJ (zJ (zM (o_d 1 [(48,pv 6 0)] (o_s (by refine zX (v:=iv xe1.k) rfl rfl ?_;exact rfl) ?_))))))
 refine o_d 1 [(50,bv (xe1.k==3))] (zE (zA (qK (t:=xe1.k==3) rfl (fun q=>by rw [(by exact beq_eq_false_iff_ne.2 hk3:(xe1.k==3)=false)] at q;cases q) (fun _=>?_))))
 refine qM (zA (zhm (fun s=>0=0∧(¬xe1.k=3)∧(¬(xe1.t=p 1∧xe1.tp=p 2))∧s=⟨reg [(7,pv 7 0),(5,pv 6 0),(4,pv 3 0),(0,pv 0 0)],[cw (zN p true nr (slV 2 127 (some w9))),zH (some (o,c)) (u8 L) false,slB zI (ii (qC p)) (some w9),cw [iv 0,iv 0,bv false,.slice none 0 0],zH (zD xe1.op) (u8 xe1.op) true,zH (zD xe1.da) (u8 xe1.da) true,cw (pkL xe1 (zD xe1.op) 4 (zD xe1.da) 5),cw (qR xe1 (zD xe1.op) 4 (zD xe1.da) 5 0 (some (0,l.length)) 8 l.length),zH (some (0,l.length)) (u8 m5) true]⟩) ?_ ?_))
 ·skip
  refine zJ (zbe [] (r_d 1 [(63,pv 6 4)] (r_s (by refine zX (v:=iv xe1.t) rfl rfl ?_;exact rfl) ?_)))
  refine r_d 5 [(69,pv 0 1),(68,pv 0 0),(67,pv 0 0),(66,pv 0 0),(65,pv 0 0)] (r_s (by refine zX (v:=iv (p 1)) rfl rfl ?_;exact zeu (zkw p 1 rfl (by omega))) ?_)
  refine r_d 2 [(72,bv (xe1.t==(p 1))),(71,bv (xe1.t==(p 1)))] (r_sp (b:=xe1.t==(p 1)) 72 rfl (fun h6=>?_) (fun h6=>?_))
  ·skip
   have h6':xe1.t=p 1:=zaL h6
   refine r_d 1 [(73,pv 6 6)] (zd8 rfl (r_s (by refine zX (v:=iv xe1.tp) rfl rfl ?_;exact rfl) ?_))
   refine r_d 5 [(79,pv 0 2),(78,pv 0 0),(77,pv 0 0),(76,pv 0 0),(75,pv 0 0)] (zd8 rfl (r_s (by refine zX (v:=iv (p 2)) rfl rfl ?_;exact zeu (zkw p 2 rfl (by omega))) ?_))
   refine r_d 2 [(82,bv (xe1.tp==(p 2))),(81,bv (xe1.tp==(p 2)))] (za1 (zT [(82,bv (xe1.tp==(p 2))),(7,pv 7 0),(5,pv 6 0),(4,pv 3 0),(0,pv 0 0)] (qK (t:=xe1.tp==(p 2)) rfl (fun h7=>?_) (fun h7=>?_))))
   ·skip
    have h7':xe1.tp=p 2:=zaL h7
    refine zJ (zM (o_d 1 [(83,pv 7 0)] (qT (zdA [7,4,5,0,8,2] [cw (qR xe1 (zD xe1.op) 1 (zD xe1.da) 2 3 (some (0,l.length)) 4 l.length),zH (zD xe1.op) (u8 xe1.op) false,zaK ((zD xe1.da).isSome),cr (zN p true nr (slV 5 127 (some w9))),zH (some (0,l.length)) (u8 m5) false,slB zI (ii (qC p)) (some w9)] [pv 0 0] (inW p true nr w9 xe1 (zD xe1.da) ((zD xe1.da).isSome) m5 (zfe m5) hm5p.1 hm5k hm5b (by assumption) (by omega) H hnr l.length hm5l) rfl rfl ⟨⟨_,rfl,zao (.inl (zb0 rfl rfl rfl rfl (fun q=>rfl)))⟩,⟨⟨_,rfl,zao (zZ (q:=zD xe1.op) (q':=zD xe1.op) (zG _) rfl (fun q=>rfl))⟩,⟨⟨_,rfl,(zco (zD xe1.da))⟩,⟨⟨_,rfl,zao (.inl (zaP rfl (fun q=>rfl)))⟩,⟨⟨_,rfl,zao (zZ (q:=some (0,l.length)) (q':=some (0,l.length)) (zG _) rfl (fun q=>rfl))⟩,⟨⟨_,rfl,zao (zg8 (some w9) (fun _=>(zaf _ _)))⟩,trivial⟩⟩⟩⟩⟩⟩ (by decide) ?_))))
    rintro v1 h1' (⟨hi1,rfl,rfl⟩ | ⟨k8,hi1,hi2,rfl,rfl⟩)
    ·skip
     refine ⟨(zW z8 (zW z8 (zW z8 (zW z8 (zW z8 (zW z8 zah)))))),.agg #[iv 9,iv (-1),bv false,.slice none 0 0],[cw (zN p true nr (slV 2 127 (some w9))),zH (some (o,c)) (u8 L) false,slB zI (ii (qC p)) (some w9),cw [iv 0,iv 0,bv false,.slice none 0 0],zH (zD xe1.op) (u8 xe1.op) true,zH (zD xe1.da) (u8 xe1.da) true,cw (pkL xe1 (zD xe1.op) 4 (zD xe1.da) 5),cw (qR xe1 (zD xe1.op) 4 (zD xe1.da) 5 0 (some (0,l.length)) 8 l.length),zH (some (0,l.length)) (u8 m5) true],[],(qQ rfl),⟨rfl,⟨rfl,⟨(by rcases some w9 with _ | m9<;>first | rfl | exact za9 (zaf _ _)),⟨rfl,⟨(by generalize zD xe1.op=z9;cases z9<;>rfl),⟨(by generalize zD xe1.da=z9;cases z9<;>rfl),⟨rfl,⟨zbT rfl rfl rfl rfl,⟨rfl,trivial⟩⟩⟩⟩⟩⟩⟩⟩⟩,trivial, ?_⟩
     refine o_b 1 [] [cw (zN p true nr (slV 2 127 (some w9))),zH (some (o,c)) (u8 L) false,slB zI (ii (qC p)) (some w9),cw [iv 9,iv (-1),bv false,.slice none 0 0],zH (zD xe1.op) (u8 xe1.op) true,zH (zD xe1.da) (u8 xe1.da) true,cw (pkL xe1 (zD xe1.op) 4 (zD xe1.da) 5),cw (qR xe1 (zD xe1.op) 4 (zD xe1.da) 5 0 (some (0,l.length)) 8 l.length),zH (some (0,l.length)) (u8 m5) true] (zE (zA (qS ?_)))
     have he:zaB p nr l=(zex 9,nr):=(take_go hp9 (by omega) (by omega) hm5).trans (go_i1 (by assumption) (by omega) hi1)
     exact ⟨trivial,[.agg #[iv 9,iv (-1),bv false,.slice none 0 0]],(zaa rfl rfl rfl rfl),(zK rfl z5),⟨reg [],[cw (zN p true nr (slV 2 127 (some w9))),zH (some (o,c)) (u8 L) false,slB zI (ii (qC p)) (some w9),.gone]⟩,[0,1,2,12],[.agg #[iv 9,iv (-1),bv false,.slice none 0 0]],WkR.of (rs:= []) rfl rfl (by decide) trivial ⟨.inl (qF rfl),⟨.inl (zF (zG _)),⟨.inl (q8 (some w9) (fun _=>(zaf _ _))),⟨.inr ⟨rfl,rfl⟩,trivial⟩⟩⟩⟩,(zS (zbn (q:=none) (k:=0) (k':=0) (n:=0) rfl) rfl),(by rw [he];rfl),(by rw [he];rfl)⟩
    refine ⟨(zW zaF (zW z8 (zW z8 (zW z8 (zW z8 (zW z8 zah)))))),.agg #[iv 0,iv (k8:Int),bv ((inP p xe1).2),zQ (some (0,l.length)) 9 l.length],[cw (zN p true nr (slV 2 127 (some w9))),zH (some (o,c)) (u8 L) false,slB zI (ii (qC p)) (some w9),cw [iv 0,iv 0,bv false,.slice none 0 0],zH (zD xe1.op) (u8 xe1.op) true,zH (zD xe1.da) (u8 xe1.da) true,cw (pkL xe1 (zD xe1.op) 4 (zD xe1.da) 5),cw (qR xe1 (zD xe1.op) 4 (zD xe1.da) 5 0 (some (0,l.length)) 9 l.length),zH (some (0,l.length)) (u8 m5) true],[zH (some (0,l.length)) (u8 (inL p nr xe1 m5 k8)) true],(zbn rfl),⟨rfl,⟨rfl,⟨(by rcases some w9 with _ | m9<;>first | rfl | exact za9 (zaf _ _)),⟨rfl,⟨(by generalize zD xe1.op=z9;cases z9<;>rfl),⟨(by generalize zD xe1.da=z9;cases z9<;>rfl),⟨rfl,⟨zbT rfl rfl rfl rfl,⟨rfl,trivial⟩⟩⟩⟩⟩⟩⟩⟩⟩,⟨(Option.some.inj (zF (zG _))).symm,trivial⟩, ?_⟩
    refine o_b 1 [] [cw (zN p true nr (slV 2 127 (some w9))),zH (some (o,c)) (u8 L) false,slB zI (ii (qC p)) (some w9),cw [iv 0,iv (k8:Int),bv ((inP p xe1).2),zQ (some (0,l.length)) 9 l.length],zH (zD xe1.op) (u8 xe1.op) true,zH (zD xe1.da) (u8 xe1.da) true,cw (pkL xe1 (zD xe1.op) 4 (zD xe1.da) 5),cw (qR xe1 (zD xe1.op) 4 (zD xe1.da) 5 0 (some (0,l.length)) 9 l.length),zH (some (0,l.length)) (u8 m5) true,zH (some (0,l.length)) (u8 (inL p nr xe1 m5 k8)) true] (zE (zA (qS ?_)))
    have he:zaB p nr l=(⟨0,(k8:Int),(inP p xe1).2,(inL p nr xe1 m5 k8)⟩,nr):=(take_go hp9 (by omega) (by omega) hm5).trans (go_i2 (by assumption) (by omega) hi1)
    have hlen:(inL p nr xe1 m5 k8).length=l.length:=inL_length.trans hm5l
    exact ⟨trivial,[.agg #[iv 0,iv (k8:Int),bv ((inP p xe1).2),zQ (some (0,l.length)) 9 l.length]],(zaa rfl rfl rfl rfl),(zK rfl z5),⟨reg [],[cw (zN p true nr (slV 2 127 (some w9))),zH (some (o,c)) (u8 L) false,slB zI (ii (qC p)) (some w9),zH (some (0,l.length)) (u8 (inL p nr xe1 m5 k8)) true]⟩,[0,1,2,9],[.agg #[iv 0,iv (k8:Int),bv ((inP p xe1).2),zQ (some (0,l.length)) 3 l.length]],WkR.of (rs:= []) rfl rfl (by decide) trivial ⟨.inl (qF rfl),⟨.inl (zF (zG _)),⟨.inl (q8 (some w9) (fun _=>(zaf _ _))),⟨.inl (zF (zG _)),trivial⟩⟩⟩⟩,(zS (zbn rfl) rfl),(by rw [he];exact (oc_some hlen (by omega)).symm),(by rw [he];show _= [_,_,_,zH (zD _) _ true];rw [ob_some hlen (by omega)])⟩
   have h7': ¬(xe1.tp=p 2):=zaM h7
   refine qM (⟨⟨reg [(7,pv 7 0),(5,pv 6 0),(4,pv 3 0),(0,pv 0 0)],[cw (zN p true nr (slV 2 127 (some w9))),zH (some (o,c)) (u8 L) false,slB zI (ii (qC p)) (some w9),cw [iv 0,iv 0,bv false,.slice none 0 0],zH (zD xe1.op) (u8 xe1.op) true,zH (zD xe1.da) (u8 xe1.da) true,cw (pkL xe1 (zD xe1.op) 4 (zD xe1.da) 5),cw (qR xe1 (zD xe1.op) 4 (zD xe1.da) 5 0 (some (0,l.length)) 8 l.length),zH (some (0,l.length)) (u8 m5) true]⟩, ?_⟩)
   refine ⟨?_, ?_⟩
   ·exact Wk.ren [0,1,2,3,4,5,6,7,8] rfl rfl (by decide) ⟨rfl,⟨rfl,⟨rfl,⟨rfl,trivial⟩⟩⟩⟩ ⟨.inl (qF rfl),⟨.inl (zF (zG _)),⟨.inl (q8 (some w9) (fun _=>(zaf _ _))),⟨.inl rfl,⟨.inl (zF (zG _)),⟨.inl (zF (zG _)),⟨.inl (zdx rfl rfl),⟨.inl (zau rfl rfl rfl rfl),⟨.inl (zF (zG _)),trivial⟩⟩⟩⟩⟩⟩⟩⟩⟩
   ·exact ⟨rfl,(by assumption),(by omega),rfl⟩
  have h6': ¬(xe1.t=p 1):=zaM h6
  refine r_d 10 [(82,bv false),(81,undef),(80,undef),(79,undef),(78,undef),(77,undef),(76,undef),(75,undef),(74,undef),(73,undef)] (za1 (zT [(82,bv false),(7,pv 7 0),(5,pv 6 0),(4,pv 3 0),(0,pv 0 0)] (zbx rfl (qM (⟨⟨reg [(7,pv 7 0),(5,pv 6 0),(4,pv 3 0),(0,pv 0 0)],[cw (zN p true nr (slV 2 127 (some w9))),zH (some (o,c)) (u8 L) false,slB zI (ii (qC p)) (some w9),cw [iv 0,iv 0,bv false,.slice none 0 0],zH (zD xe1.op) (u8 xe1.op) true,zH (zD xe1.da) (u8 xe1.da) true,cw (pkL xe1 (zD xe1.op) 4 (zD xe1.da) 5),cw (qR xe1 (zD xe1.op) 4 (zD xe1.da) 5 0 (some (0,l.length)) 8 l.length),zH (some (0,l.length)) (u8 m5) true]⟩, ?_⟩)))))
  refine ⟨?_, ?_⟩
  ·exact Wk.ren [0,1,2,3,4,5,6,7,8] rfl rfl (by decide) ⟨rfl,⟨rfl,⟨rfl,⟨rfl,trivial⟩⟩⟩⟩ ⟨.inl (qF rfl),⟨.inl (zF (zG _)),⟨.inl (q8 (some w9) (fun _=>(zaf _ _))),⟨.inl rfl,⟨.inl (zF (zG _)),⟨.inl (zF (zG _)),⟨.inl (zdx rfl rfl),⟨.inl (zau rfl rfl rfl rfl),⟨.inl (zF (zG _)),trivial⟩⟩⟩⟩⟩⟩⟩⟩⟩
  ·exact ⟨rfl,(by assumption),(by omega),rfl⟩
 rintro s ⟨-,hk3,hnot,rfl⟩
 refine zJ (zbe [] (r_d 4 [(89,pv 0 0),(88,pv 0 0),(87,pv 0 0),(86,pv 0 0)] (r_s (by refine zX (v:=zaq p) rfl rfl ?_;exact zeu (zaD p)) ?_)))
 refine r_d 1 [(91,pv 6 3)] (r_s (by refine zX (v:=iv xe1.fr) rfl rfl ?_;exact rfl) ?_)
 refine r_d 1 [(93,pv 6 5)] (r_s (by refine zX (v:=iv xe1.fp) rfl rfl ?_;exact rfl) ?_)
 obtain ⟨sl,hsl⟩: ∃s:Nat,(zbL (zek p xe1.fr xe1.fp) 0 64).1=(s:Int):=⟨(zbL (zek p xe1.fr xe1.fp) 0 64).1.toNat,by have:=find_r (h:=zek p xe1.fr xe1.fp) 64 0 (by omega);omega⟩
 have hslr:=(find_r (h:=zek p xe1.fr xe1.fp) 64 0 (by omega)).2
 refine zeV (zbg (FindC2 hsl (FindC p xe1.fr xe1.fp)) rfl (all_cons (zbk p) (all_cons rfl (all_cons rfl rfl))) rfl (r_d 5 [(9,bv ((zbL (zek p xe1.fr xe1.fp) 0 64).2)),(8,iv (sl:Int)),(97,bv ((zbL (zek p xe1.fr xe1.fp) 0 64).2)),(96,iv (sl:Int)),(85,.tuple #[iv (sl:Int),bv ((zbL (zek p xe1.fr xe1.fp) 0 64).2)])] (za1 (zA (zJ (zJ (zM (o_d 2 [(99,bv (!((zbL (zek p xe1.fr xe1.fp) 0 64).2))),(98,bv ((zbL (zek p xe1.fr xe1.fp) 0 64).2))] (zE (zA (qK (t:= !((zbL (zek p xe1.fr xe1.fp) 0 64).2)) rfl (fun h9=>?_) (fun h9=>?_))))))))))))
 ·skip
  have h10:((zbL (zek p xe1.fr xe1.fp) 0 64).2)=false:=not_t h9
  refine zJ (zM (qT (zag (dropC 8) rfl rfl rfl (o_b 1 [] [cw (zN p true nr (slV 2 127 (some w9))),zH (some (o,c)) (u8 L) false,slB zI (ii (qC p)) (some w9),cw [iv 8,iv (-1),bv false,.slice none 0 0],zH (zD xe1.op) (u8 xe1.op) true,zH (zD xe1.da) (u8 xe1.da) true,cw (pkL xe1 (zD xe1.op) 4 (zD xe1.da) 5),cw (qR xe1 (zD xe1.op) 4 (zD xe1.da) 5 0 (some (0,l.length)) 8 l.length),zH (some (0,l.length)) (u8 m5) true] (zE (zT [(4,pv 3 0)] (qS ?_)))))))
  have he:zaB p nr l=(zex 8,nr):=(take_go hp9 (by omega) (by omega) hm5).trans (go_n hk3 hnot (by assumption))
  exact ⟨trivial,[.agg #[iv 8,iv (-1),bv false,.slice none 0 0]],(zaa rfl rfl rfl rfl),(zK rfl z5),⟨reg [],[cw (zN p true nr (slV 2 127 (some w9))),zH (some (o,c)) (u8 L) false,slB zI (ii (qC p)) (some w9),.gone]⟩,[0,1,2,12],[.agg #[iv 8,iv (-1),bv false,.slice none 0 0]],WkR.of (rs:= []) rfl rfl (by decide) trivial ⟨.inl (qF rfl),⟨.inl (zF (zG _)),⟨.inl (q8 (some w9) (fun _=>(zaf _ _))),⟨.inr ⟨rfl,rfl⟩,trivial⟩⟩⟩⟩,(zS (zbn (q:=none) (k:=0) (k':=0) (n:=0) rfl) rfl),(by rw [he];rfl),(by rw [he];rfl)⟩
 have h11:((zbL (zek p xe1.fr xe1.fp) 0 64).2)=true:=not_f h9
 refine qM (zA (zJ (zM (o_d 2 [(102,iv (sl:Int)),(101,pv 7 0)] (qT (zdA [7,4,5,0,8,2] [cw (qR xe1 (zD xe1.op) 1 (zD xe1.da) 2 3 (some (0,l.length)) 4 l.length),zH (zD xe1.op) (u8 xe1.op) false,zaK ((zD xe1.da).isSome),cw (zN p true nr (slV 5 127 (some w9))),zH (some (0,l.length)) (u8 m5) false,cr []] [pv 0 0,iv (sl:Int)] (outW p true nr (some w9) xe1 (zD xe1.da) ((zD xe1.da).isSome) m5 (zfe m5) hm5p.1 hm5k hm5b (by assumption) (by omega) sl (by omega) H l.length hm5l) rfl rfl ⟨⟨_,rfl,zao (.inl (zb0 rfl rfl rfl rfl (fun q=>rfl)))⟩,⟨⟨_,rfl,zao (zZ (q:=zD xe1.op) (q':=zD xe1.op) (zG _) rfl (fun q=>rfl))⟩,⟨⟨_,rfl,(zco (zD xe1.da))⟩,⟨⟨_,rfl,zao (.inl (zaP rfl (fun q=>rfl)))⟩,⟨⟨_,rfl,zao (zZ (q:=some (0,l.length)) (q':=some (0,l.length)) (zG _) rfl (fun q=>rfl))⟩,⟨⟨_,rfl,zds (some w9)⟩,trivial⟩⟩⟩⟩⟩⟩ (by decide) ?_))))))
 rintro v1 h1' ⟨rfl,rfl⟩
 refine ⟨(zW zaF (zW z8 (zW z8 (zW zaF (zW z8 (zW z8 zah)))))),.agg #[iv 0,iv (-1),bv false,zQ (some (0,l.length)) 9 l.length],[cw (zN p true (outN nr xe1 sl) (slV 2 127 (some w9))),zH (some (o,c)) (u8 L) false,slB zI (ii (qC p)) (some w9),cw [iv 0,iv 0,bv false,.slice none 0 0],zH (zD xe1.op) (u8 xe1.op) true,zH (zD xe1.da) (u8 xe1.da) true,cw (pkL xe1 (zD xe1.op) 4 (zD xe1.da) 5),cw (qR xe1 (zD xe1.op) 4 (zD xe1.da) 5 0 (some (0,l.length)) 9 l.length),zH (some (0,l.length)) (u8 m5) true],[zH (some (0,l.length)) (u8 (outL p xe1 m5 ((sl:Nat):Int))) true],(zbn rfl),⟨zbi rfl,⟨rfl,⟨rfl,⟨rfl,⟨(by generalize zD xe1.op=z9;cases z9<;>rfl),⟨(by generalize zD xe1.da=z9;cases z9<;>rfl),⟨rfl,⟨zbT rfl rfl rfl rfl,⟨rfl,trivial⟩⟩⟩⟩⟩⟩⟩⟩⟩,⟨(Option.some.inj (zF (zG _))).symm,trivial⟩, ?_⟩
 refine o_b 1 [] [cw (zN p true (outN nr xe1 sl) (slV 2 127 (some w9))),zH (some (o,c)) (u8 L) false,slB zI (ii (qC p)) (some w9),cw [iv 0,iv (-1),bv false,zQ (some (0,l.length)) 9 l.length],zH (zD xe1.op) (u8 xe1.op) true,zH (zD xe1.da) (u8 xe1.da) true,cw (pkL xe1 (zD xe1.op) 4 (zD xe1.da) 5),cw (qR xe1 (zD xe1.op) 4 (zD xe1.da) 5 0 (some (0,l.length)) 9 l.length),zH (some (0,l.length)) (u8 m5) true,zH (some (0,l.length)) (u8 (outL p xe1 m5 ((sl:Nat):Int))) true] (zE (zT [(4,pv 3 0)] (qS ?_)))
 have he:zaB p nr l=(⟨0,-1,false,(outL p xe1 m5 ((sl:Nat):Int))⟩,(outN nr xe1 sl)):=(take_go hp9 (by omega) (by omega) hm5).trans (go_o hk3 hnot (by assumption) hsl)
 have hlen:(outL p xe1 m5 ((sl:Nat):Int)).length=l.length:=outL_length.trans hm5l
 exact ⟨trivial,[.agg #[iv 0,iv (-1),bv false,zQ (some (0,l.length)) 9 l.length]],(zaa rfl rfl rfl rfl),(zK rfl z5),⟨reg [],[cw (zN p true (outN nr xe1 sl) (slV 2 127 (some w9))),zH (some (o,c)) (u8 L) false,slB zI (ii (qC p)) (some w9),zH (some (0,l.length)) (u8 (outL p xe1 m5 ((sl:Nat):Int))) true]⟩,[0,1,2,9],[.agg #[iv 0,iv (-1),bv false,zQ (some (0,l.length)) 3 l.length]],WkR.of (rs:= []) rfl rfl (by decide) trivial ⟨.inl (qF rfl),⟨.inl (zF (zG _)),⟨.inl (q8 (some w9) (fun _=>(zaf _ _))),⟨.inl (zF (zG _)),trivial⟩⟩⟩⟩,(zS (zbn rfl) rfl),(by rw [he];exact (oc_some hlen (by omega)).symm),(by rw [he];show _= [_,_,_,zH (zD _) _ true];rw [ob_some hlen (by omega)])⟩
end Go.Rh
