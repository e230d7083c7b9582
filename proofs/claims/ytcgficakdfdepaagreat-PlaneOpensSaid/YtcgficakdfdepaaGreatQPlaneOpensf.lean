/- The proofs zcl the intermediate form, part QPlaneOpensf. -/
import Derived.Test.YtcgficakdfdepaaGreatQPlaneOpense
open Go.IntKind (i64)
set_option linter.unusedVariables false
set_option linter.unusedSimpArgs false
set_option maxRecDepth 100000
set_option maxHeartbeats 4000000
namespace Go.Rh
theorem apply_place {c:qZ} {e:Ent} (h:(qT c e).2=0):(qT c e).1 1=c 1∧(qT c e).1 2=c 2:=by
 obtain ⟨h1,hc,_,_⟩:=apply_ok h
 rw [h1]
 obtain ⟨hk,hs,_⟩:=checkS_ok hc
 by_cases h6:e.k=6
 ·exact ⟨done6 h6 om,done6 h6 om⟩
 ·obtain ⟨x0,x1,x2,x3,x4,hd,_⟩:=done_set c e om
  rw [hd,ssN _ _ _ _ _ _ om om,ssN _ _ _ _ _ _ om om]
  exact ⟨zeP _ _ om,zeP _ _ om⟩
theorem zjy: ∀(l:List Int) (c:qZ),(l.foldl zh9 c) 1=c 1∧(l.foldl zh9 c) 2=c 2
 | [],c=>⟨rfl,rfl⟩
 | n::l,c=>by
  have:=zjy l (zh9 c n)
  simp only [List.foldl_cons]
  rw [this.1,this.2]
  unfold zh9
  split
  ·rename_i h;exact apply_place h
  ·exact ⟨rfl,rfl⟩
theorem ziy (ns:List Int) (k:Nat):zY ns k 1=10∧zY ns k 2=80:=by
 have:=zjy (ns.take k) (zhC 10 80 (zdZ 1) (zdY 1) (zdZ 2) (zdY 2)).1
 unfold zY
 rw [this.1,this.2]
 have hp:zbh 10 80=true:=by decide
 simp only [zhC,hp,if_true]
 exact ⟨rfl,rfl⟩
theorem takes_eq (x:Int): [1,2,3].contains x=zeR x:=by
 rw [Bool.eq_iff_iff];simp [zeR]
end Go.Rh

namespace Go.Rh
end Go.Rh

namespace Go.Rh
end Go.Rh

set_option maxHeartbeats 8000000
namespace Go.Rh
abbrev xJ (a:Option Nat):=(slV 1 127 a)
theorem PVersionC {P:Program} [PrC P] (p:qZ) (is:Bool) (nr:Nat→Int×Bool) (q:Option Nat):
    Env P "(*roundhouse/plane.Plane).Version" [pv 0 0] ([cr (zR p is nr (xJ q)),cr []]) (fun v h'=>v= .tuple #[iv (p 0),bv is]∧h'= [cr (zR p is nr (xJ q)),cr []]):=by
 refine Env.by2 PrC.plane_Plane_Version ?_
 unfold zc4
 show GC _ 2 _ _ ⟨reg vo,[cr (zR p is nr (xJ q)),cr []]⟩
 refine zJ (zN (o_d 2 (xq 3 2) (zE (zA (zJ (zbe [] (r_d 5 [(8,pv 0 0),(7,pv 0 0),(6,pv 0 0),(5,pv 0 0),(4,pv 0 0)] (r_s (by refine zV (v:=iv (p 0)) rfl rfl ?_;exact zex (zi9 p 0 rfl om)) ?_))))))))
 refine r_d 4 (wJ 13 0 330 12 0 11 0 10 0) (r_s (by refine zV (v:=bv is) rfl rfl ?_;exact (zfp 0).trans rfl) ?_)
 exact r_d 2 [(3,bv is),(2,iv (p 0))] (za3 (zA (qW (⟨trivial,⟨reg [(2,iv (p 0)),(3,bv is)],[cr (zR p is nr (xJ q)),cr []]⟩,Wk.ren [0,1] rfl rfl dC ⟨rfl,rfl,trivial⟩ ⟨.inl (qH (zaZ q rfl)),.inl rfl,trivial⟩,[iv (p 0),bv is],(zT rfl (zT rfl rfl)),(zM rfl (zM rfl z5)),rfl,rfl⟩))))
abbrev xj a:=(zR qO false nr0 (slV a 127 none))
theorem PCrashC {P:Program} [PrC P] (p:qZ) (is:Bool) (nr:Nat→Int×Bool) (q:Option Nat):
    Env P "(*roundhouse/plane.Plane).Crash" [pv 0 0] ([cw (zR p is nr (xJ q)),cr []]) (fun v h'=>v= .tuple #[]∧h'= [cw (xj 1),cr []]):=by
 refine Env.by2 PrC.plane_Plane_Crash ?_
 unfold zdz
 show GC _ 2 _ _ ⟨reg vo,[cw (zR p is nr (xJ q)),cr []]⟩
 refine zN (o_d 1 [(2,pv 0 0)] (o_s (by refine zeu (c:=zR qO false nr0 wD) ?_;exact bld_plane) ?_))
 refine o_d 1 [(4,pv 0 0)] (zdj (by refine zao (c':=zR qO false nr0 wD) rfl rfl rfl ?_ ?_ ?_;exact zdi _ _ _ _;exact zfq om;exact plane_wAll) ?_)
 exact zE (⟨trivial,⟨reg [],[cw (zR qO false nr0 wD),cr []]⟩,Wk.ren [0,1] rfl rfl dC trivial ⟨.inl (qH rfl),.inl rfl,trivial⟩,[],rfl,z5,rfl,rfl⟩)
theorem PLayC {P:Program} [PrC P] (p:qZ) (is:Bool) (nr:Nat→Int×Bool) (q:Option Nat) (x:qZ):
    Env P "(*roundhouse/plane.maybe[roundhouse/api.Pool]).lay" [pv 0 0,zaw x] ([cw (zR p is nr (xJ q)),cr []]) (fun v h'=>v= .tuple #[]∧h'= [cw (zR x true nr (xJ q)),cr []]):=by
 refine Env.by2 PrC.plane_maybe_api_Pool_lay ?_
 unfold zb8
 show GC _ 2 _ _ ⟨reg [(0,pv 0 0),(1,zaw x)],[cw (zR p is nr (xJ q)),cr []]⟩
 refine zJ (zN (o_b 1 [(3,pv 2 0)] [cw (zR p is nr (xJ q)),cr [],cw (pl x)] (zE (zA (zN (o_d 2 [(5,pv 0 0),(4,pv 0 0)] (o_s (by refine zV (v:=zaw x) rfl rfl ?_;exact zaS x) ?_)))))))
 refine o_d 2 [(8,pv 0 0),(7,pv 0 0)] (zdj (by refine zao (c':=zR x is nr (xJ q)) rfl rfl rfl ?_ ?_ ?_;exact qI _;exact zfq om;exact plane_wP) ?_)
 refine o_b 2 [(10,pv 0 330),(9,pv 0 0)] [cw (zR x is nr (xJ q)),cr [],cw (pl x)] (zdj (by refine zao (c':=zR x true nr (xJ q)) rfl rfl rfl ?_ ?_ ?_;exact rfl;exact zfq om;exact plane_wI) ?_)
 exact zE (⟨trivial,⟨reg [],[cw (zR x true nr (xJ q)),cr []]⟩,Wk.ren [0,1] rfl rfl dC trivial ⟨.inl (qH (zaZ q rfl)),.inl rfl,trivial⟩,[],rfl,z5,rfl,rfl⟩)
abbrev wx a (b:Nat):=(slV a 127 (some b))
theorem PLoadC {P:Program} [PrC P] (p:qZ) (is:Bool) (nr:Nat→Int×Bool) (q:Option Nat) (x:qZ):
    Env P "(*roundhouse/plane.Plane).Load" [pv 0 0,zaw x] ([cw (zR p is nr (xJ q)),cr []]) (fun v h'=>v= .tuple #[]∧∃m,h'= [cw (zR x true nr (wx 2 m)),cr [],slB zI (ii (zZ x)) (some m)]):=by
 refine Env.by2 PrC.plane_Plane_Load ?_
 unfold zdT
 show GC _ 2 _ _ ⟨reg [(0,pv 0 0),(1,zaw x)],[cw (zR p is nr (xJ q)),cr []]⟩
 refine zJ (zN (o_b 1 [(3,pv 2 0)] [cw (zR p is nr (xJ q)),cr [],cw (pl x)] (zE (zA (zJ (zeE [cw (zR p is nr (xJ q)),cr [],cw (pl x)] (by kernel_rfl) (d_n 3 3 3 (xV 6 0 0 5 0 4 0) [cw (zR p is nr (xJ q)),cr [],cw (pl x)] [] (by kernel_rfl) rfl rfl (d_s rfl rfl rfl (by kernel_rfl) (by refine zV (v:=zaw x) rfl rfl ?_;exact zaS x) ?_))))))))
 refine d_clH [0,1] [cw (zR p is nr (xJ q)),cr []] [pv 0 0,zaw x] (PLayC p is nr q x) rfl (zQ rfl (zQ (qN (zbO x)) rfl)) ⟨⟨_,rfl,zav (.inl (zaX (zaZ q rfl) (fun q=>rfl)))⟩,⟨_,rfl,zaI⟩,trivial⟩ dC ⟨_,_,⟨rfl,rfl⟩,Nat.le_refl _,zfw rfl (zbD [_] [])⟩ ?_ (by kernel_rfl)
 rintro v1 h1' ⟨rfl,rfl⟩
 refine ⟨(zW zaO (zW qC zap)),.tuple #[],[cw (zR x true nr (xJ q)),cr [],cw (pl x)],[],(by simp [zaF]),⟨zbA (zaZ q rfl),(by cases true<;>rfl),rfl,trivial⟩,trivial, ?_⟩
 refine zgp (zA (zN (o_d 1 [(9,pv 0 0)] (o_s (by refine zV (v:=zaw x) rfl rfl ?_;exact zaS x) ?_))))
 refine qV (zd1 [] [] [zaw x] (makeWC x) rfl (zQ (qN (zbO x)) rfl) trivial dC ?_)
 rintro v1 h1' ⟨m1,rfl,rfl⟩
 refine ⟨zap,slV 3 127 (some m1),[cw (zR x true nr (xJ q)),cr [],cw (pl x)],[slB zI (ii (zZ x)) (some m1)],rfl,⟨rfl,rfl,rfl,trivial⟩,⟨(Option.some.inj (zaa (some m1) (fun _=>(zaq _ _)))).symm,trivial⟩, ?_⟩
 refine o_d 2 [(13,pv 0 459),(12,pv 0 0)] (zdj (by refine zao (c':=zR x true nr (wx 3 m1)) rfl rfl rfl ?_ ?_ ?_;exact rfl;exact zfq om;exact plane_wW) ?_)
 exact zE (⟨trivial,⟨reg [],[cw (zR x true nr (wx 2 m1)),cr [],slB zI (ii (zZ x)) (some m1)]⟩,Wk.ren [0,1,3] rfl rfl dC trivial ⟨.inl (qH rfl),.inl rfl,.inl (zaa (some m1) (fun _=>(zaq _ _))),trivial⟩,[],rfl,z5,rfl,m1,rfl⟩)
theorem PNewC {P:Program} [PrC P]:
    Env P "roundhouse/plane.New" [] ([]) (fun v h'=>v=pv 0 0∧h'= [cw (zR qO false nr0 wD)]):=by
 refine Env.by2 PrC.plane_New ?_
 unfold ziU
 show GC _ 0 _ _ ⟨reg [],[]⟩
 refine zJ (zN (o_d 1 [(0,.pointer none)] (zE (zA (zJ (zN (o_s (by refine zeu (c:=zR qO false nr0 wD) ?_;exact bld_plane) ?_)))))))
 exact o_b 2 [(0,pv 0 0),(2,pv 0 0)] [cw (zR qO false nr0 wD)] (zE (zA (qW (⟨trivial,⟨reg vo,[cw (zR qO false nr0 wD)]⟩,Wk.ren [0] rfl rfl dC ⟨rfl,trivial⟩ ⟨.inl (qH rfl),trivial⟩,[pv 0 0],(zT rfl rfl),(zM rfl z5),rfl,rfl⟩))))
end Go.Rh

namespace Go.Rh
structure WIn (l0:List Wl) (S:WS):Prop where
  len:S.1.length=127
  w: ∀v∈S.1,v= -1∨∃y∈l0,v=y.s
  l: ∀x∈S.2,∃y∈l0,x.s=y.s
theorem WIn.turn {l0:List Wl} {S:WS} (h:WIn l0 S) (k:Nat):WIn l0 (zcH k S):=by
 unfold zcH
 split
 ·exact h
 split
 ·exact h
 ·rename_i x hx
  have hxm:=h.l x (List.mem_of_getElem? hx)
  refine ⟨by rw [List.length_set];exact h.len,fun v hv=>?_,fun z hz=>?_⟩
  ·rcases List.mem_or_eq_of_mem_set hv with q | q
   ·exact h.w v q
   ·exact .inr (q▸hxm)
  ·rcases List.mem_or_eq_of_mem_set hz with q | q
   ·exact h.l z q
   ·subst q;exact hxm
theorem WIn.itr {l0:List Wl} {f:WS→WS} (hf: ∀S,WIn l0 S→WIn l0 (f S)) {S:WS} (h:WIn l0 S): ∀n,WIn l0 (itr f n S)
 | 0=>h
 | n+1=>hf _ (WIn.itr hf h n)
theorem WIn.round {l0:List Wl} {S:WS} (h:WIn l0 S): ∀k,WIn l0 (zcY l0 S k)
 | 0=>h
 | k+1=>WIn.itr (fun S hS=>hS.turn k) (WIn.round h k) _
theorem wlks_st (p:qZ): ∀n,∀y∈zbw p n,∃k:Nat,k < n∧y.s=(k:Int)∧p (3+5*k)=2
 | 0,y,hy=>by simp [zbw] at hy
 | n+1,y,hy=>by
  simp only [zbw] at hy
  split at hy
  ·rename_i h2
   rcases List.mem_append.1 hy with q | q
   ·obtain ⟨k,h⟩:=wlks_st p n y q;exact ⟨k,om,h.2⟩
   ·simp at q;subst q;exact ⟨n,om,rfl,h2⟩
  ·obtain ⟨k,h⟩:=wlks_st p n y hy;exact ⟨k,om,h.2⟩
theorem zhF (p:qZ):(zZ p).length=127∧∀v∈zZ p,v= -1∨∃k:Nat,k < 64∧v=(k:Int)∧p (3+5*k)=2:=by
 have h0:WIn (zbw p 64) (zeA,zbw p 64):=⟨rfl,fun v hv=> .inl (List.eq_of_mem_replicate hv),fun x hx=>⟨x,hx,rfl⟩⟩
 have h:WIn (zbw p 64) (zbg (zbw p 64) 127):=WIn.itr (fun S hS=>hS.round _) h0 127
 refine ⟨h.len,fun v hv=>?_⟩
 rcases h.w v hv with q | ⟨y,hy,q⟩
 ·exact .inl q
 ·obtain ⟨k,h1,h2,h3⟩:=wlks_st p 64 y hy
  exact .inr ⟨k,h1,by rw [q,h2],h3⟩
def zbp (W:List Int) (f:Fl):Int:=W.getD (za2 127 [3,f.a,f.p,f.ta,f.tp]).toNat 0
theorem pick_r (p:qZ) (f:Fl):zbp (zZ p) f= -1∨∃k:Nat,k < 64∧zbp (zZ p) f=(k:Int)∧p (3+5*k)=2:=by
 have h:=zhF p
 have hr:=zdG (m:=127) (ns:= [3,f.a,f.p,f.ta,f.tp]) dC
 refine h.2 _ ?_
 have hl:(za2 127 [3,f.a,f.p,f.ta,f.tp]).toNat < (zZ p).length:=by rw [h.1];omega
 unfold zbp
 rw [List.getD_eq_getElem?_getD,List.getElem?_eq_getElem hl]
 exact List.getElem_mem hl
structure Oc where
  (e s:Int)
  c:Bool
  b:List Int
def zeB (e:Int):Oc:=⟨e,-1,false,[]⟩
def rgP (p:qZ):Rg:=⟨p 323,p 324,p 325,p 326,p 327,p 328,p 329⟩
abbrev zdU:=Nat→Int×Bool
def zcm (nr:zdU) (i:Nat) (y:Int×Bool):zdU:=fun j=>if j=i then y else nr j
def outC9 (p:qZ) (x:Pk) (s:Int):Int:=zad (rgP p) x.k ⟨x.t,x.tp,p 1,p 2⟩ s
def outL (p:qZ) (x:Pk) (m:List Int) (s:Int):List Int:=
 if x.k=2 then zco (natL m x.ba true (p 1) (p 2)) x.ba 20 2 (outC9 p x s)
 else match zcy x.op with
  | none=>natL m x.ba true (p 1) (p 2)
  | some a=>zco (natL m x.ba true (p 1) (p 2)) x.ba (24+a) 4 (zbT (qD x.op a 4) (outC9 p x s))
def outN (nr:zdU) (x:Pk) (s:Nat):zdU:=
 if x.k=2 then nr else match zcy x.op with
  | none=>nr
  | some a=>zcm nr s (qD x.op a 4,true)
def zgY (p:qZ) (x:Pk) (f:Fl):Option Int:=
 if x.k=2 then (if x.la=0 then none else ze1 (rgP p) x.k f x.la)
 else match zcy x.op with
  | none=>none
  | some a=>if x.fl=1 then none else ze1 (rgP p) x.k f (qD x.op (a+4) 4 % 1048576)
def inF (p:qZ) (x:Pk):Fl:=⟨x.fr,x.fp,p 1,p 2⟩
def inP (p:qZ) (x:Pk):Int×Bool:=match zgY p x (inF p x) with
 | none=>(zbp (zZ p) (inF p x),false)
 | some s=>if [1,2,3].contains (p (3+5*s.toNat)) then (s,true) else (zbp (zZ p) (inF p x),false)
def backN (nr:zdU) (s:Nat) (echo:Int):Int:=if (nr s).2 then zfY echo (nr s).1 else 0
def inL (p:qZ) (nr:zdU) (x:Pk) (m:List Int) (s:Nat):List Int:=match zcy x.op with
 | none=>natL m x.ba false (p (3+5*s+1)) (p (3+5*s+2))
 | some a=>if x.k=1∧qD x.op (a+4) 4≠0 then zco (natL m x.ba false (p (3+5*s+1)) (p (3+5*s+2))) x.ba (24+a+4) 4 (backN nr s (qD x.op (a+4) 4)) else natL m x.ba false (p (3+5*s+1)) (p (3+5*s+2))
def stepF (b:List Int) (a:Nat) (v:Int):List Int:=zbq (zbq b a 2 v) 14 2 (zd3 (qD b 14 2) (qD b a 2) v)
def fauF (p:qZ) (x:Pk):Fl:=⟨qD x.da 8 4,qD x.da 18 2,p 1,p 2⟩
def fauL (p:qZ) (m:List Int) (s:Nat):List Int:=
 stepF (stepF (zco (zco m false 24 4 (p (3+5*s+1))) false 36 2 (p (3+5*s+2))) 8 (p (3+5*s+1) / 65536 % 65536)) 10 (p (3+5*s+1) / 1 % 65536)
def fauE (p:qZ) (x:Pk):Prop:=(¬x.da.getD 0 0 % 256=1∧¬x.da.getD 0 0 % 256=2)∨¬qD x.da 4 4=p 1∨¬qD x.da 16 2=p 2
instance (p:qZ) (x:Pk):Decidable (fauE p x):=by unfold fauE;infer_instance
def go9S (p:qZ) (nr:zdU) (x:Pk) (m:List Int):Oc×zdU:=
 if x.k=3 then
  (if¬x.t=p 1 then zeB 8 else if fauE p x then zeB 8 else if zbp (zZ p) (fauF p x) < 0 then zeB 9
   else ⟨0,zbp (zZ p) (fauF p x),false,fauL p m (zbp (zZ p) (fauF p x)).toNat⟩,nr)
 else if x.t=p 1∧x.tp=p 2 then
  (if (inP p x).1 < 0 then zeB 9 else ⟨0,(inP p x).1,(inP p x).2,inL p nr x m (inP p x).1.toNat⟩,nr)
 else if (zbR (zep p x.fr x.fp) 0 64).2=true then (⟨0,-1,false,outL p x m (zbR (zep p x.fr x.fp) 0 64).1⟩,outN nr x (zbR (zep p x.fr x.fp) 0 64).1.toNat)
 else (zeB 8,nr)
def zaK (p:qZ) (nr:zdU) (b:List Int):Oc×zdU:=
 if¬(qX b).1=0 then (zeB (qX b).1,nr)
 else if¬(qX b).2.pi=0 then (zeB 6,nr)
 else if (qX b).2.li < 2 then (zeB 7,nr)
 else go9S p nr (qX b).2 (ageL b (qX b).2.ba)
def ocL (o:Oc) (k:Nat):List Value:= [iv o.e,iv o.s,bv o.c,zS (zD o.b) k o.b.length]
def ocV (o:Oc) (k:Nat):Value:= .agg ⟨ocL o k⟩
def qR (x:Pk) (qo:Option (Nat×Nat)) (ko:Nat) (qd:Option (Nat×Nat)) (kd:Nat) (kp:Nat) (qb:Option (Nat×Nat)) (kb nb:Nat):List Value:=pkL x qo ko qd kd++ [pv kp 0,zS qb kb nb]
theorem ren_packL {ρ:Nat→Nat} {x:Pk} {qo qd qb:Option (Nat×Nat)} {ko kd kp kb nb ko' kd' kp' kb':Nat} (h1:ρ ko=ko') (h2:ρ kd=kd') (h3:ρ kp=kp') (h4:ρ kb=kb'):(qR x qo ko qd kd kp qb kb nb).map (zew ρ)=qR x qo ko' qd kd' kp' qb kb' nb:=by
 subst h3
 simp only [qR,List.map_append,ren_pkL h1 h2,List.map_cons,List.map_nil,zge h4];rfl
theorem zbZ {ρ:Nat→Nat} {x:Pk} {qo qd qb:Option (Nat×Nat)} {ko kd kp kb nb ko' kd' kp' kb':Nat} {rw:Bool} (h1:ρ ko=ko') (h2:ρ kd=kd') (h3:ρ kp=kp') (h4:ρ kb=kb'):zbx ρ (.cells (qR x qo ko qd kd kp qb kb nb) rw)= .cells (qR x qo ko' qd kd' kp' qb kb' nb) rw:=by
 simp only [zbx];rw [ren_packL h1 h2 h3 h4]
theorem zay {ρ:Nat→Nat} {x:Pk} {qo qd qb:Option (Nat×Nat)} {ko kd kp kb nb ko' kd' kp' kb':Nat} {rw:Bool} (h1:ρ ko=ko') (h2:ρ kd=kd') (h3:ρ kp=kp') (h4:ρ kb=kb'):some (Blk.cells (qR x qo ko' qd kd' kp' qb kb' nb) rw)=some (zbx ρ (.cells (qR x qo ko qd kd kp qb kb nb) rw)):=by
 rw [zbZ h1 h2 h3 h4]
theorem zb4 {ρ:Nat→Nat} {x:Pk} {qo qd qb:Option (Nat×Nat)} {ko kd kp kb nb ko' kd' kp' kb':Nat} {rw rw':Bool} (h1:ρ ko=ko') (h2:ρ kd=kd') (h3:ρ kp=kp') (h4:ρ kb=kb') (hr:rw=true→rw'=true):Blk.seen (zbx ρ (.cells (qR x qo ko qd kd kp qb kb nb) rw)) (.cells (qR x qo ko' qd kd' kp' qb kb' nb) rw'):=by
 rw [zbZ h1 h2 h3 h4];exact ⟨rfl,hr⟩
theorem zgT {α:Type} (f:Nat→List α) {i:Nat} (h:i < 64):((List.range 64).map f).flatten=((List.range i).map f).flatten++(f i++((List.range' (i+1) (63 - i)).map f).flatten):=by
 have e:List.range 64=List.range i++i::List.range' (i+1) (63 - i):=by
  rw [List.range_eq_range',List.range_eq_range',show (64:Nat)=i+(63 - i+1) by omega,←List.range'_append_1,Nat.zero_add,List.range'_succ]
 rw [e];simp
theorem near_len (nr:zdU) (l:List Nat):((l.map fun i=> [Value.int .u32 (nr i).1,bv (nr i).2]).flatten).length=2*l.length:=by
 induction l with
 | nil=>rfl
 | cons a l ih=>simp only [List.map_cons,List.flatten_cons,List.length_append,ih,List.length_cons,List.length_nil];omega
theorem near_r {nr:zdU} {i j:Nat} {m:Option Nat} {v:Value} (h:i < 64) (hv:zaP m [Value.int .u32 (nr i).1,bv (nr i).2] j=some v):zaP m (zeK nr) (2*i+j)=some v:=by
 unfold zeK
 rw [zgT _ h,partL_r (by rw [near_len,List.length_range])]
 exact zcQ hv
theorem zjq {p:qZ} {is:Bool} {nr:zdU} {w v:Value} {i j o:Nat} {m:Option Nat} (h:i < 64) (ho:o=331+2*i+j) (hv:zaP m [Value.int .u32 (nr i).1,bv (nr i).2] j=some v):zaP m (zR p is nr w) o=some v:=by
 rw [ho,show 331+2*i+j=330+(1+(2*i+j)) by omega,zfp]
 have e1: ∀o,zaP m ([bv is]++(zeK nr++ [w])) (1+o)=zaP m (zeK nr++ [w]) o:=fun o=>partL_r rfl
 exact (e1 _).trans (zcQ (near_r h hv))
theorem near_w {nr:zdU} {i j:Nat} {vs:List Value} {y:Int×Bool} (h:i < 64) (hj:j+vs.length≤2) (hv:splice [Value.int .u32 (nr i).1,bv (nr i).2] j vs= [Value.int .u32 y.1,bv y.2]):splice (zeK nr) (2*i+j) vs=zeK (zcm nr i y):=by
 unfold zeK
 have e1:((List.range i).map fun k=> [Value.int .u32 (zcm nr i y k).1,bv (zcm nr i y k).2])=(List.range i).map fun k=> [Value.int .u32 (nr k).1,bv (nr k).2]:=List.map_congr_left fun k hk=>by
  have:=List.mem_range.1 hk;simp only [zcm];rw [if_neg om]
 have e2:((List.range' (i+1) (63 - i)).map fun k=> [Value.int .u32 (zcm nr i y k).1,bv (zcm nr i y k).2])=(List.range' (i+1) (63 - i)).map fun k=> [Value.int .u32 (nr k).1,bv (nr k).2]:=List.map_congr_left fun k hk=>by
  have:=List.mem_range'_1.1 hk;simp only [zcm];rw [if_neg om]
 have e3: [Value.int .u32 (zcm nr i y i).1,bv (zcm nr i y i).2]= [Value.int .u32 y.1,bv y.2]:=by simp [zcm]
 rw [zgT _ h,zgT _ h,e1,e2,e3,zdg (by rw [near_len,List.length_range]),zes hj,hv]
theorem plane_wN {p:qZ} {is:Bool} {nr:zdU} {w:Value} {i j o:Nat} {vs:List Value} {y:Int×Bool} (h:i < 64) (ho:o=331+2*i+j) (hj:j+vs.length≤2) (hv:splice [Value.int .u32 (nr i).1,bv (nr i).2] j vs= [Value.int .u32 y.1,bv y.2]):splice (zR p is nr w) o vs=zR p is (zcm nr i y) w:=by
 rw [ho,show 331+2*i+j=330+(1+(2*i+j)) by omega]
 unfold zR zis
 have e1: ∀o,splice ([bv is]++(zeK nr++ [w])) (1+o) vs= [bv is]++splice (zeK nr++ [w]) o vs:=fun o=>zdg rfl
 rw [zdg (qI p),e1,zes (by rw [nearL_length];omega),near_w h hj hv]
theorem zcw {ρ:Nat→Nat} {c:List Value} {rw:Bool} (q:Option (Nat×Nat)):Blk.view (zbx ρ (zaG q.isSome)) (zG q c rw):=by
 cases q with
 | none=>exact zav (.inr ⟨rfl,rfl⟩)
 | some p=>exact zaI
theorem find_r {h:Nat→Bool} : ∀n i,i+n≤64→0≤(zbR h i n).1∧(zbR h i n).1 < 64
 | 0,_,_=>by simp [zbR]
 | n+1,i,q=>by
  simp only [zbR];split
  ·exact ⟨by simp,by show (i:Int) < 64;omega⟩
  ·exact find_r n (i+1) om
structure PRng (p:qZ):Prop where
  a:0≤p 1∧p 1≤4294967295
  b:0≤p 2∧p 2≤65535
  e: -4611686018427387904≤p 323 - 1∧p 323 - 1≤4611686018427387904
  s: ∀k,k < 64→p (3+5*k)≠0→(0≤p (3+5*k+1)∧p (3+5*k+1)≤4294967295)∧(0≤p (3+5*k+2)∧p (3+5*k+2)≤65535)
theorem placed_r {a p:Int} (h:zbh a p=true):(0≤a∧a≤4294967295)∧(0≤p∧p≤65535):=by
 simp only [zbh,Bool.and_eq_true,decide_eq_true_eq] at h;omega
theorem PInv.rng {p:qZ} {b:Nat} (I:PInv p b) (hb:b≤1000000):PRng p:=by
 have h1:=placed_r I.place
 have h2:=I.ep
 exact ⟨h1.1,h1.2,om,fun k hk h0=>placed_r (I.slot k hk h0).1⟩
theorem PRng.pick {p:qZ} (H:PRng p) {f:Fl} {s:Nat} (h:zbp (zZ p) f=(s:Int)):s < 64∧(0≤p (3+5*s+1)∧p (3+5*s+1)≤4294967295)∧(0≤p (3+5*s+2)∧p (3+5*s+2)≤65535):=by
 rcases pick_r p f with q | ⟨k,h1,h2,h3⟩
 ·omega
 ·have:s=k:=om
  subst this
  exact ⟨h1,H.s s h1 om⟩
theorem nrSet_set (nr:zdU) (i:Nat) (y z:Int×Bool):zcm (zcm nr i y) i z=zcm nr i z:=by
 funext j;unfold zcm;split<;>rfl
theorem nrSet_at (nr:zdU) (i:Nat) (y:Int×Bool):zcm nr i y i=y:=if_pos rfl
end Go.Rh

set_option maxHeartbeats 1000000
namespace Go.Rh
abbrev wm:=[iv 0,iv 0,bv false,.slice none 0 0]
theorem dropC {P:Program} [PrC P] (e:Int):
    Env P "roundhouse/plane.drop" [iv e] ([]) (Ans (.agg #[iv e,iv (-1),bv false,.slice none 0 0]) ([])):=by
 refine Env.by PrC.plane_drop ?_
 unfold zhq
 show GC _ 0 _ _ ⟨reg [(0,iv e)],[]⟩
 exact zJ (zN (o_b 1 [(2,pv 0 0)] [cw wm] (zE (zA (zJ (zN (o_b 3 [(4,.agg #[iv e,iv (-1),bv false,.slice none 0 0]),(3,iv e)] [cw [iv e,iv (-1),bv false,.slice none 0 0]] (zE (zA (qW (z7 [.agg #[iv e,iv (-1),bv false,.slice none 0 0]] (q8 rfl rfl rfl rfl) rfl (by rfl) rfl rfl)))))))))))
abbrev vk (b:Fl):=[3,b.a,b.p,b.ta,b.tp]
theorem PickC {P:Program} [PrC P] (W:List Int) (m:Nat) (f:Fl) (hW:W.length=127):
    Env P "roundhouse/wheel.Pick" [sv 0 0 127 (127+m),.agg (wK f)] ([cr (ii W++zaj zI m)]) (fun v h'=>v=iv (zbp W f)∧h'= [cr (ii W++zaj zI m)]):=by
 refine Env.by2 PrC.wheel_Pick ?_
 unfold zhg
 show GC _ 1 _ _ ⟨reg [(0,sv 0 0 127 (127+m)),(1,.agg (wK f))],[cr (ii W++zaj zI m)]⟩
 refine zJ (zN (o_b 2 [(4,iv 0),(3,pv 1 0)] [cr (ii W++zaj zI m),cw (w5 f)] (zE (zA (zJ (zN (o_b 9 [(14,sv 2 0 5 5),(13,iv f.tp),(12,pv 1 3),(11,iv f.ta),(10,pv 1 2),(9,iv f.p),(8,pv 1 1),(7,iv f.a),(6,pv 1 0)] [cr (ii W++zaj zI m),cw (w5 f),cw [iv 3,iv f.a,iv f.p,iv f.ta,iv f.tp]] ?_)))))))
 have hsp127:=zdG (m:=127) (ns:= (vk f)) dC
 refine qV (zdD (a1:= [uv 127,sv 0 0 5 5]) [2] [ii (vk f)] (spun127C (vk f) (by simp)) rfl (fun _=>zQ rfl (zQ rfl rfl)) ⟨⟨_,rfl⟩,qS _,trivial⟩ rfl ?_)
 refine o_d 1 [(5,iv (za2 127 (vk f)))] (zE (zA (zJ (zJ (zN (o_d 4 [(19,bv (decide (za2 127 (vk f)≥127))),(18,iv 127),(17,sv 0 0 127 (127+m)),(16,iv (za2 127 (vk f)))] (zE (zA (qJ (t:=decide (za2 127 (vk f)≥127)) rfl (fun q=>by rw [(by simp;omega:(decide (za2 127 (vk f)≥127))=false)] at q;cases q) (fun _=>?_))))))))))
 refine qK (zA (zJ (zN (o_d 2 [(21,iv (za2 127 (vk f))),(20,sv 0 0 127 (127+m))] (o_s (by exact zcU (o:=0) (o':=((za2 127 (vk f)).toNat)) rfl rfl om om) ?_)))))
 refine o_s (by refine zV (v:=iv (W.getD ((za2 127 (vk f)).toNat) 0)) rfl rfl ?_;exact zcQ (ii_g (i:=((za2 127 (vk f)).toNat)) rfl om)) ?_
 exact o_d 1 [(4,iv (W.getD ((za2 127 (vk f)).toNat) 0))] (zE (zU [(4,iv (W.getD ((za2 127 (vk f)).toNat) 0))] (qW (⟨trivial,⟨reg [(4,iv (W.getD ((za2 127 (vk f)).toNat) 0))],[cr (ii W++zaj zI m)]⟩,Wk.ren [0] rfl rfl dC ⟨rfl,trivial⟩ ⟨.inl (zL (zaq W m)),trivial⟩,[iv (W.getD ((za2 127 (vk f)).toNat) 0)],(zT rfl rfl),(zM rfl z5),rfl,rfl⟩))))
theorem thenC {P:Program} [PrC P] (x:Pk) (qo qd:Option (Nat×Nat)) (o c n o2 c2 n2:Nat) (zo zd:Bool):
    Env P "(*roundhouse/plane.packet).then" [pv 0 0,zS (wZ o2 c2) 5 n2,iv 0] ([cw (qR x qo 1 qd 2 3 (wZ o c) 4 n),zaG zo,zaG zd,cr [],cr [],cr []]) (fun v h'=>v= .tuple #[]∧h'= [cw (qR x qo 1 qd 2 3 (wZ o2 c2) 5 n2),zaG zo,zaG zd,cr [],cr [],cr []]):=by
 refine Env.by2 PrC.plane_packet_then ?_
 unfold zdy
 show GC _ 6 _ _ ⟨reg [(0,pv 0 0),(1,zS (wZ o2 c2) 5 n2),(2,iv 0)],[cw (qR x qo 1 qd 2 3 (wZ o c) 4 n),zaG zo,zaG zd,cr [],cr [],cr []]⟩
 refine zJ (zN (o_d 2 [(7,bv true),(6,iv 0)] (zE (zA (zc8 rfl (zN (o_d 4 [(11,pv 0 14),(10,pv 0 0),(9,zS (wZ o2 c2) 5 n2),(8,pv 0 0)] (zdj (by refine zao (c':=qR x qo 1 qd 2 3 (wZ o2 c2) 5 n2) rfl rfl rfl ?_ ?_ ?_;exact rfl;exact (Nat.le_of_ble_eq_true rfl);exact rfl) ?_))))))))
 exact zE (⟨trivial,⟨reg [],[cw (qR x qo 1 qd 2 3 (wZ o2 c2) 5 n2),zaG zo,zaG zd,cr [],cr [],cr []]⟩,Wk.ren [0,1,2,3,4,5] rfl rfl dC trivial ⟨.inl (zay rfl rfl rfl rfl),.inl (congrArg some (zaM _).symm),.inl (congrArg some (zaM _).symm),.inl rfl,.inl rfl,.inl rfl,trivial⟩,[],rfl,z5,rfl,rfl⟩)
end Go.Rh

set_option maxHeartbeats 1000000
namespace Go.Rh
def zc1 (nr:zdU) (s:Int):Int×Bool:=if s < 0∨64≤s then (0,false) else nr s.toNat
theorem NearC {P:Program} [PrC P] (p:qZ) (is:Bool) (nr:zdU) (q:Option Nat) (s:Int):
    Env P "(*roundhouse/plane.Plane).Near" [pv 0 0,iv s] ([cr (zR p is nr (xJ q)),cr []]) (fun v h'=>v= .tuple #[u32v (zc1 nr s).1,bv (zc1 nr s).2]∧h'= [cr (zR p is nr (xJ q)),cr []]):=by
 refine Env.by2 PrC.plane_Plane_Near ?_
 unfold zdS
 show GC _ 2 _ _ ⟨reg [(0,pv 0 0),(1,iv s)],[cr (zR p is nr (xJ q)),cr []]⟩
 refine zJ (zN (o_d 2 [(5,bv false),(4,.int .u32 0)] (zE (zA (zJ (zJ (zN (o_d 3 [(8,bv (decide (s < 0))),(7,bv (decide (s < 0))),(6,iv s)] (zbJ (b:=decide (s < 0)) 8 rfl (fun h1=>?_) (fun h1=>?_))))))))))
 ·skip
  have h1':s < 0:=of_decide_eq_true h1
  exact o_d 3 [(11,bv true),(10,undef),(9,undef)] (zE (zA (zc8 rfl (zJ (zN (o_d 2 [(5,bv false),(4,.int .u32 0)] (zE (zA (qW (⟨trivial,⟨reg [(4,.int .u32 0),(5,bv false)],[cr (zR p is nr (xJ q)),cr []]⟩,Wk.ren [0,1] rfl rfl dC ⟨rfl,rfl,trivial⟩ ⟨.inl (qH (zaZ q rfl)),.inl rfl,trivial⟩,[.int .u32 0,bv false],(zT rfl (zT rfl rfl)),(zM rfl (zM rfl z5)),(by rw [zc1,if_pos om];rfl),rfl⟩))))))))))
 have h1': ¬(s < 0):=of_decide_eq_false h1
 refine o_d 3 [(11,bv (decide (s≥64))),(10,bv (decide (s≥64))),(9,iv s)] (zE (zA (qJ (t:=decide (s≥64)) rfl (fun h2=>?_) (fun h2=>?_))))
 ·skip
  have h2':s≥64:=of_decide_eq_true h2
  exact zJ (zN (o_d 2 [(5,bv false),(4,.int .u32 0)] (zE (zA (qW (⟨trivial,⟨reg [(4,.int .u32 0),(5,bv false)],[cr (zR p is nr (xJ q)),cr []]⟩,Wk.ren [0,1] rfl rfl dC ⟨rfl,rfl,trivial⟩ ⟨.inl (qH (zaZ q rfl)),.inl rfl,trivial⟩,[.int .u32 0,bv false],(zT rfl (zT rfl rfl)),(zM rfl (zM rfl z5)),(by rw [zc1,if_pos om];rfl),rfl⟩))))))
 have h2': ¬(s≥64):=of_decide_eq_false h2
 refine qK (zA (zJ (zbe [] (r_d 4 [(15,pv 0 331),(14,pv 0 0),(13,iv s),(12,pv 0 0)] (r_s (by exact zaA (o:=331) (o':=331+2*s.toNat) rfl rfl om om) ?_)))))
 refine r_s (by refine zci (o':=331+2*s.toNat) rfl om) ?_
 refine r_s (by refine zV (v:= .int .u32 ((nr s.toNat).1)) rfl rfl ?_;exact zjq (i:=s.toNat) (j:=0) om om rfl) ?_
 refine r_d 4 [(22,pv 0 331),(21,pv 0 0),(20,iv s),(19,pv 0 0)] (r_s (by exact zaA (o:=331) (o':=331+2*s.toNat) rfl rfl om om) ?_)
 refine r_s (by refine zci (o':=332+2*s.toNat) rfl om) ?_
 refine r_s (by refine zV (v:=bv ((nr s.toNat).2)) rfl rfl ?_;exact zjq (i:=s.toNat) (j:=1) om om rfl) ?_
 exact r_d 2 [(5,bv ((nr s.toNat).2)),(4,.int .u32 ((nr s.toNat).1))] (za3 (zU [(5,bv ((nr s.toNat).2)),(4,.int .u32 ((nr s.toNat).1))] (qW (⟨trivial,⟨reg [(4,.int .u32 ((nr s.toNat).1)),(5,bv ((nr s.toNat).2))],[cr (zR p is nr (xJ q)),cr []]⟩,Wk.ren [0,1] rfl rfl dC ⟨rfl,rfl,trivial⟩ ⟨.inl (qH (zaZ q rfl)),.inl rfl,trivial⟩,[.int .u32 ((nr s.toNat).1),bv ((nr s.toNat).2)],(zT rfl (zT rfl rfl)),(zM rfl (zM rfl z5)),(by rw [zc1,if_neg om];rfl),rfl⟩))))
theorem LayUC {P:Program} [PrC P] (p:qZ) (is:Bool) (nr:zdU) (q:Option Nat) (i:Nat) (v:Int) (hi:i < 64):
    Env P "(*roundhouse/plane.maybe[uint32]).lay" [pv 0 (331+2*i),.int .u32 v] ([cw (zR p is nr (xJ q)),cr []]) (fun w h'=>w= .tuple #[]∧h'= [cw (zR p is (zcm nr i (v,true)) (xJ q)),cr []]):=by
 refine Env.by2 PrC.plane_maybe_uint32_lay ?_
 unfold zcq
 show GC _ 2 _ _ ⟨reg [(0,pv 0 (331+2*i)),(1,.int .u32 v)],[cw (zR p is nr (xJ q)),cr []]⟩
 refine zN (o_d 4 [(7,pv 0 (331+2*i)),(6,.int .u32 v),(5,pv 0 (331+2*i)),(4,pv 0 (331+2*i))] (o_s (by refine zci (o':=331+2*i) rfl om) ?_))
 refine zdj (by refine zao (c':=zR p is (zcm nr i (v,(nr i).2)) (xJ q)) rfl rfl rfl ?_ ?_ ?_;exact rfl;exact zfq om;exact plane_wN (i:=i) (j:=0) (y:=(v,(nr i).2)) om om (Nat.le_of_ble_eq_true rfl) rfl) ?_
 refine o_b 1 [(9,pv 0 (331+2*i))] [cw (zR p is (zcm nr i (v,(nr i).2)) (xJ q)),cr []] (o_s (by refine zci (o':=332+2*i) rfl om) ?_)
 refine zdj (by refine zao (c':=zR p is (zcm (zcm nr i (v,(nr i).2)) i (((zcm nr i (v,(nr i).2)) i).1,true)) (xJ q)) rfl rfl rfl ?_ ?_ ?_;exact rfl;exact zfq om;exact plane_wN (i:=i) (j:=1) (y:=(((zcm nr i (v,(nr i).2)) i).1,true)) om om (Nat.le_of_ble_eq_true rfl) rfl) ?_
 exact zE (⟨trivial,⟨reg [],[cw (zR p is (zcm (zcm nr i (v,(nr i).2)) i (((zcm nr i (v,(nr i).2)) i).1,true)) (xJ q)),cr []]⟩,Wk.ren [0,1] rfl rfl dC trivial ⟨.inl (qH (zaZ q rfl)),.inl rfl,trivial⟩,[],rfl,z5,rfl,(by rw [nrSet_set,nrSet_at])⟩)
abbrev wz (a:Pk) (b:Option (Nat×Nat)) (c:Nat) (d:Nat) (e:Nat) (f:Bool) (g:qZ) (h:Bool) (i:zdU) j k:=cr (qR a (zD a.op) 1 b 2 3 (some (c,d)) 4 e)::zG (zD a.op) (u8 a.op) false::zaG f::cr (zR g h i (slV 5 127 j))::cr []::k
abbrev xL (a:Nat) (b:Nat) (c:Nat) (d:Nat) (e:Nat) (f:Nat) (g:Nat) (h:Nat) (i:Nat):=[(a,bv false),(b,.int .u32 0),(c,.int .u32 0),(d,iv 0),(e,bv false),(f,.int .u32 0),(g,.int .u32 0),(h,iv 0),(i,.tuple #[iv 0,.int .u32 0,.int .u32 0,bv false])]
abbrev W9 (a:Fl) (b:qZ):=[cr [],cw (w5 a),cw [iv (b 323),uv (b 324),uv (b 325),uv (b 326),uv (b 327),uv (b 328),uv (b 329)]]
theorem carriedC {P:Program} [PrC P] (p:qZ) (is:Bool) (nr:zdU) (q:Option Nat) (x:Pk) (qd:Option (Nat×Nat)) (o c n:Nat) (zd:Bool) (f:Fl) (r:Option Int) (ho:zgY p x f=r) (hl:x.op.length≤100000) (H:PRng p):
    Env P "(*roundhouse/plane.packet).carried" [pv 0 0,.agg (wK f)] ((wz x qd o c n zd p is nr q [cr []])) (fun v h'=>v=zd8 r∧h'= (wz x qd o c n zd p is nr q [cr []])):=by
 refine Env.by2 PrC.plane_packet_carried ?_
 unfold zcK
 show GC _ 6 _ _ ⟨reg [(0,pv 0 0),(1,.agg (wK f))],(wz x qd o c n zd p is nr q [cr []])⟩
 have hep:=H.e
 refine zJ (zN (o_b 3 [(5,bv false),(4,iv 0),(3,pv 6 0)] (wz x qd o c n zd p is nr q [cr [],cw (w5 f)]) (zE (zA (zJ (zN (o_d 3 (xV 15 0 13 14 0 13 0) (o_s (by refine zV (v:=pv 3 0) rfl rfl ?_;exact rfl) ?_))))))))
 refine o_d 4 (wJ 20 3 323 19 3 18 3 17 3) (o_s (by refine zV (v:= .agg (xa p)) rfl rfl ?_;exact zex (pl_ring p)) ?_)
 refine o_b 2 [(6,pv 7 0)] (wz x qd o c n zd p is nr q (W9 f p)) (zE (zA (zJ (zJ (zN (o_d 4 (wJ 25 0 0 24 0 23 0 22 0) (o_s (by refine zV (v:=iv x.k) rfl rfl ?_;exact rfl) ?_)))))))
 refine o_d 1 [(27,bv (x.k==2))] (zE (zA (qJ (t:=x.k==2) rfl (fun h1=>?_) (fun h1=>?_))))
 ·skip
  have h1':x.k=2:=zaQ h1
  refine zJ (zJ (zN (o_d 4 (wJ 31 0 8 30 0 29 0 28 0) (o_s (by refine zV (v:=iv x.la) rfl rfl ?_;exact rfl) ?_))))
  refine o_d 1 [(33,bv (x.la==0))] (zE (zU [(33,bv (x.la==0)),(6,pv 7 0),(3,pv 6 0),(0,pv 0 0)] (qJ (t:=x.la==0) rfl (fun h2=>?_) (fun h2=>?_))))
  ·skip
   have h2':x.la=0:=zaQ h2
   refine zJ (zN (o_d 2 (xq 5 4) (zE (zA (qW ?_)))))
   have he:zgY p x f=none:=by
    unfold zgY
    rw [if_pos (by assumption)]
    rw [if_pos (by assumption)]
   exact ⟨trivial,⟨reg [(4,iv 0),(5,bv false)],(wz x qd o c n zd p is nr q [cr []])⟩,Wk.ren [0,1,2,3,4,5] rfl rfl dC ⟨rfl,rfl,trivial⟩ ⟨.inl (zay rfl rfl rfl rfl),.inl (zF (zH _)),.inl (congrArg some (zaM _).symm),.inl (qH (zaZ q rfl)),.inl rfl,.inl rfl,trivial⟩,[iv 0,bv false],(zT rfl (zT rfl rfl)),(zM rfl (zM rfl z5)),(congrArg zd8 (he.symm.trans ho)),rfl⟩
  have h2': ¬(x.la=0):=zaR h2
  refine qK (zA (zJ (zbe [] (r_d 5 [(38,pv 0 0),(37,pv 0 0),(36,pv 0 0),(35,pv 0 0),(34,.agg (xa p))] (r_s (by refine zV (v:=iv x.k) rfl rfl ?_;exact rfl) ?_)))))
  refine r_d 5 [(44,pv 0 8),(43,pv 0 0),(42,pv 0 0),(41,pv 0 0),(40,.agg (wK f))] (r_s (by refine zV (v:=iv x.la) rfl rfl ?_;exact rfl) ?_)
  rcases r3:ze1 (rgP p) x.k f x.la with _ | s4
  ·skip
   refine zeJ (zba (cReadC (rgP p) x.k f x.la none r3 (by exact hep)) rfl rfl rfl ?_)
   refine r_d 4 [(5,bv false),(4,iv 0),(48,bv false),(47,iv 0)] (za3 (zA (qW ?_)))
   have he:zgY p x f=none:=by
    unfold zgY
    rw [if_pos (by assumption)]
    rw [if_neg (by assumption)]
    exact r3
   exact ⟨trivial,⟨reg [(4,iv 0),(5,bv false)],(wz x qd o c n zd p is nr q [cr []])⟩,Wk.ren [0,1,2,3,4,5] rfl rfl dC ⟨rfl,rfl,trivial⟩ ⟨.inl (zay rfl rfl rfl rfl),.inl (zF (zH _)),.inl (congrArg some (zaM _).symm),.inl (qH (zaZ q rfl)),.inl rfl,.inl rfl,trivial⟩,[iv 0,bv false],(zT rfl (zT rfl rfl)),(zM rfl (zM rfl z5)),(congrArg zd8 (he.symm.trans ho)),rfl⟩
  ·skip
   have hs4:=readS_r r3
   refine zeJ (zba (cReadC (rgP p) x.k f x.la (some s4) r3 (by exact hep)) rfl rfl rfl ?_)
   refine r_d 4 [(5,bv true),(4,iv s4),(48,bv true),(47,iv s4)] (za3 (zA (qW ?_)))
   have he:zgY p x f=some s4:=by
    unfold zgY
    rw [if_pos (by assumption)]
    rw [if_neg (by assumption)]
    exact r3
   exact ⟨trivial,⟨reg [(4,iv s4),(5,bv true)],(wz x qd o c n zd p is nr q [cr []])⟩,Wk.ren [0,1,2,3,4,5] rfl rfl dC ⟨rfl,rfl,trivial⟩ ⟨.inl (zay rfl rfl rfl rfl),.inl (zF (zH _)),.inl (congrArg some (zaM _).symm),.inl (qH (zaZ q rfl)),.inl rfl,.inl rfl,trivial⟩,[iv s4,bv true],(zT rfl (zT rfl rfl)),(zM rfl (zM rfl z5)),(congrArg zd8 (he.symm.trans ho)),rfl⟩
 have h1': ¬(x.k=2):=zaR h1
 refine qK (zA (zJ (zN (o_d 4 (wJ 53 0 11 52 0 51 0 50 0) (o_s (by refine zV (v:=zS (zD x.op) 1 x.op.length) rfl rfl ?_;exact rfl) ?_)))))
 rcases ha5:zcy x.op with _ | a5
 ·skip
  refine qV (zaD [1] [zG (zD x.op) (u8 x.op) false] [zS (zD x.op) 0 x.op.length] (zgE ha5 (zjV (zD x.op) x.op x.op (zdt x.op) om)) rfl (zQ (qG rfl) rfl) ⟨⟨_,rfl,z4 (zH _) rfl (fun q=>q)⟩,trivial⟩ dC ?_)
  rintro v1 h1' ⟨rfl,rfl⟩
  refine ⟨q9 [_] [],.tuple #[iv 0,.int .u32 0,.int .u32 0,bv false],(wz x qd o c n zd p is nr q (W9 f p)),[],(qN rfl),⟨rfl,(zaV rfl rfl),rfl,rfl,rfl,rfl,rfl,rfl,trivial⟩,trivial, ?_⟩
  refine o_d 9 (xL 10 9 8 7 59 58 57 56 49) (zE (zU [(10,bv false),(9,.int .u32 0),(6,pv 7 0),(3,pv 6 0),(0,pv 0 0)] (zJ (zJ (zN (o_d 10 [(69,bv true),(68,undef),(67,undef),(66,undef),(65,undef),(64,undef),(63,undef),(62,bv true),(61,bv true),(60,bv false)] (zE (zA (zc8 rfl (zJ (zN (o_d 2 (xq 5 4) ?_))))))))))))
  refine zE (zA (qW ?_))
  have he:zgY p x f=none:=by
   unfold zgY
   rw [if_neg (by assumption)]
   simp only [ha5]
  exact ⟨trivial,⟨reg [(4,iv 0),(5,bv false)],(wz x qd o c n zd p is nr q [cr []])⟩,Wk.ren [0,1,2,3,4,5] rfl rfl dC ⟨rfl,rfl,trivial⟩ ⟨.inl (zay rfl rfl rfl rfl),.inl (zF (zH _)),.inl (congrArg some (zaM _).symm),.inl (qH (zaZ q rfl)),.inl rfl,.inl rfl,trivial⟩,[iv 0,bv false],(zT rfl (zT rfl rfl)),(zM rfl (zM rfl z5)),(congrArg zd8 (he.symm.trans ho)),rfl⟩
 ·skip
  have ha5r:=stampO_r ha5
  have ha5m:=zez x.op a5 4 dC
  have ha5n:=zez x.op (a5+4) 4 dC
  refine qV (zaD [1] [zG (zD x.op) (u8 x.op) false] [zS (zD x.op) 0 x.op.length] (zgD ha5 (zjV (zD x.op) x.op x.op (zdt x.op) om)) rfl (zQ (qG rfl) rfl) ⟨⟨_,rfl,z4 (zH _) rfl (fun q=>q)⟩,trivial⟩ dC ?_)
  rintro v1 h1' ⟨rfl,rfl⟩
  refine ⟨q9 [_] [],.tuple #[iv (a5:Nat),.int .u32 (qD x.op a5 4),.int .u32 (qD x.op (a5+4) 4),bv true],(wz x qd o c n zd p is nr q (W9 f p)),[],(qN rfl),⟨rfl,(zaV rfl rfl),rfl,rfl,rfl,rfl,rfl,rfl,trivial⟩,trivial, ?_⟩
  refine o_d 9 [(10,bv true),(9,.int .u32 (qD x.op (a5+4) 4)),(8,.int .u32 (qD x.op a5 4)),(7,iv (a5:Nat)),(59,bv true),(58,.int .u32 (qD x.op (a5+4) 4)),(57,.int .u32 (qD x.op a5 4)),(56,iv (a5:Nat)),(49,.tuple #[iv (a5:Nat),.int .u32 (qD x.op a5 4),.int .u32 (qD x.op (a5+4) 4),bv true])] (zE (zU [(10,bv true),(9,.int .u32 (qD x.op (a5+4) 4)),(6,pv 7 0),(3,pv 6 0),(0,pv 0 0)] (zJ (zJ (zN (o_d 7 [(66,pv 0 7),(65,pv 0 0),(64,pv 0 0),(63,pv 0 0),(62,bv false),(61,bv false),(60,bv true)] (qB rfl (o_s (by refine zV (v:=iv x.fl) rfl rfl ?_;exact rfl) ?_))))))))
  refine o_d 2 [(69,bv (x.fl==1)),(68,bv (x.fl==1))] (zE (zA (qJ (t:=x.fl==1) rfl (fun h6=>?_) (fun h6=>?_))))
  ·skip
   have h6':x.fl=1:=zaQ h6
   refine zJ (zN (o_d 2 (xq 5 4) (zE (zA (qW ?_)))))
   have he:zgY p x f=none:=by
    unfold zgY
    rw [if_neg (by assumption)]
    simp only [ha5]
    exact if_pos (by assumption)
   exact ⟨trivial,⟨reg [(4,iv 0),(5,bv false)],(wz x qd o c n zd p is nr q [cr []])⟩,Wk.ren [0,1,2,3,4,5] rfl rfl dC ⟨rfl,rfl,trivial⟩ ⟨.inl (zay rfl rfl rfl rfl),.inl (zF (zH _)),.inl (congrArg some (zaM _).symm),.inl (qH (zaZ q rfl)),.inl rfl,.inl rfl,trivial⟩,[iv 0,bv false],(zT rfl (zT rfl rfl)),(zM rfl (zM rfl z5)),(congrArg zd8 (he.symm.trans ho)),rfl⟩
  have h6': ¬(x.fl=1):=zaR h6
  refine qK (zA (zJ (zN (o_d 1 [(71,.int .u32 (qD x.op (a5+4) 4))] (qV (zab (cGetC (qD x.op (a5+4) 4) om) rfl rfl rfl ?_))))))
  refine o_d 5 [(12,iv ((qD x.op (a5+4) 4) % 1048576)),(11,iv ((qD x.op (a5+4) 4) / 1048576)),(74,iv ((qD x.op (a5+4) 4) % 1048576)),(73,iv ((qD x.op (a5+4) 4) / 1048576)),(70,.tuple #[iv ((qD x.op (a5+4) 4) / 1048576),iv ((qD x.op (a5+4) 4) % 1048576)])] (zE (zA (zJ (zbe [] (r_d 5 [(79,pv 0 0),(78,pv 0 0),(77,pv 0 0),(76,pv 0 0),(75,.agg (xa p))] (r_s (by refine zV (v:=iv x.k) rfl rfl ?_;exact rfl) ?_))))))
  refine r_d 2 [(82,iv ((qD x.op (a5+4) 4) % 1048576)),(81,.agg (wK f))] ?_
  rcases r7:ze1 (rgP p) x.k f ((qD x.op (a5+4) 4) % 1048576) with _ | s8
  ·skip
   refine zeJ (zba (cReadC (rgP p) x.k f ((qD x.op (a5+4) 4) % 1048576) none r7 (by exact hep)) rfl rfl rfl ?_)
   refine r_d 4 [(5,bv false),(4,iv 0),(85,bv false),(84,iv 0)] (za3 (zU (xq 5 4) (qW ?_)))
   have he:zgY p x f=none:=by
    unfold zgY
    rw [if_neg (by assumption)]
    simp only [ha5]
    rw [if_neg (by assumption)]
    exact r7
   exact ⟨trivial,⟨reg [(4,iv 0),(5,bv false)],(wz x qd o c n zd p is nr q [cr []])⟩,Wk.ren [0,1,2,3,4,5] rfl rfl dC ⟨rfl,rfl,trivial⟩ ⟨.inl (zay rfl rfl rfl rfl),.inl (zF (zH _)),.inl (congrArg some (zaM _).symm),.inl (qH (zaZ q rfl)),.inl rfl,.inl rfl,trivial⟩,[iv 0,bv false],(zT rfl (zT rfl rfl)),(zM rfl (zM rfl z5)),(congrArg zd8 (he.symm.trans ho)),rfl⟩
  ·skip
   have hs8:=readS_r r7
   refine zeJ (zba (cReadC (rgP p) x.k f ((qD x.op (a5+4) 4) % 1048576) (some s8) r7 (by exact hep)) rfl rfl rfl ?_)
   refine r_d 4 [(5,bv true),(4,iv s8),(85,bv true),(84,iv s8)] (za3 (zU [(5,bv true),(4,iv s8)] (qW ?_)))
   have he:zgY p x f=some s8:=by
    unfold zgY
    rw [if_neg (by assumption)]
    simp only [ha5]
    rw [if_neg (by assumption)]
    exact r7
   exact ⟨trivial,⟨reg [(4,iv s8),(5,bv true)],(wz x qd o c n zd p is nr q [cr []])⟩,Wk.ren [0,1,2,3,4,5] rfl rfl dC ⟨rfl,rfl,trivial⟩ ⟨.inl (zay rfl rfl rfl rfl),.inl (zF (zH _)),.inl (congrArg some (zaM _).symm),.inl (qH (zaZ q rfl)),.inl rfl,.inl rfl,trivial⟩,[iv s8,bv true],(zT rfl (zT rfl rfl)),(zM rfl (zM rfl z5)),(congrArg zd8 (he.symm.trans ho)),rfl⟩
end Go.Rh

set_option maxHeartbeats 1000000
namespace Go.Rh
theorem over_no {k s:Nat} {ss:List Nat} {b:Blk} {bs:List Blk} (h: ¬(s=k∧b.rw=true)) (h2:zcl k ss bs=none):zcl k (s::ss) (b::bs)=none:=by
 simp only [zcl];rw [if_neg h,h2]
theorem zhL {k s:Nat} {b:Blk} {ss:List Nat} {bs:List Blk} {q:Option (Nat×Nat)} {ρ:Nat→Nat} {c:List Value} {rw:Bool} (hb:q=none→b= .gone) (hc: ∀v,q=some v→b.rw=false) (h2:zcl k ss bs=none):(match zcl k (s::ss) (b::bs) with | some b'=>zbx ρ b' | none=>zG q c rw)=zG q c rw:=by
 cases q with
 | none=>
  rw [hb rfl]
  simp only [zcl]
  by_cases h:s=k
  ·rw [if_pos ⟨h,rfl⟩];rfl
  ·rw [if_neg (fun t=>h t.1),h2]
 | some v=>rw [over_no (fun t=>by rw [hc v rfl] at t;cases t.2) h2]
theorem hid1 {k s0 s1:Nat} {b0:Blk} {ss:List Nat} {bs:List Blk} {q:Option (Nat×Nat)} {ρ:Nat→Nat} {c:List Value} {rw:Bool} (h0: ¬s0=k) (h2:zcl k ss bs=none):(match zcl k (s0::s1::ss) (b0::zaG q.isSome::bs) with | some b'=>zbx ρ b' | none=>zG q c rw)=zG q c rw:=by
 have h:zcl k (s0::s1::ss) (b0::zaG q.isSome::bs)=zcl k (s1::ss) (zaG q.isSome::bs):=by rw [zcl,if_neg (fun t=>h0 t.1)]
 rw [h];exact zhL (fun e=>by subst e;rfl) (fun v e=>by subst e;rfl) h2
theorem hid2 {k s0 s1 s2:Nat} {b0 b1:Blk} {ss:List Nat} {bs:List Blk} {q:Option (Nat×Nat)} {ρ:Nat→Nat} {c:List Value} {rw:Bool} (h0: ¬s0=k) (h1: ¬s1=k) (h2:zcl k ss bs=none):(match zcl k (s0::s1::s2::ss) (b0::b1::zaG q.isSome::bs) with | some b'=>zbx ρ b' | none=>zG q c rw)=zG q c rw:=by
 have h:zcl k (s0::s1::s2::ss) (b0::b1::zaG q.isSome::bs)=zcl k (s2::ss) (zaG q.isSome::bs):=by rw [zcl,if_neg (fun t=>h0 t.1),zcl,if_neg (fun t=>h1 t.1)]
 rw [h];exact zhL (fun e=>by subst e;rfl) (fun v e=>by subst e;rfl) h2
theorem row1 {k s0 s1:Nat} {b0:Blk} {ss:List Nat} {bs:List Blk} {q:Option (Nat×Nat)} {ρ:Nat→Nat} {c:List Value} {rw:Bool} {d:List Value} (h0: ¬s0=k) (h2:zcl k ss bs=none):(match zcl k (s0::s1::ss) (b0::zG q d false::bs) with | some b'=>zbx ρ b' | none=>zG q c rw)=zG q c rw:=by
 have h:zcl k (s0::s1::ss) (b0::zG q d false::bs)=zcl k (s1::ss) (zG q d false::bs):=by rw [zcl,if_neg (fun t=>h0 t.1)]
 rw [h];exact zhL (fun e=>by subst e;rfl) (fun v e=>by subst e;rfl) h2
theorem row2 {k s0 s1 s2:Nat} {b0 b1:Blk} {ss:List Nat} {bs:List Blk} {q:Option (Nat×Nat)} {ρ:Nat→Nat} {c:List Value} {rw:Bool} {d:List Value} (h0: ¬s0=k) (h1: ¬s1=k) (h2:zcl k ss bs=none):(match zcl k (s0::s1::s2::ss) (b0::b1::zG q d false::bs) with | some b'=>zbx ρ b' | none=>zG q c rw)=zG q c rw:=by
 have h:zcl k (s0::s1::s2::ss) (b0::b1::zG q d false::bs)=zcl k (s2::ss) (zG q d false::bs):=by rw [zcl,if_neg (fun t=>h0 t.1),zcl,if_neg (fun t=>h1 t.1)]
 rw [h];exact zhL (fun e=>by subst e;rfl) (fun v e=>by subst e;rfl) h2
theorem zbB {ρ:Nat→Nat} {a b:Int} {c:Bool} {q:Option (Nat×Nat)} {k k' n:Nat} (h:ρ k=k'):zaF ρ (.agg #[iv a,iv b,bv c,zS q k n])= .agg #[iv a,iv b,bv c,zS q k' n]:=by
 simp only [zaF,zeY,List.map_toArray,List.map_cons,List.map_nil,zge h];rfl
theorem chgR {P:Program} {g:String} {l m f:List Int} {rest:List Value} {o c n:Nat} {L:List Int} (hm:f=m) (hn:l.length=n) (h:Env P g (zS (some (o,c)) 0 l.length::rest) [zG (some (o,c)) (u8 L) false] (fun v h'=>v= .tuple #[zS (some (0,l.length)) 1 l.length,iv 0]∧h'= [zG (some (o,c)) (u8 L) false,zG (some (0,l.length)) (u8 f) true])):
  Env P g (zS (some (o,c)) 0 n::rest) [zG (some (o,c)) (u8 L) false] (fun v h'=>v= .tuple #[zS (some (0,n)) 1 n,iv 0]∧h'= [zG (some (o,c)) (u8 L) false,zG (some (0,n)) (u8 m) true]):=by
 subst hm;subst hn;exact h
theorem putS_r (v c:Int):0≤zbT v c∧zbT v c < 4294967296:=by unfold zbT;omega
theorem carS_r {p:qZ} {x:Pk} {f:Fl} {s:Int} (h:zgY p x f=some s):0≤s∧s < 64:=by
 unfold zgY at h
 split at h
 ·split at h
  ·cases h
  ·exact readS_r h
 ·split at h
  ·cases h
  ·split at h
   ·cases h
   ·exact readS_r h
abbrev w6 (a:Pk) (b:Option (Nat×Nat)) (c:List Int) d (e:Bool) f:=cw (qR a (zD a.op) 1 b 2 3 (wa c) d c.length)::zG (zD a.op) (u8 a.op) false::zaG e::f
abbrev yQ (a:qZ) (b:Bool) (c:zdU) d (e:List Int) f:=cw (zR a b c (slV 5 127 d))::zG (wa e) (u8 e) false::cr []::f
abbrev yZ (a:List Int) b:=#[iv 0,iv (-1),bv false,zS (wa a) b a.length]
abbrev vC (a:Pk) (b:Option (Nat×Nat)) (c:List Int) d (e:Bool) (f:qZ) (g:Bool) (h:zdU) i j:=(w6 a b c d e (yQ f g h i c [cw wm,cw (pl f),zG (wa c) (u8 j) true]))
abbrev vU (a:Pk) (b:Option (Nat×Nat)) (c:List Int) (d:Bool):=[cw (qR a (zD a.op) 1 b 2 3 (wa c) 4 c.length),zaG ((zD a.op).isSome),zaG d,cr [],cr [],cr []]
abbrev vX (a:Pk) (b:qZ):=(Fl.mk a.t a.tp (b 1) (b 2))
abbrev WR (a:List Int) b c:=[zG (wa a) (u8 b) true,zG (wa a) (u8 c) true]
theorem outC3 {P:Program} [PrC P] (p:qZ) (is:Bool) (nr:zdU) (q:Option Nat) (x:Pk) (qd:Option (Nat×Nat)) (zd:Bool) (l:List Int) (y:Pk) (hp:qX l=(0,y)) (hk:y.k=x.k) (hba:y.ba=x.ba) (h3:x.k≠3) (hop:x.op.length+24≤l.length) (s:Nat) (hs:s < 64) (H:PRng p):
    Env P "(*roundhouse/plane.packet).out" [pv 0 0,iv (s:Nat)] ((w6 x qd l 4 zd [cw (zR p is nr (slV 5 127 q)),zG (wa l) (u8 l) false,cr []])) (fun v h'=>v= .agg (yZ l 6)∧h'= (w6 x qd l 6 zd [cw (zR p is (outN nr x s) (slV 5 127 q)),zG (wa l) (u8 l) false,cr [],zG (wa l) (u8 (outL p x l (s:Nat))) true])):=by
 refine Env.by4 PrC.plane_packet_out ?_
 unfold zdR
 show GC _ 6 _ _ ⟨reg [(0,pv 0 0),(1,iv (s:Nat))],(w6 x qd l 4 zd [cw (zR p is nr (slV 5 127 q)),zG (wa l) (u8 l) false,cr []])⟩
 have hl:=zcZ hp
 have hp1:=H.a
 have hp2:=H.b
 refine zJ (zN (o_b 1 [(4,pv 6 0)] (w6 x qd l 4 zd (yQ p is nr q l [cw wm])) (zE (zA (zJ (zN (o_d 3 (xV 13 0 13 12 0 11 0) (o_s (by refine zV (v:=pv 3 0) rfl rfl ?_;exact rfl) ?_))))))))
 refine o_d 3 (xV 17 3 0 16 3 15 3) (o_s (by refine zV (v:=zaw p) rfl rfl ?_;exact zex (zaS p)) ?_)
 refine o_b 1 [(5,pv 7 0)] (w6 x qd l 4 zd (yQ p is nr q l [cw wm,cw (pl qO)])) (zdj (by refine zao (c':=pl p) rfl rfl rfl ?_ ?_ ?_;exact qI _;exact zck om;exact zai qO p) ?_)
 refine zE (zA (zJ (zbe [] (r_d 1 [(19,pv 7 323)] (r_s (by refine zV (v:= .agg (xa p)) rfl rfl ?_;exact pl_ring p) ?_)))))
 refine r_d 4 (wJ 24 0 0 23 0 22 0 21 0) (r_s (by refine zV (v:=iv x.k) rfl rfl ?_;exact rfl) ?_)
 refine r_d 4 (wJ 29 0 4 28 0 27 0 26 0) (r_s (by refine zV (v:=iv x.t) rfl rfl ?_;exact rfl) ?_)
 refine r_d 4 (wJ 34 0 6 33 0 32 0 31 0) (r_s (by refine zV (v:=iv x.tp) rfl rfl ?_;exact rfl) ?_)
 refine r_d 1 [(36,pv 7 1)] (r_s (by refine zV (v:=iv (p 1)) rfl rfl ?_;exact zi9 p 1 rfl om) ?_)
 refine r_d 1 [(38,pv 7 2)] (r_s (by refine zV (v:=iv (p 2)) rfl rfl ?_;exact zi9 p 2 rfl om) ?_)
 refine r_d 2 [(41,iv (s:Nat)),(40,.agg #[iv x.t,iv x.tp,iv (p 1),iv (p 2)])] (zeJ (zba (cMakeC (rgP p) x.k (vX x p) (s:Nat) om) rfl rfl rfl ?_))
 have hy1:=cookS_r (rgP p) x.k (vX x p) (s:=(s:Nat)) om
 refine r_d 1 [(6,iv (zad (rgP p) x.k (vX x p) (s:Nat)))] (za3 (zU [(6,iv (zad (rgP p) x.k (vX x p) (s:Nat))),(5,pv 7 0),(4,pv 6 0),(0,pv 0 0),(1,iv (s:Nat))] (zJ (zeE (w6 x qd l 4 zd (yQ p is nr q l [cw wm,cw (pl p)])) (by kernel_rfl) (d_n 4 4 8 (wJ 46 0 14 45 0 44 0 43 0) (w6 x qd l 4 zd (yQ p is nr q l [cw wm,cw (pl p)])) [] (by kernel_rfl) rfl rfl (d_s rfl rfl rfl (by kernel_rfl) (by refine zV (v:=zS (wa l) 4 l.length) rfl rfl ?_;exact rfl) ?_))))))
 refine d_n 1 6 8 [(48,pv 7 1)] (w6 x qd l 4 zd (yQ p is nr q l [cw wm,cw (pl p)])) [⟨4,[0],[],none⟩] (by kernel_rfl) rfl rfl (d_s rfl rfl rfl (by kernel_rfl) (by refine zV (v:=iv (p 1)) rfl rfl ?_;exact zi9 p 1 rfl om) ?_)
 refine d_n 1 8 8 [(50,pv 7 2)] (w6 x qd l 4 zd (yQ p is nr q l [cw wm,cw (pl p)])) [⟨6,[7],[],none⟩,⟨4,[0],[],none⟩] (by kernel_rfl) rfl rfl (d_s rfl rfl rfl (by kernel_rfl) (by refine zV (v:=iv (p 2)) rfl rfl ?_;exact zi9 p 2 rfl om) ?_)
 obtain ⟨m2,hm2⟩: ∃z9,natL l y.ba true (p 1) (p 2)=z9:=⟨_,rfl⟩
 have hm2a:Alike l m2:=by rw [←hm2];exact nat_alike hp om true
 have hm2p:=hm2a.parse hp
 have hm2l:=hm2p.2.2.2
 have hm2k:=hm2p.2.1
 have hm2b:=hm2p.2.2.1
 have hm2e:m2.length=l.length:=hm2l
 refine d_clN [4] [zG (wa l) (u8 l) false] [zS (wa l) 0 l.length,bv true,iv (p 1),iv (p 2)] (chgR hm2 rfl (NatC _ _ l l (RowOf.whole rfl (Nat.le_refl _)) y hp om true (p 1) (p 2) om om)) rfl rfl ⟨⟨_,rfl,z4 (zH _) rfl (fun q=>q)⟩,trivial⟩ dC ⟨_,_,⟨rfl,rfl⟩,Nat.le_add_right 1 1,zbD [_] [_]⟩ ?_ (by kernel_rfl)
 rintro v1 h1' ⟨rfl,rfl⟩
 refine ⟨za6 rfl,.tuple #[zS (wa l) 8 l.length,iv 0],(w6 x qd l 4 zd (yQ p is nr q l [cw wm,cw (pl p)])),(W4 l m2),((zdJ _).trans rfl),⟨rfl,rfl,rfl,rfl,rfl,rfl,rfl,rfl,trivial⟩,⟨(Option.some.inj (zF (zH _))).symm,trivial⟩, ?_⟩
 refine d_n 2 12 8 [(54,iv 0),(53,zS (wa l) 8 l.length)] (vC x qd l 4 zd p is nr q m2) [⟨9,[4],(zcF [4] [zG (wa l) (u8 l) false]),some 8⟩,⟨8,[7],[],none⟩,⟨6,[7],[],none⟩,⟨4,[0],[],none⟩] (by kernel_rfl) rfl rfl (d_clH [0,1,2,3,4,8] (vU x qd l zd) [pv 0 0,zS (wa l) 5 l.length,iv 0] (thenC x (zD x.op) qd 0 l.length l.length 0 l.length l.length ((zD x.op).isSome) zd) rfl rfl ⟨⟨_,rfl,zav (.inl (zb4 rfl rfl rfl rfl (fun q=>rfl)))⟩,⟨_,rfl,(zcw (zD x.op))⟩,⟨_,rfl,(zd2 _)⟩,⟨_,rfl,zaI⟩,⟨_,rfl,zaI⟩,⟨_,rfl,zaI⟩,trivial⟩ dC ⟨_,_,⟨rfl,rfl⟩,Nat.le_refl _,zfw rfl (zbD [_,_,_,_,_] [])⟩ ?_ (by kernel_rfl))
 rintro v1 h1' ⟨rfl,rfl⟩
 refine ⟨(zW zaO (zW qC (zW qC (zW qC (zW qC (zW qC zap)))))),.tuple #[],(vC x qd l 8 zd p is nr q m2),[],(by simp [zaF]),⟨zbZ rfl rfl rfl rfl,(by exact hid1 dC rfl),(by cases zd<;>rfl),rfl,rfl,rfl,rfl,rfl,rfl,trivial⟩,trivial, ?_⟩
 refine zgp (zA (zJ (zJ (zN (o_d 4 (wJ 59 0 0 58 0 57 0 56 0) (o_s (by refine zV (v:=iv x.k) rfl rfl ?_;exact rfl) ?_))))))
 refine o_d 1 [(61,bv (x.k==2))] (zE (zA (qJ (t:=x.k==2) rfl (fun h3=>?_) (fun h3=>?_))))
 ·skip
  have h3':x.k=2:=zaQ h3
  have hTB:TB x.k=256:=if_pos (by assumption)
  refine zN (o_d 4 (wJ 65 0 14 64 0 63 0 62 0) (o_s (by refine zV (v:=zS (wa l) 8 l.length) rfl rfl ?_;exact rfl) ?_))
  refine o_d 1 [(67,iv (zad (rgP p) x.k (vX x p) (s:Nat)))] ?_
  have hy4:=zfr (ze3 m2).k
  obtain ⟨m5,hm5⟩: ∃z9,zco m2 (ze3 m2).ba 20 2 (zad (rgP p) x.k (vX x p) (s:Nat))=z9:=⟨_,rfl⟩
  have hm5a:Alike m2 m5:=by rw [←hm5];exact zfK hm2p.1 om om om om
  have hm5p:=hm5a.parse hm2p.1
  have hm5l:=hm5p.2.2.2
  have hm5k:=hm5p.2.1
  have hm5b:=hm5p.2.2.1
  have hm5e:m5.length=l.length:=(hm5l.trans hm2l)
  refine qV (zaD [8] [zG (wa l) (u8 m2) false] [zS (wa l) 0 l.length,iv 20,iv 2,iv (zad (rgP p) x.k (vX x p) (s:Nat))] (chgR hm5 hm2l (Write2C _ _ m2 m2 (RowOf.whole rfl om) (ze3 m2) hm2p.1 20 (zad (rgP p) x.k (vX x p) (s:Nat)) om om om)) rfl rfl ⟨⟨_,rfl,z4 (zH _) rfl (fun q=>rfl)⟩,trivial⟩ dC ?_)
  rintro v1 h1' ⟨rfl,rfl⟩
  refine ⟨za6 rfl,.tuple #[zS (wa l) 9 l.length,iv 0],(vC x qd l 8 zd p is nr q m2),(W4 l m5),((zdJ _).trans rfl),⟨rfl,rfl,rfl,rfl,rfl,rfl,rfl,rfl,rfl,trivial⟩,⟨(Option.some.inj (zF (zH _))).symm,trivial⟩, ?_⟩
  refine o_d 2 [(70,iv 0),(69,zS (wa l) 9 l.length)] (qV (zd1 [0,1,2,3,8,9] (vU x qd l zd) [pv 0 0,zS (wa l) 5 l.length,iv 0] (thenC x (zD x.op) qd 0 l.length l.length 0 l.length l.length ((zD x.op).isSome) zd) rfl rfl ⟨⟨_,rfl,zav (.inl (zb4 rfl rfl rfl rfl (fun q=>rfl)))⟩,⟨_,rfl,(zcw (zD x.op))⟩,⟨_,rfl,(zd2 _)⟩,⟨_,rfl,zaI⟩,⟨_,rfl,zaI⟩,⟨_,rfl,zaI⟩,trivial⟩ dC ?_))
  rintro v1 h1' ⟨rfl,rfl⟩
  refine ⟨(zW zaO (zW qC (zW qC (zW qC (zW qC (zW qC zap)))))),.tuple #[],(w6 x qd l 9 zd (yQ p is nr q l (cw wm::cw (pl p)::(WR l m2 m5)))),[],(by simp [zaF]),⟨zbZ rfl rfl rfl rfl,(by exact hid1 dC rfl),(by cases zd<;>rfl),rfl,rfl,rfl,rfl,rfl,rfl,rfl,trivial⟩,trivial, ?_⟩
  refine zE (zU [(4,pv 6 0),(0,pv 0 0)] (zJ (zN (o_d 3 (xV 111 0 14 110 0 109 0) (o_s (by refine zV (v:=zS (wa l) 9 l.length) rfl rfl ?_;exact rfl) ?_)))))
  refine o_b 2 [(113,.agg (yZ l 9))] (w6 x qd l 9 zd (yQ p is nr q l (cw [iv 0,iv (-1),bv false,zS (wa l) 9 l.length]::cw (pl p)::(WR l m2 m5)))) (zE (zA (qW ?_)))
  have e1:outL p x l (s:Nat)=m5:=by
   unfold outL outC9
   rw [if_pos (by assumption)]
   rw [←hba,hm2,←hm2b];exact hm5
  have e2:outN nr x s=nr:=by
   unfold outN;rw [if_pos (by assumption)]
  exact ⟨trivial,[.agg (yZ l 9)],(q8 rfl rfl rfl rfl),(zM rfl z5),⟨reg [],(w6 x qd l 6 zd (yQ p is nr q l (W4 l m5)))⟩,[0,1,2,3,4,5,9],[.agg (yZ l 6)],WkR.of (rs:= []) rfl rfl dC trivial ⟨.inl (zay rfl rfl rfl rfl),.inl (zF (zH _)),.inl (congrArg some (zaM _).symm),.inl (qH (zaZ q rfl)),.inl (zF (zH _)),.inl rfl,.inl (zF (zH _)),trivial⟩,(zQ (zbB rfl) rfl),rfl,(by rw [e1,e2])⟩
 have h3': ¬(x.k=2):=zaR h3
 refine zJ (zN (o_d 4 (wJ 76 0 11 75 0 74 0 73 0) (o_s (by refine zV (v:=zS (zD x.op) 1 x.op.length) rfl rfl ?_;exact rfl) ?_)))
 rcases ha6:zcy x.op with _ | a6
 ·skip
  refine qV (zaD [1] [zG (zD x.op) (u8 x.op) false] [zS (zD x.op) 0 x.op.length] (zgE ha6 (zjV (zD x.op) x.op x.op (zdt x.op) om)) rfl (zQ (qG rfl) rfl) ⟨⟨_,rfl,z4 (zH _) rfl (fun q=>q)⟩,trivial⟩ dC ?_)
  rintro v1 h1' ⟨rfl,rfl⟩
  refine ⟨q9 [_] [],.tuple #[iv 0,.int .u32 0,.int .u32 0,bv false],(vC x qd l 8 zd p is nr q m2),[],(qN rfl),⟨rfl,(zaV rfl rfl),rfl,rfl,rfl,rfl,rfl,rfl,rfl,trivial⟩,trivial, ?_⟩
  refine o_d 9 (xL 10 9 8 7 82 81 80 79 72) (zE (zU [(10,bv false),(8,.int .u32 0),(7,iv 0),(6,iv (zad (rgP p) x.k (vX x p) (s:Nat))),(4,pv 6 0),(0,pv 0 0),(1,iv (s:Nat))] (zJ (zN (o_d 1 [(83,bv false)] (zE (zA (zbc rfl (qK (zA (zJ (zN ?_))))))))))))
  refine o_d 3 (xV 111 0 14 110 0 109 0) (o_s (by refine zV (v:=zS (wa l) 8 l.length) rfl rfl ?_;exact rfl) ?_)
  refine o_b 2 [(113,.agg (yZ l 8))] (w6 x qd l 8 zd (yQ p is nr q l [cw [iv 0,iv (-1),bv false,zS (wa l) 8 l.length],cw (pl p),zG (wa l) (u8 m2) true])) (zE (zA (qW ?_)))
  have e1:outL p x l (s:Nat)=m2:=by
   unfold outL outC9
   rw [if_neg (by assumption)]
   simp only [ha6]
   rw [←hba];exact hm2
  have e2:outN nr x s=nr:=by
   unfold outN;rw [if_neg (by assumption)];simp only [ha6]
  exact ⟨trivial,[.agg (yZ l 8)],(q8 rfl rfl rfl rfl),(zM rfl z5),⟨reg [],(w6 x qd l 6 zd (yQ p is nr q l (W4 l m2)))⟩,[0,1,2,3,4,5,8],[.agg (yZ l 6)],WkR.of (rs:= []) rfl rfl dC trivial ⟨.inl (zay rfl rfl rfl rfl),.inl (zF (zH _)),.inl (congrArg some (zaM _).symm),.inl (qH (zaZ q rfl)),.inl (zF (zH _)),.inl rfl,.inl (zF (zH _)),trivial⟩,(zQ (zbB rfl) rfl),rfl,(by rw [e1,e2])⟩
 ·skip
  have ha6r:=stampO_r ha6
  have ha6m:=zez x.op a6 4 dC
  have ha6n:=zez x.op (a6+4) 4 dC
  refine qV (zaD [1] [zG (zD x.op) (u8 x.op) false] [zS (zD x.op) 0 x.op.length] (zgD ha6 (zjV (zD x.op) x.op x.op (zdt x.op) om)) rfl (zQ (qG rfl) rfl) ⟨⟨_,rfl,z4 (zH _) rfl (fun q=>q)⟩,trivial⟩ dC ?_)
  rintro v1 h1' ⟨rfl,rfl⟩
  refine ⟨q9 [_] [],.tuple #[iv (a6:Nat),.int .u32 (qD x.op a6 4),.int .u32 (qD x.op (a6+4) 4),bv true],(vC x qd l 8 zd p is nr q m2),[],(qN rfl),⟨rfl,(zaV rfl rfl),rfl,rfl,rfl,rfl,rfl,rfl,rfl,trivial⟩,trivial, ?_⟩
  refine o_d 9 [(10,bv true),(9,.int .u32 (qD x.op (a6+4) 4)),(8,.int .u32 (qD x.op a6 4)),(7,iv (a6:Nat)),(82,bv true),(81,.int .u32 (qD x.op (a6+4) 4)),(80,.int .u32 (qD x.op a6 4)),(79,iv (a6:Nat)),(72,.tuple #[iv (a6:Nat),.int .u32 (qD x.op a6 4),.int .u32 (qD x.op (a6+4) 4),bv true])] (zE (zU [(10,bv true),(8,.int .u32 (qD x.op a6 4)),(7,iv (a6:Nat)),(6,iv (zad (rgP p) x.k (vX x p) (s:Nat))),(4,pv 6 0),(0,pv 0 0),(1,iv (s:Nat))] (zJ (zN (o_d 1 [(83,bv true)] (zE (zA (zc8 rfl (zJ (zeE (vC x qd l 8 zd p is nr q m2) (by kernel_rfl) (d_n 4 4 9 (wJ 87 0 14 86 0 85 0 84 0) (vC x qd l 8 zd p is nr q m2) [] (by kernel_rfl) rfl rfl (d_s rfl rfl rfl (by kernel_rfl) (by refine zV (v:=zS (wa l) 8 l.length) rfl rfl ?_;exact rfl) ?_))))))))))))
  refine d_n 1 6 9 [(89,iv (a6:Nat))] (vC x qd l 8 zd p is nr q m2) [⟨4,[0],[],none⟩] (by kernel_rfl) rfl rfl (d_s rfl rfl rfl (by kernel_rfl) (by refine zK (v:= .int .i64 (i64.wrap (24+(a6:Nat)))) (congrArg wg (w64 om om)) ?_;kernel_rfl) ?_)
  refine d_n 2 9 9 [(92,iv (zad (rgP p) x.k (vX x p) (s:Nat))),(91,.int .u32 (qD x.op a6 4))] (vC x qd l 8 zd p is nr q m2) [⟨4,[0],[],none⟩] (by kernel_rfl) rfl rfl (d_cl (zba (cPutC (qD x.op a6 4) (zad (rgP p) x.k (vX x p) (s:Nat)) om) rfl rfl rfl ?_))
  have hy7:=putS_r (qD x.op a6 4) (zad (rgP p) x.k (vX x p) (s:Nat))
  refine d_s rfl rfl rfl (by kernel_rfl) (by refine zK (v:= .int .i64 (i64.wrap (zbT (qD x.op a6 4) (zad (rgP p) x.k (vX x p) (s:Nat))))) (congrArg wg (w64 om om)) ?_;kernel_rfl) ?_
  have hy8:=zfr (ze3 m2).k
  obtain ⟨m9,hm9⟩: ∃z9,zco m2 (ze3 m2).ba (24+a6) 4 (zbT (qD x.op a6 4) (zad (rgP p) x.k (vX x p) (s:Nat)))=z9:=⟨_,rfl⟩
  have hm9a:Alike m2 m9:=by rw [←hm9];exact zfK hm2p.1 om om om om
  have hm9p:=hm9a.parse hm2p.1
  have hm9l:=hm9p.2.2.2
  have hm9k:=hm9p.2.1
  have hm9b:=hm9p.2.2.1
  have hm9e:m9.length=l.length:=(hm9l.trans hm2l)
  refine d_clN [8] [zG (wa l) (u8 m2) false] [zS (wa l) 0 l.length,iv (24+(a6:Nat)),iv 4,iv (zbT (qD x.op a6 4) (zad (rgP p) x.k (vX x p) (s:Nat)))] (chgR hm9 hm2l (Write4C _ _ m2 m2 (RowOf.whole rfl om) (ze3 m2) hm2p.1 (24+a6) (zbT (qD x.op a6 4) (zad (rgP p) x.k (vX x p) (s:Nat))) om om om)) rfl rfl ⟨⟨_,rfl,z4 (zH _) rfl (fun q=>rfl)⟩,trivial⟩ dC ⟨_,_,⟨rfl,rfl⟩,Nat.le_add_right 1 1,zbD [_] [_]⟩ ?_ (by kernel_rfl)
  rintro v1 h1' ⟨rfl,rfl⟩
  refine ⟨za6 rfl,.tuple #[zS (wa l) 9 l.length,iv 0],(vC x qd l 8 zd p is nr q m2),(W4 l m9),((zdJ _).trans rfl),⟨rfl,rfl,rfl,rfl,rfl,rfl,rfl,rfl,rfl,trivial⟩,⟨(Option.some.inj (zF (zH _))).symm,trivial⟩, ?_⟩
  refine d_n 2 14 9 [(97,iv 0),(96,zS (wa l) 9 l.length)] (w6 x qd l 8 zd (yQ p is nr q l (cw wm::cw (pl p)::(WR l m2 m9)))) [⟨11,[8],(zcF [8] [zG (wa l) (u8 m2) false]),some 9⟩,⟨9,[],[],some 9⟩,⟨4,[0],[],none⟩] (by kernel_rfl) rfl rfl (d_clH [0,1,2,3,8,9] (vU x qd l zd) [pv 0 0,zS (wa l) 5 l.length,iv 0] (thenC x (zD x.op) qd 0 l.length l.length 0 l.length l.length ((zD x.op).isSome) zd) rfl rfl ⟨⟨_,rfl,zav (.inl (zb4 rfl rfl rfl rfl (fun q=>rfl)))⟩,⟨_,rfl,(zcw (zD x.op))⟩,⟨_,rfl,(zd2 _)⟩,⟨_,rfl,zaI⟩,⟨_,rfl,zaI⟩,⟨_,rfl,zaI⟩,trivial⟩ dC ⟨_,_,⟨rfl,rfl⟩,Nat.le_refl _,zfw rfl (zbD [_,_,_,_,_] [])⟩ ?_ (by kernel_rfl))
  rintro v1 h1' ⟨rfl,rfl⟩
  refine ⟨(zW zaO (zW qC (zW qC (zW qC (zW qC (zW qC zap)))))),.tuple #[],(w6 x qd l 9 zd (yQ p is nr q l (cw wm::cw (pl p)::(WR l m2 m9)))),[],(by simp [zaF]),⟨zbZ rfl rfl rfl rfl,(by exact hid1 dC rfl),(by cases zd<;>rfl),rfl,rfl,rfl,rfl,rfl,rfl,rfl,trivial⟩,trivial, ?_⟩
  refine zgp (zA (zN (o_d 3 (xV 101 0 13 100 0 99 0) (o_s (by refine zV (v:=pv 3 0) rfl rfl ?_;exact rfl) ?_))))
  refine o_d 3 [(105,pv 3 331),(104,pv 3 0),(103,iv (s:Nat))] (o_s (by exact zaA (o:=331) (o':=331+2*s) rfl rfl om om) ?_)
  refine o_d 1 [(107,.int .u32 (qD x.op a6 4))] (qV (zd1 [3,5] [cw (zR p is nr (xJ q)),cr []] [pv 0 (331+2*s),.int .u32 (qD x.op a6 4)] (LayUC p is nr q s (qD x.op a6 4) om) rfl rfl ⟨⟨_,rfl,zav (.inl (zaX (zaZ q rfl) (fun q=>rfl)))⟩,⟨_,rfl,zaI⟩,trivial⟩ dC ?_))
  rintro v1 h1' ⟨rfl,rfl⟩
  refine ⟨(zW zaO (zW qC zap)),.tuple #[],(w6 x qd l 9 zd (cw (zR p is (zcm nr s (qD x.op a6 4,true)) (slV 5 127 q))::zG (wa l) (u8 l) false::cr []::cw wm::cw (pl p)::(WR l m2 m9))),[],(by simp [zaF]),⟨rfl,rfl,rfl,zbA (zaZ q rfl),rfl,(by cases true<;>rfl),rfl,rfl,rfl,rfl,trivial⟩,trivial, ?_⟩
  refine zE (zU [(4,pv 6 0),(0,pv 0 0)] (zJ (zN (o_d 3 (xV 111 0 14 110 0 109 0) (o_s (by refine zV (v:=zS (wa l) 9 l.length) rfl rfl ?_;exact rfl) ?_)))))
  refine o_b 2 [(113,.agg (yZ l 9))] (w6 x qd l 9 zd (cw (zR p is (zcm nr s (qD x.op a6 4,true)) (slV 5 127 q))::zG (wa l) (u8 l) false::cr []::cw [iv 0,iv (-1),bv false,zS (wa l) 9 l.length]::cw (pl p)::(WR l m2 m9))) (zE (zA (qW ?_)))
  have e1:outL p x l (s:Nat)=m9:=by
   unfold outL outC9
   rw [if_neg (by assumption)]
   simp only [ha6]
   rw [←hba,hm2,←hm2b];exact hm9
  have e2:outN nr x s=(zcm nr s (qD x.op a6 4,true)):=by
   unfold outN;rw [if_neg (by assumption)];simp only [ha6]
  exact ⟨trivial,[.agg (yZ l 9)],(q8 rfl rfl rfl rfl),(zM rfl z5),⟨reg [],(w6 x qd l 6 zd [cw (zR p is (zcm nr s (qD x.op a6 4,true)) (slV 5 127 q)),zG (wa l) (u8 l) false,cr [],zG (wa l) (u8 m9) true])⟩,[0,1,2,3,4,5,9],[.agg (yZ l 6)],WkR.of (rs:= []) rfl rfl dC trivial ⟨.inl (zay rfl rfl rfl rfl),.inl (zF (zH _)),.inl (congrArg some (zaM _).symm),.inl (qH (zaZ q rfl)),.inl (zF (zH _)),.inl rfl,.inl (zF (zH _)),trivial⟩,(zQ (zbB rfl) rfl),rfl,(by rw [e1,e2])⟩
theorem outW {P:Program} [PrC P] (p:qZ) (is:Bool) (nr:zdU) (q:Option Nat) (x:Pk) (qd:Option (Nat×Nat)) (zd:Bool) (l:List Int) (y:Pk) (hp:qX l=(0,y)) (hk:y.k=x.k) (hba:y.ba=x.ba) (h3:x.k≠3) (hop:x.op.length+24≤l.length) (s:Nat) (hs:s < 64) (H:PRng p) (N:Nat) (hN:l.length=N):
  Env P "(*roundhouse/plane.packet).out" [pv 0 0,iv (s:Int)] ([cw (qR x (zD x.op) 1 qd 2 3 (some (0,N)) 4 N),zG (zD x.op) (u8 x.op) false,zaG zd,cw (zR p is nr (slV 5 127 q)),zG (some (0,N)) (u8 l) false,cr []]) (fun v h'=>v= .agg #[iv 0,iv (-1),bv false,zS (some (0,N)) 6 N]∧h'= [cw (qR x (zD x.op) 1 qd 2 3 (some (0,N)) 6 N),zG (zD x.op) (u8 x.op) false,zaG zd,cw (zR p is (outN nr x s) (slV 5 127 q)),zG (some (0,N)) (u8 l) false,cr [],zG (some (0,N)) (u8 (outL p x l (s:Nat))) true]):=by
 subst hN;exact outC3 p is nr q x qd zd l y hp hk hba h3 hop s hs H
end Go.Rh

set_option maxHeartbeats 1000000
namespace Go.Rh
theorem carS_q {p:qZ} {x:Pk} {f:Fl} {r:Option Int} (h:zgY p x f=r):0≤r.getD 0∧r.getD 0 < 64:=by
 cases r with
 | none=>exact ⟨dC,dC⟩
 | some s=>exact carS_r h
theorem carriedC2 {P:Program} {p:qZ} {x:Pk} {f:Fl} {A:List Value} {h1 h2:List Blk} {r:Option Int} (h:Env P "(*roundhouse/plane.packet).carried" A h1 (fun v h'=>v=zd8 r∧h'=h2)):Env P "(*roundhouse/plane.packet).carried" A h1 (fun v h'=>v= .tuple #[iv (r.getD 0),bv r.isSome]∧h'=h2):=by
 cases r<;>exact h
theorem inP_n {p:qZ} {x:Pk} {r:Option Int} (h:zgY p x (inF p x)=r) (hn:r.isSome=false):inP p x=(zbp (zZ p) (inF p x),false):=by
 cases r with
 | none=>unfold inP;rw [h]
 | some s=>cases hn
theorem inP_t {p:qZ} {x:Pk} {r:Option Int} (h:zgY p x (inF p x)=r) (hs:r.isSome=true) (ht: [1,2,3].contains (p (3+5*(r.getD 0).toNat))=true):inP p x=(r.getD 0,true):=by
 cases r with
 | none=>cases hs
 | some s=>unfold inP;rw [h];exact if_pos ht
theorem inP_f {p:qZ} {x:Pk} {r:Option Int} (h:zgY p x (inF p x)=r) (hs:r.isSome=true) (ht: [1,2,3].contains (p (3+5*(r.getD 0).toNat))=false):inP p x=(zbp (zZ p) (inF p x),false):=by
 cases r with
 | none=>cases hs
 | some s=>unfold inP;rw [h];exact if_neg (by rw [show (some s).getD 0=s from rfl] at ht;rw [ht];simp)
theorem takes_ne {z:Int} (h: [1,2,3].contains z=true):z≠0:=by rintro rfl;revert h;decide
theorem PRng.pickI {p:qZ} (H:PRng p) {f:Fl} {sl:Int} (h:sl=zbp (zZ p) f): ∀k:Nat,sl=(k:Int)→k < 64∧(0≤p (3+5*k+1)∧p (3+5*k+1)≤4294967295)∧(0≤p (3+5*k+2)∧p (3+5*k+2)≤65535):=fun k hk=>H.pick (h.symm.trans hk)
theorem PRng.takeI {p:qZ} (H:PRng p) {sl:Int} (h0:0≤sl∧sl < 64) (h: [1,2,3].contains (p (3+5*sl.toNat))=true): ∀k:Nat,sl=(k:Int)→k < 64∧(0≤p (3+5*k+1)∧p (3+5*k+1)≤4294967295)∧(0≤p (3+5*k+2)∧p (3+5*k+2)≤65535):=fun k hk=>by
 subst hk;exact ⟨om,H.s k om (takes_ne h)⟩
theorem nearS_k (nr:zdU) {k:Nat} (h:k < 64):zc1 nr (k:Nat)=nr k:=by rw [zc1,if_neg om];rfl
theorem NearK {P:Program} {nr:zdU} {k:Nat} {A:List Value} {h1 h2:List Blk} (hk:k < 64) (h:Env P "(*roundhouse/plane.Plane).Near" A h1 (fun v h'=>v= .tuple #[u32v (zc1 nr (k:Nat)).1,bv (zc1 nr (k:Nat)).2]∧h'=h2)):Env P "(*roundhouse/plane.Plane).Near" A h1 (fun v h'=>v= .tuple #[u32v (nr k).1,bv (nr k).2]∧h'=h2):=by
 rwa [nearS_k nr hk] at h
theorem backS_r (v n:Int):0≤zfY v n∧zfY v n < 4294967296:=by
 unfold zfY
 show 0≤(_:Int) % 4294967296∧(_:Int) % 4294967296 < 4294967296
 omega
abbrev w3 (a:Pk) (b:qZ):=[iv a.fr,iv a.fp,iv (b 1),iv (b 2)]
abbrev yt a:=[iv a,iv (-1),bv false,.slice none 0 0]
abbrev yB a:=#[iv a,iv (-1),bv false,.slice none 0 0]
abbrev yN (a:qZ) (b:Bool) (c:zdU) (d:Nat) (e:List Int) f:=cr (zR a b c (wx 5 d))::zG (wa e) (u8 e) false::slB zI (ii (zZ a)) (some d)::f
abbrev vw (a:Pk) (b:Option (Nat×Nat)) (c:List Int) d (e:Bool) (f:qZ) (g:Bool) (h:zdU) (i:Nat) j k:=(w6 a b c d e (yN f g h i c [cw wm,cw (pl f),cw (w3 a f),cw (wj f j),zG (wa c) (u8 k) true]))
abbrev vN a b (c:List Int) d:=#[iv 0,iv (a:Int),bv b,zS (wa c) d c.length]
abbrev WC a b:=[(6,bv a),(5,iv (b:Int)),(2,pv 6 0),(0,pv 0 0)]
abbrev WW (a:Pk) (b:Option (Nat×Nat)) (c:List Int) (d:Bool) (e:qZ) (f:Bool) (g:zdU) (h:Nat):=(w6 a b c 4 d [cr (zR e f g (wx 5 h)),zG (wa c) (u8 c) false,slB zI (ii (zZ e)) (some h)])
abbrev Ya a b:=[(138,pv 0 14),(137,pv 0 0),(136,pv 0 0),(135,bv a),(134,iv (b:Int))]
theorem inC4 {P:Program} [PrC P] (p:qZ) (is:Bool) (nr:zdU) (w9:Nat) (x:Pk) (qd:Option (Nat×Nat)) (zd:Bool) (l:List Int) (y:Pk) (hp:qX l=(0,y)) (hk:y.k=x.k) (hba:y.ba=x.ba) (h3:x.k≠3) (hop:x.op.length+24≤l.length) (H:PRng p) (hnr: ∀k,0≤(nr k).1∧(nr k).1 < 4294967296):
    Env P "(*roundhouse/plane.packet).in" [pv 0 0] ((WW x qd l zd p is nr w9)) (fun v h'=>((inP p x).1 < 0∧v= .agg (yB 9)∧h'= (WW x qd l zd p is nr w9))∨(∃k:Nat,(inP p x).1=(k:Int)∧k < 64∧v= .agg #[iv 0,iv (k:Int),bv (inP p x).2,zS (wa l) 6 l.length]∧h'= (w6 x qd l 6 zd (yN p is nr w9 l [zG (wa l) (u8 (inL p nr x l k)) true])))):=by
 refine Env.by4 PrC.plane_packet_in ?_
 unfold zek
 show GC _ 6 _ _ ⟨reg vo,(WW x qd l zd p is nr w9)⟩
 have hl:=zcZ hp
 have hp1:=H.a
 have hp2:=H.b
 refine zJ (zN (o_b 1 [(2,pv 6 0)] (w6 x qd l 4 zd (yN p is nr w9 l [cw wm])) (zE (zA (zJ (zN (o_d 3 (xV 17 0 13 16 0 15 0) (o_s (by refine zV (v:=pv 3 0) rfl rfl ?_;exact rfl) ?_))))))))
 refine o_d 3 (xV 21 3 0 20 3 19 3) (o_s (by refine zV (v:=zaw p) rfl rfl ?_;exact zex (zaS p)) ?_)
 refine o_b 1 [(3,pv 7 0)] (w6 x qd l 4 zd (yN p is nr w9 l [cw wm,cw (pl qO)])) (zdj (by refine zao (c':=pl p) rfl rfl rfl ?_ ?_ ?_;exact qI _;exact zck om;exact zai qO p) ?_)
 refine zE (zA (zJ (zbe [] (r_d 4 (wJ 26 0 3 25 0 24 0 23 0) (r_s (by refine zV (v:=iv x.fr) rfl rfl ?_;exact rfl) ?_)))))
 refine r_d 4 (wJ 31 0 5 30 0 29 0 28 0) (r_s (by refine zV (v:=iv x.fp) rfl rfl ?_;exact rfl) ?_)
 refine r_d 1 [(33,pv 7 1)] (r_s (by refine zV (v:=iv (p 1)) rfl rfl ?_;exact zi9 p 1 rfl om) ?_)
 refine r_d 1 [(35,pv 7 2)] (r_s (by refine zV (v:=iv (p 2)) rfl rfl ?_;exact zi9 p 2 rfl om) ?_)
 refine r_b 3 [(4,pv 8 0),(37,.agg #[iv x.fr,iv x.fp,iv (p 1),iv (p 2)])] (w6 x qd l 4 zd (yN p is nr w9 l [cw wm,cw (pl p),cw (w3 x p)])) (za3 (zU (wJ 4 8 0 3 7 2 6 0 0) (zJ (zN (o_d 2 [(40,.agg #[iv x.fr,iv x.fp,iv (p 1),iv (p 2)]),(39,pv 0 0)] ?_)))))
 obtain ⟨ca,hcr⟩: ∃z9,zgY p x (inF p x)=z9:=⟨_,rfl⟩
 have hcq:=carS_q hcr
 refine qV (zd1 [0,1,2,3,4,5] [cr (qR x (zD x.op) 1 qd 2 3 (wa l) 4 l.length),zG (zD x.op) (u8 x.op) false,zaG zd,cr (zR p is nr (wx 5 w9)),cr [],cr []] [pv 0 0,.agg #[iv x.fr,iv x.fp,iv (p 1),iv (p 2)]] (carriedC2 (p:=p) (x:=x) (f:=(inF p x)) (carriedC p is nr (some w9) x qd 0 l.length l.length zd (inF p x) ca hcr om H)) rfl (zQ rfl (zQ (qN rfl) rfl)) ⟨⟨_,rfl,zav (.inl (zb4 rfl rfl rfl rfl (fun q=>rfl)))⟩,⟨_,rfl,zav (z4 (q:=zD x.op) (q':=zD x.op) (zH _) rfl (fun q=>q))⟩,⟨_,rfl,(zd2 _)⟩,⟨_,rfl,zav (.inl (zaX rfl (fun q=>q)))⟩,⟨_,rfl,zaI⟩,⟨_,rfl,zdq (some w9)⟩,trivial⟩ dC ?_)
 rintro v1 h1' ⟨rfl,rfl⟩
 refine ⟨(zW qC (zW qC (zW qC (zW qC (zW qC (zW qC zap)))))),.tuple #[iv (ca.getD 0),bv ca.isSome],(w6 x qd l 4 zd (yN p is nr w9 l [cw wm,cw (pl p),cw (w3 x p)])),[],(qN rfl),⟨rfl,(by first | exact hid1 dC rfl | exact row1 dC rfl),(by cases zd<;>rfl),rfl,rfl,rfl,rfl,rfl,rfl,trivial⟩,trivial, ?_⟩
 refine o_d 5 [(6,bv ca.isSome),(5,iv (ca.getD 0)),(43,bv ca.isSome),(42,iv (ca.getD 0)),(38,.tuple #[iv (ca.getD 0),bv ca.isSome])] (zE (zA (zf2 (fun s=> ∃(sl:Int),∃(tk:Bool),0=0∧(inP p x=(sl,tk))∧(∀k:Nat,sl=(k:Int)→k < 64∧(0≤p (3+5*k+1)∧p (3+5*k+1)≤4294967295)∧(0≤p (3+5*k+2)∧p (3+5*k+2)≤65535))∧s=⟨reg [(6,bv tk),(5,iv sl),(3,pv 7 0),(2,pv 6 0),(0,pv 0 0)],(w6 x qd l 4 zd (yN p is nr w9 l [cw wm,cw (pl p),cw (w3 x p)]))⟩) ?_ ?_)))
 ·skip
  refine zJ (zN (o_d 2 [(45,bv ca.isSome),(44,bv ca.isSome)] (zbJ (b:=ca.isSome) 45 rfl (fun h1=>?_) (fun h1=>?_))))
  ·skip
   refine o_d 2 [(47,pv 7 3),(46,iv (ca.getD 0))] (qB rfl (o_s (by exact zaA (o:=3) (o':=3+5*((ca.getD 0).toNat)) rfl rfl om om) ?_))
   refine qB rfl (o_s (by refine zV (v:= .agg #[iv (p (3+5*((ca.getD 0).toNat))),iv (p (3+5*((ca.getD 0).toNat)+1)),iv (p (3+5*((ca.getD 0).toNat)+2)),iv (p (3+5*((ca.getD 0).toNat)+3)),iv (p (3+5*((ca.getD 0).toNat)+4))]) rfl rfl ?_;exact pl_rS p ((ca.getD 0).toNat) om om) ?_)
   refine qB rfl (qV (zab (TakesC (p (3+5*((ca.getD 0).toNat))) (p (3+5*((ca.getD 0).toNat)+1)) (p (3+5*((ca.getD 0).toNat)+2)) (p (3+5*((ca.getD 0).toNat)+3)) (p (3+5*((ca.getD 0).toNat)+4))) rfl rfl rfl (o_d 2 [(6,bv ([1,2,3].contains (p (3+5*((ca.getD 0).toNat))))),(51,bv ([1,2,3].contains (p (3+5*((ca.getD 0).toNat)))))] (zE (zA (zJ (zN (o_d 2 [(53,bv (!([1,2,3].contains (p (3+5*((ca.getD 0).toNat)))))),(52,bv ([1,2,3].contains (p (3+5*((ca.getD 0).toNat)))))] (zE (zA (qJ (t:= !([1,2,3].contains (p (3+5*((ca.getD 0).toNat))))) rfl (fun h2=>?_) (fun h2=>?_))))))))))))
   ·skip
    have h3:([1,2,3].contains (p (3+5*((ca.getD 0).toNat))))=false:=not_t h2
    refine zbe [] (r_d 3 (xV 56 0 13 55 0 54 0) (r_s (by refine zV (v:=pv 3 0) rfl rfl ?_;exact rfl) ?_))
    refine r_d 2 [(59,pv 3 459),(58,pv 3 0)] (r_s (by refine zV (v:=slV 5 127 (some w9)) rfl rfl ?_;exact (zfp 129).trans rfl) ?_)
    refine r_d 1 [(61,.agg #[iv x.fr,iv x.fp,iv (p 1),iv (p 2)])] (zeJ (zfb (a1:= [sv 0 0 127 (127+w9),.agg #[iv x.fr,iv x.fp,iv (p 1),iv (p 2)]]) [5] [ii (zZ p)++zaj zI w9] (PickC (zZ p) w9 (Fl.mk x.fr x.fp (p 1) (p 2)) (by first | assumption | exact (zhF _).1)) rfl (fun _=>zQ rfl (zQ (qN rfl) rfl)) ⟨⟨_,rfl⟩,zaq _ _,trivial⟩ rfl ?_))
    refine r_d 1 [(5,iv (zbp (zZ p) (Fl.mk x.fr x.fp (p 1) (p 2))))] (za3 (⟨⟨reg [(6,bv ([1,2,3].contains (p (3+5*((ca.getD 0).toNat))))),(5,iv (zbp (zZ p) (Fl.mk x.fr x.fp (p 1) (p 2)))),(3,pv 7 0),(2,pv 6 0),(0,pv 0 0)],(w6 x qd l 4 zd (yN p is nr w9 l [cw wm,cw (pl p),cw (w3 x p)]))⟩, ?_⟩))
    refine ⟨?_, ?_⟩
    ·exact Wk.ren [0,1,2,3,4,5,6,7,8] rfl rfl dC ⟨rfl,rfl,rfl,rfl,rfl,trivial⟩ ⟨.inl (zay rfl rfl rfl rfl),.inl (zF (zH _)),.inl (congrArg some (zaM _).symm),.inl (qH rfl),.inl (zF (zH _)),.inl (zaa (some w9) (fun _=>(zaq _ _))),.inl rfl,.inl (zL (zae p)),.inl rfl,trivial⟩
    ·exact ⟨(zbp (zZ p) (Fl.mk x.fr x.fp (p 1) (p 2))),([1,2,3].contains (p (3+5*((ca.getD 0).toNat)))),rfl,(by rw [h3];exact inP_f hcr h1 h3),(H.pickI rfl),rfl⟩
   have h4:([1,2,3].contains (p (3+5*((ca.getD 0).toNat))))=true:=not_f h2
   refine qK (⟨⟨reg [(6,bv ([1,2,3].contains (p (3+5*((ca.getD 0).toNat))))),(5,iv (ca.getD 0)),(3,pv 7 0),(2,pv 6 0),(0,pv 0 0)],(w6 x qd l 4 zd (yN p is nr w9 l [cw wm,cw (pl p),cw (w3 x p)]))⟩, ?_⟩)
   refine ⟨?_, ?_⟩
   ·exact Wk.ren [0,1,2,3,4,5,6,7,8] rfl rfl dC ⟨rfl,rfl,rfl,rfl,rfl,trivial⟩ ⟨.inl (zay rfl rfl rfl rfl),.inl (zF (zH _)),.inl (congrArg some (zaM _).symm),.inl (qH rfl),.inl (zF (zH _)),.inl (zaa (some w9) (fun _=>(zaq _ _))),.inl rfl,.inl (zL (zae p)),.inl rfl,trivial⟩
   ·exact ⟨(ca.getD 0),([1,2,3].contains (p (3+5*((ca.getD 0).toNat)))),rfl,(by rw [h4];exact inP_t hcr h1 h4),(H.takeI hcq h4),rfl⟩
  refine o_d 7 ((6,bv false)::(51,bv false)::(50,undef)::(vG 49 48 47 46)) (zE (zA (zJ (zN (o_d 2 [(53,bv true),(52,bv false)] (zE (zA (zc8 rfl (zbe [] (r_d 3 (xV 56 0 13 55 0 54 0) (r_s (by refine zV (v:=pv 3 0) rfl rfl ?_;exact rfl) ?_)))))))))))
  refine r_d 2 [(59,pv 3 459),(58,pv 3 0)] (r_s (by refine zV (v:=slV 5 127 (some w9)) rfl rfl ?_;exact (zfp 129).trans rfl) ?_)
  refine r_d 1 [(61,.agg #[iv x.fr,iv x.fp,iv (p 1),iv (p 2)])] (zeJ (zfb (a1:= [sv 0 0 127 (127+w9),.agg #[iv x.fr,iv x.fp,iv (p 1),iv (p 2)]]) [5] [ii (zZ p)++zaj zI w9] (PickC (zZ p) w9 (Fl.mk x.fr x.fp (p 1) (p 2)) (by first | assumption | exact (zhF _).1)) rfl (fun _=>zQ rfl (zQ (qN rfl) rfl)) ⟨⟨_,rfl⟩,zaq _ _,trivial⟩ rfl ?_))
  refine r_d 1 [(5,iv (zbp (zZ p) (Fl.mk x.fr x.fp (p 1) (p 2))))] (za3 (⟨⟨reg [(6,bv false),(5,iv (zbp (zZ p) (Fl.mk x.fr x.fp (p 1) (p 2)))),(3,pv 7 0),(2,pv 6 0),(0,pv 0 0)],(w6 x qd l 4 zd (yN p is nr w9 l [cw wm,cw (pl p),cw (w3 x p)]))⟩, ?_⟩))
  refine ⟨?_, ?_⟩
  ·exact Wk.ren [0,1,2,3,4,5,6,7,8] rfl rfl dC ⟨rfl,rfl,rfl,rfl,rfl,trivial⟩ ⟨.inl (zay rfl rfl rfl rfl),.inl (zF (zH _)),.inl (congrArg some (zaM _).symm),.inl (qH rfl),.inl (zF (zH _)),.inl (zaa (some w9) (fun _=>(zaq _ _))),.inl rfl,.inl (zL (zae p)),.inl rfl,trivial⟩
  ·exact ⟨(zbp (zZ p) (Fl.mk x.fr x.fp (p 1) (p 2))),false,rfl,(inP_n hcr h1),(H.pickI rfl),rfl⟩
 rintro s ⟨sl,tk,-,hin,hrg,rfl⟩
 refine zJ (zJ (zN (o_d 2 [(64,bv (decide (sl < 0))),(63,iv sl)] (zE (zA (qJ (t:=decide (sl < 0)) rfl (fun h5=>?_) (fun h5=>?_)))))))
 ·skip
  have h5':sl < 0:=of_decide_eq_true h5
  exact zJ (zN (qV (zab (dropC 9) rfl rfl rfl (o_b 1 [] (w6 x qd l 4 zd (yN p is nr w9 l [cw (yt 9),cw (pl p),cw (w3 x p)])) (zE (zA (qW (⟨trivial,[.agg (yB 9)],(q8 rfl rfl rfl rfl),(zM rfl z5),⟨reg [],(WW x qd l zd p is nr w9)⟩,[0,1,2,3,4,5],[.agg (yB 9)],WkR.of (rs:= []) rfl rfl dC trivial ⟨.inl (zay rfl rfl rfl rfl),.inl (zF (zH _)),.inl (congrArg some (zaM _).symm),.inl (qH rfl),.inl (zF (zH _)),.inl (zaa (some w9) (fun _=>(zaq _ _))),trivial⟩,(zQ (zbB (q:=none) (k:=0) (k':=0) (n:=0) rfl) rfl),.inl ⟨by rw [hin];assumption,rfl,rfl⟩⟩))))))))
 have h5': ¬(sl < 0):=of_decide_eq_false h5
 obtain ⟨k,rfl⟩: ∃k:Nat,sl=(k:Int):=⟨sl.toNat,om⟩
 have hkr:=hrg k rfl
 have hnk:=hnr k
 refine qK (zA (zJ (zN (o_d 2 [(67,pv 7 3),(66,iv (k:Int))] (o_s (by exact zaA (o:=3) (o':=3+5*k) rfl rfl om om) ?_)))))
 refine o_s (by refine zV (v:= .agg (vz p k)) rfl rfl ?_;exact pl_rS p k om om) ?_
 refine o_b 2 [(7,pv 9 0)] (w6 x qd l 4 zd (yN p is nr w9 l [cw wm,cw (pl p),cw (w3 x p),cw (wj p k)])) (zE (zA (zJ (zeE (w6 x qd l 4 zd (yN p is nr w9 l [cw wm,cw (pl p),cw (w3 x p),cw (wj p k)])) (by kernel_rfl) (d_n 4 4 10 (wJ 73 0 14 72 0 71 0 70 0) (w6 x qd l 4 zd (yN p is nr w9 l [cw wm,cw (pl p),cw (w3 x p),cw (wj p k)])) [] (by kernel_rfl) rfl rfl (d_s rfl rfl rfl (by kernel_rfl) (by refine zV (v:=zS (wa l) 4 l.length) rfl rfl ?_;exact rfl) ?_))))))
 refine d_n 4 9 10 [(78,iv (p (3+5*k+2))),(77,pv 9 2),(76,iv (p (3+5*k+1))),(75,pv 9 1)] (w6 x qd l 4 zd (yN p is nr w9 l [cw wm,cw (pl p),cw (w3 x p),cw (wj p k)])) [⟨8,[9],[],none⟩,⟨6,[9],[],none⟩,⟨4,[0],[],none⟩] (by kernel_rfl) rfl rfl ?_
 obtain ⟨m6,hm6⟩: ∃z9,natL l y.ba false (p (3+5*k+1)) (p (3+5*k+2))=z9:=⟨_,rfl⟩
 have hm6a:Alike l m6:=by rw [←hm6];exact nat_alike hp om false
 have hm6p:=hm6a.parse hp
 have hm6l:=hm6p.2.2.2
 have hm6k:=hm6p.2.1
 have hm6b:=hm6p.2.2.1
 have hm6e:m6.length=l.length:=hm6l
 refine d_clN [4] [zG (wa l) (u8 l) false] [zS (wa l) 0 l.length,bv false,iv (p (3+5*k+1)),iv (p (3+5*k+2))] (chgR hm6 rfl (NatC _ _ l l (RowOf.whole rfl (Nat.le_refl _)) y hp om false (p (3+5*k+1)) (p (3+5*k+2)) om om)) rfl rfl ⟨⟨_,rfl,z4 (zH _) rfl (fun q=>q)⟩,trivial⟩ dC ⟨_,_,⟨rfl,rfl⟩,Nat.le_add_right 1 1,zbD [_] [_]⟩ ?_ (by kernel_rfl)
 rintro v1 h1' ⟨rfl,rfl⟩
 refine ⟨za6 rfl,.tuple #[zS (wa l) 10 l.length,iv 0],(w6 x qd l 4 zd (yN p is nr w9 l [cw wm,cw (pl p),cw (w3 x p),cw (wj p k)])),(W4 l m6),((zdJ _).trans rfl),⟨rfl,rfl,rfl,rfl,rfl,rfl,rfl,rfl,rfl,rfl,trivial⟩,⟨(Option.some.inj (zF (zH _))).symm,trivial⟩, ?_⟩
 refine d_n 2 12 10 [(81,iv 0),(80,zS (wa l) 10 l.length)] (vw x qd l 4 zd p is nr w9 k m6) [⟨9,[4],(zcF [4] [zG (wa l) (u8 l) false]),some 10⟩,⟨8,[9],[],none⟩,⟨6,[9],[],none⟩,⟨4,[0],[],none⟩] (by kernel_rfl) rfl rfl (d_clH [0,1,2,3,4,10] (vU x qd l zd) [pv 0 0,zS (wa l) 5 l.length,iv 0] (thenC x (zD x.op) qd 0 l.length l.length 0 l.length l.length ((zD x.op).isSome) zd) rfl rfl ⟨⟨_,rfl,zav (.inl (zb4 rfl rfl rfl rfl (fun q=>rfl)))⟩,⟨_,rfl,(zcw (zD x.op))⟩,⟨_,rfl,(zd2 _)⟩,⟨_,rfl,zaI⟩,⟨_,rfl,zaI⟩,⟨_,rfl,zaI⟩,trivial⟩ dC ⟨_,_,⟨rfl,rfl⟩,Nat.le_refl _,zfw rfl (zbD [_,_,_,_,_] [])⟩ ?_ (by kernel_rfl))
 rintro v1 h1' ⟨rfl,rfl⟩
 refine ⟨(zW zaO (zW qC (zW qC (zW qC (zW qC (zW qC zap)))))),.tuple #[],(vw x qd l 10 zd p is nr w9 k m6),[],(by simp [zaF]),⟨zbZ rfl rfl rfl rfl,(by first | exact hid1 dC rfl | exact row1 dC rfl),(by cases zd<;>rfl),rfl,rfl,rfl,rfl,rfl,rfl,rfl,rfl,trivial⟩,trivial, ?_⟩
 refine zgp (zU (WC tk k) (zJ (zJ (zN (o_d 4 (wJ 87 0 11 86 0 85 0 84 0) (o_s (by refine zV (v:=zS (zD x.op) 1 x.op.length) rfl rfl ?_;exact rfl) ?_))))))
 rcases ha7:zcy x.op with _ | a7
 ·skip
  refine qV (zaD [1] [zG (zD x.op) (u8 x.op) false] [zS (zD x.op) 0 x.op.length] (zgE ha7 (zjV (zD x.op) x.op x.op (zdt x.op) om)) rfl (zQ (qG rfl) rfl) ⟨⟨_,rfl,z4 (zH _) rfl (fun q=>q)⟩,trivial⟩ dC ?_)
  rintro v1 h1' ⟨rfl,rfl⟩
  refine ⟨q9 [_] [],.tuple #[iv 0,.int .u32 0,.int .u32 0,bv false],(vw x qd l 10 zd p is nr w9 k m6),[],(qN rfl),⟨rfl,(zaV rfl rfl),rfl,rfl,rfl,rfl,rfl,rfl,rfl,rfl,rfl,trivial⟩,trivial, ?_⟩
  refine o_d 9 (xL 11 10 9 8 93 92 91 90 83) (zE (zA (zJ (zN (o_d 13 [(106,bv false),(105,undef),(104,undef),(103,bv false),(102,bv false),(101,undef),(100,undef),(99,undef),(98,undef),(97,undef),(96,undef),(95,bv false),(94,bv false)] (zE (zU ((106,bv false)::(10,.int .u32 0)::(8,iv 0)::(WC tk k)) (zbc rfl (qK (zA (zJ (zN ?_))))))))))))
  refine o_d 5 (Ya tk k) (o_s (by refine zV (v:=zS (wa l) 10 l.length) rfl rfl ?_;exact rfl) ?_)
  refine o_b 2 [(140,.agg (vN k tk l 10))] (w6 x qd l 10 zd (yN p is nr w9 l [cw [iv 0,iv (k:Int),bv tk,zS (wa l) 10 l.length],cw (pl p),cw (w3 x p),cw (wj p k),zG (wa l) (u8 m6) true])) (zE (zA (qW ?_)))
  have e1:inL p nr x l k=m6:=by
   unfold inL
   simp only [ha7]
   rw [←hba];exact hm6
  exact ⟨trivial,[.agg (vN k tk l 10)],(q8 rfl rfl rfl rfl),(zM rfl z5),⟨reg [],(w6 x qd l 6 zd (yN p is nr w9 l (W4 l m6)))⟩,[0,1,2,3,4,5,10],[.agg (vN k tk l 6)],WkR.of (rs:= []) rfl rfl dC trivial ⟨.inl (zay rfl rfl rfl rfl),.inl (zF (zH _)),.inl (congrArg some (zaM _).symm),.inl (qH rfl),.inl (zF (zH _)),.inl (zaa (some w9) (fun _=>(zaq _ _))),.inl (zF (zH _)),trivial⟩,(zQ (zbB rfl) rfl),.inr ⟨k,by rw [hin],om,by rw [hin];rfl,by rw [e1]⟩⟩
 ·skip
  have ha7r:=stampO_r ha7
  have ha7m:=zez x.op a7 4 dC
  have ha7n:=zez x.op (a7+4) 4 dC
  refine qV (zaD [1] [zG (zD x.op) (u8 x.op) false] [zS (zD x.op) 0 x.op.length] (zgD ha7 (zjV (zD x.op) x.op x.op (zdt x.op) om)) rfl (zQ (qG rfl) rfl) ⟨⟨_,rfl,z4 (zH _) rfl (fun q=>q)⟩,trivial⟩ dC ?_)
  rintro v1 h1' ⟨rfl,rfl⟩
  refine ⟨q9 [_] [],.tuple #[iv (a7:Nat),.int .u32 (qD x.op a7 4),.int .u32 (qD x.op (a7+4) 4),bv true],(vw x qd l 10 zd p is nr w9 k m6),[],(qN rfl),⟨rfl,(zaV rfl rfl),rfl,rfl,rfl,rfl,rfl,rfl,rfl,rfl,rfl,trivial⟩,trivial, ?_⟩
  refine o_d 9 [(11,bv true),(10,.int .u32 (qD x.op (a7+4) 4)),(9,.int .u32 (qD x.op a7 4)),(8,iv (a7:Nat)),(93,bv true),(92,.int .u32 (qD x.op (a7+4) 4)),(91,.int .u32 (qD x.op a7 4)),(90,iv (a7:Nat)),(83,.tuple #[iv (a7:Nat),.int .u32 (qD x.op a7 4),.int .u32 (qD x.op (a7+4) 4),bv true])] (zE (zA (zJ (zN (o_d 6 [(99,pv 0 0),(98,pv 0 0),(97,pv 0 0),(96,pv 0 0),(95,bv true),(94,bv true)] (qB rfl (o_s (by refine zV (v:=iv x.k) rfl rfl ?_;exact rfl) ?_)))))))
  refine o_d 3 [(103,bv (x.k==1)),(102,bv (x.k==1)),(101,bv (x.k==1))] (zbJ (b:=x.k==1) 103 rfl (fun h8=>?_) (fun h8=>?_))
  ·skip
   have h8':x.k=1:=zaQ h8
   refine o_d 3 [(106,bv ((qD x.op (a7+4) 4)!=0)),(105,bv ((qD x.op (a7+4) 4)!=0)),(104,.int .u32 (qD x.op (a7+4) 4))] (zE (zU ((106,bv ((qD x.op (a7+4) 4)!=0))::(10,.int .u32 (qD x.op (a7+4) 4))::(8,iv (a7:Nat))::(WC tk k)) (qJ (t:=(qD x.op (a7+4) 4)!=0) rfl (fun h9=>?_) (fun h9=>?_))))
   ·skip
    have h9':qD x.op (a7+4) 4≠0:=ze5 h9
    refine zJ (zN (o_d 1 [(12,iv 0)] (zE (zA (zf2 (fun s=> ∃(bk:Int),0=0∧(bk=backN nr k (qD x.op (a7+4) 4))∧(0≤bk∧bk < 4294967296)∧s=⟨reg ((12,iv bk)::(8,iv (a7:Nat))::(WC tk k)),(vw x qd l 10 zd p is nr w9 k m6)⟩) ?_ ?_)))))
    ·skip
     refine zJ (zN (o_d 3 (xV 110 0 13 109 0 108 0) (o_s (by refine zV (v:=pv 3 0) rfl rfl ?_;exact rfl) ?_)))
     refine o_d 1 [(112,iv (k:Int))] (qV (zd1 [3,5] [cr (zR p is nr (wx 1 w9)),cr []] [pv 0 0,iv (k:Int)] (NearK om (NearC p is nr (some w9) (k:Int))) rfl rfl ⟨⟨_,rfl,zav (.inl (zaX rfl (fun q=>q)))⟩,⟨_,rfl,zdq (some w9)⟩,trivial⟩ dC ?_))
     rintro v1 h1' ⟨rfl,rfl⟩
     refine ⟨(zW qC (zW qC zap)),.tuple #[.int .u32 ((nr k).1),bv ((nr k).2)],(vw x qd l 10 zd p is nr w9 k m6),[],(qN rfl),⟨rfl,rfl,rfl,rfl,rfl,rfl,rfl,rfl,rfl,rfl,rfl,trivial⟩,trivial, ?_⟩
     refine o_d 5 [(14,bv ((nr k).2)),(13,.int .u32 ((nr k).1)),(115,bv ((nr k).2)),(114,.int .u32 ((nr k).1)),(107,.tuple #[.int .u32 ((nr k).1),bv ((nr k).2)])] (zE (zA (zJ (zN (o_d 1 [(116,bv ((nr k).2))] (zE (zA (qJ (t:=(nr k).2) rfl (fun h10=>?_) (fun h10=>?_)))))))))
     ·skip
      refine zN (o_d 2 [(118,.int .u32 ((nr k).1)),(117,.int .u32 (qD x.op (a7+4) 4))] (qV (zab (cBackC (qD x.op (a7+4) 4) ((nr k).1) om om) rfl rfl rfl ?_)))
      have hy11:=backS_r (qD x.op (a7+4) 4) ((nr k).1)
      refine o_s (by refine zK (v:= .int .i64 (i64.wrap (zfY (qD x.op (a7+4) 4) ((nr k).1)))) (congrArg wg (w64 om om)) ?_;kernel_rfl) ?_
      refine o_d 1 [(12,iv (zfY (qD x.op (a7+4) 4) ((nr k).1)))] (zE (⟨⟨reg ((12,iv (zfY (qD x.op (a7+4) 4) ((nr k).1)))::(8,iv (a7:Nat))::(WC tk k)),(vw x qd l 10 zd p is nr w9 k m6)⟩, ?_⟩))
      refine ⟨?_, ?_⟩
      ·exact Wk.ren [0,1,2,3,4,5,6,7,8,9,10] rfl rfl dC ⟨rfl,rfl,rfl,rfl,rfl,rfl,trivial⟩ ⟨.inl (zay rfl rfl rfl rfl),.inl (zF (zH _)),.inl (congrArg some (zaM _).symm),.inl (qH rfl),.inl (zF (zH _)),.inl (zaa (some w9) (fun _=>(zaq _ _))),.inl rfl,.inl (zL (zae p)),.inl rfl,.inl rfl,.inl (zF (zH _)),trivial⟩
      ·exact ⟨(zfY (qD x.op (a7+4) 4) ((nr k).1)),rfl,(by rw [backN,if_pos (by rw [h10])]),(backS_r _ _),rfl⟩
     refine qK (⟨⟨reg ((12,iv 0)::(8,iv (a7:Nat))::(WC tk k)),(vw x qd l 10 zd p is nr w9 k m6)⟩, ?_⟩)
     refine ⟨?_, ?_⟩
     ·exact Wk.ren [0,1,2,3,4,5,6,7,8,9,10] rfl rfl dC ⟨rfl,rfl,rfl,rfl,rfl,rfl,trivial⟩ ⟨.inl (zay rfl rfl rfl rfl),.inl (zF (zH _)),.inl (congrArg some (zaM _).symm),.inl (qH rfl),.inl (zF (zH _)),.inl (zaa (some w9) (fun _=>(zaq _ _))),.inl rfl,.inl (zL (zae p)),.inl rfl,.inl rfl,.inl (zF (zH _)),trivial⟩
     ·exact ⟨0,rfl,(by rw [backN,if_neg (by rw [h10];simp)]),om,rfl⟩
    rintro s ⟨bk,-,hbk,hbr,rfl⟩
    refine zN (o_d 4 (wJ 124 0 14 123 0 122 0 121 0) (o_s (by refine zV (v:=zS (wa l) 10 l.length) rfl rfl ?_;exact rfl) ?_))
    refine o_d 1 [(126,iv (a7:Nat))] (o_s (by refine zK (v:= .int .i64 (i64.wrap (24+(a7:Nat)))) (congrArg wg (w64 om om)) ?_;kernel_rfl) ?_)
    refine o_s (by refine zK (v:= .int .i64 (i64.wrap (24+(a7:Nat)+4))) (congrArg wg (w64 om om)) ?_;kernel_rfl) ?_
    refine o_d 1 [(129,iv bk)] ?_
    have hy12:=zfr (ze3 m6).k
    obtain ⟨m13,hm13⟩: ∃z9,zco m6 (ze3 m6).ba (24+a7+4) 4 bk=z9:=⟨_,rfl⟩
    have hm13a:Alike m6 m13:=by rw [←hm13];exact zfK hm6p.1 om om om om
    have hm13p:=hm13a.parse hm6p.1
    have hm13l:=hm13p.2.2.2
    have hm13k:=hm13p.2.1
    have hm13b:=hm13p.2.2.1
    have hm13e:m13.length=l.length:=(hm13l.trans hm6l)
    refine qV (zaD [10] [zG (wa l) (u8 m6) false] [zS (wa l) 0 l.length,iv (24+(a7:Nat)+4),iv 4,iv bk] (chgR hm13 hm6l (Write4C _ _ m6 m6 (RowOf.whole rfl om) (ze3 m6) hm6p.1 (24+a7+4) bk om om om)) rfl rfl ⟨⟨_,rfl,z4 (zH _) rfl (fun q=>rfl)⟩,trivial⟩ dC ?_)
    rintro v1 h1' ⟨rfl,rfl⟩
    refine ⟨za6 rfl,.tuple #[zS (wa l) 11 l.length,iv 0],(vw x qd l 10 zd p is nr w9 k m6),(W4 l m13),((zdJ _).trans rfl),⟨rfl,rfl,rfl,rfl,rfl,rfl,rfl,rfl,rfl,rfl,rfl,trivial⟩,⟨(Option.some.inj (zF (zH _))).symm,trivial⟩, ?_⟩
    refine o_d 2 [(132,iv 0),(131,zS (wa l) 11 l.length)] (qV (zd1 [0,1,2,3,10,11] (vU x qd l zd) [pv 0 0,zS (wa l) 5 l.length,iv 0] (thenC x (zD x.op) qd 0 l.length l.length 0 l.length l.length ((zD x.op).isSome) zd) rfl rfl ⟨⟨_,rfl,zav (.inl (zb4 rfl rfl rfl rfl (fun q=>rfl)))⟩,⟨_,rfl,(zcw (zD x.op))⟩,⟨_,rfl,(zd2 _)⟩,⟨_,rfl,zaI⟩,⟨_,rfl,zaI⟩,⟨_,rfl,zaI⟩,trivial⟩ dC ?_))
    rintro v1 h1' ⟨rfl,rfl⟩
    refine ⟨(zW zaO (zW qC (zW qC (zW qC (zW qC (zW qC zap)))))),.tuple #[],(w6 x qd l 11 zd (yN p is nr w9 l (cw wm::cw (pl p)::cw (w3 x p)::cw (wj p k)::(WR l m6 m13)))),[],(by simp [zaF]),⟨zbZ rfl rfl rfl rfl,(by first | exact hid1 dC rfl | exact row1 dC rfl),(by cases zd<;>rfl),rfl,rfl,rfl,rfl,rfl,rfl,rfl,rfl,rfl,trivial⟩,trivial, ?_⟩
    refine zE (zA (zJ (zN (o_d 5 (Ya tk k) (o_s (by refine zV (v:=zS (wa l) 11 l.length) rfl rfl ?_;exact rfl) ?_)))))
    refine o_b 2 [(140,.agg (vN k tk l 11))] (w6 x qd l 11 zd (yN p is nr w9 l (cw [iv 0,iv (k:Int),bv tk,zS (wa l) 11 l.length]::cw (pl p)::cw (w3 x p)::cw (wj p k)::(WR l m6 m13)))) (zE (zU [(2,pv 6 0)] (qW ?_)))
    have e1:inL p nr x l k=m13:=by
     unfold inL
     simp only [ha7]
     rw [if_pos ⟨om,by assumption⟩,←hba,hm6,←hm6b,←hbk];exact hm13
    exact ⟨trivial,[.agg (vN k tk l 11)],(q8 rfl rfl rfl rfl),(zM rfl z5),⟨reg [],(w6 x qd l 6 zd (yN p is nr w9 l (W4 l m13)))⟩,[0,1,2,3,4,5,11],[.agg (vN k tk l 6)],WkR.of (rs:= []) rfl rfl dC trivial ⟨.inl (zay rfl rfl rfl rfl),.inl (zF (zH _)),.inl (congrArg some (zaM _).symm),.inl (qH rfl),.inl (zF (zH _)),.inl (zaa (some w9) (fun _=>(zaq _ _))),.inl (zF (zH _)),trivial⟩,(zQ (zbB rfl) rfl),.inr ⟨k,by rw [hin],om,by rw [hin];rfl,by rw [e1]⟩⟩
   have h9': ¬(qD x.op (a7+4) 4≠0):=ze6 h9
   refine qK (zA (zJ (zN (o_d 5 (Ya tk k) (o_s (by refine zV (v:=zS (wa l) 10 l.length) rfl rfl ?_;exact rfl) ?_)))))
   refine o_b 2 [(140,.agg (vN k tk l 10))] (w6 x qd l 10 zd (yN p is nr w9 l [cw [iv 0,iv (k:Int),bv tk,zS (wa l) 10 l.length],cw (pl p),cw (w3 x p),cw (wj p k),zG (wa l) (u8 m6) true])) (zE (zA (qW ?_)))
   have e1:inL p nr x l k=m6:=by
    unfold inL
    simp only [ha7]
    rw [if_neg om,←hba];exact hm6
   exact ⟨trivial,[.agg (vN k tk l 10)],(q8 rfl rfl rfl rfl),(zM rfl z5),⟨reg [],(w6 x qd l 6 zd (yN p is nr w9 l (W4 l m6)))⟩,[0,1,2,3,4,5,10],[.agg (vN k tk l 6)],WkR.of (rs:= []) rfl rfl dC trivial ⟨.inl (zay rfl rfl rfl rfl),.inl (zF (zH _)),.inl (congrArg some (zaM _).symm),.inl (qH rfl),.inl (zF (zH _)),.inl (zaa (some w9) (fun _=>(zaq _ _))),.inl (zF (zH _)),trivial⟩,(zQ (zbB rfl) rfl),.inr ⟨k,by rw [hin],om,by rw [hin];rfl,by rw [e1]⟩⟩
  have h8': ¬(x.k=1):=zaR h8
  refine o_d 3 [(106,bv false),(105,undef),(104,undef)] (zE (zU ((106,bv false)::(10,.int .u32 (qD x.op (a7+4) 4))::(8,iv (a7:Nat))::(WC tk k)) (zbc rfl (qK (zA (zJ (zN (o_d 5 (Ya tk k) (o_s (by refine zV (v:=zS (wa l) 10 l.length) rfl rfl ?_;exact rfl) ?_)))))))))
  refine o_b 2 [(140,.agg (vN k tk l 10))] (w6 x qd l 10 zd (yN p is nr w9 l [cw [iv 0,iv (k:Int),bv tk,zS (wa l) 10 l.length],cw (pl p),cw (w3 x p),cw (wj p k),zG (wa l) (u8 m6) true])) (zE (zA (qW ?_)))
  have e1:inL p nr x l k=m6:=by
   unfold inL
   simp only [ha7]
   rw [if_neg om,←hba];exact hm6
  exact ⟨trivial,[.agg (vN k tk l 10)],(q8 rfl rfl rfl rfl),(zM rfl z5),⟨reg [],(w6 x qd l 6 zd (yN p is nr w9 l (W4 l m6)))⟩,[0,1,2,3,4,5,10],[.agg (vN k tk l 6)],WkR.of (rs:= []) rfl rfl dC trivial ⟨.inl (zay rfl rfl rfl rfl),.inl (zF (zH _)),.inl (congrArg some (zaM _).symm),.inl (qH rfl),.inl (zF (zH _)),.inl (zaa (some w9) (fun _=>(zaq _ _))),.inl (zF (zH _)),trivial⟩,(zQ (zbB rfl) rfl),.inr ⟨k,by rw [hin],om,by rw [hin];rfl,by rw [e1]⟩⟩
theorem inW {P:Program} [PrC P] (p:qZ) (is:Bool) (nr:zdU) (w9:Nat) (x:Pk) (qd:Option (Nat×Nat)) (zd:Bool) (l:List Int) (y:Pk) (hp:qX l=(0,y)) (hk:y.k=x.k) (hba:y.ba=x.ba) (h3:x.k≠3) (hop:x.op.length+24≤l.length) (H:PRng p) (hnr: ∀k,0≤(nr k).1∧(nr k).1 < 4294967296) (N:Nat) (hN:l.length=N):
  Env P "(*roundhouse/plane.packet).in" [pv 0 0] ([cw (qR x (zD x.op) 1 qd 2 3 (some (0,N)) 4 N),zG (zD x.op) (u8 x.op) false,zaG zd,cr (zR p is nr (slV 5 127 (some w9))),zG (some (0,N)) (u8 l) false,slB zI (ii (zZ p)) (some w9)]) (fun v h'=>((inP p x).1 < 0∧v= .agg #[iv 9,iv (-1),bv false,.slice none 0 0]∧h'= [cw (qR x (zD x.op) 1 qd 2 3 (some (0,N)) 4 N),zG (zD x.op) (u8 x.op) false,zaG zd,cr (zR p is nr (slV 5 127 (some w9))),zG (some (0,N)) (u8 l) false,slB zI (ii (zZ p)) (some w9)])∨(∃k:Nat,(inP p x).1=(k:Int)∧k < 64∧v= .agg #[iv 0,iv (k:Int),bv (inP p x).2,zS (some (0,N)) 6 N]∧h'= [cw (qR x (zD x.op) 1 qd 2 3 (some (0,N)) 6 N),zG (zD x.op) (u8 x.op) false,zaG zd,cr (zR p is nr (slV 5 127 (some w9))),zG (some (0,N)) (u8 l) false,slB zI (ii (zZ p)) (some w9),zG (some (0,N)) (u8 (inL p nr x l k)) true])):=by
 subst hN;exact inC4 p is nr w9 x qd zd l y hp hk hba h3 hop H hnr
end Go.Rh

namespace Go.Rh
theorem app_fit {h:Nat→Option Blk} {z:RL} {zl:List Value} {size bytes q n k r2 c nid:Nat} {cs xs:List Value} {vx:Value} (hzl:zl.length=size) (hk:h k=some (.cells (cs++zaj zl (q+r2)) true)) (hcs:cs.length=n*size) (hq:zi6 vx=some q) (hf1:first h size q vx=some xs) (hxl:xs.length=q*size):
  appE z size bytes (sv k 0 n (n+(q+r2))) vx h nid c=some (sv k 0 (n+q) (n+q+r2),if q=0 then .no else .set k (cw (cs++xs++zaj zl r2))):=by
 have e1:first h size n (.slice (some ⟨k,0,none⟩) n (n+(q+r2)))=some cs:=by
  refine zbF hk ?_ ?_
  ·rw [List.drop_zero,←hcs,List.take_append_of_le_length (Nat.le_refl _),List.take_length]
  ·simp [hcs]
 simp only [appE,sv,hq]
 rw [e1,hf1]
 simp only
 rw [if_pos om]
 by_cases h0:q=0
 ·subst h0;simp
 ·rw [if_neg h0,if_neg h0,hk]
  simp only
  have hsz:(cs++zaj zl (q+r2)).length=n*size+(q+r2)*size:=by simp [room_len,hzl,hcs]
  rw [if_pos (by rw [hsz,hxl,Nat.add_mul];omega)]
  have e2:splice (cs++zaj zl (q+r2)) (0+n*size) xs=(cs++xs)++zaj zl r2:=by
   rw [Nat.zero_add,←hcs];exact zid (by rw [hzl];exact hxl)
  rw [e2,show n+(q+r2)=n+q+r2 by omega]
theorem set_same {h:List Blk} {k:Nat} {b:Blk} (hk:h[k]? =some b):h.set k b=h:=by
 refine List.ext_getElem? fun i=>?_
 rw [List.getElem?_set]
 split
 ·rename_i e;subst e;rw [if_pos (z6 hk),hk]
 ·rfl
section
variable {C:zag} {K:St→Prop} {L:List (Nat×Value)} {h h':List Blk} {z:RL} {zl:List Value} {size bytes q n k r r2 d:Nat} {cs xs cs2:List Value} {vx:Value} {s x:Opd} {rs:List ICell}
theorem o_appF (hzl:zl.length=size) (hs:evf (reg L) s=sv k 0 n (n+r)) (hr:r=q+r2) (hk:h[k]? =some (.cells (cs++zaj zl r) true)) (hcs:cs.length=n*size) (hx:evf (reg L) x=vx) (hq:zi6 vx=some q) (hf1:first (hf h) size q vx=some xs) (hxl:xs.length=q*size) (hc:cs++xs=cs2) (hh:h.set k (cw (cs2++zaj zl r2))=h')
  (hK:GO C rs K ⟨reg ((d,sv k 0 (n+q) (n+q+r2))::L),h'⟩):GO C (⟨some d,.app z size bytes s x,none⟩::rs) K ⟨reg L,h⟩:=by
 subst hr;subst hc;subst hh
 refine ⟨?_⟩
 show zfD C (.app z size bytes s x) (reg L) h (fun v h=>zbv C rs K ⟨zau (reg L) (some d) v,h⟩)
 show appK z size bytes (evf (reg L) s) (evf (reg L) x) (fun v e=>zbv C rs K ⟨zau (reg L) (some d) v,e.on h⟩) (hf h) h.length
 rw [hs,hx]
 refine appK_of fun c=>⟨_,_,app_fit hzl (zah.2 ⟨hk,by simp⟩) hcs hq hf1 hxl, ?_⟩
 have:=hK.out
 by_cases h0:q=0
 ·subst h0
  have hx0:xs= []:=List.eq_nil_of_length_eq_zero (by simpa using hxl)
  subst hx0
  rw [if_pos rfl]
  rw [List.append_nil,set_same (by rw [hk,Nat.zero_add])] at this
  exact this
 ·rw [if_neg h0];exact this
theorem d_appF {un:Nat→Nat→Bool} {i nid:Nat} {log:List Foot} (hzl:zl.length=size) (hs:evf (reg L) s=sv k 0 n (n+r)) (hr:r=q+r2) (hk:h[k]? =some (.cells (cs++zaj zl r) true)) (hcs:cs.length=n*size) (hx:evf (reg L) x=vx) (hq:zi6 vx=some q) (hf1:first (hf h) size q vx=some xs) (hxl:xs.length=q*size) (hc:cs++xs=cs2) (hh:h.set k (cw (cs2++zaj zl r2))=h')
  (hq0:0 < q) (hfit:zhD un ⟨i,rdE (.appR z size bytes s x) (evf (reg L)),[k],none⟩ log=true) (hK:GD C un (i+1) (nid+1) rs (zeq ⟨i,rdE (.appR z size bytes s x) (evf (reg L)),[k],none⟩ log) K ⟨reg ((d,sv k 0 (n+q) (n+q+r2))::L),h'⟩):GD C un i nid (⟨some d,.appR z size bytes s x,none⟩::rs) log K ⟨reg L,h⟩:=by
 subst hr;subst hc;subst hh
 refine ⟨?_⟩
 show zaW C un ⟨i,nid,some d,.appR z size bytes s x,none⟩ log (fun log' s'=>wpD C un (zbI (i+1) (nid+1) rs) log' K s') ⟨reg L,h⟩
 simp only [zaW,gJ,zbS,if_true,if_false,Bool.false_eq_true]
 intro c
 rw [hs,hx,app_fit hzl (zah.2 ⟨hk,by simp⟩) hcs hq hf1 hxl,if_neg om]
 exact ⟨trivial,zcp hfit,hK.out⟩
theorem d_appF0 {un:Nat→Nat→Bool} {i nid:Nat} {log:List Foot} (hzl:zl.length=size) (hs:evf (reg L) s=sv k 0 n (n+r)) (hr:r=q+r2) (hk:h[k]? =some (.cells (cs++zaj zl r) true)) (hcs:cs.length=n*size) (hx:evf (reg L) x=vx) (hq:zi6 vx=some q) (hf1:first (hf h) size q vx=some xs) (hxl:xs.length=q*size) (hc:cs++xs=cs2) (hh:h.set k (cw (cs2++zaj zl r2))=h')
  (hq0:q=0) (hfit:zhD un ⟨i,rdE (.appR z size bytes s x) (evf (reg L)),[],none⟩ log=true) (hK:GD C un (i+1) (nid+1) rs (zeq ⟨i,rdE (.appR z size bytes s x) (evf (reg L)),[],none⟩ log) K ⟨reg ((d,sv k 0 (n+q) (n+q+r2))::L),h'⟩):GD C un i nid (⟨some d,.appR z size bytes s x,none⟩::rs) log K ⟨reg L,h⟩:=by
 subst hr;subst hc;subst hh
 refine ⟨?_⟩
 show zaW C un ⟨i,nid,some d,.appR z size bytes s x,none⟩ log (fun log' s'=>wpD C un (zbI (i+1) (nid+1) rs) log' K s') ⟨reg L,h⟩
 simp only [zaW,gJ,zbS,if_true,if_false,Bool.false_eq_true]
 intro c
 rw [hs,hx,app_fit hzl (zah.2 ⟨hk,by simp⟩) hcs hq hf1 hxl,if_pos hq0]
 have:=hK.out
 subst hq0
 have hx0:xs= []:=List.eq_nil_of_length_eq_zero (by simpa using hxl)
 subst hx0
 rw [List.append_nil,set_same (by rw [hk,Nat.zero_add])] at this
 exact ⟨trivial,zcp hfit,this⟩
end
theorem zc2 (q:Option (Nat×Nat)) (k n:Nat) (hq:q=none→n=0):zi6 (zS q k n)=some n:=by
 cases q with
 | none=>rw [hq rfl];rfl
 | some p=>rfl
theorem zcX {h:List Blk} {k:Nat} {q q0:Option (Nat×Nat)} {L l:List Int} {rw:Bool} (hk:h[k]? =some (zG q0 (u8 L) rw)) (hs:q.isSome=q0.isSome) (hr:RowOf q L l):first (hf h) 1 l.length (zS q k l.length)=some (u8 l):=by
 cases q with
 | none=>have:=List.eq_nil_of_length_eq_zero (hr.nil rfl);subst this;rfl
 | some p=>
  obtain ⟨p0,rfl⟩: ∃p0,q0=some p0:=by cases q0 with | none=>cases hs | some p0=>exact ⟨p0,rfl⟩
  have h6:hf h k=some (.cells (u8 L) rw):=zah.2 ⟨hk,by simp⟩
  have h7:=hr.off (by simp)
  have h8:=hr.at_ (by simp)
  simp only [qo] at h7 h8
  simp only [zS]
  refine zbF h6 ?_ (by rw [qL];omega)
  rw [Nat.mul_one]
  conv=>rhs;rw [←h8]
  simp [u8]
theorem zeQ {l:List Int} {i r:Nat} {x w:Int} (hi:i < l.length) (hw:x % 256=w):splice (u8 l++zaj zB r) i [.int .u8 w]=u8 (l.set i x)++zaj zB r:=by
 rw [zes (by rw [qL];simp;omega),u8_set hi hw]
theorem run_mksR {d:Option Nat} {l c:Opd} {L:List (Nat×Value)} {hp:List Blk} {a n r:Nat} (hl:evf (reg L) l=iv (a:Nat)) (hc:evf (reg L) c=iv (n:Nat)) (hn:n=a+r) (hb:n≤1000000):
  zdb [⟨d,.mks [(1,(.int .u8 0))] 1 1 l c,none⟩] ⟨reg L,hp⟩=some ⟨zau (reg L) d (sv hp.length 0 a (a+r)),hp++ [cw (u8 (List.replicate a 0)++zaj zB r)]⟩:=by
 subst hn
 refine zaU (e:= .push (cw (u8 (List.replicate a 0)++zaj zB r))) (v:=sv hp.length 0 a (a+r)) rfl rfl ?_
 simp only [z8,hl,hc,iv]
 rw [if_pos ⟨om,om,om,om⟩]
 simp only [Int.toNat_natCast]
 rw [zgM,zcG,List.replicate_append_replicate,←u8_rep];rfl
def zbW (b:List Int):List Int:=
 (if b.getD 0 0 % 256=3 then [0,b.getD 0 0,((b.length:Int) - 16) / 256,(b.length:Int) - 16] else (b.drop 4).take 8++ [0,b.getD 0 0,((b.length:Int) - 16) / 256,(b.length:Int) - 16])++b.drop 16
def bldH (x:Pk) (n:Int):List Int:=
 zbq (zbq (zbq ((((List.replicate 16 (0:Int)).set 0 x.k).set 1 x.li).set 12 x.pi) 2 2 n) 4 4 x.fr) 8 4 x.t
def bldS (x:Pk) (n:Int):List Int:=zbq (bldH x n) 14 2 (65535 - zbY (bldH x n))
def bldB (x:Pk):List Int:=
 if x.k=3 then bldS x (20+(x.da.length:Nat))++ [x.co,0,0,0]++x.da
 else if x.k=2 then zbq (zbq (zbq (bldS x (24+(x.da.length:Nat))++List.replicate 8 0) 20 2 x.la) 16 2 x.fp) 18 2 x.tp++x.da
 else zbq (zbq (((bldS x (24+(x.da.length:Nat)+(x.op.length:Nat))++List.replicate 8 0++x.op).set 20 x.fl).set 21 (x.op.length:Nat)) 16 2 x.fp) 18 2 x.tp++x.da
def bldX (x:Pk):Int:=
 if x.k=2 then (if x.ba then 0 else if 65535 - zbY (zbW (bldB x))=0 then 65535 else 65535 - zbY (zbW (bldB x))) else 65535 - zbY (zbW (bldB x))
def bld (x:Pk):List Int:=zbq (bldB x) (zak x.k).toNat 2 (bldX x)
structure BOk (x:Pk):Prop where
  k:1≤x.k∧x.k≤3
  li:0≤x.li∧x.li≤255
  pi:0≤x.pi∧x.pi≤255
  fr:0≤x.fr∧x.fr≤4294967295
  t:0≤x.t∧x.t≤4294967295
  co:x.k=3→0≤x.co∧x.co≤255
  fp:x.k≠3→(0≤x.fp∧x.fp≤65535)∧(0≤x.tp∧x.tp≤65535)
  fl:x.k=1→0≤x.fl∧x.fl≤15
  la:x.k=2→0≤x.la∧x.la≤65535
  op:x.k=1→x.op.length≤40
  da:x.k=3→24≤x.da.length
  n:(x.k=1→24+x.da.length+x.op.length≤1500)∧(x.k=2→24+x.da.length≤1500)∧(x.k=3→20+x.da.length≤1500)
end Go.Rh

namespace Go.Rh
theorem zcf {l m:List Int} {i:Nat} (h:i < l.length):(l++m).getD i 0=l.getD i 0:=by
 rw [List.getD_eq_getElem?_getD,List.getD_eq_getElem?_getD,List.getElem?_append_left h]
theorem zgS {l m:List Int} {a:Nat} : ∀k,(∀i,a≤i→i < a+k→l.getD i 0=m.getD i 0)→qD l a k=qD m a k
 | 0,_=>rfl
 | k+1,h=>by simp only [qD];rw [zgS k (fun i h1 h2=>h i h1 om),h (a+k) om om]
theorem numB_appL {l m:List Int} {a k:Nat} (h:a+k≤l.length):qD (l++m) a k=qD l a k:=zgS k fun i _ h2=>zcf om
theorem getD_rep (n i:Nat):(List.replicate n (0:Int)).getD i 0=0:=by
 rw [List.getD_eq_getElem?_getD,List.getElem?_replicate];split<;>rfl
theorem ziZ (x:Pk) (n:Int):(bldH x n).length=16:=by unfold bldH;simp only [zX,List.length_set,List.length_replicate]
theorem zbl (x:Pk) (n:Int):(bldS x n).length=16:=by unfold bldS;rw [zX,ziZ]
structure HdOk (l:List Int) (x:Pk) (n:Int):Prop where
  b0:l.getD 0 0 % 256=x.k
  b1:l.getD 1 0 % 256=x.li
  b12:l.getD 12 0 % 256=x.pi
  b13:l.getD 13 0 % 256=0
  n2:qD l 2 2=n
  fr:qD l 4 4=x.fr
  t:qD l 8 4=x.t
  w:zgV l % 65535=0
theorem bldH_hd {x:Pk} {n:Int} (hk:1≤x.k∧x.k≤3) (hl:0≤x.li∧x.li≤255) (hp:0≤x.pi∧x.pi≤255) (hf:0≤x.fr∧x.fr≤4294967295) (ht:0≤x.t∧x.t≤4294967295) (hn:0≤n∧n < 65536):
  (bldH x n).getD 0 0 % 256=x.k∧(bldH x n).getD 1 0 % 256=x.li∧(bldH x n).getD 12 0 % 256=x.pi∧(bldH x n).getD 13 0 % 256=0∧qD (bldH x n) 2 2=n∧qD (bldH x n) 4 4=x.fr∧qD (bldH x n) 8 4=x.t∧qD (bldH x n) 14 2=0:=by
 unfold bldH
 have gp:=zbm
 refine ⟨?_, ?_, ?_, ?_, ?_, ?_, ?_, ?_⟩
 ·rw [gp _ _ _ _ _ om,gp _ _ _ _ _ om,gp _ _ _ _ _ om,zat om,zat om,za7 (by simp)];omega
 ·rw [gp _ _ _ _ _ om,gp _ _ _ _ _ om,gp _ _ _ _ _ om,zat om,za7 (by simp)];omega
 ·rw [gp _ _ _ _ _ om,gp _ _ _ _ _ om,gp _ _ _ _ _ om,za7 (by simp)];omega
 ·rw [gp _ _ _ _ _ om,gp _ _ _ _ _ om,gp _ _ _ _ _ om,zat om,zat om,zat om,getD_rep];rfl
 ·rw [zac _ om,zac _ om,zdw (by simp) om]
 ·rw [zac _ om,numB_put4 (by simp only [zX];simp) om]
 ·rw [numB_put4 (by simp only [zX];simp) om]
 ·rw [zac _ om,zac _ om,zac _ om,zft _ om,zft _ om,zft _ om]
  simp only [qD,getD_rep];rfl
theorem bldS_hd {x:Pk} {n:Int} (hk:1≤x.k∧x.k≤3) (hl:0≤x.li∧x.li≤255) (hp:0≤x.pi∧x.pi≤255) (hf:0≤x.fr∧x.fr≤4294967295) (ht:0≤x.t∧x.t≤4294967295) (hn:0≤n∧n < 65536):HdOk (bldS x n) x n:=by
 have h:=bldH_hd hk hl hp hf ht hn
 have hln:=ziZ x n
 have ha:=zhB (bldH x n)
 have h8:=zi4 (l:=bldH x n) om (zgi om) 8 (Nat.le_refl _)
 rw [List.take_of_length_le om] at h8
 have e:zbY (bldH x n)=zhA (bldH x n) 8:=by unfold zbY;rw [hln]
 rw [←e] at h8
 unfold bldS
 have gp:=zbm
 refine ⟨?_, ?_, ?_, ?_, ?_, ?_, ?_, ?_⟩
 ·rw [gp _ _ _ _ _ om];exact h.1
 ·rw [gp _ _ _ _ _ om];exact h.2.1
 ·rw [gp _ _ _ _ _ om];exact h.2.2.1
 ·rw [gp _ _ _ _ _ om];exact h.2.2.2.1
 ·rw [zac _ om];exact h.2.2.2.2.1
 ·rw [zac _ om];exact h.2.2.2.2.2.1
 ·rw [zac _ om];exact h.2.2.2.2.2.2.1
 ·unfold zgV
  rw [zac _ om,zac _ om,zac _ om,zac _ om,zac _ om,zac _ om,zac _ om,zdw om om]
  have h14:=h.2.2.2.2.2.2.2
  simp at h8
  omega
theorem HdOk.same {l m:List Int} {x:Pk} {n:Int} (h:HdOk l x n) (e: ∀i,i < 16→m.getD i 0=l.getD i 0):HdOk m x n:=by
 have c: ∀a k,a+k≤16→qD m a k=qD l a k:=fun a k q=>zgS k fun i _ h2=>e i om
 refine ⟨?_, ?_, ?_, ?_, ?_, ?_, ?_, ?_⟩
 ·rw [e 0 om];exact h.b0
 ·rw [e 1 om];exact h.b1
 ·rw [e 12 om];exact h.b12
 ·rw [e 13 om];exact h.b13
 ·rw [c _ _ om];exact h.n2
 ·rw [c _ _ om];exact h.fr
 ·rw [c _ _ om];exact h.t
 ·unfold zgV
  rw [c _ _ om,c _ _ om,c _ _ om,c _ _ om,c _ _ om,c _ _ om,c _ _ om,c _ _ om]
  exact h.w
theorem bldX_r (x:Pk):0≤bldX x∧bldX x < 65536:=by
 have:=zhB (zbW (bldB x))
 unfold bldX;(repeat' split)<;>omega
theorem bldB_length (x:Pk):(bldB x).length=if x.k=3 then 20+x.da.length else if x.k=2 then 24+x.da.length else 24+x.op.length+x.da.length:=by
 unfold bldB
 split
 ·simp only [List.length_append,zbl,List.length_cons,List.length_nil]
 split
 ·simp only [List.length_append,zX,zbl,List.length_replicate]
 ·simp only [List.length_append,zX,List.length_set,zbl,List.length_replicate]
theorem zgZ (x:Pk):(bld x).length=if x.k=3 then 20+x.da.length else if x.k=2 then 24+x.da.length else 24+x.op.length+x.da.length:=by
 unfold bld;rw [zX,bldB_length]
theorem bld_hd {x:Pk} (B:BOk x):HdOk (bld x) x ((bld x).length:Int):=by
 have hn:=B.n
 rw [zgZ]
 have gp:=zbm
 have hX: ∀i,i < 16→(bld x).getD i 0=(bldB x).getD i 0:=fun i hi=>by
  unfold bld;rw [gp _ _ _ _ _ (by rw [zgQ];split<;>omega)]
 by_cases h3:x.k=3
 ·rw [if_pos h3]
  refine (bldS_hd B.k B.li B.pi B.fr B.t (n:=20+(x.da.length:Nat)) om).same fun i hi=>?_
  rw [hX i hi];unfold bldB;rw [if_pos h3,zcf (by simp [zbl];omega),zcf (by rw [zbl];omega)]
 ·rw [if_neg h3]
  by_cases h2:x.k=2
  ·rw [if_pos h2]
   refine (bldS_hd B.k B.li B.pi B.fr B.t (n:=24+(x.da.length:Nat)) om).same fun i hi=>?_
   rw [hX i hi];unfold bldB
   rw [if_neg h3,if_pos h2,zcf (by simp only [zX,List.length_append,zbl];omega),gp _ _ _ _ _ om,gp _ _ _ _ _ om,gp _ _ _ _ _ om,zcf (by rw [zbl];omega)]
  ·rw [if_neg h2]
   have h1:x.k=1:=by have:=B.k;omega
   have:=hn.1 h1
   rw [show ((24+x.op.length+x.da.length:Nat):Int)=24+(x.da.length:Nat)+(x.op.length:Nat) by omega]
   refine (bldS_hd B.k B.li B.pi B.fr B.t (n:=24+(x.da.length:Nat)+(x.op.length:Nat)) om).same fun i hi=>?_
   rw [hX i hi];unfold bldB
   rw [if_neg h3,if_neg h2,zcf (by simp only [zX,List.length_set,List.length_append,zbl];omega),gp _ _ _ _ _ om,gp _ _ _ _ _ om,zat om,zat om,zcf (by simp only [List.length_append,zbl];omega),zcf (by rw [zbl];omega)]
theorem parse_bld1 {x:Pk} (B:BOk x) (h1:x.k=1) (hla:x.la=0) (hba:x.ba=false) (hco:x.co=0):qX (bld x)=(0,x):=by
 have H:=bld_hd B
 have hl:=zgZ x
 rw [if_neg om,if_neg om] at hl
 have hn:=B.n.1 h1;have hop:=B.op h1;have hf:=B.fp om;have hfl:=B.fl h1
 have hX:=bldX_r x
 have hp:(zak x.k).toNat=22:=by rw [zgQ,if_neg om]
 obtain ⟨Z,hZ⟩: ∃Z,bldS x (24+(x.da.length:Nat)+(x.op.length:Nat))++List.replicate 8 0=Z:=⟨_,rfl⟩
 have hZl:Z.length=24:=by rw [←hZ];simp [zbl]
 have hY:bldB x=zbq (zbq ((Z.set 20 x.fl).set 21 (x.op.length:Nat)) 16 2 x.fp) 18 2 x.tp++x.op++x.da:=by
  unfold bldB;rw [if_neg om,if_neg om,hZ,List.set_append_left _ _ om,List.set_append_left _ _ (by simp;omega),zgg _ _ _ _ _ (by simp;omega),zgg _ _ _ _ _ (by simp only [zX];simp;omega)]
 have hb:bld x=zbq (zbq (zbq ((Z.set 20 x.fl).set 21 (x.op.length:Nat)) 16 2 x.fp) 18 2 x.tp) 22 2 (bldX x)++(x.op++x.da):=by
  unfold bld;rw [hp,hY,List.append_assoc,zgg _ _ _ _ _ (by simp only [zX,List.length_set];omega)]
 have gp:=zbm
 have e20:(bld x).getD 20 0=x.fl:=by
  rw [hb,zcf (by simp only [zX,List.length_set];omega),gp _ _ _ _ _ om,gp _ _ _ _ _ om,gp _ _ _ _ _ om,zat om,za7 om]
 have e21:(bld x).getD 21 0=(x.op.length:Nat):=by
  rw [hb,zcf (by simp only [zX,List.length_set];omega),gp _ _ _ _ _ om,gp _ _ _ _ _ om,gp _ _ _ _ _ om,za7 (by simp;omega)]
 have P:PkB (bld x):=⟨om,by rw [H.b0];omega,by rw [H.n2],H.b13,H.w,fun q=>by rw [H.b0] at q;omega,fun q=>⟨by rw [e20];omega,by rw [e21];omega,by rw [e21];omega⟩⟩
 rw [P.parse]
 unfold ze3
 rw [if_neg (by rw [H.b0];omega),if_neg (by rw [H.b0];omega),H.b0,H.b1,H.b12,H.fr,H.t]
 have e16:qD (bld x) 16 2=x.fp:=by
  rw [hb,numB_appL (by simp only [zX,List.length_set];omega),zac _ om,zac _ om,zdw (by simp only [zX,List.length_set];omega) om]
 have e18:qD (bld x) 18 2=x.tp:=by
  rw [hb,numB_appL (by simp only [zX,List.length_set];omega),zac _ om,zdw (by simp only [zX,List.length_set];omega) om]
 have en:((bld x).getD 21 0 % 256).toNat=x.op.length:=by rw [e21];omega
 have hd:(bld x).drop 24=x.op++x.da:=by rw [hb,List.drop_left' (by simp only [zX,List.length_set];omega)]
 have ed1:((bld x).drop 24).take x.op.length=x.op:=by rw [hd,List.take_left' rfl]
 have ed2:(bld x).drop (24+x.op.length)=x.da:=by rw [←List.drop_drop,hd,List.drop_left' rfl]
 rw [en,e16,e18,ed1,ed2,e20,Int.emod_eq_of_lt om om]
 obtain ⟨k,li,pi,fr,t,fp,tp,fl,la,ba,co,op,da⟩:=x
 subst hla hba hco;rfl
end Go.Rh

namespace Go.Rh
theorem cook_parts {E X T t:Int} (hE:0≤E∧E < 4) (hX:0≤X∧X < 64) (hT:T=256∨T=4096) (ht:0≤t∧t < T):
  let c:=(E*64+X)*T+t
  ¬(c < 0∨256*T≤c)∧c / (64*T)=E∧c / T % 64=X∧c % T=t:=by
 intro c
 rcases hT with rfl | rfl<;>(simp only [c];omega)
theorem read_by {r r':Rg} {k:Int} {f:Fl} {s:Int} (hs:0≤s∧s < 64) (hk:keyS r' (r.e % 4)=some (r.ca,r.cb)):ze1 r' k f (zad r k f s)=some s:=by
 have hX:=xoN_r hs (zeO r.ca r.cb k f (r.e % 4))
 have ht:=tagS_r r.ca r.cb k f s (r.e % 4)
 obtain ⟨h1,h2,h3,h4⟩:=cook_parts (E:=r.e % 4) om hX (TB_r k) ht
 unfold ze1 zad
 rw [if_neg h1,h2,hk,Option.bind_some]
 unfold readT
 rw [h2,h3,h4]
 simp only [xoN_2 hs.1,if_true]
theorem read_cook {r:Rg} {k:Int} {f:Fl} {s:Int} (hs:0≤s∧s < 64):ze1 r k f (zad r k f s)=some s:=
 read_by hs (by unfold keyS atS;rw [if_neg om,if_pos om])
theorem take_known {p:qZ} {nr:zdU} {l:List Int} {x:Pk} (hp:qX l=(0,x)) (hpi:x.pi=0) (hli:2≤x.li):zaK p nr l=go9S p nr x (ageL l x.ba):=by
 unfold zaK;rw [hp,if_neg (by simp),if_neg (by simpa using hpi),if_neg (by show¬x.li < 2;omega)]
theorem take_in {p:qZ} {nr:zdU} {l:List Int} {x:Pk} (hp:qX l=(0,x)) (hpi:x.pi=0) (hli:2≤x.li) (hk:x.k≠3) (ht:x.t=p 1∧x.tp=p 2):
  zaK p nr l=(if (inP p x).1 < 0 then zeB 9 else ⟨0,(inP p x).1,(inP p x).2,inL p nr x (ageL l x.ba) (inP p x).1.toNat⟩,nr):=by
 rw [take_known hp hpi hli];unfold go9S;rw [if_neg hk,if_pos ht]
theorem inP_some {p:qZ} {x:Pk} {s:Int} (h:zgY p x (inF p x)=some s) (ht: [1,2,3].contains (p (3+5*s.toNat))=true):inP p x=(s,true):=by
 unfold inP;rw [h];simp only;rw [if_pos ht]
theorem inP_none {p:qZ} {x:Pk} (h:zgY p x (inF p x)=none):inP p x=(zbp (zZ p) (inF p x),false):=by
 unfold inP;rw [h]
end Go.Rh

set_option maxHeartbeats 1000000
namespace Go.Rh
theorem bld_pack {x:Pk} {qo qd:Option (Nat×Nat)} {ko kd kp o c kb nb:Nat} :zgo (zaE [(9,Value.int .i64 0),(1,.bool false),(1,.int .i64 0),(2,.slice none 0 0),(1,.pointer none),(1,.slice none 0 0)]) [(0,13,pkV x qo ko qd kd),(13,1,pv kp 0),(14,1,zS (some (o,c)) kb nb)]=some (qR x qo ko qd kd kp (some (o,c)) kb nb):=by kernel_rfl
theorem ParseC3 {P:Program} {q:Option (Nat×Nat)} {L l:List Int} {e:Int} {x:Pk} (hp:qX l=(e,x)) (h:Env P "roundhouse/wire.Parse" [zS q 0 l.length] [zG q (u8 L) false] (fun v h'=>v=zeb l 1 2∧h'=zG q (u8 L) false::zea (qX l).2)):
  Env P "roundhouse/wire.Parse" [zS q 0 l.length] [zG q (u8 L) false] (fun v h'=>v= .tuple #[pkV x (zD x.op) 1 (zD x.da) 2,iv e]∧h'= [zG q (u8 L) false,zG (zD x.op) (u8 x.op) true,zG (zD x.da) (u8 x.da) true]):=by
 simpa only [zeb,zea,hp] using h
theorem take_e {p:qZ} {nr:zdU} {b:List Int} {e:Int} {x:Pk} (hp:qX b=(e,x)) (h: ¬e=0):zaK p nr b=(zeB e,nr):=by unfold zaK;rw [hp];exact if_pos h
theorem take_pi {p:qZ} {nr:zdU} {b:List Int} {x:Pk} (hp:qX b=(0,x)) (h: ¬x.pi=0):zaK p nr b=(zeB 6,nr):=by unfold zaK;rw [hp,if_neg (by simp)];exact if_pos h
theorem take_li {p:qZ} {nr:zdU} {b:List Int} {x:Pk} (hp:qX b=(0,x)) (h:x.pi=0) (h2:x.li < 2):zaK p nr b=(zeB 7,nr):=by unfold zaK;rw [hp,if_neg (by simp),if_neg (by simpa using h)];exact if_pos h2
theorem take_go {p:qZ} {nr:zdU} {b m:List Int} {x:Pk} (hp:qX b=(0,x)) (h:x.pi=0) (h2: ¬x.li < 2) (hm:ageL b x.ba=m):zaK p nr b=go9S p nr x m:=by subst hm;unfold zaK;rw [hp,if_neg (by simp),if_neg (by simpa using h)];exact if_neg h2
theorem go_f3 {p:qZ} {nr:zdU} {x:Pk} {m:List Int} {k:Nat} (h:x.k=3) (h2:x.t=p 1) (h3: ¬fauE p x) (h4:zbp (zZ p) (fauF p x)=(k:Int)):go9S p nr x m=(⟨0,(k:Int),false,fauL p m k⟩,nr):=by unfold go9S;rw [if_pos h,if_neg (fun q=>q h2),if_neg h3,h4,if_neg om];rfl
theorem go_i1 {p:qZ} {nr:zdU} {x:Pk} {m:List Int} (h: ¬x.k=3) (h2:x.t=p 1∧x.tp=p 2) (h4:(inP p x).1 < 0):go9S p nr x m=(zeB 9,nr):=by unfold go9S;rw [if_neg h,if_pos h2,if_pos h4]
theorem go_i2 {p:qZ} {nr:zdU} {x:Pk} {m:List Int} {k:Nat} (h: ¬x.k=3) (h2:x.t=p 1∧x.tp=p 2) (h4:(inP p x).1=(k:Int)):go9S p nr x m=(⟨0,(k:Int),(inP p x).2,inL p nr x m k⟩,nr):=by unfold go9S;rw [if_neg h,if_pos h2,h4,if_neg om];rfl
theorem go_n {p:qZ} {nr:zdU} {x:Pk} {m:List Int} (h: ¬x.k=3) (h2: ¬(x.t=p 1∧x.tp=p 2)) (h4:(zbR (zep p x.fr x.fp) 0 64).2=false):go9S p nr x m=(zeB 8,nr):=by unfold go9S;rw [if_neg h,if_neg h2,if_neg (by rw [h4];simp)]
theorem go_o {p:qZ} {nr:zdU} {x:Pk} {m:List Int} {s:Nat} (h: ¬x.k=3) (h2: ¬(x.t=p 1∧x.tp=p 2)) (h4:(zbR (zep p x.fr x.fp) 0 64).2=true) (hs:(zbR (zep p x.fr x.fp) 0 64).1=(s:Int)):go9S p nr x m=(⟨0,-1,false,outL p x m (s:Nat)⟩,outN nr x s):=by unfold go9S;rw [if_neg h,if_neg h2,if_pos h4,hs];rfl
theorem outL_length {p:qZ} {x:Pk} {m:List Int} {s:Int} :(outL p x m s).length=m.length:=by
 have hn: ∀(l:List Int) ba so a b,(natL l ba so a b).length=l.length:=fun l ba so a b=>by unfold natL;simp only;rw [zaf,qY,qY,zX,zX,zX]
 have hw: ∀(l:List Int) ba a n v,(zco l ba a n v).length=l.length:=fun l ba a n v=>by unfold zco;rw [zaf,qY,zX]
 unfold outL;split
 ·rw [hw,hn]
 ·split
  ·rw [hn]
  ·rw [hw,hn]
theorem inL_length {p:qZ} {nr:zdU} {x:Pk} {m:List Int} {s:Nat} :(inL p nr x m s).length=m.length:=by
 have hn: ∀(l:List Int) ba so a b,(natL l ba so a b).length=l.length:=fun l ba so a b=>by unfold natL;simp only;rw [zaf,qY,qY,zX,zX,zX]
 have hw: ∀(l:List Int) ba a n v,(zco l ba a n v).length=l.length:=fun l ba a n v=>by unfold zco;rw [zaf,qY,zX]
 unfold inL;split
 ·rw [hn]
 ·split
  ·rw [hw,hn]
  ·rw [hn]
theorem oc_some {e s:Int} {c:Bool} {m:List Int} {n k:Nat} (h:m.length=n) (h0:0 < n):ocV ⟨e,s,c,m⟩ k= .agg #[iv e,iv s,bv c,zS (some (0,n)) k n]:=by
 subst h;simp only [ocV,ocL];rw [zdp h0]
theorem ob_some {m:List Int} {n:Nat} (h:m.length=n) (h0:0 < n):zG (zD m) (u8 m) true=zG (some (0,n)) (u8 m) true:=by
 subst h;rw [zdp h0]
theorem pk_op {l:List Int} (h:24≤l.length):(ze3 l).op.length+24≤l.length:=by
 unfold ze3;split
 ·simpa using h
 split
 ·simpa using h
 ·simp only [List.length_take,List.length_drop];omega
theorem FindC2 {P:Program} {p:qZ} {a b:Int} {s:Nat} (hs:(zbR (zep p a b) 0 64).1=(s:Int)) (h:Env P "roundhouse/pool.Find" [zaw p,.int .i64 a,.int .i64 b] [] (Ans (.tuple #[.int .i64 (zbR (zep p a b) 0 64).1,.bool (zbR (zep p a b) 0 64).2]) [])):Env P "roundhouse/pool.Find" [zaw p,.int .i64 a,.int .i64 b] [] (Ans (.tuple #[iv (s:Int),bv (zbR (zep p a b) 0 64).2]) []):=by
 rwa [hs] at h
end Go.Rh

namespace Go.Rh
end Go.Rh

set_option maxHeartbeats 1000000
namespace Go.Rh
theorem r5fourC {P:Program} [PrC P] (e:Int):
    Env P "roundhouse/roundhouseref5.four" [iv e] ([]) (Ans (iv (e % 4)) ([])):=by
 refine Env.by PrC.ref5_four ?_
 unfold ziM
 show GC _ 0 _ _ ⟨reg [(0,iv e)],[]⟩
 refine zJ (zN (o_d 1 [(2,iv 0)] (zE (zA (zJ (zN (o_d 1 [(3,iv e)] (o_s (by refine zK (congrArg wg (zcr (k:= .i64) 2 (M:=3) (R:=4) (x:=e) dC rfl rfl)) ?_;kernel_rfl) ?_))))))))
 refine o_d 1 [(2,iv (e % 4))] (zE (zA (qW ?_)))
 have E0_:e % 4=e % 4:=by
  rfl
 exact z7 [iv (e % 4)] (zT rfl rfl) rfl (by rw [E0_];rfl) rfl rfl
theorem r5b12C {P:Program} [PrC P] (k:Int) (h:k=1):
    Env P "roundhouse/roundhouseref5.bits" [iv k] ([]) (Ans (uv 12) ([])):=by
 refine Env.by PrC.ref5_bits ?_
 unfold zfX
 show GC _ 0 _ _ ⟨reg [(0,iv k)],[]⟩
 refine zJ (zN (o_d 1 [(2,uv 0)] (zE (zA (zJ (zJ (zN (o_d 2 [(4,bv (k==1)),(3,iv k)] (zE (zA (qJ (t:=k==1) rfl (fun _=>?_) (fun q=>by rw [(by simp [h]:(k==1)=true)] at q;cases q))))))))))))
 exact zJ (zN (o_d 1 [(2,uv 12)] (zE (zA (qW (z7 [uv 12] (zT rfl rfl) rfl (by rfl) rfl rfl))))))
theorem r5b8C {P:Program} [PrC P] (k:Int) (h: ¬k=1):
    Env P "roundhouse/roundhouseref5.bits" [iv k] ([]) (Ans (uv 8) ([])):=by
 refine Env.by PrC.ref5_bits ?_
 unfold zfX
 show GC _ 0 _ _ ⟨reg [(0,iv k)],[]⟩
 refine zJ (zN (o_d 1 [(2,uv 0)] (zE (zA (zJ (zJ (zN (o_d 2 [(4,bv (k==1)),(3,iv k)] (zE (zA (qJ (t:=k==1) rfl (fun q=>by rw [(by simp [h]:(k==1)=false)] at q;cases q) (fun _=>?_))))))))))))
 exact qK (zA (zJ (zN (o_d 1 [(2,uv 8)] (zE (zA (qW (z7 [uv 8] (zT rfl rfl) rfl (by rfl) rfl rfl))))))))
theorem r5wordC {P:Program} [PrC P] (ka kb k:Int) (f:Fl) (a b:Int):
    Env P "roundhouse/roundhouseref5.word" [.agg #[uv ka,uv kb],iv k,.agg (wK f),iv a,iv b] ([]) (Ans (uv (zaJ ka kb k f a b)) ([])):=by
 refine Env.by PrC.ref5_word ?_
 unfold ziL
 show GC _ 0 _ _ ⟨reg [(0,.agg #[uv ka,uv kb]),(1,iv k),(2,.agg (wK f)),(3,iv a),(4,iv b)],[]⟩
 refine zJ (zN (o_b 3 [(10,uv 0),(7,pv 1 0),(5,pv 0 0)] [cw [uv ka,uv kb],cw (w5 f)] (zE (zA (zJ (zN (o_b 13 [(23,sv 2 0 7 7),(22,iv b),(21,iv a),(20,iv f.tp),(19,pv 1 3),(18,iv f.ta),(17,pv 1 2),(16,iv f.p),(15,pv 1 1),(14,iv f.a),(13,pv 1 0),(12,iv k),(11,.agg #[uv ka,uv kb])] [cw [uv ka,uv kb],cw (w5 f),cw [iv k,iv f.a,iv f.p,iv f.ta,iv f.tp,iv a,iv b]] (qV (zdD (a1:= [.agg #[uv ka,uv kb],sv 0 0 7 7]) [2] [ii [k,f.a,f.p,f.ta,f.tp,a,b]] (zgf ka kb [k,f.a,f.p,f.ta,f.tp,a,b] (by first | omega | decide | (simp;done))) rfl (fun _=>zQ (qN rfl) (zQ rfl rfl)) ⟨⟨_,rfl⟩,qS _,trivial⟩ rfl ?_)))))))))
 refine o_d 1 [(10,uv (zan ka kb [k,f.a,f.p,f.ta,f.tp,a,b]))] (zE (zU [(10,uv (zan ka kb [k,f.a,f.p,f.ta,f.tp,a,b]))] (qW ?_)))
 have E0_:zaJ ka kb k f a b=zan ka kb [k,f.a,f.p,f.ta,f.tp,a,b]:=by
  rfl
 exact z7 [uv (zan ka kb [k,f.a,f.p,f.ta,f.tp,a,b])] (zT rfl rfl) rfl (by rw [E0_];rfl) rfl rfl
theorem r5cookC {P:Program} [PrC P] (ka kb k:Int) (f:Fl) (s e:Int) (hk:k=1∨k=2) (hs:0≤s∧s < 64) (he:0≤e∧e < 4):
    Env P "roundhouse/roundhouseref5.cook" [.agg #[uv ka,uv kb],iv k,.agg (wK f),iv s,iv e] ([]) (Ans (iv ((e*64+xoN s (zaL ka kb k f e))*TB k+zeo ka kb k f s e)) ([])):=by
 refine Env.by PrC.ref5_cook ?_
 unfold ziN
 show GC _ 0 _ _ ⟨reg [(0,.agg #[uv ka,uv kb]),(1,iv k),(2,.agg (wK f)),(3,iv s),(4,iv e)],[]⟩
 have hx9:0≤xoN s (zaJ ka kb k f 64 e % 64)∧xoN s (zaJ ka kb k f 64 e % 64) < 64:=xoN_r hs (zeO ka kb k f e)
 refine zJ (zN (o_b 3 [(10,iv 0),(7,pv 1 0),(5,pv 0 0)] [cw [uv ka,uv kb],cw (w5 f)] (zE (zA (zJ (zN (o_d 1 [(13,iv k)] ?_)))))))
 rcases Decidable.em (k=1) with t1 | t1
 ·skip
  have t1b:TB k=4096:=if_neg om
  refine qV (zab (r5b12C k t1) rfl rfl rfl (o_d 1 [(11,uv 12)] (zE (zA (zJ (zN (o_d 5 [(19,iv e),(18,.agg (wK f)),(17,iv k),(16,.agg #[uv ka,uv kb]),(15,iv s)] (qV (zab (r5wordC ka kb k f 64 e) rfl rfl rfl (o_s (by refine zK (congrArg Yb (zcr (k:= .u64) 6 (M:=63) (R:=64) (x:=zaJ ka kb k f 64 e) dC rfl rfl)) ?_;kernel_rfl) ?_))))))))))
  refine o_s (by refine zK (v:= .int .i64 (i64.wrap ((zaJ ka kb k f 64 e) % 64))) (congrArg wg (w64 om om)) ?_;kernel_rfl) ?_
  refine o_s (by refine zK (congrArg wg (zhU (a:=s) (b:=(zaJ ka kb k f 64 e) % 64) om om)) ?_;kernel_rfl) ?_
  refine o_d 1 [(12,iv (xoN s ((zaJ ka kb k f 64 e) % 64)))] (zE (zA (zJ (zN (o_d 3 [(26,uv 18),(25,uv 12),(24,iv e)] (o_s (by refine zK (v:= .int .i64 (i64.wrap (e*262144))) (congrArg wg (w64 om om)) ?_;kernel_rfl) ?_))))))
  refine o_d 2 [(29,uv 12),(28,iv (xoN s ((zaJ ka kb k f 64 e) % 64)))] (o_s (by refine zK (v:= .int .i64 (i64.wrap ((xoN s ((zaJ ka kb k f 64 e) % 64))*4096))) (congrArg wg (w64 om om)) ?_;kernel_rfl) ?_)
  refine o_s (by refine zK (congrArg wg (zee (k:= .i64) 18 (R:=262144) (x:=e*262144) (y:=(xoN s ((zaJ ka kb k f 64 e) % 64))*4096) rfl om om (by rw [show (2:Int)^IntKind.i64.bits=18446744073709551616 from rfl];omega) (w64 om om))) ?_;kernel_rfl) ?_
  refine o_d 5 [(36,iv e),(35,iv s),(34,.agg (wK f)),(33,iv k),(32,.agg #[uv ka,uv kb])] (qV (zab (r5wordC ka kb k f s e) rfl rfl rfl (o_d 3 [(40,uv 4095),(39,uv 4096),(38,uv 12)] (o_s (by refine zK (congrArg Yb (zcr (k:= .u64) 12 (M:=4095) (R:=4096) (x:=zaJ ka kb k f s e) dC rfl rfl)) ?_;kernel_rfl) ?_))))
  refine o_s (by refine zK (v:= .int .i64 (i64.wrap ((zaJ ka kb k f s e) % 4096))) (congrArg wg (w64 om om)) ?_;kernel_rfl) ?_
  refine o_s (by refine zK (congrArg wg (zee (k:= .i64) 12 (R:=4096) (x:=e*262144+(xoN s ((zaJ ka kb k f 64 e) % 64))*4096) (y:=(zaJ ka kb k f s e) % 4096) rfl om om (by rw [show (2:Int)^IntKind.i64.bits=18446744073709551616 from rfl];omega) (w64 om om))) ?_;kernel_rfl) ?_
  refine o_d 1 [(10,iv (e*262144+(xoN s ((zaJ ka kb k f 64 e) % 64))*4096+(zaJ ka kb k f s e) % 4096))] (zE (zU [(10,iv (e*262144+(xoN s ((zaJ ka kb k f 64 e) % 64))*4096+(zaJ ka kb k f s e) % 4096))] (qW ?_)))
  have E0_:(e*64+xoN s (zaL ka kb k f e))*TB k+zeo ka kb k f s e=e*262144+(xoN s ((zaJ ka kb k f 64 e) % 64))*4096+(zaJ ka kb k f s e) % 4096:=by
   unfold zeo zaL;rw [t1b];omega
  exact z7 [iv (e*262144+(xoN s ((zaJ ka kb k f 64 e) % 64))*4096+(zaJ ka kb k f s e) % 4096)] (zT rfl rfl) rfl (by rw [E0_];rfl) rfl rfl
 ·skip
  have t1b:TB k=256:=if_pos om
  refine qV (zab (r5b8C k t1) rfl rfl rfl (o_d 1 [(11,uv 8)] (zE (zA (zJ (zN (o_d 5 [(19,iv e),(18,.agg (wK f)),(17,iv k),(16,.agg #[uv ka,uv kb]),(15,iv s)] (qV (zab (r5wordC ka kb k f 64 e) rfl rfl rfl (o_s (by refine zK (congrArg Yb (zcr (k:= .u64) 6 (M:=63) (R:=64) (x:=zaJ ka kb k f 64 e) dC rfl rfl)) ?_;kernel_rfl) ?_))))))))))
  refine o_s (by refine zK (v:= .int .i64 (i64.wrap ((zaJ ka kb k f 64 e) % 64))) (congrArg wg (w64 om om)) ?_;kernel_rfl) ?_
  refine o_s (by refine zK (congrArg wg (zhU (a:=s) (b:=(zaJ ka kb k f 64 e) % 64) om om)) ?_;kernel_rfl) ?_
  refine o_d 1 [(12,iv (xoN s ((zaJ ka kb k f 64 e) % 64)))] (zE (zA (zJ (zN (o_d 3 [(26,uv 14),(25,uv 8),(24,iv e)] (o_s (by refine zK (v:= .int .i64 (i64.wrap (e*16384))) (congrArg wg (w64 om om)) ?_;kernel_rfl) ?_))))))
  refine o_d 2 [(29,uv 8),(28,iv (xoN s ((zaJ ka kb k f 64 e) % 64)))] (o_s (by refine zK (v:= .int .i64 (i64.wrap ((xoN s ((zaJ ka kb k f 64 e) % 64))*256))) (congrArg wg (w64 om om)) ?_;kernel_rfl) ?_)
  refine o_s (by refine zK (congrArg wg (zee (k:= .i64) 14 (R:=16384) (x:=e*16384) (y:=(xoN s ((zaJ ka kb k f 64 e) % 64))*256) rfl om om (by rw [show (2:Int)^IntKind.i64.bits=18446744073709551616 from rfl];omega) (w64 om om))) ?_;kernel_rfl) ?_
  refine o_d 5 [(36,iv e),(35,iv s),(34,.agg (wK f)),(33,iv k),(32,.agg #[uv ka,uv kb])] (qV (zab (r5wordC ka kb k f s e) rfl rfl rfl (o_d 3 [(40,uv 255),(39,uv 256),(38,uv 8)] (o_s (by refine zK (congrArg Yb (zcr (k:= .u64) 8 (M:=255) (R:=256) (x:=zaJ ka kb k f s e) dC rfl rfl)) ?_;kernel_rfl) ?_))))
  refine o_s (by refine zK (v:= .int .i64 (i64.wrap ((zaJ ka kb k f s e) % 256))) (congrArg wg (w64 om om)) ?_;kernel_rfl) ?_
  refine o_s (by refine zK (congrArg wg (zee (k:= .i64) 8 (R:=256) (x:=e*16384+(xoN s ((zaJ ka kb k f 64 e) % 64))*256) (y:=(zaJ ka kb k f s e) % 256) rfl om om (by rw [show (2:Int)^IntKind.i64.bits=18446744073709551616 from rfl];omega) (w64 om om))) ?_;kernel_rfl) ?_
  refine o_d 1 [(10,iv (e*16384+(xoN s ((zaJ ka kb k f 64 e) % 64))*256+(zaJ ka kb k f s e) % 256))] (zE (zU [(10,iv (e*16384+(xoN s ((zaJ ka kb k f 64 e) % 64))*256+(zaJ ka kb k f s e) % 256))] (qW ?_)))
  have E0_:(e*64+xoN s (zaL ka kb k f e))*TB k+zeo ka kb k f s e=e*16384+(xoN s ((zaJ ka kb k f 64 e) % 64))*256+(zaJ ka kb k f s e) % 256:=by
   unfold zeo zaL;rw [t1b];omega
  exact z7 [iv (e*16384+(xoN s ((zaJ ka kb k f 64 e) % 64))*256+(zaJ ka kb k f s e) % 256)] (zT rfl rfl) rfl (by rw [E0_];rfl) rfl rfl
theorem r5MakeC {P:Program} [PrC P] (r:Rg) (k:Int) (f:Fl) (s:Int) (hk:k=1∨k=2) (hs:0≤s∧s < 64):
    Env P "roundhouse/roundhouseref5.Make" [.agg (yJ r),iv k,.agg (wK f),iv s] ([]) (Ans (iv (zad r k f s)) ([])):=by
 refine Env.by PrC.ref5_Make ?_
 unfold ziQ
 show GC _ 0 _ _ ⟨reg [(0,.agg (yJ r)),(1,iv k),(2,.agg (wK f)),(3,iv s)],[]⟩
 refine zJ (zN (o_b 3 [(8,iv 0),(6,pv 1 0),(4,pv 0 0)] [cw (v8 r),cw (w5 f)] (zE (zA (zJ (zbe [] (r_d 7 [(15,iv r.e),(14,pv 0 0),(13,iv s),(12,.agg (wK f)),(11,iv k),(10,.agg #[uv r.ca,uv r.cb]),(9,pv 0 3)] (zeJ (zba (r5fourC r.e) rfl rfl rfl (zeJ (zba (r5cookC r.ca r.cb k f s (r.e % 4) hk hs om) rfl rfl rfl ?_)))))))))))
 refine r_d 1 [(8,iv ((r.e % 4*64+xoN s (zaL r.ca r.cb k f (r.e % 4)))*TB k+zeo r.ca r.cb k f s (r.e % 4)))] (za3 (zA (qW ?_)))
 have E0_:zad r k f s=(r.e % 4*64+xoN s (zaL r.ca r.cb k f (r.e % 4)))*TB k+zeo r.ca r.cb k f s (r.e % 4):=by
  rfl
 exact z7 [iv ((r.e % 4*64+xoN s (zaL r.ca r.cb k f (r.e % 4)))*TB k+zeo r.ca r.cb k f s (r.e % 4))] (zT rfl rfl) rfl (by rw [E0_];rfl) rfl rfl
theorem within9C {P:Program} [PrC P] (x n:Int) (hn:n≠0):
    Env P "roundhouse/roundhouselaw9.within" [iv x,iv n] ([]) (Ans (.int .i64 (zC x n)) ([])):=by
 refine Env.by PrC.law9_within ?_
 unfold zgt
 show GC _ 0 _ _ ⟨reg [(0,iv x),(1,iv n)],[]⟩
 refine zJ (zN (o_d 1 [(4,iv 0)] (zE (zA (zJ (zN (o_d 2 [(7,iv n),(6,iv x)] (o_s (by exact run_rem rfl rfl om) ?_))))))))
 refine o_d 1 [(5,iv (x.tmod n))] (zE (zA (zJ (zJ (zN (o_d 2 [(10,bv (decide (x.tmod n < 0))),(9,iv (x.tmod n))] (zE (zA (qJ (t:=decide (x.tmod n < 0)) rfl (fun h1=>?_) (fun h1=>?_))))))))))
 ·skip
  have h1':x.tmod n < 0:=of_decide_eq_true h1
  refine zN (o_d 4 [(5,iv (i64.wrap (x.tmod n+n))),(13,iv (i64.wrap (x.tmod n+n))),(12,iv n),(11,iv (x.tmod n))] (zE (zA (zJ (zN (o_d 2 [(4,iv (i64.wrap (x.tmod n+n))),(14,iv (i64.wrap (x.tmod n+n)))] (zE (zA (qW ?_)))))))))
  have E0_:zC x n=(i64.wrap (x.tmod n+n)):=by
   unfold zC;simp only [h1',if_true,if_false]
  exact z7 [iv (i64.wrap (x.tmod n+n))] (zT rfl rfl) rfl (by rw [E0_];rfl) rfl rfl
 have h1': ¬(x.tmod n < 0):=of_decide_eq_false h1
 refine qK (zA (zJ (zN (o_d 2 [(4,iv (x.tmod n)),(14,iv (x.tmod n))] (zE (zA (qW ?_)))))))
 have E0_:zC x n=(x.tmod n):=by
  unfold zC;simp only [h1',if_true,if_false]
 exact z7 [iv (x.tmod n)] (zT rfl rfl) rfl (by rw [E0_];rfl) rfl rfl
theorem upC {P:Program} [PrC P] (x:qZ):
    Env P "roundhouse/roundhouselaw9.up" [zaw x] ([]) (fun v h'=> ∃m,v=pv 0 0∧h'= [cw (zR x true nr0 (wx 1 m)),slB zI (ii (zZ x)) (some m)]):=by
 refine Env.by4 PrC.law9_up ?_
 unfold c_law9_up
 show GC _ 0 _ _ ⟨reg [(0,zaw x)],[]⟩
 refine zJ (zN (o_b 2 [(2,.pointer none),(1,pv 0 0)] [cw (pl x)] (zE (zA (zJ (zN (qV (zd1 [] [] [] (PNewC) rfl rfl trivial dC ?_))))))))
 rintro v1 h1' ⟨rfl,rfl⟩
 refine ⟨zap,pv 1 0,[cw (pl x)],[cw (zR qO false nr0 wD)],rfl,⟨rfl,trivial⟩,⟨(Option.some.inj (qH rfl)).symm,trivial⟩, ?_⟩
 refine o_d 1 [(3,pv 1 0)] (zE (zA (zJ (zJ (zN (o_d 2 [(6,bv true),(5,pv 1 0)] (zE (⟨⟨reg [(6,bv true),(3,pv 1 0),(1,pv 0 0)],[cw (pl x),cw (zR qO false nr0 wD),.gone]⟩,Wk.ren [0,1,2] rfl rfl dC ⟨rfl,rfl,rfl,trivial⟩ ⟨.inl (zL (zae x)),.inl (qH rfl),.inr ⟨rfl,rfl⟩,trivial⟩, ?_⟩))))))))
 refine zc8 rfl (zN (o_d 1 [(7,pv 1 0)] (o_s (by refine zV (v:=zaw x) rfl rfl ?_;exact zaS x) ?_)))
 refine qV (zd1 [1,0] [cw (xj 1),cr []] [pv 0 0,zaw x] (PLoadC qO false nr0 none x) rfl (zQ rfl (zQ (qN (zbO x)) rfl)) ⟨⟨_,rfl,zav (.inl (zaX rfl (fun q=>rfl)))⟩,⟨_,rfl,zaI⟩,trivial⟩ dC ?_)
 rintro v1 h1' ⟨rfl,m1,rfl⟩
 refine ⟨(zW zaO (zW qC zap)),.tuple #[],[cw (pl x),cw (zR x true nr0 (wx 3 m1)),.gone],[slB zI (ii (zZ x)) (some m1)],(by simp [zaF]),⟨rfl,zbA rfl,rfl,trivial⟩,⟨(Option.some.inj (zaa (some m1) (fun _=>(zaq _ _)))).symm,trivial⟩, ?_⟩
 exact zE (zA (zJ (zN (o_d 2 [(2,pv 1 0),(10,pv 1 0)] (zE (zA (qW (⟨trivial,[pv 1 0],(zT rfl rfl),(zM rfl z5),⟨reg [],[cw (zR x true nr0 (wx 1 m1)),slB zI (ii (zZ x)) (some m1)]⟩,[1,3],[pv 0 0],WkR.of (rs:= []) rfl rfl dC trivial ⟨.inl (qH rfl),.inl (zaa (some m1) (fun _=>(zaq _ _))),trivial⟩,rfl,m1,rfl,rfl⟩))))))))
end Go.Rh

set_option maxHeartbeats 1000000
namespace Go.Rh
theorem zh8 (b:List Int):(zbW b).length≤b.length+12:=by
 unfold zbW;split<;>simp<;>omega
abbrev Wg (a:List Int):=[0,(a.getD 0 0),(((a.length:Nat) - 16:Int) / 256:Int),((a.length:Nat) - 16:Int)]
theorem summedC {P:Program} [PrC P] (q:Option (Nat×Nat)) (L l:List Int) (hr:RowOf q L l) (h24:24≤l.length) (hl:l.length≤100000):
    Env P "roundhouse/roundhouseref3.summed" (WO q l) ((wA q L)) (fun v h'=> ∃m:Nat,v=sv 1 0 (zbW l).length ((zbW l).length+m)∧h'= [zG q (u8 L) false,cw (u8 (zbW l)++zaj zB m)]):=by
 refine Env.by4 PrC.ref3_summed ?_
 unfold zgr
 show GC _ 1 _ _ ⟨reg (vF 0 q 0 l),(wA q L)⟩
 refine zJ (zN (o_d 1 [(2,.slice none 0 0)] (zE (zA (zJ (zN (o_d 1 (vF 5 q 0 l) (o_s (by exact qM rfl hr.nil) ?_))))))))
 refine o_s (by refine zK (v:= .int .i64 (i64.wrap ((l.length:Nat) - 16))) (congrArg wg (w64 om om)) ?_;kernel_rfl) ?_
 refine o_d 1 [(3,iv ((l.length:Nat) - 16))] (zE (zA (zJ (zN (o_d 1 (vF 8 q 0 l) (o_s (by exact qP (o':=qo q+0) rfl hr.nil rfl om om) ?_))))))
 refine o_s (by refine zV (v:= .int .u8 (l.getD 0 0 % 256)) rfl (zbj (n:=l.length) rfl rfl hr.nil om) ?_;exact zb5 hr om rfl) ?_
 refine o_d 1 [(11,iv ((l.length:Nat) - 16))] (o_s (by refine zK (v:= .int .i64 (((l.length:Nat) - 16:Int).fdiv 256)) (congrArg wg (zb9 dC)) ?_;kernel_rfl) ?_)
 refine o_b 5 [(4,sv 1 0 4 4),(16,sv 1 0 4 4),(15,.int .u8 (((l.length:Nat) - 16:Int) % 256)),(14,iv ((l.length:Nat) - 16)),(13,.int .u8 ((((l.length:Nat) - 16:Int) / 256:Int) % 256))] [zG q (u8 L) false,cw [.int .u8 0,.int .u8 (l.getD 0 0 % 256),.int .u8 ((((l.length:Nat) - 16:Int) / 256:Int) % 256),.int .u8 (((l.length:Nat) - 16:Int) % 256)]] (zE (zA (zJ (zJ (zN (o_d 1 (vF 17 q 0 l) (o_s (by exact qP (o':=qo q+0) rfl hr.nil rfl om om) ?_)))))))
 refine o_s (by refine zV (v:= .int .u8 (l.getD 0 0 % 256)) rfl (zbj (n:=l.length) rfl rfl hr.nil om) ?_;exact zb5 hr om rfl) ?_
 refine o_d 1 [(20,bv ((l.getD 0 0 % 256)!=3))] (zE (zA (qJ (t:=(l.getD 0 0 % 256)!=3) rfl (fun h1=>?_) (fun h1=>?_))))
 ·skip
  have h1':l.getD 0 0 % 256≠3:=ze5 h1
  refine zN (o_b 2 [(22,zS q 0 l.length),(21,sv 2 0 0 (0+0))] [zG q (u8 L) false,cw [.int .u8 0,.int .u8 (l.getD 0 0 % 256),.int .u8 ((((l.length:Nat) - 16:Int) / 256:Int) % 256),.int .u8 (((l.length:Nat) - 16:Int) % 256)],cw (u8 ([]:List Int)++zaj zB 0)] ?_)
  obtain ⟨qz2,lz2,hlz2,hn2z,hq2z,hr2z,hs2z⟩:=zca (k:=0) hr (lo:=(some (iv 4))) (hi:=(some (iv 12))) (mx:=none) 4 12 om (.inr rfl) (.inr rfl) (.inl rfl)
  have hs2y:=hs2z.trans (rfl:q.isSome=q.isSome)
  refine o_s (by exact zaN rfl hq2z) ?_
  obtain ⟨m3,hm3⟩: ∃z9,([]:List Int)++lz2=z9:=⟨_,rfl⟩
  have hm3l:m3.length=0+lz2.length:=by rw [←hm3,List.length_append]<;>exact lA
  refine zef (k:=2) (n:=0) (o:=some 0) (q:=lz2.length) (cs:=u8 ([]:List Int)) (xs:=u8 lz2) (cs2:=u8 m3) (zl:=zB) rfl rfl rfl (fun m q=>by cases q;rfl) (fun q=>by cases q) (by rw [qL]<;>exact lA) rfl (zc2 _ _ _ hr2z.nil) (zcX rfl hs2y hr2z) (by rw [qL]<;>exact lA) om om (by rw [zcG,hm3]) (fun c5 e4=>?_) (fun c5=>?_)
  ·exact absurd (Option.some.inj e4) om
  refine o_d 1 [(25,sv 1 0 4 4)] ?_
  obtain ⟨m6,hm6⟩: ∃z9,m3++((Wg l):List Int)=z9:=⟨_,rfl⟩
  have hm6l:m6.length=0+lz2.length+4:=by rw [←hm6,List.length_append]<;>exact lA
  refine zef (k:=3) (n:=0+lz2.length) (o:=some c5) (q:=4) (cs:=u8 m3) (xs:=u8 ((Wg l):List Int)) (cs2:=u8 m6) (zl:=zB) rfl rfl rfl (fun m q=>by cases q;rfl) (fun q=>by cases q) (by rw [qL]<;>exact lA) rfl rfl (zbF rfl rfl (Nat.le_of_ble_eq_true rfl)) (by rw [qL]<;>exact lA) om om (by rw [zcG,hm6]) (fun c8 e7=>?_) (fun c8=>?_)
  ·skip
   refine o_d 1 [(4,sv 3 0 (0+lz2.length+4) (0+lz2.length+4+c8))] (zE (zU [(4,sv 3 0 (0+lz2.length+4) (0+lz2.length+4+c8)),(0,zS q 0 l.length)] (zJ (zN (o_d 2 [(28,zS q 0 l.length),(27,sv 3 0 (0+lz2.length+4) (0+lz2.length+4+c8))] ?_)))))
   obtain ⟨qz9,lz9,hlz9,hn9z,hq9z,hr9z,hs9z⟩:=zca (k:=0) hr (lo:=(some (iv 16))) (hi:=none) (mx:=none) 16 l.length om (.inr rfl) (.inl ⟨rfl,rfl,rfl⟩) (.inl rfl)
   have hs9y:=hs9z.trans (rfl:q.isSome=q.isSome)
   refine o_s (by exact zaN rfl hq9z) ?_
   obtain ⟨m10,hm10⟩: ∃z9,m6++lz9=z9:=⟨_,rfl⟩
   have hm10l:m10.length=0+lz2.length+4+lz9.length:=by rw [←hm10,List.length_append]<;>exact lA
   refine zef (k:=3) (n:=0+lz2.length+4) (o:=some c8) (q:=lz9.length) (cs:=u8 m6) (xs:=u8 lz9) (cs2:=u8 m10) (zl:=zB) rfl rfl rfl (fun m q=>by cases q;rfl) (fun q=>by cases q) (by rw [qL]<;>exact lA) rfl (zc2 _ _ _ hr9z.nil) (zcX rfl hs9y hr9z) (by rw [qL]<;>exact lA) om om (by rw [zcG,hm10]) (fun c12 e11=>?_) (fun c12=>?_)
   ·skip
    refine o_d 1 [(2,sv 3 0 (0+lz2.length+4+lz9.length) (0+lz2.length+4+lz9.length+c12))] (zE (zA (qW ?_)))
    have he:zbW l=m10:=by
     unfold zbW;rw [if_neg om]
     rw [←hm10,←hm6,←hm3,hlz2,hlz9,List.take_of_length_le (l:=l.drop 16) (by simp)];rfl
    exact ⟨trivial,[sv 3 0 (0+lz2.length+4+lz9.length) (0+lz2.length+4+lz9.length+c12)],(zT rfl rfl),(zM rfl z5),⟨reg [],[zG q (u8 L) false,cw (u8 m10++zaj zB c12)]⟩,[0,3],[sv 1 0 (0+lz2.length+4+lz9.length) (0+lz2.length+4+lz9.length+c12)],WkR.of (rs:= []) rfl rfl dC trivial ⟨.inl (zF (zH _)),.inl (zL (za5 m10 c12)),trivial⟩,rfl,c12,(by rw [he,hm10l];first | rfl | simp only [hm3l,hm6l,hm10l,List.length_nil];rfl),(by rw [he])⟩
   refine o_d 1 [(2,sv 4 0 (0+lz2.length+4+lz9.length) (0+lz2.length+4+lz9.length+c12))] (zE (zA (qW ?_)))
   have he:zbW l=m10:=by
    unfold zbW;rw [if_neg om]
    rw [←hm10,←hm6,←hm3,hlz2,hlz9,List.take_of_length_le (l:=l.drop 16) (by simp)];rfl
   exact ⟨trivial,[sv 4 0 (0+lz2.length+4+lz9.length) (0+lz2.length+4+lz9.length+c12)],(zT rfl rfl),(zM rfl z5),⟨reg [],[zG q (u8 L) false,cw (u8 m10++zaj zB c12)]⟩,[0,4],[sv 1 0 (0+lz2.length+4+lz9.length) (0+lz2.length+4+lz9.length+c12)],WkR.of (rs:= []) rfl rfl dC trivial ⟨.inl (zF (zH _)),.inl (zL (za5 m10 c12)),trivial⟩,rfl,c12,(by rw [he,hm10l];first | rfl | simp only [hm3l,hm6l,hm10l,List.length_nil];rfl),(by rw [he])⟩
  refine o_d 1 [(4,sv 4 0 (0+lz2.length+4) (0+lz2.length+4+c8))] (zE (zU [(4,sv 4 0 (0+lz2.length+4) (0+lz2.length+4+c8)),(0,zS q 0 l.length)] (zJ (zN (o_d 2 [(28,zS q 0 l.length),(27,sv 4 0 (0+lz2.length+4) (0+lz2.length+4+c8))] ?_)))))
  obtain ⟨qz13,lz13,hlz13,hn13z,hq13z,hr13z,hs13z⟩:=zca (k:=0) hr (lo:=(some (iv 16))) (hi:=none) (mx:=none) 16 l.length om (.inr rfl) (.inl ⟨rfl,rfl,rfl⟩) (.inl rfl)
  have hs13y:=hs13z.trans (rfl:q.isSome=q.isSome)
  refine o_s (by exact zaN rfl hq13z) ?_
  obtain ⟨m14,hm14⟩: ∃z9,m6++lz13=z9:=⟨_,rfl⟩
  have hm14l:m14.length=0+lz2.length+4+lz13.length:=by rw [←hm14,List.length_append]<;>exact lA
  refine zef (k:=4) (n:=0+lz2.length+4) (o:=some c8) (q:=lz13.length) (cs:=u8 m6) (xs:=u8 lz13) (cs2:=u8 m14) (zl:=zB) rfl rfl rfl (fun m q=>by cases q;rfl) (fun q=>by cases q) (by rw [qL]<;>exact lA) rfl (zc2 _ _ _ hr13z.nil) (zcX rfl hs13y hr13z) (by rw [qL]<;>exact lA) om om (by rw [zcG,hm14]) (fun c16 e15=>?_) (fun c16=>?_)
  ·skip
   refine o_d 1 [(2,sv 4 0 (0+lz2.length+4+lz13.length) (0+lz2.length+4+lz13.length+c16))] (zE (zA (qW ?_)))
   have he:zbW l=m14:=by
    unfold zbW;rw [if_neg om]
    rw [←hm14,←hm6,←hm3,hlz2,hlz13,List.take_of_length_le (l:=l.drop 16) (by simp)];rfl
   exact ⟨trivial,[sv 4 0 (0+lz2.length+4+lz13.length) (0+lz2.length+4+lz13.length+c16)],(zT rfl rfl),(zM rfl z5),⟨reg [],[zG q (u8 L) false,cw (u8 m14++zaj zB c16)]⟩,[0,4],[sv 1 0 (0+lz2.length+4+lz13.length) (0+lz2.length+4+lz13.length+c16)],WkR.of (rs:= []) rfl rfl dC trivial ⟨.inl (zF (zH _)),.inl (zL (za5 m14 c16)),trivial⟩,rfl,c16,(by rw [he,hm14l];first | rfl | simp only [hm3l,hm6l,hm14l,List.length_nil];rfl),(by rw [he])⟩
  refine o_d 1 [(2,sv 5 0 (0+lz2.length+4+lz13.length) (0+lz2.length+4+lz13.length+c16))] (zE (zA (qW ?_)))
  have he:zbW l=m14:=by
   unfold zbW;rw [if_neg om]
   rw [←hm14,←hm6,←hm3,hlz2,hlz13,List.take_of_length_le (l:=l.drop 16) (by simp)];rfl
  exact ⟨trivial,[sv 5 0 (0+lz2.length+4+lz13.length) (0+lz2.length+4+lz13.length+c16)],(zT rfl rfl),(zM rfl z5),⟨reg [],[zG q (u8 L) false,cw (u8 m14++zaj zB c16)]⟩,[0,5],[sv 1 0 (0+lz2.length+4+lz13.length) (0+lz2.length+4+lz13.length+c16)],WkR.of (rs:= []) rfl rfl dC trivial ⟨.inl (zF (zH _)),.inl (zL (za5 m14 c16)),trivial⟩,rfl,c16,(by rw [he,hm14l];first | rfl | simp only [hm3l,hm6l,hm14l,List.length_nil];rfl),(by rw [he])⟩
 have h1': ¬(l.getD 0 0 % 256≠3):=ze6 h1
 refine qK (zA (zJ (zN (o_d 2 [(28,zS q 0 l.length),(27,sv 1 0 4 4)] ?_))))
 obtain ⟨qz17,lz17,hlz17,hn17z,hq17z,hr17z,hs17z⟩:=zca (k:=0) hr (lo:=(some (iv 16))) (hi:=none) (mx:=none) 16 l.length om (.inr rfl) (.inl ⟨rfl,rfl,rfl⟩) (.inl rfl)
 have hs17y:=hs17z.trans (rfl:q.isSome=q.isSome)
 refine o_s (by exact zaN rfl hq17z) ?_
 obtain ⟨m18,hm18⟩: ∃z9,((Wg l):List Int)++lz17=z9:=⟨_,rfl⟩
 have hm18l:m18.length=4+lz17.length:=by rw [←hm18,List.length_append]<;>exact lA
 refine zef (k:=1) (n:=4) (o:=some 0) (q:=lz17.length) (cs:=u8 ((Wg l):List Int)) (xs:=u8 lz17) (cs2:=u8 m18) (zl:=zB) rfl rfl rfl (fun m q=>by cases q;rfl) (fun q=>by cases q) (by rw [qL]<;>exact lA) rfl (zc2 _ _ _ hr17z.nil) (zcX rfl hs17y hr17z) (by rw [qL]<;>exact lA) om om (by rw [zcG,hm18]) (fun c20 e19=>?_) (fun c20=>?_)
 ·exact absurd (Option.some.inj e19) om
 refine o_d 1 [(2,sv 2 0 (4+lz17.length) (4+lz17.length+c20))] (zE (zU [(2,sv 2 0 (4+lz17.length) (4+lz17.length+c20))] (qW ?_)))
 have he:zbW l=m18:=by
  unfold zbW;rw [if_pos om]
  rw [←hm18,hlz17,List.take_of_length_le (by simp)]
 exact ⟨trivial,[sv 2 0 (4+lz17.length) (4+lz17.length+c20)],(zT rfl rfl),(zM rfl z5),⟨reg [],[zG q (u8 L) false,cw (u8 m18++zaj zB c20)]⟩,[0,2],[sv 1 0 (4+lz17.length) (4+lz17.length+c20)],WkR.of (rs:= []) rfl rfl dC trivial ⟨.inl (zF (zH _)),.inl (zL (za5 m18 c20)),trivial⟩,rfl,c20,(by rw [he,hm18l];first | rfl | simp only [hm18l,List.length_nil];rfl),(by rw [he])⟩
end Go.Rh

set_option maxHeartbeats 1000000
namespace Go.Rh
def b4 (n:Int):List Int:= [n / 16777216,n / 65536,n / 256,n]
def stL (v e:Int):List Int:= [1,1,8,10]++b4 v++b4 e
theorem stL_length (v e:Int):(stL v e).length=12:=rfl
theorem row_st (v e:Int) (m:Nat):RowOf (some (0,12+m)) (stL v e++List.replicate m 0) (stL v e):=zcI (l:=stL v e) (n:=12) (r:=m) rfl rfl
abbrev xh (a:Int):=([.int .u8 (a / 16777216 % 256),.int .u8 (a / 65536 % 256),.int .u8 (a / 256 % 256),.int .u8 (a % 256)]:List Value)
theorem bytes4C {P:Program} [PrC P] (n:Int) (hvn:0≤n∧n < 4294967296):
    Env P "roundhouse/roundhouseref4.bytes" [.int .u32 n] ([]) (fun v h'=>v=sv 0 0 4 4∧h'= [cw (xh n)]):=by
 refine Env.by4 PrC.ref4_bytes ?_
 unfold zhm
 show GC _ 0 _ _ ⟨reg [(0,.int .u32 n)],[]⟩
 refine zJ (zN (o_d 1 [(2,.slice none 0 0)] (zE (zA (zJ (zN (o_d 1 [(3,.int .u32 n)] (o_s (by refine zK (v:= .int .u32 (n.fdiv 16777216)) (congrArg vE (zb9 dC)) ?_;kernel_rfl) ?_))))))))
 refine o_d 2 [(6,.int .u32 n),(5,.int .u8 ((n / 16777216) % 256))] (o_s (by refine zK (v:= .int .u32 (n.fdiv 65536)) (congrArg vE (zb9 dC)) ?_;kernel_rfl) ?_)
 refine o_d 2 [(9,.int .u32 n),(8,.int .u8 ((n / 65536) % 256))] (o_s (by refine zK (v:= .int .u32 (n.fdiv 256)) (congrArg vE (zb9 dC)) ?_;kernel_rfl) ?_)
 exact o_b 5 [(2,sv 0 0 4 4),(14,sv 0 0 4 4),(13,.int .u8 (n % 256)),(12,.int .u32 n),(11,.int .u8 ((n / 256) % 256))] [cw [.int .u8 ((n / 16777216) % 256),.int .u8 ((n / 65536) % 256),.int .u8 ((n / 256) % 256),.int .u8 (n % 256)]] (zE (zA (qW (⟨trivial,[sv 0 0 4 4],(zT rfl rfl),(zM rfl z5),⟨reg [],[cw [.int .u8 ((n / 16777216) % 256),.int .u8 ((n / 65536) % 256),.int .u8 ((n / 256) % 256),.int .u8 (n % 256)]]⟩,[0],[sv 0 0 4 4],WkR.of (rs:= []) rfl rfl dC trivial ⟨.inl rfl,trivial⟩,rfl,rfl,rfl⟩))))
theorem make4C {P:Program} [PrC P] (v e:Int) (hvv:0≤v∧v < 4294967296) (hve:0≤e∧e < 4294967296):
    Env P "roundhouse/roundhouseref4.Make" [.int .u32 v,.int .u32 e] ([]) (fun w h'=> ∃m:Nat,w=sv 0 0 12 (12+m)∧h'= [zG (some (0,12+m)) (u8 (stL v e++List.replicate m 0)) true]):=by
 refine Env.by4 PrC.ref4_Make ?_
 unfold ziR
 show GC _ 0 _ _ ⟨reg [(0,.int .u32 v),(1,.int .u32 e)],[]⟩
 refine zJ (zN (o_d 1 [(4,.slice none 0 0)] (zE (zA (zJ (zN (o_b 2 [(6,.int .u32 v),(5,sv 0 0 4 4)] [cw [.int .u8 1,.int .u8 1,.int .u8 8,.int .u8 10]] (qV (zct [] [] [.int .u32 v] (bytes4C v om) rfl rfl trivial dC ?_)))))))))
 rintro v1 h1' ⟨rfl,rfl⟩
 refine ⟨sv 1 0 4 4,[cw [.int .u8 1,.int .u8 1,.int .u8 8,.int .u8 10]],[cw (xh v)],rfl,⟨rfl,trivial⟩,⟨rfl,trivial⟩, ?_⟩
 obtain ⟨m1,hm1⟩: ∃z9,([1,1,8,10]:List Int)++([(v / 16777216),(v / 65536),(v / 256),(v)]:List Int)=z9:=⟨_,rfl⟩
 have hm1l:m1.length=4+4:=by rw [←hm1,List.length_append]<;>exact lA
 refine zef (k:=0) (n:=4) (o:=some 0) (q:=4) (cs:=u8 ([1,1,8,10]:List Int)) (xs:=u8 ([(v / 16777216),(v / 65536),(v / 256),(v)]:List Int)) (cs2:=u8 m1) (zl:=zB) rfl rfl rfl (fun m q=>by cases q;rfl) (fun q=>by cases q) (by rw [qL]<;>exact lA) rfl rfl (zbF rfl rfl (Nat.le_of_ble_eq_true rfl)) (by rw [qL]<;>exact lA) om om (by rw [zcG,hm1]) (fun c3 e2=>?_) (fun c3=>?_)
 ·exact absurd (Option.some.inj e2) om
 refine o_d 1 [(9,.int .u32 e)] (qV (zct [] [] [.int .u32 e] (bytes4C e om) rfl rfl trivial dC ?_))
 rintro v1 h1' ⟨rfl,rfl⟩
 refine ⟨sv 3 0 4 4,[cw [.int .u8 1,.int .u8 1,.int .u8 8,.int .u8 10],cw (xh v),cw (u8 m1++zaj zB c3)],[cw (xh e)],rfl,⟨rfl,rfl,rfl,trivial⟩,⟨rfl,trivial⟩, ?_⟩
 obtain ⟨m4,hm4⟩: ∃z9,m1++([(e / 16777216),(e / 65536),(e / 256),(e)]:List Int)=z9:=⟨_,rfl⟩
 have hm4l:m4.length=4+4+4:=by rw [←hm4,List.length_append]<;>exact lA
 refine zef (k:=2) (n:=4+4) (o:=some c3) (q:=4) (cs:=u8 m1) (xs:=u8 ([(e / 16777216),(e / 65536),(e / 256),(e)]:List Int)) (cs2:=u8 m4) (zl:=zB) rfl rfl rfl (fun m q=>by cases q;rfl) (fun q=>by cases q) (by rw [qL]<;>exact lA) rfl rfl (zbF rfl rfl (Nat.le_of_ble_eq_true rfl)) (by rw [qL]<;>exact lA) om om (by rw [zcG,hm4]) (fun c6 e5=>?_) (fun c6=>?_)
 ·skip
  refine o_d 1 [(4,sv 2 0 (4+4+4) (4+4+4+c6))] (zE (zA (qW ?_)))
  have he:m4=stL v e:=by rw [←hm4,←hm1];rfl
  exact ⟨trivial,[sv 2 0 (4+4+4) (4+4+4+c6)],(zT rfl rfl),(zM rfl z5),⟨reg [],[cw (u8 m4++zaj zB c6)]⟩,[2],[sv 0 0 (4+4+4) (4+4+4+c6)],WkR.of (rs:= []) rfl rfl dC trivial ⟨.inl (zL (za5 m4 c6)),trivial⟩,rfl,c6,rfl,(by rw [he];exact congrArg (fun x=> [x]) (zcS _ _))⟩
 refine o_d 1 [(4,sv 4 0 (4+4+4) (4+4+4+c6))] (zE (zA (qW ?_)))
 have he:m4=stL v e:=by rw [←hm4,←hm1];rfl
 exact ⟨trivial,[sv 4 0 (4+4+4) (4+4+4+c6)],(zT rfl rfl),(zM rfl z5),⟨reg [],[cw (u8 m4++zaj zB c6)]⟩,[4],[sv 0 0 (4+4+4) (4+4+4+c6)],WkR.of (rs:= []) rfl rfl dC trivial ⟨.inl (zL (za5 m4 c6)),trivial⟩,rfl,c6,rfl,(by rw [he];exact congrArg (fun x=> [x]) (zcS _ _))⟩
theorem r5PutC {P:Program} [PrC P] (v c:Int) (hvv:0≤v∧v < 4294967296) (hcc:0≤c∧c < 1048576):
    Env P "roundhouse/roundhouseref5.Put" [.int .u32 v,iv c] ([]) (Ans (u32v (zbT v c)) ([])):=by
 refine Env.by PrC.ref5_Put ?_
 unfold zjN
 show GC _ 0 _ _ ⟨reg [(0,.int .u32 v),(1,iv c)],[]⟩
 refine zJ (zN (o_d 1 [(4,.int .u32 0)] (zE (zA (zJ (zN (o_d 1 [(5,.int .u32 v)] (o_s (by refine zK (v:= .int .u32 (v.fdiv 256)) (congrArg vE (zb9 dC)) ?_;kernel_rfl) ?_))))))))
 refine o_s (by refine zK (congrArg vE (zcr (k:= .u32) 12 (M:=4095) (R:=4096) (x:=v / 256) dC rfl rfl)) ?_;kernel_rfl) ?_
 refine o_s (by refine zK (v:= .int .u32 (IntKind.u32.wrap (((v / 256) % 4096)*1048576))) (congrArg vE (zby om)) ?_;kernel_rfl) ?_
 refine o_d 2 [(10,.int .u32 (c % 4294967296)),(9,iv c)] (o_s (by refine zK (congrArg vE (zee (k:= .u32) 20 (R:=1048576) (x:=((v / 256) % 4096)*1048576) (y:=c % 4294967296) rfl om om (by rw [show (2:Int)^IntKind.u32.bits=4294967296 from rfl];omega) (zby om))) ?_;kernel_rfl) ?_)
 refine o_d 1 [(4,.int .u32 (((v / 256) % 4096)*1048576+c % 4294967296))] (zE (zA (qW ?_)))
 have E0_:zbT v c=((v / 256) % 4096)*1048576+c % 4294967296:=by
  unfold zbT;omega
 exact z7 [.int .u32 (((v / 256) % 4096)*1048576+c % 4294967296)] (zT rfl rfl) rfl (by rw [E0_];rfl) rfl rfl
end Go.Rh

set_option maxHeartbeats 1000000
namespace Go.Rh
end Go.Rh
