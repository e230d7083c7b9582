/- The proofs zch the intermediate form, part QPlaneNearse. -/
import Derived.Test.YtcgficakdfdepaaQPlaneNearsd
import Derived.Test.YtcgficakdfdepaaQPlaneNearsc
import Derived.Test.YtcgficakdfdepaaQPlaneNearsa
open Go.IntKind (i64)
set_option linter.unusedVariables false
set_option linter.unusedSimpArgs false
set_option maxRecDepth 100000
set_option maxHeartbeats 8000000
namespace Go.Rh
def zhW (p:q9) (n:Int):q9:=if (qF p (zcn n)).2=0 then (qF p (zcn n)).1 else p
def zY (ns:List Int) (k:Nat):q9:=(ns.take k).foldl zhW (zhu 10 80 (zbV 1) (zbU 1) (zbV 2) (zbU 2)).1
abbrev yw:=(zhu 10 80 (zbV 1) (zbU 1) (zbV 2) (zbU 2))
theorem MakeC {P:Program} [PrC P] (o:Option Nat) (ns:List Int) (hnns:o=none→ns= []) (hl:(ns.length:Int)≤9223372036854775807) (k:Nat) (hk:(k:Int)≤1000):
  Env P "roundhouse/roundhouselaw6.Make" [inV o 0 ns.length,iv (k:Int)] ([inB o (ii ns)]) (Ans (zau (zY ns k)) ([inB o (ii ns)])):=by
 refine Env.by PrC.law6_Make ?_
 unfold ziG
 show GC _ 1 _ _ ⟨reg [(0,inV o 0 ns.length),(1,iv (k:Int))],[inB o (ii ns)]⟩
 refine zJ (zN (o_b 1 [(4,pv 1 0)] [inB o (ii ns),cw (pl qN)] (zE (zA (zJ (zN (qT (zal (KeyC 1) rfl rfl rfl (qT (zal (KeyC 2) rfl rfl rfl (qT (zal (refNewC 10 80 (zbV 1) (zbU 1) (zbV 2) (zbU 2)) rfl rfl (all_cons (zaA (yw.1)) (all_cons rfl rfl)) ?_))))))))))))
 refine o_b 4 [(5,pv 2 0),(15,iv (yw.2)),(14,zau (yw.1)),(10,.tuple #[zau (yw.1),iv (yw.2)])] [inB o (ii ns),cw (pl qN),cw (pl qN)] (zdu (by refine zao (c':=pl (yw.1)) rfl rfl rfl ?_ ?_ ?_;exact qH _;exact zb8 om;exact zac qN (yw.1)) ?_)
 refine o_b 1 [(6,iv (yw.2))] [inB o (ii ns),cw (pl qN),cw (pl (yw.1))] (zE (zA (zJ (zJ (zN (o_d 1 [(7,iv 0)] (zE (zA (zab (zdv (fun μ s=> ∃(i:Nat),∃(d:q9),μ=ns.length - i∧(i≤ns.length∧i≤k)∧(((ns.drop i).take (k - i)).foldl zhW d=zY ns k)∧s=⟨reg [(7,iv (i:Int)),(5,pv 2 0),(4,pv 1 0),(0,inV o 0 ns.length),(1,iv (k:Int))],[inB o (ii ns),cw (pl qN),cw (pl d)]⟩) ⟨(ns.length - 0), ?_⟩ ?_))))))))))
 ·skip
  refine ⟨⟨reg [(7,iv (0:Int)),(5,pv 2 0),(4,pv 1 0),(0,inV o 0 ns.length),(1,iv (k:Int))],[inB o (ii ns),cw (pl qN),cw (pl (yw.1))]⟩, ?_⟩
  refine ⟨?_, ?_⟩
  ·exact Wk.ren [0,1,2] rfl rfl dC ⟨rfl,rfl,rfl,((zda o rfl)).trans rfl,rfl,trivial⟩ ⟨.inl (zcI o (zay ns)),.inl (zW (zaq qN)),.inl (zW (zaq (yw.1))),trivial⟩
  ·exact ⟨0,(yw.1),rfl,⟨Nat.zero_le _,Nat.zero_le _⟩,rfl,rfl⟩
 ·rintro μ s ⟨i,d,rfl,hi,hf,rfl⟩
  refine zJ (zJ (zN (o_d 2 [(17,inV o 0 ns.length),(16,iv (i:Int))] (o_s (by exact zeK rfl (fun q=>by rw [hnns q];rfl)) ?_))))
  refine o_d 2 [(20,bv (decide ((i:Int) < (ns.length:Nat)))),(19,bv (decide ((i:Int) < (ns.length:Nat))))] (zbC (b:=decide ((i:Int) < (ns.length:Nat))) 20 rfl (fun h1=>?_) (fun h1=>?_))
  ·skip
   have h1':(i:Int) < (ns.length:Nat):=of_decide_eq_true h1
   refine o_d 4 [(24,bv (decide ((i:Int) < (k:Int)))),(23,bv (decide ((i:Int) < (k:Int)))),(22,iv (k:Int)),(21,iv (i:Int))] (zE (zA (qK (t:=decide ((i:Int) < (k:Int))) rfl (fun h2=>?_) (fun h2=>?_))))
   ·skip
    have h2':(i:Int) < (k:Int):=of_decide_eq_true h2
    obtain ⟨x,hx,hd,ht⟩:=zd5 (l:=ns) (i:=i) om
    have hstep:(ns.drop i).take (k - i)=x::(ns.drop (i+1)).take (k - (i+1)):=by rw [hd,show k - i=(k - (i+1))+1 by omega];rfl
    refine qM (zA (zJ (zab (zJ (zbF ["roundhouse/roundhouselaw6.Entry","roundhouse/roundhouseref6.Apply"] (r_s (by refine zV (v:=zau d) rfl rfl ?_;exact zaK d) ?_))))))
    refine r_d 2 [(30,iv (i:Int)),(29,inV o 0 ns.length)] (r_s (by exact zdW (o':=i) rfl (fun q=>by rw [hnns q];rfl) rfl om om) ?_)
    refine r_s (by refine zV (v:=iv x) rfl (hf_in (n:=ns.length) rfl (fun q=>by rw [hnns q];rfl) om) ?_;exact ii_r (i:=i) om hx) ?_
    refine zfv (zbH (EntryC x) rfl rfl rfl (zfv (zbH (refApplyC d (zcn x)) rfl (all_cons (zbr d) (all_cons rfl rfl)) (all_cons (zaA ((qF d (zcn x)).1)) (all_cons rfl rfl)) (r_b 4 [(8,pv 3 0),(36,iv ((qF d (zcn x)).2)),(35,zau ((qF d (zcn x)).1)),(27,.tuple #[zau ((qF d (zcn x)).1),iv ((qF d (zcn x)).2)])] [inB o (ii ns),cw (pl qN),cw (pl d),cw (pl qN)] (r_s0 (by refine zao (c':=pl ((qF d (zcn x)).1)) rfl rfl rfl ?_ ?_ ?_;exact qH _;exact zb8 om;exact zac qN ((qF d (zcn x)).1)) ?_)))))
    refine r_b 1 [(9,iv ((qF d (zcn x)).2))] [inB o (ii ns),cw (pl qN),cw (pl d),cw (pl ((qF d (zcn x)).1))] (zbk (zA (zJ (zN (o_d 2 [(38,bv (((qF d (zcn x)).2)==0)),(37,iv ((qF d (zcn x)).2))] (zE (zT [(38,bv (((qF d (zcn x)).2)==0)),(8,pv 3 0),(7,iv (i:Int)),(5,pv 2 0),(4,pv 1 0),(0,inV o 0 ns.length),(1,iv (k:Int))] (qK (t:=((qF d (zcn x)).2)==0) rfl (fun h3=>?_) (fun h3=>?_)))))))))
    ·skip
     have h3':(qF d (zcn x)).2=0:=zaL h3
     refine zN (o_s (by refine zV (v:=zau ((qF d (zcn x)).1)) rfl rfl ?_;exact zaK ((qF d (zcn x)).1)) ?_)
     refine zdu (by refine zao (c':=pl ((qF d (zcn x)).1)) rfl rfl rfl ?_ ?_ ?_;exact qH _;exact zb8 om;exact zac d ((qF d (zcn x)).1)) ?_
     refine zE (zA (zN (o_d 1 [(25,iv (i:Int))] (o_s (by refine zR (v:= .int .i64 (i64.wrap ((i:Int)+1))) (congrArg wh (w64 om om)) ?_;kernel_rfl) ?_))))
     refine o_d 1 [(7,iv ((i:Int)+1))] (zE (⟨ns.length - (i+1), ?_⟩))
     refine ⟨⟨reg [(7,iv ((i+1):Int)),(5,pv 2 0),(4,pv 1 0),(0,inV o 0 ns.length),(1,iv (k:Int))],[inB o (ii ns),cw (pl qN),cw (pl ((qF d (zcn x)).1))]⟩, ?_⟩
     refine zee om ⟨?_, ?_⟩
     ·exact Wk.ren [0,1,2] rfl rfl dC ⟨rfl,rfl,rfl,((zda o rfl)).trans rfl,rfl,trivial⟩ ⟨.inl (zcI o (zay ns)),.inl (zW (zaq qN)),.inl (zW (zaq ((qF d (zcn x)).1))),trivial⟩
     ·exact ⟨(i+1),((qF d (zcn x)).1),rfl,om,(by rw [←hf,hstep];simp [zhW,h1,h1',h2,h2',h3,h3']),rfl⟩
    ·skip
     have h3': ¬((qF d (zcn x)).2=0):=zaM h3
     refine qM (zA (zN (o_d 1 [(25,iv (i:Int))] (o_s (by refine zR (v:= .int .i64 (i64.wrap ((i:Int)+1))) (congrArg wh (w64 om om)) ?_;kernel_rfl) ?_))))
     refine o_d 1 [(7,iv ((i:Int)+1))] (zE (⟨ns.length - (i+1), ?_⟩))
     refine ⟨⟨reg [(7,iv ((i+1):Int)),(5,pv 2 0),(4,pv 1 0),(0,inV o 0 ns.length),(1,iv (k:Int))],[inB o (ii ns),cw (pl qN),cw (pl d)]⟩, ?_⟩
     refine zee om ⟨?_, ?_⟩
     ·exact Wk.ren [0,1,2] rfl rfl dC ⟨rfl,rfl,rfl,((zda o rfl)).trans rfl,rfl,trivial⟩ ⟨.inl (zcI o (zay ns)),.inl (zW (zaq qN)),.inl (zW (zaq d)),trivial⟩
     ·exact ⟨(i+1),d,rfl,om,(by rw [←hf,hstep];simp [zhW,h1,h1',h2,h2',h3,h3']),rfl⟩
   ·skip
    have h2': ¬((i:Int) < (k:Int)):=of_decide_eq_false h2
    refine zc0 (zA (zJ (zN (o_s (by refine zV (v:=zau d) rfl rfl ?_;exact zaK d) ?_))))
    refine zdu (by refine zao (c':=pl d) rfl rfl rfl ?_ ?_ ?_;exact qH _;exact zb8 om;exact zac qN d) ?_
    refine zE (zA (qV ?_))
    have e0:zY ns k=d:=by
     rw [←hf];have:(ns.drop i).take (k - i)= []:=by simp;omega
     rw [this];rfl
    exact qC [zau d] (qY rfl rfl (zaK d) rfl) (all_cons (zaA d) rfl) (by rw [e0];rfl) rfl (show List.all [inB o (ii ns)] zhH=true from (all_cons (zcd _ (zay ns)) rfl))
  ·skip
   have h1': ¬((i:Int) < (ns.length:Nat)):=of_decide_eq_false h1
   refine o_d 4 [(24,bv false),(23,undef),(22,undef),(21,undef)] (zE (zA (zba rfl (zc0 (zA (zJ (zN (o_s (by refine zV (v:=zau d) rfl rfl ?_;exact zaK d) ?_))))))))
   refine zdu (by refine zao (c':=pl d) rfl rfl rfl ?_ ?_ ?_;exact qH _;exact zb8 om;exact zac qN d) ?_
   refine zE (zA (qV ?_))
   have e0:zY ns k=d:=by
    rw [←hf];have:(ns.drop i).take (k - i)= []:=by simp;omega
    rw [this];rfl
   exact qC [zau d] (qY rfl rfl (zaK d) rfl) (all_cons (zaA d) rfl) (by rw [e0];rfl) rfl (show List.all [inB o (ii ns)] zhH=true from (all_cons (zcd _ (zay ns)) rfl))
end Go.Rh

namespace Go.Rh
theorem stepM_inv {c:q9} {b:Nat} (I:PInv c b) (hb:b≤1000000) (n:Int):PInv (zhW c n) (b+1):=by
 unfold zhW
 split
 ·rename_i h;exact I.apply hb h
 ·exact I.mono om
theorem fold_inv: ∀(l:List Int) {c:q9} {b:Nat},PInv c b→b+l.length≤1000000→PInv (l.foldl zhW c) (b+l.length)
 | [],_,_,I,_=>I
 | n::l,c,b,I,hb=>by
  simp only [List.length_cons] at hb
  have:=fold_inv l (stepM_inv I om n) om
  simp only [List.foldl_cons,List.length_cons]
  exact this.mono om
theorem zeT (ns:List Int) {k:Nat} (hk:k≤1000):PInv (zY ns k) k:=by
 have h0:PInv (zhu 10 80 (zbV 1) (zbU 1) (zbV 2) (zbU 2)).1 0:=by
  have hp:za8 10 80=true:=by decide
  simp only [zhu,hp,if_true]
  exact PInv.new hp
 have hl:(ns.take k).length≤k:=by simp;omega
 exact (fold_inv (ns.take k) h0 om).mono om
theorem within_lt (x:Int) {n:Int} (hn:0 < n∧n≤4611686018427387904):0≤zC x n∧zC x n < n:=by
 have h2:x.tmod n < n:=Int.tmod_lt_of_pos x hn.1
 have h3: -n < x.tmod n:=by
  have:=Int.lt_tmod_of_pos x hn.1
  exact this
 unfold zC
 split
 ·rename_i h;rw [w64 om om];omega
 ·omega
end Go.Rh
namespace Go.Rh
end Go.Rh

namespace Go.Rh
def zI:List Value:= [iv 0]
theorem zaD (l:List Int):(ii l).length=l.length:=by simp [ii]
theorem ii_len1 (l:List Int):(ii l).length=l.length*1:=by simp [ii]
theorem room_zI (m:Nat):zah zI m=ii (List.replicate m 0):=by
 induction m with
 | zero=>rfl
 | succ n ih=>simp only [zah,List.replicate_succ,List.flatten_cons] at ih ⊢;rw [ih];rfl
theorem ii_app (a b:List Int):ii a++ii b=ii (a++b):=by simp [ii]
theorem zaf (l:List Int) (m:Nat):(ii l++zah zI m).all zbp=true:=by rw [room_zI,ii_app];exact zay _
theorem ii_g {l:List Int} {i o:Nat} (ho:o=i) (h:i < l.length):zaG none (ii l) o=some (iv (l.getD i 0)):=
 ii_r ho (by simp [List.getD_eq_getElem?_getD,h])
theorem ii_w {l:List Int} {i o:Nat} {v:Int} (ho:o=i) (h:i < l.length):splice (ii l) o [iv v]=ii (l.set i v):=by
 subst ho
 refine zci (by rw [zfb (by rw [zaD];exact h),zaD,zaD,List.length_set]) fun k hk=>?_
 rw [zgy (by rw [zaD];exact h)]
 simp only [ii,List.getElem?_map,List.length_singleton]
 rw [List.getElem?_set]
 by_cases hki:o=k
 ·subst hki;rw [if_pos ⟨Nat.le_refl _,om⟩,if_pos rfl,if_pos h];simp
 ·rw [if_neg om,if_neg hki]
theorem ii_all {l:List Int} {n:Nat} (h:l.length=n):zaG (some n) (ii l) 0=some (.agg ⟨ii l⟩):=by
 subst h;simp [zaG,zaD,←zaD]
def eqI (a b:List Int):Bool:=decide (a=b)
theorem eqI_K: ∀ {n:Nat} {a b:List Int},a.length=n→b.length=n→eqK (List.replicate n LK.i) (ii a) (ii b)=some (eqI a b)
 | 0,[],[],_,_=>rfl
 | n+1,x::a,y::b,h1,h2=>by
  have ih:=eqI_K (n:=n) (a:=a) (b:=b) (by simpa using h1) (by simpa using h2)
  simp only [ii,List.replicate_succ,List.map_cons,eqK] at ih ⊢
  rw [ih]
  simp only [eq1K,eqI]
  by_cases hx:x=y<;>by_cases ha:a=b<;>simp [hx,ha]
 | 0,_::_,_,h,_=>by simp at h
 | 0,[],_::_,_,h=>by simp at h
 | _+1,[],_,h,_=>by simp at h
 | _+1,_::_,[],_,h=>by simp at h
theorem eqI_run {x y:Value} (a b:List Int) (ha:a.length=127) (hb:b.length=127) (hx:x= .agg ⟨ii a⟩) (hy:y= .agg ⟨ii b⟩):x= .agg ⟨ii a⟩∧y= .agg ⟨ii b⟩∧eqK (zdO [(127,.i)]) (ii a) (ii b)=some (eqI a b):=
 ⟨hx,hy,by rw [show zdO [(127,.i)]=List.replicate 127 LK.i by simp [zdO]];exact eqI_K ha hb⟩
def zaX {α:Type} (f:α→List Value) (l:List α):List Value:=l.flatMap f
theorem zbT {α:Type} {f:α→List Value} {n:Nat} (hf: ∀x,(f x).length=n) (l:List α):(zaX f l).length=l.length*n:=by
 induction l with
 | nil=>simp [zaX]
 | cons x l ih=>simp only [zaX,List.flatMap_cons,List.length_append,List.length_cons] at ih ⊢;rw [ih,hf,Nat.add_mul];omega
theorem recL_app {α:Type} (f:α→List Value) (a b:List α):zaX f a++zaX f b=zaX f (a++b):=by simp [zaX]
theorem recL_scl {α:Type} {f:α→List Value} (hf: ∀x,(f x).all zbp=true) (l:List α):(zaX f l).all zbp=true:=by
 induction l with
 | nil=>rfl
 | cons x l ih=>simp only [zaX,List.flatMap_cons,List.all_append] at ih ⊢;rw [hf,ih];rfl
theorem zie {α:Type} {f:α→List Value} {l:List α} {i:Nat} {x:α} (hx:l[i]? =some x):zaX f l=zaX f (l.take i)++(f x++zaX f (l.drop (i+1))):=by
 have h:=zZ hx
 have:l=l.take i++x::l.drop (i+1):=by
  rw [List.getElem?_eq_getElem h] at hx;cases hx
  simp
 conv=>lhs;rw [this]
 simp [zaX]
theorem rec_r {α:Type} {f:α→List Value} {n i j o:Nat} {m:Option Nat} {l:List α} {x:α} {v:Value} (hf: ∀x,(f x).length=n) (ho:o=n*i+j) (hx:l[i]? =some x) (h:zaG m (f x) j=some v):zaG m (zaX f l) o=some v:=by
 have hl:=zZ hx
 rw [zie hx,ho,partL_r (by rw [zbT hf,List.length_take,Nat.min_eq_left om,Nat.mul_comm])]
 exact zcK h
theorem rec_w {α:Type} {f:α→List Value} {n i j o:Nat} {l:List α} {x y:α} {vs:List Value} (hf: ∀x,(f x).length=n) (ho:o=n*i+j) (hx:l[i]? =some x) (hj:j+vs.length≤n) (h:splice (f x) j vs=f y):splice (zaX f l) o vs=zaX f (l.set i y):=by
 have hl:=zZ hx
 have hy:(l.set i y)[i]? =some y:=by simp [hl]
 rw [zie hx,zie hy,ho,zc7 (by rw [zbT hf,List.length_take,Nat.min_eq_left om,Nat.mul_comm]),zeh (by rw [hf];exact hj),h]
 rw [List.take_set_of_le (Nat.le_refl _),List.drop_set_of_lt om]
structure Wl where
  (s a b w:Int)
def wlF (x:Wl):List Value:= [iv x.s,iv x.a,iv x.b,iv x.w]
def zWl:List Value:= [iv 0,iv 0,iv 0,iv 0]
theorem zeg (x:Wl):(wlF x).length=4:=rfl
theorem zcF (l:List Wl) (m:Nat):(zaX wlF l++zah zWl m).all zbp=true:=app_scl (recL_scl (fun _=>rfl) l) (room_scl rfl m)
theorem wl_app1 (l:List Wl) (s a b w:Int):zaX wlF l++ [iv s,iv a,iv b,iv w]=zaX wlF (l++ [⟨s,a,b,w⟩]):=by rw [←recL_app];rfl
def zaZ (m:Int) (ns:List Int):Int:=zb2 0 0 ns % m
theorem xo_rng (a b:Int):0≤xo a b∧xo a b < 18446744073709551616:=by
 show 0≤(_:Int) % 18446744073709551616∧(_:Int) % 18446744073709551616 < 18446744073709551616
 omega
theorem words_rng (ka kb:Int) (ns:List Int):0≤zb2 ka kb ns∧zb2 ka kb ns < 18446744073709551616:=xo_rng _ _
theorem spun_eq {m:Int} {ns:List Int} (h:0 < m∧m≤1000):i64.wrap ((zb2 0 0 ns).tmod m)=zaZ m ns:=by
 have h1:=words_rng 0 0 ns
 rw [rem_nn om]
 have h2:=Int.emod_nonneg (zb2 0 0 ns) (by omega:m≠0)
 have h3:=Int.emod_lt_of_pos (zb2 0 0 ns) h.1
 exact w64 om om
theorem zfa {m:Int} {ns:List Int} (h:0 < m):0≤zaZ m ns∧zaZ m ns < m:=⟨Int.emod_nonneg _ om,Int.emod_lt_of_pos _ h⟩
def wlOf (p:q9) (i:Nat):Wl:=⟨i,zaZ 127 [1,p (3+5*i+1),p (3+5*i+2)],1+zaZ 126 [2,p (3+5*i+1),p (3+5*i+2)],(if (8:Int) < (if (1:Int) > p (3+5*i+3) then (1:Int) else p (3+5*i+3)) then (8:Int) else (if (1:Int) > p (3+5*i+3) then (1:Int) else p (3+5*i+3)))⟩
def ziU (p:q9):Nat→List Wl
 | 0=> []
 | i+1=>if p (3+5*i)=2 then ziU p i++ [wlOf p i] else ziU p i
structure WlOk (x:Wl):Prop where
  s:0≤x.s∧x.s < 64
  a:0≤x.a∧x.a < 127
  b:1≤x.b∧x.b≤126
  w:1≤x.w∧x.w≤8
theorem wlOf_ok (p:q9) {i:Nat} (h:i < 64):WlOk (wlOf p i):=by
 have h1:=zfa (m:=127) (ns:= [1,p (3+5*i+1),p (3+5*i+2)]) om
 have h2:=zfa (m:=126) (ns:= [2,p (3+5*i+1),p (3+5*i+2)]) om
 refine ⟨by simp only [wlOf];omega,h1,by simp only [wlOf];omega, ?_⟩
 simp only [wlOf]
 (repeat' split)<;>omega
theorem wlks_ok (p:q9): ∀ {n:Nat},n≤64→∀x∈ziU p n,WlOk x
 | 0,_,_,hx=>by simp [ziU] at hx
 | n+1,h,x,hx=>by
  simp only [ziU] at hx
  split at hx
  ·rcases List.mem_append.1 hx with q | q
   ·exact wlks_ok p om x q
   ·simp at q;subst q;exact wlOf_ok p om
  ·exact wlks_ok p om x hx
theorem wlks_len (p:q9): ∀n,(ziU p n).length≤n
 | 0=>by simp [ziU]
 | n+1=>by
  have:=wlks_len p n
  simp only [ziU];split<;>simp<;>omega
def zij:List Int:=List.replicate 127 (-1)
def zd6 (W:List Int):Nat:=W.count (-1)
def prb (W:List Int) (b:Int):Nat→Int→Int
 | 0,a=>a
 | n+1,a=>if W.getD a.toNat 0= -1 then a else prb W b n ((a+b) % 127)
abbrev WS:=List Int×List Wl
def zer (k:Nat) (S:WS):WS:=if zd6 S.1=0 then S else match S.2[k]? with
 | none=>S
 | some x=>(S.1.set (prb S.1 x.b 127 x.a).toNat x.s,S.2.set k ⟨x.s,prb S.1 x.b 127 x.a,x.b,x.w⟩)
def itr {α:Type} (f:α→α):Nat→α→α
 | 0,x=>x
 | n+1,x=>f (itr f n x)
def wtOf (l0:List Wl) (k:Nat):Nat:=match l0[k]? with
 | none=>0
 | some x=>x.w.toNat
def zes (l0:List Wl) (S:WS):Nat→WS
 | 0=>S
 | k+1=>itr (zer k) (wtOf l0 k) (zes l0 S k)
def zbx (l0:List Wl) (r:Nat):WS:=itr (fun S=>zes l0 S l0.length) r (zij,l0)
def qA (p:q9):List Int:=(zbx (ziU p 64) 127).1
theorem turn_full {k:Nat} {S:WS} (h:zd6 S.1=0):zer k S=S:=by simp [zer,h]
theorem zgc {α:Type} {f:α→α} {x:α} (h:f x=x): ∀n,itr f n x=x
 | 0=>rfl
 | n+1=>by simp only [itr];rw [zgc h n,h]
theorem itr_add {α:Type} (f:α→α) (x:α) (m:Nat): ∀n,itr f (n+m) x=itr f n (itr f m x)
 | 0=>by simp [itr]
 | n+1=>by rw [show n+1+m=n+m+1 by omega];simp only [itr];rw [itr_add f x m n]
theorem zgD {l0:List Wl} {S0 S:WS} {k:Nat} (h:zd6 S.1=0) (hk:zes l0 S0 k=S): ∀n,zes l0 S0 (k+n)=S
 | 0=>hk
 | n+1=>by rw [show k+(n+1)=(k+n)+1 by omega];simp only [zes];rw [zgD h hk n];exact zgc (turn_full h) _
theorem zib {l0:List Wl} {r:Nat} {S:WS} (h:zd6 S.1=0) (hr:zbx l0 r=S) {n:Nat} (hn:r≤n):zbx l0 n=S:=by
 obtain ⟨m,rfl⟩: ∃m,n=m+r:=⟨n - r,om⟩
 unfold zbx at hr ⊢
 rw [itr_add,hr]
 refine zgc ?_ m
 have:=zgD (l0:=l0) (S0:=S) (k:=0) h rfl l0.length
 simpa using this
theorem point_full {l0:List Wl} {r k t:Nat} {S:WS} (hS:S=itr (zer k) t (zes l0 (zbx l0 r) k)) (hk:k < l0.length) (ht:t≤wtOf l0 k) (h:zd6 S.1=0):zbx l0 (r+1)=S:=by
 have h1:zes l0 (zbx l0 r) (k+1)=S:=by
  show itr (zer k) (wtOf l0 k) (zes l0 (zbx l0 r) k)=S
  obtain ⟨m,hm⟩: ∃m,wtOf l0 k=m+t:=⟨wtOf l0 k - t,om⟩
  rw [hm,itr_add,←hS];exact zgc (turn_full h) m
 have h2:=zgD h h1 (l0.length - (k+1))
 rw [show k+1+(l0.length - (k+1))=l0.length by omega] at h2
 exact h2
theorem inv127: ∀b:Fin 127,b.val≠0→∃c:Fin 127,(b.val*c.val) % 127=1:=by decide
theorem free_at {W:List Int} (h:zd6 W≠0): ∃i,i < W.length∧W.getD i 0= -1:=by
 have h1:0 < W.count (-1):=Nat.pos_of_ne_zero h
 have h2:(-1:Int)∈W:=List.count_pos_iff.1 h1
 obtain ⟨i,hi,e⟩:=List.getElem_of_mem h2
 exact ⟨i,hi,by simp [List.getD_eq_getElem?_getD,hi,e]⟩
theorem reach {a b:Int} (ha:0≤a∧a < 127) (hb:1≤b∧b≤126) (t:Nat) (ht:t < 127): ∃n:Nat,n < 127∧(a+n*b) % 127=t:=by
 obtain ⟨c,hc⟩:=inv127 ⟨b.toNat,om⟩ (by simp;omega)
 simp only at hc
 refine ⟨((((t:Int) - a)*c.val) % 127).toNat,om, ?_⟩
 have hb':((b.toNat:Nat):Int)=b:=om
 have hc':(b*(c.val:Int)) % 127=1:=by rw [←hb'];exact_mod_cast hc
 rw [Int.toNat_of_nonneg om]
 have e1:(((t:Int) - a)*c.val % 127*b) % 127=((t:Int) - a) % 127:=by
  rw [Int.mul_emod,Int.emod_emod,←Int.mul_emod,Int.mul_assoc,Int.mul_comm (c.val:Int) b,Int.mul_emod,hc',Int.mul_one,Int.emod_emod]
 omega
theorem least {P:Nat→Prop} [DecidablePred P] {n:Nat} (h:P n): ∃m,m≤n∧P m∧∀k,k < m→¬P k:=by
 induction n using Nat.strongRecOn with
 | _ n ih=>
  by_cases hq: ∃k,k < n∧P k
  ·obtain ⟨k,hk,hp⟩:=hq
   obtain ⟨m,h1,h2,h3⟩:=ih k hk hp
   exact ⟨m,om,h2,h3⟩
  ·exact ⟨n,Nat.le_refl _,h,fun k hk hp=>hq ⟨k,hk,hp⟩⟩
def zcy (a b:Int) (m:Nat):Int:=(a+m*b) % 127
theorem walk_0 {a b:Int} (ha:0≤a∧a < 127):zcy a b 0=a:=by unfold zcy;omega
theorem walk_1 (a b:Int) (m:Nat):(zcy a b m+b) % 127=zcy a b (m+1):=by
 unfold zcy;rw [show ((m+1:Nat):Int)*b=m*b+b by push_cast;rw [Int.add_mul,Int.one_mul]];omega
theorem walk_rng (a b:Int) (m:Nat):0≤zcy a b m∧zcy a b m < 127:=by unfold zcy;omega
theorem prb_walk {W:List Int} {a b:Int} {n:Nat} (hW:W.getD (zcy a b n).toNat 0= -1): ∀(d m f:Nat),m+d=n→d < f→(∀k,m≤k→k < n→W.getD (zcy a b k).toNat 0≠ -1)→prb W b f (zcy a b m)=zcy a b n
 | 0,m,f+1,e,_,_=>by
  have:m=n:=om
  subst this;simp only [prb];rw [if_pos hW]
 | d+1,m,f+1,e,hf,hk=>by
  simp only [prb]
  rw [if_neg (hk m (Nat.le_refl _) om),walk_1]
  exact prb_walk hW d (m+1) f om om fun k h1 h2=>hk k om h2
 | _,_,0,_,h,_=>by omega
theorem found {W:List Int} {a b:Int} (hW:W.length=127) (hf:zd6 W≠0) (ha:0≤a∧a < 127) (hb:1≤b∧b≤126): ∃n,n < 127∧W.getD (zcy a b n).toNat 0= -1∧(∀k,k < n→W.getD (zcy a b k).toNat 0≠ -1)∧prb W b 127 a=zcy a b n:=by
 obtain ⟨i,hi,hg⟩:=free_at hf
 obtain ⟨n,hn,he⟩:=reach ha hb i om
 have h0:W.getD (zcy a b n).toNat 0= -1:=by unfold zcy;rw [he];simpa using hg
 obtain ⟨m,h1,h2,h3⟩:=least (P:=fun n=>W.getD (zcy a b n).toNat 0= -1) h0
 refine ⟨m,om,h2,h3, ?_⟩
 have:=prb_walk h2 m 0 127 om om fun k _ hk=>h3 k hk
 rwa [walk_0 ha] at this
theorem free_set {W:List Int} {i:Nat} {s:Int} (hi:i < W.length) (h:W.getD i 0= -1) (hs:s≠ -1):zd6 (W.set i s)+1=zd6 W:=by
 have e:W[i]= -1:=by simpa [List.getD_eq_getElem?_getD,hi] using h
 unfold zd6
 rw [List.count_set hi]
 have:0 < W.count (-1):=List.count_pos_iff.2 (e▸List.getElem_mem hi)
 simp [e,hs];omega
theorem set_neq {W:List Int} {i:Nat} {s:Int} (hi:i < W.length) (h:W.getD i 0= -1) (hs:s≠ -1):eqI (W.set i s) W=false:=by
 refine decide_eq_false fun q=>?_
 have:=congrArg (fun l=>List.getD l i 0) q
 simp only [h] at this
 simp [List.getD_eq_getElem?_getD,hi] at this
 exact hs this
structure WOk (l0:List Wl) (W:List Int) (l:List Wl):Prop where
  len:l.length=l0.length
  wl:W.length=127
  same: ∀(k:Nat) (x:Wl),l[k]? =some x→∃y,l0[k]? =some y∧x.s=y.s∧x.b=y.b∧x.w=y.w∧0≤x.a∧x.a < 127
  good: ∀y∈l0,WlOk y
theorem WOk.init {l0:List Wl} (h: ∀y∈l0,WlOk y):WOk l0 zij l0:=
 ⟨rfl,rfl,fun k x hx=>⟨x,hx,rfl,rfl,rfl,(h x (List.mem_of_getElem? hx)).a⟩,h⟩
theorem WOk.at_ {l0 l:List Wl} {W:List Int} (h:WOk l0 W l) {k:Nat} {x:Wl} (hx:l[k]? =some x):WlOk x∧wtOf l0 k=x.w.toNat:=by
 obtain ⟨y,h1,h2,h3,h4,h5⟩:=h.same k x hx
 have hy:=h.good y (List.mem_of_getElem? h1)
 refine ⟨⟨h2▸hy.s,h5,h3▸hy.b,h4▸hy.w⟩, ?_⟩
 simp [wtOf,h1,h4]
theorem WOk.set {l0 l:List Wl} {W:List Int} (h:WOk l0 W l) {k:Nat} {x:Wl} (hx:l[k]? =some x) {a:Int} (ha:0≤a∧a < 127):WOk l0 W (l.set k ⟨x.s,a,x.b,x.w⟩):=by
 refine ⟨by rw [List.length_set];exact h.len,h.wl,fun j z hz=>?_,h.good⟩
 have hl:=zZ hx
 rw [List.getElem?_set] at hz
 by_cases hj:k=j
 ·subst hj
  rw [if_pos rfl,if_pos hl] at hz;cases hz
  obtain ⟨y,h1,h2,h3,h4,_⟩:=h.same k x hx
  exact ⟨y,h1,h2,h3,h4,ha⟩
 ·rw [if_neg hj] at hz;exact h.same j z hz
theorem WOk.put {l0 l:List Wl} {W:List Int} (h:WOk l0 W l) (i:Nat) (s:Int):WOk l0 (W.set i s) l:=
 ⟨h.len,by rw [List.length_set];exact h.wl,h.same,h.good⟩
theorem turn_eq {W:List Int} {l:List Wl} {k n:Nat} {x:Wl} (hf:zd6 W≠0) (hx:l[k]? =some x) (hp:prb W x.b 127 x.a=zcy x.a x.b n):zer k (W,l)=(W.set (zcy x.a x.b n).toNat x.s,l.set k ⟨x.s,zcy x.a x.b n,x.b,x.w⟩):=by
 simp [zer,hf,hx,hp]
theorem run_stSl {d:Option Nat} {n n2:Nat} {x y:Opd} {L:List (Nat×Value)} {hp:List Blk} {k o:Nat} {c c' z:List Value} {q:Option Nat} (hx:evf (reg L) x= .pointer (some ⟨k,o,none⟩)) (hk:hp[k]? =some (slB z c q)) (hq:q=none→n2=0) (hn2:0 < n2) (ht:zbl (evf (reg L) y)=false) (hl:(zdz (evf (reg L) y)).length=n) (ho:o+n≤c.length) (hc:splice c o (zdz (evf (reg L) y))=c'):zc8 [⟨d,.st n x y,none⟩] ⟨reg L,hp⟩=some ⟨zat (reg L) d undef,hp.set k (slB z c' q)⟩:=by
 cases q with
 | none=>have:=hq rfl;omega
 | some m=>
  refine zao (c:=c++zah z m) (c':=c'++zah z m) hx (zag.2 ⟨hk,by simp [slB]⟩) ht hl (by simp;omega) ?_
  rw [zeh om,hc]
theorem rounds_nil (n:Nat):zbx [] n=(zij,[]):=by
 unfold zbx;exact zgc rfl n
theorem fin_a {l0 l:List Wl} {W:List Int} {r:Nat} {f:Int} (hS:(W,l)=zbx l0 r) (hf:f=if l0.length=0 then 0 else ((zd6 W:Nat):Int)) (hr:f+r≤127) (h0: ¬f > 0):W=(zbx l0 127).1:=by
 by_cases h:l0.length=0
 ·have:l0= []:=List.eq_nil_of_length_eq_zero h
  subst this
  rw [rounds_nil] at hS ⊢;exact congrArg Prod.fst hS
 ·rw [if_neg h] at hf
  rw [zib (S:=(W,l)) (by show zd6 W=0;omega) hS.symm om]
theorem fin_b {l0 l:List Wl} {W:List Int} {r k t:Nat} {f:Int} (hS:(W,l)=itr (zer k) t (zes l0 (zbx l0 r) k)) (hk:k < l0.length) (ht:t≤wtOf l0 k) (hf:f=((zd6 W:Nat):Int)) (h0:f=0) (hr:r+1≤127):W=(zbx l0 127).1:=by
 rw [zib (S:=(W,l)) (by show zd6 W=0;omega) (point_full hS hk ht (by show zd6 W=0;omega)) hr]
theorem set_id {l:List Wl} {k:Nat} {x:Wl} (hx:l[k]? =some x) (ha:0≤x.a∧x.a < 127):l=l.set k ⟨x.s,zcy x.a x.b 0,x.b,x.w⟩:=by
 rw [walk_0 ha]
 have h:=zZ hx
 rw [List.getElem?_eq_getElem h] at hx;cases hx
 exact (List.set_getElem_self h).symm
theorem nob_next {i:Nat} {W:List Int} (h:W=List.replicate i (-1)++List.replicate (127 - i) 0) (hi:i < 127):W.set i (-1)=List.replicate (i+1) (-1)++List.replicate (127 - (i+1)) 0:=by
 subst h
 rw [List.set_append_right _ _ (by simp)]
 simp only [List.length_replicate,Nat.sub_self]
 rw [show 127 - i=(127 - (i+1))+1 by omega,List.replicate_succ,List.set_cons_zero,List.replicate_succ',List.append_assoc];rfl
end Go.Rh

set_option maxHeartbeats 8000000
namespace Go.Rh
theorem spun127C {P:Program} [PrC P] (ns:List Int) (hl:ns.length≤1000):
    Env P "roundhouse/wheel.spun" [uv 127,sv 0 0 ns.length ns.length] ([cr (ii ns)]) (Ans (iv (zaZ 127 ns)) [cr (ii ns)]):=by
 refine Env.by2 PrC.wheel_spun ?_
 unfold ze2
 show GC _ 1 _ _ ⟨reg [(0,uv 127),(1,sv 0 0 ns.length ns.length)],[cr (ii ns)]⟩
 refine zJ (zN (o_d 1 [(4,iv 0)] (zE (zA (zJ (zN (o_d 2 [(6,sv 0 0 ns.length ns.length),(5,.agg #[uv 0,uv 0])] (qT (zeC (a1:= [.agg #[uv 0,uv 0],sv 0 0 ns.length ns.length]) [0] [ii ns] (wordsC 0 0 ns (by first | omega | decide | (simp;done))) rfl (fun _=>zM (qP rfl) (zM rfl rfl)) ⟨⟨_,rfl⟩,zay _,trivial⟩ rfl ?_)))))))))
 exact o_d 4 [(4,iv (i64.wrap ((zb2 0 0 ns).tmod 127))),(10,iv (i64.wrap ((zb2 0 0 ns).tmod 127))),(9,uv ((zb2 0 0 ns).tmod 127)),(8,uv 127)] (zE (zA (qV (⟨trivial,⟨reg [(4,iv (i64.wrap ((zb2 0 0 ns).tmod 127)))],[cr (ii ns)]⟩,Wk.ren [0] rfl rfl dC ⟨rfl,trivial⟩ ⟨.inl (zW (zay ns)),trivial⟩,[iv (i64.wrap ((zb2 0 0 ns).tmod 127))],(zU rfl rfl),(zK rfl z5),(congrArg wh (spun_eq om)),rfl⟩))))
theorem spun126C {P:Program} [PrC P] (ns:List Int) (hl:ns.length≤1000):
    Env P "roundhouse/wheel.spun" [uv 126,sv 0 0 ns.length ns.length] ([cr (ii ns)]) (Ans (iv (zaZ 126 ns)) [cr (ii ns)]):=by
 refine Env.by2 PrC.wheel_spun ?_
 unfold ze2
 show GC _ 1 _ _ ⟨reg [(0,uv 126),(1,sv 0 0 ns.length ns.length)],[cr (ii ns)]⟩
 refine zJ (zN (o_d 1 [(4,iv 0)] (zE (zA (zJ (zN (o_d 2 [(6,sv 0 0 ns.length ns.length),(5,.agg #[uv 0,uv 0])] (qT (zeC (a1:= [.agg #[uv 0,uv 0],sv 0 0 ns.length ns.length]) [0] [ii ns] (wordsC 0 0 ns (by first | omega | decide | (simp;done))) rfl (fun _=>zM (qP rfl) (zM rfl rfl)) ⟨⟨_,rfl⟩,zay _,trivial⟩ rfl ?_)))))))))
 exact o_d 4 [(4,iv (i64.wrap ((zb2 0 0 ns).tmod 126))),(10,iv (i64.wrap ((zb2 0 0 ns).tmod 126))),(9,uv ((zb2 0 0 ns).tmod 126)),(8,uv 126)] (zE (zA (qV (⟨trivial,⟨reg [(4,iv (i64.wrap ((zb2 0 0 ns).tmod 126)))],[cr (ii ns)]⟩,Wk.ren [0] rfl rfl dC ⟨rfl,trivial⟩ ⟨.inl (zW (zay ns)),trivial⟩,[iv (i64.wrap ((zb2 0 0 ns).tmod 126))],(zU rfl rfl),(zK rfl z5),(congrArg wh (spun_eq om)),rfl⟩))))
abbrev vd (a:q9) b c d:=[cw (pl a),cw (ii b),slB zWl (zaX wlF c) d]
abbrev v5 a b c d:=[(9,iv (a:Int)),(56,iv (a:Int)),(55,iv (b:Nat)),(8,iv c),(5,slV 2 b d),(3,pv 1 0)]
abbrev WT (a:q9) b c d e:=cw (pl a)::cw (ii b)::slB zWl (zaX wlF c) d::e
theorem makeWC {P:Program} [PrC P] (p:q9):
    Env P "roundhouse/wheel.Make" [zau p] ([]) (fun v h'=> ∃m,v=slV 0 127 (some m)∧h'= [slB zI (ii (qA p)) (some m)]):=by
 refine Env.by2 PrC.wheel_Make ?_
 unfold zhb
 show GC _ 0 _ _ ⟨reg [(0,zau p)],[]⟩
 refine zJ (zN (o_b 2 [(2,.slice none 0 0),(1,pv 0 0)] [cw (pl p)] (zE (zA (gscp (fun _ _=>False) ?_ (fun _ _ q=>q.elim))))))
 refine zJ (zN (o_b 1 [(3,pv 1 0)] [cw (pl p),cw (ii (List.replicate 127 0))] (zE (zA (zJ (zJ (zN (o_d 1 [(11,iv 0)] (zE (zA (zab (zdv (fun μ s=> ∃(i0:Nat),∃(W0:List Int),μ=127 - i0∧(i0≤127)∧(W0=List.replicate i0 (-1)++List.replicate (127 - i0) 0)∧(W0.length=127)∧s=⟨reg [(11,iv (i0:Int)),(3,pv 1 0),(1,pv 0 0)],[cw (pl p),cw (ii W0)]⟩) ⟨(127 - 0), ?_⟩ ?_))))))))))))
 ·skip
  refine ⟨⟨reg [(11,iv (0:Int)),(3,pv 1 0),(1,pv 0 0)],[cw (pl p),cw (ii (List.replicate 127 0))]⟩, ?_⟩
  refine ⟨?_, ?_⟩
  ·exact Wk.ren [0,1] rfl rfl dC ⟨rfl,rfl,rfl,trivial⟩ ⟨.inl (zW (zaq p)),.inl (zW (zay (List.replicate 127 0))),trivial⟩
  ·exact ⟨0,(List.replicate 127 0),rfl,om,rfl,(List.length_replicate ..),rfl⟩
 rintro μ s ⟨i0,W0,rfl,hi0,hW0,hwl,rfl⟩
 refine zJ (zN (o_d 1 [(12,bv (decide ((i0:Int) < 127)))] (zE (zA (zJ (qK (t:=decide ((i0:Int) < 127)) rfl (fun h1=>?_) (fun h1=>?_)))))))
 ·skip
  have h1':(i0:Int) < 127:=of_decide_eq_true h1
  refine qM (zA (zJ (zab (zJ (zN (o_d 2 [(4,iv (i0:Int)),(13,iv (i0:Int))] (zE (zA (zN (o_d 1 [(14,iv (i0:Int))] (o_s (by exact zaN (o:=0) (o':=i0) rfl rfl om om) ?_)))))))))))
  refine zdu (by refine zao (c':=ii (W0.set i0 (-1))) rfl rfl rfl ?_ ?_ ?_;exact rfl;exact (by rw [zaD,hwl];omega);exact ii_w (i:=i0) rfl (by rw [hwl];omega)) ?_
  refine zE (zA (zN (o_s (by refine zR (v:= .int .i64 (i64.wrap ((i0:Int)+1))) (congrArg wh (w64 om om)) ?_;kernel_rfl) ?_)))
  refine o_d 1 [(11,iv ((i0:Int)+1))] (zE (⟨127 - (i0+1), ?_⟩))
  refine ⟨⟨reg [(11,iv ((i0+1):Int)),(3,pv 1 0),(1,pv 0 0)],[cw (pl p),cw (ii (W0.set i0 (-1)))]⟩, ?_⟩
  refine zee om ⟨?_, ?_⟩
  ·exact Wk.ren [0,1] rfl rfl dC ⟨rfl,rfl,rfl,trivial⟩ ⟨.inl (zW (zaq p)),.inl (zW (zay (W0.set i0 (-1)))),trivial⟩
  ·exact ⟨(i0+1),(W0.set i0 (-1)),rfl,om,(nob_next hW0 om),((List.length_set ..).trans hwl),rfl⟩
 have h1': ¬((i0:Int) < 127):=of_decide_eq_false h1
 refine zc0 (zA (zJ (zN (o_d 1 [(5,.slice none 0 0)] (zE (zA (zJ (zJ (zN (o_d 1 [(17,pv 0 3)] (o_s (by refine zV (v:=zft p) rfl rfl ?_;exact pl_rA p) ?_)))))))))))
 refine o_d 1 [(19,iv 0)] (zE (zA (zab (zdv (fun μ s=> ∃(i:Nat),∃(l1:List Wl),∃(n1:Nat),∃(o1:Option Nat),μ=64 - i∧(i≤64)∧(l1=ziU p i)∧(n1=l1.length∧n1≤i)∧(o1=none→n1=0)∧s=⟨reg [(19,iv (i:Int)),(18,zft p),(5,slV 2 n1 o1),(3,pv 1 0)],(vd p W0 l1 o1)⟩) ⟨(64 - 0), ?_⟩ ?_))))
 ·skip
  refine ⟨⟨reg [(19,iv (0:Int)),(18,zft p),(5,slV 2 0 none),(3,pv 1 0)],[cw (pl p),cw (ii W0),slB zWl (zaX wlF ([]:List Wl)) none]⟩, ?_⟩
  refine ⟨?_, ?_⟩
  ·exact Wk.ren [0,1,4] rfl rfl dC ⟨rfl,((qP (zfc p))).trans rfl,rfl,rfl,trivial⟩ ⟨.inl (zW (zaq p)),.inl (zW (zay W0)),.inr ⟨rfl,rfl⟩,trivial⟩
  ·exact ⟨0,([]:List Wl),0,none,rfl,om,rfl,⟨rfl,om⟩,(fun _=>rfl),rfl⟩
 rintro μ s ⟨i,l1,n1,o1,rfl,hi,hl1,hn1,ho1,rfl⟩
 refine zJ (zN (o_d 1 [(20,bv (decide ((i:Int) < 64)))] (zE (zA (zJ (qK (t:=decide ((i:Int) < 64)) rfl (fun h2=>?_) (fun h2=>?_)))))))
 ·skip
  have h2':(i:Int) < 64:=of_decide_eq_true h2
  refine qM (zA (zJ (zab (zJ (zN (o_d 1 [(21,iv (i:Int))] (o_s (by refine run_ixA (v:= .agg #[iv (p (3+5*i)),iv (p (3+5*i+1)),iv (p (3+5*i+2)),iv (p (3+5*i+3)),iv (p (3+5*i+4))]) (o:=5*i) rfl rfl om om ?_;exact slots_r p i om om) ?_)))))))
  refine o_b 3 [(6,iv (i:Int)),(7,pv 3 0)] (WT p W0 l1 o1 [cw [iv (p (3+5*i)),iv (p (3+5*i+1)),iv (p (3+5*i+2)),iv (p (3+5*i+3)),iv (p (3+5*i+4))]]) (zE (zA (zJ (zN (o_d 3 [(25,bv ((p (3+5*i))==2)),(24,iv (p (3+5*i))),(23,pv 3 0)] (zE (zA (qK (t:=(p (3+5*i))==2) rfl (fun h3=>?_) (fun h3=>?_)))))))))
  ·skip
   have h3':p (3+5*i)=2:=zaL h3
   refine zeW (WT p W0 l1 o1 [cw [iv (p (3+5*i)),iv (p (3+5*i+1)),iv (p (3+5*i+2)),iv (p (3+5*i+3)),iv (p (3+5*i+4))],.gone,.gone,.gone]) (by kernel_rfl) (d_n 7 7 5 [(32,sv 4 0 3 3),(31,iv (p (3+5*i+2))),(30,pv 3 2),(29,iv (p (3+5*i+1))),(28,pv 3 1),(27,iv (i:Int)),(26,slV 2 n1 o1)] (WT p W0 l1 o1 [cw [iv (p (3+5*i)),iv (p (3+5*i+1)),iv (p (3+5*i+2)),iv (p (3+5*i+3)),iv (p (3+5*i+4))],cw [iv 1,iv (p (3+5*i+1)),iv (p (3+5*i+2))],.gone,.gone]) [⟨6,[],[4],none⟩,⟨5,[3],[],none⟩,⟨3,[3],[],none⟩] (by kernel_rfl) rfl rfl ?_)
   have hsp127:=zfa (m:=127) (ns:= [1,p (3+5*i+1),p (3+5*i+2)]) dC
   refine d_clG [4] [cr [iv 1,iv (p (3+5*i+1)),iv (p (3+5*i+2))]] [uv 127,sv 0 0 3 3] (spun127C [1,p (3+5*i+1),p (3+5*i+2)] (by simp)) rfl rfl ⟨⟨_,rfl,zbZ rfl (fun q=>rfl)⟩,trivial⟩ dC ⟨_,_,⟨rfl,rfl⟩,Nat.le_refl _,zbG [_] []⟩ ?_ (by kernel_rfl)
   rintro v1 h1' ⟨rfl,rfl⟩
   refine ⟨iv (zaZ 127 [1,p (3+5*i+1),p (3+5*i+2)]),(WT p W0 l1 o1 [cw [iv (p (3+5*i)),iv (p (3+5*i+1)),iv (p (3+5*i+2)),iv (p (3+5*i+3)),iv (p (3+5*i+4))],cw [iv 1,iv (p (3+5*i+1)),iv (p (3+5*i+2))],.gone,.gone]),[],rfl,⟨rfl,rfl,rfl,rfl,rfl,rfl,rfl,trivial⟩,trivial, ?_⟩
   refine d_n 5 13 6 [(38,sv 5 0 3 3),(37,iv (p (3+5*i+2))),(36,pv 3 2),(35,iv (p (3+5*i+1))),(34,pv 3 1)] (WT p W0 l1 o1 [cw [iv (p (3+5*i)),iv (p (3+5*i+1)),iv (p (3+5*i+2)),iv (p (3+5*i+3)),iv (p (3+5*i+4))],cw [iv 1,iv (p (3+5*i+1)),iv (p (3+5*i+2))],cw [iv 2,iv (p (3+5*i+1)),iv (p (3+5*i+2))],.gone]) [⟨12,[],[5],none⟩,⟨11,[3],[],none⟩,⟨9,[3],[],none⟩,⟨7,[4],[],some 7⟩,⟨6,[],[4],none⟩,⟨5,[3],[],none⟩,⟨3,[3],[],none⟩] (by kernel_rfl) rfl rfl ?_
   have hsp126:=zfa (m:=126) (ns:= [2,p (3+5*i+1),p (3+5*i+2)]) dC
   refine d_clG [5] [cr [iv 2,iv (p (3+5*i+1)),iv (p (3+5*i+2))]] [uv 126,sv 0 0 3 3] (spun126C [2,p (3+5*i+1),p (3+5*i+2)] (by simp)) rfl rfl ⟨⟨_,rfl,zbZ rfl (fun q=>rfl)⟩,trivial⟩ dC ⟨_,_,⟨rfl,rfl⟩,Nat.le_refl _,zbG [_] []⟩ ?_ (by kernel_rfl)
   rintro v1 h1' ⟨rfl,rfl⟩
   refine ⟨iv (zaZ 126 [2,p (3+5*i+1),p (3+5*i+2)]),(WT p W0 l1 o1 [cw [iv (p (3+5*i)),iv (p (3+5*i+1)),iv (p (3+5*i+2)),iv (p (3+5*i+3)),iv (p (3+5*i+4))],cw [iv 1,iv (p (3+5*i+1)),iv (p (3+5*i+2))],cw [iv 2,iv (p (3+5*i+1)),iv (p (3+5*i+2))],.gone]),[],rfl,⟨rfl,rfl,rfl,rfl,rfl,rfl,rfl,trivial⟩,trivial, ?_⟩
   refine d_s rfl rfl rfl (by kernel_rfl) (by refine zR (v:= .int .i64 (i64.wrap (1+zaZ 126 [2,p (3+5*i+1),p (3+5*i+2)]))) (congrArg wh (w64 om om)) ?_;kernel_rfl) ?_
   refine d_n 6 21 7 [(46,sv 6 0 1 1),(45,.agg #[iv (i:Int),iv (zaZ 127 [1,p (3+5*i+1),p (3+5*i+2)]),iv (1+zaZ 126 [2,p (3+5*i+1),p (3+5*i+2)]),iv (if (8:Int) < (if (1:Int) > p (3+5*i+3) then (1:Int) else p (3+5*i+3)) then (8:Int) else (if (1:Int) > p (3+5*i+3) then (1:Int) else p (3+5*i+3)))]),(44,iv (if (8:Int) < (if (1:Int) > p (3+5*i+3) then (1:Int) else p (3+5*i+3)) then (8:Int) else (if (1:Int) > p (3+5*i+3) then (1:Int) else p (3+5*i+3)))),(43,iv (if (1:Int) > p (3+5*i+3) then (1:Int) else p (3+5*i+3))),(42,iv (p (3+5*i+3))),(41,pv 3 3)] [cw (pl p),cw (ii W0),slB zWl (zaX wlF l1) o1,cw [iv (p (3+5*i)),iv (p (3+5*i+1)),iv (p (3+5*i+2)),iv (p (3+5*i+3)),iv (p (3+5*i+4))],cw [iv 1,iv (p (3+5*i+1)),iv (p (3+5*i+2))],cw [iv 2,iv (p (3+5*i+1)),iv (p (3+5*i+2))],cw [iv (i:Int),iv (zaZ 127 [1,p (3+5*i+1),p (3+5*i+2)]),iv (1+zaZ 126 [2,p (3+5*i+1),p (3+5*i+2)]),iv (if (8:Int) < (if (1:Int) > p (3+5*i+3) then (1:Int) else p (3+5*i+3)) then (8:Int) else (if (1:Int) > p (3+5*i+3) then (1:Int) else p (3+5*i+3)))]] [⟨20,[],[6],none⟩,⟨16,[3],[],none⟩,⟨13,[5],[],some 7⟩,⟨12,[],[5],none⟩,⟨11,[3],[],none⟩,⟨9,[3],[],none⟩,⟨7,[4],[],some 7⟩,⟨6,[],[4],none⟩,⟨5,[3],[],none⟩,⟨3,[3],[],none⟩] (by kernel_rfl) rfl rfl (d_appC (k:=2) (n:=n1) (o:=o1) (q:=1) (cs:=zaX wlF l1) (xs:= [iv (i:Int),iv (zaZ 127 [1,p (3+5*i+1),p (3+5*i+2)]),iv (1+zaZ 126 [2,p (3+5*i+1),p (3+5*i+2)]),iv (if (8:Int) < (if (1:Int) > p (3+5*i+3) then (1:Int) else p (3+5*i+3)) then (8:Int) else (if (1:Int) > p (3+5*i+3) then (1:Int) else p (3+5*i+3)))]) (cs2:=zaX wlF (l1++ [(Wl.mk (i:Int) (zaZ 127 [1,p (3+5*i+1),p (3+5*i+2)]) (1+zaZ 126 [2,p (3+5*i+1),p (3+5*i+2)]) (if (8:Int) < (if (1:Int) > p (3+5*i+3) then (1:Int) else p (3+5*i+3)) then (8:Int) else (if (1:Int) > p (3+5*i+3) then (1:Int) else p (3+5*i+3))))])) (zl:=zWl) rfl rfl rfl (fun m q=>by subst q;rfl) (fun z=>by have h0:=ho1 z;have h1:l1= []:=List.eq_nil_of_length_eq_zero om;subst h1;exact ⟨h0,rfl⟩) (by rw [zbT zeg];first | omega | (simp;try omega)) rfl rfl (zbI rfl rfl (by simp)) (by rfl) om om (wl_app1 l1 (i:Int) (zaZ 127 [1,p (3+5*i+1),p (3+5*i+2)]) (1+zaZ 126 [2,p (3+5*i+1),p (3+5*i+2)]) (if (8:Int) < (if (1:Int) > p (3+5*i+3) then (1:Int) else p (3+5*i+3)) then (8:Int) else (if (1:Int) > p (3+5*i+3) then (1:Int) else p (3+5*i+3)))) (fun m4 e5=>?_) (fun m4=>?_))
   ·skip
    subst e5
    refine d_n 1 23 7 [(5,sv 2 0 (n1+1) (n1+1+m4))] [cw (pl p),cw (ii W0),cw (zaX wlF (l1++ [(Wl.mk (i:Int) (zaZ 127 [1,p (3+5*i+1),p (3+5*i+2)]) (1+zaZ 126 [2,p (3+5*i+1),p (3+5*i+2)]) (if (8:Int) < (if (1:Int) > p (3+5*i+3) then (1:Int) else p (3+5*i+3)) then (8:Int) else (if (1:Int) > p (3+5*i+3) then (1:Int) else p (3+5*i+3))))])++zah zWl m4),cw [iv (p (3+5*i)),iv (p (3+5*i+1)),iv (p (3+5*i+2)),iv (p (3+5*i+3)),iv (p (3+5*i+4))],cw [iv 1,iv (p (3+5*i+1)),iv (p (3+5*i+2))],cw [iv 2,iv (p (3+5*i+1)),iv (p (3+5*i+2))],cw [iv (i:Int),iv (zaZ 127 [1,p (3+5*i+1),p (3+5*i+2)]),iv (1+zaZ 126 [2,p (3+5*i+1),p (3+5*i+2)]),iv (if (8:Int) < (if (1:Int) > p (3+5*i+3) then (1:Int) else p (3+5*i+3)) then (8:Int) else (if (1:Int) > p (3+5*i+3) then (1:Int) else p (3+5*i+3)))]] [⟨20,[],[6],none⟩,⟨16,[3],[],none⟩,⟨13,[5],[],some 7⟩,⟨12,[],[5],none⟩,⟨11,[3],[],none⟩,⟨9,[3],[],none⟩,⟨7,[4],[],some 7⟩,⟨6,[],[4],none⟩,⟨5,[3],[],none⟩,⟨3,[3],[],none⟩] (by kernel_rfl) rfl rfl (zgQ (zT [(5,sv 2 0 (n1+1) (n1+1+m4)),(19,iv (i:Int)),(18,zft p),(3,pv 1 0)] (zN (o_s (by refine zR (v:= .int .i64 (i64.wrap ((i:Int)+1))) (congrArg wh (w64 om om)) ?_;kernel_rfl) ?_))))
    refine o_d 1 [(19,iv ((i:Int)+1))] (zE (⟨64 - (i+1), ?_⟩))
    refine ⟨⟨reg [(19,iv ((i+1):Int)),(18,zft p),(5,slV 2 (n1+1) (some m4)),(3,pv 1 0)],[cw (pl p),cw (ii W0),slB zWl (zaX wlF (l1++ [(Wl.mk (i:Int) (zaZ 127 [1,p (3+5*i+1),p (3+5*i+2)]) (1+zaZ 126 [2,p (3+5*i+1),p (3+5*i+2)]) (if (8:Int) < (if (1:Int) > p (3+5*i+3) then (1:Int) else p (3+5*i+3)) then (8:Int) else (if (1:Int) > p (3+5*i+3) then (1:Int) else p (3+5*i+3))))])) (some m4)]⟩, ?_⟩
    refine zee om ⟨?_, ?_⟩
    ·exact Wk.ren [0,1,2] rfl rfl dC ⟨rfl,((qP (zfc p))).trans rfl,rfl,rfl,trivial⟩ ⟨.inl (zW (zaq p)),.inl (zW (zay W0)),.inl (zW (zcF _ _)),trivial⟩
    ·exact ⟨(i+1),(l1++ [(Wl.mk (i:Int) (zaZ 127 [1,p (3+5*i+1),p (3+5*i+2)]) (1+zaZ 126 [2,p (3+5*i+1),p (3+5*i+2)]) (if (8:Int) < (if (1:Int) > p (3+5*i+3) then (1:Int) else p (3+5*i+3)) then (8:Int) else (if (1:Int) > p (3+5*i+3) then (1:Int) else p (3+5*i+3))))]),(n1+1),(some m4),rfl,om,(by rw [hl1];simp only [ziU];rw [if_pos (show p (3+5*i)=2 by assumption)];rfl),(by simp only [List.length_append,List.length_singleton];omega),(fun z=>by cases z),rfl⟩
   refine d_n 1 23 7 [(5,sv 7 0 (n1+1) (n1+1+m4))] (WT p W0 l1 o1 [cw [iv (p (3+5*i)),iv (p (3+5*i+1)),iv (p (3+5*i+2)),iv (p (3+5*i+3)),iv (p (3+5*i+4))],cw [iv 1,iv (p (3+5*i+1)),iv (p (3+5*i+2))],cw [iv 2,iv (p (3+5*i+1)),iv (p (3+5*i+2))],cw [iv (i:Int),iv (zaZ 127 [1,p (3+5*i+1),p (3+5*i+2)]),iv (1+zaZ 126 [2,p (3+5*i+1),p (3+5*i+2)]),iv (if (8:Int) < (if (1:Int) > p (3+5*i+3) then (1:Int) else p (3+5*i+3)) then (8:Int) else (if (1:Int) > p (3+5*i+3) then (1:Int) else p (3+5*i+3)))],cw (zaX wlF (l1++ [(Wl.mk (i:Int) (zaZ 127 [1,p (3+5*i+1),p (3+5*i+2)]) (1+zaZ 126 [2,p (3+5*i+1),p (3+5*i+2)]) (if (8:Int) < (if (1:Int) > p (3+5*i+3) then (1:Int) else p (3+5*i+3)) then (8:Int) else (if (1:Int) > p (3+5*i+3) then (1:Int) else p (3+5*i+3))))])++zah zWl m4)]) [⟨20,[],[6],none⟩,⟨16,[3],[],none⟩,⟨13,[5],[],some 7⟩,⟨12,[],[5],none⟩,⟨11,[3],[],none⟩,⟨9,[3],[],none⟩,⟨7,[4],[],some 7⟩,⟨6,[],[4],none⟩,⟨5,[3],[],none⟩,⟨3,[3],[],none⟩] (by kernel_rfl) rfl rfl (zgQ (zT [(5,sv 7 0 (n1+1) (n1+1+m4)),(19,iv (i:Int)),(18,zft p),(3,pv 1 0)] (zN (o_s (by refine zR (v:= .int .i64 (i64.wrap ((i:Int)+1))) (congrArg wh (w64 om om)) ?_;kernel_rfl) ?_))))
   refine o_d 1 [(19,iv ((i:Int)+1))] (zE (⟨64 - (i+1), ?_⟩))
   refine ⟨⟨reg [(19,iv ((i+1):Int)),(18,zft p),(5,slV 2 (n1+1) (some m4)),(3,pv 1 0)],[cw (pl p),cw (ii W0),slB zWl (zaX wlF (l1++ [(Wl.mk (i:Int) (zaZ 127 [1,p (3+5*i+1),p (3+5*i+2)]) (1+zaZ 126 [2,p (3+5*i+1),p (3+5*i+2)]) (if (8:Int) < (if (1:Int) > p (3+5*i+3) then (1:Int) else p (3+5*i+3)) then (8:Int) else (if (1:Int) > p (3+5*i+3) then (1:Int) else p (3+5*i+3))))])) (some m4)]⟩, ?_⟩
   refine zee om ⟨?_, ?_⟩
   ·exact Wk.ren [0,1,7] rfl rfl dC ⟨rfl,((qP (zfc p))).trans rfl,rfl,rfl,trivial⟩ ⟨.inl (zW (zaq p)),.inl (zW (zay W0)),.inl (zW (zcF _ _)),trivial⟩
   ·exact ⟨(i+1),(l1++ [(Wl.mk (i:Int) (zaZ 127 [1,p (3+5*i+1),p (3+5*i+2)]) (1+zaZ 126 [2,p (3+5*i+1),p (3+5*i+2)]) (if (8:Int) < (if (1:Int) > p (3+5*i+3) then (1:Int) else p (3+5*i+3)) then (8:Int) else (if (1:Int) > p (3+5*i+3) then (1:Int) else p (3+5*i+3))))]),(n1+1),(some m4),rfl,om,(by rw [hl1];simp only [ziU];rw [if_pos (show p (3+5*i)=2 by assumption)];rfl),(by simp only [List.length_append,List.length_singleton];omega),(fun z=>by cases z),rfl⟩
  have h3': ¬(p (3+5*i)=2):=zaM h3
  refine qM (zA (zN (o_s (by refine zR (v:= .int .i64 (i64.wrap ((i:Int)+1))) (congrArg wh (w64 om om)) ?_;kernel_rfl) ?_)))
  refine o_d 1 [(19,iv ((i:Int)+1))] (zE (⟨64 - (i+1), ?_⟩))
  refine ⟨⟨reg [(19,iv ((i+1):Int)),(18,zft p),(5,slV 2 n1 o1),(3,pv 1 0)],(vd p W0 l1 o1)⟩, ?_⟩
  refine zee om ⟨?_, ?_⟩
  ·exact Wk.ren [0,1,2] rfl rfl dC ⟨rfl,((qP (zfc p))).trans rfl,((zbO o1 rfl)).trans rfl,rfl,trivial⟩ ⟨.inl (zW (zaq p)),.inl (zW (zay W0)),.inl (qX o1 (fun _=>(zcF _ _))),trivial⟩
  ·exact ⟨(i+1),l1,n1,o1,rfl,om,(by rw [hl1];simp only [ziU];rw [if_neg (show¬p (3+5*i)=2 by assumption)]),om,ho1,rfl⟩
 have h2': ¬((i:Int) < 64):=of_decide_eq_false h2
 refine zc0 (zA (zJ (zN (o_d 1 [(8,iv 127)] (zE (zA (ziX (fun s=> ∃(f0:Int),0=0∧(f0=if n1=0 then 0 else 127)∧s=⟨reg [(8,iv f0),(5,slV 2 n1 o1),(3,pv 1 0)],(vd p W0 l1 o1)⟩) ?_ ?_)))))))
 ·skip
  refine zJ (zN (o_d 1 [(49,slV 2 n1 o1)] (o_s (by exact zf4 rfl ho1) ?_)))
  refine o_d 1 [(51,bv (((n1:Nat):Int)==0))] (zE (zA (qK (t:=((n1:Nat):Int)==0) rfl (fun h6=>?_) (fun h6=>?_))))
  ·skip
   have h6':((n1:Nat):Int)=0:=zaL h6
   refine zN (o_d 1 [(8,iv 0)] (zE (⟨⟨reg [(8,iv 0),(5,slV 2 n1 o1),(3,pv 1 0)],(vd p W0 l1 o1)⟩, ?_⟩)))
   refine ⟨?_, ?_⟩
   ·exact Wk.ren [0,1,2] rfl rfl dC ⟨rfl,((zbO o1 rfl)).trans rfl,rfl,trivial⟩ ⟨.inl (zW (zaq p)),.inl (zW (zay W0)),.inl (qX o1 (fun _=>(zcF _ _))),trivial⟩
   ·exact ⟨0,rfl,(by first | (rw [if_pos om];done) | (rw [if_neg om];done)),rfl⟩
  have h6': ¬(((n1:Nat):Int)=0):=zaM h6
  refine qM (⟨⟨reg [(8,iv 127),(5,slV 2 n1 o1),(3,pv 1 0)],(vd p W0 l1 o1)⟩, ?_⟩)
  refine ⟨?_, ?_⟩
  ·exact Wk.ren [0,1,2] rfl rfl dC ⟨rfl,((zbO o1 rfl)).trans rfl,rfl,trivial⟩ ⟨.inl (zW (zaq p)),.inl (zW (zay W0)),.inl (qX o1 (fun _=>(zcF _ _))),trivial⟩
  ·exact ⟨127,rfl,(by first | (rw [if_pos om];done) | (rw [if_neg om];done)),rfl⟩
 rintro s ⟨f0,-,hf0,rfl⟩
 have hi64:i=64:=om
 have hW9:W0=zij:=by rw [hW0,show i0=127 by omega];rfl
 obtain ⟨L0,hL0⟩: ∃z,z=ziU p 64:=⟨_,rfl⟩
 have hok0:WOk L0 W0 l1:=by rw [hl1,hW9,hi64,hL0];exact WOk.init (wlks_ok p (Nat.le_refl _))
 have hS0:(W0,l1)=zbx L0 0:=by rw [hl1,hW9,hi64,hL0];rfl
 have hlen:L0.length=n1:=by rw [hn1.1,hl1,hi64,hL0]
 refine zJ (glabel (zA (zJ (zab (zdv (fun μ s=> ∃(r:Nat),∃(W:List Int),∃(l:List Wl),∃(f:Int),μ=f.toNat∧(WOk L0 W l)∧((W,l)=zbx L0 r)∧(f=if L0.length=0 then 0 else ((zd6 W:Nat):Int))∧(f+r≤127)∧s=⟨reg [(8,iv f),(5,slV 2 n1 o1),(3,pv 1 0)],(vd p W l o1)⟩) ⟨f0.toNat, ?_⟩ ?_)))))
 ·skip
  refine ⟨⟨reg [(8,iv f0),(5,slV 2 n1 o1),(3,pv 1 0)],(vd p W0 l1 o1)⟩, ?_⟩
  refine ⟨?_, ?_⟩
  ·exact Wk.ren [0,1,2] rfl rfl dC ⟨rfl,((zbO o1 rfl)).trans rfl,rfl,trivial⟩ ⟨.inl (zW (zaq p)),.inl (zW (zay W0)),.inl (qX o1 (fun _=>(zcF _ _))),trivial⟩
  ·exact ⟨0,W0,l1,f0,rfl,hok0,hS0,(by rw [hf0,hlen,hW9];rfl),(by rw [hf0];split<;>omega),rfl⟩
 rintro μ s ⟨r,W,l,f,rfl,hok,hS,hf,hr,rfl⟩
 refine zJ (zJ (zN (o_d 2 [(53,bv (decide (f > 0))),(52,iv f)] (zE (zA (qK (t:=decide (f > 0)) rfl (fun h7=>?_) (fun h7=>?_)))))))
 ·skip
  have h7':f > 0:=of_decide_eq_true h7
  refine qM (zA (zab (zJ (zN (o_d 1 [(54,slV 2 n1 o1)] (o_s (by exact zf4 rfl ho1) ?_))))))
  refine o_d 1 [(56,iv 0)] (zE (zA (zab (zdv (fun μ s=> ∃(k:Nat),∃(Wq:List Int),∃(lk:List Wl),∃(fk:Int),μ=n1 - k∧(k≤n1)∧(WOk L0 Wq lk)∧((Wq,lk)=zes L0 (zbx L0 r) k)∧(fk=((zd6 Wq:Nat):Int)∧fk≤f∧(1≤k→fk < f))∧s=⟨reg [(56,iv (k:Int)),(55,iv (n1:Nat)),(8,iv fk),(5,slV 2 n1 o1),(3,pv 1 0)],(vd p Wq lk o1)⟩) ⟨(n1 - 0), ?_⟩ ?_))))
  ·skip
   refine ⟨⟨reg [(56,iv (0:Int)),(55,iv (n1:Nat)),(8,iv f),(5,slV 2 n1 o1),(3,pv 1 0)],(vd p W l o1)⟩, ?_⟩
   refine ⟨?_, ?_⟩
   ·exact Wk.ren [0,1,2] rfl rfl dC ⟨rfl,rfl,rfl,((zbO o1 rfl)).trans rfl,rfl,trivial⟩ ⟨.inl (zW (zaq p)),.inl (zW (zay W)),.inl (qX o1 (fun _=>(zcF _ _))),trivial⟩
   ·exact ⟨0,W,l,f,rfl,om,hok,hS,(by rw [if_neg om] at hf;omega),rfl⟩
  rintro μ s ⟨k,Wq,lk,fk,rfl,hk,hokk,hSk,hfk,rfl⟩
  refine zJ (zN (o_d 1 [(57,bv (decide ((k:Int) < (n1:Nat))))] (zE (zA (zJ (qK (t:=decide ((k:Int) < (n1:Nat))) rfl (fun h8=>?_) (fun h8=>?_)))))))
  ·skip
   have h8':(k:Int) < (n1:Nat):=of_decide_eq_true h8
   have hl0:=hokk.len
   have hb1:k < lk.length:=om
   refine (zd5 hb1).elim fun x0 hx0q=>?_
   have hx0:=hx0q.1
   have hq1:=hokk.at_ hx0
   have hx0ok:=hq1.1
   have hx0w:=hq1.2
   have hx0b:=hx0ok.w
   refine qM (zA (zJ (zab (zJ (zN (o_d 2 [(9,iv (k:Int)),(58,iv (k:Int))] (zE (zA (zJ (zN (o_d 2 [(60,iv (k:Int)),(59,slV 2 n1 o1)] (o_s (by exact zdi (o':=4*k) rfl ho1 rfl om om) ?_))))))))))))
   refine o_s (by refine zcf (o':=3+4*k) rfl om) ?_
   refine o_s (by refine zV (v:=iv x0.w) rfl (hf_sl (n:=n1) rfl ho1 om) ?_;exact zcK (rec_r (m:=none) zeg (i:=k) (j:=3) om hx0 rfl)) ?_
   refine o_d 1 [(64,iv 0)] (zE (zA (zab (zdv (fun μ s=> ∃(t:Nat),∃(Wt:List Int),∃(lt:List Wl),∃(ft:Int),μ=x0.w.toNat - t∧((t:Int)≤x0.w)∧(WOk L0 Wt lt)∧((Wt,lt)=itr (zer k) t (zes L0 (zbx L0 r) k))∧(ft=((zd6 Wt:Nat):Int)∧ft≤fk∧(1≤t→ft < fk))∧s=⟨reg ((64,iv (t:Int))::(63,iv x0.w)::(v5 k n1 ft o1)),(vd p Wt lt o1)⟩) ⟨(x0.w.toNat - 0), ?_⟩ ?_))))
   ·skip
    refine ⟨⟨reg ((64,iv (0:Int))::(63,iv x0.w)::(v5 k n1 fk o1)),(vd p Wq lk o1)⟩, ?_⟩
    refine ⟨?_, ?_⟩
    ·exact Wk.ren [0,1,2] rfl rfl dC ⟨rfl,rfl,rfl,rfl,rfl,rfl,((zbO o1 rfl)).trans rfl,rfl,trivial⟩ ⟨.inl (zW (zaq p)),.inl (zW (zay Wq)),.inl (qX o1 (fun _=>(zcF _ _))),trivial⟩
    ·exact ⟨0,Wq,lk,fk,rfl,om,hokk,hSk,om,rfl⟩
   rintro μ s ⟨t,Wt,lt,ft,rfl,ht,hokt,hSt,hft,rfl⟩
   refine zJ (zN (o_d 1 [(65,bv (decide ((t:Int) < x0.w)))] (zE (zA (zJ (qK (t:=decide ((t:Int) < x0.w)) rfl (fun h9=>?_) (fun h9=>?_)))))))
   ·skip
    have h9':(t:Int) < x0.w:=of_decide_eq_true h9
    refine qM (zA (zJ (zab (zJ (zJ (zN (o_d 2 [(67,bv (ft==0)),(66,iv ft)] (zE (zA (qK (t:=ft==0) rfl (fun h10=>?_) (fun h10=>?_)))))))))))
    ·skip
     have h10':ft=0:=zaL h10
     refine zc0 (zA (zJ (zN (o_d 1 [(111,sv 1 0 127 127)] (zeu (k:=0) (n:=0) (o:=none) (q:=127) (cs:=ii ([]:List Int)) (xs:=ii Wt) (cs2:=ii Wt) (zl:=zI) rfl rfl rfl (fun m q=>by cases q) (fun _=>⟨rfl,rfl⟩) (by first | exact ii_len1 _ | (rw [zaD];omega) | simp [ii]) rfl rfl (zbI rfl (by rw [List.drop_zero];exact List.take_of_length_le (by rw [zaD,hokt.wl];omega)) (by rw [zaD,hokt.wl];omega)) (by rw [zaD,hokt.wl]) om om rfl (fun m11 e12=>?_) (fun m11=>?_))))))
     ·cases e12
     refine o_d 1 [(2,sv 3 0 127 (127+m11))] (zE (zA (qV ?_)))
     have hW9:Wt=qA p:=by rw [qA,←hL0];exact (fin_b hSt om om hft.1 om om)
     exact ⟨trivial,⟨reg [(2,sv 0 0 127 (127+m11))],[cw (ii Wt++zah zI m11)]⟩,Wk.ren [3] rfl rfl dC ⟨rfl,trivial⟩ ⟨.inl (zW (zaf Wt m11)),trivial⟩,[sv 0 0 127 (127+m11)],(zU rfl rfl),(zK rfl z5),m11,rfl,(by rw [←hW9];rfl)⟩
    have h10': ¬(ft=0):=zaM h10
    have hlt0:=hokt.len
    have hb2:k < lt.length:=om
    refine (zd5 hb2).elim fun x hxq=>?_
    have hx:=hxq.1
    have hq2:=hokt.at_ hx
    have hxok:=hq2.1
    have hxw:=hq2.2
    have hxs:=hxok.s
    have hxb:=hxok.b
    have hb3:zd6 Wt≠0:=om
    refine (found hokt.wl hb3 hxok.a hxok.b).elim fun n hnq=>?_
    have hn:=hnq.1
    have hn2:=hnq.2.1
    have hn3:=hnq.2.2.1
    have hp:=hnq.2.2.2
    refine qM (zA (zJ (zN (o_s (by refine zV (v:= .agg ⟨ii Wt⟩) rfl rfl ?_;exact ii_all hokt.wl) ?_))))
    refine o_b 1 [(10,pv 3 0)] (WT p Wt lt o1 [cw (ii (List.replicate 127 0))]) (zdu (by refine zao (c':=ii Wt) rfl rfl rfl ?_ ?_ ?_;exact (by show (ii Wt).length=127;rw [zaD,hokt.wl]);exact (by rw [zaD,(List.length_replicate ..)];omega);exact zgz (vs:=ii Wt) (c:=ii (List.replicate 127 0)) (by rw [zaD,zaD,hokt.wl,(List.length_replicate ..)])) ?_)
    refine zE (zA (zJ (zab (zdv (fun μ s=> ∃(m:Nat),∃(lm:List Wl),μ=n - m∧(m≤n)∧(lm=lt.set k ⟨x.s,zcy x.a x.b m,x.b,x.w⟩)∧(WOk L0 Wt lm)∧s=⟨reg ((10,pv 3 0)::(64,iv (t:Int))::(63,iv x0.w)::(v5 k n1 ft o1)),[cw (pl p),cw (ii Wt),slB zWl (zaX wlF lm) o1,cw (ii Wt)]⟩) ⟨(n - 0), ?_⟩ ?_))))
    ·skip
     refine ⟨⟨reg ((10,pv 3 0)::(64,iv (t:Int))::(63,iv x0.w)::(v5 k n1 ft o1)),[cw (pl p),cw (ii Wt),slB zWl (zaX wlF lt) o1,cw (ii Wt)]⟩, ?_⟩
     refine ⟨?_, ?_⟩
     ·exact Wk.ren [0,1,2,3] rfl rfl dC ⟨rfl,rfl,rfl,rfl,rfl,rfl,rfl,((zbO o1 rfl)).trans rfl,rfl,trivial⟩ ⟨.inl (zW (zaq p)),.inl (zW (zay Wt)),.inl (qX o1 (fun _=>(zcF _ _))),.inl (zW (zay Wt)),trivial⟩
     ·exact ⟨0,lt,rfl,(Nat.zero_le _),(set_id hx hxok.a),hokt,rfl⟩
    rintro μ s ⟨m,lm,rfl,hm,hlm,hokm,rfl⟩
    have hwr:=walk_rng x.a x.b m
    have hlt:=hokm.len
    have hx2:lm[k]? =some ⟨x.s,zcy x.a x.b m,x.b,x.w⟩:=by rw [hlm,List.getElem?_set_self om]
    refine zJ (zJ (zN (o_d 2 [(70,iv (k:Int)),(69,slV 2 n1 o1)] (o_s (by exact zdi (o':=4*k) rfl ho1 rfl om om) ?_))))
    refine o_s (by refine zcf (o':=1+4*k) rfl om) ?_
    refine o_s (by refine zV (v:=iv (zcy x.a x.b m)) rfl (hf_sl (n:=n1) rfl ho1 om) ?_;exact zcK (rec_r (m:=none) zeg (i:=k) (j:=1) om hx2 rfl)) ?_
    refine o_s (by exact zaN (o:=0) (o':=((zcy x.a x.b m).toNat)) rfl rfl om om) ?_
    refine o_s (by refine zV (v:=iv (Wt.getD ((zcy x.a x.b m).toNat) 0)) rfl rfl ?_;exact ii_g (i:=((zcy x.a x.b m).toNat)) rfl (by rw [hokt.wl];omega)) ?_
    refine o_d 1 [(76,bv ((Wt.getD ((zcy x.a x.b m).toNat) 0)!=(-1)))] (zE (zA (qK (t:=(Wt.getD ((zcy x.a x.b m).toNat) 0)!=(-1)) rfl (fun h13=>?_) (fun h13=>?_))))
    ·skip
     have h13':Wt.getD ((zcy x.a x.b m).toNat) 0≠(-1):=zfN h13
     have hmlt:m < n:=Nat.lt_of_le_of_ne hm (by rintro rfl;exact absurd hn2 (by assumption))
     refine qM (zA (zab (zbF ["roundhouse/wheel.spun"] (r_d 4 [(80,iv (k:Int)),(79,slV 2 n1 o1),(78,iv (k:Int)),(77,slV 2 n1 o1)] (r_s (by exact zdi (o':=4*k) rfl ho1 rfl om om) ?_)))))
     refine r_s (by refine zcf (o':=1+4*k) rfl om) ?_
     refine r_s (by refine zV (v:=iv (zcy x.a x.b m)) rfl (hf_sl (n:=n1) rfl ho1 om) ?_;exact zcK (rec_r (m:=none) zeg (i:=k) (j:=1) om hx2 rfl)) ?_
     refine r_d 2 [(85,iv (k:Int)),(84,slV 2 n1 o1)] (r_s (by exact zdi (o':=4*k) rfl ho1 rfl om om) ?_)
     refine r_s (by refine zcf (o':=2+4*k) rfl om) ?_
     refine r_s (by refine zV (v:=iv x.b) rfl (hf_sl (n:=n1) rfl ho1 om) ?_;exact zcK (rec_r (m:=none) zeg (i:=k) (j:=2) om hx2 rfl)) ?_
     refine r_s (by refine zR (v:= .int .i64 (i64.wrap (zcy x.a x.b m+x.b))) (congrArg wh (w64 om om)) ?_;kernel_rfl) ?_
     refine r_s (by refine zR (v:= .int .i64 ((zcy x.a x.b m+x.b).tmod 127)) (congrArg wh (rem_nn om)) ?_;kernel_rfl) ?_
     refine r_s (by exact zdi (o':=4*k) rfl ho1 rfl om om) ?_
     refine r_s (by refine zcf (o':=1+4*k) rfl om) ?_
     refine r_s0 (by exact run_stSl (n2:=n1) rfl rfl ho1 om rfl rfl (by rw [zbT zeg];omega) (rec_w (y:=(Wl.mk x.s ((zcy x.a x.b m+x.b) % 127) x.b x.w)) zeg (i:=k) (j:=1) om hx2 (Nat.le_of_ble_eq_true rfl) rfl)) ?_
     refine zbk (⟨n - (m+1), ?_⟩)
     refine ⟨⟨reg ((10,pv 3 0)::(64,iv (t:Int))::(63,iv x0.w)::(v5 k n1 ft o1)),[cw (pl p),cw (ii Wt),slB zWl (zaX wlF (lm.set k (Wl.mk x.s ((zcy x.a x.b m+x.b) % 127) x.b x.w))) o1,cw (ii Wt)]⟩, ?_⟩
     refine zee om ⟨?_, ?_⟩
     ·exact Wk.ren [0,1,2,3] rfl rfl dC ⟨rfl,rfl,rfl,rfl,rfl,rfl,rfl,((zbO o1 rfl)).trans rfl,rfl,trivial⟩ ⟨.inl (zW (zaq p)),.inl (zW (zay Wt)),.inl (qX o1 (fun _=>(zcF _ _))),.inl (zW (zay Wt)),trivial⟩
     ·exact ⟨(m+1),(lm.set k (Wl.mk x.s ((zcy x.a x.b m+x.b) % 127) x.b x.w)),rfl,om,(by rw [hlm,List.set_set,walk_1]),(WOk.set (x:=⟨x.s,zcy x.a x.b m,x.b,x.w⟩) hokm hx2 om),rfl⟩
    have h13': ¬(Wt.getD ((zcy x.a x.b m).toNat) 0≠(-1)):=zfO h13
    have hmn:m=n:=Nat.le_antisymm hm (Nat.le_of_not_lt fun q=>hn3 m q (Decidable.of_not_not (by assumption)))
    have hfree:Wt.getD (zcy x.a x.b m).toNat 0= -1:=by rw [hmn];exact hn2
    refine zc0 (zA (zJ (zbF ["roundhouse/wheel.spun"] (r_d 2 [(94,iv (k:Int)),(93,slV 2 n1 o1)] (r_s (by exact zdi (o':=4*k) rfl ho1 rfl om om) ?_)))))
    refine r_s (by refine zcf (o':=1+4*k) rfl om) ?_
    refine r_s (by refine zV (v:=iv (zcy x.a x.b m)) rfl (hf_sl (n:=n1) rfl ho1 om) ?_;exact zcK (rec_r (m:=none) zeg (i:=k) (j:=1) om hx2 rfl)) ?_
    refine r_d 2 [(99,iv (k:Int)),(98,slV 2 n1 o1)] (r_s (by exact zdi (o':=4*k) rfl ho1 rfl om om) ?_)
    refine r_s (by refine zcf (o':=4*k) rfl om) ?_
    refine r_s (by refine zV (v:=iv x.s) rfl (hf_sl (n:=n1) rfl ho1 om) ?_;exact zcK (rec_r (m:=none) zeg (i:=k) (j:=0) om hx2 rfl)) ?_
    refine r_s (by exact zaN (o:=0) (o':=((zcy x.a x.b m).toNat)) rfl rfl om om) ?_
    refine r_s0 (by refine zao (c':=ii (Wt.set ((zcy x.a x.b m).toNat) x.s)) rfl rfl rfl ?_ ?_ ?_;exact rfl;exact (by rw [zaD,hokt.wl];omega);exact ii_w (i:=((zcy x.a x.b m).toNat)) rfl (by rw [hokt.wl];omega)) ?_
    refine zbk (zA (zJ (zN (o_s (by refine zV (v:= .agg ⟨ii (Wt.set ((zcy x.a x.b m).toNat) x.s)⟩) rfl rfl ?_;exact ii_all ((List.length_set ..).trans hokt.wl)) ?_))))
    refine o_s (by refine zV (v:= .agg ⟨ii Wt⟩) rfl rfl ?_;exact ii_all hokt.wl) ?_
    refine o_s (by refine run_eqa (a:=⟨ii (Wt.set ((zcy x.a x.b m).toNat) x.s)⟩) (b:=⟨ii Wt⟩) (r:=eqI (Wt.set ((zcy x.a x.b m).toNat) x.s) Wt) (R:= !(eqI (Wt.set ((zcy x.a x.b m).toNat) x.s) Wt)) ?_ rfl;exact eqI_run (Wt.set ((zcy x.a x.b m).toNat) x.s) Wt ((List.length_set ..).trans hokt.wl) hokt.wl rfl rfl) ?_
    refine zE (zT ((106,bv (!(eqI (Wt.set ((zcy x.a x.b m).toNat) x.s) Wt)))::(64,iv (t:Int))::(63,iv x0.w)::(v5 k n1 ft o1)) (qK (t:= !(eqI (Wt.set ((zcy x.a x.b m).toNat) x.s) Wt)) rfl (fun _=>?_) (fun q=>by rw [(by rw [set_neq (by rw [hokt.wl];omega) hfree om];rfl:(!(eqI (Wt.set ((zcy x.a x.b m).toNat) x.s) Wt))=true)] at q;cases q)))
    refine zN (o_d 1 [(107,iv ft)] (o_s (by refine zR (v:= .int .i64 (i64.wrap (ft - 1))) (congrArg wh (w64 om om)) ?_;kernel_rfl) ?_))
    refine o_d 1 [(8,iv (ft - 1))] (zE (zA (zN (o_s (by refine zR (v:= .int .i64 (i64.wrap ((t:Int)+1))) (congrArg wh (w64 om om)) ?_;kernel_rfl) ?_))))
    refine o_d 1 [(64,iv ((t:Int)+1))] (zE (⟨x0.w.toNat - (t+1), ?_⟩))
    refine ⟨⟨reg [(64,iv ((t+1):Int)),(63,iv x0.w),(9,iv (k:Int)),(56,iv (k:Int)),(55,iv (n1:Nat)),(8,iv (ft - 1)),(5,slV 2 n1 o1),(3,pv 1 0)],[cw (pl p),cw (ii (Wt.set ((zcy x.a x.b m).toNat) x.s)),slB zWl (zaX wlF lm) o1]⟩, ?_⟩
    refine zee om ⟨?_, ?_⟩
    ·exact Wk.ren [0,1,2] rfl rfl dC ⟨rfl,rfl,rfl,rfl,rfl,rfl,((zbO o1 rfl)).trans rfl,rfl,trivial⟩ ⟨.inl (zW (zaq p)),.inl (zW (zay (Wt.set ((zcy x.a x.b m).toNat) x.s))),.inl (qX o1 (fun _=>(zcF _ _))),trivial⟩
    ·exact ⟨(t+1),(Wt.set ((zcy x.a x.b m).toNat) x.s),lm,(ft - 1),rfl,om,(WOk.put hokm _ _),(by rw [hlm,hmn];exact (turn_eq om hx hp).symm.trans (congrArg (zer k) hSt)),(by have h9:=free_set (i:=(zcy x.a x.b m).toNat) (s:=x.s) (by rw [hokt.wl];omega) hfree om;omega),rfl⟩
   have h9': ¬((t:Int) < x0.w):=of_decide_eq_false h9
   refine zc0 (zA (zN (o_s (by refine zR (v:= .int .i64 (i64.wrap ((k:Int)+1))) (congrArg wh (w64 om om)) ?_;kernel_rfl) ?_)))
   refine o_d 1 [(56,iv ((k:Int)+1))] (zE (⟨n1 - (k+1), ?_⟩))
   refine ⟨⟨reg [(56,iv ((k+1):Int)),(55,iv (n1:Nat)),(8,iv ft),(5,slV 2 n1 o1),(3,pv 1 0)],(vd p Wt lt o1)⟩, ?_⟩
   refine zee om ⟨?_, ?_⟩
   ·exact Wk.ren [0,1,2] rfl rfl dC ⟨rfl,rfl,rfl,((zbO o1 rfl)).trans rfl,rfl,trivial⟩ ⟨.inl (zW (zaq p)),.inl (zW (zay Wt)),.inl (qX o1 (fun _=>(zcF _ _))),trivial⟩
   ·exact ⟨(k+1),Wt,lt,ft,rfl,om,hokt,(by rw [hSt,show t=wtOf L0 k by omega];rfl),om,rfl⟩
  have h8': ¬((k:Int) < (n1:Nat)):=of_decide_eq_false h8
  refine zc0 (⟨fk.toNat, ?_⟩)
  refine ⟨⟨reg [(8,iv fk),(5,slV 2 n1 o1),(3,pv 1 0)],(vd p Wq lk o1)⟩, ?_⟩
  refine zee om ⟨?_, ?_⟩
  ·exact Wk.ren [0,1,2] rfl rfl dC ⟨rfl,((zbO o1 rfl)).trans rfl,rfl,trivial⟩ ⟨.inl (zW (zaq p)),.inl (zW (zay Wq)),.inl (qX o1 (fun _=>(zcF _ _))),trivial⟩
  ·exact ⟨(r+1),Wq,lk,fk,rfl,hokk,(by rw [hSk,show k=L0.length by omega];rfl),(by rw [if_neg om];exact hfk.1),om,rfl⟩
 have h7': ¬(f > 0):=of_decide_eq_false h7
 refine zc0 (zA (zJ (zN (o_d 1 [(111,sv 1 0 127 127)] (zeu (k:=0) (n:=0) (o:=none) (q:=127) (cs:=ii ([]:List Int)) (xs:=ii W) (cs2:=ii W) (zl:=zI) rfl rfl rfl (fun m q=>by cases q) (fun _=>⟨rfl,rfl⟩) (by first | exact ii_len1 _ | (rw [zaD];omega) | simp [ii]) rfl rfl (zbI rfl (by rw [List.drop_zero];exact List.take_of_length_le (by rw [zaD,hok.wl];omega)) (by rw [zaD,hok.wl];omega)) (by rw [zaD,hok.wl]) om om rfl (fun m14 e15=>?_) (fun m14=>?_))))))
 ·cases e15
 refine o_d 1 [(2,sv 3 0 127 (127+m14))] (zE (zA (qV ?_)))
 have hW9:W=qA p:=by rw [qA,←hL0];exact (fin_a hS hf hr om)
 exact ⟨trivial,⟨reg [(2,sv 0 0 127 (127+m14))],[cw (ii W++zah zI m14)]⟩,Wk.ren [3] rfl rfl dC ⟨rfl,trivial⟩ ⟨.inl (zW (zaf W m14)),trivial⟩,[sv 0 0 127 (127+m14)],(zU rfl rfl),(zK rfl z5),m14,rfl,(by rw [←hW9];rfl)⟩
end Go.Rh

namespace Go.Rh
theorem gscp2 {C:zae} {B:Nat} {Q:IExit→St→Prop} {s:St} {l:Nat} {a b x:IC} (I:Nat→St→Prop)
  (h1:GC C B (.seq a b) (fun ex s'=>match ex with | .normal=> ∃m s0,Wk B s' s0∧I m s0 | _=>False) s)
  (h2: ∀n s,I n s→GC C B x (fun ex s'=>match ex with | .goto i=>if i=l then∃m s0,m < n∧Wk B s' s0∧I m s0 else Q (.goto i) s' | ex=>Q ex s') s):
  GC C B (.scp l (.seq .skip x) (.seq a (.seq b (.seq (.label l) x)))) Q s:=by
 have h3: ∀ {n s},I n s→wpC C B x (fun ex s'=>match ex with | .goto i=>if i=l then∃m s0,Wk B s' s0∧I m s0 else Q (.goto i) s' | ex=>Q ex s') s:=fun {n s} hI=>
  zbN (c:=x) (fun ex s hs=>by
   cases ex with
   | goto i=>
    by_cases hi:i=l
    ·simp only [if_pos hi] at hs ⊢
     obtain ⟨m,s0,_,h⟩:=hs;exact ⟨m,s0,h⟩
    ·simp only [if_neg hi] at hs ⊢;exact hs
   | normal=>exact hs
   | exit i=>exact hs
   | ret=>exact hs) (h2 n s hI).out
 refine ⟨⟨I, ?_,fun n s hI=>⟨s,.inl rfl,(h2 n s hI).out⟩⟩⟩
 have h4:wpC C B (.seq a b) _ s:=h1.out
 exact zbN (c:=a) (fun ex s hs=>by
  cases ex with
  | normal=>
   obtain ⟨s0,w0,hb⟩:=hs
   refine ⟨s0,w0,zbN (c:=b) (fun ex s hs=>?_) hb⟩
   cases ex with
   | normal=>obtain ⟨m,s1,w1,hI⟩:=hs;exact ⟨s1,w1,s1,.inl rfl,h3 hI⟩
   | _=>exact hs.elim
  | _=>exact hs.elim) h4
theorem callIn2 {P:Program} {g:String} {o m:Option Nat} {n:Nat} {z c cs rest vals:List Value} {V:Value} {K:zed} {h:List Blk} (k:Nat) (hC:Env P g (inV o 0 n::rest) [inB o c] (Ans V [inB o c])) (hk:h[k]? =some (slB z cs m)) (ho:o=m.map fun _=>n) (hcs:c=cs++zah z (m.getD 0)) (hc:c.all zbp=true) (hr:rest.all vpf=true) (hv:vals=inV o k n::rest) (hV:vpf V=true) (hK:K V h):zdt (Env P) g vals K h:=by
 subst hv
 refine zhG (pu:=false) ?_
 cases m with
 | none=>
  subst ho
  exact ⟨[],[],_,V,Env.nil hC,rfl,fun n=>za3 fun v hm=>qP (List.all_eq_true.1 (show (inV none 0 _::rest).all vpf=true by simp only [List.all_cons,hr];rfl) v hm),by simp,by simp,fun q=>(by cases q),hV,hK⟩
 | some m=>
  subst ho
  refine zeZ (a1:=inV (some n) 0 n::rest) [k] [c] hC rfl (fun m=>?_) ⟨⟨true,by rw [hk,hcs];rfl⟩,hc,trivial⟩ hV hK
  simp only [List.map_cons]
  rw [za3 fun v hm=>qP (List.all_eq_true.1 hr v hm)]
  rfl
structure Ot where
  k:Int
  a:Nat
  n:Int
def otF (x:Ot):List Value:= [iv x.k,iv (x.a:Nat),iv x.n]
def otV (x:Ot):Value:= .agg #[iv x.k,iv (x.a:Nat),iv x.n]
def zO:List Value:= [iv 0,iv 0,iv 0]
theorem zgI (x:Ot):(otF x).length=3:=rfl
theorem za9 (l:List Ot) (m:Nat):(zaX otF l++zah zO m).all zbp=true:=app_scl (recL_scl (fun _=>rfl) l) (room_scl rfl m)
theorem ot_app1 (l:List Ot) (k:Int) (a:Nat) (n:Int):zaX otF l++ [iv k,iv (a:Nat),iv n]=zaX otF (l++ [⟨k,a,n⟩]):=by rw [←recL_app];rfl
def ziW (x:Ot):Bool:=x.k==8&&x.n==10
def zge:List Ot→Nat→Int
 | [],_=> -1
 | x::l,i=>if ziW x then (i:Nat) else zge l (i+1)
def findO (l:List Ot):Ot:=(l.find? ziW).getD ⟨0,0,0⟩
theorem idxS_0 {l:List Ot} {i:Nat} (h:l.length≤i):zge (l.drop i) i= -1:=by rw [List.drop_eq_nil_of_le h];rfl
theorem idxS_t {l:List Ot} {i:Nat} {x:Ot} (hx:l[i]? =some x) (h:ziW x=true):zge (l.drop i) i=(i:Nat):=by
 have hl:=zZ hx
 rw [List.drop_eq_getElem_cons hl,List.getElem?_eq_getElem hl] at*
 cases hx;simp [zge,h]
theorem idxS_f {l:List Ot} {i:Nat} {x:Ot} (hx:l[i]? =some x) (h:ziW x=false):zge (l.drop i) i=zge (l.drop (i+1)) (i+1):=by
 have hl:=zZ hx
 rw [List.getElem?_eq_getElem hl] at hx;cases hx
 rw [List.drop_eq_getElem_cons hl];simp [zge,h]
theorem zeV: ∀(l:List Ot) (i:Nat),(zge l i= -1∧l.find? ziW=none∧l.any ziW=false)∨∃(j:Nat) (x:Ot),zge l i=((i+j:Nat):Int)∧l[j]? =some x∧l.find? ziW=some x∧l.any ziW=true
 | [],i=> .inl ⟨rfl,rfl,rfl⟩
 | y::l,i=>by
  by_cases h:ziW y=true
  ·exact .inr ⟨0,y,by simp [zge,h],rfl,by simp [h],by simp [h]⟩
  ·simp only [Bool.not_eq_true] at h
   rcases zeV l (i+1) with ⟨h1,h2,h3⟩ | ⟨j,x,h1,h2,h3,h4⟩
   ·exact .inl ⟨by simp [zge,h,h1],by simp [h,h2],by simp only [List.any_cons,h,h3];rfl⟩
   ·exact .inr ⟨j+1,x,by simp only [zge,h,Bool.false_eq_true,if_false,h1];congr 1;omega,by simpa using h2,by simp [h,h3],by simp only [List.any_cons,h4,Bool.or_true]⟩
def walkA (b:List Int):Nat→Nat→List Ot→Option (List Ot)
 | 0,_,_=>none
 | f+1,at_,l=>
  if at_=b.length then some l
  else if 1 < b.getD at_ 0 % 256 then
   if at_+1=b.length∨b.getD (at_+1) 0 % 256 < 2∨(at_:Int)+b.getD (at_+1) 0 % 256 > (b.length:Nat) then none
   else walkA b f (at_+(b.getD (at_+1) 0 % 256).toNat) (l++ [⟨b.getD at_ 0 % 256,at_,b.getD (at_+1) 0 % 256⟩])
  else if b.getD at_ 0 % 256=0 then some (l++ [⟨b.getD at_ 0 % 256,at_,1⟩])
  else walkA b f (at_+1) (l++ [⟨b.getD at_ 0 % 256,at_,1⟩])
def zgt (b:List Int):Option (List Ot):=walkA b (b.length+1) 0 []
def zbK (b:List Int):List Ot:=(zgt b).getD []
def zfn (b:List Int):Int:=if (zgt b).isSome then 0 else 5
theorem walkA_in {b:List Int} : ∀(f at_:Nat) (l r:List Ot),at_≤b.length→(∀x∈l,0≤x.n∧(x.a:Int)+x.n≤(b.length:Nat))→walkA b f at_ l=some r→∀x∈r,0≤x.n∧(x.a:Int)+x.n≤(b.length:Nat)
 | 0,_,_,_,_,_,h=>by cases h
 | f+1,at_,l,r,ha,hl,h=>by
  simp only [walkA] at h
  split at h
  ·cases h;exact hl
  split at h
  ·split at h
   ·cases h
   ·refine walkA_in f _ _ r om (fun x hx=>?_) h
    rcases List.mem_append.1 hx with hx | hx
    ·exact hl x hx
    ·simp only [List.mem_singleton] at hx;subst hx;simp only;omega
  ·have hl2: ∀x∈l++ [(⟨b.getD at_ 0 % 256,at_,1⟩:Ot)],0≤x.n∧(x.a:Int)+x.n≤(b.length:Nat):=fun x hx=>by
    rcases List.mem_append.1 hx with hx | hx
    ·exact hl x hx
    ·simp only [List.mem_singleton] at hx;subst hx;simp only;omega
   split at h
   ·cases h;exact hl2
   ·exact walkA_in f _ _ r om hl2 h
theorem walkL_in {b:List Int} {x:Ot} (hx:x∈zbK b):0≤x.n∧(x.a:Int)+x.n≤(b.length:Nat):=by
 unfold zbK at hx
 cases h:zgt b with
 | none=>rw [h] at hx;simp at hx
 | some l=>rw [h] at hx;exact walkA_in _ _ _ _ (Nat.zero_le _) (by simp) h x hx
def zcq (b:List Int):Option Nat:=((zbK b).find? ziW).map (·.a+2)
theorem zhZ {b:List Int} (h:(zbK b).any ziW=false):zcq b=none:=by
 rcases zeV (zbK b) 0 with ⟨_,h2,_⟩ | ⟨_,_,_,_,_,h4⟩
 ·rw [zcq,h2];rfl
 ·rw [h] at h4;cases h4
theorem stampO_bad {b:List Int} (h:zfn b≠0):zcq b=none:=by
 unfold zfn at h;split at h
 ·exact absurd rfl h
 ·rename_i h1
  simp only [Bool.not_eq_true,Option.isSome_eq_false_iff,Option.isNone_iff_eq_none] at h1
  rw [zcq,zbK,h1];rfl
theorem zfI {b:List Int} (h:(zbK b).any ziW=true):zcq b=some ((findO (zbK b)).a+2)∧(findO (zbK b)).a+10≤b.length:=by
 rcases zeV (zbK b) 0 with ⟨_,_,h3⟩ | ⟨j,x,_,h2,h3,h4⟩
 ·rw [h] at h3;cases h3
 ·rw [zcq,findO,h3]
  refine ⟨rfl, ?_⟩
  have:=walkL_in (List.mem_of_getElem? h2)
  have h5:=List.find?_some h3
  simp only [ziW,Bool.and_eq_true,beq_iff_eq] at h5
  show x.a+10≤_
  omega
theorem stampO_r {b:List Int} {a:Nat} (h:zcq b=some a):2≤a∧a+8≤b.length:=by
 cases h1:(zbK b).any ziW with
 | false=>rw [zhZ h1] at h;cases h
 | true=>have:=zfI h1;rw [this.1] at h;cases h;omega
def u32v (n:Int):Value:= .int .u32 n
def zgV (b:List Int):Value:=match zcq b with
 | none=> .tuple #[iv 0,u32v 0,u32v 0,bv false]
 | some a=> .tuple #[iv (a:Nat),u32v (qD b a 4),u32v (qD b (a+4) 4),bv true]
end Go.Rh

set_option maxHeartbeats 1000000
namespace Go.Rh
theorem zb6 {ρ:Nat→Nat} {k k' n:Nat} (o:Option Nat) (h:ρ k=k'):zaI ρ (inV o k n)=inV o k' n:=by
 subst h;cases o<;>rfl
theorem zgd (o:Option Nat) (k n:Nat):zbl (inV o k n)=false:=by cases o<;>rfl
theorem ren_inT {ρ:Nat→Nat} {k k' n:Nat} {e:Int} (o:Option Nat) (h:ρ k=k'):zaI ρ (.tuple #[inV o k n,iv e])= .tuple #[inV o k' n,iv e]:=by
 subst h;cases o<;>(simp only [zaI,List.map_toArray,List.map_cons,List.map_nil];rfl)
theorem bnds_nn {l c n:Nat} (h:n≤c):bnds l c none (some (iv (n:Nat))) (some (iv (n:Nat)))=some (0,n,n):=by
 have hb: ∀c,n≤c→bnd c (iv (n:Nat))=some n:=fun c h=>by simp [bnd,iv];omega
 show (match bnd c (iv (n:Nat)) with | none=>none | some m=>match bnd m (iv (n:Nat)) with | none=>none | some h=>some (0,h,m))=_
 rw [hb c h]
 show (match bnd n (iv (n:Nat)) with | none=>none | some h=>some (0,h,n))=_
 rw [hb n (Nat.le_refl _)]
theorem zhO {b:List Int} : ∀(f at_:Nat) (l r:List Ot),l.length≤at_→at_≤b.length→walkA b f at_ l=some r→r.length≤b.length
 | 0,_,_,_,_,_,h=>by cases h
 | f+1,at_,l,r,hl,ha,h=>by
  simp only [walkA] at h
  split at h
  ·cases h;omega
  split at h
  ·split at h
   ·cases h
   ·exact zhO f _ _ r (by simp only [List.length_append,List.length_singleton];omega) om h
  ·split at h
   ·cases h;simp only [List.length_append,List.length_singleton];omega
   ·exact zhO f _ _ r (by simp only [List.length_append,List.length_singleton];omega) om h
theorem walkL_len (b:List Int):(zbK b).length≤b.length:=by
 unfold zbK
 cases h:zgt b with
 | none=>simp
 | some l=>exact zhO (b.length+1) 0 [] l (Nat.le_refl _) (Nat.zero_le _) h
theorem run_clip {d:Option Nat} {size:Nat} {x hi mx:Opd} {L:List (Nat×Value)} {hp:List Blk} {k n:Nat} {o:Option Nat} (hx:evf (reg L) x=slV k n o) (hh:evf (reg L) hi=iv (n:Nat)) (hm:evf (reg L) mx=iv (n:Nat)) (ho:o=none→n=0):
  zc8 [⟨d,.slcS size x none (some hi) (some mx),none⟩] ⟨reg L,hp⟩=some ⟨zat (reg L) d (inV (o.map fun _=>n) k n),hp⟩:=by
 refine zaQ (e:= .no) rfl rfl ?_
 cases o with
 | none=>cases ho rfl;simp only [z6,slcV,hx,Option.map_none,Option.map_some,hh,hm,slV,bnds_nn (Nat.le_refl 0)];rfl
 | some m=>simp only [z6,slcV,hx,Option.map_none,Option.map_some,hh,hm,slV,bnds_nn (Nat.le_add_right n m)];by_cases h:n=0<;>simp [h,inV,addA]
theorem ot_app2 {z:Int} {a:Nat} (hz:z=(a:Nat)) (l:List Ot) (k n:Int):zaX otF l++ [iv k,iv z,iv n]=zaX otF (l++ [⟨k,a,n⟩]):=by subst hz;exact ot_app1 l k a n
theorem zdN {b:List Int} {w:List Ot} (h:some w=zgt b):zbK b=w∧zfn b=0:=by
 constructor
 ·rw [zbK,←h];rfl
 ·rw [zfn,←h];rfl
theorem zcX {b:List Int} (h:none=zgt b):zbK b= []∧zfn b=5:=by
 constructor
 ·rw [zbK,←h];rfl
 ·rw [zfn,←h];rfl
theorem zii {l z:List Int} {a m:Nat} (hz:z=(l.drop a).take m) (i:Nat): ∀n,i+n≤m→qD z i n=qD l (a+i) n
 | 0,_=>rfl
 | n+1,h=>by
  simp only [qD];rw [zii hz i n om,getD_part hz (by omega:i+n < m),Nat.add_assoc]
def zdw (a b:Int):Int:=i64.wrap (IntKind.i32.wrap (IntKind.u32.wrap (b - a)))
theorem StampPC {P:Program} [PrC P] (k a n:Int):
    Env P (.no 81) [.agg #[iv k,iv a,iv n]] ([]) (Ans (bv (k==8&&n==10)) ([])):=by
 refine Env.byAt PrC.opts_Stamp_1 ?_
 unfold zfy
 show GC _ 0 _ _ ⟨reg [(0,.agg #[iv k,iv a,iv n])],[]⟩
 refine zJ (zN (o_b 2 [(2,bv false),(1,pv 0 0)] [cw [iv k,iv a,iv n]] (zE (zA (zJ (zN (o_d 4 [(6,bv (k==8)),(5,bv (k==8)),(4,iv k),(3,pv 0 0)] (zbC (b:=k==8) 6 rfl (fun h1=>?_) (fun h1=>?_)))))))))
 ·skip
  have h1':k=8:=zaL h1
  refine o_d 5 [(2,bv (n==10)),(10,bv (n==10)),(9,bv (n==10)),(8,iv n),(7,pv 0 2)] (zE (zA (qV ?_)))
  have E0_:(k==8&&n==10)=(n==10):=by
   first | rfl | simp_all
  exact qC [bv (n==10)] (zU rfl rfl) rfl (by rw [E0_];rfl) rfl rfl
 have h1': ¬(k=8):=zaM h1
 refine o_d 5 (xx 2 10 9 8 7) (zE (zA (qV ?_)))
 have E0_:(k==8&&n==10)=(false):=by
  first | rfl | simp_all
 exact qC [bv false] (zU rfl rfl) rfl (by rw [E0_];rfl) rfl rfl
theorem ClipC {P:Program} [PrC P] (n:Nat) (o:Option Nat) (l:List Ot) (ho:o=none→n=0):
    Env P "slices.Clip[[]roundhouse/opts.Opt,roundhouse/opts.Opt]" [slV 0 n o] ([slB zO (zaX otF l) o]) (fun v h'=>v=inV (o.map fun _=>n) 0 n∧h'= [slB zO (zaX otF l) o]):=by
 refine Env.by2 PrC.slices_Clip_opts_Opt_opts_Opt ?_
 unfold zbt
 show GC _ 1 _ _ ⟨reg [(0,slV 0 n o)],[slB zO (zaX otF l) o]⟩
 refine zJ (zN (o_d 1 [(2,.slice none 0 0)] (zE (zA (zJ (zN (o_d 2 [(4,slV 0 n o),(3,slV 0 n o)] (o_s (by exact zf4 rfl ho) ?_))))))))
 refine o_d 1 [(6,slV 0 n o)] (o_s (by exact zf4 rfl ho) ?_)
 refine o_s (by exact run_clip rfl rfl rfl ho) ?_
 refine o_d 1 [(2,inV (o.map fun _=>n) 0 n)] ?_
 exact zE (zA (qV (⟨trivial,⟨reg [(2,inV (o.map fun _=>n) 0 n)],[slB zO (zaX otF l) o]⟩,Wk.ren [0] rfl rfl dC ⟨(zb6 _ rfl).trans rfl,trivial⟩ ⟨.inl (qX o (fun _=>(za9 _ _))),trivial⟩,[inV (o.map fun _=>n) 0 n],(zU rfl rfl),(zK (zgd _ _ _) z5),rfl,rfl⟩)))
theorem IndexC {P:Program} [PrC P] (o:Option Nat) (m:Nat) (l:List Ot) (ho:o=none→l.length=0) (hll:l.length≤100000):
    Env P "slices.IndexFunc[[]roundhouse/opts.Opt,roundhouse/opts.Opt]" [inV o 0 l.length,.func (.func 81) #[] #[]] ([inB o (zaX otF l++zah zO m)]) (Ans (iv (zge l 0)) ([inB o (zaX otF l++zah zO m)])):=by
 refine Env.by PrC.slices_IndexFunc_opts_Opt_opts_Opt ?_
 unfold za6
 show GC _ 1 _ _ ⟨reg [(0,inV o 0 l.length),(1,.func (.func 81) #[] #[])],[inB o (zaX otF l++zah zO m)]⟩
 refine zJ (zN (o_d 1 [(4,iv 0)] (zE (zA (zJ (zJ (zN (o_d 1 [(6,inV o 0 l.length)] (o_s (by exact zeK rfl ho) ?_)))))))))
 refine o_d 1 [(8,iv 0)] (zE (zA (zab (zdv (fun μ s=> ∃(i:Nat),μ=l.length - i∧(i≤l.length)∧(zge (l.drop i) i=zge l 0)∧s=⟨reg [(8,iv (i:Int)),(7,iv (l.length:Nat)),(0,inV o 0 l.length),(1,.func (.func 81) #[] #[])],[inB o (zaX otF l++zah zO m)]⟩) ⟨(l.length - 0), ?_⟩ ?_))))
 ·skip
  refine ⟨⟨reg [(8,iv (0:Int)),(7,iv (l.length:Nat)),(0,inV o 0 l.length),(1,.func (.func 81) #[] #[])],[inB o (zaX otF l++zah zO m)]⟩, ?_⟩
  refine ⟨?_, ?_⟩
  ·exact Wk.ren [0] rfl rfl dC ⟨rfl,rfl,((zda o rfl)).trans rfl,((qP rfl)).trans rfl,trivial⟩ ⟨.inl (zcI o (za9 l m)),trivial⟩
  ·exact ⟨0,rfl,(Nat.zero_le _),rfl,rfl⟩
 rintro μ s ⟨i,rfl,hi,hk,rfl⟩
 refine zJ (zN (o_d 1 [(9,bv (decide ((i:Int) < (l.length:Nat))))] (zE (zA (zJ (qK (t:=decide ((i:Int) < (l.length:Nat))) rfl (fun h1=>?_) (fun h1=>?_)))))))
 ·skip
  have h1':(i:Int) < (l.length:Nat):=of_decide_eq_true h1
  have hb:i < l.length:=om
  refine (zd5 hb).elim fun x hxq=>?_
  have hx:=hxq.1
  refine qM (zA (zJ (zab (zJ (zN (o_d 2 [(5,iv (i:Int)),(10,iv (i:Int))] (zE (zA (zJ (zN (o_d 3 [(13,iv (i:Int)),(12,inV o 0 l.length),(11,.func (.func 81) #[] #[])] ?_)))))))))))
  refine o_s (by exact zdW (o':=3*i) rfl ho rfl om om) ?_
  refine o_s (by refine zV (v:= .agg #[iv x.k,iv (x.a:Nat),iv x.n]) rfl (hf_in (n:=l.length) rfl ho om) ?_;exact zcK (rec_r (m:=some 3) zgI (i:=i) (j:=0) om hx rfl)) ?_
  refine o_clv (g:= 81) (cs:= []) rfl rfl (zal (StampPC x.k (x.a:Nat) x.n) rfl rfl rfl (zE (zA (qK (t:=ziW x) rfl (fun h2=>?_) (fun h2=>?_)))))
  ·skip
   refine zJ (zN (o_d 2 [(4,iv (i:Int)),(17,iv (i:Int))] (zE (zA (qV ?_)))))
   have E0_:zge l 0=(i:Int):=by
    rw [←hk,idxS_t hx h2]
   exact qC [iv (i:Int)] (zU rfl rfl) rfl (by rw [E0_];rfl) rfl (show List.all [inB o (zaX otF l++zah zO m)] zhH=true from (all_cons (zcd _ (za9 l m)) rfl))
  refine qM (zA (zN (o_s (by refine zR (v:= .int .i64 (i64.wrap ((i:Int)+1))) (congrArg wh (w64 om om)) ?_;kernel_rfl) ?_)))
  refine o_d 1 [(8,iv ((i:Int)+1))] (zE (⟨l.length - (i+1), ?_⟩))
  refine ⟨⟨reg [(8,iv ((i+1):Int)),(7,iv (l.length:Nat)),(0,inV o 0 l.length),(1,.func (.func 81) #[] #[])],[inB o (zaX otF l++zah zO m)]⟩, ?_⟩
  refine zee om ⟨?_, ?_⟩
  ·exact Wk.ren [0] rfl rfl dC ⟨rfl,rfl,((zda o rfl)).trans rfl,((qP rfl)).trans rfl,trivial⟩ ⟨.inl (zcI o (za9 l m)),trivial⟩
  ·exact ⟨(i+1),rfl,om,(by rw [←hk,idxS_f hx h2]),rfl⟩
 have h1': ¬((i:Int) < (l.length:Nat)):=of_decide_eq_false h1
 refine zc0 (zA (zJ (zN (o_d 1 [(4,iv (-1))] (zE (zA (qV ?_)))))))
 have E0_:zge l 0=(-1):=by
  rw [←hk,idxS_0 om]
 exact qC [iv (-1)] (zU rfl rfl) rfl (by rw [E0_];rfl) rfl (show List.all [inB o (zaX otF l++zah zO m)] zhH=true from (all_cons (zcd _ (za9 l m)) rfl))
theorem findC {P:Program} [PrC P] (o:Option Nat) (m:Nat) (l:List Ot) (ho:o=none→l.length=0) (hll:l.length≤100000) (y:Ot) (b:Bool) (hy:findO l=y) (hb:l.any ziW=b):
    Env P "roundhouse/opts.find[roundhouse/opts.Opt]" [inV o 0 l.length,.func (.func 81) #[] #[]] ([inB o (zaX otF l++zah zO m)]) (Ans (.tuple #[otV y,bv b]) ([inB o (zaX otF l++zah zO m)])):=by
 refine Env.by PrC.opts_find_opts_Opt ?_
 unfold zc5
 show GC _ 1 _ _ ⟨reg [(0,inV o 0 l.length),(1,.func (.func 81) #[] #[])],[inB o (zaX otF l++zah zO m)]⟩
 refine zJ (zN (o_b 2 [(5,bv false),(4,pv 1 0)] [inB o (zaX otF l++zah zO m),cw [iv 0,iv 0,iv 0]] (zE (zA (zJ (zJ (zN (o_d 2 [(9,.func (.func 81) #[] #[]),(8,inV o 0 l.length)] ?_))))))))
 refine qT (zhG (callIn 0 (IndexC o m l ho hll) rfl (za9 _ _) rfl rfl rfl (o_d 1 [(6,iv (zge l 0))] (zE (zA (zJ (zN (o_d 2 [(12,bv (decide (zge l 0≥0))),(11,iv (zge l 0))] (zE (zA (qK (t:=decide (zge l 0≥0)) rfl (fun h1=>?_) (fun h1=>?_))))))))))))
 ·skip
  have h1':zge l 0≥0:=of_decide_eq_true h1
  obtain ⟨j,x,hj,hx,hf,hany⟩: ∃(j:Nat) (x:Ot),zge l 0=(j:Nat)∧l[j]? =some x∧l.find? ziW=some x∧l.any ziW=true:=by
   rcases zeV l 0 with ⟨h,_⟩ | ⟨j,x,h,h2⟩
   · omega
   · exact ⟨j,x,om,h2⟩
  have hjl:=zZ hx
  have hx2:l[(zge l 0).toNat]? =some x:=by rw [show (zge l 0).toNat=j by omega];exact hx
  refine zJ (zN (o_d 2 [(14,iv (zge l 0)),(13,inV o 0 l.length)] (o_s (by exact zdW (o':=3*((zge l 0).toNat)) rfl ho rfl om om) ?_)))
  refine o_s (by refine zV (v:= .agg #[iv x.k,iv (x.a:Nat),iv x.n]) rfl (hf_in (n:=l.length) rfl ho om) ?_;exact zcK (rec_r (m:=some 3) zgI (i:=((zge l 0).toNat)) (j:=0) om hx2 rfl)) ?_
  refine o_b 2 [(5,bv true)] [inB o (zaX otF l++zah zO m),cw [iv x.k,iv (x.a:Nat),iv x.n]] (zE (zA (qV ?_)))
  have E0_:(.tuple #[otV y,bv b]:Value)= .tuple #[.agg #[iv x.k,iv (x.a:Nat),iv x.n],bv true]:=by
   subst hy;subst hb;rw [findO,hf,hany];rfl
  exact qC [.agg #[iv x.k,iv (x.a:Nat),iv x.n],bv true] (qY rfl rfl rfl (zU rfl rfl)) rfl (by rw [E0_];rfl) rfl (show List.all [inB o (zaX otF l++zah zO m)] zhH=true from (all_cons (zcd _ (za9 l m)) rfl))
 have h1': ¬(zge l 0≥0):=of_decide_eq_false h1
 obtain ⟨hf,hany⟩:l.find? ziW=none∧l.any ziW=false:=by
  rcases zeV l 0 with ⟨_,h⟩ | ⟨j,x,h,h2⟩
  · exact h
  · omega
 refine qM (zA (zJ (zN (o_b 1 [(7,pv 2 0)] [inB o (zaX otF l++zah zO m),cw [iv 0,iv 0,iv 0],cw [iv 0,iv 0,iv 0]] (zE (zA (zJ (zN (o_d 3 [(5,bv false),(17,.agg #[iv 0,iv 0,iv 0])] (zE (zA (qV ?_))))))))))))
 have E0_:(.tuple #[otV y,bv b]:Value)= .tuple #[.agg #[iv 0,iv 0,iv 0],bv false]:=by
  subst hy;subst hb;rw [findO,hf,hany];rfl
 exact qC [.agg #[iv 0,iv 0,iv 0],bv false] (qY rfl rfl rfl (zU rfl rfl)) rfl (by rw [E0_];rfl) rfl (show List.all [inB o (zaX otF l++zah zO m)] zhH=true from (all_cons (zcd _ (za9 l m)) rfl))
end Go.Rh

set_option maxHeartbeats 1000000
namespace Go.Rh
theorem WalkC {P:Program} [PrC P] (q:Option (Nat×Nat)) (L l:List Int) (hr:RowOf q L l) (hl:l.length≤100000):
    Env P "roundhouse/opts.Walk" (Wh q l) ((wy q L)) (fun v h'=> ∃m:Option Nat,(m=none→(zbK l).length=0)∧v= .tuple #[inV (m.map fun _=>(zbK l).length) 1 (zbK l).length,iv (zfn l)]∧h'= [zG q (u8 L) false,slB zO (zaX otF (zbK l)) m]):=by
 refine Env.by4 PrC.opts_Walk ?_
 unfold ziF
 show GC _ 1 _ _ ⟨reg (vc 0 q 0 l),(wy q L)⟩
 refine zJ (zN (o_d 2 [(3,iv 0),(2,.slice none 0 0)] (zE (zA (gscp2 (fun μ s=> ∃(f:Nat),∃(a:Nat),∃(z:Int),∃(w:List Ot),∃(n:Nat),∃(o:Option Nat),μ=f+1∧(walkA l f a w=zgt l)∧(l.length - a < f)∧(z=(a:Nat))∧(a≤l.length)∧(o=none→n=0)∧(w.length≤a)∧(n=w.length)∧s=⟨reg [(0,zQ q 0 l.length),(5,iv z),(4,slV 1 n o)],[zG q (u8 L) false,slB zO (zaX otF w) o]⟩) ?_ ?_)))))
 ·skip
  refine zJ (zN (o_d 1 [(4,.slice none 0 0)] (zE (zA (zN (o_d 1 [(5,iv 0)] (zE (⟨(l.length+1)+1, ?_⟩))))))))
  refine ⟨⟨reg [(0,zQ q 0 l.length),(5,iv 0),(4,slV 1 0 none)],[zG q (u8 L) false,slB zO (zaX otF ([]:List Ot)) none]⟩, ?_⟩
  refine ⟨?_, ?_⟩
  ·exact Wk.ren [0,2] rfl rfl dC ⟨((qI rfl)).trans rfl,rfl,rfl,trivial⟩ ⟨.inl (zF (zH _)),.inr ⟨rfl,rfl⟩,trivial⟩
  ·exact ⟨(l.length+1),0,0,([]:List Ot),0,none,rfl,rfl,om,rfl,om,(fun _=>rfl),(Nat.le_refl _),rfl,rfl⟩
 rintro μ s ⟨f,a,z,w,n,o,rfl,hk,hf,hz,ha,ho,hw,hn,rfl⟩
 obtain ⟨f,rfl⟩: ∃z9,f=z9+1:=⟨f - 1,om⟩
 simp only [walkA] at hk
 refine zJ (zJ (zN (o_d 2 [(8,zQ q 0 l.length),(7,iv z)] (o_s (by exact qO rfl hr.nil) ?_))))
 refine o_d 1 [(10,bv (z==(l.length:Nat)))] (zE (zA (qK (t:=z==(l.length:Nat)) rfl (fun h1=>?_) (fun h1=>?_))))
 ·skip
  have h1':z=(l.length:Nat):=zaL h1
  refine zJ (zN (o_d 1 [(11,slV 1 n o)] (qT (zaH [1] [slB zO (zaX otF w) o] [slV 0 n o] (ClipC n o w ho) rfl (zM (zbO o rfl) rfl) ⟨⟨_,rfl,zhy o (fun _=>(za9 _ _))⟩,trivial⟩ dC ?_))))
  rintro v1 h1' ⟨rfl,rfl⟩
  refine ⟨zai [_] [],inV (o.map fun _=>n) 1 n,[zG q (u8 L) false,slB zO (zaX otF w) o],[],(zb6 _ rfl),⟨rfl,(by rcases o with _ | m9<;>first | rfl | exact zbf (za9 _ _)),trivial⟩,trivial, ?_⟩
  refine o_d 2 [(3,iv 0),(2,inV (o.map fun _=>n) 1 n)] ?_
  refine zE (zA (qV ?_))
  have he:zgt l=some (w):=by rw [←hk,if_pos om]
  exact ⟨trivial,[inV (o.map fun _=>n) 1 n,iv 0],(zU rfl (zU rfl rfl)),(zK (zgd _ _ _) (zK rfl z5)),⟨reg [],[zG q (u8 L) false,slB zO (zaX otF w) o]⟩,[0,1],[inV (o.map fun _=>n) 1 n,iv 0],WkR.of (rs:= []) rfl rfl dC trivial ⟨.inl (zF (zH _)),.inl (qX o (fun _=>(za9 _ _))),trivial⟩,(zM (zb6 _ rfl) (zM rfl rfl)),o,(fun q=>by rw [(zdN he.symm).1];have:=ho q;omega),(by rw [(zdN he.symm).1,(zdN he.symm).2];subst hn;first | rfl | (simp;rfl)),(by rw [(zdN he.symm).1]<;>rfl)⟩
 have h1': ¬(z=(l.length:Nat)):=zaM h1
 refine qM (zA (zJ (zN (o_d 2 [(14,iv z),(13,zQ q 0 l.length)] (o_s (by exact qR (o':=qo q+a) rfl hr.nil rfl om om) ?_)))))
 refine o_s (by refine zV (v:= .int .u8 (l.getD a 0 % 256)) rfl (zbd (n:=l.length) rfl rfl hr.nil om) ?_;exact zb4 hr om rfl) ?_
 refine o_s (by refine zR (v:= .int .i64 (i64.wrap (l.getD a 0 % 256))) (congrArg wh (w64 om om)) ?_;kernel_rfl) ?_
 refine o_b 4 [(6,pv 2 0),(19,.agg #[iv (l.getD a 0 % 256),iv z,iv 1]),(18,iv z)] [zG q (u8 L) false,slB zO (zaX otF w) o,cw [iv (l.getD a 0 % 256),iv z,iv 1]] (zE (zA (zJ (zJ (zN (o_d 3 [(22,bv (decide (l.getD a 0 % 256 > 1))),(21,iv (l.getD a 0 % 256)),(20,pv 2 0)] (zE (zA (qK (t:=decide (l.getD a 0 % 256 > 1)) rfl (fun h2=>?_) (fun h2=>?_))))))))))
 ·skip
  have h2':l.getD a 0 % 256 > 1:=of_decide_eq_true h2
  refine zJ (zJ (zN (o_d 1 [(23,iv z)] (o_s (by refine zR (v:= .int .i64 (i64.wrap (z+1))) (congrArg wh (w64 om om)) ?_;kernel_rfl) ?_))))
  refine o_d 1 (vc 25 q 0 l) (o_s (by exact qO rfl hr.nil) ?_)
  refine o_d 2 [(28,bv ((z+1)==(l.length:Nat))),(27,bv ((z+1)==(l.length:Nat)))] (zbC (b:=(z+1)==(l.length:Nat)) 28 rfl (fun h3=>?_) (fun h3=>?_))
  ·skip
   have h3':z+1=(l.length:Nat):=zaL h3
   refine o_d 20 ((48,bv true)::(47,undef)::(46,undef)::(45,undef)::(44,undef)::(43,undef)::(42,undef)::(41,undef)::(40,undef)::(39,undef)::(38,undef)::(37,undef)::(36,bv true)::(35,bv true)::(34,undef)::(33,undef)::(y9 32 31 30 29)) (zE (zT [(48,bv true),(6,pv 2 0),(0,zQ q 0 l.length),(5,iv z),(4,slV 1 n o)] (zcZ rfl (zJ (zN (o_d 2 [(3,iv 5),(2,.slice none 0 0)] (zE (zA (qV ?_)))))))))
   have he:zgt l=none:=by rw [←hk,if_neg om,if_pos om,if_pos om]
   exact ⟨trivial,[.slice none 0 0,iv 5],(zU rfl (zU rfl rfl)),(zK rfl (zK rfl z5)),⟨reg [],[zG q (u8 L) false,.gone]⟩,[0,4],[inV ((none:Option Nat).map fun _=>0) 1 0,iv 5],WkR.of (rs:= []) rfl rfl dC trivial ⟨.inl (zF (zH _)),.inr ⟨rfl,rfl⟩,trivial⟩,(zM (zb6 _ rfl) (zM rfl rfl)),none,(fun _=>by rw [(zcX he.symm).1];rfl),(by rw [(zcX he.symm).1,(zcX he.symm).2];rfl),(by rw [(zcX he.symm).1];rfl)⟩
  have h3': ¬(z+1=(l.length:Nat)):=zaM h3
  refine o_d 2 [(30,iv z),(29,zQ q 0 l.length)] (z8 rfl (o_s (by refine zR (v:= .int .i64 (i64.wrap (z+1))) (congrArg wh (w64 om om)) ?_;kernel_rfl) ?_))
  refine z8 rfl (o_s (by exact qR (o':=qo q+(a+1)) rfl hr.nil rfl om om) ?_)
  refine z8 rfl (o_s (by refine zV (v:= .int .u8 (l.getD (a+1) 0 % 256)) rfl (zbd (n:=l.length) rfl rfl hr.nil om) ?_;exact zb4 hr om rfl) ?_)
  refine o_d 3 [(36,bv (decide (l.getD (a+1) 0 % 256 < 2))),(35,bv (decide (l.getD (a+1) 0 % 256 < 2))),(34,bv (decide (l.getD (a+1) 0 % 256 < 2)))] (zbC (b:=decide (l.getD (a+1) 0 % 256 < 2)) 36 rfl (fun h4=>?_) (fun h4=>?_))
  ·skip
   have h4':l.getD (a+1) 0 % 256 < 2:=of_decide_eq_true h4
   refine o_d 12 ((48,bv true)::(47,undef)::(46,undef)::(45,undef)::(44,undef)::(43,undef)::(42,undef)::(41,undef)::(y9 40 39 38 37)) (zE (zT [(48,bv true),(6,pv 2 0),(0,zQ q 0 l.length),(5,iv z),(4,slV 1 n o)] (zcZ rfl (zJ (zN (o_d 2 [(3,iv 5),(2,.slice none 0 0)] (zE (zA (qV ?_)))))))))
   have he:zgt l=none:=by rw [←hk,if_neg om,if_pos om,if_pos om]
   exact ⟨trivial,[.slice none 0 0,iv 5],(zU rfl (zU rfl rfl)),(zK rfl (zK rfl z5)),⟨reg [],[zG q (u8 L) false,.gone]⟩,[0,4],[inV ((none:Option Nat).map fun _=>0) 1 0,iv 5],WkR.of (rs:= []) rfl rfl dC trivial ⟨.inl (zF (zH _)),.inr ⟨rfl,rfl⟩,trivial⟩,(zM (zb6 _ rfl) (zM rfl rfl)),none,(fun _=>by rw [(zcX he.symm).1];rfl),(by rw [(zcX he.symm).1,(zcX he.symm).2];rfl),(by rw [(zcX he.symm).1];rfl)⟩
  have h4': ¬(l.getD (a+1) 0 % 256 < 2):=of_decide_eq_false h4
  refine o_d 3 [(39,iv z),(38,zQ q 0 l.length),(37,iv z)] (z8 rfl (o_s (by refine zR (v:= .int .i64 (i64.wrap (z+1))) (congrArg wh (w64 om om)) ?_;kernel_rfl) ?_))
  refine z8 rfl (o_s (by exact qR (o':=qo q+(a+1)) rfl hr.nil rfl om om) ?_)
  refine z8 rfl (o_s (by refine zV (v:= .int .u8 (l.getD (a+1) 0 % 256)) rfl (zbd (n:=l.length) rfl rfl hr.nil om) ?_;exact zb4 hr om rfl) ?_)
  refine z8 rfl (o_s (by refine zR (v:= .int .i64 (i64.wrap (l.getD (a+1) 0 % 256))) (congrArg wh (w64 om om)) ?_;kernel_rfl) ?_)
  refine z8 rfl (o_s (by refine zR (v:= .int .i64 (i64.wrap (z+l.getD (a+1) 0 % 256))) (congrArg wh (w64 om om)) ?_;kernel_rfl) ?_)
  refine o_d 1 (vc 45 q 0 l) (z8 rfl (o_s (by exact qO rfl hr.nil) ?_))
  refine o_d 2 [(48,bv (decide (z+l.getD (a+1) 0 % 256 > (l.length:Nat)))),(47,bv (decide (z+l.getD (a+1) 0 % 256 > (l.length:Nat))))] (zE (zT [(48,bv (decide (z+l.getD (a+1) 0 % 256 > (l.length:Nat)))),(6,pv 2 0),(0,zQ q 0 l.length),(5,iv z),(4,slV 1 n o)] (qK (t:=decide (z+l.getD (a+1) 0 % 256 > (l.length:Nat))) rfl (fun h5=>?_) (fun h5=>?_))))
  ·skip
   have h5':z+l.getD (a+1) 0 % 256 > (l.length:Nat):=of_decide_eq_true h5
   refine zJ (zN (o_d 2 [(3,iv 5),(2,.slice none 0 0)] (zE (zA (qV ?_)))))
   have he:zgt l=none:=by rw [←hk,if_neg om,if_pos om,if_pos om]
   exact ⟨trivial,[.slice none 0 0,iv 5],(zU rfl (zU rfl rfl)),(zK rfl (zK rfl z5)),⟨reg [],[zG q (u8 L) false,.gone]⟩,[0,4],[inV ((none:Option Nat).map fun _=>0) 1 0,iv 5],WkR.of (rs:= []) rfl rfl dC trivial ⟨.inl (zF (zH _)),.inr ⟨rfl,rfl⟩,trivial⟩,(zM (zb6 _ rfl) (zM rfl rfl)),none,(fun _=>by rw [(zcX he.symm).1];rfl),(by rw [(zcX he.symm).1,(zcX he.symm).2];rfl),(by rw [(zcX he.symm).1];rfl)⟩
  have h5': ¬(z+l.getD (a+1) 0 % 256 > (l.length:Nat)):=of_decide_eq_false h5
  refine qM (zA (zN (o_d 2 [(50,iv z),(49,zQ q 0 l.length)] (o_s (by refine zR (v:= .int .i64 (i64.wrap (z+1))) (congrArg wh (w64 om om)) ?_;kernel_rfl) ?_))))
  refine o_s (by exact qR (o':=qo q+(a+1)) rfl hr.nil rfl om om) ?_
  refine o_s (by refine zV (v:= .int .u8 (l.getD (a+1) 0 % 256)) rfl (zbd (n:=l.length) rfl rfl hr.nil om) ?_;exact zb4 hr om rfl) ?_
  refine o_s (by refine zR (v:= .int .i64 (i64.wrap (l.getD (a+1) 0 % 256))) (congrArg wh (w64 om om)) ?_;kernel_rfl) ?_
  refine o_b 2 [(55,pv 2 2)] [zG q (u8 L) false,slB zO (zaX otF w) o,cw [iv (l.getD a 0 % 256),iv z,iv (l.getD (a+1) 0 % 256)]] (zE (zA (zJ (zJ (zN (o_b 3 [(58,sv 3 0 1 1),(57,.agg #[iv (l.getD a 0 % 256),iv z,iv (l.getD (a+1) 0 % 256)]),(56,slV 1 n o)] [zG q (u8 L) false,slB zO (zaX otF w) o,cw [iv (l.getD a 0 % 256),iv z,iv (l.getD (a+1) 0 % 256)],cw [iv (l.getD a 0 % 256),iv z,iv (l.getD (a+1) 0 % 256)]] (zeu (k:=1) (n:=n) (o:=o) (q:=1) (cs:=zaX otF w) (xs:= [iv (l.getD a 0 % 256),iv z,iv (l.getD (a+1) 0 % 256)]) (cs2:=zaX otF (w++ [(Ot.mk (l.getD a 0 % 256) a (l.getD (a+1) 0 % 256))])) (zl:=zO) rfl rfl rfl (fun m q=>by subst q;rfl) (fun z=>by have h0:=ho z;have h1:w= []:=List.eq_nil_of_length_eq_zero om;subst h1;exact ⟨h0,rfl⟩) (by first | exact zbT zgI _ | rw [zbT zgI];first | omega | (simp;try omega)) rfl rfl (zbI rfl rfl (by simp)) (by rfl) om om (ot_app2 hz w (l.getD a 0 % 256) (l.getD (a+1) 0 % 256)) (fun m6 e7=>?_) (fun m6=>?_))))))))
  ·skip
   subst e7
   refine o_d 1 [(4,sv 1 0 (n+1) (n+1+m6))] (zE (zA (zJ (zN (o_d 3 [(62,bv ((l.getD a 0 % 256)==0)),(61,iv (l.getD a 0 % 256)),(60,pv 2 0)] (zE (zA (qK (t:=(l.getD a 0 % 256)==0) rfl (fun q=>by rw [(by exact beq_eq_false_iff_ne.2 om:((l.getD a 0 % 256)==0)=false)] at q;cases q) (fun _=>?_)))))))))
   refine qM (zA (zJ (zN (o_d 3 [(67,iv (l.getD (a+1) 0 % 256)),(66,pv 2 2),(65,iv z)] (o_s (by refine zR (v:= .int .i64 (i64.wrap (z+l.getD (a+1) 0 % 256))) (congrArg wh (w64 om om)) ?_;kernel_rfl) ?_)))))
   refine o_d 1 [(5,iv (z+l.getD (a+1) 0 % 256))] (zE (zT [(5,iv (z+l.getD (a+1) 0 % 256)),(4,sv 1 0 (n+1) (n+1+m6)),(0,zQ q 0 l.length)] (ggoto (⟨f+1, ?_⟩))))
   refine ⟨⟨reg [(0,zQ q 0 l.length),(5,iv (z+l.getD (a+1) 0 % 256)),(4,slV 1 (n+1) (some m6))],[zG q (u8 L) false,slB zO (zaX otF (w++ [(Ot.mk (l.getD a 0 % 256) a (l.getD (a+1) 0 % 256))])) (some m6)]⟩, ?_⟩
   refine zee om ⟨?_, ?_⟩
   ·exact Wk.ren [0,1] rfl rfl dC ⟨((qI rfl)).trans rfl,rfl,rfl,trivial⟩ ⟨.inl (zF (zH _)),.inl (zW (za9 _ _)),trivial⟩
   ·exact ⟨f,(a+(l.getD (a+1) 0 % 256).toNat),(z+l.getD (a+1) 0 % 256),(w++ [(Ot.mk (l.getD a 0 % 256) a (l.getD (a+1) 0 % 256))]),(n+1),(some m6),rfl,(by rw [if_neg om,if_pos om,if_neg om] at hk;exact hk),om,om,om,(fun z=>by cases z),(by simp only [List.length_append,List.length_singleton];omega),(by simp only [List.length_append,List.length_singleton];omega),rfl⟩
  refine o_d 1 [(4,sv 4 0 (n+1) (n+1+m6))] (zE (zA (zJ (zN (o_d 3 [(62,bv ((l.getD a 0 % 256)==0)),(61,iv (l.getD a 0 % 256)),(60,pv 2 0)] (zE (zA (qK (t:=(l.getD a 0 % 256)==0) rfl (fun q=>by rw [(by exact beq_eq_false_iff_ne.2 om:((l.getD a 0 % 256)==0)=false)] at q;cases q) (fun _=>?_)))))))))
  refine qM (zA (zJ (zN (o_d 3 [(67,iv (l.getD (a+1) 0 % 256)),(66,pv 2 2),(65,iv z)] (o_s (by refine zR (v:= .int .i64 (i64.wrap (z+l.getD (a+1) 0 % 256))) (congrArg wh (w64 om om)) ?_;kernel_rfl) ?_)))))
  refine o_d 1 [(5,iv (z+l.getD (a+1) 0 % 256))] (zE (zT [(5,iv (z+l.getD (a+1) 0 % 256)),(4,sv 4 0 (n+1) (n+1+m6)),(0,zQ q 0 l.length)] (ggoto (⟨f+1, ?_⟩))))
  refine ⟨⟨reg [(0,zQ q 0 l.length),(5,iv (z+l.getD (a+1) 0 % 256)),(4,slV 1 (n+1) (some m6))],[zG q (u8 L) false,slB zO (zaX otF (w++ [(Ot.mk (l.getD a 0 % 256) a (l.getD (a+1) 0 % 256))])) (some m6)]⟩, ?_⟩
  refine zee om ⟨?_, ?_⟩
  ·exact Wk.ren [0,4] rfl rfl dC ⟨((qI rfl)).trans rfl,rfl,rfl,trivial⟩ ⟨.inl (zF (zH _)),.inl (zW (za9 _ _)),trivial⟩
  ·exact ⟨f,(a+(l.getD (a+1) 0 % 256).toNat),(z+l.getD (a+1) 0 % 256),(w++ [(Ot.mk (l.getD a 0 % 256) a (l.getD (a+1) 0 % 256))]),(n+1),(some m6),rfl,(by rw [if_neg om,if_pos om,if_neg om] at hk;exact hk),om,om,om,(fun z=>by cases z),(by simp only [List.length_append,List.length_singleton];omega),(by simp only [List.length_append,List.length_singleton];omega),rfl⟩
 have h2': ¬(l.getD a 0 % 256 > 1):=of_decide_eq_false h2
 refine qM (zA (zJ (zJ (zN (o_b 3 [(58,sv 3 0 1 1),(57,.agg #[iv (l.getD a 0 % 256),iv z,iv 1]),(56,slV 1 n o)] [zG q (u8 L) false,slB zO (zaX otF w) o,cw [iv (l.getD a 0 % 256),iv z,iv 1],cw [iv (l.getD a 0 % 256),iv z,iv 1]] (zeu (k:=1) (n:=n) (o:=o) (q:=1) (cs:=zaX otF w) (xs:= [iv (l.getD a 0 % 256),iv z,iv 1]) (cs2:=zaX otF (w++ [(Ot.mk (l.getD a 0 % 256) a 1)])) (zl:=zO) rfl rfl rfl (fun m q=>by subst q;rfl) (fun z=>by have h0:=ho z;have h1:w= []:=List.eq_nil_of_length_eq_zero om;subst h1;exact ⟨h0,rfl⟩) (by first | exact zbT zgI _ | rw [zbT zgI];first | omega | (simp;try omega)) rfl rfl (zbI rfl rfl (by simp)) (by rfl) om om (ot_app2 hz w (l.getD a 0 % 256) 1) (fun m8 e9=>?_) (fun m8=>?_)))))))
 ·skip
  subst e9
  refine o_d 1 [(4,sv 1 0 (n+1) (n+1+m8))] (zE (zA (zJ (zN (o_d 3 [(62,bv ((l.getD a 0 % 256)==0)),(61,iv (l.getD a 0 % 256)),(60,pv 2 0)] (zE (zT [(62,bv ((l.getD a 0 % 256)==0)),(4,sv 1 0 (n+1) (n+1+m8)),(6,pv 2 0),(0,zQ q 0 l.length),(5,iv z)] (qK (t:=(l.getD a 0 % 256)==0) rfl (fun h10=>?_) (fun h10=>?_)))))))))
  ·skip
   have h10':l.getD a 0 % 256=0:=zaL h10
   refine zJ (zN (o_d 1 [(63,sv 1 0 (n+1) (n+1+m8))] (qT (zdy [1] [cw (zaX otF (w++ [(Ot.mk (l.getD a 0 % 256) a 1)])++zah zO m8)] [sv 0 0 (n+1) (n+1+m8)] (ClipC (n+1) (some m8) (w++ [(Ot.mk (l.getD a 0 % 256) a 1)]) (fun q=>by cases q)) rfl rfl ⟨⟨_,rfl,zbZ (za9 (w++ [(Ot.mk (l.getD a 0 % 256) a 1)]) m8) (fun q=>rfl)⟩,trivial⟩ dC ?_))))
   rintro v1 h1' ⟨rfl,rfl⟩
   refine ⟨inV ((some m8).map fun _=>n+1) 1 (n+1),[zG q (u8 L) false,cw (zaX otF (w++ [(Ot.mk (l.getD a 0 % 256) a 1)])++zah zO m8),cw [iv (l.getD a 0 % 256),iv z,iv 1],cw [iv (l.getD a 0 % 256),iv z,iv 1]],[],(zb6 _ rfl),⟨rfl,(zbf (za9 (w++ [(Ot.mk (l.getD a 0 % 256) a 1)]) m8)),rfl,rfl,trivial⟩,trivial, ?_⟩
   refine o_d 2 [(3,iv 0),(2,inV ((some m8).map fun _=>n+1) 1 (n+1))] ?_
   refine zE (zA (qV ?_))
   have he:zgt l=some (w++ [(Ot.mk (l.getD a 0 % 256) a 1)]):=by rw [←hk,if_neg om,if_neg om,if_pos om]
   exact ⟨trivial,[inV ((some m8).map fun _=>n+1) 1 (n+1),iv 0],(zU rfl (zU rfl rfl)),(zK (zgd _ _ _) (zK rfl z5)),⟨reg [],[zG q (u8 L) false,cw (zaX otF (w++ [(Ot.mk (l.getD a 0 % 256) a 1)])++zah zO m8)]⟩,[0,1],[inV ((some m8).map fun _=>n+1) 1 (n+1),iv 0],WkR.of (rs:= []) rfl rfl dC trivial ⟨.inl (zF (zH _)),.inl (zW (za9 (w++ [(Ot.mk (l.getD a 0 % 256) a 1)]) m8)),trivial⟩,(zM (zb6 _ rfl) (zM rfl rfl)),some m8,(fun q=>by cases q),(by rw [(zdN he.symm).1,(zdN he.symm).2];subst hn;first | rfl | (simp;rfl)),(by rw [(zdN he.symm).1]<;>rfl)⟩
  have h10': ¬(l.getD a 0 % 256=0):=zaM h10
  refine qM (zA (zJ (zN (o_d 3 [(67,iv 1),(66,pv 2 2),(65,iv z)] (o_s (by refine zR (v:= .int .i64 (i64.wrap (z+1))) (congrArg wh (w64 om om)) ?_;kernel_rfl) ?_)))))
  refine o_d 1 [(5,iv (z+1))] (zE (zA (ggoto (⟨f+1, ?_⟩))))
  refine ⟨⟨reg [(0,zQ q 0 l.length),(5,iv (z+1)),(4,slV 1 (n+1) (some m8))],[zG q (u8 L) false,slB zO (zaX otF (w++ [(Ot.mk (l.getD a 0 % 256) a 1)])) (some m8)]⟩, ?_⟩
  refine zee om ⟨?_, ?_⟩
  ·exact Wk.ren [0,1] rfl rfl dC ⟨((qI rfl)).trans rfl,rfl,rfl,trivial⟩ ⟨.inl (zF (zH _)),.inl (zW (za9 _ _)),trivial⟩
  ·exact ⟨f,(a+1),(z+1),(w++ [(Ot.mk (l.getD a 0 % 256) a 1)]),(n+1),(some m8),rfl,(by rw [if_neg om,if_neg om,if_neg om] at hk;exact hk),om,om,om,(fun z=>by cases z),(by simp only [List.length_append,List.length_singleton];omega),(by simp only [List.length_append,List.length_singleton];omega),rfl⟩
 refine o_d 1 [(4,sv 4 0 (n+1) (n+1+m8))] (zE (zA (zJ (zN (o_d 3 [(62,bv ((l.getD a 0 % 256)==0)),(61,iv (l.getD a 0 % 256)),(60,pv 2 0)] (zE (zT [(62,bv ((l.getD a 0 % 256)==0)),(4,sv 4 0 (n+1) (n+1+m8)),(6,pv 2 0),(0,zQ q 0 l.length),(5,iv z)] (qK (t:=(l.getD a 0 % 256)==0) rfl (fun h11=>?_) (fun h11=>?_)))))))))
 ·skip
  have h11':l.getD a 0 % 256=0:=zaL h11
  refine zJ (zN (o_d 1 [(63,sv 4 0 (n+1) (n+1+m8))] (qT (zdy [4] [cw (zaX otF (w++ [(Ot.mk (l.getD a 0 % 256) a 1)])++zah zO m8)] [sv 0 0 (n+1) (n+1+m8)] (ClipC (n+1) (some m8) (w++ [(Ot.mk (l.getD a 0 % 256) a 1)]) (fun q=>by cases q)) rfl rfl ⟨⟨_,rfl,zbZ (za9 (w++ [(Ot.mk (l.getD a 0 % 256) a 1)]) m8) (fun q=>rfl)⟩,trivial⟩ dC ?_))))
  rintro v1 h1' ⟨rfl,rfl⟩
  refine ⟨inV ((some m8).map fun _=>n+1) 4 (n+1),[zG q (u8 L) false,slB zO (zaX otF w) o,cw [iv (l.getD a 0 % 256),iv z,iv 1],cw [iv (l.getD a 0 % 256),iv z,iv 1],cw (zaX otF (w++ [(Ot.mk (l.getD a 0 % 256) a 1)])++zah zO m8)],[],(zb6 _ rfl),⟨rfl,rfl,rfl,rfl,(zbf (za9 (w++ [(Ot.mk (l.getD a 0 % 256) a 1)]) m8)),trivial⟩,trivial, ?_⟩
  refine o_d 2 [(3,iv 0),(2,inV ((some m8).map fun _=>n+1) 4 (n+1))] ?_
  refine zE (zA (qV ?_))
  have he:zgt l=some (w++ [(Ot.mk (l.getD a 0 % 256) a 1)]):=by rw [←hk,if_neg om,if_neg om,if_pos om]
  exact ⟨trivial,[inV ((some m8).map fun _=>n+1) 4 (n+1),iv 0],(zU rfl (zU rfl rfl)),(zK (zgd _ _ _) (zK rfl z5)),⟨reg [],[zG q (u8 L) false,cw (zaX otF (w++ [(Ot.mk (l.getD a 0 % 256) a 1)])++zah zO m8)]⟩,[0,4],[inV ((some m8).map fun _=>n+1) 1 (n+1),iv 0],WkR.of (rs:= []) rfl rfl dC trivial ⟨.inl (zF (zH _)),.inl (zW (za9 (w++ [(Ot.mk (l.getD a 0 % 256) a 1)]) m8)),trivial⟩,(zM (zb6 _ rfl) (zM rfl rfl)),some m8,(fun q=>by cases q),(by rw [(zdN he.symm).1,(zdN he.symm).2];subst hn;first | rfl | (simp;rfl)),(by rw [(zdN he.symm).1]<;>rfl)⟩
 have h11': ¬(l.getD a 0 % 256=0):=zaM h11
 refine qM (zA (zJ (zN (o_d 3 [(67,iv 1),(66,pv 2 2),(65,iv z)] (o_s (by refine zR (v:= .int .i64 (i64.wrap (z+1))) (congrArg wh (w64 om om)) ?_;kernel_rfl) ?_)))))
 refine o_d 1 [(5,iv (z+1))] (zE (zA (ggoto (⟨f+1, ?_⟩))))
 refine ⟨⟨reg [(0,zQ q 0 l.length),(5,iv (z+1)),(4,slV 1 (n+1) (some m8))],[zG q (u8 L) false,slB zO (zaX otF (w++ [(Ot.mk (l.getD a 0 % 256) a 1)])) (some m8)]⟩, ?_⟩
 refine zee om ⟨?_, ?_⟩
 ·exact Wk.ren [0,4] rfl rfl dC ⟨((qI rfl)).trans rfl,rfl,rfl,trivial⟩ ⟨.inl (zF (zH _)),.inl (zW (za9 _ _)),trivial⟩
 ·exact ⟨f,(a+1),(z+1),(w++ [(Ot.mk (l.getD a 0 % 256) a 1)]),(n+1),(some m8),rfl,(by rw [if_neg om,if_neg om,if_neg om] at hk;exact hk),om,om,om,(fun z=>by cases z),(by simp only [List.length_append,List.length_singleton];omega),(by simp only [List.length_append,List.length_singleton];omega),rfl⟩
end Go.Rh

set_option maxHeartbeats 1000000
namespace Go.Rh
abbrev vB:=(Value.int .u32)
theorem onumC {P:Program} [PrC P] (q:Option (Nat×Nat)) (L l:List Int) (hr:RowOf q L l) (h4:4≤l.length):
    Env P "roundhouse/opts.number" (Wh q l) ((wy q L)) (fun v h'=>v=u32v (qD l 0 4)∧h'= (wy q L)):=by
 refine Env.by2 PrC.opts_number ?_
 unfold zgk
 show GC _ 1 _ _ ⟨reg (vc 0 q 0 l),(wy q L)⟩
 refine zJ (zN (o_d 1 [(2,.int .u32 0)] (zE (zA (zJ (zbF [] (r_d 1 (vc 3 q 0 l) (r_s (by exact qR (o':=qo q+0) rfl hr.nil rfl om om) ?_))))))))
 refine r_s (by refine zV (v:= .int .u8 (l.getD 0 0 % 256)) rfl (zbd (n:=l.length) rfl rfl hr.nil om) ?_;exact zb4 hr om rfl) ?_
 refine r_s (by refine zR (v:= .int .u32 (IntKind.u32.wrap (l.getD 0 0 % 256))) (congrArg vB (zbM om)) ?_;kernel_rfl) ?_
 refine r_s (by refine zR (v:= .int .u32 (IntKind.u32.wrap ((l.getD 0 0 % 256)*16777216))) (congrArg vB (zbM om)) ?_;kernel_rfl) ?_
 refine r_d 1 (vc 8 q 0 l) (r_s (by exact qR (o':=qo q+1) rfl hr.nil rfl om om) ?_)
 refine r_s (by refine zV (v:= .int .u8 (l.getD 1 0 % 256)) rfl (zbd (n:=l.length) rfl rfl hr.nil om) ?_;exact zb4 hr om rfl) ?_
 refine r_s (by refine zR (v:= .int .u32 (IntKind.u32.wrap (l.getD 1 0 % 256))) (congrArg vB (zbM om)) ?_;kernel_rfl) ?_
 refine r_s (by refine zR (v:= .int .u32 (IntKind.u32.wrap ((l.getD 1 0 % 256)*65536))) (congrArg vB (zbM om)) ?_;kernel_rfl) ?_
 refine r_s (by refine zR (congrArg vB (zgZ (k:= .u32) 24 (R:=16777216) (x:=(l.getD 0 0 % 256)*16777216) (y:=(l.getD 1 0 % 256)*65536) rfl om om (by rw [show (2:Int)^IntKind.u32.bits=4294967296 from rfl];omega) (zbM om))) ?_;kernel_rfl) ?_
 refine r_d 1 (vc 14 q 0 l) (r_s (by exact qR (o':=qo q+2) rfl hr.nil rfl om om) ?_)
 refine r_s (by refine zV (v:= .int .u8 (l.getD 2 0 % 256)) rfl (zbd (n:=l.length) rfl rfl hr.nil om) ?_;exact zb4 hr om rfl) ?_
 refine r_s (by refine zR (v:= .int .u32 (IntKind.u32.wrap (l.getD 2 0 % 256))) (congrArg vB (zbM om)) ?_;kernel_rfl) ?_
 refine r_s (by refine zR (v:= .int .u32 (IntKind.u32.wrap ((l.getD 2 0 % 256)*256))) (congrArg vB (zbM om)) ?_;kernel_rfl) ?_
 refine r_s (by refine zR (congrArg vB (zgZ (k:= .u32) 16 (R:=65536) (x:=(l.getD 0 0 % 256)*16777216+(l.getD 1 0 % 256)*65536) (y:=(l.getD 2 0 % 256)*256) rfl om om (by rw [show (2:Int)^IntKind.u32.bits=4294967296 from rfl];omega) (zbM om))) ?_;kernel_rfl) ?_
 refine r_d 1 (vc 20 q 0 l) (r_s (by exact qR (o':=qo q+3) rfl hr.nil rfl om om) ?_)
 refine r_s (by refine zV (v:= .int .u8 (l.getD 3 0 % 256)) rfl (zbd (n:=l.length) rfl rfl hr.nil om) ?_;exact zb4 hr om rfl) ?_
 refine r_s (by refine zR (v:= .int .u32 (IntKind.u32.wrap (l.getD 3 0 % 256))) (congrArg vB (zbM om)) ?_;kernel_rfl) ?_
 refine r_s (by refine zR (congrArg vB (zgZ (k:= .u32) 8 (R:=256) (x:=(l.getD 0 0 % 256)*16777216+(l.getD 1 0 % 256)*65536+(l.getD 2 0 % 256)*256) (y:=l.getD 3 0 % 256) rfl om om (by rw [show (2:Int)^IntKind.u32.bits=4294967296 from rfl];omega) (zbM om))) ?_;kernel_rfl) ?_
 exact r_d 1 [(2,.int .u32 ((l.getD 0 0 % 256)*16777216+(l.getD 1 0 % 256)*65536+(l.getD 2 0 % 256)*256+l.getD 3 0 % 256))] (zbk (zT [(2,.int .u32 ((l.getD 0 0 % 256)*16777216+(l.getD 1 0 % 256)*65536+(l.getD 2 0 % 256)*256+l.getD 3 0 % 256))] (qV (⟨trivial,⟨reg [(2,.int .u32 ((l.getD 0 0 % 256)*16777216+(l.getD 1 0 % 256)*65536+(l.getD 2 0 % 256)*256+l.getD 3 0 % 256))],(wy q L)⟩,Wk.ren [0] rfl rfl dC ⟨rfl,trivial⟩ ⟨.inl (zF (zH _)),trivial⟩,[.int .u32 ((l.getD 0 0 % 256)*16777216+(l.getD 1 0 % 256)*65536+(l.getD 2 0 % 256)*256+l.getD 3 0 % 256)],(zU rfl rfl),(zK rfl z5),(congrArg vB (by simp only [qD,Nat.zero_add];omega)),rfl⟩))))
theorem FarC {P:Program} [PrC P] (a b:Int):
    Env P "roundhouse/opts.Far" [.int .u32 a,.int .u32 b] ([]) (Ans (iv (zdw a b)) ([])):=by
 refine Env.by PrC.opts_Far ?_
 unfold zjC
 show GC _ 0 _ _ ⟨reg [(0,.int .u32 a),(1,.int .u32 b)],[]⟩
 refine zJ (zN (o_d 1 [(4,iv 0)] (zE (zA (zJ (zN (o_d 6 [(4,iv (i64.wrap (IntKind.i32.wrap (IntKind.u32.wrap (b - a))))),(9,iv (i64.wrap (IntKind.i32.wrap (IntKind.u32.wrap (b - a))))),(8,.int .i32 (IntKind.i32.wrap (IntKind.u32.wrap (b - a)))),(7,.int .u32 (IntKind.u32.wrap (b - a))),(6,.int .u32 a),(5,.int .u32 b)] (zE (zA (qV ?_))))))))))
 have E0_:zdw a b=i64.wrap (IntKind.i32.wrap (IntKind.u32.wrap (b - a))):=by
  rfl
 exact qC [iv (i64.wrap (IntKind.i32.wrap (IntKind.u32.wrap (b - a))))] (zU rfl rfl) rfl (by rw [E0_];rfl) rfl rfl
abbrev WA:=[(5,bv false),(4,.int .u32 0),(3,.int .u32 0),(2,iv 0)]
theorem zjE {P:Program} [PrC P] (q:Option (Nat×Nat)) (L l:List Int) (hr:RowOf q L l) (hl:l.length≤100000):
    Env P "roundhouse/opts.Stamp" (Wh q l) ((wy q L)) (fun v h'=>v=zgV l∧h'= (wy q L)):=by
 refine Env.by2 PrC.opts_Stamp ?_
 unfold zhj
 show GC _ 1 _ _ ⟨reg (vc 0 q 0 l),(wy q L)⟩
 have hwl:=walkL_len l
 refine zJ (zN (o_d 4 WA (zE (zA (zJ (zN (o_d 1 (vc 10 q 0 l) (qT (zaH [0] (wy q L) (Wh q l) (WalkC q L l hr om) rfl (zM (qI rfl) rfl) ⟨⟨_,rfl,z4 (zH _) rfl (fun q=>q)⟩,trivial⟩ dC ?_)))))))))
 rintro v1 h1' ⟨m1,hm1,rfl,rfl⟩
 refine ⟨zai [_] [_],.tuple #[inV (m1.map fun _=>(zbK l).length) 1 ((zbK l).length),iv (zfn l)],(wy q L),[slB zO (zaX otF (zbK l)) m1],(ren_inT _ rfl),⟨(zaY rfl rfl),trivial⟩,⟨(Option.some.inj (qX m1 (fun _=>(za9 _ _)))).symm,trivial⟩, ?_⟩
 refine o_d 5 [(7,iv (zfn l)),(6,inV (m1.map fun _=>(zbK l).length) 1 ((zbK l).length)),(13,iv (zfn l)),(12,inV (m1.map fun _=>(zbK l).length) 1 ((zbK l).length)),(9,.tuple #[inV (m1.map fun _=>(zbK l).length) 1 ((zbK l).length),iv (zfn l)])] ?_
 refine zE (zA (zJ (zJ (zN (o_d 2 [(15,bv ((zfn l)!=0)),(14,iv (zfn l))] (zE (zA (qK (t:=(zfn l)!=0) rfl (fun h2=>?_) (fun h2=>?_)))))))))
 ·skip
  have h2':zfn l≠0:=zfN h2
  exact zJ (zN (o_d 4 WA (zE (zA (qV (⟨trivial,⟨reg [(2,iv 0),(3,.int .u32 0),(4,.int .u32 0),(5,bv false)],(wy q L)⟩,Wk.ren [0] rfl rfl dC ⟨rfl,rfl,rfl,rfl,trivial⟩ ⟨.inl (zF (zH _)),trivial⟩,[iv 0,.int .u32 0,.int .u32 0,bv false],(zU rfl (zU rfl (zU rfl (zU rfl rfl)))),(zK rfl (zK rfl (zK rfl (zK rfl z5)))),(by rw [zgV,stampO_bad (by assumption)];rfl),rfl⟩))))))
 have h2': ¬(zfn l≠0):=zfO h2
 refine qM (zA (zJ (zN (o_d 1 [(17,inV (m1.map fun _=>(zbK l).length) 1 ((zbK l).length))] ?_))))
 obtain ⟨x3,hx3⟩: ∃z9,findO (zbK l)=z9:=⟨_,rfl⟩
 obtain ⟨b4,hb4⟩: ∃z9,(zbK l).any ziW=z9:=⟨_,rfl⟩
 refine qT (callIn2 1 (findC (m1.map fun _=>(zbK l).length) (m1.getD 0) (zbK l) (fun q=>hm1 (by cases m1<;>first | rfl | cases q)) om x3 b4 hx3 hb4) rfl rfl rfl (za9 _ _) rfl rfl rfl ?_)
 refine o_b 6 [(5,bv b4),(8,pv 2 0),(20,bv b4),(19,.agg #[iv x3.k,iv (x3.a:Nat),iv x3.n]),(16,.tuple #[.agg #[iv x3.k,iv (x3.a:Nat),iv x3.n],bv b4])] [zG q (u8 L) false,slB zO (zaX otF (zbK l)) m1,cw [iv x3.k,iv (x3.a:Nat),iv x3.n]] (zE (zA (zJ (zJ (zN (o_d 2 [(22,bv (!b4)),(21,bv b4)] (zE (zA (qK (t:= !b4) rfl (fun h5=>?_) (fun h5=>?_))))))))))
 ·skip
  have h6:b4=false:=not_t h5
  exact zJ (zN (o_d 4 WA (zE (zT WA (qV (⟨trivial,⟨reg [(2,iv 0),(3,.int .u32 0),(4,.int .u32 0),(5,bv false)],(wy q L)⟩,Wk.ren [0] rfl rfl dC ⟨rfl,rfl,rfl,rfl,trivial⟩ ⟨.inl (zF (zH _)),trivial⟩,[iv 0,.int .u32 0,.int .u32 0,bv false],(zU rfl (zU rfl (zU rfl (zU rfl rfl)))),(zK rfl (zK rfl (zK rfl (zK rfl z5)))),(by rw [zgV,zhZ (by rw [hb4];assumption)];rfl),rfl⟩))))))
 have h7:b4=true:=not_f h5
 have hx9:=(zfI (b:=l) (by rw [hb4];exact h7)).2
 rw [hx3] at hx9
 obtain ⟨o,c,rfl⟩: ∃o c,q=some (o,c):=by cases q with | none=>(have:=hr.nil rfl;omega) | some p=>exact ⟨p.1,p.2,rfl⟩
 refine qM (zT [(8,pv 2 0),(0,zQ (wz o c) 0 l.length)] (zJ (zN (o_d 2 [(24,iv (x3.a:Nat)),(23,pv 2 1)] (o_s (by refine zR (v:= .int .i64 (i64.wrap ((x3.a:Nat)+2))) (congrArg wh (w64 om om)) ?_;kernel_rfl) ?_)))))
 refine o_d 1 [(2,iv ((x3.a:Nat)+2))] (zE (zA (zJ (zbF [] (r_d 3 [(28,iv ((x3.a:Nat)+2)),(27,zQ (wz o c) 0 l.length),(26,iv ((x3.a:Nat)+2))] ?_)))))
 obtain ⟨qz8,lz8,hlz8,hn8z,hq8z,hr8z,hs8z⟩:=zcr (k:=0) hr (lo:=(some (iv ((x3.a:Nat)+2)))) (hi:=none) (mx:=none) (x3.a+2) l.length om (.inr (by first | rfl | (congr 2;omega))) (.inl ⟨rfl,rfl,rfl⟩) (.inl rfl)
 have hs8y:=hs8z.trans (rfl:(wz o c).isSome=(wz o c).isSome)
 obtain ⟨oz8,cz8,rfl⟩: ∃o c,qz8=some (o,c):=by cases qz8 with | none=>(have:=hr8z.nil rfl;omega) | some p=>exact ⟨p.1,p.2,rfl⟩
 refine r_s (by exact zaW rfl hq8z) ?_
 refine zfv (zeZ (a1:= [zQ (wz oz8 cz8) 0 lz8.length]) [0] [u8 L] (onumC (wz oz8 cz8) L lz8 hr8z om) rfl (fun _=>rfl) ⟨⟨_,rfl⟩,zH _,trivial⟩ rfl ?_)
 have hn9:=(zcB lz8 0).2.2.2
 refine r_d 2 [(32,iv ((x3.a:Nat)+2)),(31,zQ (wz o c) 0 l.length)] (r_s (by refine zR (v:= .int .i64 (i64.wrap ((x3.a:Nat)+2+4))) (congrArg wh (w64 om om)) ?_;kernel_rfl) ?_)
 obtain ⟨qz10,lz10,hlz10,hn10z,hq10z,hr10z,hs10z⟩:=zcr (k:=0) hr (lo:=(some (iv ((x3.a:Nat)+2+4)))) (hi:=none) (mx:=none) (x3.a+2+4) l.length om (.inr (by first | rfl | (congr 2;omega))) (.inl ⟨rfl,rfl,rfl⟩) (.inl rfl)
 have hs10y:=hs10z.trans (rfl:(wz o c).isSome=(wz o c).isSome)
 obtain ⟨oz10,cz10,rfl⟩: ∃o c,qz10=some (o,c):=by cases qz10 with | none=>(have:=hr10z.nil rfl;omega) | some p=>exact ⟨p.1,p.2,rfl⟩
 refine r_s (by exact zaW rfl hq10z) ?_
 refine zfv (zeZ (a1:= [zQ (wz oz10 cz10) 0 lz10.length]) [0] [u8 L] (onumC (wz oz10 cz10) L lz10 hr10z om) rfl (fun _=>rfl) ⟨⟨_,rfl⟩,zH _,trivial⟩ rfl ?_)
 have hn11:=(zcB lz10 0).2.2.2
 refine r_d 4 [(5,bv true),(4,.int .u32 (qD lz10 0 4)),(3,.int .u32 (qD lz8 0 4)),(2,iv ((x3.a:Nat)+2))] (zbk (zA (qV ?_)))
 have h9:zcq l=some (x3.a+2):=by have:=(zfI (b:=l) (by rw [hb4];assumption)).1;rw [this,hx3]
 have e1:qD lz8 0 4=qD l (x3.a+2) 4:=zii hlz8 0 4 om
 have e2:qD lz10 0 4=qD l (x3.a+2+4) 4:=zii hlz10 0 4 om
 exact ⟨trivial,⟨reg [(2,iv ((x3.a:Nat)+2)),(3,.int .u32 (qD lz8 0 4)),(4,.int .u32 (qD lz10 0 4)),(5,bv true)],(vS o c L)⟩,Wk.ren [0] rfl rfl dC ⟨rfl,rfl,rfl,rfl,trivial⟩ ⟨.inl (zF (zH _)),trivial⟩,[iv ((x3.a:Nat)+2),.int .u32 (qD lz8 0 4),.int .u32 (qD lz10 0 4),bv true],(zU rfl (zU rfl (zU rfl (zU rfl rfl)))),(zK rfl (zK rfl (zK rfl (zK rfl z5)))),(by rw [e1,e2,zgV,h9];rfl),rfl⟩
end Go.Rh

set_option maxHeartbeats 1000000
namespace Go.Rh
def xoN (a b:Int):Int:=((a.toNat^^^b.toNat:Nat):Int)
theorem xoN_run {a b:Int} (ha:0≤a∧a < 4611686018427387904) (hb:0≤b∧b < 4611686018427387904):i64.wrap ((BitVec.ofInt 64 a^^^BitVec.ofInt 64 b).toNat)=xoN a b:=by
 obtain ⟨m,rfl⟩:=Int.eq_ofNat_of_zero_le ha.1
 obtain ⟨n,rfl⟩:=Int.eq_ofNat_of_zero_le hb.1
 have h1:(BitVec.ofInt 64 (m:Int)^^^BitVec.ofInt 64 (n:Int)).toNat=m^^^n:=by
  rw [BitVec.toNat_xor,BitVec.ofInt_natCast,BitVec.ofInt_natCast,BitVec.toNat_ofNat,BitVec.toNat_ofNat,Nat.mod_eq_of_lt om,Nat.mod_eq_of_lt om]
 have h2:m^^^n < 2^62:=Nat.xor_lt_two_pow om om
 rw [h1]
 show i64.wrap ((m^^^n:Nat):Int)=((m^^^n:Nat):Int)
 exact w64 om om
theorem xoN_r {a b:Int} (ha:0≤a∧a < 64) (hb:0≤b∧b < 64):0≤xoN a b∧xoN a b < 64:=by
 have h2:a.toNat^^^b.toNat < 2^6:=Nat.xor_lt_two_pow om om
 unfold xoN;omega
theorem xoN_2 {a b:Int} (ha:0≤a):xoN (xoN a b) b=a:=by
 unfold xoN
 rw [Int.toNat_natCast,Nat.xor_assoc,Nat.xor_self,Nat.xor_zero];omega
structure Rg where
  (e pa pb ca cb na nb:Int)
structure Fl where
  (a p ta tp:Int)
def TB (k:Int):Int:=if k=2 then 256 else 4096
theorem TB_r (k:Int):TB k=256∨TB k=4096:=by unfold TB;split<;>simp
def zep (ka kb k:Int) (f:Fl) (s e:Int):Int:=zb2 ka kb [k,f.a,f.p,f.ta,f.tp,s,e]
def zaV (ka kb k:Int) (f:Fl) (e:Int):Int:=zep ka kb k f 64 e % 64
def zfs (ka kb k:Int) (f:Fl) (s e:Int):Int:=zep ka kb k f s e % TB k
theorem zfC (ka kb k:Int) (f:Fl) (e:Int):0≤zaV ka kb k f e∧zaV ka kb k f e < 64:=by unfold zaV;omega
theorem tagS_r (ka kb k:Int) (f:Fl) (s e:Int):0≤zfs ka kb k f s e∧zfs ka kb k f s e < TB k:=by
 unfold zfs;rcases TB_r k with h | h<;>rw [h]<;>omega
def zc1 (r:Rg) (k:Int) (f:Fl) (s:Int):Int:=(r.e % 4*64+xoN s (zaV r.ca r.cb k f (r.e % 4)))*TB k+zfs r.ca r.cb k f s (r.e % 4)
theorem cookS_r (r:Rg) (k:Int) (f:Fl) {s:Int} (hs:0≤s∧s < 64):0≤zc1 r k f s∧zc1 r k f s < 256*TB k:=by
 have h1:=xoN_r hs (zfC r.ca r.cb k f (r.e % 4))
 have h2:=tagS_r r.ca r.cb k f s (r.e % 4)
 unfold zc1;rcases TB_r k with h | h<;>rw [h] at h2 ⊢<;>omega
def atS (e0 e a0 b0 a1 b1 a2 b2:Int):Option (Int×Int):=if (e0+0) % 4=e % 4 then some (a0,b0) else if (e0+1) % 4=e % 4 then some (a1,b1) else if (e0+2) % 4=e % 4 then some (a2,b2) else none
def keyS (r:Rg) (e:Int):Option (Int×Int):=atS (r.e - 1) e r.pa r.pb r.ca r.cb r.na r.nb
def kpV:Option (Int×Int)→Value
 | none=> .tuple #[.agg #[uv 0,uv 0],bv false]
 | some x=> .tuple #[.agg #[uv x.1,uv x.2],bv true]
def readT (k c:Int) (f:Fl) (x:Int×Int):Option Int:=
 if zfs x.1 x.2 k f (xoN (c / TB k % 64) (zaV x.1 x.2 k f (c / (64*TB k)))) (c / (64*TB k))=c % TB k then some (xoN (c / TB k % 64) (zaV x.1 x.2 k f (c / (64*TB k)))) else none
def zez (r:Rg) (k:Int) (f:Fl) (c:Int):Option Int:=
 if c < 0∨256*TB k≤c then none else (keyS r (c / (64*TB k))).bind (readT k c f)
def zdX:Option Int→Value
 | none=> .tuple #[iv 0,bv false]
 | some s=> .tuple #[iv s,bv true]
theorem readS_r {r:Rg} {k:Int} {f:Fl} {c s:Int} (h:zez r k f c=some s):0≤s∧s < 64:=by
 unfold zez at h;split at h
 ·cases h
 cases hk:keyS r (c / (64*TB k)) with
 | none=>rw [hk] at h;cases h
 | some x=>
  rw [hk] at h;simp only [Option.bind_some,readT] at h
  split at h
  ·cases h;exact xoN_r om (zfC _ _ _ _ _)
  ·cases h
theorem zgv {P:Program} {g:String} {l:List Int} {a:Nat} {A:List Value} {h1 h2:List Blk} (h:zcq l=some a) (hc:Env P g A h1 (fun v h'=>v=zgV l∧h'=h2)):Env P g A h1 (fun v h'=>v= .tuple #[iv (a:Nat),.int .u32 (qD l a 4),.int .u32 (qD l (a+4) 4),bv true]∧h'=h2):=by
 simpa only [zgV,h,u32v] using hc
theorem zgw {P:Program} {g:String} {l:List Int} {A:List Value} {h1 h2:List Blk} (h:zcq l=none) (hc:Env P g A h1 (fun v h'=>v=zgV l∧h'=h2)):Env P g A h1 (fun v h'=>v= .tuple #[iv 0,.int .u32 0,.int .u32 0,bv false]∧h'=h2):=by
 simpa only [zgV,h,u32v] using hc
def putS (v c:Int):Int:=v / 256 % 4096*1048576+c % 1048576
def backF (d:Int):Int:=if d≥524288 then d - 1048576 else if d < -524288 then d+1048576 else d
def zfS (v n:Int):Int:=IntKind.u32.wrap (n / 256*256+backF (zdw (n / 256*256 % 1048576) (v / 1048576*256)) % 4294967296)
theorem farS_r (a b:Int): -2147483648≤zdw a b∧zdw a b < 2147483648:=by
 have h: -2147483648≤IntKind.i32.wrap (IntKind.u32.wrap (b - a))∧IntKind.i32.wrap (IntKind.u32.wrap (b - a)) < 2147483648:=by
  generalize IntKind.u32.wrap (b - a)=x
  have e:(2:Int)^32=4294967296:=by decide
  have e2:(2:Int)^31=2147483648:=by decide
  simp only [IntKind.wrap,IntKind.bits,IntKind.signed]
  simp
  omega
 unfold zdw;rw [w64 om om];exact h
theorem lo8 {n:Int} (h:0≤n∧n < 4294967296):IntKind.u32.wrap ((BitVec.ofInt 32 n&&& ~~~(BitVec.ofInt 32 255)).toNat)=n / 256*256:=by
 obtain ⟨m,rfl⟩:=Int.eq_ofNat_of_zero_le h.1
 have e1:(BitVec.ofInt 32 (m:Int)&&& ~~~(BitVec.ofInt 32 255)).toNat=m / 256*256:=by
  have: ~~~(BitVec.ofInt 32 255)=BitVec.ofNat 32 4294967040:=by decide
  rw [this,BitVec.ofInt_natCast,BitVec.toNat_and,BitVec.toNat_ofNat,BitVec.toNat_ofNat,Nat.mod_eq_of_lt om,Nat.mod_eq_of_lt dC]
  refine Nat.eq_of_testBit_eq fun i=>?_
  rw [Nat.testBit_and,show m / 256*256=(m >>> 8) <<< 8 by rw [Nat.shiftRight_eq_div_pow,Nat.shiftLeft_eq]]
  simp only [Nat.testBit_shiftLeft,Nat.testBit_shiftRight]
  rw [show (4294967040:Nat)=(2^24 - 1) <<< 8 by decide]
  simp only [Nat.testBit_shiftLeft,Nat.testBit_two_pow_sub_one]
  by_cases hi:8≤i
  ·rw [show 8+(i - 8)=i by omega]
   by_cases h2:i - 8 < 24
   ·simp [hi,h2]
   ·simp only [hi,h2,decide_false,Bool.and_false,decide_true,Bool.true_and]
    exact (Nat.testBit_lt_two_pow (Nat.lt_of_lt_of_le (by omega:m < 2^32) (Nat.pow_le_pow_right dC om))).symm
  ·simp [hi]
 rw [e1];exact zbM om
theorem zhS {P:Program} [PrC P] (e:Int):
    Env P "roundhouse/cookie.turn" [iv e] ([]) (Ans (iv (e % 4)) ([])):=by
 refine Env.by PrC.cookie_turn ?_
 unfold zgo
 show GC _ 0 _ _ ⟨reg [(0,iv e)],[]⟩
 refine zJ (zN (o_d 1 [(2,iv 0)] (zE (zA (zJ (zN (o_d 1 [(3,iv e)] (o_s (by refine zR (congrArg wh (zeb (k:= .i64) 2 (M:=3) (R:=4) (x:=e) dC rfl rfl)) ?_;kernel_rfl) ?_))))))))
 refine o_d 1 [(2,iv (e % 4))] (zE (zA (qV ?_)))
 have E0_:e % 4=e % 4:=by
  rfl
 exact qC [iv (e % 4)] (zU rfl rfl) rfl (by rw [E0_];rfl) rfl rfl
theorem tb8C {P:Program} [PrC P] (k:Int) (h:k=2):
    Env P "roundhouse/cookie.tagBits" [iv k] ([]) (Ans (iv 8) ([])):=by
 refine Env.by PrC.cookie_tagBits ?_
 unfold zc2
 show GC _ 0 _ _ ⟨reg [(0,iv k)],[]⟩
 refine zJ (zN (o_d 1 [(2,iv 0)] (zE (zA (zJ (zJ (zN (o_d 2 [(4,bv (k==2)),(3,iv k)] (zE (zA (qK (t:=k==2) rfl (fun _=>?_) (fun q=>by rw [(by simp [h]:(k==2)=true)] at q;cases q))))))))))))
 exact zJ (zN (o_d 1 [(2,iv 8)] (zE (zA (qV (qC [iv 8] (zU rfl rfl) rfl (by rfl) rfl rfl))))))
theorem tb12C {P:Program} [PrC P] (k:Int) (h: ¬k=2):
    Env P "roundhouse/cookie.tagBits" [iv k] ([]) (Ans (iv 12) ([])):=by
 refine Env.by PrC.cookie_tagBits ?_
 unfold zc2
 show GC _ 0 _ _ ⟨reg [(0,iv k)],[]⟩
 refine zJ (zN (o_d 1 [(2,iv 0)] (zE (zA (zJ (zJ (zN (o_d 2 [(4,bv (k==2)),(3,iv k)] (zE (zA (qK (t:=k==2) rfl (fun q=>by rw [(by simp [h]:(k==2)=false)] at q;cases q) (fun _=>?_))))))))))))
 exact qM (zA (zJ (zN (o_d 1 [(2,iv 12)] (zE (zA (qV (qC [iv 12] (zU rfl rfl) rfl (by rfl) rfl rfl))))))))
abbrev yJ a (b:Int) (c:Int) (d:Int) (e:Int) (f:Int) (g:Int) (h:Int) (i:Int):=[(12,iv a),(11,.agg #[uv b,uv c,uv d,uv e,uv f,uv g]),(6,pv 1 0),(1,iv h),(2,iv i)]
abbrev Yc (a:Int) (b:Int) (c:Int) (d:Int) (e:Int) (f:Int):=[cw (yn a b c d e f),cw [uv 0,uv 0]]
theorem keyAtC {P:Program} [PrC P] (e0 e a0 b0 a1 b1 a2 b2:Int) (o:Option (Int×Int)) (ho:atS e0 e a0 b0 a1 b1 a2 b2=o) (hb: -4611686018427387904≤e0∧e0≤4611686018427387904):
    Env P "(roundhouse/cookie.three[roundhouse/api.Key]).at" [.agg #[uv a0,uv b0,uv a1,uv b1,uv a2,uv b2],iv e0,iv e] ([]) (Ans (kpV o) ([])):=by
 refine Env.by PrC.cookie_three_api_Key_at ?_
 unfold zcb
 show GC _ 0 _ _ ⟨reg [(0,.agg #[uv a0,uv b0,uv a1,uv b1,uv a2,uv b2]),(1,iv e0),(2,iv e)],[]⟩
 refine zJ (zN (o_b 3 [(7,bv false),(6,pv 1 0),(3,pv 0 0)] (Yc a0 b0 a1 b1 a2 b2) (zE (zA (zJ (zJ (zN (o_d 2 [(12,iv 0),(11,.agg #[uv a0,uv b0,uv a1,uv b1,uv a2,uv b2])] (zE (zA (zab (zdv (fun μ s=>(μ=3∧(0=0)∧s=⟨reg (yJ 0 a0 b0 a1 b1 a2 b2 e0 e),(Yc a0 b0 a1 b1 a2 b2)⟩)∨(μ=2∧(0=0∧¬(e0+0) % 4=e % 4)∧s=⟨reg (yJ 1 a0 b0 a1 b1 a2 b2 e0 e),(Yc a0 b0 a1 b1 a2 b2)⟩)∨(μ=1∧(0=0∧¬(e0+0) % 4=e % 4∧¬(e0+1) % 4=e % 4)∧s=⟨reg (yJ 2 a0 b0 a1 b1 a2 b2 e0 e),(Yc a0 b0 a1 b1 a2 b2)⟩)∨(μ=0∧(0=0∧¬(e0+0) % 4=e % 4∧¬(e0+1) % 4=e % 4∧¬(e0+2) % 4=e % 4)∧s=⟨reg (yJ 3 a0 b0 a1 b1 a2 b2 e0 e),(Yc a0 b0 a1 b1 a2 b2)⟩)) ⟨3, ?_⟩ ?_))))))))))))
 ·skip
  refine ⟨⟨reg (yJ 0 a0 b0 a1 b1 a2 b2 e0 e),(Yc a0 b0 a1 b1 a2 b2)⟩, ?_⟩
  refine ⟨?_, ?_⟩
  ·exact Wk.ren [0,1] rfl rfl dC ⟨rfl,((qP rfl)).trans rfl,rfl,rfl,rfl,trivial⟩ ⟨.inl rfl,.inl rfl,trivial⟩
  ·exact .inl ⟨rfl,om,rfl⟩
 ·rintro μ s (⟨rfl,hU,rfl⟩ | ⟨rfl,hU,rfl⟩ | ⟨rfl,hU,rfl⟩ | ⟨rfl,hU,rfl⟩)
  ·skip
   refine zJ (zN (o_d 1 [(13,bv true)] (zE (zA (zJ (zcZ rfl (qM (zA (zJ (zab (zJ (zN ?_))))))))))))
   refine o_b 5 [(8,iv 0),(9,pv 2 0),(15,.agg #[uv a0,uv b0]),(14,iv 0)] [cw (yn a0 b0 a1 b1 a2 b2),cw [uv 0,uv 0],cw [uv a0,uv b0]] (zE (zA (zJ (zN (o_d 2 [(17,iv 0),(16,iv e0)] (o_s (by refine zR (v:= .int .i64 (i64.wrap (e0+0))) (congrArg wh (w64 om om)) ?_;kernel_rfl) ?_))))))
   refine qT (zal (zhS (e0+0)) rfl rfl rfl (o_d 1 [(20,iv e)] (qT (zal (zhS e) rfl rfl rfl (o_d 1 [(22,bv (((e0+0) % 4)==(e % 4)))] (zE (zA (qK (t:=((e0+0) % 4)==(e % 4)) rfl (fun h1=>?_) (fun h1=>?_)))))))))
   ·skip
    have h1':(e0+0) % 4=e % 4:=zaL h1
    refine zJ (zN (o_b 3 [(7,bv true),(23,.agg #[uv a0,uv b0])] [cw (yn a0 b0 a1 b1 a2 b2),cw [uv a0,uv b0],cw [uv a0,uv b0]] (zE (zA (qV ?_)))))
    have E0_:kpV o=(.tuple #[.agg #[uv a0,uv b0],bv true]):=by
     have h9:atS e0 e a0 b0 a1 b1 a2 b2=o:=ho
     unfold atS at h9
     rw [if_pos om] at h9
     subst h9;rfl
    exact qC [.agg #[uv a0,uv b0],bv true] (qY rfl rfl rfl (zU rfl rfl)) rfl (by rw [E0_];rfl) rfl rfl
   have h1': ¬((e0+0) % 4=e % 4):=zaM h1
   refine qM (zA (zN (o_d 2 [(12,iv 1),(24,iv 1)] (zE (⟨2, ?_⟩)))))
   refine ⟨⟨reg (yJ 1 a0 b0 a1 b1 a2 b2 e0 e),(Yc a0 b0 a1 b1 a2 b2)⟩, ?_⟩
   refine zee dC ⟨?_, ?_⟩
   ·exact Wk.ren [0,1] rfl rfl dC ⟨rfl,((qP rfl)).trans rfl,rfl,rfl,rfl,trivial⟩ ⟨.inl rfl,.inl rfl,trivial⟩
   ·exact .inr (.inl ⟨rfl,om,rfl⟩)
  ·skip
   refine zJ (zN (o_d 1 [(13,bv true)] (zE (zA (zJ (zcZ rfl (qM (zA (zJ (zab (zJ (zN ?_))))))))))))
   refine o_b 5 [(8,iv 1),(9,pv 2 0),(15,.agg #[uv a1,uv b1]),(14,iv 1)] [cw (yn a0 b0 a1 b1 a2 b2),cw [uv 0,uv 0],cw [uv a1,uv b1]] (zE (zA (zJ (zN (o_d 2 [(17,iv 1),(16,iv e0)] (o_s (by refine zR (v:= .int .i64 (i64.wrap (e0+1))) (congrArg wh (w64 om om)) ?_;kernel_rfl) ?_))))))
   refine qT (zal (zhS (e0+1)) rfl rfl rfl (o_d 1 [(20,iv e)] (qT (zal (zhS e) rfl rfl rfl (o_d 1 [(22,bv (((e0+1) % 4)==(e % 4)))] (zE (zA (qK (t:=((e0+1) % 4)==(e % 4)) rfl (fun h2=>?_) (fun h2=>?_)))))))))
   ·skip
    have h2':(e0+1) % 4=e % 4:=zaL h2
    refine zJ (zN (o_b 3 [(7,bv true),(23,.agg #[uv a1,uv b1])] [cw (yn a0 b0 a1 b1 a2 b2),cw [uv a1,uv b1],cw [uv a1,uv b1]] (zE (zA (qV ?_)))))
    have E0_:kpV o=(.tuple #[.agg #[uv a1,uv b1],bv true]):=by
     have h9:atS e0 e a0 b0 a1 b1 a2 b2=o:=ho
     unfold atS at h9
     rw [if_neg om,if_pos om] at h9
     subst h9;rfl
    exact qC [.agg #[uv a1,uv b1],bv true] (qY rfl rfl rfl (zU rfl rfl)) rfl (by rw [E0_];rfl) rfl rfl
   have h2': ¬((e0+1) % 4=e % 4):=zaM h2
   refine qM (zA (zN (o_d 2 [(12,iv 2),(24,iv 2)] (zE (⟨1, ?_⟩)))))
   refine ⟨⟨reg (yJ 2 a0 b0 a1 b1 a2 b2 e0 e),(Yc a0 b0 a1 b1 a2 b2)⟩, ?_⟩
   refine zee dC ⟨?_, ?_⟩
   ·exact Wk.ren [0,1] rfl rfl dC ⟨rfl,((qP rfl)).trans rfl,rfl,rfl,rfl,trivial⟩ ⟨.inl rfl,.inl rfl,trivial⟩
   ·exact .inr (.inr (.inl ⟨rfl,om,rfl⟩))
  ·skip
   refine zJ (zN (o_d 1 [(13,bv true)] (zE (zA (zJ (zcZ rfl (qM (zA (zJ (zab (zJ (zN ?_))))))))))))
   refine o_b 5 [(8,iv 2),(9,pv 2 0),(15,.agg #[uv a2,uv b2]),(14,iv 2)] [cw (yn a0 b0 a1 b1 a2 b2),cw [uv 0,uv 0],cw [uv a2,uv b2]] (zE (zA (zJ (zN (o_d 2 [(17,iv 2),(16,iv e0)] (o_s (by refine zR (v:= .int .i64 (i64.wrap (e0+2))) (congrArg wh (w64 om om)) ?_;kernel_rfl) ?_))))))
   refine qT (zal (zhS (e0+2)) rfl rfl rfl (o_d 1 [(20,iv e)] (qT (zal (zhS e) rfl rfl rfl (o_d 1 [(22,bv (((e0+2) % 4)==(e % 4)))] (zE (zA (qK (t:=((e0+2) % 4)==(e % 4)) rfl (fun h3=>?_) (fun h3=>?_)))))))))
   ·skip
    have h3':(e0+2) % 4=e % 4:=zaL h3
    refine zJ (zN (o_b 3 [(7,bv true),(23,.agg #[uv a2,uv b2])] [cw (yn a0 b0 a1 b1 a2 b2),cw [uv a2,uv b2],cw [uv a2,uv b2]] (zE (zA (qV ?_)))))
    have E0_:kpV o=(.tuple #[.agg #[uv a2,uv b2],bv true]):=by
     have h9:atS e0 e a0 b0 a1 b1 a2 b2=o:=ho
     unfold atS at h9
     rw [if_neg om,if_neg om,if_pos om] at h9
     subst h9;rfl
    exact qC [.agg #[uv a2,uv b2],bv true] (qY rfl rfl rfl (zU rfl rfl)) rfl (by rw [E0_];rfl) rfl rfl
   have h3': ¬((e0+2) % 4=e % 4):=zaM h3
   refine qM (zA (zN (o_d 2 [(12,iv 3),(24,iv 3)] (zE (⟨0, ?_⟩)))))
   refine ⟨⟨reg (yJ 3 a0 b0 a1 b1 a2 b2 e0 e),(Yc a0 b0 a1 b1 a2 b2)⟩, ?_⟩
   refine zee dC ⟨?_, ?_⟩
   ·exact Wk.ren [0,1] rfl rfl dC ⟨rfl,((qP rfl)).trans rfl,rfl,rfl,rfl,trivial⟩ ⟨.inl rfl,.inl rfl,trivial⟩
   ·exact .inr (.inr (.inr (⟨rfl,om,rfl⟩)))
  ·skip
   refine zJ (zN (o_d 1 [(13,bv false)] (zE (zA (zJ (zba rfl (zc0 (zA (zJ (zN (o_b 1 [(10,pv 2 0)] [cw (yn a0 b0 a1 b1 a2 b2),cw [uv 0,uv 0],cw [uv 0,uv 0]] (zE ?_))))))))))))
   refine zA (zJ (zN (o_d 3 [(7,bv false),(25,.agg #[uv 0,uv 0])] (zE (zA (qV ?_))))))
   have E0_:kpV o=(.tuple #[.agg #[uv 0,uv 0],bv false]):=by
    have h9:atS e0 e a0 b0 a1 b1 a2 b2=o:=ho
    unfold atS at h9
    rw [if_neg om,if_neg om,if_neg om] at h9
    subst h9;rfl
   exact qC [.agg #[uv 0,uv 0],bv false] (qY rfl rfl rfl (zU rfl rfl)) rfl (by rw [E0_];rfl) rfl rfl
abbrev vb (a:Rg):=#[iv a.e,uv a.pa,uv a.pb,uv a.ca,uv a.cb,uv a.na,uv a.nb]
abbrev v8 (a:Rg):=[iv a.e,uv a.pa,uv a.pb,uv a.ca,uv a.cb,uv a.na,uv a.nb]
theorem ckeyC {P:Program} [PrC P] (r:Rg) (e:Int) (o:Option (Int×Int)) (ho:keyS r e=o) (hb: -4611686018427387904≤r.e - 1∧r.e - 1≤4611686018427387904):
    Env P "roundhouse/cookie.Key" [.agg (vb r),iv e] ([]) (Ans (kpV o) ([])):=by
 refine Env.by PrC.cookie_Key ?_
 unfold zhp
 show GC _ 0 _ _ ⟨reg [(0,.agg (vb r)),(1,iv e)],[]⟩
 refine zJ (zN (o_b 3 [(5,bv false),(4,pv 1 0),(2,pv 0 0)] [cw (v8 r),cw [uv 0,uv 0]] (zE (zA (zJ (zN (o_d 9 [(14,iv r.e),(13,pv 0 0),(12,.agg #[uv r.pa,uv r.pb,uv r.ca,uv r.cb,uv r.na,uv r.nb]),(11,.agg #[uv r.na,uv r.nb]),(10,pv 0 5),(9,.agg #[uv r.ca,uv r.cb]),(8,pv 0 3),(7,.agg #[uv r.pa,uv r.pb]),(6,pv 0 1)] (o_s (by refine zR (v:= .int .i64 (i64.wrap (r.e - 1))) (congrArg wh (w64 om om)) ?_;kernel_rfl) ?_))))))))
 refine o_d 1 [(16,iv e)] ?_
 rcases q1:atS (r.e - 1) e r.pa r.pb r.ca r.cb r.na r.nb with _ | x2
 ·skip
  refine qT (zal (keyAtC (r.e - 1) e r.pa r.pb r.ca r.cb r.na r.nb none q1 om) rfl rfl rfl ?_)
  refine o_d 4 [(5,bv false),(19,bv false),(18,.agg #[uv 0,uv 0])] (zE (zA (qV ?_)))
  have E0_:kpV o=(.tuple #[.agg #[uv 0,uv 0],bv false]):=by
   exact congrArg kpV (ho.symm.trans (by assumption))
  exact qC [.agg #[uv 0,uv 0],bv false] (qY rfl rfl rfl (zU rfl rfl)) rfl (by rw [E0_];rfl) rfl rfl
 ·skip
  refine qT (zal (keyAtC (r.e - 1) e r.pa r.pb r.ca r.cb r.na r.nb (some x2) q1 om) rfl rfl rfl ?_)
  refine o_b 4 [(5,bv true),(19,bv true),(18,.agg #[uv x2.1,uv x2.2])] [cw (v8 r),cw [uv x2.1,uv x2.2]] (zE (zA (qV ?_)))
  have E0_:kpV o=(.tuple #[.agg #[uv x2.1,uv x2.2],bv true]):=by
   exact congrArg kpV (ho.symm.trans (by assumption))
  exact qC [.agg #[uv x2.1,uv x2.2],bv true] (qY rfl rfl rfl (zU rfl rfl)) rfl (by rw [E0_];rfl) rfl rfl
abbrev wW (b:Fl):=#[iv b.a,iv b.p,iv b.ta,iv b.tp]
abbrev vn (b:Fl):=[iv b.a,iv b.p,iv b.ta,iv b.tp]
theorem csumC {P:Program} [PrC P] (ka kb k:Int) (f:Fl) (a b:Int):
    Env P "roundhouse/cookie.sum" [.agg #[uv ka,uv kb],iv k,.agg (wW f),iv a,iv b] ([]) (Ans (uv (zep ka kb k f a b)) ([])):=by
 refine Env.by PrC.cookie_sum ?_
 unfold zhn
 show GC _ 0 _ _ ⟨reg [(0,.agg #[uv ka,uv kb]),(1,iv k),(2,.agg (wW f)),(3,iv a),(4,iv b)],[]⟩
 refine zJ (zN (o_b 3 [(10,uv 0),(7,pv 1 0),(5,pv 0 0)] [cw [uv ka,uv kb],cw (vn f)] (zE (zA (zJ (zN (o_b 13 [(23,sv 2 0 7 7),(22,iv b),(21,iv a),(20,iv f.tp),(19,pv 1 3),(18,iv f.ta),(17,pv 1 2),(16,iv f.p),(15,pv 1 1),(14,iv f.a),(13,pv 1 0),(12,iv k),(11,.agg #[uv ka,uv kb])] [cw [uv ka,uv kb],cw (vn f),cw [iv k,iv f.a,iv f.p,iv f.ta,iv f.tp,iv a,iv b]] (qT (zeC (a1:= [.agg #[uv ka,uv kb],sv 0 0 7 7]) [2] [ii [k,f.a,f.p,f.ta,f.tp,a,b]] (wordsC ka kb [k,f.a,f.p,f.ta,f.tp,a,b] (by first | omega | decide | (simp;done))) rfl (fun _=>zM (qP rfl) (zM rfl rfl)) ⟨⟨_,rfl⟩,zay _,trivial⟩ rfl ?_)))))))))
 refine o_d 1 [(10,uv (zb2 ka kb [k,f.a,f.p,f.ta,f.tp,a,b]))] (zE (zT [(10,uv (zb2 ka kb [k,f.a,f.p,f.ta,f.tp,a,b]))] (qV ?_)))
 have E0_:zep ka kb k f a b=zb2 ka kb [k,f.a,f.p,f.ta,f.tp,a,b]:=by
  rfl
 exact qC [uv (zb2 ka kb [k,f.a,f.p,f.ta,f.tp,a,b])] (zU rfl rfl) rfl (by rw [E0_];rfl) rfl rfl
theorem veilC {P:Program} [PrC P] (ka kb k:Int) (f:Fl) (e:Int):
    Env P "roundhouse/cookie.veil" [.agg #[uv ka,uv kb],iv k,.agg (wW f),iv e] ([]) (Ans (iv (zaV ka kb k f e)) ([])):=by
 refine Env.by PrC.cookie_veil ?_
 unfold zgn
 show GC _ 0 _ _ ⟨reg [(0,.agg #[uv ka,uv kb]),(1,iv k),(2,.agg (wW f)),(3,iv e)],[]⟩
 refine zJ (zN (o_b 3 [(8,iv 0),(6,pv 1 0),(4,pv 0 0)] [cw [uv ka,uv kb],cw (vn f)] (zE (zA (zJ (zN (o_d 4 [(12,iv e),(11,.agg (wW f)),(10,iv k),(9,.agg #[uv ka,uv kb])] (qT (zal (csumC ka kb k f 64 e) rfl rfl rfl (o_s (by refine zR (congrArg (Value.int .u64) (zeb (k:= .u64) 6 (M:=63) (R:=64) (x:=zep ka kb k f 64 e) dC rfl rfl)) ?_;kernel_rfl) ?_))))))))))
 refine o_s (by refine zR (v:= .int .i64 (i64.wrap ((zep ka kb k f 64 e) % 64))) (congrArg wh (w64 om om)) ?_;kernel_rfl) ?_
 refine o_d 1 [(8,iv ((zep ka kb k f 64 e) % 64))] (zE (zA (qV ?_)))
 have E0_:zaV ka kb k f e=(zep ka kb k f 64 e) % 64:=by
  rfl
 exact qC [iv ((zep ka kb k f 64 e) % 64)] (zU rfl rfl) rfl (by rw [E0_];rfl) rfl rfl
theorem ctagC {P:Program} [PrC P] (ka kb k:Int) (f:Fl) (s e:Int):
    Env P "roundhouse/cookie.tag" [.agg #[uv ka,uv kb],iv k,.agg (wW f),iv s,iv e] ([]) (Ans (iv (zfs ka kb k f s e)) ([])):=by
 refine Env.by PrC.cookie_tag ?_
 unfold zhm
 show GC _ 0 _ _ ⟨reg [(0,.agg #[uv ka,uv kb]),(1,iv k),(2,.agg (wW f)),(3,iv s),(4,iv e)],[]⟩
 refine zJ (zN (o_b 3 [(10,iv 0),(7,pv 1 0),(5,pv 0 0)] [cw [uv ka,uv kb],cw (vn f)] (zE (zA (zJ (zN (o_d 5 [(15,iv e),(14,iv s),(13,.agg (wW f)),(12,iv k),(11,.agg #[uv ka,uv kb])] (qT (zal (csumC ka kb k f s e) rfl rfl rfl (o_d 1 [(17,iv k)] ?_))))))))))
 rcases Decidable.em (k=2) with t1 | t1
 ·skip
  have t1b:TB k=256:=if_pos t1
  refine qT (zal (tb8C k t1) rfl rfl rfl (o_d 2 [(20,uv 255),(19,uv 256)] (o_s (by refine zR (congrArg (Value.int .u64) (zeb (k:= .u64) 8 (M:=255) (R:=256) (x:=zep ka kb k f s e) dC rfl rfl)) ?_;kernel_rfl) ?_)))
  refine o_s (by refine zR (v:= .int .i64 (i64.wrap ((zep ka kb k f s e) % 256))) (congrArg wh (w64 om om)) ?_;kernel_rfl) ?_
  refine o_d 1 [(10,iv ((zep ka kb k f s e) % 256))] (zE (zA (qV ?_)))
  have E0_:zfs ka kb k f s e=(zep ka kb k f s e) % 256:=by
   unfold zfs;simp only [TB, *];rfl
  exact qC [iv ((zep ka kb k f s e) % 256)] (zU rfl rfl) rfl (by rw [E0_];rfl) rfl rfl
 ·skip
  have t1b:TB k=4096:=if_neg t1
  refine qT (zal (tb12C k t1) rfl rfl rfl (o_d 2 [(20,uv 4095),(19,uv 4096)] (o_s (by refine zR (congrArg (Value.int .u64) (zeb (k:= .u64) 12 (M:=4095) (R:=4096) (x:=zep ka kb k f s e) dC rfl rfl)) ?_;kernel_rfl) ?_)))
  refine o_s (by refine zR (v:= .int .i64 (i64.wrap ((zep ka kb k f s e) % 4096))) (congrArg wh (w64 om om)) ?_;kernel_rfl) ?_
  refine o_d 1 [(10,iv ((zep ka kb k f s e) % 4096))] (zE (zA (qV ?_)))
  have E0_:zfs ka kb k f s e=(zep ka kb k f s e) % 4096:=by
   unfold zfs;simp only [TB, *];rfl
  exact qC [iv ((zep ka kb k f s e) % 4096)] (zU rfl rfl) rfl (by rw [E0_];rfl) rfl rfl
theorem partsC {P:Program} [PrC P] (e s t k:Int) (he:0≤e∧e < 4) (hs:0≤s∧s < 64) (ht:0≤t∧t < TB k):
    Env P "(roundhouse/cookie.parts).number" [.agg #[iv e,iv s,iv t],iv k] ([]) (Ans (iv ((e*64+s)*TB k+t)) ([])):=by
 refine Env.by PrC.cookie_parts_number ?_
 unfold zcV
 show GC _ 0 _ _ ⟨reg [(0,.agg #[iv e,iv s,iv t]),(1,iv k)],[]⟩
 refine zJ (zN (o_b 2 [(4,iv 0),(2,pv 0 0)] [cw [iv e,iv s,iv t]] (zE (zA (zJ (zbF [] (r_d 2 [(6,iv e),(5,pv 0 0)] (r_s (by refine zR (v:= .int .i64 (i64.wrap (e*64))) (congrArg wh (w64 om om)) ?_;kernel_rfl) ?_))))))))
 refine r_d 2 [(9,iv s),(8,pv 0 1)] (r_s (by refine zR (congrArg wh (zgZ (k:= .i64) 6 (R:=64) (x:=e*64) (y:=s) rfl om om (by rw [show (2:Int)^IntKind.i64.bits=18446744073709551616 from rfl];omega) (w64 om om))) ?_;kernel_rfl) ?_)
 refine r_d 1 [(11,iv k)] ?_
 rcases Decidable.em (k=2) with t1 | t1
 ·skip
  have t1b:TB k=256:=if_pos t1
  refine zfv (zbH (tb8C k t1) rfl rfl rfl (r_s (by refine zR (v:= .int .i64 (i64.wrap ((e*64+s)*256))) (congrArg wh (w64 om om)) ?_;kernel_rfl) ?_))
  refine r_d 2 [(15,iv t),(14,pv 0 2)] (r_s (by refine zR (congrArg wh (zgZ (k:= .i64) 8 (R:=256) (x:=(e*64+s)*256) (y:=t) rfl om om (by rw [show (2:Int)^IntKind.i64.bits=18446744073709551616 from rfl];omega) (w64 om om))) ?_;kernel_rfl) ?_)
  refine r_d 1 [(4,iv ((e*64+s)*256+t))] (zbk (zA (qV ?_)))
  have E0_:(e*64+s)*TB k+t=(e*64+s)*256+t:=by
   rw [t1b]
  exact qC [iv ((e*64+s)*256+t)] (zU rfl rfl) rfl (by rw [E0_];rfl) rfl rfl
 ·skip
  have t1b:TB k=4096:=if_neg t1
  refine zfv (zbH (tb12C k t1) rfl rfl rfl (r_s (by refine zR (v:= .int .i64 (i64.wrap ((e*64+s)*4096))) (congrArg wh (w64 om om)) ?_;kernel_rfl) ?_))
  refine r_d 2 [(15,iv t),(14,pv 0 2)] (r_s (by refine zR (congrArg wh (zgZ (k:= .i64) 12 (R:=4096) (x:=(e*64+s)*4096) (y:=t) rfl om om (by rw [show (2:Int)^IntKind.i64.bits=18446744073709551616 from rfl];omega) (w64 om om))) ?_;kernel_rfl) ?_)
  refine r_d 1 [(4,iv ((e*64+s)*4096+t))] (zbk (zA (qV ?_)))
  have E0_:(e*64+s)*TB k+t=(e*64+s)*4096+t:=by
   rw [t1b]
  exact qC [iv ((e*64+s)*4096+t)] (zU rfl rfl) rfl (by rw [E0_];rfl) rfl rfl
end Go.Rh

set_option maxHeartbeats 1000000
namespace Go.Rh
theorem readS_a {r:Rg} {k T c:Int} {f:Fl} (hT:TB k=T) (h:c < 0∨256*T≤c):zez r k f c=none:=by subst hT;exact if_pos h
theorem readS_b {r:Rg} {k T c D:Int} {f:Fl} (hT:TB k=T) (hD:64*T=D) (h: ¬(c < 0∨256*T≤c)) (hk:keyS r (c / D)=none):zez r k f c=none:=by
 subst hT;subst hD;unfold zez;rw [if_neg h,hk];rfl
theorem readS_c {r:Rg} {k T c D:Int} {f:Fl} {x:Int×Int} (hT:TB k=T) (hD:64*T=D) (h: ¬(c < 0∨256*T≤c)) (hk:keyS r (c / D)=some x) (ht: ¬zfs x.1 x.2 k f (xoN (c / T % 64) (zaV x.1 x.2 k f (c / D))) (c / D)=c % T):zez r k f c=none:=by
 subst hT;subst hD;unfold zez;rw [if_neg h,hk,Option.bind_some,readT,if_neg ht]
theorem readS_d {r:Rg} {k T c D:Int} {f:Fl} {x:Int×Int} (hT:TB k=T) (hD:64*T=D) (h: ¬(c < 0∨256*T≤c)) (hk:keyS r (c / D)=some x) (ht:zfs x.1 x.2 k f (xoN (c / T % 64) (zaV x.1 x.2 k f (c / D))) (c / D)=c % T):zez r k f c=some (xoN (c / T % 64) (zaV x.1 x.2 k f (c / D))):=by
 subst hT;subst hD;unfold zez;rw [if_neg h,hk,Option.bind_some,readT,if_pos ht]
theorem shl_mod_u32 {x M R:Int} (hR:0 < R) (h:M*R=4294967296):IntKind.u32.wrap (x*R)=x % M*R:=by
 show x*R % 4294967296=_
 rw [←h,Int.mul_comm x R,Int.mul_comm M R,Int.mul_emod_mul_of_pos _ _ hR,Int.mul_comm]
theorem cMakeC {P:Program} [PrC P] (r:Rg) (k:Int) (f:Fl) (s:Int) (hs:0≤s∧s < 64):
    Env P "roundhouse/cookie.Make" [.agg (vb r),iv k,.agg (wW f),iv s] ([]) (Ans (iv (zc1 r k f s)) ([])):=by
 refine Env.by PrC.cookie_Make ?_
 unfold zgq
 show GC _ 0 _ _ ⟨reg [(0,.agg (vb r)),(1,iv k),(2,.agg (wW f)),(3,iv s)],[]⟩
 have hx9:=xoN_r hs (zfC r.ca r.cb k f (r.e % 4))
 refine zJ (zN (o_b 3 [(8,iv 0),(6,pv 1 0),(4,pv 0 0)] [cw (v8 r),cw (vn f)] (zE (zA (zJ (zN (o_d 2 [(11,iv r.e),(10,pv 0 0)] (qT (zal (zhS r.e) rfl rfl rfl (o_d 1 [(9,iv (r.e % 4))] (zE (zA ?_))))))))))))
 refine zJ (zbF [] (r_d 7 [(19,iv (r.e % 4)),(18,.agg (wW f)),(17,iv k),(16,.agg #[uv r.ca,uv r.cb]),(15,pv 0 3),(14,iv s),(13,iv (r.e % 4))] (zfv (zbH (veilC r.ca r.cb k f (r.e % 4)) rfl rfl rfl ?_))))
 have hy1:=zfC r.ca r.cb k f (r.e % 4)
 refine r_s (by refine zR (congrArg wh (xoN_run (a:=s) (b:=zaV r.ca r.cb k f (r.e % 4)) om om)) ?_;kernel_rfl) ?_
 refine r_d 6 [(27,iv (r.e % 4)),(26,iv s),(25,.agg (wW f)),(24,iv k),(23,.agg #[uv r.ca,uv r.cb]),(22,pv 0 3)] (zfv (zbH (ctagC r.ca r.cb k f s (r.e % 4)) rfl rfl rfl ?_))
 have hy2:=tagS_r r.ca r.cb k f s (r.e % 4)
 refine r_d 2 [(30,iv k),(29,.agg #[iv (r.e % 4),iv (xoN s (zaV r.ca r.cb k f (r.e % 4))),iv (zfs r.ca r.cb k f s (r.e % 4))])] (zfv (zbH (partsC (r.e % 4) (xoN s (zaV r.ca r.cb k f (r.e % 4))) (zfs r.ca r.cb k f s (r.e % 4)) k om om (by first | assumption | omega)) rfl rfl rfl ?_))
 refine r_d 1 [(8,iv ((r.e % 4*64+xoN s (zaV r.ca r.cb k f (r.e % 4)))*TB k+zfs r.ca r.cb k f s (r.e % 4)))] (zbk (zT [(8,iv ((r.e % 4*64+xoN s (zaV r.ca r.cb k f (r.e % 4)))*TB k+zfs r.ca r.cb k f s (r.e % 4)))] (qV ?_)))
 have E0_:zc1 r k f s=(r.e % 4*64+xoN s (zaV r.ca r.cb k f (r.e % 4)))*TB k+zfs r.ca r.cb k f s (r.e % 4):=by
  rfl
 exact qC [iv ((r.e % 4*64+xoN s (zaV r.ca r.cb k f (r.e % 4)))*TB k+zfs r.ca r.cb k f s (r.e % 4))] (zU rfl rfl) rfl (by rw [E0_];rfl) rfl rfl
abbrev wR (b:Rg) (c:Fl) (d:Int) f g h:=cw [iv b.e,uv b.pa,uv b.pb,uv b.ca,uv b.cb,uv b.na,uv b.nb]::cw [iv c.a,iv c.p,iv c.ta,iv c.tp]::cw [iv (d / f),iv ((d / g) % 64),iv (d % g)]::h
abbrev Wz (a:Nat) (b:Nat):=[(a,iv 0),(b,bv false)]
abbrev WL:=[iv 0,bv false]
theorem cReadC {P:Program} [PrC P] (r:Rg) (k:Int) (f:Fl) (c:Int) (o:Option Int) (ho:zez r k f c=o) (hb: -4611686018427387904≤r.e - 1∧r.e - 1≤4611686018427387904):
    Env P "roundhouse/cookie.Read" [.agg (vb r),iv k,.agg (wW f),iv c] ([]) (fun v h'=>v=zdX o∧h'= []):=by
 refine Env.by2 PrC.cookie_Read ?_
 unfold zgp
 show GC _ 0 _ _ ⟨reg [(0,.agg (vb r)),(1,iv k),(2,.agg (wW f)),(3,iv c)],[]⟩
 refine zJ (zN (o_b 4 [(9,bv false),(8,iv 0),(6,pv 1 0),(4,pv 0 0)] [cw (v8 r),cw (vn f)] (zE (zA (zJ (zN (o_d 1 [(16,iv k)] ?_)))))))
 rcases Decidable.em (k=2) with t1 | t1
 ·skip
  have t1b:TB k=256:=if_pos t1
  refine qT (zal (tb8C k t1) rfl rfl rfl (o_d 1 [(10,iv 8)] (zE (zA (zJ (zJ (zN (o_d 3 [(20,bv (decide (c < 0))),(19,bv (decide (c < 0))),(18,iv c)] (zbC (b:=decide (c < 0)) 20 rfl (fun h2=>?_) (fun h2=>?_))))))))))
  ·skip
   have h2':c < 0:=of_decide_eq_true h2
   exact o_d 6 ((26,bv true)::(25,undef)::(y9 24 23 22 21)) (zE (zA (zcZ rfl (zJ (zN (o_d 2 (vP 9 8) (zE (zT (vP 9 8) (qV (⟨trivial,⟨reg (Wz 8 9),[]⟩,Wk.ren [] rfl rfl dC ⟨rfl,rfl,trivial⟩ trivial,WL,(zU rfl (zU rfl rfl)),(zK rfl (zK rfl z5)),(congrArg zdX ((readS_a t1b om).symm.trans ho)),rfl⟩))))))))))
  have h2': ¬(c < 0):=of_decide_eq_false h2
  refine o_d 6 [(26,bv (decide (c≥65536))),(25,bv (decide (c≥65536))),(24,iv 65536),(23,iv 16),(22,iv 8),(21,iv c)] (zE (zA (qK (t:=decide (c≥65536)) rfl (fun h3=>?_) (fun h3=>?_))))
  ·skip
   have h3':c≥65536:=of_decide_eq_true h3
   exact zJ (zN (o_d 2 (vP 9 8) (zE (zT (vP 9 8) (qV (⟨trivial,⟨reg (Wz 8 9),[]⟩,Wk.ren [] rfl rfl dC ⟨rfl,rfl,trivial⟩ trivial,WL,(zU rfl (zU rfl rfl)),(zK rfl (zK rfl z5)),(congrArg zdX ((readS_a t1b om).symm.trans ho)),rfl⟩))))))
  have h3': ¬(c≥65536):=of_decide_eq_false h3
  refine qM (zA (zJ (zbF [] (r_d 3 [(29,iv 14),(28,iv 8),(27,iv c)] (r_s (by refine zR (v:= .int .i64 (c.fdiv 16384)) (congrArg wh (zce dC)) ?_;kernel_rfl) ?_)))))
  refine r_d 2 [(32,iv 8),(31,iv c)] (r_s (by refine zR (v:= .int .i64 (c.fdiv 256)) (congrArg wh (zce dC)) ?_;kernel_rfl) ?_)
  refine r_s (by refine zR (congrArg wh (zeb (k:= .i64) 6 (M:=63) (R:=64) (x:=c / 256) dC rfl rfl)) ?_;kernel_rfl) ?_
  refine r_d 4 [(38,iv 255),(37,iv 256),(36,iv 8),(35,iv c)] (r_s (by refine zR (congrArg wh (zeb (k:= .i64) 8 (M:=255) (R:=256) (x:=c) dC rfl rfl)) ?_;kernel_rfl) ?_)
  refine r_b 3 [(11,pv 2 0),(40,.agg #[iv (c / 16384),iv ((c / 256) % 64),iv (c % 256)])] [cw (v8 r),cw (vn f),cw [iv (c / 16384),iv ((c / 256) % 64),iv (c % 256)]] (zbk (zT [(11,pv 2 0),(6,pv 1 0),(4,pv 0 0),(1,iv k)] (zJ (zN (o_d 3 [(44,iv (c / 16384)),(43,pv 2 0),(42,.agg (vb r))] ?_)))))
  rcases q4:keyS r (c / 16384) with _ | x5
  ·skip
   refine qT (zal (ckeyC r (c / 16384) none q4 om) rfl rfl rfl ?_)
   refine o_b 6 [(13,bv false),(12,pv 3 0),(47,bv false),(46,.agg #[uv 0,uv 0]),(41,.tuple #[.agg #[uv 0,uv 0],bv false])] (wR r f c 16384 256 [cw [uv 0,uv 0]]) (zE (zA (zJ (zJ (zN (o_d 2 [(49,bv true),(48,bv false)] (zE (zA (zcZ rfl (zJ (zN (o_d 2 (vP 9 8) ?_))))))))))))
   exact zE (zA (qV (⟨trivial,⟨reg (Wz 8 9),[]⟩,Wk.ren [] rfl rfl dC ⟨rfl,rfl,trivial⟩ trivial,WL,(zU rfl (zU rfl rfl)),(zK rfl (zK rfl z5)),(congrArg zdX ((readS_b t1b dC om q4).symm.trans ho)),rfl⟩)))
  ·skip
   refine qT (zal (ckeyC r (c / 16384) (some x5) q4 om) rfl rfl rfl ?_)
   refine o_b 6 [(13,bv true),(12,pv 3 0),(47,bv true),(46,.agg #[uv x5.1,uv x5.2]),(41,.tuple #[.agg #[uv x5.1,uv x5.2],bv true])] (wR r f c 16384 256 [cw [uv x5.1,uv x5.2]]) (zE (zA (zJ (zJ (zN (o_d 2 [(49,bv false),(48,bv true)] (zE (zA (zba rfl (qM (zA (zJ ?_))))))))))))
   refine zbF [] (r_d 7 [(56,iv (c / 16384)),(55,pv 2 0),(54,.agg (wW f)),(53,iv k),(52,.agg #[uv x5.1,uv x5.2]),(51,iv ((c / 256) % 64)),(50,pv 2 1)] (zfv (zbH (veilC x5.1 x5.2 k f (c / 16384)) rfl rfl rfl ?_)))
   have hy6:=zfC x5.1 x5.2 k f (c / 16384)
   refine r_s (by refine zR (congrArg wh (xoN_run (a:=(c / 256) % 64) (b:=zaV x5.1 x5.2 k f (c / 16384)) om om)) ?_;kernel_rfl) ?_
   refine r_d 1 [(14,iv (xoN ((c / 256) % 64) (zaV x5.1 x5.2 k f (c / 16384))))] (zbk (zA (zJ (zJ (zbF [] (r_d 10 [(68,iv (c / 16384)),(67,pv 2 0),(66,iv (xoN ((c / 256) % 64) (zaV x5.1 x5.2 k f (c / 16384)))),(65,.agg (wW f)),(64,iv k),(63,.agg #[uv x5.1,uv x5.2]),(62,iv ((c / 256) % 64)),(61,pv 2 1),(60,iv (c / 16384)),(59,pv 2 0)] (zfv (zbH (ctagC x5.1 x5.2 k f (xoN ((c / 256) % 64) (zaV x5.1 x5.2 k f (c / 16384))) (c / 16384)) rfl rfl rfl ?_))))))))
   have hy7:=tagS_r x5.1 x5.2 k f (xoN ((c / 256) % 64) (zaV x5.1 x5.2 k f (c / 16384))) (c / 16384)
   refine r_b 3 [(15,pv 4 0),(70,.agg #[iv (c / 16384),iv ((c / 256) % 64),iv (zfs x5.1 x5.2 k f (xoN ((c / 256) % 64) (zaV x5.1 x5.2 k f (c / 16384))) (c / 16384))])] (wR r f c 16384 256 [cw [uv x5.1,uv x5.2],cw [iv (c / 16384),iv ((c / 256) % 64),iv (zfs x5.1 x5.2 k f (xoN ((c / 256) % 64) (zaV x5.1 x5.2 k f (c / 16384))) (c / 16384))]]) (zbk (zT [(15,pv 4 0),(14,iv (xoN ((c / 256) % 64) (zaV x5.1 x5.2 k f (c / 16384)))),(11,pv 2 0)] (zJ (zN (o_d 3 [(73,bv (!(((c / 16384)==(c / 16384))&&((((c / 256) % 64)==((c / 256) % 64))&&(((zfs x5.1 x5.2 k f (xoN ((c / 256) % 64) (zaV x5.1 x5.2 k f (c / 16384))) (c / 16384))==(c % 256))&&true))))),(72,.agg #[iv (c / 16384),iv ((c / 256) % 64),iv (c % 256)]),(71,.agg #[iv (c / 16384),iv ((c / 256) % 64),iv (zfs x5.1 x5.2 k f (xoN ((c / 256) % 64) (zaV x5.1 x5.2 k f (c / 16384))) (c / 16384))])] (zE (zA (qK (t:= !(((c / 16384)==(c / 16384))&&((((c / 256) % 64)==((c / 256) % 64))&&(((zfs x5.1 x5.2 k f (xoN ((c / 256) % 64) (zaV x5.1 x5.2 k f (c / 16384))) (c / 16384))==(c % 256))&&true)))) rfl (fun h8=>?_) (fun h8=>?_)))))))))
   ·skip
    have h9:(((c / 16384)==(c / 16384))&&((((c / 256) % 64)==((c / 256) % 64))&&(((zfs x5.1 x5.2 k f (xoN ((c / 256) % 64) (zaV x5.1 x5.2 k f (c / 16384))) (c / 16384))==(c % 256))&&true)))=false:=not_t h8
    exact zJ (zN (o_d 2 (vP 9 8) (zE (zA (qV (⟨trivial,⟨reg (Wz 8 9),[]⟩,Wk.ren [] rfl rfl dC ⟨rfl,rfl,trivial⟩ trivial,WL,(zU rfl (zU rfl rfl)),(zK rfl (zK rfl z5)),(congrArg zdX ((readS_c t1b dC om q4 (by have q:=h8;simp only [beq_self_eq_true,Bool.true_and,Bool.and_true,Bool.not_eq_false',Bool.not_eq_true',beq_iff_eq,beq_eq_false_iff_ne] at q;exact q)).symm.trans ho)),rfl⟩))))))
   have h10:(((c / 16384)==(c / 16384))&&((((c / 256) % 64)==((c / 256) % 64))&&(((zfs x5.1 x5.2 k f (xoN ((c / 256) % 64) (zaV x5.1 x5.2 k f (c / 16384))) (c / 16384))==(c % 256))&&true)))=true:=not_f h8
   exact qM (zA (zJ (zN (o_d 3 [(9,bv true),(8,iv (xoN ((c / 256) % 64) (zaV x5.1 x5.2 k f (c / 16384)))),(74,iv (xoN ((c / 256) % 64) (zaV x5.1 x5.2 k f (c / 16384))))] (zE (zA (qV (⟨trivial,⟨reg [(8,iv (xoN ((c / 256) % 64) (zaV x5.1 x5.2 k f (c / 16384)))),(9,bv true)],[]⟩,Wk.ren [] rfl rfl dC ⟨rfl,rfl,trivial⟩ trivial,[iv (xoN ((c / 256) % 64) (zaV x5.1 x5.2 k f (c / 16384))),bv true],(zU rfl (zU rfl rfl)),(zK rfl (zK rfl z5)),(congrArg zdX ((readS_d t1b dC om q4 (by have q:=h8;simp only [beq_self_eq_true,Bool.true_and,Bool.and_true,Bool.not_eq_false',Bool.not_eq_true',beq_iff_eq,beq_eq_false_iff_ne] at q;exact q)).symm.trans ho)),rfl⟩))))))))
 ·skip
  have t1b:TB k=4096:=if_neg t1
  refine qT (zal (tb12C k t1) rfl rfl rfl (o_d 1 [(10,iv 12)] (zE (zA (zJ (zJ (zN (o_d 3 [(20,bv (decide (c < 0))),(19,bv (decide (c < 0))),(18,iv c)] (zbC (b:=decide (c < 0)) 20 rfl (fun h11=>?_) (fun h11=>?_))))))))))
  ·skip
   have h11':c < 0:=of_decide_eq_true h11
   exact o_d 6 ((26,bv true)::(25,undef)::(y9 24 23 22 21)) (zE (zA (zcZ rfl (zJ (zN (o_d 2 (vP 9 8) (zE (zT (vP 9 8) (qV (⟨trivial,⟨reg (Wz 8 9),[]⟩,Wk.ren [] rfl rfl dC ⟨rfl,rfl,trivial⟩ trivial,WL,(zU rfl (zU rfl rfl)),(zK rfl (zK rfl z5)),(congrArg zdX ((readS_a t1b om).symm.trans ho)),rfl⟩))))))))))
  have h11': ¬(c < 0):=of_decide_eq_false h11
  refine o_d 6 [(26,bv (decide (c≥1048576))),(25,bv (decide (c≥1048576))),(24,iv 1048576),(23,iv 20),(22,iv 12),(21,iv c)] (zE (zA (qK (t:=decide (c≥1048576)) rfl (fun h12=>?_) (fun h12=>?_))))
  ·skip
   have h12':c≥1048576:=of_decide_eq_true h12
   exact zJ (zN (o_d 2 (vP 9 8) (zE (zT (vP 9 8) (qV (⟨trivial,⟨reg (Wz 8 9),[]⟩,Wk.ren [] rfl rfl dC ⟨rfl,rfl,trivial⟩ trivial,WL,(zU rfl (zU rfl rfl)),(zK rfl (zK rfl z5)),(congrArg zdX ((readS_a t1b om).symm.trans ho)),rfl⟩))))))
  have h12': ¬(c≥1048576):=of_decide_eq_false h12
  refine qM (zA (zJ (zbF [] (r_d 3 [(29,iv 18),(28,iv 12),(27,iv c)] (r_s (by refine zR (v:= .int .i64 (c.fdiv 262144)) (congrArg wh (zce dC)) ?_;kernel_rfl) ?_)))))
  refine r_d 2 [(32,iv 12),(31,iv c)] (r_s (by refine zR (v:= .int .i64 (c.fdiv 4096)) (congrArg wh (zce dC)) ?_;kernel_rfl) ?_)
  refine r_s (by refine zR (congrArg wh (zeb (k:= .i64) 6 (M:=63) (R:=64) (x:=c / 4096) dC rfl rfl)) ?_;kernel_rfl) ?_
  refine r_d 4 [(38,iv 4095),(37,iv 4096),(36,iv 12),(35,iv c)] (r_s (by refine zR (congrArg wh (zeb (k:= .i64) 12 (M:=4095) (R:=4096) (x:=c) dC rfl rfl)) ?_;kernel_rfl) ?_)
  refine r_b 3 [(11,pv 2 0),(40,.agg #[iv (c / 262144),iv ((c / 4096) % 64),iv (c % 4096)])] [cw (v8 r),cw (vn f),cw [iv (c / 262144),iv ((c / 4096) % 64),iv (c % 4096)]] (zbk (zT [(11,pv 2 0),(6,pv 1 0),(4,pv 0 0),(1,iv k)] (zJ (zN (o_d 3 [(44,iv (c / 262144)),(43,pv 2 0),(42,.agg (vb r))] ?_)))))
  rcases q13:keyS r (c / 262144) with _ | x14
  ·skip
   refine qT (zal (ckeyC r (c / 262144) none q13 om) rfl rfl rfl ?_)
   refine o_b 6 [(13,bv false),(12,pv 3 0),(47,bv false),(46,.agg #[uv 0,uv 0]),(41,.tuple #[.agg #[uv 0,uv 0],bv false])] (wR r f c 262144 4096 [cw [uv 0,uv 0]]) (zE (zA (zJ (zJ (zN (o_d 2 [(49,bv true),(48,bv false)] (zE (zA (zcZ rfl (zJ (zN (o_d 2 (vP 9 8) ?_))))))))))))
   exact zE (zA (qV (⟨trivial,⟨reg (Wz 8 9),[]⟩,Wk.ren [] rfl rfl dC ⟨rfl,rfl,trivial⟩ trivial,WL,(zU rfl (zU rfl rfl)),(zK rfl (zK rfl z5)),(congrArg zdX ((readS_b t1b dC om q13).symm.trans ho)),rfl⟩)))
  ·skip
   refine qT (zal (ckeyC r (c / 262144) (some x14) q13 om) rfl rfl rfl ?_)
   refine o_b 6 [(13,bv true),(12,pv 3 0),(47,bv true),(46,.agg #[uv x14.1,uv x14.2]),(41,.tuple #[.agg #[uv x14.1,uv x14.2],bv true])] (wR r f c 262144 4096 [cw [uv x14.1,uv x14.2]]) (zE (zA (zJ (zJ (zN (o_d 2 [(49,bv false),(48,bv true)] (zE (zA (zba rfl (qM (zA (zJ ?_))))))))))))
   refine zbF [] (r_d 7 [(56,iv (c / 262144)),(55,pv 2 0),(54,.agg (wW f)),(53,iv k),(52,.agg #[uv x14.1,uv x14.2]),(51,iv ((c / 4096) % 64)),(50,pv 2 1)] (zfv (zbH (veilC x14.1 x14.2 k f (c / 262144)) rfl rfl rfl ?_)))
   have hy15:=zfC x14.1 x14.2 k f (c / 262144)
   refine r_s (by refine zR (congrArg wh (xoN_run (a:=(c / 4096) % 64) (b:=zaV x14.1 x14.2 k f (c / 262144)) om om)) ?_;kernel_rfl) ?_
   refine r_d 1 [(14,iv (xoN ((c / 4096) % 64) (zaV x14.1 x14.2 k f (c / 262144))))] (zbk (zA (zJ (zJ (zbF [] (r_d 10 [(68,iv (c / 262144)),(67,pv 2 0),(66,iv (xoN ((c / 4096) % 64) (zaV x14.1 x14.2 k f (c / 262144)))),(65,.agg (wW f)),(64,iv k),(63,.agg #[uv x14.1,uv x14.2]),(62,iv ((c / 4096) % 64)),(61,pv 2 1),(60,iv (c / 262144)),(59,pv 2 0)] (zfv (zbH (ctagC x14.1 x14.2 k f (xoN ((c / 4096) % 64) (zaV x14.1 x14.2 k f (c / 262144))) (c / 262144)) rfl rfl rfl ?_))))))))
   have hy16:=tagS_r x14.1 x14.2 k f (xoN ((c / 4096) % 64) (zaV x14.1 x14.2 k f (c / 262144))) (c / 262144)
   refine r_b 3 [(15,pv 4 0),(70,.agg #[iv (c / 262144),iv ((c / 4096) % 64),iv (zfs x14.1 x14.2 k f (xoN ((c / 4096) % 64) (zaV x14.1 x14.2 k f (c / 262144))) (c / 262144))])] (wR r f c 262144 4096 [cw [uv x14.1,uv x14.2],cw [iv (c / 262144),iv ((c / 4096) % 64),iv (zfs x14.1 x14.2 k f (xoN ((c / 4096) % 64) (zaV x14.1 x14.2 k f (c / 262144))) (c / 262144))]]) (zbk (zT [(15,pv 4 0),(14,iv (xoN ((c / 4096) % 64) (zaV x14.1 x14.2 k f (c / 262144)))),(11,pv 2 0)] (zJ (zN (o_d 3 [(73,bv (!(((c / 262144)==(c / 262144))&&((((c / 4096) % 64)==((c / 4096) % 64))&&(((zfs x14.1 x14.2 k f (xoN ((c / 4096) % 64) (zaV x14.1 x14.2 k f (c / 262144))) (c / 262144))==(c % 4096))&&true))))),(72,.agg #[iv (c / 262144),iv ((c / 4096) % 64),iv (c % 4096)]),(71,.agg #[iv (c / 262144),iv ((c / 4096) % 64),iv (zfs x14.1 x14.2 k f (xoN ((c / 4096) % 64) (zaV x14.1 x14.2 k f (c / 262144))) (c / 262144))])] (zE (zA (qK (t:= !(((c / 262144)==(c / 262144))&&((((c / 4096) % 64)==((c / 4096) % 64))&&(((zfs x14.1 x14.2 k f (xoN ((c / 4096) % 64) (zaV x14.1 x14.2 k f (c / 262144))) (c / 262144))==(c % 4096))&&true)))) rfl (fun h17=>?_) (fun h17=>?_)))))))))
   ·skip
    have h18:(((c / 262144)==(c / 262144))&&((((c / 4096) % 64)==((c / 4096) % 64))&&(((zfs x14.1 x14.2 k f (xoN ((c / 4096) % 64) (zaV x14.1 x14.2 k f (c / 262144))) (c / 262144))==(c % 4096))&&true)))=false:=not_t h17
    exact zJ (zN (o_d 2 (vP 9 8) (zE (zA (qV (⟨trivial,⟨reg (Wz 8 9),[]⟩,Wk.ren [] rfl rfl dC ⟨rfl,rfl,trivial⟩ trivial,WL,(zU rfl (zU rfl rfl)),(zK rfl (zK rfl z5)),(congrArg zdX ((readS_c t1b dC om q13 (by have q:=h17;simp only [beq_self_eq_true,Bool.true_and,Bool.and_true,Bool.not_eq_false',Bool.not_eq_true',beq_iff_eq,beq_eq_false_iff_ne] at q;exact q)).symm.trans ho)),rfl⟩))))))
   have h19:(((c / 262144)==(c / 262144))&&((((c / 4096) % 64)==((c / 4096) % 64))&&(((zfs x14.1 x14.2 k f (xoN ((c / 4096) % 64) (zaV x14.1 x14.2 k f (c / 262144))) (c / 262144))==(c % 4096))&&true)))=true:=not_f h17
   exact qM (zA (zJ (zN (o_d 3 [(9,bv true),(8,iv (xoN ((c / 4096) % 64) (zaV x14.1 x14.2 k f (c / 262144)))),(74,iv (xoN ((c / 4096) % 64) (zaV x14.1 x14.2 k f (c / 262144))))] (zE (zA (qV (⟨trivial,⟨reg [(8,iv (xoN ((c / 4096) % 64) (zaV x14.1 x14.2 k f (c / 262144)))),(9,bv true)],[]⟩,Wk.ren [] rfl rfl dC ⟨rfl,rfl,trivial⟩ trivial,[iv (xoN ((c / 4096) % 64) (zaV x14.1 x14.2 k f (c / 262144))),bv true],(zU rfl (zU rfl rfl)),(zK rfl (zK rfl z5)),(congrArg zdX ((readS_d t1b dC om q13 (by have q:=h17;simp only [beq_self_eq_true,Bool.true_and,Bool.and_true,Bool.not_eq_false',Bool.not_eq_true',beq_iff_eq,beq_eq_false_iff_ne] at q;exact q)).symm.trans ho)),rfl⟩))))))))
theorem cPutC {P:Program} [PrC P] (v c:Int) (hvv:0≤v∧v < 4294967296):
    Env P "roundhouse/cookie.Put" [.int .u32 v,iv c] ([]) (Ans (u32v (putS v c)) ([])):=by
 refine Env.by PrC.cookie_Put ?_
 unfold zho
 show GC _ 0 _ _ ⟨reg [(0,.int .u32 v),(1,iv c)],[]⟩
 refine zJ (zN (o_d 1 [(4,.int .u32 0)] (zE (zA (zJ (zN (o_d 1 [(5,.int .u32 v)] (o_s (by refine zR (v:= .int .u32 (v.fdiv 256)) (congrArg vB (zce dC)) ?_;kernel_rfl) ?_))))))))
 refine o_s (by refine zR (v:= .int .u32 (IntKind.u32.wrap ((v / 256)*1048576))) (congrArg vB (shl_mod_u32 (M:=4096) (R:=1048576) dC dC)) ?_;kernel_rfl) ?_
 refine o_d 2 [(9,.int .u32 (c % 4294967296)),(8,iv c)] (o_s (by refine zR (congrArg vB (zeb (k:= .u32) 20 (M:=1048575) (R:=1048576) (x:=c % 4294967296) dC rfl rfl)) ?_;kernel_rfl) ?_)
 refine o_s (by refine zR (congrArg vB (zgZ (k:= .u32) 20 (R:=1048576) (x:=(v / 256) % 4096*1048576) (y:=(c % 4294967296) % 1048576) rfl om om (by rw [show (2:Int)^IntKind.u32.bits=4294967296 from rfl];omega) (zbM om))) ?_;kernel_rfl) ?_
 refine o_d 1 [(4,.int .u32 ((v / 256) % 4096*1048576+(c % 4294967296) % 1048576))] (zE (zA (qV ?_)))
 have E0_:putS v c=(v / 256) % 4096*1048576+(c % 4294967296) % 1048576:=by
  unfold putS;omega
 exact qC [.int .u32 ((v / 256) % 4096*1048576+(c % 4294967296) % 1048576)] (zU rfl rfl) rfl (by rw [E0_];rfl) rfl rfl
theorem cGetC {P:Program} [PrC P] (v:Int) (hvv:0≤v∧v < 4294967296):
    Env P "roundhouse/cookie.Get" [.int .u32 v] ([]) (Ans (.tuple #[iv (v / 1048576),iv (v % 1048576)]) ([])):=by
 refine Env.by PrC.cookie_Get ?_
 unfold zhq
 show GC _ 0 _ _ ⟨reg [(0,.int .u32 v)],[]⟩
 refine zJ (zN (o_d 2 [(3,iv 0),(2,iv 0)] (zE (zA (zJ (zN (o_d 1 [(4,.int .u32 v)] (o_s (by refine zR (v:= .int .u32 (v.fdiv 1048576)) (congrArg vB (zce dC)) ?_;kernel_rfl) ?_))))))))
 refine o_s (by refine zR (v:= .int .i64 (i64.wrap (v / 1048576))) (congrArg wh (w64 om om)) ?_;kernel_rfl) ?_
 refine o_d 1 [(7,.int .u32 v)] (o_s (by refine zR (congrArg vB (zeb (k:= .u32) 20 (M:=1048575) (R:=1048576) (x:=v) dC rfl rfl)) ?_;kernel_rfl) ?_)
 refine o_s (by refine zR (v:= .int .i64 (i64.wrap (v % 1048576))) (congrArg wh (w64 om om)) ?_;kernel_rfl) ?_
 refine o_d 2 [(3,iv (v % 1048576)),(2,iv (v / 1048576))] (zE (zA (qV ?_)))
 have E0_:v / 1048576=v / 1048576:=by
  rfl
 exact qC [iv (v / 1048576),iv (v % 1048576)] (zU rfl (zU rfl rfl)) rfl (by rw [E0_];rfl) rfl rfl
theorem cBackC {P:Program} [PrC P] (v n:Int) (hvv:0≤v∧v < 4294967296) (hvn:0≤n∧n < 4294967296):
    Env P "roundhouse/cookie.Back" [.int .u32 v,.int .u32 n] ([]) (Ans (u32v (zfS v n)) ([])):=by
 refine Env.by PrC.cookie_Back ?_
 unfold zgr
 show GC _ 0 _ _ ⟨reg [(0,.int .u32 v),(1,.int .u32 n)],[]⟩
 have hf9:=farS_r (n / 256*256 % 1048576) (v / 1048576*256)
 refine zJ (zN (o_d 1 [(4,.int .u32 0)] (zE (zA (zJ (zN (o_d 1 [(10,.int .u32 v)] (qT (zal (cGetC v om) rfl rfl rfl ?_)))))))))
 refine o_d 5 [(6,iv (v % 1048576)),(5,iv (v / 1048576)),(13,iv (v % 1048576)),(12,iv (v / 1048576)),(9,.tuple #[iv (v / 1048576),iv (v % 1048576)])] (zE (zA (zJ (zN (o_d 1 [(14,iv (v / 1048576))] (o_s (by refine zR (v:= .int .u32 (IntKind.u32.wrap (v / 1048576))) (congrArg vB (zbM om)) ?_;kernel_rfl) ?_))))))
 refine o_s (by refine zR (v:= .int .u32 (IntKind.u32.wrap ((v / 1048576)*256))) (congrArg vB (zbM om)) ?_;kernel_rfl) ?_
 refine o_d 1 [(7,.int .u32 ((v / 1048576)*256))] (zE (zA (zJ (zN (o_d 1 [(17,.int .u32 n)] (o_s (by refine zR (congrArg vB (lo8 (n:=n) om)) ?_;kernel_rfl) ?_))))))
 refine o_d 1 [(1,.int .u32 (n / 256*256))] (zE (zA (zJ (zN (o_d 1 [(19,.int .u32 (n / 256*256))] (o_s (by refine zR (congrArg vB (zeb (k:= .u32) 20 (M:=1048575) (R:=1048576) (x:=n / 256*256) dC rfl rfl)) ?_;kernel_rfl) ?_))))))
 refine o_d 1 [(21,.int .u32 ((v / 1048576)*256))] (qT (zal (FarC ((n / 256*256) % 1048576) ((v / 1048576)*256)) rfl rfl rfl (o_d 1 [(8,iv (zdw ((n / 256*256) % 1048576) ((v / 1048576)*256)))] (zE (zA (zJ (zab (zJ (zN (o_d 3 [(23,bv (decide (zdw ((n / 256*256) % 1048576) ((v / 1048576)*256)≥524288))),(25,bv (decide (zdw ((n / 256*256) % 1048576) ((v / 1048576)*256)≥524288))),(24,iv (zdw ((n / 256*256) % 1048576) ((v / 1048576)*256)))] (zE (zT [(23,bv (decide (zdw ((n / 256*256) % 1048576) ((v / 1048576)*256)≥524288))),(8,iv (zdw ((n / 256*256) % 1048576) ((v / 1048576)*256))),(1,.int .u32 (n / 256*256))] ?_))))))))))))
 refine qK (t:=decide (zdw ((n / 256*256) % 1048576) ((v / 1048576)*256)≥524288)) rfl (fun h1=>?_) (fun h1=>?_)
 ·skip
  have h1':zdw ((n / 256*256) % 1048576) ((v / 1048576)*256)≥524288:=of_decide_eq_true h1
  refine zN (o_d 1 [(26,iv (zdw ((n / 256*256) % 1048576) ((v / 1048576)*256)))] (o_s (by refine zR (v:= .int .i64 (i64.wrap (zdw ((n / 256*256) % 1048576) ((v / 1048576)*256) - 1048576))) (congrArg wh (w64 om om)) ?_;kernel_rfl) ?_))
  refine o_d 1 [(8,iv (zdw ((n / 256*256) % 1048576) ((v / 1048576)*256) - 1048576))] (zE (zA (zJ (zN (o_d 5 [(4,.int .u32 (IntKind.u32.wrap (n / 256*256+(zdw ((n / 256*256) % 1048576) ((v / 1048576)*256) - 1048576) % 4294967296))),(36,.int .u32 (IntKind.u32.wrap (n / 256*256+(zdw ((n / 256*256) % 1048576) ((v / 1048576)*256) - 1048576) % 4294967296))),(35,.int .u32 ((zdw ((n / 256*256) % 1048576) ((v / 1048576)*256) - 1048576) % 4294967296)),(34,iv (zdw ((n / 256*256) % 1048576) ((v / 1048576)*256) - 1048576)),(33,.int .u32 (n / 256*256))] (zE (zA (qV ?_))))))))
  have E0_:zfS v n=IntKind.u32.wrap (n / 256*256+(zdw ((n / 256*256) % 1048576) ((v / 1048576)*256) - 1048576) % 4294967296):=by
   unfold zfS backF
   (repeat' split)<;>first | rfl | omega
  exact qC [.int .u32 (IntKind.u32.wrap (n / 256*256+(zdw ((n / 256*256) % 1048576) ((v / 1048576)*256) - 1048576) % 4294967296))] (zU rfl rfl) rfl (by rw [E0_];rfl) rfl rfl
 have h1': ¬(zdw ((n / 256*256) % 1048576) ((v / 1048576)*256)≥524288):=of_decide_eq_false h1
 refine zJ (zN (o_d 3 [(28,bv (decide (zdw ((n / 256*256) % 1048576) ((v / 1048576)*256) < (-524288)))),(30,bv (decide (zdw ((n / 256*256) % 1048576) ((v / 1048576)*256) < (-524288)))),(29,iv (zdw ((n / 256*256) % 1048576) ((v / 1048576)*256)))] (zE (zA (qK (t:=decide (zdw ((n / 256*256) % 1048576) ((v / 1048576)*256) < (-524288))) rfl (fun h2=>?_) (fun h2=>?_))))))
 ·skip
  have h2':zdw ((n / 256*256) % 1048576) ((v / 1048576)*256) < (-524288):=of_decide_eq_true h2
  refine zN (o_d 1 [(31,iv (zdw ((n / 256*256) % 1048576) ((v / 1048576)*256)))] (o_s (by refine zR (v:= .int .i64 (i64.wrap (zdw ((n / 256*256) % 1048576) ((v / 1048576)*256)+1048576))) (congrArg wh (w64 om om)) ?_;kernel_rfl) ?_))
  refine o_d 1 [(8,iv (zdw ((n / 256*256) % 1048576) ((v / 1048576)*256)+1048576))] (zE (zA (zJ (zN (o_d 5 [(4,.int .u32 (IntKind.u32.wrap (n / 256*256+(zdw ((n / 256*256) % 1048576) ((v / 1048576)*256)+1048576) % 4294967296))),(36,.int .u32 (IntKind.u32.wrap (n / 256*256+(zdw ((n / 256*256) % 1048576) ((v / 1048576)*256)+1048576) % 4294967296))),(35,.int .u32 ((zdw ((n / 256*256) % 1048576) ((v / 1048576)*256)+1048576) % 4294967296)),(34,iv (zdw ((n / 256*256) % 1048576) ((v / 1048576)*256)+1048576)),(33,.int .u32 (n / 256*256))] (zE (zA (qV ?_))))))))
  have E0_:zfS v n=IntKind.u32.wrap (n / 256*256+(zdw ((n / 256*256) % 1048576) ((v / 1048576)*256)+1048576) % 4294967296):=by
   unfold zfS backF
   (repeat' split)<;>first | rfl | omega
  exact qC [.int .u32 (IntKind.u32.wrap (n / 256*256+(zdw ((n / 256*256) % 1048576) ((v / 1048576)*256)+1048576) % 4294967296))] (zU rfl rfl) rfl (by rw [E0_];rfl) rfl rfl
 have h2': ¬(zdw ((n / 256*256) % 1048576) ((v / 1048576)*256) < (-524288)):=of_decide_eq_false h2
 refine qM (zA (zJ (zN (o_d 5 [(4,.int .u32 (IntKind.u32.wrap (n / 256*256+(zdw ((n / 256*256) % 1048576) ((v / 1048576)*256)) % 4294967296))),(36,.int .u32 (IntKind.u32.wrap (n / 256*256+(zdw ((n / 256*256) % 1048576) ((v / 1048576)*256)) % 4294967296))),(35,.int .u32 ((zdw ((n / 256*256) % 1048576) ((v / 1048576)*256)) % 4294967296)),(34,iv (zdw ((n / 256*256) % 1048576) ((v / 1048576)*256))),(33,.int .u32 (n / 256*256))] (zE (zA (qV ?_)))))))
 have E0_:zfS v n=IntKind.u32.wrap (n / 256*256+(zdw ((n / 256*256) % 1048576) ((v / 1048576)*256)) % 4294967296):=by
  unfold zfS backF
  (repeat' split)<;>first | rfl | omega
 exact qC [.int .u32 (IntKind.u32.wrap (n / 256*256+(zdw ((n / 256*256) % 1048576) ((v / 1048576)*256)) % 4294967296))] (zU rfl rfl) rfl (by rw [E0_];rfl) rfl rfl
end Go.Rh

namespace Go.Rh
theorem zbc: ∀(n:Nat) (l:List Int) (a i:Nat) (v:Int),i < a∨a+n≤i→(zbh l a n v).getD i 0=l.getD i 0
 | 0,_,_,_,_,_=>rfl
 | n+1,l,a,i,v,h=>by
  simp only [zbh]
  rw [zbc n _ _ _ _ om,List.getD_eq_getElem?_getD,List.getD_eq_getElem?_getD,List.getElem?_set_ne om]
theorem zaa {l:List Int} {a n i:Nat} {v:Int} : ∀k,i+k≤a∨a+n≤i→qD (zbh l a n v) i k=qD l i k
 | 0,_=>rfl
 | k+1,h=>by simp only [qD];rw [zaa k om,zbc _ _ _ _ _ om]
theorem zfi {l:List Int} {a i:Nat} {v:Int} : ∀k,i+k≤a∨a+1≤i→qD (l.set a v) i k=qD l i k
 | 0,_=>rfl
 | k+1,h=>by
  simp only [qD];rw [zfi k om,List.getD_eq_getElem?_getD,List.getD_eq_getElem?_getD,List.getElem?_set_ne om]
theorem zas {l:List Int} {a i:Nat} {v:Int} (h:a≠i):(l.set a v).getD i 0=l.getD i 0:=by
 rw [List.getD_eq_getElem?_getD,List.getD_eq_getElem?_getD,List.getElem?_set_ne h]
theorem za1 {l:List Int} {a:Nat} {v:Int} (h:a < l.length):(l.set a v).getD a 0=v:=by
 rw [List.getD_eq_getElem?_getD,List.getElem?_set_self h];rfl
theorem zdm {l:List Int} {a:Nat} {v:Int} (h:a+2≤l.length) (hv:0≤v∧v < 65536):qD (zbh l a 2 v) a 2=v:=by
 simp only [zbh,qD,Nat.add_zero,Nat.zero_add]
 rw [za1 (by rw [List.length_set];omega),zas om,za1 om]
 omega
theorem numB_put4 {l:List Int} {a:Nat} {v:Int} (h:a+4≤l.length) (hv:0≤v∧v < 4294967296):qD (zbh l a 4 v) a 4=v:=by
 simp only [zbh,qD,Nat.add_zero,Nat.zero_add]
 rw [za1 (by simp only [List.length_set];omega),zas om,za1 (by simp only [List.length_set];omega),zas om,zas om,za1 (by simp only [List.length_set];omega),zas om,zas om,zas om,za1 om]
 omega
def zgN (l:List Int):Int:=qD l 0 2+qD l 2 2+qD l 4 2+qD l 6 2+qD l 8 2+qD l 10 2+qD l 12 2+qD l 14 2
theorem plusS_m {a b:Int} (h:(0≤a∧a≤65535)∧(0≤b∧b≤65535)):(zaS a b - a - b) % 65535=0∧(0 < a→0 < zaS a b)∧(0 < b→0 < zaS a b):=by
 unfold zaS;split<;>omega
theorem ziQ {l:List Int} (hl:16≤l.length) (h1:0 < qD l 0 2): ∀k,k≤8→(zhs (l.take 16) k=0∧k=0∨0 < zhs (l.take 16) k∧0 < k)∧(zhs (l.take 16) k - (if 0 < k then qD l 0 2 else 0) - (if 1 < k then qD l 2 2 else 0) - (if 2 < k then qD l 4 2 else 0) - (if 3 < k then qD l 6 2 else 0) - (if 4 < k then qD l 8 2 else 0) - (if 5 < k then qD l 10 2 else 0) - (if 6 < k then qD l 12 2 else 0) - (if 7 < k then qD l 14 2 else 0)) % 65535=0
 | 0,_=>by simp [zhs]
 | k+1,hk=>by
  have ih:=ziQ hl h1 k om
  have hp:(l.take 16).getD (2*k) 0 % 256*256+(l.take 16).getD (2*k+1) 0 % 256=qD l (2*k) 2:=by
   have e: ∀j,j < 16→(l.take 16).getD j 0=l.getD j 0:=fun j hj=>by
    rw [List.getD_eq_getElem?_getD,List.getD_eq_getElem?_getD,List.getElem?_take,if_pos hj]
   rw [e _ om,e _ om];simp only [qD];simp
  simp only [zhs];rw [hp]
  have hr:=addT_r (l.take 16) k
  have hn:=(zcB l (2*k)).2.1
  have hm:=plusS_m (a:=zhs (l.take 16) k) (b:=qD l (2*k) 2) ⟨hr,om⟩
  have hq:=zcY (a:=zhs (l.take 16) k) (b:=qD l (2*k) 2) ⟨hr,om⟩
  generalize zaS (zhs (l.take 16) k) (qD l (2*k) 2)=y at hm hq ⊢
  generalize zhs (l.take 16) k=z at ih hm hr ⊢
  have hy:0 < y:=by
   rcases ih.1 with ⟨e1,e2⟩ | ⟨e1,_⟩
   ·subst e2;exact hm.2.2 h1
   ·exact hm.2.1 e1
  refine ⟨.inr ⟨hy,om⟩, ?_⟩
  have hk8:k=0∨k=1∨k=2∨k=3∨k=4∨k=5∨k=6∨k=7:=om
  have hm1:=hm.1
  clear hm hp hn hq hr
  have ih2:=ih.2
  clear ih
  rcases hk8 with rfl | rfl | rfl | rfl | rfl | rfl | rfl | rfl<;>simp at ih2 hm1 ⊢<;>omega
theorem addS_head {l:List Int} (hl:16≤l.length) (h1:0 < qD l 0 2):zbR (l.take 16)=65535↔zgN l % 65535=0:=by
 have h:=ziQ hl h1 8 (Nat.le_refl _)
 have h2:=zht (l.take 16)
 have e:zbR (l.take 16)=zhs (l.take 16) 8:=by unfold zbR;rw [List.length_take,Nat.min_eq_left hl]
 rw [e] at h2 ⊢
 simp at h
 unfold zgN
 omega
theorem turnS_m {s a b:Int} (h:(0≤s∧s≤65535)∧(0≤a∧a≤65535)∧(0≤b∧b≤65535)):(zdS s a b - s - a+b) % 65535=0:=by
 unfold zdS zaS;(repeat' split)<;>omega
def zeR (l:List Int):Pk:=
 if l.getD 0 0 % 256=3 then ⟨l.getD 0 0 % 256,l.getD 1 0 % 256,l.getD 12 0 % 256,qD l 4 4,qD l 8 4,0,0,0,0,false,l.getD 16 0 % 256,[],l.drop 20⟩
 else if l.getD 0 0 % 256=2 then ⟨l.getD 0 0 % 256,l.getD 1 0 % 256,l.getD 12 0 % 256,qD l 4 4,qD l 8 4,qD l 16 2,qD l 18 2,0,qD l 20 2,qD l 22 2==0,0,[],l.drop 24⟩
 else ⟨l.getD 0 0 % 256,l.getD 1 0 % 256,l.getD 12 0 % 256,qD l 4 4,qD l 8 4,qD l 16 2,qD l 18 2,l.getD 20 0 % 256,0,false,0,(l.drop 24).take (l.getD 21 0 % 256).toNat,l.drop (24+(l.getD 21 0 % 256).toNat)⟩
structure PkB (l:List Int):Prop where
  len:24≤l.length∧l.length≤1500
  b0:1≤l.getD 0 0 % 256∧l.getD 0 0 % 256≤3
  b2:qD l 2 2=(l.length:Int)
  b13:l.getD 13 0 % 256=0
  w:zgN l % 65535=0
  f:l.getD 0 0 % 256=3→44≤l.length∧l.getD 17 0 % 256=0
  s:l.getD 0 0 % 256=1→l.getD 20 0 % 256≤15∧l.getD 21 0 % 256≤40∧24+l.getD 21 0 % 256≤(l.length:Int)
theorem zga {l:List Int} (h:1≤l.getD 0 0 % 256):0 < qD l 0 2:=by simp only [qD,Nat.add_zero];omega
theorem zeS {l:List Int} {x:Pk} (hp:qU l=(0,x)):PkB l∧x=zeR l:=by
 have h0:=headS_0 (zfM (l:=l) (by rw [hp]))
 have hw:=(addS_head (l:=l) om (zga h0.2.2.1.1)).1 h0.2.2.2.2.1
 unfold qU at hp
 split at hp
 ·simp only [Prod.mk.injEq] at hp;exact absurd hp.1 (by assumption)
 split at hp
 ·rename_i h3
  split at hp
  ·simp at hp
  ·cases hp;exact ⟨⟨om,om,om,om,hw,fun _=>⟨om,om⟩,fun q=>by omega⟩,by rw [zeR,if_pos h3]⟩
 rename_i h3
 split at hp
 ·rename_i h2;cases hp;exact ⟨⟨om,om,om,om,hw,fun q=>by omega,fun q=>by omega⟩,by rw [zeR,if_neg h3,if_pos h2]⟩
 rename_i h2
 split at hp
 ·simp at hp
 ·rename_i h4;cases hp;exact ⟨⟨om,om,om,om,hw,fun q=>by omega,fun q=>by omega⟩,by rw [zeR,if_neg h3,if_neg h2]⟩
theorem PkB.head {l:List Int} (h:PkB l):zb1 l=0:=by
 have:=h.len;have:=h.b0;have:=h.b2;have:=h.b13;have:=h.f
 have hw:=(addS_head (l:=l) om (zga h.b0.1)).2 h.w
 unfold zb1
 rw [if_neg om,if_neg om,if_neg om,if_neg om,if_neg om]
theorem PkB.parse {l:List Int} (h:PkB l):qU l=(0,zeR l):=by
 have:=h.b0;have hf:=h.f;have hs:=h.s
 unfold qU zeR
 rw [if_neg (by rw [h.head];simp)]
 split
 ·rw [if_neg om]
 split
 ·rfl
 ·rw [if_neg om]
structure Alik0 (l m:List Int):Prop where
  len:m.length=l.length
  b0:m.getD 0 0 % 256=l.getD 0 0 % 256
  b2:qD m 2 2=qD l 2 2
  b13:m.getD 13 0 % 256=l.getD 13 0 % 256
  w:(zgN m - zgN l) % 65535=0
  f:l.getD 0 0 % 256=3→m.getD 17 0 % 256=l.getD 17 0 % 256
  s:l.getD 0 0 % 256=1→m.getD 20 0 % 256=l.getD 20 0 % 256∧m.getD 21 0 % 256=l.getD 21 0 % 256
structure Alike (l m:List Int):Prop extends Alik0 l m where
  g:l.getD 0 0 % 256=2→(qD m 22 2=0↔qD l 22 2=0)
theorem Alik0.refl (l:List Int):Alik0 l l:=⟨rfl,rfl,rfl,rfl,om,fun _=>rfl,fun _=>⟨rfl,rfl⟩⟩
theorem Alik0.pkb {l m:List Int} (h:Alik0 l m) (k:PkB l):PkB m:=by
 have:=k.len;have:=k.b0;have:=k.b2;have:=k.b13;have:=k.w;have:=k.f;have:=k.s
 have:=h.len;have:=h.b0;have:=h.b2;have:=h.b13;have:=h.w;have:=h.f;have:=h.s
 exact ⟨om,om,om,om,om,fun q=>⟨om,om⟩,fun q=>by omega⟩
theorem pkOf_k (l:List Int):(zeR l).k=l.getD 0 0 % 256:=by unfold zeR;(repeat' split)<;>rfl
theorem pkOf_li (l:List Int):(zeR l).li=l.getD 1 0 % 256:=by unfold zeR;(repeat' split)<;>rfl
theorem pkOf_ba (l:List Int):(zeR l).ba=true↔(l.getD 0 0 % 256=2∧qD l 22 2=0):=by
 unfold zeR;split
 ·exact ⟨fun h=>(by cases h),fun h=>om⟩
 split
 ·rename_i h2
  show (qD l 22 2==0)=true↔_
  rw [beq_iff_eq];exact ⟨fun h=>⟨h2,h⟩,fun h=>h.2⟩
 ·exact ⟨fun h=>(by cases h),fun h=>om⟩
theorem pkOf_nb {l:List Int} (h:(zeR l).ba=false):l.getD 0 0 % 256=2→¬qD l 22 2=0:=fun h2 e=>by
 rw [(pkOf_ba l).2 ⟨h2,e⟩] at h;cases h
theorem Alike.ba {l m:List Int} (h:Alike l m):(zeR m).ba=(zeR l).ba:=by
 rw [Bool.eq_iff_iff,pkOf_ba,pkOf_ba,h.b0]
 exact ⟨fun ⟨a,b⟩=>⟨a,(h.g a).1 b⟩,fun ⟨a,b⟩=>⟨a,(h.g a).2 b⟩⟩
theorem Alik0.put {l m:List Int} (h:Alik0 l m) {a n:Nat} {v:Int} (ha:16≤a) (hf:l.getD 0 0 % 256=3→18≤a) (hs:l.getD 0 0 % 256=1→22≤a):Alik0 l (zbh m a n v):=by
 have hw:zgN (zbh m a n v)=zgN m:=by
  unfold zgN
  rw [zaa 2 om,zaa 2 om,zaa 2 om,zaa 2 om,zaa 2 om,zaa 2 om,zaa 2 om,zaa 2 om]
 refine ⟨by rw [zX,h.len],by rw [zbc _ _ _ _ _ om,h.b0],by rw [zaa 2 om,h.b2],by rw [zbc _ _ _ _ _ om,h.b13],by rw [hw];exact h.w,fun q=>?_,fun q=>?_⟩
 ·have:=hf q;rw [zbc _ _ _ _ _ om];exact h.f q
 ·have:=hs q;rw [zbc _ _ _ _ _ om,zbc _ _ _ _ _ om];exact h.s q
theorem zgO {l m:List Int} (hl:24≤l.length) (h:Alik0 l m) (hg:(zeR l).ba=true→qD m 22 2=qD l 22 2):Alike l (zdx m (zeR l).ba):=by
 have h0:=h.b0
 have hlen:=h.len
 cases hb:(zeR l).ba with
 | true=>rw [zdx,if_neg (fun q=>by cases q.2.1)];exact ⟨h,fun _=>by rw [hg hb]⟩
 | false=>
  have hnz:=pkOf_nb hb
  unfold zdx
  split
  ·exact ⟨h.put om (fun _=>by omega) (fun _=>by omega),fun q=>⟨fun e=>by rw [zdm om om] at e;omega,fun e=>absurd e (hnz q)⟩⟩
  ·rename_i hc
   exact ⟨h,fun q=>⟨fun e=>absurd ⟨om,rfl,e⟩ hc,fun e=>absurd e (hnz q)⟩⟩
theorem zgH {k:Int} :(zaj k).toNat=if k=3 then 18 else 22:=by unfold zaj;split<;>rfl
theorem ziH {l w m:List Int} (h:Alik0 l m) (ba:Bool) (a n:Nat):Alik0 l (zeD w m ba a n):=by
 unfold zeD
 split
 ·exact h
 ·have h0:=h.b0
  rw [zgH]
  exact h.put (by split<;>omega) (fun q=>by rw [if_pos om];omega) (fun q=>by rw [if_neg om];omega)
theorem turnN_2 (w m:List Int) (p a:Nat) (ha:a % 2=0):zfE w m p a 2=zdS (qD m p 2) (qD w a 2) (qD m a 2):=by
 unfold zfE
 rw [show (a+2 - a / 2*2+1) / 2=1 by omega,show a / 2*2=a by omega];rfl
theorem turnN_4 (w m:List Int) (p a:Nat) (ha:a % 2=0):zfE w m p a 4=zdS (zdS (qD m p 2) (qD w a 2) (qD m a 2)) (qD w (a+2) 2) (qD m (a+2) 2):=by
 unfold zfE
 rw [show (a+4 - a / 2*2+1) / 2=2 by omega,show a / 2*2=a by omega];rfl
theorem age_alike {l:List Int} {x:Pk} (hp:qU l=(0,x)) (h2:2≤x.li):Alike l (ageL l x.ba):=by
 obtain ⟨k,rfl⟩:=zeS hp
 have hl:=k.len
 rw [pkOf_li] at h2
 have e1:qD (l.set 1 (l.getD 1 0 % 256 - 1)) 14 2=qD l 14 2:=zfi 2 om
 have e0:qD (l.set 1 (l.getD 1 0 % 256 - 1)) 0 2=qD l 0 2 - 1:=by
  simp only [qD,Nat.add_zero,Nat.zero_add]
  rw [zas om,za1 om];omega
 have hn:=fun i=>(zcB l i).2.1
 have n0:=hn 0;have n14:=hn 14
 have hb0:=zga k.b0.1
 have ht:=turnS_r (s:=qD l 14 2) (a:=qD l 0 2) (b:=qD l 0 2 - 1) om
 have hm:=turnS_m (s:=qD l 14 2) (a:=qD l 0 2) (b:=qD l 0 2 - 1) om
 unfold ageL
 simp only
 rw [turnN_2 _ _ _ _ rfl,e0,e1]
 generalize zdS (qD l 14 2) (qD l 0 2) (qD l 0 2 - 1)=t at ht hm ⊢
 have hlen:(l.set 1 (l.getD 1 0 % 256 - 1)).length=l.length:=List.length_set ..
 have hg: ∀i,i≠1→i < 14∨16≤i→(zbh (l.set 1 (l.getD 1 0 % 256 - 1)) 14 2 t).getD i 0=l.getD i 0:=fun i q r=>by rw [zbc _ _ _ _ _ om,zas om]
 have hN: ∀i,2≤i→i+2≤14∨16≤i→qD (zbh (l.set 1 (l.getD 1 0 % 256 - 1)) 14 2 t) i 2=qD l i 2:=fun i q r=>by rw [zaa 2 om,zfi 2 om]
 refine zgO om ⟨by rw [zX,hlen],by rw [hg 0 om om],hN 2 om om,by rw [hg 13 om om], ?_,fun _=>by rw [hg 17 om om],fun _=>⟨by rw [hg 20 om om],by rw [hg 21 om om]⟩⟩ (fun _=>hN 22 om om)
 unfold zgN
 rw [zaa (i:=0) 2 om,e0,hN 2 om om,hN 4 om om,hN 6 om om,hN 8 om om,hN 10 om om,hN 12 om om,zdm om om]
 omega
theorem nat_alike {l:List Int} {x:Pk} (hp:qU l=(0,x)) (h3:x.k≠3) (source:Bool) {addr port:Int} :Alike l (natL l x.ba source addr port):=by
 obtain ⟨k,rfl⟩:=zeS hp
 have hl:=k.len
 rw [pkOf_k] at h3
 unfold natL
 simp only
 obtain ⟨a,ha⟩: ∃z9,(if source=true then 4 else 8)=z9:=⟨_,rfl⟩
 obtain ⟨p,hpp⟩: ∃z9,(if source=true then 16 else 18)=z9:=⟨_,rfl⟩
 rw [ha,hpp]
 have ha4:a=4∨a=8:=by rw [←ha];split<;>simp
 have hp16:p=16∨p=18:=by rw [←hpp];split<;>simp
 obtain ⟨m,hm⟩: ∃z9,zbh (zbh l a 4 addr) p 2 port=z9:=⟨_,rfl⟩
 rw [hm]
 have hlen:m.length=l.length:=by rw [←hm,zX,zX]
 have hN: ∀i,i+2≤16∨20≤i→i+2≤a∨a+4≤i→qD m i 2=qD l i 2:=fun i q r=>by rw [←hm,zaa 2 om,zaa 2 om]
 have hG: ∀i,i < 16∨20≤i→i < a∨a+4≤i→m.getD i 0=l.getD i 0:=fun i q r=>by rw [←hm,zbc _ _ _ _ _ om,zbc _ _ _ _ _ om]
 rw [turnN_4 _ _ _ _ om,hN 14 om om]
 have hr:=fun l i=>(zcB l i).2.1
 have r1:=hr l 14;have r2:=hr l a;have r3:=hr m a;have r4:=hr l (a+2);have r5:=hr m (a+2)
 have t1:=turnS_r (s:=qD l 14 2) (a:=qD l a 2) (b:=qD m a 2) om
 have u1:=turnS_m (s:=qD l 14 2) (a:=qD l a 2) (b:=qD m a 2) om
 obtain ⟨t,ht⟩: ∃z9,zdS (qD l 14 2) (qD l a 2) (qD m a 2)=z9:=⟨_,rfl⟩
 rw [ht] at t1 u1 ⊢
 have t2:=turnS_r (s:=t) (a:=qD l (a+2) 2) (b:=qD m (a+2) 2) om
 have u2:=turnS_m (s:=t) (a:=qD l (a+2) 2) (b:=qD m (a+2) 2) om
 obtain ⟨u,hu⟩: ∃z9,zdS t (qD l (a+2) 2) (qD m (a+2) 2)=z9:=⟨_,rfl⟩
 rw [hu] at t2 u2 ⊢
 have h0:Alik0 l (zbh m 14 2 u):=by
  have hN2: ∀i,i+2≤14→qD (zbh m 14 2 u) i 2=qD m i 2:=fun i q=>zaa 2 om
  refine ⟨by rw [zX,hlen],by rw [zbc _ _ _ _ _ om,hG 0 om om],by rw [hN2 2 om,hN 2 om om],by rw [zbc _ _ _ _ _ om,hG 13 om om], ?_,fun q=>absurd q h3,fun _=>⟨by rw [zbc _ _ _ _ _ om,hG 20 om om],by rw [zbc _ _ _ _ _ om,hG 21 om om]⟩⟩
  unfold zgN
  rw [hN2 0 om,hN2 2 om,hN2 4 om,hN2 6 om,hN2 8 om,hN2 10 om,hN2 12 om,zdm om om,hN 0 om om,hN 2 om om,hN 12 om om]
  rcases ha4 with rfl | rfl
  ·rw [hN 8 om om,hN 10 om om];simp only [Nat.reduceAdd] at*;omega
  ·rw [hN 4 om om,hN 6 om om];simp only [Nat.reduceAdd] at*;omega
 refine zgO om (ziH (ziH h0 _ _ _) _ _ _) (fun hb=>?_)
 rw [hb]
 simp only [zeD,if_true]
 rw [zaa 2 om,hN 22 om om]
theorem zfA {l:List Int} {x:Pk} (hp:qU l=(0,x)) {a n:Nat} {v:Int} (ha:16≤a) (hf:x.k=3→18≤a) (hs:x.k=1→22≤a) (hg:x.k=2→a+n≤22∨24≤a):Alike l (zcj l x.ba a n v):=by
 obtain ⟨k,rfl⟩:=zeS hp
 have hl:=k.len
 rw [pkOf_k] at hf hs hg
 unfold zcj
 refine zgO om (ziH ((Alik0.refl l).put ha hf hs) _ _ _) (fun hb=>?_)
 rw [hb]
 simp only [zeD,if_true]
 have:=hg ((pkOf_ba l).1 hb).1
 rw [zaa 2 om]
theorem Alike.parse {l m:List Int} {x:Pk} (h:Alike l m) (hp:qU l=(0,x)):qU m=(0,zeR m)∧(zeR m).k=x.k∧(zeR m).ba=x.ba∧m.length=l.length:=by
 obtain ⟨k,rfl⟩:=zeS hp
 exact ⟨(h.toAlik0.pkb k).parse,by rw [pkOf_k,pkOf_k,h.b0],h.ba,h.len⟩
end Go.Rh

namespace Go.Rh
def hT (kc km:Nat) (e:Ent) (s:Bool):List Value:= [.chan (some kc),.map (some km),iv e.k,iv e.s,iv e.a,iv e.p,iv e.g,uv e.ka,uv e.kb,bv s]
theorem ren_pl {ρ:Nat→Nat} (c:q9):(pl c).map (zel ρ)=pl c:=za3 fun v hv=>zeP (List.all_eq_true.1 (zaq c) v hv)
structure Nt where
  u:Int
  b:Int
  v:Int
  w:Bool
  a:Bool
  e:Ent
  p:q9
end Go.Rh

namespace Go.Rh
end Go.Rh

namespace Go.Rh
def e0:Ent:=⟨0,0,0,0,0,0,0⟩
end Go.Rh

set_option maxHeartbeats 8000000
namespace Go.Rh
end Go.Rh

set_option maxHeartbeats 8000000
namespace Go.Rh
end Go.Rh

set_option maxHeartbeats 8000000
namespace Go.Rh
end Go.Rh

namespace Go.Rh
end Go.Rh

set_option maxHeartbeats 8000000
namespace Go.Rh
end Go.Rh

namespace Go.Rh
def n0:Nt:=⟨0,0,0,false,false,e0,qN⟩
end Go.Rh

namespace Go.Rh
end Go.Rh

namespace Go.Rh
section
variable {P:Program} {C:zae}
end
end Go.Rh

namespace Go.Rh
def viewL (ρ:Nat→Nat) (h:List Blk):List Nat→List Blk→Prop
 | k::ks,b::bs=>(∃b',h[k]? =some b'∧Blk.view (zbo ρ b) b')∧viewL ρ h ks bs
 | _,_=>True
theorem zhQ {ρ:Nat→Nat} {h:List Blk} : ∀ {sel:List Nat} {bs:List Blk},viewL ρ h sel bs→∀(i k:Nat) b1,sel[i]? =some k→bs[i]? =some b1→∃b,h[k]? =some b∧Blk.view (zbo ρ b1) b
 | [],_,_,i,_,_,h1,_=>by simp at h1
 | _::_,[],_,i,_,_,_,h2=>by simp at h2
 | _::_,_::_,hb,0,_,_,h1,h2=>by simp at h1 h2;subst h1;subst h2;exact hb.1
 | _::_,_::_,hb,i+1,k,b,h1,h2=>zhQ hb.2 i k b (by simpa using h1) (by simpa using h2)
theorem zcT {C:zae} {g:String} {vals:List Value} {K:zed} {h:List Blk} {R:zed} (sel:List Nat) (h1:List Blk) (a1:List Value) (hC:C g a1 h1 R) (hl:h1.length=sel.length) (ha:a1.map (zaI (rho sel h.length))=vals)
  (hs:viewL (rho sel h.length) h sel h1) (hd:sel.Nodup) (hK: ∀v h1',R v h1'→zgf h1 h1'∧∃v' xs ys,zaI (rho sel h.length) v=v'∧ziM sel h1' (rho sel h.length) 0 h xs∧renL (rho sel h.length) (h1'.drop sel.length) ys∧K v' (xs++ys)):zdt C g vals K h:=by
 refine ⟨sel,h1,a1,R,hC,hl,ha,zhQ hs,fun i j k b1 hij e1 e2 _=>?_,fun v h1' hR _ _=>?_⟩
 ·exact (zhD hd hij e1 e2).elim
 ·obtain ⟨hg,v',xs,ys,e1,e2,e3,e4⟩:=hK v h1' hR
  rw [e1,back_of e2 e3];exact ⟨hg,e4⟩
section
variable {C:zae} {un:Nat→Nat→Bool} {K:St→Prop} {L:List (Nat×Value)} {h:List Blk} {i nid:Nat} {log:List Foot}
theorem d_clH {d:Nat} {g:String} {args:List Opd} {r:List ICell} {R:zed} (sel:List Nat) (h1:List Blk) (a1:List Value) (hC:C g a1 h1 R) (hl:h1.length=sel.length) (ha:a1.map (zaI (rho sel h.length))=args.map (evf (reg L)))
  (hs:viewL (rho sel h.length) h sel h1) (hd:sel.Nodup) (hx: ∃v h1',R v h1'∧sel.length≤h1'.length∧zev h1 h1')
  (hK: ∀v h1',R v h1'→zgf h1 h1'∧∃v' xs ys,zaI (rho sel h.length) v=v'∧ziM sel h1' (rho sel h.length) 0 h xs∧renL (rho sel h.length) (h1'.drop sel.length) ys∧GD C un (i+1) nid r (⟨i,sel,zcD sel h1,some h.length⟩::log) K ⟨reg ((d,v')::L),xs++ys⟩)
  (hfit:zhv un ⟨i,sel,zcD sel h1,some h.length⟩ log=true:=by kernel_rfl):GD C un i nid (⟨some d,.call g args,none⟩::r) log K ⟨reg L,h⟩:=by
 refine ⟨⟨sel,h1,a1,R,hC,hl,ha,zhQ hs,fun i j k b1 hij e1 e2 _=>?_,zck hfit,fun _=>hx,fun v h1' hR _ _=>?_⟩⟩
 ·exact (zhD hd hij e1 e2).elim
 ·obtain ⟨hg,v',xs,ys,e1,e2,e3,e4⟩:=hK v h1' hR
  rw [e1,back_of e2 e3];exact ⟨hg,e4.out⟩
end
theorem zaF {ρ:Nat→Nat} {c:List Value} {rw:Bool} :Blk.view (zbo ρ (cr [])) (.cells c rw):= .inr ⟨rfl,_,_,rfl⟩
theorem zam {a b:Blk} (h:Blk.sees a b):Blk.view a b:= .inl h
theorem q8 {l:List Blk} :zgf [] l:=fun i h=>by simp at h
theorem zS {b b':Blk} {h h':List Blk} (h1:b= .gone→b'= .gone) (h2:zgf h h'):zgf (b::h) (b'::h'):=by
 intro i hi
 cases i with
 | zero=>simp only [List.getElem?_cons_zero,Option.some.injEq] at hi ⊢;exact h1 hi
 | succ i=>simp only [List.getElem?_cons_succ] at hi ⊢;exact h2 i hi
theorem z7 {b:Blk} :b= .gone→b= .gone:=fun h=>h
theorem zaE {c:List Value} {rw:Bool} {b:Blk} :Blk.cells c rw= .gone→b= .gone:=fun h=>by cases h
def unitL (k:Nat) (p:q9) (b:Int) (kc:Nat):List Value:= [pv k 0]++(pl p++ [iv b,.chan (some kc)])
theorem unit_wP {k:Nat} {p q:q9} {b:Int} {kc:Nat} :splice (unitL k p b kc) 1 (pl q)=unitL k q b kc:=by
 have:splice (unitL k p b kc) (1+0) (pl q)= [pv k 0]++splice (pl p++ [iv b,.chan (some kc)]) 0 (pl q):=zc7 rfl
 rw [zeh (by rw [qH,qH];omega),zac] at this;exact this
def zeA (nr:Nat→Int×Bool):List Value:=((List.range 64).map fun i=> [.int .u32 (nr i).1,bv (nr i).2]).flatten
def nr0:Nat→Int×Bool:=fun _=>(0,false)
def zif (is:Bool) (nr:Nat→Int×Bool) (w:Value):List Value:= [bv is]++(zeA nr++ [w])
def zL (p:q9) (is:Bool) (nr:Nat→Int×Bool) (w:Value):List Value:=pl p++zif is nr w
theorem nearL_length (nr:Nat→Int×Bool):(zeA nr).length=128:=rfl
theorem planeT_length (is:Bool) (nr:Nat→Int×Bool) (w:Value):(zif is nr w).length=130:=rfl
theorem zdb (p:q9) (is:Bool) (nr:Nat→Int×Bool) (w:Value):(zL p is nr w).length=460:=by simp only [zL,List.length_append,qH,planeT_length]
theorem zem {m:Option Nat} {p:q9} {is:Bool} {nr:Nat→Int×Bool} {w v:Value} {o:Nat} (h:zaG m (pl p) o=some v):zaG m (zL p is nr w) o=some v:=zcK h
theorem zfe {m:Option Nat} {p:q9} {is:Bool} {nr:Nat→Int×Bool} {w:Value} (o:Nat):zaG m (zL p is nr w) (330+o)=zaG m (zif is nr w) o:=partL_r (qH p)
theorem plane_wP {p q:q9} {is:Bool} {nr:Nat→Int×Bool} {w:Value} :splice (zL p is nr w) 0 (pl q)=zL q is nr w:=by
 unfold zL;rw [zeh (by rw [qH,qH];omega),zac]
theorem plane_wI {p:q9} {is is':Bool} {nr:Nat→Int×Bool} {w:Value} :splice (zL p is nr w) 330 [bv is']=zL p is' nr w:=zc7 (o:=0) (qH p)
theorem plane_wW {p:q9} {is:Bool} {nr:Nat→Int×Bool} {w w':Value} :splice (zL p is nr w) 459 [w']=zL p is nr w':=by
 have h1:splice (zL p is nr w) (330+129) [w']=pl p++splice (zif is nr w) 129 [w']:=zc7 (qH p)
 have h2:splice (zif is nr w) (1+128) [w']= [bv is]++splice (zeA nr++ [w]) 128 [w']:=zc7 rfl
 have h3:splice (zeA nr++ [w]) (128+0) [w']=zeA nr++splice [w] 0 [w']:=zc7 rfl
 rw [h3] at h2;rw [h2] at h1;exact h1
theorem plane_wAll {p q:q9} {is is':Bool} {nr nr':Nat→Int×Bool} {w w':Value} :splice (zL p is nr w) 0 (zL q is' nr' w')=zL q is' nr' w':=zgz (by rw [zdb,zdb])
theorem zff {p:q9} {is:Bool} {nr:Nat→Int×Bool} {w:Value} {m:Nat} (h:m≤460):m≤(zL p is nr w).length:=by rw [zdb];exact h
theorem nearL_scl (nr:Nat→Int×Bool):(zeA nr).all zbp=true:=by
 simp only [zeA,List.all_flatten,List.all_map]
 exact List.all_eq_true.2 fun i _=>rfl
theorem ren_nearL {ρ:Nat→Nat} (nr:Nat→Int×Bool):(zeA nr).map (zel ρ)=zeA nr:=za3 fun v hv=>zeP (List.all_eq_true.1 (nearL_scl nr) v hv)
theorem zbe {ρ:Nat→Nat} {p:q9} {is:Bool} {nr:Nat→Int×Bool} {w w':Value} {rw:Bool} (h:zel ρ w=w'):zbo ρ (.cells (zL p is nr w) rw)= .cells (zL p is nr w') rw:=by
 subst h
 simp only [zbo,zL,zif,List.map_append,ren_pl,ren_nearL];rfl
theorem qE {ρ:Nat→Nat} {p:q9} {is:Bool} {nr:Nat→Int×Bool} {w w':Value} {rw:Bool} (h:zel ρ w=w'):some (Blk.cells (zL p is nr w') rw)=some (zbo ρ (.cells (zL p is nr w) rw)):=by rw [zbe h]
theorem zav {ρ:Nat→Nat} {p:q9} {is:Bool} {nr:Nat→Int×Bool} {w w':Value} {rw rw':Bool} (h:zel ρ w=w') (hr:rw=true→rw'=true):Blk.seen (zbo ρ (.cells (zL p is nr w) rw)) (.cells (zL p is nr w') rw'):=by
 rw [zbe h];exact ⟨rfl,hr⟩
theorem bld_plane:zgh (zaB [(324,Value.int .i64 0),(6,.int .u64 0),(1,.bool false),(1,.int .u32 0),(1,.bool false),(1,.int .u32 0),(1,.bool false),(1,.int .u32 0),(1,.bool false),(1,.int .u32 0),(1,.bool false),(1,.int .u32 0),(1,.bool false),(1,.int .u32 0),(1,.bool false),(1,.int .u32 0),(1,.bool false),(1,.int .u32 0),(1,.bool false),(1,.int .u32 0),(1,.bool false),(1,.int .u32 0),(1,.bool false),(1,.int .u32 0),(1,.bool false),(1,.int .u32 0),(1,.bool false),(1,.int .u32 0),(1,.bool false),(1,.int .u32 0),(1,.bool false),(1,.int .u32 0),(1,.bool false),(1,.int .u32 0),(1,.bool false),(1,.int .u32 0),(1,.bool false),(1,.int .u32 0),(1,.bool false),(1,.int .u32 0),(1,.bool false),(1,.int .u32 0),(1,.bool false),(1,.int .u32 0),(1,.bool false),(1,.int .u32 0),(1,.bool false),(1,.int .u32 0),(1,.bool false),(1,.int .u32 0),(1,.bool false),(1,.int .u32 0),(1,.bool false),(1,.int .u32 0),(1,.bool false),(1,.int .u32 0),(1,.bool false),(1,.int .u32 0),(1,.bool false),(1,.int .u32 0),(1,.bool false),(1,.int .u32 0),(1,.bool false),(1,.int .u32 0),(1,.bool false),(1,.int .u32 0),(1,.bool false),(1,.int .u32 0),(1,.bool false),(1,.int .u32 0),(1,.bool false),(1,.int .u32 0),(1,.bool false),(1,.int .u32 0),(1,.bool false),(1,.int .u32 0),(1,.bool false),(1,.int .u32 0),(1,.bool false),(1,.int .u32 0),(1,.bool false),(1,.int .u32 0),(1,.bool false),(1,.int .u32 0),(1,.bool false),(1,.int .u32 0),(1,.bool false),(1,.int .u32 0),(1,.bool false),(1,.int .u32 0),(1,.bool false),(1,.int .u32 0),(1,.bool false),(1,.int .u32 0),(1,.bool false),(1,.int .u32 0),(1,.bool false),(1,.int .u32 0),(1,.bool false),(1,.int .u32 0),(1,.bool false),(1,.int .u32 0),(1,.bool false),(1,.int .u32 0),(1,.bool false),(1,.int .u32 0),(1,.bool false),(1,.int .u32 0),(1,.bool false),(1,.int .u32 0),(1,.bool false),(1,.int .u32 0),(1,.bool false),(1,.int .u32 0),(1,.bool false),(1,.int .u32 0),(1,.bool false),(1,.int .u32 0),(1,.bool false),(1,.int .u32 0),(1,.bool false),(1,.int .u32 0),(1,.bool false),(1,.int .u32 0),(1,.bool false),(1,.int .u32 0),(1,.bool false),(1,.int .u32 0),(1,.bool false),(1,.int .u32 0),(1,.bool false),(1,.slice none 0 0)]) []=some (zL qN false nr0 (.slice none 0 0)):=by kernel_rfl
theorem h16 {sel:List Nat} {N b b':Nat} (h:(List.range 16).all (fun j=>sel[b+j]? ==some (b'+j))=true): ∀j,j < 16→rho sel N (b+j)=b'+j:=by
 intro j hj
 have:=List.all_eq_true.1 h j (List.mem_range.2 hj)
 exact zc4 (by simpa using this)
def zaC:Bool→Blk
 | false=> .gone
 | true=>cr []
theorem zaJ {ρ:Nat→Nat} (b:Bool):zbo ρ (zaC b)=zaC b:=by cases b<;>rfl
theorem zdR {ρ:Nat→Nat} (b:Bool):Blk.view (zbo ρ (zaC b)) (zaC b):=by
 cases b with
 | false=>exact .inl (.inr ⟨rfl,rfl⟩)
 | true=>exact .inl (.inl ⟨rfl,fun q=>q⟩)
theorem zbB {ρ:Nat→Nat} {z c:List Value} (q:Option Nat):Blk.view (zbo ρ (zaC q.isSome)) (slB z c q):=by
 cases q with
 | none=>exact .inl (.inr ⟨rfl,rfl⟩)
 | some x=>exact .inr ⟨rfl,_,_,rfl⟩
end Go.Rh

set_option maxHeartbeats 4000000
namespace Go.Rh
theorem ziN (c:q9) (ka kb:Int):qF c ⟨6,0,0,0,0,ka,kb⟩=(nextS (upd c 0 (i64.wrap (c 0+1))) ka kb,0):=by
 simp [qF,zew,za5,zbL,zcm,za2]
theorem zfV {c:q9} {e:Ent} (h:(qF c e).2=0):(qF c e).1 1=c 1∧(qF c e).1 2=c 2:=by
 obtain ⟨h1,hc,_,_⟩:=apply_ok h
 rw [h1]
 obtain ⟨hk,hs,_⟩:=ziq hc
 by_cases h6:e.k=6
 ·exact ⟨done6 h6 om,done6 h6 om⟩
 ·obtain ⟨x0,x1,x2,x3,x4,hd,_⟩:=done_set c e om
  rw [hd,ssN _ _ _ _ _ _ om om,ssN _ _ _ _ _ _ om om]
  exact ⟨zc3 _ _ om,zc3 _ _ om⟩
theorem zjj: ∀(l:List Int) (c:q9),(l.foldl zhW c) 1=c 1∧(l.foldl zhW c) 2=c 2
 | [],c=>⟨rfl,rfl⟩
 | n::l,c=>by
  have:=zjj l (zhW c n)
  simp only [List.foldl_cons]
  rw [this.1,this.2]
  unfold zhW
  split
  ·rename_i h;exact zfV h
  ·exact ⟨rfl,rfl⟩
theorem zfP (ns:List Int) (k:Nat):zY ns k 1=10∧zY ns k 2=80:=by
 have:=zjj (ns.take k) (zhu 10 80 (zbV 1) (zbU 1) (zbV 2) (zbU 2)).1
 unfold zY
 rw [this.1,this.2]
 have hp:za8 10 80=true:=by decide
 simp only [zhu,hp,if_true]
 exact ⟨rfl,rfl⟩
theorem ziO {c:q9} {e:Ent} (h:(qF c e).2=0) {k:Nat} (hk:k < 64) (hne:(k:Int)≠e.s∨e.k=6):
  (qF c e).1 (3+5*k)=c (3+5*k)∧(qF c e).1 (3+5*k+1)=c (3+5*k+1)∧(qF c e).1 (3+5*k+2)=c (3+5*k+2)∧(qF c e).1 (3+5*k+3)=c (3+5*k+3)∧(qF c e).1 (3+5*k+4)=c (3+5*k+4):=by
 obtain ⟨h1,hc,_,_⟩:=apply_ok h
 rw [h1]
 obtain ⟨hkk,hs,_⟩:=ziq hc
 by_cases h6:e.k=6
 ·exact ⟨done6 h6 om,done6 h6 om,done6 h6 om,done6 h6 om,done6 h6 om⟩
 ·obtain ⟨x0,x1,x2,x3,x4,hd,_⟩:=done_set c e om
  have hn:k≠e.s.toNat:=om
  rw [hd,ss0,ss1,ss2,ss3,ss4]
  simp only [hn,if_false]
  exact ⟨zc3 _ _ om,zc3 _ _ om,zc3 _ _ om,zc3 _ _ om,zc3 _ _ om⟩
theorem zfR {f g:Nat→Bool} : ∀(n i:Nat),(∀k,k < i+n→f k=g k)→za4 f i n=za4 g i n
 | 0,_,_=>rfl
 | n+1,i,h=>by
  simp only [za4,h i om]
  rw [zfR n (i+1) (fun k hk=>h k om)]
theorem find_eq {c:q9} {b:Nat} (I:PInv c b) (a p:Int):za4 (zdo c a p) 0 64=za4 (hitR c a p) 0 64:=by
 refine zfR 64 0 fun k hk=>?_
 have:=I.st k om
 have e:(!([0,4].contains (c (3+5*k))))=zdA (c (3+5*k)):=by
  have h5:c (3+5*k)=0∨c (3+5*k)=1∨c (3+5*k)=2∨c (3+5*k)=3∨c (3+5*k)=4:=om
  rcases h5 with h | h | h | h | h<;>rw [h]<;>rfl
 simp only [zdo,hitR,e,Bool.and_true]
theorem zio {f:Nat→Bool} : ∀(n i k:Nat),i≤k→k < i+n→f k=true→(∀j,i≤j→j < i+n→f j=true→j=k)→za4 f i n=((k:Int),true)
 | 0,i,k,h1,h2,_,_=>by omega
 | n+1,i,k,h1,h2,h3,h4=>by
  simp only [za4]
  by_cases e:i=k
  ·subst e;simp [h3]
  ·have:f i=false:=by
    cases hf:f i with
    | false=>rfl
    | true=>exact absurd (h4 i (Nat.le_refl _) om hf) e
   rw [this]
   exact zio n (i+1) k om om h3 fun j hj hj2 hf=>h4 j om om hf
theorem find_it {c:q9} {b:Nat} (I:PInv c b) {a p:Int} {k:Nat} (hk:k < 64) (ht:zdA (c (3+5*k))=true) (h1:c (3+5*k+1)=a) (h2:c (3+5*k+2)=p):za4 (zdo c a p) 0 64=((k:Int),true):=by
 rw [find_eq I]
 have nz: ∀x,zdA x=true→x≠0:=fun x h e=>by subst e;cases h
 refine zio 64 0 k om om (by simp [hitR,ht,h1,h2]) fun j _ hj hf=>?_
 simp [hitR] at hf
 by_cases e:j=k
 ·exact e
 ·exact absurd ⟨hf.2.1.trans h1.symm,hf.2.2.trans h2.symm⟩ (I.uniq j k om hk e (nz _ hf.1) (nz _ ht))
end Go.Rh

namespace Go.Rh
end Go.Rh

namespace Go.Rh
end Go.Rh

set_option maxHeartbeats 8000000
namespace Go.Rh
abbrev v7 (a:Option Nat):=(slV 1 127 a)
theorem PVersionC {P:Program} [PrC P] (p:q9) (is:Bool) (nr:Nat→Int×Bool) (q:Option Nat):
    Env P "(*roundhouse/plane.Plane).Version" [pv 0 0] ([cr (zL p is nr (v7 q)),cr []]) (fun v h'=>v= .tuple #[iv (p 0),bv is]∧h'= [cr (zL p is nr (v7 q)),cr []]):=by
 refine Env.by2 PrC.plane_Plane_Version ?_
 unfold zcU
 show GC _ 2 _ _ ⟨reg xK,[cr (zL p is nr (v7 q)),cr []]⟩
 refine zJ (zN (o_d 2 (vP 3 2) (zE (zA (zJ (zbF [] (r_d 5 [(8,pv 0 0),(7,pv 0 0),(6,pv 0 0),(5,pv 0 0),(4,pv 0 0)] (r_s (by refine zV (v:=iv (p 0)) rfl rfl ?_;exact zem (pl_r p 0 rfl om)) ?_))))))))
 refine r_d 4 (wM 13 0 330 12 0 11 0 10 0) (r_s (by refine zV (v:=bv is) rfl rfl ?_;exact (zfe 0).trans rfl) ?_)
 exact r_d 2 [(3,bv is),(2,iv (p 0))] (zbk (zA (qV (⟨trivial,⟨reg [(2,iv (p 0)),(3,bv is)],[cr (zL p is nr (v7 q)),cr []]⟩,Wk.ren [0,1] rfl rfl dC ⟨rfl,rfl,trivial⟩ ⟨.inl (qE (zaR q rfl)),.inl rfl,trivial⟩,[iv (p 0),bv is],(zU rfl (zU rfl rfl)),(zK rfl (zK rfl z5)),rfl,rfl⟩))))
abbrev vJ a:=(zL qN false nr0 (slV a 127 none))
theorem PCrashC {P:Program} [PrC P] (p:q9) (is:Bool) (nr:Nat→Int×Bool) (q:Option Nat):
    Env P "(*roundhouse/plane.Plane).Crash" [pv 0 0] ([cw (zL p is nr (v7 q)),cr []]) (fun v h'=>v= .tuple #[]∧h'= [cw (vJ 1),cr []]):=by
 refine Env.by2 PrC.plane_Plane_Crash ?_
 unfold zdr
 show GC _ 2 _ _ ⟨reg xK,[cw (zL p is nr (v7 q)),cr []]⟩
 refine zN (o_d 1 [(2,pv 0 0)] (o_s (by refine zej (c:=zL qN false nr0 wx) ?_;exact bld_plane) ?_))
 refine o_d 1 [(4,pv 0 0)] (zdu (by refine zao (c':=zL qN false nr0 wx) rfl rfl rfl ?_ ?_ ?_;exact zdb _ _ _ _;exact zff om;exact plane_wAll) ?_)
 exact zE (⟨trivial,⟨reg [],[cw (zL qN false nr0 wx),cr []]⟩,Wk.ren [0,1] rfl rfl dC trivial ⟨.inl (qE rfl),.inl rfl,trivial⟩,[],rfl,z5,rfl,rfl⟩)
theorem PLayC {P:Program} [PrC P] (p:q9) (is:Bool) (nr:Nat→Int×Bool) (q:Option Nat) (x:q9):
    Env P "(*roundhouse/plane.maybe[roundhouse/api.Pool]).lay" [pv 0 0,zau x] ([cw (zL p is nr (v7 q)),cr []]) (fun v h'=>v= .tuple #[]∧h'= [cw (zL x true nr (v7 q)),cr []]):=by
 refine Env.by2 PrC.plane_maybe_api_Pool_lay ?_
 unfold zb3
 show GC _ 2 _ _ ⟨reg [(0,pv 0 0),(1,zau x)],[cw (zL p is nr (v7 q)),cr []]⟩
 refine zJ (zN (o_b 1 [(3,pv 2 0)] [cw (zL p is nr (v7 q)),cr [],cw (pl x)] (zE (zA (zN (o_d 2 [(5,pv 0 0),(4,pv 0 0)] (o_s (by refine zV (v:=zau x) rfl rfl ?_;exact zaK x) ?_)))))))
 refine o_d 2 [(8,pv 0 0),(7,pv 0 0)] (zdu (by refine zao (c':=zL x is nr (v7 q)) rfl rfl rfl ?_ ?_ ?_;exact qH _;exact zff om;exact plane_wP) ?_)
 refine o_b 2 [(10,pv 0 330),(9,pv 0 0)] [cw (zL x is nr (v7 q)),cr [],cw (pl x)] (zdu (by refine zao (c':=zL x true nr (v7 q)) rfl rfl rfl ?_ ?_ ?_;exact rfl;exact zff om;exact plane_wI) ?_)
 exact zE (⟨trivial,⟨reg [],[cw (zL x true nr (v7 q)),cr []]⟩,Wk.ren [0,1] rfl rfl dC trivial ⟨.inl (qE (zaR q rfl)),.inl rfl,trivial⟩,[],rfl,z5,rfl,rfl⟩)
abbrev wt a (b:Nat):=(slV a 127 (some b))
theorem PLoadC {P:Program} [PrC P] (p:q9) (is:Bool) (nr:Nat→Int×Bool) (q:Option Nat) (x:q9):
    Env P "(*roundhouse/plane.Plane).Load" [pv 0 0,zau x] ([cw (zL p is nr (v7 q)),cr []]) (fun v h'=>v= .tuple #[]∧∃m,h'= [cw (zL x true nr (wt 2 m)),cr [],slB zI (ii (qA x)) (some m)]):=by
 refine Env.by2 PrC.plane_Plane_Load ?_
 unfold zdM
 show GC _ 2 _ _ ⟨reg [(0,pv 0 0),(1,zau x)],[cw (zL p is nr (v7 q)),cr []]⟩
 refine zJ (zN (o_b 1 [(3,pv 2 0)] [cw (zL p is nr (v7 q)),cr [],cw (pl x)] (zE (zA (zJ (zeW [cw (zL p is nr (v7 q)),cr [],cw (pl x)] (by kernel_rfl) (d_n 3 3 3 (xi 6 0 0 5 0 4 0) [cw (zL p is nr (v7 q)),cr [],cw (pl x)] [] (by kernel_rfl) rfl rfl (d_s rfl rfl rfl (by kernel_rfl) (by refine zV (v:=zau x) rfl rfl ?_;exact zaK x) ?_))))))))
 refine d_clH [0,1] [cw (zL p is nr (v7 q)),cr []] [pv 0 0,zau x] (PLayC p is nr q x) rfl (zM rfl (zM (qP (zbr x)) rfl)) ⟨⟨_,rfl,zam (.inl (zav (zaR q rfl) (fun q=>rfl)))⟩,⟨_,rfl,zaF⟩,trivial⟩ dC ⟨_,_,⟨rfl,rfl⟩,Nat.le_refl _,zfk rfl (zbG [_] [])⟩ ?_ (by kernel_rfl)
 rintro v1 h1' ⟨rfl,rfl⟩
 refine ⟨(zS zaE (zS z7 q8)),.tuple #[],[cw (zL x true nr (v7 q)),cr [],cw (pl x)],[],(by simp [zaI]),⟨zbe (zaR q rfl),(by cases true<;>rfl),rfl,trivial⟩,trivial, ?_⟩
 refine zgQ (zA (zN (o_d 1 [(9,pv 0 0)] (o_s (by refine zV (v:=zau x) rfl rfl ?_;exact zaK x) ?_))))
 refine qT (zcT [] [] [zau x] (makeWC x) rfl (zM (qP (zbr x)) rfl) trivial dC ?_)
 rintro v1 h1' ⟨m1,rfl,rfl⟩
 refine ⟨q8,slV 3 127 (some m1),[cw (zL x true nr (v7 q)),cr [],cw (pl x)],[slB zI (ii (qA x)) (some m1)],rfl,⟨rfl,rfl,rfl,trivial⟩,⟨(Option.some.inj (qX (some m1) (fun _=>(zaf _ _)))).symm,trivial⟩, ?_⟩
 refine o_d 2 [(13,pv 0 459),(12,pv 0 0)] (zdu (by refine zao (c':=zL x true nr (wt 3 m1)) rfl rfl rfl ?_ ?_ ?_;exact rfl;exact zff om;exact plane_wW) ?_)
 exact zE (⟨trivial,⟨reg [],[cw (zL x true nr (wt 2 m1)),cr [],slB zI (ii (qA x)) (some m1)]⟩,Wk.ren [0,1,3] rfl rfl dC trivial ⟨.inl (qE rfl),.inl rfl,.inl (qX (some m1) (fun _=>(zaf _ _))),trivial⟩,[],rfl,z5,rfl,m1,rfl⟩)
theorem PNewC {P:Program} [PrC P]:
    Env P "roundhouse/plane.New" [] ([]) (fun v h'=>v=pv 0 0∧h'= [cw (zL qN false nr0 wx)]):=by
 refine Env.by2 PrC.plane_New ?_
 unfold ziE
 show GC _ 0 _ _ ⟨reg [],[]⟩
 refine zJ (zN (o_d 1 [(0,.pointer none)] (zE (zA (zJ (zN (o_s (by refine zej (c:=zL qN false nr0 wx) ?_;exact bld_plane) ?_)))))))
 exact o_b 2 [(0,pv 0 0),(2,pv 0 0)] [cw (zL qN false nr0 wx)] (zE (zA (qV (⟨trivial,⟨reg xK,[cw (zL qN false nr0 wx)]⟩,Wk.ren [0] rfl rfl dC ⟨rfl,trivial⟩ ⟨.inl (qE rfl),trivial⟩,[pv 0 0],(zU rfl rfl),(zK rfl z5),rfl,rfl⟩))))
end Go.Rh

namespace Go.Rh
structure WIn (l0:List Wl) (S:WS):Prop where
  len:S.1.length=127
  w: ∀v∈S.1,v= -1∨∃y∈l0,v=y.s
  l: ∀x∈S.2,∃y∈l0,x.s=y.s
theorem WIn.turn {l0:List Wl} {S:WS} (h:WIn l0 S) (k:Nat):WIn l0 (zer k S):=by
 unfold zer
 split
 ·exact h
 split
 ·exact h
 ·rename_i x hx
  have hxm:=h.l x (List.mem_of_getElem? hx)
  refine ⟨by rw [List.length_set];exact h.len,fun v hv=>?_,fun z hz=>?_⟩
  ·rcases List.mem_or_eq_of_mem_set hv with q | q
   ·exact h.w v q
   ·exact .inr (q▸hxm)
  ·rcases List.mem_or_eq_of_mem_set hz with q | q
   ·exact h.l z q
   ·subst q;exact hxm
theorem WIn.itr {l0:List Wl} {f:WS→WS} (hf: ∀S,WIn l0 S→WIn l0 (f S)) {S:WS} (h:WIn l0 S): ∀n,WIn l0 (itr f n S)
 | 0=>h
 | n+1=>hf _ (WIn.itr hf h n)
theorem WIn.round {l0:List Wl} {S:WS} (h:WIn l0 S): ∀k,WIn l0 (zes l0 S k)
 | 0=>h
 | k+1=>WIn.itr (fun S hS=>hS.turn k) (WIn.round h k) _
theorem wlks_st (p:q9): ∀n,∀y∈ziU p n,∃k:Nat,k < n∧y.s=(k:Int)∧p (3+5*k)=2
 | 0,y,hy=>by simp [ziU] at hy
 | n+1,y,hy=>by
  simp only [ziU] at hy
  split at hy
  ·rename_i h2
   rcases List.mem_append.1 hy with q | q
   ·obtain ⟨k,h⟩:=wlks_st p n y q;exact ⟨k,om,h.2⟩
   ·simp at q;subst q;exact ⟨n,om,rfl,h2⟩
  ·obtain ⟨k,h⟩:=wlks_st p n y hy;exact ⟨k,om,h.2⟩
theorem wheel_in (p:q9):(qA p).length=127∧∀v∈qA p,v= -1∨∃k:Nat,k < 64∧v=(k:Int)∧p (3+5*k)=2:=by
 have h0:WIn (ziU p 64) (zij,ziU p 64):=⟨rfl,fun v hv=> .inl (List.eq_of_mem_replicate hv),fun x hx=>⟨x,hx,rfl⟩⟩
 have h:WIn (ziU p 64) (zbx (ziU p 64) 127):=WIn.itr (fun S hS=>hS.round _) h0 127
 refine ⟨h.len,fun v hv=>?_⟩
 rcases h.w v hv with q | ⟨y,hy,q⟩
 ·exact .inl q
 ·obtain ⟨k,h1,h2,h3⟩:=wlks_st p 64 y hy
  exact .inr ⟨k,h1,by rw [q,h2],h3⟩
def zd0 (W:List Int) (f:Fl):Int:=W.getD (zaZ 127 [3,f.a,f.p,f.ta,f.tp]).toNat 0
theorem pick_r (p:q9) (f:Fl):zd0 (qA p) f= -1∨∃k:Nat,k < 64∧zd0 (qA p) f=(k:Int)∧p (3+5*k)=2:=by
 have h:=wheel_in p
 have hr:=zfa (m:=127) (ns:= [3,f.a,f.p,f.ta,f.tp]) dC
 refine h.2 _ ?_
 have hl:(zaZ 127 [3,f.a,f.p,f.ta,f.tp]).toNat < (qA p).length:=by rw [h.1];omega
 unfold zd0
 rw [List.getD_eq_getElem?_getD,List.getElem?_eq_getElem hl]
 exact List.getElem_mem hl
structure Oc where
  (e s:Int)
  c:Bool
  b:List Int
def zeB (e:Int):Oc:=⟨e,-1,false,[]⟩
def rgP (p:q9):Rg:=⟨p 323,p 324,p 325,p 326,p 327,p 328,p 329⟩
abbrev zds:=Nat→Int×Bool
def zbQ (nr:zds) (i:Nat) (y:Int×Bool):zds:=fun j=>if j=i then y else nr j
def outC9 (p:q9) (x:Pk) (s:Int):Int:=zc1 (rgP p) x.k ⟨x.t,x.tp,p 1,p 2⟩ s
def outL (p:q9) (x:Pk) (m:List Int) (s:Int):List Int:=
 if x.k=2 then zcj (natL m x.ba true (p 1) (p 2)) x.ba 20 2 (outC9 p x s)
 else match zcq x.op with
  | none=>natL m x.ba true (p 1) (p 2)
  | some a=>zcj (natL m x.ba true (p 1) (p 2)) x.ba (24+a) 4 (putS (qD x.op a 4) (outC9 p x s))
def outN (nr:zds) (x:Pk) (s:Nat):zds:=
 if x.k=2 then nr else match zcq x.op with
  | none=>nr
  | some a=>zbQ nr s (qD x.op a 4,true)
def zit (p:q9) (x:Pk) (f:Fl):Option Int:=
 if x.k=2 then (if x.la=0 then none else zez (rgP p) x.k f x.la)
 else match zcq x.op with
  | none=>none
  | some a=>if x.fl=1 then none else zez (rgP p) x.k f (qD x.op (a+4) 4 % 1048576)
def inF (p:q9) (x:Pk):Fl:=⟨x.fr,x.fp,p 1,p 2⟩
def inP (p:q9) (x:Pk):Int×Bool:=match zit p x (inF p x) with
 | none=>(zd0 (qA p) (inF p x),false)
 | some s=>if [1,2,3].contains (p (3+5*s.toNat)) then (s,true) else (zd0 (qA p) (inF p x),false)
def backN (nr:zds) (s:Nat) (echo:Int):Int:=if (nr s).2 then zfS echo (nr s).1 else 0
def inL (p:q9) (nr:zds) (x:Pk) (m:List Int) (s:Nat):List Int:=match zcq x.op with
 | none=>natL m x.ba false (p (3+5*s+1)) (p (3+5*s+2))
 | some a=>if x.k=1∧qD x.op (a+4) 4≠0 then zcj (natL m x.ba false (p (3+5*s+1)) (p (3+5*s+2))) x.ba (24+a+4) 4 (backN nr s (qD x.op (a+4) 4)) else natL m x.ba false (p (3+5*s+1)) (p (3+5*s+2))
def stepF (b:List Int) (a:Nat) (v:Int):List Int:=zbh (zbh b a 2 v) 14 2 (zdS (qD b 14 2) (qD b a 2) v)
def fauF (p:q9) (x:Pk):Fl:=⟨qD x.da 8 4,qD x.da 18 2,p 1,p 2⟩
def fauL (p:q9) (m:List Int) (s:Nat):List Int:=
 stepF (stepF (zcj (zcj m false 24 4 (p (3+5*s+1))) false 36 2 (p (3+5*s+2))) 8 (p (3+5*s+1) / 65536 % 65536)) 10 (p (3+5*s+1) / 1 % 65536)
def fauE (p:q9) (x:Pk):Prop:=(¬x.da.getD 0 0 % 256=1∧¬x.da.getD 0 0 % 256=2)∨¬qD x.da 4 4=p 1∨¬qD x.da 16 2=p 2
instance (p:q9) (x:Pk):Decidable (fauE p x):=by unfold fauE;infer_instance
def go9S (p:q9) (nr:zds) (x:Pk) (m:List Int):Oc×zds:=
 if x.k=3 then
  (if¬x.t=p 1 then zeB 8 else if fauE p x then zeB 8 else if zd0 (qA p) (fauF p x) < 0 then zeB 9
   else ⟨0,zd0 (qA p) (fauF p x),false,fauL p m (zd0 (qA p) (fauF p x)).toNat⟩,nr)
 else if x.t=p 1∧x.tp=p 2 then
  (if (inP p x).1 < 0 then zeB 9 else ⟨0,(inP p x).1,(inP p x).2,inL p nr x m (inP p x).1.toNat⟩,nr)
 else if (za4 (zdo p x.fr x.fp) 0 64).2=true then (⟨0,-1,false,outL p x m (za4 (zdo p x.fr x.fp) 0 64).1⟩,outN nr x (za4 (zdo p x.fr x.fp) 0 64).1.toNat)
 else (zeB 8,nr)
def zaU (p:q9) (nr:zds) (b:List Int):Oc×zds:=
 if¬(qU b).1=0 then (zeB (qU b).1,nr)
 else if¬(qU b).2.pi=0 then (zeB 6,nr)
 else if (qU b).2.li < 2 then (zeB 7,nr)
 else go9S p nr (qU b).2 (ageL b (qU b).2.ba)
def ocL (o:Oc) (k:Nat):List Value:= [iv o.e,iv o.s,bv o.c,zQ (zD o.b) k o.b.length]
def ocV (o:Oc) (k:Nat):Value:= .agg ⟨ocL o k⟩
def qS (x:Pk) (qo:Option (Nat×Nat)) (ko:Nat) (qd:Option (Nat×Nat)) (kd:Nat) (kp:Nat) (qb:Option (Nat×Nat)) (kb nb:Nat):List Value:=pkL x qo ko qd kd++ [pv kp 0,zQ qb kb nb]
theorem ren_packL {ρ:Nat→Nat} {x:Pk} {qo qd qb:Option (Nat×Nat)} {ko kd kp kb nb ko' kd' kp' kb':Nat} (h1:ρ ko=ko') (h2:ρ kd=kd') (h3:ρ kp=kp') (h4:ρ kb=kb'):(qS x qo ko qd kd kp qb kb nb).map (zel ρ)=qS x qo ko' qd kd' kp' qb kb' nb:=by
 subst h3
 simp only [qS,List.map_append,ren_pkL h1 h2,List.map_cons,List.map_nil,zf6 h4];rfl
theorem zbS {ρ:Nat→Nat} {x:Pk} {qo qd qb:Option (Nat×Nat)} {ko kd kp kb nb ko' kd' kp' kb':Nat} {rw:Bool} (h1:ρ ko=ko') (h2:ρ kd=kd') (h3:ρ kp=kp') (h4:ρ kb=kb'):zbo ρ (.cells (qS x qo ko qd kd kp qb kb nb) rw)= .cells (qS x qo ko' qd kd' kp' qb kb' nb) rw:=by
 simp only [zbo];rw [ren_packL h1 h2 h3 h4]
theorem zax {ρ:Nat→Nat} {x:Pk} {qo qd qb:Option (Nat×Nat)} {ko kd kp kb nb ko' kd' kp' kb':Nat} {rw:Bool} (h1:ρ ko=ko') (h2:ρ kd=kd') (h3:ρ kp=kp') (h4:ρ kb=kb'):some (Blk.cells (qS x qo ko' qd kd' kp' qb kb' nb) rw)=some (zbo ρ (.cells (qS x qo ko qd kd kp qb kb nb) rw)):=by
 rw [zbS h1 h2 h3 h4]
theorem zbY {ρ:Nat→Nat} {x:Pk} {qo qd qb:Option (Nat×Nat)} {ko kd kp kb nb ko' kd' kp' kb':Nat} {rw rw':Bool} (h1:ρ ko=ko') (h2:ρ kd=kd') (h3:ρ kp=kp') (h4:ρ kb=kb') (hr:rw=true→rw'=true):Blk.seen (zbo ρ (.cells (qS x qo ko qd kd kp qb kb nb) rw)) (.cells (qS x qo ko' qd kd' kp' qb kb' nb) rw'):=by
 rw [zbS h1 h2 h3 h4];exact ⟨rfl,hr⟩
theorem zgK {α:Type} (f:Nat→List α) {i:Nat} (h:i < 64):((List.range 64).map f).flatten=((List.range i).map f).flatten++(f i++((List.range' (i+1) (63 - i)).map f).flatten):=by
 have e:List.range 64=List.range i++i::List.range' (i+1) (63 - i):=by
  rw [List.range_eq_range',List.range_eq_range',show (64:Nat)=i+(63 - i+1) by omega,←List.range'_append_1,Nat.zero_add,List.range'_succ]
 rw [e];simp
theorem near_len (nr:zds) (l:List Nat):((l.map fun i=> [Value.int .u32 (nr i).1,bv (nr i).2]).flatten).length=2*l.length:=by
 induction l with
 | nil=>rfl
 | cons a l ih=>simp only [List.map_cons,List.flatten_cons,List.length_append,ih,List.length_cons,List.length_nil];omega
theorem near_r {nr:zds} {i j:Nat} {m:Option Nat} {v:Value} (h:i < 64) (hv:zaG m [Value.int .u32 (nr i).1,bv (nr i).2] j=some v):zaG m (zeA nr) (2*i+j)=some v:=by
 unfold zeA
 rw [zgK _ h,partL_r (by rw [near_len,List.length_range])]
 exact zcK hv
theorem zjb {p:q9} {is:Bool} {nr:zds} {w v:Value} {i j o:Nat} {m:Option Nat} (h:i < 64) (ho:o=331+2*i+j) (hv:zaG m [Value.int .u32 (nr i).1,bv (nr i).2] j=some v):zaG m (zL p is nr w) o=some v:=by
 rw [ho,show 331+2*i+j=330+(1+(2*i+j)) by omega,zfe]
 have e1: ∀o,zaG m ([bv is]++(zeA nr++ [w])) (1+o)=zaG m (zeA nr++ [w]) o:=fun o=>partL_r rfl
 exact (e1 _).trans (zcK (near_r h hv))
theorem near_w {nr:zds} {i j:Nat} {vs:List Value} {y:Int×Bool} (h:i < 64) (hj:j+vs.length≤2) (hv:splice [Value.int .u32 (nr i).1,bv (nr i).2] j vs= [Value.int .u32 y.1,bv y.2]):splice (zeA nr) (2*i+j) vs=zeA (zbQ nr i y):=by
 unfold zeA
 have e1:((List.range i).map fun k=> [Value.int .u32 (zbQ nr i y k).1,bv (zbQ nr i y k).2])=(List.range i).map fun k=> [Value.int .u32 (nr k).1,bv (nr k).2]:=List.map_congr_left fun k hk=>by
  have:=List.mem_range.1 hk;simp only [zbQ];rw [if_neg om]
 have e2:((List.range' (i+1) (63 - i)).map fun k=> [Value.int .u32 (zbQ nr i y k).1,bv (zbQ nr i y k).2])=(List.range' (i+1) (63 - i)).map fun k=> [Value.int .u32 (nr k).1,bv (nr k).2]:=List.map_congr_left fun k hk=>by
  have:=List.mem_range'_1.1 hk;simp only [zbQ];rw [if_neg om]
 have e3: [Value.int .u32 (zbQ nr i y i).1,bv (zbQ nr i y i).2]= [Value.int .u32 y.1,bv y.2]:=by simp [zbQ]
 rw [zgK _ h,zgK _ h,e1,e2,e3,zc7 (by rw [near_len,List.length_range]),zeh hj,hv]
theorem plane_wN {p:q9} {is:Bool} {nr:zds} {w:Value} {i j o:Nat} {vs:List Value} {y:Int×Bool} (h:i < 64) (ho:o=331+2*i+j) (hj:j+vs.length≤2) (hv:splice [Value.int .u32 (nr i).1,bv (nr i).2] j vs= [Value.int .u32 y.1,bv y.2]):splice (zL p is nr w) o vs=zL p is (zbQ nr i y) w:=by
 rw [ho,show 331+2*i+j=330+(1+(2*i+j)) by omega]
 unfold zL zif
 have e1: ∀o,splice ([bv is]++(zeA nr++ [w])) (1+o) vs= [bv is]++splice (zeA nr++ [w]) o vs:=fun o=>zc7 rfl
 rw [zc7 (qH p),e1,zeh (by rw [nearL_length];omega),near_w h hj hv]
theorem zco {ρ:Nat→Nat} {c:List Value} {rw:Bool} (q:Option (Nat×Nat)):Blk.view (zbo ρ (zaC q.isSome)) (zG q c rw):=by
 cases q with
 | none=>exact zam (.inr ⟨rfl,rfl⟩)
 | some p=>exact zaF
theorem find_r {h:Nat→Bool} : ∀n i,i+n≤64→0≤(za4 h i n).1∧(za4 h i n).1 < 64
 | 0,_,_=>by simp [za4]
 | n+1,i,q=>by
  simp only [za4];split
  ·exact ⟨by simp,by show (i:Int) < 64;omega⟩
  ·exact find_r n (i+1) om
structure PRng (p:q9):Prop where
  a:0≤p 1∧p 1≤4294967295
  b:0≤p 2∧p 2≤65535
  e: -4611686018427387904≤p 323 - 1∧p 323 - 1≤4611686018427387904
  s: ∀k,k < 64→p (3+5*k)≠0→(0≤p (3+5*k+1)∧p (3+5*k+1)≤4294967295)∧(0≤p (3+5*k+2)∧p (3+5*k+2)≤65535)
theorem placed_r {a p:Int} (h:za8 a p=true):(0≤a∧a≤4294967295)∧(0≤p∧p≤65535):=by
 simp only [za8,Bool.and_eq_true,decide_eq_true_eq] at h;omega
theorem PInv.rng {p:q9} {b:Nat} (I:PInv p b) (hb:b≤1000000):PRng p:=by
 have h1:=placed_r I.place
 have h2:=I.ep
 exact ⟨h1.1,h1.2,om,fun k hk h0=>placed_r (I.slot k hk h0).1⟩
theorem PRng.pick {p:q9} (H:PRng p) {f:Fl} {s:Nat} (h:zd0 (qA p) f=(s:Int)):s < 64∧(0≤p (3+5*s+1)∧p (3+5*s+1)≤4294967295)∧(0≤p (3+5*s+2)∧p (3+5*s+2)≤65535):=by
 rcases pick_r p f with q | ⟨k,h1,h2,h3⟩
 ·omega
 ·have:s=k:=om
  subst this
  exact ⟨h1,H.s s h1 om⟩
theorem nrSet_set (nr:zds) (i:Nat) (y z:Int×Bool):zbQ (zbQ nr i y) i z=zbQ nr i z:=by
 funext j;unfold zbQ;split<;>rfl
theorem zeo (nr:zds) (i:Nat) (y:Int×Bool):zbQ nr i y i=y:=if_pos rfl
end Go.Rh

set_option maxHeartbeats 1000000
namespace Go.Rh
abbrev wk:=[iv 0,iv 0,bv false,.slice none 0 0]
abbrev Yd (a:Int):=#[iv a,iv (-1),bv false,.slice none 0 0]
theorem dropC {P:Program} [PrC P] (e:Int):
    Env P "roundhouse/plane.drop" [iv e] ([]) (Ans (.agg (Yd e)) ([])):=by
 refine Env.by PrC.plane_drop ?_
 unfold zhi
 show GC _ 0 _ _ ⟨reg [(0,iv e)],[]⟩
 exact zJ (zN (o_b 1 [(2,pv 0 0)] [cw wk] (zE (zA (zJ (zN (o_b 3 [(4,.agg (Yd e)),(3,iv e)] [cw [iv e,iv (-1),bv false,.slice none 0 0]] (zE (zA (qV (qC [.agg (Yd e)] (qY rfl rfl rfl rfl) rfl (by rfl) rfl rfl)))))))))))
abbrev Wa (b:Fl):=[3,b.a,b.p,b.ta,b.tp]
theorem PickC {P:Program} [PrC P] (W:List Int) (m:Nat) (f:Fl) (hW:W.length=127):
    Env P "roundhouse/wheel.Pick" [sv 0 0 127 (127+m),.agg (wW f)] ([cr (ii W++zah zI m)]) (fun v h'=>v=iv (zd0 W f)∧h'= [cr (ii W++zah zI m)]):=by
 refine Env.by2 PrC.wheel_Pick ?_
 unfold zha
 show GC _ 1 _ _ ⟨reg [(0,sv 0 0 127 (127+m)),(1,.agg (wW f))],[cr (ii W++zah zI m)]⟩
 refine zJ (zN (o_b 2 [(4,iv 0),(3,pv 1 0)] [cr (ii W++zah zI m),cw (vn f)] (zE (zA (zJ (zN (o_b 9 [(14,sv 2 0 5 5),(13,iv f.tp),(12,pv 1 3),(11,iv f.ta),(10,pv 1 2),(9,iv f.p),(8,pv 1 1),(7,iv f.a),(6,pv 1 0)] [cr (ii W++zah zI m),cw (vn f),cw [iv 3,iv f.a,iv f.p,iv f.ta,iv f.tp]] ?_)))))))
 have hsp127:=zfa (m:=127) (ns:= (Wa f)) dC
 refine qT (zeC (a1:= [uv 127,sv 0 0 5 5]) [2] [ii (Wa f)] (spun127C (Wa f) (by simp)) rfl (fun _=>zM rfl (zM rfl rfl)) ⟨⟨_,rfl⟩,zay _,trivial⟩ rfl ?_)
 refine o_d 1 [(5,iv (zaZ 127 (Wa f)))] (zE (zA (zJ (zJ (zN (o_d 4 [(19,bv (decide (zaZ 127 (Wa f)≥127))),(18,iv 127),(17,sv 0 0 127 (127+m)),(16,iv (zaZ 127 (Wa f)))] (zE (zA (qK (t:=decide (zaZ 127 (Wa f)≥127)) rfl (fun q=>by rw [(by simp;omega:(decide (zaZ 127 (Wa f)≥127))=false)] at q;cases q) (fun _=>?_))))))))))
 refine qM (zA (zJ (zN (o_d 2 [(21,iv (zaZ 127 (Wa f))),(20,sv 0 0 127 (127+m))] (o_s (by exact zf5 (o:=0) (o':=((zaZ 127 (Wa f)).toNat)) rfl rfl om om) ?_)))))
 refine o_s (by refine zV (v:=iv (W.getD ((zaZ 127 (Wa f)).toNat) 0)) rfl rfl ?_;exact zcK (ii_g (i:=((zaZ 127 (Wa f)).toNat)) rfl om)) ?_
 exact o_d 1 [(4,iv (W.getD ((zaZ 127 (Wa f)).toNat) 0))] (zE (zT [(4,iv (W.getD ((zaZ 127 (Wa f)).toNat) 0))] (qV (⟨trivial,⟨reg [(4,iv (W.getD ((zaZ 127 (Wa f)).toNat) 0))],[cr (ii W++zah zI m)]⟩,Wk.ren [0] rfl rfl dC ⟨rfl,trivial⟩ ⟨.inl (zW (zaf W m)),trivial⟩,[iv (W.getD ((zaZ 127 (Wa f)).toNat) 0)],(zU rfl rfl),(zK rfl z5),rfl,rfl⟩))))
theorem thenC {P:Program} [PrC P] (x:Pk) (qo qd:Option (Nat×Nat)) (o c n o2 c2 n2:Nat) (zo zd:Bool):
    Env P "(*roundhouse/plane.packet).then" [pv 0 0,zQ (wz o2 c2) 5 n2,iv 0] ([cw (qS x qo 1 qd 2 3 (wz o c) 4 n),zaC zo,zaC zd,cr [],cr [],cr []]) (fun v h'=>v= .tuple #[]∧h'= [cw (qS x qo 1 qd 2 3 (wz o2 c2) 5 n2),zaC zo,zaC zd,cr [],cr [],cr []]):=by
 refine Env.by2 PrC.plane_packet_then ?_
 unfold zdq
 show GC _ 6 _ _ ⟨reg [(0,pv 0 0),(1,zQ (wz o2 c2) 5 n2),(2,iv 0)],[cw (qS x qo 1 qd 2 3 (wz o c) 4 n),zaC zo,zaC zd,cr [],cr [],cr []]⟩
 refine zJ (zN (o_d 2 [(7,bv true),(6,iv 0)] (zE (zA (zcZ rfl (zN (o_d 4 [(11,pv 0 14),(10,pv 0 0),(9,zQ (wz o2 c2) 5 n2),(8,pv 0 0)] (zdu (by refine zao (c':=qS x qo 1 qd 2 3 (wz o2 c2) 5 n2) rfl rfl rfl ?_ ?_ ?_;exact rfl;exact (Nat.le_of_ble_eq_true rfl);exact rfl) ?_))))))))
 exact zE (⟨trivial,⟨reg [],[cw (qS x qo 1 qd 2 3 (wz o2 c2) 5 n2),zaC zo,zaC zd,cr [],cr [],cr []]⟩,Wk.ren [0,1,2,3,4,5] rfl rfl dC trivial ⟨.inl (zax rfl rfl rfl rfl),.inl (congrArg some (zaJ _).symm),.inl (congrArg some (zaJ _).symm),.inl rfl,.inl rfl,.inl rfl,trivial⟩,[],rfl,z5,rfl,rfl⟩)
end Go.Rh
