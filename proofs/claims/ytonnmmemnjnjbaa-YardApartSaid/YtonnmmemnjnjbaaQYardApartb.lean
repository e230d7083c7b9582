/- The proofs zeB the intermediate form, part QYardApartb. -/
import Derived.Test.YtonnmmemnjnjbaaQYardAparta
import Derived.Orders
import Derived.Scope
import Derived.Deep.LoopGhost
import Derived.IntWalk
import Derived.KernelRfl
import Derived.Below
import Derived.WideShapes
open Go.IntKind (i64)
set_option linter.unusedVariables false
set_option linter.unusedSimpArgs false
set_option maxRecDepth 100000
namespace Go.Rh
theorem zhA {e e' : Opd → Value} {ps : List (Nat × Nat × Opd)} (h : ∀ x ∈ ps.map (·.2.2), e x = e' x) : (ps.map fun p => (p.1, p.2.1, e p.2.2)) = ps.map fun p => (p.1, p.2.1, e' p.2.2) := by
 refine List.map_congr_left fun p hp => ?_
 rw [h p.2.2 (List.mem_map.2 ⟨p, hp, rfl⟩)]
theorem zdo {e e' : Opd → Value} {x : Option Opd} (h : ∀ y ∈ x.toList, e y = e' y) : x.map e = x.map e' := by
 cases x with
 | none => rfl
 | some y => simp [h y (by simp)]
theorem stepE_ev {op : IOp} {e e' : Opd → Value} {h : Nat → Option Blk} {n : Nat} (he : ∀ x ∈ op.opds, e x = e' x) (hsp : qC op = 0) : zQ op e h n = zQ op e' h n := by
 cases op <;> simp only [IOp.opds, List.mem_cons, List.mem_append, List.not_mem_nil, or_false, forall_eq_or_imp, forall_eq, qC] at he hsp
 case bld z ps => simp only [zQ]; rw [zhA he]
 case bsl z s l ps => simp only [zQ]; rw [zhA he]
 case slcA l s x a b c => simp only [zQ]; rw [he.1, zdo (fun y hy => he.2 y (.inl (.inl hy))), zdo (fun y hy => he.2 y (.inl (.inr hy))), zdo (fun y hy => he.2 y (.inr hy))]
 case slcS s x a b c => simp only [zQ]; rw [he.1, zdo (fun y hy => he.2 y (.inl (.inl hy))), zdo (fun y hy => he.2 y (.inl (.inr hy))), zdo (fun y hy => he.2 y (.inr hy))]
 case slcT x a b => simp only [zQ]; rw [he.1, zdo (fun y hy => he.2 y (.inl hy)), zdo (fun y hy => he.2 y (.inr hy))]
 all_goals first
  | rfl
  | (cases hsp; done)
  | (simp only [zQ, he]; done)
  | (obtain ⟨h1, h2⟩ := he; simp only [zQ, h1, h2]; done)
  | (obtain ⟨h1, h2, h3⟩ := he; simp only [zQ, h1, h2, h3]; done)
theorem zh2 {op : IOp} {e : Opd → Value} {h : Nat → Option Blk} {n n' : Nat} (hm : op.makes = false) : zQ op e h n = zQ op e h n' := by
 cases op <;> first | rfl | cases hm
theorem zh3 {op : IOp} {e : Opd → Value} {h : Nat → Option Blk} {n : Nat} {v : Value} {f : Eff} (hm : op.makes = true) (hs : zQ op e h n = some (v, f)) : ∃ b, f = .push b := by
  cases op <;> simp only [IOp.makes] at hm <;> try cases hm
  all_goals
    simp only [zQ] at hs
    first
      | (cases hs; exact ⟨_, rfl⟩)
      | (split at hs <;> cases hs; exact ⟨_, rfl⟩)
      | (split at hs <;> try cases hs
         split at hs <;> cases hs; exact ⟨_, rfl⟩)
theorem ldV_h {h h' : Nat → Option Blk} {n : Option Nat} {x : Value} (hh : ∀ k ∈ zbZ x, h k = h' k) : ldV h n x = ldV h' n x := by
 unfold ldV
 split
 ·rw [hh _ (by simp [zbZ])]
 ·rfl
theorem stV_h {h h' : Nat → Option Blk} {n : Nat} {v x : Value} (hh : ∀ k ∈ zbZ x, h k = h' k) : stV h n v x = stV h' n v x := by
 unfold stV
 split
 ·rw [hh _ (by simp [zbZ])]
 ·rfl
theorem first_h {h h' : Nat → Option Blk} {s n : Nat} {x : Value} (hh : ∀ k ∈ zbZ x, h k = h' k) : first h s n x = first h' s n x := by
 unfold first
 split
 ·rw [hh _ (by simp [zbZ])]
 all_goals rfl
theorem stepE_h {op : IOp} {e : Opd → Value} {h h' : Nat → Option Blk} {n : Nat} (hh : ∀ k ∈ rdE op e, h k = h' k) : zQ op e h n = zQ op e h' n := by
 cases op <;> simp only [rdE, IOp.rdl, List.flatMap_cons, List.flatMap_nil, List.append_nil, List.mem_append] at hh
 case ld m a => simp only [zQ]; rw [ldV_h hh]
 case st m a v => simp only [zQ]; rw [stV_h hh]
 case cbs x =>
  simp only [zQ]
  split
  ·rfl
  ·rename_i hx; rw [hx] at hh; rw [first_h hh]
  ·rfl
 case lenM x =>
  simp only [zQ]
  split
  ·rfl
  ·rename_i hx; rw [hx] at hh; rw [hh _ (by simp [zbZ])]
  ·rfl
 case lenC x =>
  simp only [zQ]
  split
  ·rename_i hx; rw [hx] at hh; rw [hh _ (by simp [zbZ])]
  ·rfl
 case cpy s d x =>
  simp only [zQ]
  split
  ·rename_i hd hl
   rw [hd] at hh
   rw [first_h (fun k hk => hh k (.inr hk))]
   split
   ·split
    ·rw [hh _ (.inl (by simp [zbZ]))]
    all_goals rfl
   ·rfl
  ·rfl
 case lku kt z ag ok m k =>
  simp only [zQ]
  split
  ·split
   ·rfl
   ·rename_i hx; rw [hx] at hh; rw [hh _ (by simp [zbZ])]
   ·rfl
  ·rfl
 case mup kt m k v =>
  simp only [zQ]
  split
  ·rfl
  ·split
   ·rename_i hx; rw [hx] at hh; rw [hh _ (by simp [zbZ])]
   ·rfl
 all_goals rfl
theorem zei {op : IOp} {e : Opd → Value} {h : Nat → Option Blk} {n : Nat} {v : Value} {k : Nat} {b : Blk} (hs : zQ op e h n = some (v, .set k b)) : k ∈ rdE op e := by
 cases op with
 | st m x y =>
  simp only [zQ] at hs
  split at hs <;> cases hs
  rename_i hf
  unfold stV at hf
  split at hf <;> try cases hf
  rename_i hx
  split at hf <;> try cases hf
  split at hf <;> try cases hf
  split at hf <;> cases hf
  simp [rdE, IOp.rdl, hx, zbZ]
 | cpy s d x =>
  simp only [zQ] at hs
  split at hs <;> try cases hs
  rename_i hd _
  split at hs <;> try cases hs
  split at hs <;> try cases hs
  split at hs <;> try cases hs
  split at hs <;> cases hs
  simp [rdE, IOp.rdl, hd, zbZ]
 | mup kt m x y =>
  simp only [zQ] at hs
  split at hs <;> try cases hs
  split at hs <;> try cases hs
  rename_i hm
  split at hs <;> try cases hs
  split at hs <;> try cases hs
  ·simp [rdE, IOp.rdl, hm, zbZ]
  ·split at hs <;> cases hs
   simp [rdE, IOp.rdl, hm, zbZ]
 | _ =>
  simp only [zQ] at hs
  first | cases hs; done | skip
  all_goals (repeat' (split at hs)) <;> cases hs
def IOp.writes : IOp → Bool
 | .st .. | .cpy .. | .mup .. => true
 | _ => false
theorem zgv {op : IOp} {e : Opd → Value} {h : Nat → Option Blk} {n : Nat} {v : Value} {f : Eff} (hs : zQ op e h n = some (v, f)) :
  (op.makes = true ∧ ∃ b, f = .push b) ∨ (op.makes = false ∧ (f = .no ∨ (op.writes = true ∧ ∃ k b, f = .set k b))) := by
 cases hm : op.makes with
 | true => exact .inl ⟨rfl, zh3 hm hs⟩
 | false =>
  refine .inr ⟨rfl, ?_⟩
  cases f with
  | no => exact .inl rfl
  | set k b =>
   refine .inr ⟨?_, k, b, rfl⟩
   have := zei hs
   cases op <;> simp only [rdE, IOp.rdl, List.flatMap_nil, List.not_mem_nil] at this <;> first | rfl | skip
   all_goals
    simp only [zQ] at hs
    (repeat' (split at hs)) <;> cases hs
  | push b =>
   cases op with
   | st m x y =>
    simp only [zQ] at hs
    split at hs <;> cases hs
    rename_i hf
    unfold stV at hf
    (repeat' (split at hf)) <;> cases hf
   | _ =>
    simp only [IOp.makes] at hm
    first | cases hm; done | skip
    all_goals
     simp only [zQ] at hs
     first | cases hs; done | skip
    all_goals (repeat' (split at hs)) <;> cases hs
def ziB (d : DCell) (s : St) : Option (Foot × St) :=
 if gJ d.c s.f then none else if zb0 d.c s.f then (match zQ d.c.op (evf s.f) (hf s.h) d.nid with
  | some (v, .no) => some (⟨d.i, rdE d.c.op (evf s.f), [], none⟩, ⟨zas s.f d.c.dst v, s.h⟩)
  | some (v, .set k b) => some (⟨d.i, rdE d.c.op (evf s.f), [k], none⟩, ⟨zas s.f d.c.dst v, s.h.set k b⟩)
  | some (v, .push b) => match s.h[d.nid]? with
   | some .gone => some (⟨d.i, rdE d.c.op (evf s.f), [d.nid], none⟩, ⟨zas s.f d.c.dst v, s.h.set d.nid b⟩)
   | _ => none
  | none => none)
 else some (⟨d.i, [], [], none⟩, ⟨zas s.f d.c.dst undef, s.h⟩)
theorem zeG {x : Foot} {log : List Foot} (h : x.none? = true) : zgs x log = log := by simp [zgs, h]
theorem apart_none {i : Nat} {y : Foot} : Foot.apart y ⟨i, [], [], none⟩ := by
 refine ⟨by simp, by simp, ?_, trivial⟩
 unfold below; split <;> simp
theorem zaZ {C : qW} {un : Nat → Nat → Bool} {d : DCell} {log : List Foot} {K : List Foot → St → Prop} {s : St} (hd : zb0 d.c s.f = true → qC d.c.op = 0) :
  za8 C un d log K s ↔ ∃ x s', ziB d s = some (x, s') ∧ fits un x log ∧ K (zgs x log) s' := by
 unfold za8 ziB
 by_cases hg : gJ d.c s.f = true
 ·simp [hg]
 simp only [hg, if_false, Bool.false_eq_true]
 by_cases hw : zb0 d.c s.f = true
 ·have hsp := hd hw
  simp only [hw, if_true]
  split
  ·rename_i hop; rw [hop] at hsp; cases hsp
  ·rw [if_pos hsp]
   cases hs : zQ d.c.op (evf s.f) (hf s.h) d.nid with
   | none => simp
   | some r =>
    obtain ⟨v, e⟩ := r
    cases e with
    | no =>
     simp only [Eff.okR, Eff.wr, Eff.onR]
     constructor
     ·rintro ⟨h1, h2, h3⟩; exact ⟨_, _, rfl, h2, h3⟩
     ·rintro ⟨x, s', h1, h2, h3⟩; cases h1; exact ⟨trivial, h2, h3⟩
    | set k b =>
     simp only [Eff.okR, Eff.wr, Eff.onR]
     constructor
     ·rintro ⟨h1, h2, h3⟩; exact ⟨_, _, rfl, h2, h3⟩
     ·rintro ⟨x, s', h1, h2, h3⟩; cases h1; exact ⟨trivial, h2, h3⟩
    | push b =>
     simp only [Eff.okR, Eff.wr, Eff.onR]
     constructor
     ·rintro ⟨h1, h2, h3⟩; exact ⟨_, _, by rw [h1], h2, h3⟩
     ·rintro ⟨x, s', h1, h2, h3⟩
      split at h1 <;> cases h1
      rename_i hg
      exact ⟨hg, h2, h3⟩
 ·simp only [hw, if_false, Bool.false_eq_true]
  constructor
  ·intro h
   exact ⟨_, _, rfl, fun y _ => .inl apart_none, by rw [zeG rfl]; exact h⟩
  ·rintro ⟨x, s', h1, h2, h3⟩
   cases h1
   rwa [zeG rfl] at h3
def apartS (x y : ICell) : Prop := (∀ d, x.dst = some d → d ∉ y.looks ∧ y.dst ≠ some d) ∧ (∀ d, y.dst = some d → d ∉ x.looks)
theorem apartS.symm {x y : ICell} (h : apartS x y) : apartS y x :=
 ⟨fun d hd => ⟨h.2 d hd, fun e => (h.1 d e).2 hd⟩, fun d hd => (h.1 d hd).1⟩
theorem zg5 {f : Nat → Value} {d : Option Nat} {v : Value} {t : Nat} (h : d ≠ some t) : zas f d v t = f t := by
 cases d with
 | none => rfl
 | some d => simp only [zas, setf]; rw [if_neg]; rintro rfl; exact h rfl
theorem ze9 {f : Nat → Value} {d d' : Option Nat} {v v' : Value} (h : ∀ x, d = some x → d' ≠ some x) : zas (zas f d v) d' v' = zas (zas f d' v') d v := by
 cases d with
 | none => rfl
 | some x =>
  cases d' with
  | none => rfl
  | some y =>
   have : x ≠ y := fun e => h x rfl (by rw [e])
   funext i
   simp only [zas, setf]
   by_cases h1 : i = x
   ·subst h1; simp [this]
   ·by_cases h2 : i = y
    ·subst h2; simp [h1]
    ·simp [h1, h2]
theorem zeq {c : ICell} {f : Nat → Value} {d : Option Nat} {v : Value} (h : ∀ x, d = some x → x ∉ c.looks) : ∀ x ∈ c.op.opds, evf (zas f d v) x = evf f x := by
 intro x hx
 cases x with
 | c v => rfl
 | t n =>
  refine zg5 ?_
  rintro rfl
  refine h n rfl ?_
  unfold ICell.looks
  exact List.mem_append_right _ (List.mem_filterMap.2 ⟨.t n, hx, rfl⟩)
theorem zcr {c : ICell} {f : Nat → Value} {d : Option Nat} {v : Value} (h : ∀ x, d = some x → x ∉ c.looks) : zb0 c (zas f d v) = zb0 c f := by
 unfold zb0
 rcases hg : c.guard with _ | ⟨g, b⟩
 ·rfl
 ·simp only
  rw [zg5]
  rintro rfl
  exact h g rfl (by unfold ICell.looks; rw [hg]; simp)
theorem zfe {c : ICell} {f : Nat → Value} {d : Option Nat} {v : Value} (h : ∀ x, d = some x → x ∉ c.looks) : gJ c (zas f d v) = gJ c f := by
 unfold gJ
 rcases hg : c.guard with _ | ⟨g, b⟩
 ·rfl
 ·simp only
  rw [zg5]
  rintro rfl
  exact h g rfl (by unfold ICell.looks; rw [hg]; simp)
theorem rdl_opds {op : IOp} : ∀ x ∈ op.rdl, x ∈ op.opds := by
 cases op <;> simp [IOp.rdl, IOp.opds]
theorem rdE_ev {op : IOp} {e e' : Opd → Value} (he : ∀ x ∈ op.opds, e x = e' x) : rdE op e = rdE op e' := by
 unfold rdE
 have : ∀ l : List Opd, (∀ x ∈ l, e x = e' x) → (l.flatMap fun x => zbZ (e x)) = l.flatMap fun x => zbZ (e' x) := by
  intro l
  induction l with
  | nil => intro _; rfl
  | cons x r ih => intro h; rw [List.flatMap_cons, List.flatMap_cons, h x (by simp), ih (fun y hy => h y (by simp [hy]))]
 exact this _ fun x hx => he x (rdl_opds x hx)
theorem zdp {d : DCell} {s s' : St} {x : Foot} (h : ziB d s = some (x, s')) :
  x.i = d.i ∧ x.top = none ∧ s'.h.length = s.h.length ∧ (∀ k, k ∉ x.wr → s'.h[k]? = s.h[k]?) ∧ (∀ k ∈ x.wr, k < s.h.length) ∧
   ∃ v, s'.f = zas s.f d.c.dst v := by
 unfold ziB at h
 split at h
 ·cases h
 split at h
 ·split at h
  ·cases h; exact ⟨rfl, rfl, rfl, fun _ _ => rfl, by simp, _, rfl⟩
  ·rename_i v k b hs
   cases h
   refine ⟨rfl, rfl, by simp, fun j hj => ?_, ?_, _, rfl⟩
   ·simp only [List.mem_singleton] at hj
    exact List.getElem?_set_ne (Ne.symm hj)
   ·intro j hj
    simp only [List.mem_singleton] at hj
    subst hj
    exact zhc (zeZ hs).1
  ·rename_i v b hs
   split at h <;> cases h
   rename_i hg
   refine ⟨rfl, rfl, by simp, fun j hj => ?_, ?_, _, rfl⟩
   ·simp only [List.mem_singleton] at hj
    exact List.getElem?_set_ne (Ne.symm hj)
   ·intro j hj
    simp only [List.mem_singleton] at hj
    subst hj
    exact zJ hg
  ·cases h
 ·cases h; exact ⟨rfl, rfl, rfl, fun _ _ => rfl, by simp, _, rfl⟩
theorem zdV {d : DCell} {s s' : St} {x : Foot} {f1 : Nat → Value} {h1 : List Blk} (h : ziB d s = some (x, s')) (hgj : gJ d.c f1 = gJ d.c s.f) (hw : zb0 d.c f1 = zb0 d.c s.f) (he : ∀ y ∈ d.c.op.opds, evf f1 y = evf s.f y) (hsp : zb0 d.c s.f = true → qC d.c.op = 0)
  (hh : ∀ k, k ∈ x.rd ∨ k ∈ x.wr → h1[k]? = s.h[k]?) :
  ∃ (v : Value) (g : List Blk → List Blk), (∀ l : List Blk, (∀ k, k ∉ x.wr → (g l)[k]? = l[k]?) ∧ (∀ k ∈ x.wr, k < l.length → (g l)[k]? = (s'.h)[k]?) ∧ (g l).length = l.length) ∧
   s' = ⟨zas s.f d.c.dst v, g s.h⟩ ∧ ziB d ⟨f1, h1⟩ = some (x, ⟨zas f1 d.c.dst v, g h1⟩) := by
 unfold ziB at h ⊢
 split at h
 ·cases h
 rename_i hgf
 rw [if_neg (by simp only; rw [hgj]; exact hgf)]
 split at h
 ·rename_i hwt
  rw [if_pos (by rw [hw]; exact hwt)]
  have hr : rdE d.c.op (evf f1) = rdE d.c.op (evf s.f) := rdE_ev he
  have hst : ∀ (hrd : ∀ k ∈ rdE d.c.op (evf s.f), h1[k]? = s.h[k]?), zQ d.c.op (evf f1) (hf h1) d.nid = zQ d.c.op (evf s.f) (hf s.h) d.nid := by
   intro hrd
   rw [stepE_ev he (hsp hwt)]
   refine stepE_h fun k hk => ?_
   unfold hf; rw [hrd k hk]
  simp only
  split at h
  ·rename_i v hs
   cases h
   rw [hst (fun k hk => hh k (.inl hk)), hs, hr]
   exact ⟨v, fun l => l, fun l => ⟨fun _ _ => rfl, by simp, rfl⟩, rfl, rfl⟩
  ·rename_i v k b hs
   cases h
   rw [hst (fun k hk => hh k (.inl hk)), hs, hr]
   refine ⟨v, fun l => l.set k b, fun l => ⟨fun j hj => ?_, ?_, by simp⟩, rfl, rfl⟩
   ·simp only [List.mem_singleton] at hj; exact List.getElem?_set_ne (Ne.symm hj)
   ·intro j hj hl
    simp only [List.mem_singleton] at hj; subst hj
    have := zhc (zeZ hs).1
    simp [hl, this]
  ·rename_i v b hs
   split at h <;> cases h
   rename_i hg
   rw [hst (fun k hk => hh k (.inl hk)), hs, hr]
   have hg' : h1[d.nid]? = some .gone := by rw [hh d.nid (.inr (by simp)), hg]
   simp only [hg']
   refine ⟨v, fun l => l.set d.nid b, fun l => ⟨fun j hj => ?_, ?_, by simp⟩, rfl, rfl⟩
   ·simp only [List.mem_singleton] at hj; exact List.getElem?_set_ne (Ne.symm hj)
   ·intro j hj hl
    simp only [List.mem_singleton] at hj; subst hj
    have := zJ hg
    simp [hl, this]
  ·cases h
 ·rename_i hwt
  rw [if_neg (by rw [hw]; exact hwt)]
  cases h
  exact ⟨undef, fun l => l, fun l => ⟨fun _ _ => rfl, by simp, rfl⟩, rfl, rfl⟩
end Go.Rh

namespace Go.Rh
theorem Foot.apart.symm {x y : Foot} (h : Foot.apart x y) : Foot.apart y x := by
 obtain ⟨h1, h2, h3, h4⟩ := h
 exact ⟨fun k hk => ⟨h2 k hk, fun hx => (h1 k hx).2 hk⟩, fun k hk => (h1 k hk).1, h4, h3⟩
theorem zfI {x y : Foot} (h : x.none? = true) : Foot.apart x y := by
 obtain ⟨i, rd, wr, top⟩ := x
 unfold Foot.none? at h
 split at h
 ·rename_i h1 h2 h3
  simp only at h1 h2 h3
  subst h1; subst h2; subst h3
  exact ⟨by simp, by simp, trivial, by unfold below; split <;> simp⟩
 ·cases h
theorem zgG {x y : Foot} {l : List Foot} (h : y ∈ zgs x l) : y = x ∨ y ∈ l := by
 unfold zgs at h; split at h
 ·exact .inr h
 ·simpa using h
theorem zcp {x y : Foot} {l : List Foot} (h : y ∈ l) : y ∈ zgs x l := by
 unfold zgs; split
 ·exact h
 ·simp [h]
theorem addF_swap {x y z : Foot} {l : List Foot} (h : z ∈ zgs x (zgs y l)) : z ∈ zgs y (zgs x l) := by
 unfold zgs at *
 split at h <;> split at h <;> simp_all
 rcases h with h | h | h <;> simp [h]
section
variable {C : qW} {un : Nat → Nat → Bool} {i j : DCell} {log : List Foot} {K : List Foot → St → Prop} {s : St}
theorem fits.mono {x : Foot} {l l' : List Foot} (h : fits un x l) (hl : ∀ y ∈ l', y ∈ l) : fits un x l' := fun y hy => h y (hl y hy)
theorem fits.apart {x y : Foot} (h : fits un x (zgs y log)) (hu : un y.i x.i = true) : Foot.apart y x := by
 by_cases hn : y.none? = true
 ·exact zfI hn
 ·rcases h y (by simp [zgs, hn]) with h | h
  ·exact h
  ·rw [hu] at h; cases h
theorem fits.add {x y : Foot} (h : fits un x log) (ha : Foot.apart y x) : fits un x (zgs y log) := by
 intro z hz
 rcases zgG hz with rfl | hz
 ·exact .inl ha
 ·exact h z hz
theorem fits.add_cons {x y : Foot} (h : fits un x log) (ha : Foot.apart y x) : fits un x (y :: log) := by
 intro z hz
 rcases List.mem_cons.1 hz with rfl | hz
 ·exact .inl ha
 ·exact h z hz
theorem addF_cons {x y z : Foot} {l : List Foot} (h : z ∈ zgs x (y :: l)) : z ∈ y :: zgs x l := by
 rcases zgG h with rfl | h
 ·unfold zgs at h ⊢
  split
  ·rename_i hn; rwa [if_pos hn] at h
  ·simp
 ·rcases List.mem_cons.1 h with rfl | h
  ·simp
  ·exact List.mem_cons_of_mem _ (zcp h)
theorem cons_addF {x y z : Foot} {l : List Foot} (h : z ∈ y :: zgs x l) : z ∈ zgs x (y :: l) := by
 rcases List.mem_cons.1 h with rfl | h
 ·exact zcp (by simp)
 ·unfold zgs at h ⊢
  split
  ·rename_i hn; rw [if_pos hn] at h; simp [h]
  ·rename_i hn; rw [if_neg hn] at h; simp at h ⊢; rcases h with h | h <;> simp [h]
def zhs (K : List Foot → St → Prop) : Prop := ∀ l l' s, (∀ x ∈ l', x ∈ l) → K l s → K l' s
theorem zcm {op : IOp} {f : Nat → Value} {h : List Blk} {K K' : Value → List Blk → Prop} (hk : ∀ v h, K v h → K' v h) : zfQ C op f h K → zfQ C op f h K' := by
 have plain : (match zQ op (evf f) (hf h) h.length with | some (v, e) => K v (e.on h) | none => False) → (match zQ op (evf f) (hf h) h.length with | some (v, e) => K' v (e.on h) | none => False) := by
  split
  ·exact hk _ _
  ·exact id
 cases op <;> try exact plain
 case call g args =>
  rintro ⟨sel, h1, a1, R, h2, h3, h4, h5, h6, h7⟩
  exact ⟨sel, h1, a1, R, h2, h3, h4, h5, h6, fun v h1' hR hl hf => ⟨(h7 v h1' hR hl hf).1, hk _ _ (h7 v h1' hR hl hf).2⟩⟩
 case app z si b x y =>
  simp only [zfQ, appK]
  split
  ·split
   ·split
    ·split
     ·split
      ·exact hk _ _
      ·split
       ·split
        ·exact hk _ _
        ·exact id
       ·exact id
     ·split
      ·exact hk _ _
      ·exact id
     ·exact id
    ·exact fun ⟨h1, h2⟩ => ⟨h1, fun c hc => hk _ _ (h2 c hc)⟩
   ·exact id
  ·exact id
 case csb x =>
  simp only [zfQ, csbK]
  split
  ·exact fun h c hc => hk _ _ (h c hc)
  ·exact id
 case snd c v =>
  simp only [zfQ, sndK]
  split
  ·split
   ·exact fun ⟨h1, h2, h3⟩ => ⟨h1, h2, hk _ _ h3⟩
   ·exact id
  ·exact id
 case rcv c =>
  simp only [zfQ, rcvK]
  split
  ·split
   ·exact hk _ _
   ·exact id
  ·exact id
 case rng x =>
  simp only [zfQ, rngK]
  split
  ·split
   ·exact hk _ _
   ·exact id
  ·exact id
 case nxt x =>
  simp only [zfQ, nxtK]
  split
  ·split
   ·split
    ·exact fun ⟨h1, h2, h3⟩ => ⟨h1, fun q => hk _ _ (h2 q), fun i e q1 q2 => hk _ _ (h3 i e q1 q2)⟩
    ·exact id
   ·exact id
  ·exact id
 case ent x =>
  simp only [zfQ, entK]
  split
  ·split
   ·split
    ·split
     ·exact fun ⟨h1, h2⟩ => ⟨h1, hk _ _ h2⟩
     ·exact id
    ·exact id
   ·exact id
  ·exact id
 case sel1 z ag c =>
  simp only [zfQ, selK]
  split
  ·split
   ·exact hk _ _
   ·split
    ·exact hk _ _
    ·exact id
   ·exact id
  ·exact id
theorem zgX {d : DCell} {K' : List Foot → St → Prop} (hk : ∀ l s, K l s → K' l s) (h : za8 C un d log K s) : za8 C un d log K' s := by
 unfold za8 at *
 split at h
 ·exact h.elim
 rename_i hg
 rw [if_neg hg]
 split at h
 ·rename_i hw
  simp only [hw, if_true]
  split at h
  ·obtain ⟨sel, h1, a1, R, h2, h3, h4, h5, h6, h7, h8, h9⟩ := h
   exact ⟨sel, h1, a1, R, h2, h3, h4, h5, h6, h7, h8, fun v h1' a b c => ⟨(h9 v h1' a b c).1, hk _ _ (h9 v h1' a b c).2⟩⟩
  ·split at h
   ·rename_i hsp
    rw [if_pos hsp]
    split at h
    ·exact ⟨h.1, h.2.1, hk _ _ h.2.2⟩
    ·exact h
   ·rename_i hsp
    rw [if_neg hsp]
    exact zcm (fun v h => hk _ _) h
 ·rename_i hw
  rw [if_neg hw]
  exact hk _ _ h
theorem stepD_log {d : DCell} {log' : List Foot} (hK : zhs K) (hl : ∀ x ∈ log', x ∈ log) (h : za8 C un d log K s) : za8 C un d log' K s := by
 unfold za8 at *
 split at h
 ·exact h.elim
 rename_i hg
 rw [if_neg hg]
 split at h
 ·rename_i hw
  simp only [hw, if_true]
  split at h
  ·obtain ⟨sel, h1, a1, R, h2, h3, h4, h5, h6, h7, h8, h9⟩ := h
   refine ⟨sel, h1, a1, R, h2, h3, h4, h5, h6, h7.mono hl, h8, fun v h1' a b c => ⟨(h9 v h1' a b c).1, hK _ _ _ ?_ (h9 v h1' a b c).2⟩⟩
   intro x hx
   rcases List.mem_cons.1 hx with rfl | hx
   ·simp
   ·exact List.mem_cons_of_mem _ (hl x hx)
  ·split at h
   ·rename_i hsp
    rw [if_pos hsp]
    split at h
    ·refine ⟨h.1, h.2.1.mono hl, hK _ _ _ ?_ h.2.2⟩
     intro x hx
     rcases zgG hx with rfl | hx
     ·unfold zgs at hx ⊢
      split
      ·rename_i hn; rw [if_pos hn] at hx; exact hl _ hx
      ·simp
     ·exact zcp (hl x hx)
    ·exact h
   ·rename_i hsp
    rw [if_neg hsp]
    exact zcm (fun v h => hK _ _ _ hl) h
 ·rename_i hw
  rw [if_neg hw]
  exact hK _ _ _ hl h
theorem zfz {d : DCell} {g : String} {args : List Opd} (hw : zb0 d.c s.f = true) (hop : d.c.op = .call g args) :
  za8 C un d log K s ↔ gJ d.c s.f = false ∧ CallD C un d.i g (args.map (evf s.f)) log (fun l v h => K l ⟨zas s.f d.c.dst v, h⟩) s.h := by
 unfold za8
 rw [hop]
 cases hg : gJ d.c s.f with
 | true => simp
 | false => simp only [Bool.false_eq_true, if_false, if_pos hw, true_and]
theorem comm_det {x y : Foot} {s1 s2 : St} (ha : apartS j.c i.c) (hj : zb0 j.c s.f = true → qC j.c.op = 0) (hi : zb0 i.c s.f = true → qC i.c.op = 0)
  (h1 : ziB j s = some (x, s1)) (h2 : ziB i s1 = some (y, s2)) (hxy : Foot.apart x y) : ∃ s3, ziB i s = some (y, s3) ∧ ziB j s3 = some (x, s2) := by
 obtain ⟨_, _, hl1, hoff1, hlt1, v1, hf1⟩ := zdp h1
 obtain ⟨_, _, hl2, hoff2, hlt2, v2, hf2⟩ := zdp h2
 have hw1 : zb0 i.c s1.f = zb0 i.c s.f := by rw [hf1]; exact zcr fun d hd => (ha.1 d hd).1
 have hg1 : gJ i.c s1.f = gJ i.c s.f := by rw [hf1]; exact zfe fun d hd => (ha.1 d hd).1
 have he1 : ∀ o ∈ i.c.op.opds, evf s1.f o = evf s.f o := by rw [hf1]; exact zeq fun d hd => (ha.1 d hd).1
 obtain ⟨v, g, hg, hs2, h3⟩ := zdV (f1 := s.f) (h1 := s.h) h2 hg1.symm hw1.symm (fun o ho => (he1 o ho).symm) (fun hw => hi (hw1 ▸ hw)) (by
  intro k hk
  rw [hoff1]
  intro hx
  have := hxy.1 k hx
  rcases hk with hk | hk
  ·exact this.1 hk
  ·exact this.2 hk)
 refine ⟨_, h3, ?_⟩
 obtain ⟨v', g', hg', hs1, h4⟩ := zdV (f1 := zas s.f i.c.dst v) (h1 := g s.h) h1 (zfe ha.2) (zcr ha.2) (zeq ha.2) hj (by
  intro k hk
  rw [(hg s.h).1]
  intro hy
  rcases hk with hk | hk
  ·exact hxy.2.1 k hy hk
  ·exact (hxy.1 k hk).2 hy)
 rw [h4]
 congr 2
 rw [hs2]
 congr 1
 ·rw [hs1]
  simp only
  exact ze9 fun d hd e => (ha.1 d e).2 hd
 ·refine List.ext_getElem? fun k => ?_
  by_cases hx : k ∈ x.wr
  ·have hy := (hxy.1 k hx).2
   have hkl := hlt1 k hx
   rw [(hg' (g s.h)).2.1 k hx (by rw [(hg s.h).2.2]; exact hkl), (hg s1.h).1 k hy]
  ·rw [(hg' (g s.h)).1 k hx]
   by_cases hy : k ∈ y.wr
   ·have hkl := hlt2 k hy
    rw [(hg s.h).2.1 k hy (by rw [← hl1]; exact hkl), hs2]
   ·rw [(hg s.h).1 k hy, (hg s1.h).1 k hy, hoff1 k hx]
theorem swap_dd (ha : apartS j.c i.c) (hj : zb0 j.c s.f = true → qC j.c.op = 0) (hi : zb0 i.c s.f = true → qC i.c.op = 0) (hu : un j.i i.i = true) (hK : zhs K)
  (h : za8 C un j log (fun l s => za8 C un i l K s) s) : za8 C un i log (fun l s => za8 C un j l K s) s := by
 rw [zaZ hj] at h
 obtain ⟨x, s1, h1, hx, h⟩ := h
 obtain ⟨ex, _, _, _, _, v1, hf1⟩ := zdp h1
 have hw1 : zb0 i.c s1.f = zb0 i.c s.f := by rw [hf1]; exact zcr fun d hd => (ha.1 d hd).1
 have hg1 : gJ i.c s1.f = gJ i.c s.f := by rw [hf1]; exact zfe fun d hd => (ha.1 d hd).1
 rw [zaZ (fun hw => hi (hw1 ▸ hw))] at h
 obtain ⟨y, s2, h2, hy, hk⟩ := h
 obtain ⟨ey, _⟩ := zdp h2
 have hxy := hy.apart (by rw [ex, ey]; exact hu)
 obtain ⟨s3, h3, h4⟩ := comm_det ha hj hi h1 h2 hxy
 obtain ⟨_, _, _, _, _, v3, hf3⟩ := zdp h3
 have hw3 : zb0 j.c s3.f = zb0 j.c s.f := by rw [hf3]; exact zcr ha.2
 rw [zaZ hi]
 refine ⟨y, s3, h3, hy.mono fun z hz => zcp hz, ?_⟩
 rw [zaZ (fun hw => hj (hw3 ▸ hw))]
 exact ⟨x, s2, h4, hx.add hxy.symm, hK _ _ _ (fun z hz => addF_swap hz) hk⟩
theorem mem_wrsel : ∀ {sel : List Nat} {h1 : List Blk} {n k : Nat} {b : Blk}, sel[n]? = some k → h1[n]? = some b → b.rw = true → k ∈ zcL sel h1
 | [], _, n, _, _, h, _, _ => by simp at h
 | _ :: _, [], n, _, _, _, h, _ => by simp at h
 | a :: sel, c :: h1, 0, k, b, e1, e2, e3 => by
  simp at e1 e2; subst e1; subst e2; simp [zcL, e3]
 | a :: sel, c :: h1, n + 1, k, b, e1, e2, e3 => by
  have := mem_wrsel (sel := sel) (h1 := h1) (n := n) (by simpa using e1) (by simpa using e2) e3
  simp only [zcL]; split
  ·exact List.mem_cons_of_mem _ this
  ·exact this
theorem zgi {h : List Blk} {sel : List Nat} {h1 : List Blk} {ρ : Nat → Nat} {k : Nat} (hk : k < h.length) : (zdK h sel h1 ρ)[k]? = (match zeB k sel h1 with | some b' => some (zaR ρ b') | none => h[k]?) := by
 rw [zbV hk]
 cases zeB k sel h1 <;> simp [hk]
theorem back_off {h : List Blk} {sel : List Nat} {h1 h1' : List Blk} {ρ : Nat → Nat} {k : Nat} (hk : k < h.length) (hl : h1.length = sel.length) (hfl : zcI h1 h1') (hw : k ∉ zcL sel h1) : (zdK h sel h1' ρ)[k]? = h[k]? := by
 rw [zgi hk]
 split
 ·rename_i b' hov
  obtain ⟨n, e1, e2, e3⟩ := zdn hov
  have hn := zJ e1
  have e4 : h1[n]? = some (h1[n]'(by omega)) := by simp [show n < h1.length by omega]
  have := hfl n _ b' e4 e2
  exact absurd (mem_wrsel e1 e4 (by rw [← this]; exact e3)) hw
 ·rfl
theorem back_g {h : List Blk} {sel : List Nat} {h1 : List Blk} {ρ : Nat → Nat} {g : List Blk → List Blk} {wr : List Nat} {c : Nat → Option Blk} (hg : ∀ l : List Blk, (∀ k, k ∉ wr → (g l)[k]? = l[k]?) ∧ (∀ k ∈ wr, k < l.length → (g l)[k]? = c k) ∧ (g l).length = l.length)
  (hwr : ∀ k ∈ wr, k < h.length ∧ k ∉ sel) : zdK (g h) sel h1 ρ = g (zdK h sel h1 ρ) := by
 refine List.ext_getElem? fun k => ?_
 have hbl : h.length ≤ (zdK h sel h1 ρ).length := by unfold zdK; simp
 by_cases hk : k ∈ wr
 ·obtain ⟨h2, h3⟩ := hwr k hk
  rw [(hg _).2.1 k hk (by omega), zgi (by rw [(hg h).2.2]; exact h2)]
  have : zeB k sel h1 = none := by
   cases ho : zeB k sel h1 with
   | none => rfl
   | some b => obtain ⟨n, e1, _⟩ := zdn ho; exact absurd (List.mem_of_getElem? e1) h3
  rw [this, (hg h).2.1 k hk h2]
 ·rw [(hg _).1 k hk]
  rcases Nat.lt_or_ge k h.length with hkl | hkl
  ·rw [zgi (by rw [(hg h).2.2]; exact hkl), zgi hkl, (hg h).1 k hk]
  ·rw [zbv (by rw [(hg h).2.2]; exact hkl), zbv hkl, (hg h).2.2]
theorem swap_dc {g : String} {args : List Opd} (ha : apartS j.c i.c) (hj : qC j.c.op = 0) (hw : zb0 i.c s.f = true) (hop : i.c.op = .call g args) (hu : un j.i i.i = true) (hK : zhs K)
  (h : za8 C un j log (fun l s => za8 C un i l K s) s) : za8 C un i log (fun l s => za8 C un j l K s) s := by
 rw [zaZ (fun _ => hj)] at h
 obtain ⟨x, s1, h1, hx, h⟩ := h
 obtain ⟨ex, _, hl1, hoff1, hlt1, v1, hf1⟩ := zdp h1
 have hw1 : zb0 i.c s1.f = zb0 i.c s.f := by rw [hf1]; exact zcr fun d hd => (ha.1 d hd).1
 have hg1 : gJ i.c s1.f = gJ i.c s.f := by rw [hf1]; exact zfe fun d hd => (ha.1 d hd).1
 have he1 : ∀ o ∈ i.c.op.opds, evf s1.f o = evf s.f o := by rw [hf1]; exact zeq fun d hd => (ha.1 d hd).1
 have hargs : args.map (evf s1.f) = args.map (evf s.f) := List.map_congr_left fun o ho => he1 o (by rw [hop]; exact ho)
 rw [zfz (hw1.trans hw) hop] at h
 obtain ⟨hgi, sel, b1, a1, R, h2, h3, h4, h5, h6, h7, h8, h9⟩ := h
 rw [hl1] at h4 h5 h7 h9
 rw [hargs] at h4
 have hxy := h7.apart (by rw [ex]; exact hu)
 obtain ⟨p1, p2, p3, p4⟩ := hxy
 simp only [below] at p4
 rw [zfz hw hop]
 refine ⟨hg1 ▸ hgi, sel, b1, a1, R, h2, h3, h4, ?_, h6, h7.mono fun z hz => zcp hz, h8, ?_⟩
 ·intro n k b e1 e2
  rw [← hoff1 k (fun hk => (p1 k hk).1 (List.mem_of_getElem? e1))]
  exact h5 n k b e1 e2
 ·intro v b1' hR hl hfl
  obtain ⟨hgn, hk⟩ := h9 v b1' hR hl hfl
  refine ⟨hgn, ?_⟩
  obtain ⟨v', g', hg', hs1, h10⟩ := zdV (f1 := zas s.f i.c.dst (zbw (rho sel s.h.length) v)) (h1 := zdK s.h sel b1' (rho sel s.h.length)) h1 (zfe ha.2) (zcr ha.2) (zeq ha.2) (fun _ => hj) (by
   intro k hk
   refine back_off (p4 k ?_) h3 hfl ?_
   ·rcases hk with hk | hk <;> simp [hk]
   ·intro hkw
    rcases hk with hk | hk
    ·exact p2 k hkw hk
    ·exact (p1 k hk).2 hkw)
  rw [zaZ (fun _ => hj)]
  refine ⟨x, _, h10, fits.add_cons hx (Foot.apart.symm ⟨p1, p2, p3, p4⟩), ?_⟩
  have e : (⟨zas s1.f i.c.dst (zbw (rho sel s.h.length) v), zdK s1.h sel b1' (rho sel s.h.length)⟩ : St) =
    ⟨zas (zas s.f i.c.dst (zbw (rho sel s.h.length) v)) j.c.dst v', g' (zdK s.h sel b1' (rho sel s.h.length))⟩ := by
   rw [hs1]
   congr 1
   ·exact ze9 fun d hd => (ha.1 d hd).2
   ·exact back_g hg' fun k hk => ⟨hlt1 k hk, fun hs => (p1 k hk).1 hs⟩
  rw [e] at hk
  exact hK _ _ _ (fun z hz => addF_cons hz) hk
theorem swap_cd {g : String} {args : List Opd} (hne : i.i ≠ j.i) (ha : apartS j.c i.c) (hi : qC i.c.op = 0) (hw : zb0 j.c s.f = true) (hop : j.c.op = .call g args) (hu : un j.i i.i = true) (hK : zhs K)
  (h : za8 C un j log (fun l s => za8 C un i l K s) s) : za8 C un i log (fun l s => za8 C un j l K s) s := by
 rw [zfz hw hop] at h
 obtain ⟨hgj, sel, b1, a1, R, h2, h3, h4, h5, h6, h7, hex, h9⟩ := h
 obtain ⟨v0, b0, hR0, hl0, hf0⟩ := hex ⟨i.i, hne, hu⟩
 have key : ∀ v b1', R v b1' → sel.length ≤ b1'.length → zcI b1 b1' → ∃ y s2, ziB i ⟨zas s.f j.c.dst (zbw (rho sel s.h.length) v), zdK s.h sel b1' (rho sel s.h.length)⟩ = some (y, s2) ∧
   fits un y log ∧ Foot.apart ⟨j.i, sel, zcL sel b1, some s.h.length⟩ y ∧ (∀ k, k ∈ y.rd ∨ k ∈ y.wr → (zdK s.h sel b1' (rho sel s.h.length))[k]? = s.h[k]?) ∧ K (zgs y (⟨j.i, sel, zcL sel b1, some s.h.length⟩ :: log)) s2 := by
  intro v b1' hR hl hfl
  have hk := (h9 v b1' hR hl hfl).2
  dsimp only at hk
  rw [zaZ (fun _ => hi)] at hk
  obtain ⟨y, s2, e1, e2, e3⟩ := hk
  obtain ⟨ey, _⟩ := zdp e1
  have hap : Foot.apart ⟨j.i, sel, zcL sel b1, some s.h.length⟩ y := by
   rcases e2 ⟨j.i, sel, zcL sel b1, some s.h.length⟩ (by simp) with h | h
   ·exact h
   ·dsimp only at h; rw [ey, hu] at h; cases h
  refine ⟨y, s2, e1, e2.mono (fun z hz => List.mem_cons_of_mem _ hz), hap, ?_, e3⟩
  intro k hk
  obtain ⟨p1, p2, p3, p4⟩ := hap
  simp only [below] at p3
  refine back_off (p3 k ?_) h3 hfl ?_
  ·rcases hk with hk | hk <;> simp [hk]
  ·intro hkw
   rcases hk with hk | hk
   ·exact (p1 k hkw).1 hk
   ·exact (p1 k hkw).2 hk
 obtain ⟨y, s20, q1, q2, q3, q4, _⟩ := key v0 b0 hR0 hl0 hf0
 have hgi : ∀ v, gJ i.c (zas s.f j.c.dst v) = gJ i.c s.f := fun v => zfe fun d hd => (ha.1 d hd).1
 have hwi : ∀ v, zb0 i.c (zas s.f j.c.dst v) = zb0 i.c s.f := fun v => zcr fun d hd => (ha.1 d hd).1
 have hei : ∀ v, ∀ o ∈ i.c.op.opds, evf (zas s.f j.c.dst v) o = evf s.f o := fun v => zeq fun d hd => (ha.1 d hd).1
 obtain ⟨v1, g1, _, _, q5⟩ := zdV (f1 := s.f) (h1 := s.h) q1 (hgi _).symm (hwi _).symm (fun o ho => (hei _ o ho).symm) (fun _ => hi) (fun k hk => (q4 k hk).symm)
 obtain ⟨ey, _, hl3, hoff3, hlt3, v3, hf3⟩ := zdp q5
 rw [zaZ (fun _ => hi)]
 refine ⟨y, _, q5, q2, ?_⟩
 have hw3 : zb0 j.c (zas s.f i.c.dst v1) = zb0 j.c s.f := zcr ha.2
 have he3 : ∀ o ∈ j.c.op.opds, evf (zas s.f i.c.dst v1) o = evf s.f o := zeq ha.2
 have hargs : args.map (evf (zas s.f i.c.dst v1)) = args.map (evf s.f) := List.map_congr_left fun o ho => he3 o (by rw [hop]; exact ho)
 rw [zfz (hw3.trans hw) hop]
 dsimp only at hl3 hoff3
 simp only [hargs]
 unfold CallD
 rw [hl3]
 obtain ⟨p1, p2, p3, p4⟩ := q3
 refine ⟨(zfe ha.2).trans hgj, sel, b1, a1, R, h2, h3, h4, ?_, h6, h7.add (Foot.apart.symm ⟨p1, p2, p3, p4⟩), fun _ => ⟨v0, b0, hR0, hl0, hf0⟩, ?_⟩
 ·intro n k b e1 e2
  rw [hoff3 k (fun hk => p2 k hk (List.mem_of_getElem? e1))]
  exact h5 n k b e1 e2
 ·intro v b1' hR hl hfl
  obtain ⟨y', s2, r1, _, _, r4, r5⟩ := key v b1' hR hl hfl
  have hh : ∀ k, k ∈ y.rd ∨ k ∈ y.wr → (zdK s.h sel b1' (rho sel s.h.length))[k]? = s.h[k]? := by
   intro k hk
   simp only [below] at p3
   refine back_off (p3 k ?_) h3 hfl ?_
   ·rcases hk with hk | hk <;> simp [hk]
   ·intro hkw
    rcases hk with hk | hk
    ·exact (p1 k hkw).1 hk
    ·exact (p1 k hkw).2 hk
  obtain ⟨v4, g4, hg4, hs4, q6⟩ := zdV (f1 := zas s.f j.c.dst (zbw (rho sel s.h.length) v)) (h1 := zdK s.h sel b1' (rho sel s.h.length)) q5 (hgi _) (hwi _) (hei _) (fun _ => hi) hh
  rw [q6] at r1
  cases r1
  have e : (⟨zas (zas s.f i.c.dst v1) j.c.dst (zbw (rho sel s.h.length) v), zdK (g1 s.h) sel b1' (rho sel s.h.length)⟩ : St) =
    ⟨zas (zas s.f j.c.dst (zbw (rho sel s.h.length) v)) i.c.dst v4, g4 (zdK s.h sel b1' (rho sel s.h.length))⟩ := by
   have e1 : zas s.f i.c.dst v1 = zas s.f i.c.dst v4 := congrArg St.f hs4
   have e2 : g1 s.h = g4 s.h := congrArg St.h hs4
   rw [e1, e2]
   congr 1
   ·exact ze9 fun d hd e => (ha.1 d e).2 hd
   ·exact back_g hg4 fun k hk => ⟨hlt3 k hk, fun hs => p2 k hk hs⟩
  refine ⟨(h9 v b1' hR hl hfl).1, ?_⟩
  dsimp only
  rw [e]
  exact hK _ _ _ (fun z hz => cons_addF hz) r5
theorem zje {d : DCell} {s s1 : St} {x : Foot} (hq : d.c.op.quiet = true) (h : ziB d s = some (x, s1)) : x.rd = [] ∧ x.wr = [] ∧ x.top = none := by
 simp only [IOp.quiet, Bool.and_eq_true, Bool.not_eq_true', List.isEmpty_iff] at hq
 obtain ⟨⟨_, hm⟩, hr⟩ := hq
 have hrd : rdE d.c.op (evf s.f) = [] := by unfold rdE; rw [hr]; rfl
 unfold ziB at h
 split at h
 ·cases h
 split at h
 ·split at h
  ·cases h; exact ⟨hrd, rfl, rfl⟩
  ·rename_i v k b hs
   have := zei hs
   rw [hrd] at this; cases this
  ·rename_i v b hs
   have h0 : zQ d.c.op (evf s.f) (hf s.h) d.nid = some (v, .push b) → False := fun hs => by
    rcases zgv hs with ⟨h1, _⟩ | ⟨_, h1 | ⟨_, _, _, h1⟩⟩
    ·rw [hm] at h1; cases h1
    ·cases h1
    ·cases h1
   exact (h0 hs).elim
  ·cases h
 ·cases h; exact ⟨rfl, rfl, rfl⟩
theorem zgD {d : DCell} {s s1 : St} {x : Foot} (hq : d.c.op.quiet = true) (h : ziB d s = some (x, s1)) {f1 : Nat → Value} {h1 : List Blk} (hg : gJ d.c f1 = gJ d.c s.f) (hw : zb0 d.c f1 = zb0 d.c s.f) (he : ∀ y ∈ d.c.op.opds, evf f1 y = evf s.f y) :
  ∃ v, s1 = ⟨zas s.f d.c.dst v, s.h⟩ ∧ ziB d ⟨f1, h1⟩ = some (x, ⟨zas f1 d.c.dst v, h1⟩) := by
 obtain ⟨e1, e2, _⟩ := zje hq h
 have hsp : qC d.c.op = 0 := by simp only [IOp.quiet, Bool.and_eq_true, Nat.beq_eq] at hq; exact hq.1.1
 obtain ⟨v, g, hg', h2, h3⟩ := zdV (f1 := f1) (h1 := h1) h hg hw he (fun _ => hsp) (by rw [e1, e2]; rintro k (hk | hk) <;> cases hk)
 have hid : ∀ l : List Blk, g l = l := fun l => List.ext_getElem? fun k => (hg' l).1 k (by rw [e2]; simp)
 rw [hid] at h2 h3
 exact ⟨v, h2, h3⟩
theorem zjd {d : DCell} {s s1 : St} {x : Foot} (hq : d.c.op.quiet = true) (h : ziB d s = some (x, s1)) : x.none? = true := by
 obtain ⟨e1, e2, e3⟩ := zje hq h
 unfold Foot.none?; rw [e1, e2, e3]
theorem none_fits {x : Foot} {log : List Foot} (h : x.none? = true) : fits un x log := fun _ _ => .inl (Foot.apart.symm (zfI h))
theorem zgw {d : DCell} (hw : zb0 d.c s.f = true) (hop : qC d.c.op = 2) : za8 C un d log K s ↔ gJ d.c s.f = false ∧ zfQ C d.c.op s.f s.h (fun v h => K log ⟨zas s.f d.c.dst v, h⟩) := by
 unfold za8
 cases hg : gJ d.c s.f with
 | true => simp
 | false =>
  simp only [Bool.false_eq_true, if_false, if_pos hw, true_and]
  split
  ·rename_i h; rw [h] at hop; cases hop
  ·rw [if_neg (by omega)]
theorem zhZ {op : IOp} {f f' : Nat → Value} {h : List Blk} {K : Value → List Blk → Prop} (hop : qC op = 2) (he : ∀ x ∈ op.opds, evf f x = evf f' x) (hk : zfQ C op f h K) : zfQ C op f' h K := by
 cases op <;> simp only [qC] at hop <;> try cases hop
 case app z n b x y =>
  have h1 := he x (by simp [IOp.opds])
  have h2 := he y (by simp [IOp.opds])
  simp only [zfQ] at hk ⊢
  rw [← h1, ← h2]; exact hk
theorem wpOp_app_some {op : IOp} {f : Nat → Value} {h : List Blk} {K : Value → List Blk → Prop} (hop : qC op = 2) (hk : zfQ C op f h K) : ∃ v h', K v h' := by
 cases op <;> simp only [qC] at hop <;> try cases hop
 case app z n b x y =>
  simp only [zfQ, appK] at hk
  split at hk <;> try exact hk.elim
  split at hk <;> try exact hk.elim
  split at hk
  ·split at hk
   ·split at hk
    ·exact ⟨_, _, hk⟩
    ·split at hk
     ·split at hk
      ·exact ⟨_, _, hk⟩
      ·exact hk.elim
     ·exact hk.elim
   ·split at hk
    ·exact ⟨_, _, hk⟩
    ·exact hk.elim
   ·exact hk.elim
  ·exact ⟨_, _, hk.2 _ (Nat.le_refl _)⟩
theorem swap_qa (ha : apartS j.c i.c) (hj : j.c.op.quiet = true) (hw : zb0 i.c s.f = true) (hop : qC i.c.op = 2)
  (h : za8 C un j log (fun l s => za8 C un i l K s) s) : za8 C un i log (fun l s => za8 C un j l K s) s := by
 have hj0 : qC j.c.op = 0 := by simp only [IOp.quiet, Bool.and_eq_true, Nat.beq_eq] at hj; exact hj.1.1
 rw [zaZ (fun _ => hj0)] at h
 obtain ⟨x, s1, h1, hx, h⟩ := h
 have hn := zjd hj h1
 rw [zeG hn] at h
 obtain ⟨v1, hs1, _⟩ := zgD (f1 := s.f) (h1 := s.h) hj h1 rfl rfl (fun _ _ => rfl)
 subst hs1
 have hw1 : zb0 i.c (zas s.f j.c.dst v1) = zb0 i.c s.f := zcr fun d hd => (ha.1 d hd).1
 have hg1 : gJ i.c (zas s.f j.c.dst v1) = gJ i.c s.f := zfe fun d hd => (ha.1 d hd).1
 have he1 : ∀ o ∈ i.c.op.opds, evf (zas s.f j.c.dst v1) o = evf s.f o := zeq fun d hd => (ha.1 d hd).1
 rw [zgw (hw1.trans hw) hop] at h
 obtain ⟨hg, hk⟩ := h
 rw [zgw hw hop]
 refine ⟨hg1 ▸ hg, zhZ hop he1 (zcm (fun v h' hk' => ?_) hk)⟩
 rw [zaZ (fun _ => hj0)]
 obtain ⟨v2, e1, e2⟩ := zgD (f1 := zas s.f i.c.dst v) (h1 := h') hj h1 (zfe ha.2) (zcr ha.2) (zeq ha.2)
 refine ⟨x, _, e2, none_fits hn, ?_⟩
 rw [zeG hn]
 have e3 : zas s.f j.c.dst v1 = zas s.f j.c.dst v2 := congrArg St.f e1
 simp only [e3] at hk'
 rw [ze9 fun d hd => (ha.1 d hd).2] at hk'
 exact hk'
theorem swap_aq (ha : apartS j.c i.c) (hi : i.c.op.quiet = true) (hw : zb0 j.c s.f = true) (hop : qC j.c.op = 2)
  (h : za8 C un j log (fun l s => za8 C un i l K s) s) : za8 C un i log (fun l s => za8 C un j l K s) s := by
 have hi0 : qC i.c.op = 0 := by simp only [IOp.quiet, Bool.and_eq_true, Nat.beq_eq] at hi; exact hi.1.1
 rw [zgw hw hop] at h
 obtain ⟨hgj, hk⟩ := h
 have hgi : ∀ v, gJ i.c s.f = gJ i.c (zas s.f j.c.dst v) := fun v => (zfe fun d hd => (ha.1 d hd).1).symm
 have hwi : ∀ v, zb0 i.c s.f = zb0 i.c (zas s.f j.c.dst v) := fun v => (zcr fun d hd => (ha.1 d hd).1).symm
 have hei : ∀ v, ∀ o ∈ i.c.op.opds, evf s.f o = evf (zas s.f j.c.dst v) o := fun v o ho => (zeq (fun d hd => (ha.1 d hd).1) o ho).symm
 obtain ⟨v0, h0, q0⟩ := wpOp_app_some hop hk
 rw [zaZ (fun _ => hi0)] at q0
 obtain ⟨y, s2, q1, q2, _⟩ := q0
 obtain ⟨v1, _, q5⟩ := zgD (f1 := s.f) (h1 := s.h) hi q1 (hgi _) (hwi _) (hei _)
 have hn := zjd hi q1
 rw [zaZ (fun _ => hi0)]
 refine ⟨y, _, q5, none_fits hn, ?_⟩
 rw [zeG hn]
 have hw3 : zb0 j.c (zas s.f i.c.dst v1) = zb0 j.c s.f := zcr ha.2
 rw [zgw (hw3.trans hw) hop]
 refine ⟨(zfe ha.2).trans hgj, zhZ hop (fun o ho => (zeq ha.2 o ho).symm) (zcm (fun v h' hk' => ?_) hk)⟩
 rw [zaZ (fun _ => hi0)] at hk'
 obtain ⟨y', s3, r1, _, r3⟩ := hk'
 obtain ⟨v4, e4, q6⟩ := zgD (f1 := zas s.f j.c.dst v) (h1 := h') hi q5 (hgi _).symm (hwi _).symm (fun o ho => (hei _ o ho).symm)
 rw [q6] at r1
 cases r1
 rw [zeG hn] at r3
 have e5 : zas s.f i.c.dst v1 = zas s.f i.c.dst v4 := congrArg St.f e4
 simp only [e5]
 rw [← ze9 fun d hd => (ha.1 d hd).2]
 exact r3
def swapOK (x y : ICell) : Prop := (qC x.op ≤ 1 ∧ qC y.op ≤ 1 ∧ ¬(qC x.op = 1 ∧ qC y.op = 1)) ∨ (qC x.op = 2 ∧ y.op.quiet = true) ∨ (x.op.quiet = true ∧ qC y.op = 2)
theorem swap (hne : i.i ≠ j.i) (ha : apartS j.c i.c) (hsw : swapOK j.c i.c) (hu : un j.i i.i = true) (hK : zhs K)
  (h : za8 C un j log (fun l s => za8 C un i l K s) s) : za8 C un i log (fun l s => za8 C un j l K s) s := by
 have call_of : ∀ {op : IOp}, qC op = 1 → ∃ g args, op = .call g args := by
  intro op h
  cases op <;> simp only [qC] at h <;> try cases h
  exact ⟨_, _, rfl⟩
 rcases hsw with ⟨hj1, hi1, hb⟩ | ⟨hj2, hi2⟩ | ⟨hj2, hi2⟩
 rotate_left
 ·cases hw : zb0 j.c s.f with
  | true => exact swap_aq ha hi2 hw hj2 h
  | false =>
   have hi0 : qC i.c.op = 0 := by simp only [IOp.quiet, Bool.and_eq_true, Nat.beq_eq] at hi2; exact hi2.1.1
   exact swap_dd ha (fun e => by rw [hw] at e; cases e) (fun _ => hi0) hu hK h
 ·cases hw : zb0 i.c s.f with
  | true => exact swap_qa ha hj2 hw hi2 h
  | false =>
   have hj0 : qC j.c.op = 0 := by simp only [IOp.quiet, Bool.and_eq_true, Nat.beq_eq] at hj2; exact hj2.1.1
   exact swap_dd ha (fun _ => hj0) (fun e => by rw [hw] at e; cases e) hu hK h
 by_cases hjw : zb0 j.c s.f = true ∧ qC j.c.op = 1
 ·obtain ⟨g, args, hop⟩ := call_of hjw.2
  exact swap_cd hne ha (by have := hjw.2; omega) hjw.1 hop hu hK h
 ·have hj : zb0 j.c s.f = true → qC j.c.op = 0 := fun hw => by
   have : qC j.c.op ≠ 1 := fun e => hjw ⟨hw, e⟩
   omega
  by_cases hiw : zb0 i.c s.f = true ∧ qC i.c.op = 1
  ·obtain ⟨g, args, hop⟩ := call_of hiw.2
   exact swap_dc ha (by have := hiw.2; omega) hiw.1 hop hu hK h
  ·exact swap_dd ha hj (fun hw => by
    have : qC i.c.op ≠ 1 := fun e => hiw ⟨hw, e⟩
    omega) hu hK h
theorem wpD_log {K : St → Prop} : ∀ (l : List DCell), zhs fun log s => wpD C un l log K s
 | [] => fun _ _ _ _ h => h
 | d :: r => fun l l' s hl h => stepD_log (wpD_log r) hl h
theorem wpD_take {K : St → Prop} {l2 : List DCell} : ∀ (l1 : List DCell) (log : List Foot) (s : St), (∀ j ∈ l1, apartS j.c i.c ∧ swapOK j.c i.c ∧ un j.i i.i = true ∧ i.i ≠ j.i) →
  wpD C un (l1 ++ i :: l2) log K s → za8 C un i log (fun log' s' => wpD C un (l1 ++ l2) log' K s') s
 | [], _, _, _, h => h
 | j :: l1, log, s, hl, h => by
  obtain ⟨h1, h2, h3, h4⟩ := hl j (by simp)
  refine swap h4 h1 h2 h3 (wpD_log (l1 ++ l2)) (zgX (fun log' s' h' => ?_) h)
  exact wpD_take l1 log' s' (fun x hx => hl x (by simp [hx])) h'
end
end Go.Rh

namespace Go.Rh
section
variable {P : Program} {ops : Array Oper} {a : Act} {w : World} {n : Nat} {φ0 : Phi} {h0 : List Blk} {w0 : World} {φ : Phi} {s : St} {C : qW}
theorem Inv.skip (I : Inv n φ0 h0 w0 φ s a w) (H0 : HR φ0 (hf h0) w0) {d : Option Nat} (hd : ∀ t, d = some t → t < n) : Inv n φ0 h0 w0 φ ⟨zas s.f d undef, s.h⟩ (a.put d undef) w :=
 I.step H0 hd (VR.of_vpf (by rfl)) I.heap (FrC.refl _ _ _)
theorem wp1_sound (hC : ziM P C) (H0 : HR φ0 (hf h0) w0) {i : Nat} {o : Oper} (hoi : ops[i]? = some o) (hd : zeV n (za6 P ops o) = true) {K : St → Prop}
  (hK : Sim n φ0 h0 w0 (wp1 C (za6 P ops o) K) a w) : OpTo P ops i (Sim n φ0 h0 w0 K) a w := by
 obtain ⟨φ, s, hK, I⟩ := hK
 have hd' : (za6 P ops o).op ≠ .bad "guard" → ∀ t, o.dst = some t → t < n := by
  intro _ t ht
  unfold za6 zeV at hd
  rcases hg : o.guard with _ | ⟨j, b⟩
  ·simp only [hg, ht] at hd; simpa using hd
  ·simp only [hg] at hd
   cases hj : (ops[j]?).bind (·.dst) with
   | none => simp only [hj, ht] at hd; simpa using hd
   | some d => simp only [hj, ht] at hd; simpa using hd
 rcases hg : o.guard with _ | ⟨j, b⟩
 ·have hw : Region.wanted o (yielded ops a.tmps) = true := by simp [Region.wanted, hg]
  have e : za6 P ops o = ⟨o.dst, cOp P o, none⟩ := by unfold za6; rw [hg]
  rw [e] at hK hd
  have hd2 : ∀ t, o.dst = some t → t < n := by
   intro t ht; simp only [zeV, ht] at hd; simpa using hd
  simp only [wp1] at hK
  exact zfw hC H0 hoi hw hd2 I hK
 ·cases hj : (ops[j]?).bind (·.dst) with
  | none =>
   have e : za6 P ops o = ⟨o.dst, .bad "guard", none⟩ := by unfold za6; rw [hg]; simp only [hj]
   rw [e] at hK
   simp [wp1, zfQ, zQ] at hK
  | some d =>
   have e : za6 P ops o = ⟨o.dst, cOp P o, some (d, b)⟩ := by unfold za6; rw [hg]; simp only [hj]
   rw [e] at hK hd
   have hd2 : ∀ t, o.dst = some t → t < n := by
    intro t ht; simp only [zeV, ht] at hd; simpa using hd
   simp only [wp1] at hK
   split at hK
   ·rename_i x hx
    have hy := zf1 I hj (by rw [hx]; intro _ _ _ h; cases h)
    rw [hx] at hy
    simp only at hy
    split at hK
    ·rename_i hxb
     refine zfw hC H0 hoi ?_ hd2 I hK
     simp [Region.wanted, hg, hy, hxb]
    ·rename_i hxb
     refine OpTo.skip hoi ?_ ⟨φ, _, hK, I.skip H0 hd2⟩
     simp [Region.wanted, hg, hy, hxb]
   ·cases hK
   ·rename_i hx hxj
    have hy := zf1 I hj hxj
    have hy' : yielded ops a.tmps j = none := by
     rw [hy]; split
     ·rename_i y hy2; exact absurd hy2 (hx y)
     ·rfl
    refine OpTo.skip hoi ?_ ⟨φ, _, hK, I.skip H0 hd2⟩
    simp [Region.wanted, hg, hy']
theorem RunsFrom.mono {l : List Nat} {Q Q' : Exit → Act → World → Prop} (h : RunsFrom P ops l Q a w) (hq : ∀ e a w, Q e a w → Q' e a w) : RunsFrom P ops l Q' a w :=
 fun b k cs => let ⟨e, a', w', q, r⟩ := h b k cs; ⟨e, a', w', hq _ _ _ q, r⟩
def QX (n : Nat) (φ0 : Phi) (h0 : List Blk) (w0 : World) (Q : IExit → St → Prop) : Exit → Act → World → Prop
 | .normal, a, w => Sim n φ0 h0 w0 (Q .normal) a w
 | .exit id, a, w => Sim n φ0 h0 w0 (Q (.exit id)) a w
 | .ret, a, w => Sim n φ0 h0 w0 (Q .ret) a w
 | .goto l, a, w => Sim n φ0 h0 w0 (Q (.goto l)) a w
 | _, _, _ => False
theorem zhY (hC : ziM P C) (H0 : HR φ0 (hf h0) w0) {Q : IExit → St → Prop} : ∀ (l : List Oper) (k : Nat), (∀ j, l[j]? = ops[k + j]?) → (l.map (za6 P ops)).all (zeV n) = true → ∀ a w,
  Sim n φ0 h0 w0 (zbg C (l.map (za6 P ops)) (Q .normal)) a w → RunsFrom P ops (List.range' k l.length) (QX n φ0 h0 w0 Q) a w
 | [], k, _, _, a, w, h => by
  simp only [List.length_nil, List.range'_zero]
  exact RunsFrom.nil h
 | o :: l, k, hl, hwf, a, w, h => by
  simp only [List.length_cons, List.range'_succ]
  simp only [List.map_cons, List.all_cons, Bool.and_eq_true] at hwf
  refine RunsFrom.cons (wp1_sound hC H0 (by have := hl 0; simpa using this.symm) hwf.1 (K := zbg C (l.map (za6 P ops)) (Q .normal)) h) ?_
  intro a1 w1 h1
  refine zhY hC H0 l (k + 1) ?_ hwf.2 a1 w1 h1
  intro j
  have := hl (j + 1)
  simp only [List.getElem?_cons_succ] at this
  rw [this]; congr 1; omega
theorem zhD {h : List Blk} {m : Nat} : hf (h ++ List.replicate m .gone) = hf h := by
 funext k
 unfold hf
 rcases Nat.lt_or_ge k h.length with hk | hk
 ·rw [List.getElem?_append_left hk]
 ·rw [List.getElem?_append_right hk, List.getElem?_eq_none hk, List.getElem?_replicate]
  split <;> simp_all
theorem FrC.to_drew {h h' : List Blk} {φ' : Phi} {w' : World} (F : FrC φ h w φ' h' w') : FrC φ h w φ' h' w'.drew :=
 ⟨F.size, F.keep, F.os, F.tape, F.output, F.le, F.new, F.len, F.flags⟩
theorem FrC.gone {h h' : List Blk} {φ' : Phi} {w' : World} {m : Nat} (F : FrC φ h w φ' h' w') : FrC φ h w φ' (h' ++ List.replicate m .gone) w' :=
 ⟨F.size, F.keep, F.os, F.tape, F.output, F.le, F.new, by have := F.len; simp; omega, fun k b b' h1 h2 => by
  have := zJ h1
  have h3 := F.len
  rw [List.getElem?_append_left (by omega)] at h2
  exact F.flags k b b' h1 h2⟩
theorem Does.stepR {o : Oper} {v : Value} {f : Eff} {nid : Nat} (D : Does P o a w φ (hf s.h) nid v f) (hset : ∀ k b, f = .set k b → hf s.h k ≠ none ∧ b ≠ .gone) (hpush : ∀ b, f = .push b → s.h[nid]? = some .gone ∧ b ≠ .gone ∧ b.rw = true) :
  ∃ φ' v' w', Runs P o a w v' w' ∧ VR φ' v v' ∧ HR φ' (hf (f.onR nid s.h)) w' ∧ FrC φ s.h w φ' (f.onR nid s.h) w' := by
 obtain ⟨φ', v', w', hr, hv, hh, F⟩ := D
 cases f with
 | no => exact ⟨φ', v', w', hr, hv, hh, FrC.of_fr F (Nat.le_refl _) (fun k b b' h1 h2 => by rw [show Eff.no.onR nid s.h = s.h from rfl, h1] at h2; cases h2; rfl)⟩
 | set k b =>
  obtain ⟨h1, h2⟩ := hset k b rfl
  simp only [Eff.onF] at hh F
  refine ⟨φ', v', w', hr, hv, by simp only [Eff.onR]; rw [zhC _ _ _ (zhc h1) h2]; exact hh, FrC.of_fr (by simp only [Eff.onR]; rw [zhC _ _ _ (zhc h1) h2]; exact F) (by simp [Eff.onR]) (zgJ (F.set_rw h1))⟩
 | push b =>
  obtain ⟨h1, h2, h3⟩ := hpush b rfl
  simp only [Eff.onF] at hh F
  have hlt := zJ h1
  refine ⟨φ', v', w', hr, hv, by simp only [Eff.onR]; rw [zhC _ _ _ hlt h2]; exact hh, FrC.of_fr (by simp only [Eff.onR]; rw [zhC _ _ _ hlt h2]; exact F) (by simp [Eff.onR]) (zgJ ?_)⟩
  intro b' hb'
  rw [h1] at hb'; cases hb'; exact h3
theorem cell_dst (o : Oper) : (za6 P ops o).dst = o.dst := by
 unfold za6
 split
 ·rfl
 ·split <;> rfl
theorem cell_wf {o : Oper} (hd : zeV n (za6 P ops o) = true) : ∀ t, o.dst = some t → t < n := by
 intro t ht
 unfold zeV at hd
 rw [cell_dst, ht] at hd
 simpa using hd
theorem stepD_sound (hC : ziM P C) (H0 : HR φ0 (hf h0) w0) {i nid : Nat} {o : Oper} (hoi : ops[i]? = some o) (hd : zeV n (za6 P ops o) = true) {un : Nat → Nat → Bool} {log : List Foot} {K : List Foot → St → Prop}
  (I : Inv n φ0 h0 w0 φ s a w) (hK : za8 C un ⟨i, nid, za6 P ops o⟩ log K s) : OpTo P ops i (Sim n φ0 h0 w0 fun s => ∃ log, K log s) a w := by
 have hd2 := cell_wf hd
 have he := I.ev
 -- the operation, wanted
 have run : za6 P ops o = ⟨o.dst, cOp P o, (za6 P ops o).guard⟩ → Region.wanted o (yielded ops a.tmps) = true → zb0 (za6 P ops o) s.f = true → OpTo P ops i (Sim n φ0 h0 w0 fun s => ∃ log, K log s) a w := by
  intro hc hw hwt
  unfold za8 at hK
  split at hK
  ·cases hK
  simp only [hwt, if_true] at hK
  have hop : (za6 P ops o).op = cOp P o := by rw [hc]
  have hdst : (za6 P ops o).dst = o.dst := cell_dst o
  rw [hop, hdst] at hK
  split at hK
  ·rename_i g args hcop
   refine zfw (K := fun s => ∃ log, K log s) hC H0 hoi hw hd2 I ?_
   rw [hcop]
   simp only [zfQ]
   obtain ⟨sel, h1, a1, R, h2, h3, h4, h5, h6, h7, h8, h9⟩ := hK
   exact ⟨sel, h1, a1, R, h2, h3, h4, h5, h6, fun v h1' a b c => ⟨(h9 v h1' a b c).1, _, (h9 v h1' a b c).2⟩⟩
  ·split at hK
   ·split at hK
    ·rename_i v e hs
     obtain ⟨hok, _, hk⟩ := hK
     have hs' : ∃ m, hf s.h m = none ∧ zQ (cOp P o) (evf s.f) (hf s.h) m = some (v, e) ∧ (∀ b, e = .push b → m = nid) := by
      cases hm : (cOp P o).makes with
      | true =>
       obtain ⟨b, rfl⟩ := zh3 hm hs
       exact ⟨nid, zda hok, hs, fun _ _ => rfl⟩
      | false => exact ⟨s.h.length, zfc _, by rw [zh2 hm (n' := nid)]; exact hs, fun b e => by subst e; have := (zfy hs).2.2; rw [hm] at this; cases this⟩
     obtain ⟨m, hm, hsm, hpm⟩ := hs'
     obtain ⟨φ', v', w', hr, k2, k3, k4⟩ := (zi7 (P := P) (o := o) he I.heap hm hsm).stepR (fun k b e => zeZ (e ▸ hs)) (fun b e => by
      subst e
      refine ⟨?_, (zfy hs).1, (zfy hs).2.1⟩
      rw [hpm b rfl]; exact hok)
     have he2 : e.onR m s.h = e.onR nid s.h := by
      cases e with
      | push b => rw [hpm b rfl]
      | _ => rfl
     rw [he2] at k3 k4
     exact OpTo.runs hoi hw hr ⟨φ', _, ⟨_, hk⟩, I.step H0 hd2 k2 k3 k4⟩
    ·cases hK
   ·refine zfw (K := fun s => ∃ log, K log s) hC H0 hoi hw hd2 I ?_
    exact zcm (fun v h hk => ⟨log, hk⟩) hK
 have skip : Region.wanted o (yielded ops a.tmps) = false → zb0 (za6 P ops o) s.f = false → OpTo P ops i (Sim n φ0 h0 w0 fun s => ∃ log, K log s) a w := by
  intro hw hwt
  unfold za8 at hK
  split at hK
  ·cases hK
  simp only [hwt, Bool.false_eq_true, if_false, cell_dst] at hK
  exact OpTo.skip hoi hw ⟨φ, _, ⟨log, hK⟩, I.skip H0 hd2⟩
 rcases hg : o.guard with _ | ⟨j, b⟩
 ·have e : za6 P ops o = ⟨o.dst, cOp P o, none⟩ := by unfold za6; rw [hg]
  exact run (by rw [e]) (by simp [Region.wanted, hg]) (by rw [e]; rfl)
 ·cases hj : (ops[j]?).bind (·.dst) with
  | none =>
   have e : za6 P ops o = ⟨o.dst, .bad "guard", none⟩ := by unfold za6; rw [hg]; simp only [hj]
   rw [e] at hK
   simp [za8, zb0, gJ, qC, zQ] at hK
  | some d =>
   have e : za6 P ops o = ⟨o.dst, cOp P o, some (d, b)⟩ := by unfold za6; rw [hg]; simp only [hj]
   have hnj : ∀ k r i, s.f d ≠ .complex k r i := by
    intro k r i hx
    unfold za8 at hK
    rw [if_pos (by rw [e]; simp [gJ, hx])] at hK
    exact hK
   have hy := zf1 I hj hnj
   have key : Region.wanted o (yielded ops a.tmps) = zb0 (za6 P ops o) s.f := by
    rw [e]
    simp only [Region.wanted, hg, zb0, hy]
    cases s.f d with
    | bool x => cases x <;> cases b <;> rfl
    | _ => rfl
   cases hwt : zb0 (za6 P ops o) s.f with
   | true => exact run (by rw [e]) (key.trans hwt) hwt
   | false => exact skip (key.trans hwt) hwt
theorem Sim.mono {K K' : St → Prop} (h : Sim n φ0 h0 w0 K a w) (hk : ∀ s, K s → K' s) : Sim n φ0 h0 w0 K' a w := let ⟨φ, s, h1, h2⟩ := h; ⟨φ, s, hk _ h1, h2⟩
theorem zgU : ∀ {l : List ICell} {i nid k : Nat} {d : DCell}, (zbA i nid l)[k]? = some d → d.i = i + k ∧ l[k]? = some d.c
 | [], _, _, _, _, h => by simp [zbA] at h
 | c :: l, i, nid, 0, d, h => by simp [zbA] at h; subst h; simp
 | c :: l, i, nid, k + 1, d, h => by
  simp only [zbA, List.getElem?_cons_succ] at h
  obtain ⟨h1, h2⟩ := zgU h
  exact ⟨by omega, by simpa using h2⟩
theorem zfu : ∀ {l : List ICell} {i nid : Nat}, (zbA i nid l).length = l.length
 | [], _, _ => rfl
 | c :: l, i, nid => by simp [zbA, zfu (l := l)]
theorem zhr {l : List Nat} {q : Nat} : l.any (Nat.beq q) = true ↔ q ∈ l := by
 simp only [List.any_eq_true, Nat.beq_eq]
 constructor
 ·rintro ⟨x, h1, rfl⟩; exact h1
 ·intro h; exact ⟨q, h, rfl⟩
theorem pairOK_spec {x y : ICell} (h : pairOK x y = true) : apartS x y ∧ swapOK x y := by
 unfold pairOK at h
 simp only [Bool.and_eq_true] at h
 obtain ⟨⟨h3, h4⟩, h5⟩ := h
 refine ⟨⟨?_, ?_⟩, ?_⟩
 ·intro d hd
  rw [hd] at h4
  simp only [Bool.and_eq_true, Bool.not_eq_true'] at h4
  refine ⟨fun hx => (by rw [zhr.2 hx] at h4; cases h4.1), fun hy => ?_⟩
  rw [hy] at h4
  have := h4.2
  simp at this
 ·intro d hd hx
  rw [hd] at h5
  simp only [Bool.not_eq_true'] at h5
  rw [zhr.2 hx] at h5; cases h5
 ·simp only [Bool.or_eq_true, Bool.and_eq_true, Bool.not_eq_true', Nat.ble_eq, Nat.beq_eq] at h3
  rcases h3 with (⟨⟨h1, h2⟩, h3⟩ | ⟨h1, h2⟩) | ⟨h1, h2⟩
  ·refine .inl ⟨h1, h2, ?_⟩
   rintro ⟨e1, e2⟩
   rw [e1, e2] at h3; simp at h3
  ·exact .inr (.inl ⟨h1, h2⟩)
  ·exact .inr (.inr ⟨h1, h2⟩)
theorem dchk_spec {cells : List ICell} {af anc : List (List Nat)} (h : dchk cells af anc = true) : (af.length = cells.length ∧ anc.length = cells.length) ∧ ∀ i, i < cells.length →
  (∀ p ∈ af.getD i [], p < i) ∧ (∀ q ∈ anc.getD i [], q < i ∧ (q ∈ af.getD i [] ∨ ∃ p ∈ af.getD i [], q ∈ anc.getD p [])) ∧ ∀ j, j < i → j ∈ anc.getD i [] ∨ pairOK (cells.getD j default) (cells.getD i default) = true := by
 unfold dchk at h
 simp only [Bool.and_eq_true, List.all_eq_true, List.mem_range, Bool.or_eq_true, Nat.beq_eq, Nat.blt_eq, zhr] at h
 refine ⟨h.1, fun i hi => ?_⟩
 obtain ⟨⟨h1, h2⟩, h3⟩ := h.2 i hi
 refine ⟨h1, fun q hq => ⟨(h2 q hq).1, ?_⟩, h3⟩
 rcases (h2 q hq).2 with h | h
 ·exact .inl h
 ·rw [List.any_eq_true] at h
  obtain ⟨p, h4, h5⟩ := h
  exact .inr ⟨p, h4, zhr.1 h5⟩
theorem getD_set {l : Array Bool} {i p : Nat} (hi : i < l.size) : (l.setIfInBounds i true).getD p true = if p = i then true else l.getD p true := by
 simp only [Array.getD_eq_getD_getElem?, Array.getElem?_setIfInBounds]
 by_cases h : i = p
 ·subst h; simp [hi]
 ·simp [h, Ne.symm h]
theorem DCell.eta {d : DCell} {i : Nat} {c : ICell} (h1 : d.i = i) (h2 : d.c = c) : d = ⟨i, d.nid, c⟩ := by
 cases d; simp_all
theorem drawn (hC : ziM P C) (H0 : HR φ0 (hf h0) w0) {Q : IExit → St → Prop} {af anc : List (List Nat)} {B : Nat} (hchk : dchk (ops.toList.map (za6 P ops)) af anc = true)
  (haf : af = ops.toList.map fun o => (o.after.toList.filter (Region.binds .any)).map (·.on)) (hwf : (ops.toList.map (za6 P ops)).all (zeV n) = true) :
  ∀ (fuel t : Nat) (listed : Array Bool) (a : Act) (w : World), listed.size = ops.size →
   (∀ i, i < ops.size → listed.getD i true = true → ∀ p ∈ anc.getD i [], listed.getD p true = true) →
   ((zbA 0 B (ops.toList.map (za6 P ops))).filter fun d => !listed.getD d.i true).length ≤ fuel →
   Sim n φ0 h0 w0 (fun s => ∃ log, wpD C (unA anc) ((zbA 0 B (ops.toList.map (za6 P ops))).filter fun d => !listed.getD d.i true) log (Q .normal) s) a w →
   RunsFrom P ops (Region.linearise.go .any ops fuel t listed []) (QX n φ0 h0 w0 Q) a w := by
 obtain ⟨⟨hal, hanl⟩, hspec⟩ := dchk_spec hchk
 have hlen : (ops.toList.map (za6 P ops)).length = ops.size := by simp
 intro fuel
 induction fuel with
 | zero =>
  intro t listed a w hsz hdown hf hS
  have : ((zbA 0 B (ops.toList.map (za6 P ops))).filter fun d => !listed.getD d.i true) = [] := List.eq_nil_of_length_eq_zero (by omega)
  rw [this] at hS
  exact RunsFrom.nil (hS.mono fun s ⟨_, h⟩ => h)
 | succ fuel ih =>
  intro t listed a w hsz hdown hf hS
  simp only [Region.linearise.go]
  change RunsFrom P ops (match (Region.ready .any ops listed)[t % (Region.ready .any ops listed).length]? with
   | some i => Region.linearise.go .any ops fuel (t / (Region.ready .any ops listed).length) (listed.setIfInBounds i true) [i]
   | none => [].reverse) _ a w
  have haf_mem : ∀ {i : Nat} {o : Oper}, ops[i]? = some o → ∀ e ∈ o.after.toList, Region.binds .any e = true → e.on ∈ af.getD i [] := by
   intro i o hoi e he hb
   have : af[i]? = some ((o.after.toList.filter (Region.binds .any)).map (·.on)) := by
    rw [haf]; simp [hoi]
   rw [List.getD_eq_getElem?_getD, this]
   exact List.mem_map.2 ⟨e, List.mem_filter.2 ⟨he, hb⟩, rfl⟩
  have hidx : ∀ d ∈ zbA 0 B (ops.toList.map (za6 P ops)), d.i < ops.size := by
   intro d hd
   obtain ⟨k, hk⟩ := List.mem_iff_getElem?.1 hd
   obtain ⟨h1, h2⟩ := zgU hk
   have := zJ h2
   omega
  cases hi : (Region.ready .any ops listed)[t % (Region.ready .any ops listed).length]? with
  | none =>
   have hnil : Region.ready .any ops listed = [] := by
    cases hr : Region.ready .any ops listed with
    | nil => rfl
    | cons x xs =>
     rw [hr] at hi
     have hlt : t % (x :: xs).length < (x :: xs).length := Nat.mod_lt _ (by simp)
     rw [List.getElem?_eq_getElem hlt] at hi; cases hi
   have hall : ∀ i, i < ops.size → listed.getD i true = true := by
    intro i
    induction i using Nat.strongRecOn with
    | _ i ihi =>
     intro his
     cases hli : listed.getD i true with
     | true => rfl
     | false =>
      have : i ∈ Region.ready .any ops listed := by
       unfold Region.ready
       refine List.mem_filter.2 ⟨List.mem_range.2 his, ?_⟩
       have hoi : ops[i]? = some ops[i] := by simp [his]
       rw [hli, hoi]
       simp only [Bool.not_false, Bool.true_and, Option.map_some, Option.getD_some, Array.all_eq_true']
       intro e he
       cases hb : Region.binds .any e with
       | false => rfl
       | true =>
        have hm := haf_mem hoi e (by simpa using he) hb
        have hlt := (hspec i (by omega)).1 _ hm
        have := ihi _ hlt (by omega)
        have hs2 : e.on < listed.size := by omega
        rw [Array.getD_eq_getD_getElem?] at this ⊢
        simp only [hs2, getElem?_pos, Option.getD_some] at this ⊢
        simp [this]
      rw [hnil] at this; cases this
   have : ((zbA 0 B (ops.toList.map (za6 P ops))).filter fun d => !listed.getD d.i true) = [] := by
    refine List.filter_eq_nil_iff.2 fun d hd => ?_
    rw [hall _ (hidx d hd)]; simp
   rw [this] at hS
   exact RunsFrom.nil (hS.mono fun s ⟨_, h⟩ => h)
  | some i =>
   have hmem := List.mem_of_getElem? hi
   unfold Region.ready at hmem
   rw [List.mem_filter, List.mem_range] at hmem
   obtain ⟨his, hrd⟩ := hmem
   have hoi : ops[i]? = some ops[i] := by simp [his]
   rw [hoi] at hrd
   simp only [Bool.and_eq_true, Bool.not_eq_true', Option.map_some, Option.getD_some, Array.all_eq_true'] at hrd
   obtain ⟨hli, hpre⟩ := hrd
   simp only []
   rw [linearise_go_acc, List.reverse_singleton, List.singleton_append]
   have haflist : ∀ p ∈ af.getD i [], listed.getD p true = true := by
    intro p hp
    have hplt := (hspec i (by omega)).1 p hp
    have : af[i]? = some ((ops[i].after.toList.filter (Region.binds .any)).map (·.on)) := by
     rw [haf]; simp [hoi]
    rw [List.getD_eq_getElem?_getD, this] at hp
    simp only [Option.getD_some, List.mem_map, List.mem_filter] at hp
    obtain ⟨e, ⟨h1, h2⟩, rfl⟩ := hp
    have h3 := hpre e (by simpa using h1)
    rw [h2] at h3
    have hs2 : e.on < listed.size := by omega
    rw [Array.getD_eq_getD_getElem?] at h3 ⊢
    simp only [hs2, getElem?_pos, Option.getD_some, Bool.not_true, Bool.false_or] at h3 ⊢
    exact h3
   have hanc : ∀ q ∈ anc.getD i [], listed.getD q true = true := by
    intro q hq
    rcases ((hspec i (by omega)).2.1 q hq).2 with h | ⟨p, h1, h2⟩
    ·exact haflist q h
    ·have := (hspec i (by omega)).1 p h1
     exact hdown p (by omega) (haflist p h1) q h2
   -- the list, taken apart
   have hLl : (zbA 0 B (ops.toList.map (za6 P ops))).length = ops.size := by rw [zfu]; exact hlen
   generalize hL : zbA 0 B (ops.toList.map (za6 P ops)) = L at *
   have hget : ∀ {k : Nat} {d : DCell}, L[k]? = some d → d.i = k ∧ (ops.toList.map (za6 P ops))[k]? = some d.c := by
    intro k d h; rw [← hL] at h; obtain ⟨h1, h2⟩ := zgU h; exact ⟨by omega, h2⟩
   have hLi : L[i]? = some (L[i]'(by omega)) := by simp [show i < L.length by omega]
   obtain ⟨nid, hd⟩ : ∃ nid, L[i]'(by omega) = ⟨i, nid, za6 P ops ops[i]⟩ := by
    obtain ⟨h1, h2⟩ := hget hLi
    refine ⟨(L[i]'(by omega)).nid, ?_⟩
    simp [hoi] at h2
    exact DCell.eta h1 h2.symm
   have hsplit : L = L.take i ++ ⟨i, nid, za6 P ops ops[i]⟩ :: L.drop (i + 1) := by
    rw [← hd]; simp
   have hbefore : ∀ d ∈ L.take i, d.i < i ∧ (ops.toList.map (za6 P ops))[d.i]? = some d.c := by
    intro d hd
    obtain ⟨k, hk⟩ := List.mem_iff_getElem?.1 hd
    rw [List.getElem?_take] at hk
    split at hk <;> try cases hk
    obtain ⟨h1, h2⟩ := hget hk
    subst h1
    exact ⟨by assumption, h2⟩
   have hafter : ∀ d ∈ L.drop (i + 1), i < d.i := by
    intro d hd
    obtain ⟨k, hk⟩ := List.mem_iff_getElem?.1 hd
    rw [List.getElem?_drop] at hk
    obtain ⟨h1, h2⟩ := hget hk
    omega
   have hf1 : (L.filter fun d => !listed.getD d.i true) = (L.take i).filter (fun d => !listed.getD d.i true) ++ ⟨i, nid, za6 P ops ops[i]⟩ :: (L.drop (i + 1)).filter (fun d => !listed.getD d.i true) := by
    conv => lhs; rw [hsplit]
    rw [List.filter_append, List.filter_cons]
    simp [hli]
   have hsame : ∀ d : DCell, d.i ≠ i → (!(listed.setIfInBounds i true).getD d.i true) = !listed.getD d.i true := by
    intro d hd; rw [getD_set (by omega), if_neg hd]
   have hf2 : (L.filter fun d => !(listed.setIfInBounds i true).getD d.i true) = (L.take i).filter (fun d => !listed.getD d.i true) ++ (L.drop (i + 1)).filter (fun d => !listed.getD d.i true) := by
    conv => lhs; rw [hsplit]
    rw [List.filter_append, List.filter_cons]
    have : (!(listed.setIfInBounds i true).getD i true) = false := by rw [getD_set (by omega)]; simp
    simp only [this, Bool.false_eq_true, if_false]
    congr 1
    ·exact List.filter_congr fun d hd => hsame d (by have := (hbefore d hd).1; omega)
    ·exact List.filter_congr fun d hd => hsame d (by have := hafter d hd; omega)
   refine RunsFrom.cons (K := Sim n φ0 h0 w0 fun s => ∃ log, wpD C (unA anc) (L.filter fun d => !(listed.setIfInBounds i true).getD d.i true) log (Q .normal) s) ?_ ?_
   ·obtain ⟨φ, s, ⟨log, hwp⟩, I⟩ := hS
    rw [hf1] at hwp
    rw [hf2]
    have hwc : zeV n (za6 P ops ops[i]) = true := List.all_eq_true.1 hwf _ (List.mem_map.2 ⟨ops[i], by simp, rfl⟩)
    refine stepD_sound hC H0 hoi hwc I (wpD_take _ _ _ ?_ hwp)
    intro j hj
    rw [List.mem_filter] at hj
    obtain ⟨hj1, hj2⟩ := hj
    obtain ⟨hjlt, hjc⟩ := hbefore j hj1
    have hnot : j.i ∉ anc.getD i [] := fun h => by have := hanc _ h; rw [this] at hj2; cases hj2
    have hpair := ((hspec i (by omega)).2.2 j.i hjlt).resolve_left hnot
    rw [List.getD_eq_getElem?_getD, hjc, List.getD_eq_getElem?_getD] at hpair
    have hic : (ops.toList.map (za6 P ops))[i]? = some (za6 P ops ops[i]) := by simp [hoi]
    rw [hic] at hpair
    obtain ⟨p1, p2⟩ := pairOK_spec hpair
    refine ⟨p1, p2, ?_, ?_⟩
    rotate_left
    ·show i ≠ j.i; omega
    unfold unA
    have h1 : ((anc.getD j.i []).any (Nat.beq i)) = false := by
     cases h : (anc.getD j.i []).any (Nat.beq i) with
     | false => rfl
     | true => have := ((hspec j.i (by omega)).2.1 i (zhr.1 h)).1; omega
    have h2 : ((anc.getD i []).any (Nat.beq j.i)) = false := by
     cases h : (anc.getD i []).any (Nat.beq j.i) with
     | false => rfl
     | true => exact absurd (zhr.1 h) hnot
    rw [h1, h2, (Nat.blt_eq.symm ▸ (show j.i < anc.length by rw [hanl]; omega) : Nat.blt j.i anc.length = true), (Nat.blt_eq.symm ▸ (show i < anc.length by rw [hanl]; simp; omega) : Nat.blt i anc.length = true)]; rfl
   ·intro a1 w1 hS1
    refine ih _ _ a1 w1 (by simp [hsz]) ?_ ?_ hS1
    ·intro k hk hkl p hp
     rw [getD_set (by omega)] at hkl ⊢
     by_cases hpi : p = i
     ·simp [hpi]
     ·rw [if_neg hpi]
      by_cases hki : k = i
      ·subst hki; exact hanc p hp
      ·rw [if_neg hki] at hkl; exact hdown k hk hkl p hp
    ·rw [hf2]; rw [hf1] at hf; simp at hf ⊢; omega
theorem zfC {l : Nat} : ∀ {c : IC}, l ∉ zf6 c → zig l c = none
 | .seq a b, h => by
  simp only [zf6, List.mem_append, not_or] at h
  simp only [zig, zfC h.1, zfC h.2]
 | .label l', h => by
  simp only [zf6, List.mem_singleton] at h
  simp only [zig, if_neg (show ¬ l' = l from fun e => h e.symm)]
 | .skip, _ | .reg _, _ | .dreg _ _, _ | .cond _ _ _, _ | .block _ _, _ | .loop _, _ | .exit _, _ | .ret, _ | .goto _, _ | .scp _ _ _, _ | .bad _, _ => rfl
theorem spine_mk (b : IC) : zf6 (mkScope b) = [] := by
 unfold mkScope
 split
 ·assumption
 ·split <;> rfl
 ·rfl
theorem zew {l : Nat} : ∀ {c : Code}, (∀ r, findLabel c l = some r → zig l (zce P c) = some (zce P r)) ∧ (findLabel c l = none → l ∉ zf6 (zce P c))
 | .seq x y => by
  have hx := zew (l := l) (c := x)
  have hy := zew (l := l) (c := y)
  constructor
  ·intro r h
   simp only [findLabel] at h
   split at h
   ·rename_i r1 h1
    cases h
    simp only [zce, zig, hx.1 r1 h1]
   ·rename_i h1
    simp only [zce, zig, zfC (hx.2 h1)]
    exact hy.1 r h
  ·intro h hm
   simp only [findLabel] at h
   split at h
   ·cases h
   ·rename_i h1
    simp only [zce, zf6, List.mem_append] at hm
    rcases hm with hm | hm
    ·exact hx.2 h1 hm
    ·exact hy.2 h hm
 | .label l' => by
  constructor
  ·intro r h
   simp only [findLabel] at h
   split at h
   ·rename_i hl
    cases h
    simp only [zce, zig, if_pos (show l' = l by simpa using hl)]
   ·cases h
  ·intro h hm
   simp only [findLabel] at h
   split at h
   ·cases h
   ·rename_i hl
    simp only [zce, zf6, List.mem_singleton] at hm
    exact hl (by simp [hm])
 | .scope b => ⟨fun r h => by simp [findLabel] at h, fun _ => by simp only [zce, spine_mk]; simp⟩
 | .region id ops draw => ⟨fun r h => by simp [findLabel] at h, fun _ => by
   simp only [zce]; split
   ·split <;> simp [zf6]
   ·simp [zf6]⟩
 | .cond c x y => ⟨fun r h => by simp [findLabel] at h, fun _ => by simp only [zce]; split <;> simp [zf6]⟩
 | .skip | .block _ _ | .loop _ | .exit _ | .ret | .goto _ | .refuse _ | .rangeFunc .. => ⟨fun r h => by simp [findLabel] at h, fun _ => by simp [zce, zf6]⟩
theorem zi9 {l : Nat} {c : Code} (h : l ∉ zf6 (zce P c)) : findLabel c l = none := by
 cases hf : findLabel c l with
 | none => rfl
 | some r => have := (zew (P := P)).1 r hf; rw [zfC h] at this; cases this
theorem ziy {l : Nat} : ∀ {c r : Code}, findLabel c l = some r → SizeOf.sizeOf r ≤ SizeOf.sizeOf c
 | .seq x y, r, h => by
  simp only [findLabel] at h
  split at h
  ·rename_i r1 h1
   cases h
   have := ziy h1
   simp; omega
  ·have := ziy h
   simp; omega
 | .label l', r, h => by
  simp only [findLabel] at h
  split at h
  ·cases h; simp
  ·cases h
theorem wp_scope_pass {Q : Exit → Act → World → Prop} {c : Code} (hn : ∀ l, findLabel c l = none) (h : c.wp P Q a w) : (Code.scope c).wp P Q a w := by
 intro b k cs
 obtain ⟨e, a₁, w₁, hq, harr⟩ := h b (.inScope c :: k) cs
 cases e with
 | normal => exact ⟨.normal, a₁, w₁, hq, .head step_scope (Steps.trans harr (.one step_inScope))⟩
 | exit id => exact ⟨.exit id, a₁, w₁, hq, fun k' hk => .head step_scope (harr k' (by simp [exitTo, hk]))⟩
 | goto l => exact ⟨.goto l, a₁, w₁, hq, fun k' hk => .head step_scope (harr k' (by simp [gotoIn, hn l, hk]))⟩
 | ret => exact ⟨_, a₁, w₁, hq, .of_steps (.one step_scope) harr⟩
 | panic ch => exact ⟨_, a₁, w₁, hq, .of_steps (.one step_scope) harr⟩
 | outgrown => exact ⟨_, a₁, w₁, hq, .of_steps (.one step_scope) harr⟩
theorem ziO {Q : Exit → Act → World → Prop} {c rest : Code} (l : Nat) (J : Nat → Act → World → Prop) (hf : findLabel c l = some rest) (hn : ∀ l', l' ≠ l → findLabel c l' = none)
  (first : c.wp P (fun e a w => match e with | .goto i => if i = l then ∃ m, J m a w else Q (.goto i) a w | e => Q e a w) a w)
  (pass : ∀ n a w, J n a w → rest.wp P (fun e a w => match e with | .goto i => if i = l then ∃ m, m < n ∧ J m a w else Q (.goto i) a w | e => Q e a w) a w) : (Code.scope c).wp P Q a w := by
 intro b k cs
 have hg : gotoIn l (.inScope c :: k) = some (.code rest :: .inScope c :: k) := by simp [gotoIn, hf]
 have key : ∀ n a w, J n a w → ∃ e a' w', Q e a' w' ∧ Arrives P (lone (b.at a (.code rest :: .inScope c :: k)) cs w) b k cs e a' w' := by
  intro n
  induction n using Nat.strongRecOn with
  | _ n ih =>
   intro a w hJ
   obtain ⟨e, a₁, w₁, hq, harr⟩ := pass n a w hJ b (.inScope c :: k) cs
   cases e with
   | normal => exact ⟨.normal, a₁, w₁, hq, Steps.trans harr (.one step_inScope)⟩
   | exit id => exact ⟨.exit id, a₁, w₁, hq, fun k' hk => harr k' (by simp [exitTo, hk])⟩
   | goto l' =>
    simp only at hq
    split at hq
    ·rename_i hl
     subst hl
     obtain ⟨m, hm, hJ'⟩ := hq
     obtain ⟨e₂, a₂, w₂, hq₂, harr₂⟩ := ih m hm a₁ w₁ hJ'
     exact ⟨e₂, a₂, w₂, hq₂, .of_steps (harr _ hg) harr₂⟩
    ·rename_i hl
     exact ⟨.goto l', a₁, w₁, hq, fun k' hk => harr k' (by simp [gotoIn, hn l' hl, hk])⟩
   | ret => exact ⟨_, a₁, w₁, hq, harr⟩
   | panic ch => exact ⟨_, a₁, w₁, hq, harr⟩
   | outgrown => exact ⟨_, a₁, w₁, hq, harr⟩
 obtain ⟨e, a₁, w₁, hq, harr⟩ := first b (.inScope c :: k) cs
 cases e with
 | normal => exact ⟨.normal, a₁, w₁, hq, .head step_scope (Steps.trans harr (.one step_inScope))⟩
 | exit id => exact ⟨.exit id, a₁, w₁, hq, fun k' hk => .head step_scope (harr k' (by simp [exitTo, hk]))⟩
 | goto l' =>
  simp only at hq
  split at hq
  ·rename_i hl
   subst hl
   obtain ⟨m, hJ'⟩ := hq
   obtain ⟨e₂, a₂, w₂, hq₂, harr₂⟩ := key m a₁ w₁ hJ'
   exact ⟨e₂, a₂, w₂, hq₂, .of_steps (.head step_scope (harr _ hg)) harr₂⟩
  ·rename_i hl
   exact ⟨.goto l', a₁, w₁, hq, fun k' hk => .head step_scope (harr k' (by simp [gotoIn, hn l' hl, hk]))⟩
 | ret => exact ⟨_, a₁, w₁, hq, .of_steps (.one step_scope) harr⟩
 | panic ch => exact ⟨_, a₁, w₁, hq, .of_steps (.one step_scope) harr⟩
 | outgrown => exact ⟨_, a₁, w₁, hq, .of_steps (.one step_scope) harr⟩
theorem zbN (hC : ziM P C) (H0 : HR φ0 (hf h0) w0) : ∀ (c : Code) (Q : IExit → St → Prop) (a : Act) (w : World), wfC n (zce P c) = true → Sim n φ0 h0 w0 (wpC C h0.length (zce P c) Q) a w → c.wp P (QX n φ0 h0 w0 Q) a w
 | .skip, Q, a, w, _, h => wp_skip h
 | .region id ops draw, Q, a, w, hwf, h => by
  cases draw with
  | true =>
   simp only [zce, if_true] at h hwf
   split at hwf
   ·rename_i hchk
    rw [if_pos hchk] at h
    simp only [Bool.and_eq_true] at hchk
    obtain ⟨hmix, hchk⟩ := hchk
    simp only [wpC] at h
    simp only [wfC] at hwf
    refine zf2 fun t => ?_
    simp only [Region.schedule, hmix, Bool.true_or, if_true, Region.linearise]
    obtain ⟨φ, s, h, I⟩ := h
    refine drawn (B := s.h.length) hC H0 hchk rfl hwf ops.size t _ a w.drew (by simp) ?_ ?_ ?_
    ·intro i hi hl
     simp [Array.getD_eq_getD_getElem?, hi] at hl
    ·refine Nat.le_trans (List.length_filter_le _ _) ?_
     rw [zfu]; simp
    ·refine ⟨φ, ⟨s.f, s.h ++ List.replicate (zau (ops.toList.map (za6 P ops))) .gone⟩, ⟨[], ?_⟩, ?_⟩
     ·have : ((zbA 0 s.h.length (ops.toList.map (za6 P ops))).filter fun d => !(Array.replicate ops.size false).getD d.i true) = zbA 0 s.h.length (ops.toList.map (za6 P ops)) := by
       refine List.filter_eq_self.2 fun d hd => ?_
       obtain ⟨k, hk⟩ := List.mem_iff_getElem?.1 hd
       obtain ⟨h1, h2⟩ := zgU hk
       have h3 := zJ h2
       simp at h3
       simp [Array.getD_eq_getD_getElem?, show d.i < ops.size by omega]
      rw [this]; exact h
     ·exact ⟨I.size, I.regs, I.defers, by rw [zhD]; exact I.heap.drew, FrC.gone (FrC.to_drew I.fr)⟩
   ·rename_i hchk
    rw [if_neg hchk] at h
    obtain ⟨φ, s, h, I⟩ := h
    simp only [wpC] at h
  | false =>
   simp only [zce, Bool.false_eq_true, ↓reduceIte, wpC] at h
   simp only [zce, Bool.false_eq_true, ↓reduceIte, wfC] at hwf
   refine ziP ?_
   have := zhY (ops := ops) hC H0 (Q := Q) ops.toList 0 (by intro j; simp) hwf a w h
   rwa [List.range_eq_range', ← Array.length_toList]
 | .seq x y, Q, a, w, hwf, h => by
  simp only [zce, wfC, Bool.and_eq_true] at hwf
  refine wp_seq (wp_mono (zbN hC H0 x _ a w hwf.1 h) ?_)
  intro e a' w' he
  cases e with
  | normal => exact zbN hC H0 y Q a' w' hwf.2 (Sim.weak H0 he)
  | _ => exact he
 | .cond c x y, Q, a, w, hwf, h => by
  obtain ⟨φ, s, h, I⟩ := h
  simp only [zce] at h hwf
  split at h
  ·rename_i c' hc'
   simp only [hc', wfC, Bool.and_eq_true] at hwf
   simp only [wpC] at h
   split at h
   ·rename_i t ht
    have := I.ev _ _ hc'
    rw [ht] at this
    have he : a.eval c = .bool t := this.bool
    refine wp_cond he ?_
    cases t with
    | true => exact zbN hC H0 x Q a w hwf.1 ⟨φ, s, by simpa using h, I⟩
    | false => exact zbN hC H0 y Q a w hwf.2 ⟨φ, s, by simpa using h, I⟩
   ·cases h
  ·simp only [wpC] at h
 | .block id b, Q, a, w, hwf, h => by
  simp only [zce, wfC] at hwf
  refine wp_block (wp_mono (zbN hC H0 b _ a w hwf h) ?_)
  intro e a' w' he
  cases e with
  | exit i =>
   simp only [QX, Exit.inBlock] at he ⊢
   split
   ·rename_i hi; simp only [hi, ↓reduceIte] at he; exact he
   ·rename_i hi; simp only [hi, ↓reduceIte] at he; exact he
  | _ => exact he
 | .loop b, Q, a, w, hwf, h => by
  simp only [zce, wfC] at hwf
  obtain ⟨φ, s, ⟨J, ⟨m, s0, hwk, hm⟩, hr⟩, I⟩ := h
  obtain ⟨φ', I'⟩ := I.weak H0 hwk
  refine wp_loop_ghost (fun m a w => Sim n φ0 h0 w0 (J m) a w) m ⟨φ', s0, hm, I'⟩ ?_
  rintro k a1 w1 hk
  refine wp_mono (zbN hC H0 b _ a1 w1 hwf (hk.mono (hr k))) ?_
  intro e a' w' he
  cases e with
  | normal =>
   obtain ⟨φ2, s2, ⟨m2, s3, hm2, hwk2, hJ2⟩, I2⟩ := he
   obtain ⟨φ3, I3⟩ := I2.weak H0 hwk2
   exact ⟨m2, hm2, φ3, s3, hJ2, I3⟩
  | _ => exact he
 | .exit id, Q, a, w, _, h => wp_exit h
 | .scope b, Q, a, w, hwf, h => by
  simp only [zce] at hwf h
  unfold mkScope at hwf h
  split at hwf
  ·rename_i hs
   rw [hs] at h
   exact wp_scope_pass (fun l => zi9 (P := P) (by rw [hs]; simp)) (zbN hC H0 b Q a w hwf h)
  ·rename_i l hs
   rw [hs] at h
   simp only at h
   cases hr : zig l (zce P b) with
   | none => rw [hr] at h; obtain ⟨_, _, h, _⟩ := h; simp only [wpC] at h
   | some r =>
    rw [hr] at h hwf
    simp only [wfC, Bool.and_eq_true] at hwf
    simp only at h
    obtain ⟨φ, s, ⟨J, h1, h2⟩, I⟩ := h
    cases hfl : findLabel b l with
    | none => have := (zew (P := P)).2 hfl; rw [hs] at this; simp at this
    | some rc =>
     have hrc := (zew (P := P)).1 rc hfl
     rw [hr] at hrc
     have hrc := Option.some.inj hrc
     have hsz := ziy hfl
     subst hrc
     refine ziO l (fun m a w => Sim n φ0 h0 w0 (J m) a w) hfl (fun l' hl => zi9 (P := P) (by rw [hs]; simpa using hl)) ?_ ?_
     ·refine wp_mono (zbN hC H0 b _ a w hwf.2 ⟨φ, s, h1, I⟩) ?_
      intro e a' w' he
      cases e with
      | goto i =>
       simp only [QX] at he ⊢
       split
       ·rename_i hi
        simp only [if_pos hi] at he
        obtain ⟨φ2, s2, ⟨m2, s3, hwk2, hJ2⟩, I2⟩ := he
        obtain ⟨φ3, I3⟩ := I2.weak H0 hwk2
        exact ⟨m2, φ3, s3, hJ2, I3⟩
       ·rename_i hi
        simp only [if_neg hi] at he
        exact he
      | _ => exact he
     ·intro k a1 w1 hk
      refine wp_mono (zbN hC H0 rc _ a1 w1 hwf.1 (hk.mono (h2 k))) ?_
      intro e a' w' he
      cases e with
      | goto i =>
       simp only [QX] at he ⊢
       split
       ·rename_i hi
        simp only [if_pos hi] at he
        obtain ⟨φ2, s2, ⟨m2, s3, hm2, hwk2, hJ2⟩, I2⟩ := he
        obtain ⟨φ3, I3⟩ := I2.weak H0 hwk2
        exact ⟨m2, hm2, φ3, s3, hJ2, I3⟩
       ·rename_i hi
        simp only [if_neg hi] at he
        exact he
      | _ => exact he
  ·rename_i hs1 hs2
   exfalso
   obtain ⟨_, _, h, _⟩ := h
   split at h
   ·rename_i hs; exact hs1 hs
   ·rename_i hs; exact hs2 _ hs
   ·simp only [wpC] at h
 | .ret, Q, a, w, _, h => wp_ret h
 | .rangeFunc .., Q, a, w, _, h => by obtain ⟨_, _, h, _⟩ := h; simp only [zce, wpC] at h
 | .label _, Q, a, w, _, h => wp_label h
 | .goto _, Q, a, w, _, h => wp_goto h
 | .refuse _, Q, a, w, _, h => by obtain ⟨_, _, h, _⟩ := h; simp only [zce, wpC] at h
termination_by c => SizeOf.sizeOf c
decreasing_by all_goals (simp_wf; try omega)
end
end Go.Rh

namespace Go.Rh
section
variable {P : Program} {a : Act} {w : World} {n : Nat} {φ0 : Phi} {h0 : List Blk} {w0 : World} {φ : Phi} {s : St} {C : qW}
def resOne (tmps : Array Value) : ResultVar → Sem Value
 | .tmp t => pure (tmps.getD t undef)
 | .cell c t => do loadVar t (← asAddr (tmps.getD c undef))
theorem resOne_tmp {tmps : Array Value} {t : Nat} : (resOne tmps (.tmp t)).run P w = .ok (tmps.getD t undef) w := rfl
theorem zg4 {fn : Func} {tmps : Array Value} : results fn tmps = (do
  let vs ← fn.results.mapM (resOne tmps)
  pure (if h : vs.size = 1 then vs[0] else .tuple vs)) := rfl
theorem zd1 (I : Inv n φ0 h0 w0 φ s a w) : ∀ {rs : List ResultVar} {q : List IRes} {l : List Value}, cRes P rs = some q → zfD s q = some l →
  ∃ l', (rs.mapM (resOne a.tmps)).run P w = .ok l' w ∧ Each (VR φ) l l'
 | [], q, l, h1, h2 => by
  simp [cRes] at h1; subst h1
  simp [zfD] at h2; subst h2
  exact ⟨[], by simp, Each.nil _⟩
 | .tmp t :: rs, q, l, h1, h2 => by
  simp only [cRes, Option.map_eq_some_iff] at h1
  obtain ⟨q', h1, rfl⟩ := h1
  simp only [zfD, Option.map_eq_some_iff] at h2
  obtain ⟨l', h2, rfl⟩ := h2
  obtain ⟨l'', h3, h4⟩ := zd1 I h1 h2
  exact ⟨a.tmps.getD t undef :: l'', by simp [List.mapM_cons, resOne_tmp, h3], Each.cons (I.regs t) h4⟩
 | .cell c t :: rs, q, l, h1, h2 => by
  simp only [cRes] at h1
  split at h1 <;> cases h1
  rename_i m q' hm hq'
  simp only [zfD] at h2
  split at h2 <;> cases h2
  rename_i v l' hv hl'
  obtain ⟨l'', h3, h4⟩ := zd1 I hq' hl'
  obtain ⟨k, o, cs, r, h5, h6, h7⟩ := ldV_spec hv
  have hreg := I.regs c
  rw [h5] at hreg
  obtain ⟨x', hx', _, b, bo, hφ, rfl⟩ := hreg.pointer
  obtain ⟨b', o', hφ', hb⟩ := I.heap.has k _ h6
  rw [hφ] at hφ'; cases hφ'
  obtain ⟨v', hr, hG⟩ := zfW (P := P) hm hb h7
  exact ⟨v' :: l'', by
   have h8 : (resOne a.tmps (.cell c t)).run P w = .ok v' w := by simp only [resOne]; rw [hx']; simp [asAddr, hr]
   simp [List.mapM_cons, h3, h8], Each.cons (VR.of_GR hG) h4⟩
theorem Each.mono2 {R R' : Value → Value → Prop} {l l' : List Value} (h : Each R l l') (hr : ∀ v v', v ∈ l → R v v' → R' v v') : Each R' l l' :=
 ⟨h.1, fun i v v' h1 h2 => hr v v' (List.mem_of_getElem? h1) (h.2 i v v' h1 h2)⟩
theorem GR.plain {φ φ' : Phi} {v v' : Value} (h : zi1 v = true) (r : GR φ v v') : GR φ' v v' := by
 cases v <;> simp only [GR, zi1] at r h ⊢
 case agg x =>
  obtain ⟨a', rfl, r⟩ := r
  exact ⟨a', rfl, r.mono2 fun v v' hv hr => by
   have := List.all_eq_true.1 h v hv
   rw [SR.eq_of_sclf this hr]; exact SR.of_sclf this⟩
 all_goals
  rw [SR.eq_of_sclf h r]; exact SR.of_sclf h
theorem VR.plain' {φ φ' : Phi} {v v' : Value} (h : vpf v = true) (r : VR φ v v') : VR φ' v v' := by
 cases v <;> simp only [VR, vpf] at r h ⊢
 case tuple x =>
  obtain ⟨a', rfl, r⟩ := r
  exact ⟨a', rfl, r.mono2 fun v v' hv hr => GR.plain (List.all_eq_true.1 h v hv) hr⟩
 all_goals exact GR.plain h r
theorem BR.plain {φ φ' : Phi} {w : World} {b o : Nat} {blk : Blk} (h : ziT blk = true) (r : BR φ w b o blk) : BR φ' w b o blk := by
 cases blk with
 | cells c rw =>
  obtain ⟨c', T, fr, h1, h2, h3, h4⟩ := r
  refine ⟨c', T, fr, h1, h2, h3.mono2 fun v v' hv hr => ?_, h4⟩
  have := List.all_eq_true.1 h v hv
  rw [SR.eq_of_sclf this hr]; exact SR.of_sclf this
 | map es =>
  obtain ⟨h0, ms, cl, h1, h2, h3, h4⟩ := r
  have hall : ∀ e ∈ es, zi1 e.1 = true ∧ zi1 e.2 = true := fun e he => by
   have := List.all_eq_true.1 h e he; simpa using this
  refine ⟨h0, ms, cl, h1, h2.mono2 fun v v' hv hr => ?_, h3.mono2 fun v v' hv hr => ?_, h4⟩
  ·obtain ⟨e, he, rfl⟩ := List.mem_map.1 hv; exact GR.plain (hall e he).1 hr
  ·obtain ⟨e, he, rfl⟩ := List.mem_map.1 hv; exact GR.plain (hall e he).2 hr
 | chan c bf =>
  obtain ⟨h0, b', s, r, h1, h2⟩ := r
  exact ⟨h0, b', s, r, h1, h2.mono2 fun v v' hv hr => GR.plain (List.all_eq_true.1 h v hv) hr⟩
 | iter m n seen => simp [ziT] at h
 | gone => exact r
theorem drop_new {h h' : List Blk} {w' : World} {φ' : Phi} (H : HR φ (hf h) w) (H' : HR φ' (hf h') w') (F : FrC φ h w φ' h' w') (hp : ∀ b ∈ h'.take h.length, ziT b = true) :
  ∃ φ'', HR φ'' (hf (h'.take h.length)) w' ∧ FrC φ h w φ'' (h'.take h.length) w' := by
 have hlen := F.len
 have htk : ∀ {k : Nat} {b : Blk}, (h'.take h.length)[k]? = some b → k < h.length ∧ h'[k]? = some b := by
  intro k b e
  rw [List.getElem?_take] at e
  split at e
  ·exact ⟨by assumption, e⟩
  ·cases e
 refine ⟨fun k => if k < h.length then φ' k else none, ⟨?_, ?_, ?_⟩, F.size, F.keep, F.os, F.tape, F.output, ?_, ?_, by simp; omega, ?_⟩
 ·intro k blk hk
  obtain ⟨h1, h2⟩ := zav.1 hk
  obtain ⟨h3, h4⟩ := htk h1
  obtain ⟨b, o, e, hB⟩ := H'.has k blk (zav.2 ⟨h4, h2⟩)
  exact ⟨b, o, by simp [h3, e], BR.plain (hp _ (List.mem_of_getElem? h1)) hB⟩
 ·intro k hk
  by_cases hkl : k < h.length
  ·simp only [hkl, if_true]
   refine H'.nil k ?_
   unfold hf at hk ⊢
   rwa [List.getElem?_take_of_lt hkl] at hk
  ·simp [hkl]
 ·intro k k' blk rb ro rb' ro' hne hk hrw e1 e2
  obtain ⟨h1, h2⟩ := zav.1 hk
  obtain ⟨h3, h4⟩ := htk h1
  simp only [h3, if_true] at e1
  split at e2
  ·exact H'.apart k k' blk rb ro rb' ro' hne (zav.2 ⟨h4, h2⟩) hrw e1 e2
  ·cases e2
 ·intro k x e
  have : k < h.length := by
   rcases Nat.lt_or_ge k h.length with hk | hk
   ·exact hk
   ·rw [H.nil k (zcT (List.getElem?_eq_none hk))] at e; cases e
  simp only [this, if_true]
  exact F.le k x e
 ·intro k b o e
  split at e
  ·exact F.new k b o e
  ·cases e
 ·intro k b b' h1 h2
  exact F.flags k b b' h1 (htk h2).2
theorem zhV : ∀ (l : List Value) (i t : Nat), reg (argL i l) t = junk ∨ ∃ v, i ≤ t ∧ l[t - i]? = some v ∧ reg (argL i l) t = v
 | [], _, _ => .inl rfl
 | v :: r, i, t => by
  simp only [argL, reg, setf]
  by_cases h : t = i
  ·subst h; simp
  ·simp only [h, if_false]
   rcases zhV r (i + 1) t with h1 | ⟨u, h0, h1, h2⟩
   ·exact .inl h1
   ·refine .inr ⟨u, by omega, ?_, h2⟩
    rw [show t - i = (t - (i + 1)) + 1 by omega]; simpa using h1
theorem wpF_sound (hC : ziM P C) {f : FuncId} {fn : Func} {c : IFunc} {args : List Value} {h : List Blk} {R : zdX} (hf' : P.funcs[f]? = some fn) (hc : cFunc P fn = some c) (hwp : wpF C c args h R) : ACalls P f args h R := by
 unfold cFunc at hc
 split at hc <;> try cases hc
 rename_i body res hb hres
 split at hc <;> cases hc
 rename_i hwf
 intro w φ args' H hl hargs
 refine calls_of_wp hf' hb (wp_mono (zbN (n := fn.ntmps) (h0 := h) (w0 := w) (φ0 := φ) hC H body _ _ w hwf ⟨φ, _, hwp, ?_⟩) ?_)
 ·refine ⟨by simp; omega, fun t => ?_, rfl, H, FrC.refl _ _ _⟩
  simp only [Array.getD_eq_getD_getElem?]
  rcases zhV args 0 t with h1 | ⟨v, h0, h1, h2⟩
  ·rw [h1]; exact VR.junk
  ·have ht := zJ h1
   have h3 : args'[t]? = some (args'[t]'(by omega)) := by simp [show t < args'.size by omega]
   rw [Array.getElem?_append_left (by omega), h2, h3]
   exact hargs t _ _ (by simpa using h1) h3
 ·intro e a' w' he
  have fin : Sim fn.ntmps φ h w (fun s => ∃ l, zfD s res = some l ∧ (∀ v ∈ l, zbG v = false) ∧ (R (one l) s.h ∨ (vpf (one l) = true ∧ (∀ b ∈ s.h.take h.length, ziT b = true) ∧ R (one l) (s.h.take h.length)))) a' w' →
    a'.defers = [] ∧ ∃ v, (results fn a'.tmps).run P w' = .ok v w' ∧ ∃ v0 v' h' φ', (Ending.returned v : Ending) = .returned v' ∧ R v0 h' ∧ VR φ' v0 v' ∧ HR φ' (hf h') w' ∧ FrC φ h w φ' h' w' := by
   rintro ⟨φ1, s, ⟨l, hl1, hl2, hR⟩, I⟩
   obtain ⟨l', hr, hE⟩ := zd1 I hres hl1
   refine ⟨I.defers, if h : l'.toArray.size = 1 then l'.toArray[0] else .tuple l'.toArray, ?_, ?_⟩
   ·rw [zg4]
    simp [Array.mapM_eq_mapM_toList, hr]
   ·have hV : VR φ1 (one l) (if h : l'.toArray.size = 1 then l'.toArray[0] else .tuple l'.toArray) := by
     have hlen := hE.1
     unfold one
     split
     ·rename_i v
      match l', hE with
      | [v'], hE => simpa using hE.2 0 v v' rfl rfl
      | [], hE => simp at hlen
      | _ :: _ :: _, hE => simp at hlen
     ·rename_i hne
      have : ¬ l'.toArray.size = 1 := by
       intro h1
       have h2 : l.length = 1 := by rw [hlen]; simpa using h1
       match l, h2 with
       | [v], _ => exact hne v rfl
      rw [dif_neg this]
      exact ⟨l'.toArray, rfl, by simpa using hE.mono2 fun v v' hv hr => GR.of_VR (hl2 v hv) hr⟩
    rcases hR with hR | ⟨h1, h2, hR⟩
    ·exact ⟨_, _, _, φ1, rfl, hR, hV, I.heap, I.fr⟩
    ·obtain ⟨φ2, h3, h4⟩ := drop_new H I.heap I.fr h2
     exact ⟨_, _, _, φ2, rfl, hR, VR.plain' h1 hV, h3, h4⟩
  cases e with
  | normal => exact fin (he.mono fun s h => h.2)
  | ret => exact fin (he.mono fun s h => h.2)
  | exit id => obtain ⟨_, _, ⟨h, _⟩, _⟩ := he; exact h.elim
  | goto l => obtain ⟨_, _, ⟨h, _⟩, _⟩ := he; exact h.elim
  | _ => exact he.elim
def Env (P : Program) : qW := fun g args h R => ∀ f fn, P.funcs[f]? = some fn → fn.name = g → ACalls P f args h R
theorem Env.sound (P : Program) : ziM P (Env P) := fun _ _ _ _ h f fn h1 h2 => h f fn h1 h2
theorem Env.of {P : Program} {g : String} {c : IFunc} {args : List Value} {h : List Blk} {R : zdX} (hc : zX P g = some c) (hwp : wpF (Env P) c args h R) : Env P g args h R := by
 intro f fn hf hn
 unfold zX at hc
 split at hc <;> try cases hc
 rename_i fn' hfl
 have hm : fn ∈ P.funcs.toList.filter (·.name == g) := List.mem_filter.2 ⟨by
  have := Array.mem_of_getElem? hf
  simpa using this, by simpa using hn⟩
 rw [hfl] at hm
 have : fn = fn' := by simpa using hm
 subst this
 exact wpF_sound (Env.sound P) hf hc hwp
end
end Go.Rh

namespace Go.Rh
def run1 (c : ICell) (s : St) : Option St :=
 if gJ c s.f then none else if zb0 c s.f then (if qC c.op = 0 then (match zQ c.op (evf s.f) (hf s.h) s.h.length with
   | some (v, e) => some ⟨zas s.f c.dst v, e.on s.h⟩
   | none => none) else none)
 else some ⟨zas s.f c.dst undef, s.h⟩
def zdi : List ICell → St → Option St
 | [], s => some s
 | c :: r, s => match run1 c s with
  | some s' => zdi r s'
  | none => none
theorem wp1_run {C : qW} {c : ICell} {K : St → Prop} {s s' : St} (h : run1 c s = some s') (hk : K s') : wp1 C c K s := by
 unfold run1 at h
 have plain : qC c.op = 0 → (match zQ c.op (evf s.f) (hf s.h) s.h.length with
   | some (v, e) => some (⟨zas s.f c.dst v, e.on s.h⟩ : St)
   | none => none) = some s' → zfQ C c.op s.f s.h fun v h => K ⟨zas s.f c.dst v, h⟩ := by
  intro hsp hs
  have : zfQ C c.op s.f s.h (fun v h => K ⟨zas s.f c.dst v, h⟩) = (match zQ c.op (evf s.f) (hf s.h) s.h.length with
   | some (v, e) => K ⟨zas s.f c.dst v, e.on s.h⟩
   | none => False) := by
   cases ho : c.op <;> first | rfl | (rw [ho] at hsp; cases hsp)
  rw [this]
  split at hs <;> cases hs
  exact hk
 unfold wp1
 unfold zb0 gJ at h
 rcases hg : c.guard with _ | ⟨g, b⟩
 ·simp only [hg, if_true, Bool.false_eq_true, if_false] at h ⊢
  split at h
  ·rename_i hsp; exact plain hsp h
  ·cases h
 ·simp only [hg] at h ⊢
  cases hgv : s.f g with
  | bool x =>
   simp only [hgv, Bool.false_eq_true, if_false] at h
   cases hx : x == b with
   | true =>
    rw [hx] at h
    simp only [if_true] at h
    have : x = b := by simpa using hx
    simp only [this, if_true]
    split at h
    ·rename_i hsp; exact plain hsp h
    ·cases h
   | false =>
    rw [hx] at h
    have : x ≠ b := by simpa using hx
    simp only [this, if_false]
    cases h
    exact hk
  | complex k r i => simp [hgv] at h
  | _ => simp only [hgv, Bool.false_eq_true, if_false] at h; cases h; exact hk
theorem zeY {C : qW} {K : St → Prop} : ∀ {l r : List ICell} {s s' : St}, zdi l s = some s' → zbg C r K s' → zbg C (l ++ r) K s
 | [], _, _, _, h, hk => by cases h; exact hk
 | c :: l, r, s, s', h, hk => by
  simp only [zdi] at h
  split at h
  ·rename_i s1 h1; exact wp1_run h1 (zeY h hk)
  ·cases h
theorem zL {C : qW} {K : St → Prop} {l : List ICell} {s s' : St} (h : zdi l s = some s') (hk : K s') : zbg C l K s := by
 have := zeY (C := C) (r := []) h hk
 simpa using this
theorem zc2 {C : qW} {K : St → Prop} {d : Option Nat} {op : IOp} {r : List ICell} {s : St} {v : Value} {e : Eff} (hsp : qC op = 0) (h : zQ op (evf s.f) (hf s.h) s.h.length = some (v, e)) (hk : zbg C r K ⟨zas s.f d v, e.on s.h⟩) :
  zbg C (⟨d, op, none⟩ :: r) K s :=
 wp1_run (s' := ⟨zas s.f d v, e.on s.h⟩) (by simp [run1, gJ, zb0, hsp, h]) hk
theorem zi4 {C : qW} {K : St → Prop} {d : Option Nat} {r : List ICell} {s : St} {size k o len cap : Nat} {ik : IntKind} {n : Int} {x i : Opd} (hx : evf s.f x = .slice (some ⟨k, o, none⟩) len cap) (hi : evf s.f i = .int ik n) (hn : 0 ≤ n ∧ n < len)
  (hk : zbg C r K ⟨zas s.f d (.pointer (some ⟨k, o + n.toNat * size, none⟩)), s.h⟩) : zbg C (⟨d, .iadS size x i, none⟩ :: r) K s :=
 zc2 (e := .no) rfl (by simp [zQ, hx, hi, hn]) hk
theorem zi5 {C : qW} {K : St → Prop} {d : Option Nat} {r : List ICell} {s : St} {size k o len : Nat} {ik : IntKind} {n : Int} {x i : Opd} (hx : evf s.f x = .pointer (some ⟨k, o, none⟩)) (hi : evf s.f i = .int ik n) (hn : 0 ≤ n ∧ n < len)
  (hk : zbg C r K ⟨zas s.f d (.pointer (some ⟨k, o + n.toNat * size, none⟩)), s.h⟩) : zbg C (⟨d, .iadA len size x i, none⟩ :: r) K s :=
 zc2 (e := .no) rfl (by simp [zQ, hx, hi, hn]) hk
theorem zcq {C : qW} {K : St → Prop} {d : Option Nat} {r : List ICell} {s : St} {m : Option Nat} {k o : Nat} {x : Opd} {c : List Value} {rw : Bool} {v : Value} (hx : evf s.f x = .pointer (some ⟨k, o, none⟩)) (hh : hf s.h k = some (.cells c rw)) (hv : zam m c o = some v)
  (hk : zbg C r K ⟨zas s.f d v, s.h⟩) : zbg C (⟨d, .ld m x, none⟩ :: r) K s :=
 zc2 (e := .no) rfl (by simp [zQ, ldV, hx, hh, hv]) hk
theorem zbJ {C : qW} {K : St → Prop} {d : Option Nat} {r : List ICell} {s : St} {n k o : Nat} {x y : Opd} {c c' : List Value} (hx : evf s.f x = .pointer (some ⟨k, o, none⟩)) (hh : hf s.h k = some (.cells c true)) (ht : zbG (evf s.f y) = false) (hl : (zcN (evf s.f y)).length = n) (ho : o + n ≤ c.length) (hc : splice c o (zcN (evf s.f y)) = c')
  (hk : zbg C r K ⟨zas s.f d undef, s.h.set k (.cells c' true)⟩) : zbg C (⟨d, .st n x y, none⟩ :: r) K s :=
 zc2 (v := undef) (e := .set k (.cells c' true)) rfl (by simp [zQ, stV, hx, hh, ht, hl, ho, hc]) hk
theorem zc5 {c vs : List Value} (h : vs.length = c.length) : splice c 0 vs = vs := by
 unfold splice; simp [h]
theorem qS {C : qW} {B : Nat} {c : Opd} {a b : IC} {Q : IExit → St → Prop} {s : St} {t : Bool} (hc : evf s.f c = .bool t) (h1 : t = true → wpC C B a Q s) (h2 : t = false → wpC C B b Q s) : wpC C B (.cond c a b) Q s := by
 simp only [wpC, hc]
 cases t with
 | true => exact h1 rfl
 | false => exact h2 rfl
theorem qF {C : qW} {B : Nat} {a b : IC} {Q : IExit → St → Prop} {s : St} (h : wpC C B a (fun ex s' => match ex with | .normal => ∃ s0, Wk B s' s0 ∧ wpC C B b Q s0 | ex => Q ex s') s) : wpC C B (.seq a b) Q s := h
theorem zdk {C : qW} {B : Nat} {id : Nat} {b : IC} {Q : IExit → St → Prop} {s : St} (h : wpC C B b (fun ex s' => match ex with | .exit i => if i = id then Q .normal s' else Q (.exit i) s' | ex => Q ex s') s) : wpC C B (.block id b) Q s := h
theorem zC {B : Nat} {s : St} {K : St → Prop} (h : K s) : ∃ s0, Wk B s s0 ∧ K s0 := ⟨s, .inl rfl, h⟩
def regsOK (f : Nat → Value) (m : Nat) : List (Nat × Value) → Prop
 | [] => True
 | p :: l => (f p.1 = p.2 ∧ vbel m p.2 = true) ∧ regsOK f m l
theorem reg_cases {f : Nat → Value} {m : Nat} : ∀ {l : List (Nat × Value)}, regsOK f m l → ∀ t, reg l t = junk ∨ (reg l t = f t ∧ vbel m (reg l t) = true)
 | [], _, t => .inl rfl
 | p :: l, h, t => by
  obtain ⟨⟨h1, h2⟩, h3⟩ := h
  simp only [reg, setf]
  by_cases ht : t = p.1
  ·subst ht; simp only [if_true]; exact .inr ⟨h1.symm, h2⟩
  ·simp only [ht, if_false]; exact reg_cases h3 t
theorem Wk.to {B : Nat} {s : St} {l : List (Nat × Value)} {hs : List Blk} (hB : B ≤ hs.length) (hp : s.h.take hs.length = hs) (hr : regsOK s.f hs.length l) (hb : hs.all (bbel hs.length) = true) : Wk B s ⟨reg l, hs⟩ :=
 .inr (.inl ⟨hB, hp.symm, fun t => reg_cases hr t, fun b hbm => List.all_eq_true.1 hb b hbm⟩)
theorem zh8 {B : Nat} {s : St} {K : St → Prop} (l : List (Nat × Value)) (hs : List Blk) (hB : B ≤ hs.length) (hp : s.h.take hs.length = hs) (hr : regsOK s.f hs.length l) (hb : hs.all (bbel hs.length) = true) (h : K ⟨reg l, hs⟩) : ∃ s0, Wk B s s0 ∧ K s0 :=
 ⟨_, Wk.to hB hp hr hb, h⟩
def disjB (a b : List Nat) : Bool := a.all fun k => b.all fun j => !(Nat.beq k j)
def belowB (t : Option Nat) (l : List Nat) : Bool := match t with
 | some n => l.all fun k => Nat.blt k n
 | none => true
def apartB (x y : Foot) : Bool := disjB x.wr y.rd && disjB x.wr y.wr && disjB y.wr x.rd && belowB x.top (y.rd ++ y.wr) && belowB y.top (x.rd ++ x.wr)
def zhI (un : Nat → Nat → Bool) (x : Foot) (log : List Foot) : Bool := x.none? || log.all fun y => !(un y.i x.i) || apartB y x
theorem zhi {a b : List Nat} (h : disjB a b = true) : ∀ k ∈ a, k ∉ b := by
 intro k hk hb
 have := List.all_eq_true.1 (List.all_eq_true.1 h k hk) k hb
 simp at this
theorem ziD {t : Option Nat} {l : List Nat} (h : belowB t l = true) : below t l := by
 cases t with
 | none => trivial
 | some n => exact fun k hk => by have := List.all_eq_true.1 h k hk; simpa using this
theorem apartB_spec {x y : Foot} (h : apartB x y = true) : Foot.apart x y := by
 simp only [apartB, Bool.and_eq_true] at h
 obtain ⟨⟨⟨⟨h1, h2⟩, h3⟩, h4⟩, h5⟩ := h
 exact ⟨fun k hk => ⟨zhi h1 k hk, zhi h2 k hk⟩, zhi h3, ziD h4, ziD h5⟩
theorem zcJ {un : Nat → Nat → Bool} {x : Foot} {log : List Foot} (h : zhI un x log = true) : fits un x log := by
 intro y hy
 simp only [zhI, Bool.or_eq_true] at h
 rcases h with h | h
 ·exact .inl (Foot.apart.symm (zfI h))
 ·have := List.all_eq_true.1 h y hy
  simp only [Bool.or_eq_true, Bool.not_eq_true'] at this
  rcases this with h | h
  ·exact .inr h
  ·exact .inl (apartB_spec h)
def runD (un : Nat → Nat → Bool) : List DCell → List Foot → St → Option (List Foot × St)
 | [], log, s => some (log, s)
 | d :: r, log, s => if Nat.beq (qC d.c.op) 0 || !(zb0 d.c s.f) then (match ziB d s with
   | some (x, s') => if zhI un x log then runD un r (zgs x log) s' else none
   | none => none) else none
theorem wpD_run {C : qW} {un : Nat → Nat → Bool} {K : St → Prop} : ∀ {l r : List DCell} {log log' : List Foot} {s s' : St}, runD un l log s = some (log', s') → wpD C un r log' K s' → wpD C un (l ++ r) log K s
 | [], _, _, _, _, _, h, hk => by cases h; exact hk
 | d :: l, r, log, log', s, s', h, hk => by
  simp only [runD] at h
  split at h <;> try cases h
  rename_i hsp
  split at h <;> try cases h
  rename_i x s1 hd
  split at h <;> try cases h
  rename_i hf
  show za8 C un d log (fun log' s' => wpD C un (l ++ r) log' K s') s
  refine (zaZ ?_).2 ⟨x, s1, hd, zcJ hf, wpD_run h hk⟩
  intro hw
  rw [hw] at hsp
  simpa using hsp
theorem wpD_all {C : qW} {un : Nat → Nat → Bool} {K : St → Prop} {l : List DCell} {log log' : List Foot} {s s' : St} (h : runD un l log s = some (log', s')) (hk : K s') : wpD C un l log K s := by
 have := wpD_run (C := C) (r := []) h hk
 simpa using this
theorem zeA {ρ : Nat → Nat} {v : Value} (h : zbz v = true) : zet ρ v = v := by
 unfold zet; split <;> first | rfl | (simp [zbz] at h)
theorem zbf {f : Value → Value} {l : List Value} (h : ∀ v ∈ l, f v = v) : l.map f = l := by
 have := List.map_congr_left h; simpa using this
theorem zgC {ρ : Nat → Nat} {v : Value} (h : zi1 v = true) : zfX ρ v = v := by
 unfold zfX; split
 ·rename_i a
  have : a.map (zet ρ) = a := Array.toList_inj.1 (by rw [Array.toList_map]; exact zbf fun v hv => zeA (List.all_eq_true.1 h v hv))
  rw [this]
 ·rename_i hv; cases v <;> first | exact zeA h | exact absurd rfl (hv _)
theorem qE {ρ : Nat → Nat} {v : Value} (h : vpf v = true) : zbw ρ v = v := by
 unfold zbw; split
 ·rename_i a
  have : a.map (zfX ρ) = a := Array.toList_inj.1 (by rw [Array.toList_map]; exact zbf fun v hv => zgC (List.all_eq_true.1 h v hv))
  rw [this]
 ·rename_i hv; cases v <;> first | exact zgC h | exact absurd rfl (hv _)
theorem zbk {ρ : Nat → Nat} {c : List Value} {rw : Bool} (h : c.all zbz = true) : zaR ρ (.cells c rw) = .cells c rw := by
 simp only [zaR]; rw [zbf fun v hv => zeA (List.all_eq_true.1 h v hv)]
theorem over_ro {k : Nat} : ∀ {sel : List Nat} {h : List Blk}, (∀ b ∈ h, b.rw = false) → zeB k sel h = none
 | [], _, _ => rfl
 | _ :: _, [], _ => rfl
 | s :: ss, b :: bs, hb => by
  simp only [zeB]
  rw [if_neg (by rw [hb b (by simp)]; simp)]
  exact over_ro fun x hx => hb x (by simp [hx])
theorem ziE {h : List Blk} {sel : List Nat} {h1 : List Blk} {ρ : Nat → Nat} (hl : h1.length = sel.length) (hb : ∀ b ∈ h1, b.rw = false) : zdK h sel h1 ρ = h := by
 unfold zdK
 rw [← hl, List.drop_length]
 simp only [over_ro hb, List.map_nil, List.append_nil]
 exact List.ext_getElem? fun k => by simp [List.getElem?_mapIdx]
abbrev Ans (V : Value) (h1 : List Blk) : zdX := fun v h' => v = V ∧ h' = h1
theorem callP {C : qW} {g : String} {vals : List Value} {K : zdX} {h : List Blk} {V : Value} (hC : C g vals [] (Ans V [])) (hv : vals.all vpf = true) (hV : vpf V = true) (hK : K V h) : zcl C g vals K h := by
 refine ⟨[], [], vals, _, hC, rfl, zbf fun v hm => qE (List.all_eq_true.1 hv v hm), by simp, by simp, ?_⟩
 rintro v h' ⟨rfl, rfl⟩ _ _
 refine ⟨fun _ q => q, ?_⟩
 rw [qE hV, ziE rfl (by simp)]
 exact hK
theorem zeO {C : qW} {g : String} {vals vs : List Value} {K : zdX} {h : List Blk} {V : Value} (hC : C g vs [] (Ans V [])) (hv : vals = vs) (hp : vs.all vpf = true) (hV : vpf V = true) (hK : K V h) : zcl C g vals K h := by
 subst hv; exact callP hC hp hV hK
theorem callR {C : qW} {g : String} {vals a1 : List Value} {K : zdX} {h : List Blk} {V : Value} {c : List Value} {rw : Bool} (k : Nat) (hC : C g a1 [.cells c false] (Ans V [.cells c false])) (hk : h[k]? = some (.cells c rw)) (hc : c.all zbz = true) (ha : a1.map (zbw (rho [k] h.length)) = vals) (hV : vpf V = true) (hK : K V h) : zcl C g vals K h := by
 refine ⟨[k], [.cells c false], a1, _, hC, rfl, ha, ?_, ?_, ?_⟩
 ·intro i k' b1 h1 h2
  match i with
  | 0 =>
   simp at h1 h2
   subst h1; subst h2
   exact ⟨_, hk, .inl (.inl (by rw [zbk hc]; exact ⟨rfl, by simp⟩))⟩
  | i + 1 => simp at h1
 ·intro i j k' b1 hij h1 h2
  match i, j with
  | 0, 0 => exact absurd rfl hij
  | 0, j + 1 => simp at h2
  | i + 1, _ => simp at h1
 ·rintro v h' ⟨rfl, rfl⟩ _ _
  refine ⟨fun _ q => q, ?_⟩
  rw [qE hV, ziE rfl (by simp [Blk.rw])]
  exact hK
theorem callRS {C : qW} {g : String} {vals pre : List Value} {K : zdX} {h : List Blk} {V : Value} {c : List Value} {rw : Bool} {l cp : Nat} (k : Nat) (hC : C g (pre ++ [.slice (some ⟨0, 0, none⟩) l cp]) [.cells c false] (Ans V [.cells c false])) (hk : h[k]? = some (.cells c rw)) (hc : c.all zbz = true) (hp : pre.all vpf = true)
  (ha : vals = pre ++ [.slice (some ⟨k, 0, none⟩) l cp]) (hV : vpf V = true) (hK : K V h) : zcl C g vals K h := by
 refine callR k hC hk hc ?_ hV hK
 rw [ha, List.map_append, zbf fun v hm => qE (List.all_eq_true.1 hp v hm)]
 rfl
theorem zbX {C : qW} {K : St → Prop} {d : Option Nat} {g : String} {args : List Opd} {r : List ICell} {s : St} (h : zcl C g (args.map (evf s.f)) (fun v h => zbg C r K ⟨zas s.f d v, h⟩) s.h) : zbg C (⟨d, .call g args, none⟩ :: r) K s := h
theorem zac {C : qW} {K : St → Prop} {l : List ICell} {s s' : St} (n : Nat) (h : zdi (l.take n) s = some s') (hk : zbg C (l.drop n) K s') : zbg C l K s := by
 have := zeY h hk
 rwa [List.take_append_drop] at this
theorem zex {f : Nat → Value} {g : Nat} {v : Value} (h : f g = v) : setf f g v = f := by
 funext i; unfold setf; split
 ·rename_i e; subst e; exact h.symm
 ·rfl
theorem zaT {C : qW} {K : St → Prop} {l : List ICell} {s : St} {b : Bool} (g : Nat) (hg : s.f g = .bool b) (h1 : b = true → zbg C l K ⟨setf s.f g (.bool true), s.h⟩) (h2 : b = false → zbg C l K ⟨setf s.f g (.bool false), s.h⟩) : zbg C l K s := by
 cases b with
 | true => have := h1 rfl; rwa [zex hg] at this
 | false => have := h2 rfl; rwa [zex hg] at this
theorem wpOps_ixA {C : qW} {K : St → Prop} {d : Option Nat} {r : List ICell} {s : St} {m : Option Nat} {size len : Nat} {ik : IntKind} {n : Int} {x i : Opd} {c : Array Value} {v : Value} (hx : evf s.f x = .agg c) (hi : evf s.f i = .int ik n) (hn : 0 ≤ n ∧ n < len) (hv : zam m c.toList (n.toNat * size) = some v)
  (hk : zbg C r K ⟨zas s.f d v, s.h⟩) : zbg C (⟨d, .ixA len size m x i, none⟩ :: r) K s :=
 zc2 (e := .no) rfl (by simp [zQ, hx, hi, hn, hv]) hk
theorem aggf_tup {v : Value} (h : zi1 v = true) : zbG v = false := by
 cases v <;> simp_all [zi1, zbz, zbG]
theorem vpf_one {l : List Value} (h : l.all zi1 = true) : vpf (one l) = true := by
 unfold one
 split
 ·rename_i v
  have : zi1 v = true := by simpa using h
  cases v <;> first | exact this | (simp [zi1, zbz] at this)
 ·simpa [vpf] using h
theorem zar {s : St} {res : List IRes} {h : List Blk} {V : Value} (l : List Value) (hr : zfD s res = some l) (hl : l.all zi1 = true) (hV : one l = V) (hh : s.h.take h.length = h) (hb : h.all ziT = true) :
  True ∧ ∃ l', zfD s res = some l' ∧ (∀ v ∈ l', zbG v = false) ∧ (Ans V h (one l') s.h ∨ (vpf (one l') = true ∧ (∀ b ∈ s.h.take h.length, ziT b = true) ∧ Ans V h (one l') (s.h.take h.length))) := by
 refine ⟨trivial, l, hr, fun v hv => aggf_tup (List.all_eq_true.1 hl v hv), .inr ⟨vpf_one hl, ?_, hV, hh⟩⟩
 rw [hh]; exact fun b hbm => List.all_eq_true.1 hb b hbm
theorem zeH {C : qW} {K : St → Prop} {d : Option Nat} {op : IOp} {g : Nat} {b : Bool} {r : List ICell} {s : St} (hg : s.f g = .bool b) (hk : zbg C (⟨d, op, none⟩ :: r) K s) : zbg C (⟨d, op, some (g, b)⟩ :: r) K s := by
 have : wp1 C ⟨d, op, some (g, b)⟩ (zbg C r K) s = wp1 C ⟨d, op, none⟩ (zbg C r K) s := by simp [wp1, hg]
 show wp1 C ⟨d, op, some (g, b)⟩ (zbg C r K) s
 rw [this]; exact hk
theorem wp1_mono {C : qW} {c : ICell} {K K' : St → Prop} {s : St} (hk : ∀ s, K s → K' s) (h : wp1 C c K s) : wp1 C c K' s := by
 unfold wp1 at *
 split at h
 ·exact zcm (fun v h => hk _) h
 ·split at h
  ·split at h
   ·rename_i hx; rw [if_pos hx]; exact zcm (fun v h => hk _) h
   ·rename_i hx; rw [if_neg hx]; exact hk _ h
  ·exact h
  ·exact hk _ h
theorem zi3 {C : qW} {K K' : St → Prop} (hk : ∀ s, K s → K' s) : ∀ {l : List ICell} {s : St}, zbg C l K s → zbg C l K' s
 | [], _, h => hk _ h
 | _ :: _, _, h => wp1_mono (fun _ => zi3 hk) h
theorem wpD_mono {C : qW} {un : Nat → Nat → Bool} {K K' : St → Prop} (hk : ∀ s, K s → K' s) : ∀ {l : List DCell} {log : List Foot} {s : St}, wpD C un l log K s → wpD C un l log K' s
 | [], _, _, h => hk _ h
 | _ :: _, _, _, h => zgX (fun _ _ => wpD_mono hk) h
theorem zcM {C : qW} {B : Nat} : ∀ {c : IC} {Q Q' : IExit → St → Prop} {s : St}, (∀ ex s, Q ex s → Q' ex s) → wpC C B c Q s → wpC C B c Q' s
 | .skip, _, _, _, hq, h => hq _ _ h
 | .reg ops, _, _, _, hq, h => zi3 (hq _) h
 | .dreg ops anc, _, _, _, hq, h => wpD_mono (hq _) h
 | .seq a b, _, _, _, hq, h => zcM (c := a) (fun ex s hs => by
   cases ex with
   | normal => obtain ⟨s0, h1, h2⟩ := hs; exact ⟨s0, h1, zcM (c := b) hq h2⟩
   | exit i => exact hq _ _ hs
   | goto i => exact hq _ _ hs
   | ret => exact hq _ _ hs) h
 | .cond c a b, _, _, _, hq, h => by
  simp only [wpC] at h ⊢
  split at h
  ·split at h
   ·rename_i hx; rw [if_pos hx]; exact zcM (c := a) hq h
   ·rename_i hx; rw [if_neg hx]; exact zcM (c := b) hq h
  ·exact h
 | .block id b, _, _, _, hq, h => zcM (c := b) (fun ex s hs => by
   cases ex with
   | normal => exact hq _ _ hs
   | exit i =>
    simp only at hs ⊢
    split at hs
    ·rename_i hx; rw [if_pos hx]; exact hq _ _ hs
    ·rename_i hx; rw [if_neg hx]; exact hq _ _ hs
   | goto i => exact hq _ _ hs
   | ret => exact hq _ _ hs) h
 | .loop b, _, _, _, hq, h => by
  obtain ⟨I, h1, h2⟩ := h
  refine ⟨I, h1, fun n s hI => zcM (c := b) (fun ex s hs => ?_) (h2 n s hI)⟩
  cases ex with
  | normal => exact hs
  | exit i => exact hq _ _ hs
  | goto i => exact hq _ _ hs
  | ret => exact hq _ _ hs
 | .label _, _, _, _, hq, h => hq _ _ h
 | .goto _, _, _, _, hq, h => hq _ _ h
 | .scp l r b, _, _, _, hq, h => by
  obtain ⟨I, h1, h2⟩ := h
  refine ⟨I, zcM (c := b) (fun ex s hs => ?_) h1, fun n s hI => zcM (c := r) (fun ex s hs => ?_) (h2 n s hI)⟩
  all_goals
   cases ex with
   | goto i =>
    simp only at hs ⊢
    split at hs
    ·rename_i hx; rw [if_pos hx]; exact hs
    ·rename_i hx; rw [if_neg hx]; exact hq _ _ hs
   | _ => exact hq _ _ hs
 | .exit id, _, _, _, hq, h => hq _ _ h
 | .ret, _, _, _, hq, h => hq _ _ h
 | .bad _, _, _, _, _, h => h
theorem zh0 {C : qW} {B : Nat} {a b : IC} {Q : IExit → St → Prop} {s : St} (M : St → Prop) (h1 : wpC C B a (fun ex s' => match ex with | .normal => ∃ s0, Wk B s' s0 ∧ M s0 | ex => Q ex s') s) (h2 : ∀ s, M s → wpC C B b Q s) : wpC C B (.seq a b) Q s :=
 zcM (c := a) (fun ex s hs => by
  cases ex with
  | normal => obtain ⟨s0, h3, h4⟩ := hs; exact ⟨s0, h3, h2 _ h4⟩
  | exit i => exact hs
  | goto i => exact hs
  | ret => exact hs) h1
theorem w64 {x : Int} (h0 : -9223372036854775808 ≤ x) (h1 : x ≤ 9223372036854775807) : i64.wrap x = x := IntWalk.i64_in x ⟨h0, h1⟩
end Go.Rh

set_option maxHeartbeats 4000000
namespace Go.Rh
def IOp.isCall : IOp → Bool
 | .call .. => true
 | _ => false
def IOp.callee : IOp → String
 | .call g _ => g
 | _ => ""
def IOp.touch (pu : List String) (op : IOp) : Bool := !op.rdl.isEmpty || (op.isCall && !(pu.any fun g => g == op.callee))
def meets (pu : List String) (x y : IOp) : Bool := (x.writes && y.touch pu) || (x.touch pu && y.writes) || (x.makes && y.touch pu)
def okA (anc : List (List Nat)) (all : List ICell) : Nat → List ICell → Bool
 | _, [] => true
 | i, c :: r => (!(Nat.beq (qC c.op) 2) || (Nat.beq (zau r) 0 && (List.range all.length).all fun k => Nat.ble k i || (all.getD k default).op.quiet || (List.range (i + 1)).all fun j => !(unA anc j k))) && okA anc all (i + 1) r
def okD (pu : List String) (ops : List ICell) (anc : List (List Nat)) : Bool :=
 okA anc ops 0 ops &&
 ops.all (fun c => !(c.op.makes && c.guard.isSome) && (qC c.op).ble 2) &&
 (List.range ops.length).all fun i => (List.range i).all fun j => !(unA anc j i) || !(meets pu (ops.getD j default).op (ops.getD i default).op)
def zfv (C : qW) (pu : Bool) (g : String) (vals : List Value) (K : Value → List Blk → Prop) (h : List Blk) : Prop :=
 ∃ (sel : List Nat) (h1 : List Blk) (a1 : List Value) (V : Value), C g a1 h1 (Ans V h1) ∧ h1.length = sel.length ∧ (∀ n, a1.map (zbw (rho sel n)) = vals) ∧
  (∀ n (i k : Nat) b1, sel[i]? = some k → h1[i]? = some b1 → ∃ b, h[k]? = some b ∧ b ≠ .gone ∧ Blk.seen (zaR (rho sel n) b1) b) ∧
  (∀ b ∈ h1, b.rw = false) ∧ (pu = true → sel = []) ∧ vpf V = true ∧ K V h
def wpR (C : qW) (pu : List String) : List ICell → (St → Prop) → St → Prop
 | [], K, s => K s
 | c :: r, K, s => match c.guard with
  | none => (match c.op with
   | .call g args => zfv C (pu.any fun x => x == g) g (args.map (evf s.f)) (fun v h => wpR C pu r K ⟨zas s.f c.dst v, h⟩) s.h
   | .app z n b x y => zfQ C (.app z n b x y) s.f s.h (fun v h => wpR C pu r K ⟨zas s.f c.dst v, h⟩)
   | op => match zQ op (evf s.f) (hf s.h) s.h.length with
    | some (v, e) => wpR C pu r K ⟨zas s.f c.dst v, e.on s.h⟩
    | none => False)
  | some (g, b) => match s.f g with
   | .bool x => if x = b then (match c.op with
    | .call g args => zfv C (pu.any fun x => x == g) g (args.map (evf s.f)) (fun v h => wpR C pu r K ⟨zas s.f c.dst v, h⟩) s.h
    | .app z n b x y => zfQ C (.app z n b x y) s.f s.h (fun v h => wpR C pu r K ⟨zas s.f c.dst v, h⟩)
    | op => match zQ op (evf s.f) (hf s.h) s.h.length with
     | some (v, e) => wpR C pu r K ⟨zas s.f c.dst v, e.on s.h⟩
     | none => False) else wpR C pu r K ⟨zas s.f c.dst undef, s.h⟩
   | .complex _ _ _ => False
   | _ => wpR C pu r K ⟨zas s.f c.dst undef, s.h⟩
def actR (C : qW) (pu : List String) (op : IOp) (K : Value → List Blk → Prop) (s : St) : Prop := match op with
 | .call g args => zfv C (pu.any fun x => x == g) g (args.map (evf s.f)) K s.h
 | .app z n b x y => zfQ C (.app z n b x y) s.f s.h K
 | op => match zQ op (evf s.f) (hf s.h) s.h.length with
  | some (v, e) => K v (e.on s.h)
  | none => False
theorem wpR_cons {C : qW} {pu : List String} {c : ICell} {r : List ICell} {K : St → Prop} {s : St} (h : wpR C pu (c :: r) K s) :
  gJ c s.f = false ∧ (zb0 c s.f = true → actR C pu c.op (fun v h => wpR C pu r K ⟨zas s.f c.dst v, h⟩) s) ∧ (zb0 c s.f = false → wpR C pu r K ⟨zas s.f c.dst undef, s.h⟩) := by
 obtain ⟨d, op, gd⟩ := c
 unfold wpR at h
 unfold gJ zb0
 cases gd with
 | none =>
  simp only at h ⊢
  refine ⟨trivial, fun _ => ?_, by simp⟩
  unfold actR
  exact h
 | some gb =>
  obtain ⟨g, b⟩ := gb
  simp only at h ⊢
  cases hg : s.f g with
  | bool x =>
   simp only [hg] at h ⊢
   by_cases hx : x = b
   ·rw [if_pos hx] at h
    refine ⟨trivial, fun _ => ?_, by simp [hx]⟩
    unfold actR; exact h
   ·rw [if_neg hx] at h
    exact ⟨trivial, by simp [hx], fun _ => h⟩
  | complex k r i => rw [hg] at h; exact h.elim
  | _ => rw [hg] at h; exact ⟨rfl, by simp, fun _ => h⟩
theorem stepE_rd {op : IOp} {e : Opd → Value} {h : Nat → Option Blk} {n : Nat} {r : Value × Eff} (hs : zQ op e h n = some r) : ∀ k ∈ rdE op e, h k ≠ none := by
 cases op with
 | ld m a =>
  simp only [zQ] at hs
  split at hs <;> try cases hs
  rename_i hv
  unfold ldV at hv
  split at hv <;> try cases hv
  rename_i hx
  split at hv <;> try cases hv
  rename_i hh
  intro k hk
  simp [rdE, IOp.rdl, hx, zbZ] at hk
  subst hk; rw [hh]; simp
 | st m x y =>
  simp only [zQ] at hs
  split at hs <;> cases hs
  rename_i hf
  unfold stV at hf
  split at hf <;> try cases hf
  rename_i hx
  split at hf <;> try cases hf
  split at hf <;> try cases hf
  rename_i hh
  intro k hk
  simp [rdE, IOp.rdl, hx, zbZ] at hk
  subst hk; rw [hh]; simp
 | cbs x =>
  simp only [zQ] at hs
  split at hs <;> try cases hs
  ·rename_i hx; intro k hk; simp [rdE, IOp.rdl, hx, zbZ] at hk
  ·rename_i hx
   split at hs <;> try cases hs
   rename_i hfi
   unfold first at hfi
   simp only at hfi
   split at hfi <;> try cases hfi
   rename_i hh
   intro k hk
   simp [rdE, IOp.rdl, hx, zbZ] at hk
   subst hk; rw [hh]; simp
 | lenM x =>
  simp only [zQ] at hs
  split at hs <;> try cases hs
  ·rename_i hx; intro k hk; simp [rdE, IOp.rdl, hx, zbZ] at hk
  ·rename_i hx
   split at hs <;> try cases hs
   rename_i hh
   intro k hk
   simp [rdE, IOp.rdl, hx, zbZ] at hk
   subst hk; rw [hh]; simp
 | lenC x =>
  simp only [zQ] at hs
  split at hs <;> try cases hs
  rename_i hx
  split at hs <;> try cases hs
  rename_i hh
  intro k hk
  simp [rdE, IOp.rdl, hx, zbZ] at hk
  subst hk; rw [hh]; simp
 | cpy z d x =>
  simp only [zQ] at hs
  split at hs <;> try cases hs
  rename_i a dl dc sl hd hl
  split at hs <;> try cases hs
  rename_i c hc
  have h1 : ∀ k ∈ zbZ (e x), h k ≠ none := by
   intro k hk
   unfold first at hc
   split at hc
   ·rename_i hx
    split at hc <;> try cases hc
    rename_i hh
    rw [hx] at hk; simp [zbZ] at hk; subst hk; rw [hh]; simp
   ·rename_i hx; rw [hx] at hk; simp [zbZ] at hk
   ·rename_i hx; rw [hx] at hk; simp [zbZ] at hk
   ·cases hc
  have h2 : ∀ k ∈ zbZ (e d), h k ≠ none := by
   intro k hk
   rw [hd] at hk
   cases a with
   | none => simp [zbZ] at hk
   | some ad =>
    simp [zbZ] at hk; subst hk
    split at hs
    ·rename_i hq; cases hq
     split at hs
     ·rename_i hh; rw [hh]; simp
     ·cases hs
    ·rename_i hq; cases hq
    ·cases hs
  intro k hk
  simp only [rdE, IOp.rdl, List.flatMap_cons, List.flatMap_nil, List.append_nil, List.mem_append] at hk
  rcases hk with hk | hk
  ·exact h2 k hk
  ·exact h1 k hk
 | lku kt z ag ok m y =>
  simp only [zQ] at hs
  split at hs <;> try cases hs
  split at hs <;> try cases hs
  ·rename_i hx; intro k hk; simp [rdE, IOp.rdl, hx, zbZ] at hk
  ·rename_i hx
   split at hs <;> try cases hs
   rename_i hh
   intro k hk
   simp [rdE, IOp.rdl, hx, zbZ] at hk
   subst hk; rw [hh]; simp
 | mup kt m x y =>
  simp only [zQ] at hs
  split at hs <;> try cases hs
  split at hs <;> try cases hs
  rename_i hx
  split at hs <;> try cases hs
  rename_i hh
  intro k hk
  simp [rdE, IOp.rdl, hx, zbZ] at hk
  subst hk; rw [hh]; simp
 | _ => intro k hk; simp [rdE, IOp.rdl] at hk
theorem makes_nw {op : IOp} (h : op.makes = true) : op.writes = false := by
 cases op <;> first | rfl | cases h
theorem ziq {op : IOp} (h : op.makes = true) : op.rdl = [] := by
 cases op <;> first | rfl | cases h
structure Lg (pu : List String) (ops : List ICell) (h : List Blk) (m : Nat) (y : Foot) : Prop where
  lt : y.i < m
  wr : y.wr ≠ [] → (ops.getD y.i default).op.writes = true ∨ (ops.getD y.i default).op.makes = true
  rd : y.rd ≠ [] → (ops.getD y.i default).op.touch pu = true
  ex : ∀ k ∈ y.rd ++ y.wr, hf h k ≠ none
  top : y.top = none ∨ y.top = some h.length
theorem Lg.mono {pu : List String} {ops : List ICell} {h h' : List Blk} {m m' : Nat} {y : Foot} (L : Lg pu ops h m y) (hm : m ≤ m') (hl : h'.length = h.length) (he : ∀ k, hf h k ≠ none → hf h' k ≠ none) : Lg pu ops h' m' y :=
 ⟨Nat.lt_of_lt_of_le L.lt hm, L.wr, L.rd, fun k hk => he k (L.ex k hk), by rw [hl]; exact L.top⟩
theorem below_all {t : Option Nat} {l : List Nat} {n : Nat} (ht : t = none ∨ t = some n) (hl : ∀ k ∈ l, k < n) : below t l := by
 rcases ht with rfl | rfl
 ·trivial
 ·exact hl
theorem lg_apart {pu : List String} {ops : List ICell} {h : List Blk} {i : Nat} {x y : Foot} (hm : meets pu (ops.getD y.i default).op (ops.getD i default).op = false) (L : Lg pu ops h i y)
  (xwr : x.wr ≠ [] → (ops.getD i default).op.writes = true ∨ ((ops.getD i default).op.makes = true ∧ x.rd = [] ∧ ∀ k ∈ x.wr, hf h k = none ∧ k < h.length))
  (xrd : x.rd ≠ [] → (ops.getD i default).op.touch pu = true) (xex : ∀ k ∈ x.rd, hf h k ≠ none) (xws : (ops.getD i default).op.writes = true → ∀ k ∈ x.wr, k ∈ x.rd) (xtop : x.top = none ∨ x.top = some h.length) : Foot.apart y x := by
 simp only [meets, Bool.or_eq_false_iff] at hm
 obtain ⟨⟨m1, m2⟩, m3⟩ := hm
 have ylt : ∀ k ∈ y.rd ++ y.wr, k < h.length := fun k hk => zhc (L.ex k hk)
 have nilOf : ∀ {l : List Nat} {k : Nat}, k ∈ l → l ≠ [] := fun hk e => by rw [e] at hk; cases hk
 have xnew : ∀ k ∈ x.wr, k ∉ x.rd → hf h k = none ∧ k < h.length := fun k hk hn => by
  rcases xwr (nilOf hk) with hw | ⟨_, _, h3⟩
  ·exact absurd (xws hw k hk) hn
  ·exact h3 k hk
 have xlt : ∀ k ∈ x.rd ++ x.wr, k < h.length := fun k hk => by
  by_cases hr : k ∈ x.rd
  ·exact zhc (xex k hr)
  ·rcases List.mem_append.1 hk with h1 | h1
   ·exact absurd h1 hr
   ·exact (xnew k h1 hr).2
 refine ⟨fun k hk => ?_, fun k hk hy => ?_, below_all L.top xlt, below_all xtop ylt⟩
 ·have hnt : (ops.getD i default).op.touch pu = false := by
   rcases L.wr (nilOf hk) with hw | hw
   ·rw [hw] at m1; simpa using m1
   ·rw [hw] at m3; simpa using m3
  have hxr : x.rd = [] := by
   cases hq : x.rd with
   | nil => rfl
   | cons a l => have := xrd (by rw [hq]; simp); rw [hnt] at this; cases this
  refine ⟨by rw [hxr]; simp, fun hxw => ?_⟩
  have := (xnew k hxw (by rw [hxr]; simp)).1
  exact L.ex k (List.mem_append_right _ hk) this
 ·rcases xwr (nilOf hk) with hw | ⟨_, _, h3⟩
  ·rw [hw] at m2
   have := L.rd (nilOf hy)
   rw [this] at m2; cases m2
  ·exact L.ex k (List.mem_append_left _ hy) (h3 k hk).1
theorem wpD_nid {C : qW} {un : Nat → Nat → Bool} {K : St → Prop} : ∀ {l : List ICell} {i n n' : Nat} {log : List Foot} {s : St}, zau l = 0 → wpD C un (zbA i n l) log K s → wpD C un (zbA i n' l) log K s
 | [], _, _, _, _, _, _, h => h
 | c :: r, i, n, n', log, s, hm, h => by
  have hc : c.op.makes = false := by
   cases hq : c.op.makes with
   | false => rfl
   | true => simp [zau, hq] at hm
  have hr : zau r = 0 := by simpa [zau, hc] using hm
  simp only [zbA, hc, if_false, Bool.false_eq_true] at h ⊢
  show za8 C un ⟨i, n', c⟩ log (fun log' s' => wpD C un (zbA (i + 1) n' r) log' K s') s
  have h : za8 C un ⟨i, n, c⟩ log (fun log' s' => wpD C un (zbA (i + 1) n r) log' K s') s := h
  have h := zgX (fun l s => wpD_nid (n' := n') hr) h
  unfold za8 at h ⊢
  split at h
  ·rename_i hg; rw [if_pos hg]; exact h
  rename_i hg
  rw [if_neg hg]
  split at h
  ·rename_i hw
   rw [if_pos hw]
   split at h
   ·rename_i hop
    simp only at hop
    simp only [hop]
    exact h
   ·rename_i hnc
    split at h
    ·rename_i hsp
     rw [if_pos hsp]
     simp only at h ⊢
     rw [zh2 (n := n') (n' := n) hc]
     cases hs : zQ c.op (evf s.f) (hf s.h) n with
     | none => rw [hs] at h; exact h
     | some q =>
      obtain ⟨v, e⟩ := q
      rw [hs] at h
      simp only at h ⊢
      rcases zgv hs with ⟨hm', _⟩ | ⟨_, rfl | ⟨_, k, b, rfl⟩⟩
      ·rw [hc] at hm'; cases hm'
      ·exact h
      ·exact h
    ·rename_i hsp; rw [if_neg hsp]; exact h
  ·rename_i hw; rw [if_neg hw]; exact h
theorem okA_at {anc : List (List Nat)} {n : List ICell} : ∀ {r : List ICell} {i : Nat}, okA anc n i r = true → ∀ {j : Nat} {c : ICell}, r[j]? = some c → qC c.op = 2 → zau (r.drop (j + 1)) = 0 ∧ ∀ k, k < n.length → i + j < k → ∀ q, q ≤ i + j → unA anc q k = false ∨ (n.getD k default).op.quiet = true
 | [], _, _, j, _, h1, _ => by simp at h1
 | c :: r, i, h, 0, c', h1, h2 => by
  simp at h1; subst h1
  simp only [okA, Bool.and_eq_true, h2] at h
  obtain ⟨h3, _⟩ := h
  simp only [Nat.beq_refl, Bool.not_true, Bool.false_or, Bool.and_eq_true] at h3
  refine ⟨by have := h3.1; simpa using this, fun k hk hik q hq => ?_⟩
  have h4 := List.all_eq_true.1 h3.2 k (by simp [hk])
  simp only [Bool.or_eq_true, Nat.ble_eq] at h4
  rcases h4 with (h4 | h4) | h4
  ·omega
  ·exact .inr h4
  ·have := List.all_eq_true.1 h4 q (by simp; omega)
   exact .inl (by simpa using this)
 | c :: r, i, h, j + 1, c', h1, h2 => by
  simp only [okA, Bool.and_eq_true] at h
  have := okA_at h.2 (j := j) (c := c') (by simpa using h1) h2
  refine ⟨by simpa using this.1, fun k hk hik q hq => this.2 k hk (by omega) q (by omega)⟩
theorem quiet_rd {op : IOp} {e : Opd → Value} (hq : op.quiet = true) : rdE op e = [] := by
 simp only [IOp.quiet, Bool.and_eq_true, List.isEmpty_iff] at hq
 unfold rdE; rw [hq.2]; rfl
theorem set_app {h t : List Blk} {k : Nat} {b : Blk} (hk : k < h.length) : (h ++ t).set k b = h.set k b ++ t := List.set_append_left _ _ hk
theorem set_gone {h : List Blk} {m : Nat} {b : Blk} : (h ++ List.replicate (m + 1) Blk.gone).set h.length b = (h ++ [b]) ++ List.replicate m .gone := by
 rw [List.set_append_right _ _ (Nat.le_refl _)]
 simp [List.replicate_succ]
theorem zdb {h : List Blk} {m : Nat} : hf (h ++ List.replicate m .gone) = hf h := zhD
theorem zdY {C : qW} {pu : List String} {anc : List (List Nat)} {all : List ICell} {K : St → Prop} (hok : okD pu all anc = true) : ∀ (r : List ICell) (i : Nat), (∀ j, r[j]? = all[i + j]?) → ∀ (log : List Foot) (s : St), (∀ y ∈ log, Lg pu all (s.h ++ List.replicate (zau r) .gone) i y ∨ ∀ k, i ≤ k → k < all.length → unA anc y.i k = false ∨ (all.getD k default).op.quiet = true) → wpR C pu r K s →
  wpD C (unA anc) (zbA i s.h.length r) log K ⟨s.f, s.h ++ List.replicate (zau r) .gone⟩
 | [], i, _, log, s, _, h => by simpa [zau, wpR, zbA, wpD] using h
 | c :: r, i, hall, log, s, hL, h => by
  have hc : all[i]? = some c := by have := hall 0; simpa using this.symm
  have hil := zJ hc
  have hgd : all.getD i default = c := by simp [hc]
  have hall' : ∀ j, r[j]? = all[i + 1 + j]? := fun j => by have := hall (j + 1); rw [List.getElem?_cons_succ] at this; rw [this]; congr 1; omega
  have hk := hok
  simp only [okD, Bool.and_eq_true] at hk
  obtain ⟨⟨hkA, hk1⟩, hk2⟩ := hk
  have hk1 := List.all_eq_true.1 hk1 c (List.mem_of_getElem? hc)
  simp only [Bool.and_eq_true, Bool.not_eq_true', Nat.ble_eq] at hk1
  obtain ⟨hmg, hspc⟩ := hk1
  have hmeet : ∀ j, j < i → unA anc j i = true → meets pu (all.getD j default).op c.op = false := fun j hj hu => by
   have h1 := List.all_eq_true.1 hk2 i (by simp [hil])
   have h2 := List.all_eq_true.1 h1 j (by simp [hj])
   simp only [hu, hgd, Bool.not_true, Bool.false_or, Bool.not_eq_true'] at h2
   exact h2
  have hfit : ∀ (x : Foot), x.i = i → (x.wr ≠ [] → c.op.writes = true ∨ (c.op.makes = true ∧ x.rd = [] ∧ ∀ k ∈ x.wr, hf (s.h ++ List.replicate (zau (c :: r)) .gone) k = none ∧ k < (s.h ++ List.replicate (zau (c :: r)) Blk.gone).length)) →
    (x.rd ≠ [] → c.op.touch pu = true) → (∀ k ∈ x.rd, hf (s.h ++ List.replicate (zau (c :: r)) .gone) k ≠ none) → (c.op.writes = true → ∀ k ∈ x.wr, k ∈ x.rd) → (x.top = none ∨ x.top = some (s.h ++ List.replicate (zau (c :: r)) Blk.gone).length) → (c.op.quiet = true → x.none? = true) → fits (unA anc) x log := by
   intro x hxi h1 h2 h3 h4 h5 h6 y hy
   rcases hL y hy with L | L
   rotate_left
   ·rcases L i (Nat.le_refl _) hil with L | L
    ·exact .inr (by rw [hxi]; exact L)
    ·exact .inl (Foot.apart.symm (zfI (h6 (by rw [hgd] at L; exact L))))
   cases hu : unA anc y.i x.i with
   | false => exact .inr rfl
   | true =>
    refine .inl (lg_apart (i := i) (by rw [hgd]; rw [hxi] at hu; exact hmeet y.i L.lt hu) L ?_ ?_ h3 ?_ h5)
    ·rw [hgd]; exact h1
    ·rw [hgd]; exact h2
    ·rw [hgd]; exact h4
  obtain ⟨h1, h2, h3⟩ := wpR_cons h
  show za8 C (unA anc) ⟨i, s.h.length, c⟩ log (fun log' s' => wpD C (unA anc) (zbA (i + 1) (if c.op.makes then s.h.length + 1 else s.h.length) r) log' K s') ⟨s.f, s.h ++ List.replicate (zau (c :: r)) .gone⟩
  unfold za8
  simp only [h1, if_false, Bool.false_eq_true]
  cases hw : zb0 c s.f with
  | false =>
   simp only [if_false, Bool.false_eq_true]
   have hnm : c.op.makes = false := by
    cases hm : c.op.makes with
    | false => rfl
    | true =>
     rw [hm] at hmg
     have : c.guard = none := by simpa using hmg
     unfold zb0 at hw; rw [this] at hw; cases hw
   have hmk : zau (c :: r) = zau r := by simp [zau, hnm]
   rw [hmk] at hL ⊢
   simp only [hnm, if_false, Bool.false_eq_true]
   exact zdY hok r (i + 1) hall' log ⟨zas s.f c.dst undef, s.h⟩ (fun y hy => (hL y hy).imp (fun L => L.mono (by omega) rfl fun _ h => h) fun L k hk => L k (by omega)) (h3 hw)
  | true =>
   simp only [if_true]
   have h2 := h2 hw
   clear h3
   split
   ·rename_i g args hop
    unfold actR at h2
    rw [hop] at h2
    simp only at h2
    obtain ⟨sel, h1', a1, V, e1, e2, e3, e4, e5, e6, e7, e8⟩ := h2
    have hnm : c.op.makes = false := by rw [hop]; rfl
    have hmk : zau (c :: r) = zau r := by simp [zau, hnm]
    have hwrs : zcL sel h1' = [] := by
     have : ∀ (sel : List Nat) (h : List Blk), (∀ b ∈ h, b.rw = false) → zcL sel h = [] := by
      intro sel
      induction sel with
      | nil => intro h _; rfl
      | cons a l ih =>
       intro h hb
       cases h with
       | nil => rfl
       | cons b t => simp only [zcL]; rw [if_neg (by rw [hb b (by simp)]; simp)]; exact ih t fun x hx => hb x (by simp [hx])
     exact this sel h1' e5
    have hex : ∀ k ∈ sel, hf (s.h ++ List.replicate (zau (c :: r)) .gone) k ≠ none := by
     intro k hk
     obtain ⟨j, hj⟩ := List.mem_iff_getElem?.1 hk
     have hjl := zJ hj
     obtain ⟨b, hb, hbg, _⟩ := e4 0 j k (h1'[j]'(by omega)) hj (by simp [show j < h1'.length by omega])
     rw [zdb, zav.2 ⟨hb, hbg⟩]; simp
    have htc : sel ≠ [] → c.op.touch pu = true := by
     intro hs
     rw [hop]
     have : (pu.any fun x => x == g) = false := by
      cases hq : (pu.any fun x => x == g) with
      | false => rfl
      | true => exact absurd (e6 hq) hs
     have h3 : (pu.any fun x => x == IOp.callee (.call g args)) = false := this
     simp [IOp.touch, IOp.isCall, h3]
    refine ⟨sel, h1', a1, _, e1, e2, e3 _, ?_, ?_, ?_, fun _ => ⟨V, h1', ⟨rfl, rfl⟩, by omega, fun k b b' q1 q2 => by rw [q1] at q2; cases q2; rfl⟩, ?_⟩
    ·intro j k b1 q1 q2
     obtain ⟨b, hb, _, hsn⟩ := e4 (s.h ++ List.replicate (zau (c :: r)) Blk.gone).length j k b1 q1 q2
     exact ⟨b, by rw [List.getElem?_append_left (zJ hb)]; exact hb, .inl (.inl hsn)⟩
    ·intro j j' k b1 _ _ _ q; exact e5 b1 (List.mem_of_getElem? q)
    ·refine hfit _ rfl ?_ htc hex ?_ (.inr rfl) (fun q => by rw [hop] at q; simp [IOp.quiet, qC] at q)
     ·rw [hwrs]; intro q; exact absurd rfl q
     ·rw [hwrs]; intro _ k hk; cases hk
    ·rintro v h'' ⟨rfl, rfl⟩ _ _
     refine ⟨fun _ q => q, ?_⟩
     rw [qE e7, ziE e2 e5]
     rw [hmk] at hL ⊢
     simp only [hnm, if_false, Bool.false_eq_true]
     refine zdY hok r (i + 1) hall' _ ⟨zas s.f c.dst v, s.h⟩ (fun y hy => ?_) e8
     rcases List.mem_cons.1 hy with rfl | hy
     ·refine .inl ⟨by simp, by rw [hwrs]; intro q; exact absurd rfl q, ?_, ?_, .inr rfl⟩
      ·intro hs; simp only; rw [hgd]; exact htc hs
      ·rw [hwrs, List.append_nil]; rw [hmk] at hex; exact hex
     ·exact (hL y hy).imp (fun L => L.mono (by omega) rfl fun _ h => h) fun L k hk => L k (by omega)
   ·rename_i hncall
    by_cases hsp : qC c.op = 0
    rotate_left
    ·-- append
     rw [if_neg hsp]
     obtain ⟨z, n, b, x, y, hop⟩ : ∃ z n b x y, c.op = .app z n b x y := by
      have hsp1 := hspc
      cases hop : c.op <;> rw [hop] at hsp1 hsp <;> first | exact ⟨_, _, _, _, _, rfl⟩ | (exact absurd rfl hsp) | (exact absurd hop (hncall _ _)) | (simp [qC] at hsp1)
     have hA := okA_at (r := all) (i := 0) hkA hc (by rw [hop]; rfl)
     have hdr : all.drop (i + 1) = r := List.ext_getElem? fun j => by rw [List.getElem?_drop]; exact (hall' j).symm
     rw [hdr] at hA
     have hnm : c.op.makes = false := by rw [hop]; rfl
     have hmk : zau (c :: r) = 0 := by simp [zau, hnm, hA.1]
     unfold actR at h2
     rw [hop] at h2
     simp only at h2
     rw [hop, hmk]
     simp only [List.replicate_zero, List.append_nil]
     refine zcm (fun v h' hw' => ?_) h2
     simp only [IOp.makes, if_false, Bool.false_eq_true]
     refine wpD_nid (n := h'.length) hA.1 ?_
     have := zdY hok r (i + 1) hall' log ⟨zas s.f c.dst v, h'⟩ (fun y hy => .inr fun k hk hkl => ?_) hw'
     ·simpa [hA.1] using this
     ·rcases hL y hy with L | L
      ·exact hA.2 k hkl (by omega) y.i (by have := L.lt; omega)
      ·exact L k (by omega) hkl
    rw [if_pos hsp]
    have hact : (match zQ c.op (evf s.f) (hf s.h) s.h.length with
      | some (v, e) => wpR C pu r K ⟨zas s.f c.dst v, e.on s.h⟩
      | none => False) := by
     unfold actR at h2
     cases hop : c.op <;> rw [hop] at h2 hsp <;> first | exact h2 | (exact absurd hop (hncall _ _)) | (cases hsp)
    rw [zdb]
    cases hst : zQ c.op (evf s.f) (hf s.h) s.h.length with
    | none => rw [hst] at hact; exact hact.elim
    | some q =>
     obtain ⟨v, e⟩ := q
     rw [hst] at hact
     simp only at hact ⊢
     have hrd : ∀ k ∈ rdE c.op (evf s.f), hf (s.h ++ List.replicate (zau (c :: r)) .gone) k ≠ none := by
      rw [zdb]; exact stepE_rd hst
     have htc : rdE c.op (evf s.f) ≠ [] → c.op.touch pu = true := by
      intro hr
      cases hq : c.op.rdl with
      | nil => unfold rdE at hr; rw [hq] at hr; exact absurd rfl hr
      | cons a l => simp [IOp.touch, hq]
     rcases zgv hst with ⟨hm, b, rfl⟩ | ⟨hnm, rfl | ⟨hwr, k, b, rfl⟩⟩
     ·-- makes
      have hmk : zau (c :: r) = zau r + 1 := by simp [zau, hm]
      have hrn : rdE c.op (evf s.f) = [] := by
       unfold rdE
       rw [ziq hm]; rfl
      have hgone : (s.h ++ List.replicate (zau (c :: r)) Blk.gone)[s.h.length]? = some .gone := by
       rw [hmk, List.getElem?_append_right (Nat.le_refl _)]; simp [List.replicate_succ]
      refine ⟨hgone, ?_, ?_⟩
      ·refine hfit _ rfl (fun _ => .inr ⟨hm, hrn, fun k hk => ?_⟩) htc hrd ?_ (.inl rfl) (fun q => by simp [IOp.quiet, hm] at q)
       ·simp only [Eff.wr, List.mem_singleton] at hk
        subst hk
        exact ⟨zda hgone, zJ hgone⟩
       ·intro hw; rw [makes_nw hm] at hw; cases hw
      ·have hxn : zgs ⟨i, rdE c.op (evf s.f), Eff.wr s.h.length (.push b), none⟩ log = ⟨i, rdE c.op (evf s.f), [s.h.length], none⟩ :: log := by
        simp [zgs, Foot.none?, Eff.wr]
       rw [hxn]
       simp only [hm, if_true, Eff.onR, Eff.on] at hact ⊢
       rw [hmk, set_gone]
       have hh : (s.h ++ [b]).length = s.h.length + 1 := by simp
       rw [← hh]
       have hb : b ≠ .gone := by
        rintro rfl
        cases hop : c.op <;> rw [hop] at hm hst <;> first | cases hm | skip
        all_goals
         simp only [zQ] at hst
         (repeat' (split at hst)) <;> cases hst
       have hstep : ∀ k, hf (s.h ++ List.replicate (zau (c :: r)) .gone) k ≠ none → hf ((s.h ++ [b]) ++ List.replicate (zau r) .gone) k ≠ none := by
        intro k hk
        rw [zdb] at hk ⊢
        have hkl := zhc hk
        unfold hf at hk ⊢
        rwa [List.getElem?_append_left hkl]
       refine zdY hok r (i + 1) hall' _ ⟨zas s.f c.dst v, s.h ++ [b]⟩ (fun y hy => ?_) hact
       rcases List.mem_cons.1 hy with rfl | hy
       ·refine .inl ⟨by simp, fun _ => .inr (by simp only; rw [hgd]; exact hm), by simp only; rw [hrn]; intro q; exact absurd rfl q, ?_, .inl rfl⟩
        intro k hk
        simp only [hrn, List.nil_append, List.mem_singleton] at hk
        subst hk
        rw [zdb]
        have : hf (s.h ++ [b]) s.h.length = some b := zav.2 ⟨by simp, hb⟩
        simp only [this]; simp
       ·exact (hL y hy).imp (fun L => L.mono (by omega) (by simp [hmk] <;> omega) hstep) fun L k hk => L k (by omega)
     ·-- nothing
      have hmk : zau (c :: r) = zau r := by simp [zau, hnm]
      refine ⟨trivial, ?_, ?_⟩
      ·exact hfit _ rfl (fun q => absurd rfl q) htc hrd (fun _ k hk => by simp [Eff.wr] at hk) (.inl rfl) (fun q => by
        have hr := quiet_rd (e := evf s.f) q
        simp [Foot.none?, hr, Eff.wr])
      ·simp only [hnm, if_false, Bool.false_eq_true, Eff.onR, Eff.on] at hact ⊢
       rw [hmk] at hL hrd ⊢
       refine zdY hok r (i + 1) hall' _ ⟨zas s.f c.dst v, s.h⟩ (fun y hy => ?_) hact
       rcases zgG hy with rfl | hy
       ·refine .inl ⟨by simp, fun q => absurd rfl q, fun q => by simp only; rw [hgd]; exact htc q, ?_, .inl rfl⟩
        simp only [Eff.wr, List.append_nil]; exact hrd
       ·exact (hL y hy).imp (fun L => L.mono (by omega) rfl fun _ h => h) fun L k hk => L k (by omega)
     ·-- writes
      have hmk : zau (c :: r) = zau r := by simp [zau, hnm]
      have hset := zeZ hst
      have hkl := zhc hset.1
      have hkr := zei hst
      refine ⟨trivial, ?_, ?_⟩
      ·refine hfit _ rfl (fun _ => .inl hwr) htc hrd (fun _ j hj => ?_) (.inl rfl) (fun q => by rw [quiet_rd q] at hkr; cases hkr)
       simp only [Eff.wr, List.mem_singleton] at hj; subst hj; exact hkr
      ·simp only [hnm, if_false, Bool.false_eq_true, Eff.onR, Eff.on] at hact ⊢
       rw [hmk] at hL hrd ⊢
       rw [set_app hkl]
       have hlen : (s.h.set k b).length = s.h.length := by simp
       rw [← hlen]
       have hstep : ∀ j, hf (s.h ++ List.replicate (zau r) .gone) j ≠ none → hf (s.h.set k b ++ List.replicate (zau r) .gone) j ≠ none := by
        intro j hj
        rw [zdb] at hj ⊢
        by_cases hjk : j = k
        ·subst hjk
         rw [zav.2 ⟨by simp [hkl], hset.2⟩]; simp
        ·unfold hf at hj ⊢
         rwa [List.getElem?_set_ne (Ne.symm hjk)]
       refine zdY hok r (i + 1) hall' _ ⟨zas s.f c.dst v, s.h.set k b⟩ (fun y hy => ?_) hact
       rcases zgG hy with rfl | hy
       ·refine .inl ⟨by simp, fun _ => .inl (by simp only; rw [hgd]; exact hwr), fun q => by simp only; rw [hgd]; exact htc q, ?_, .inl rfl⟩
        intro j hj
        simp only [Eff.wr, List.mem_append, List.mem_singleton] at hj
        rcases hj with hj | rfl
        ·exact hstep j (hrd j hj)
        ·exact hstep j (hrd j hkr)
       ·exact (hL y hy).imp (fun L => L.mono (by omega) (by simp) hstep) fun L k hk => L k (by omega)
theorem wpD_of_R {C : qW} (pu : List String) {anc : List (List Nat)} {ops : List ICell} {K : St → Prop} {s : St} (hok : okD pu ops anc = true) (h : wpR C pu ops K s) :
  wpD C (unA anc) (zbA 0 s.h.length ops) [] K ⟨s.f, s.h ++ List.replicate (zau ops) .gone⟩ :=
 zdY hok ops 0 (fun j => by simp) [] s (by simp) h
theorem wpC_dreg {C : qW} {B : Nat} (pu : List String) {anc : List (List Nat)} {ops : List ICell} {Q : IExit → St → Prop} {s : St} (hok : okD pu ops anc = true) (h : wpR C pu ops (Q .normal) s) : wpC C B (.dreg ops anc) Q s :=
 wpD_of_R pu hok h
end Go.Rh

namespace Go.Rh
abbrev iv (x : Int) : Value := .int .i64 x
abbrev uv (x : Int) : Value := .int .u64 x
abbrev bv (x : Bool) : Value := .bool x
abbrev pv (k o : Nat) : Value := .pointer (some ⟨k, o, none⟩)
abbrev sv (k o l c : Nat) : Value := .slice (some ⟨k, o, none⟩) l c
abbrev cw (l : List Value) : Blk := .cells l true
abbrev cr (l : List Value) : Blk := .cells l false
theorem zhf {a b : Int} (h : (a == b) = true) : a = b := eq_of_beq h
theorem zhg {a b : Int} (h : (a == b) = false) : ¬ a = b := fun e => by subst e; simp at h
theorem neI_t {a b : Int} (h : (a != b) = true) : a ≠ b := bne_iff_ne.1 h
theorem neI_f {a b : Int} (h : (a != b) = false) : ¬ a ≠ b := fun e => by rw [bne_iff_ne.2 e] at h; cases h
theorem not_t {b : Bool} (h : (!b) = true) : b = false := by cases b <;> simp_all
theorem not_f {b : Bool} (h : (!b) = false) : b = true := by cases b <;> simp_all
theorem wpC_true {C : qW} {B : Nat} {c : Opd} {a b : IC} {Q : IExit → St → Prop} {s : St} (hc : evf s.f c = .bool true) (h : wpC C B a Q s) : wpC C B (.cond c a b) Q s := qS hc (fun _ => h) (fun e => by cases e)
theorem wpC_false {C : qW} {B : Nat} {c : Opd} {a b : IC} {Q : IExit → St → Prop} {s : St} (hc : evf s.f c = .bool false) (h : wpC C B b Q s) : wpC C B (.cond c a b) Q s := qS hc (fun e => by cases e) (fun _ => h)
theorem rho_id {n i : Nat} : rho (List.range n) n i = i := by
 rcases Nat.lt_or_ge i n with h | h
 ·exact zc1 (by simp [h])
 ·rw [zgB (by simpa using h)]; simp; omega
theorem renA_id {a : Addr} {ρ : Nat → Nat} (h : ∀ i, ρ i = i) : renA ρ a = a := by simp [renA, h]
theorem ren1_id {ρ : Nat → Nat} (h : ∀ i, ρ i = i) (v : Value) : zet ρ v = v := by
 unfold zet; split <;> simp [renA_id h, h]
theorem renG_id {ρ : Nat → Nat} (h : ∀ i, ρ i = i) (v : Value) : zfX ρ v = v := by
 unfold zfX; split
 ·congr 1; exact Array.toList_inj.1 (by rw [Array.toList_map]; exact zbf fun v _ => ren1_id h v)
 ·exact ren1_id h _
theorem renV_id {ρ : Nat → Nat} (h : ∀ i, ρ i = i) (v : Value) : zbw ρ v = v := by
 unfold zbw; split
 ·congr 1; exact Array.toList_inj.1 (by rw [Array.toList_map]; exact zbf fun v _ => renG_id h v)
 ·exact renG_id h _
theorem renB_id {ρ : Nat → Nat} (h : ∀ i, ρ i = i) (b : Blk) : zaR ρ b = b := by
 cases b <;> simp only [zaR]
 ·rw [zbf fun v _ => ren1_id h v]
 ·rw [List.map_congr_left (g := id) fun e _ => by simp [renG_id h]]; simp
 ·rw [zbf fun v _ => renG_id h v]
 ·rw [h]
theorem reg_mem {l : List (Nat × Value)} {t : Nat} : reg l t = junk ∨ ∃ p ∈ l, p.1 = t ∧ reg l t = p.2 := by
 induction l with
 | nil => exact .inl rfl
 | cons p l ih =>
  simp only [reg, setf]
  by_cases h : t = p.1
  ·simp only [h, if_true]; exact .inr ⟨p, by simp, rfl, rfl⟩
  ·simp only [h, if_false]
   rcases ih with h1 | ⟨q, h1, h2, h3⟩
   ·exact .inl h1
   ·exact .inr ⟨q, by simp [h1], h2, h3⟩
theorem seq_regs' {B : Nat} {s : St} {K : St → Prop} (l : List (Nat × Value)) (hl : l.map (fun p => s.f p.1) = l.map (·.2)) (h : K ⟨reg l, s.h⟩) (hB : B ≤ s.h.length := by simp) : ∃ s0, Wk B s s0 ∧ K s0 := by
 refine ⟨_, .inr (.inr ⟨List.range s.h.length, by simp, fun i hi => by simp only [List.getElem?_range (Nat.lt_of_lt_of_le hi hB)], List.nodup_range, fun t => ?_, fun i k b h1 h2 => ?_⟩), h⟩
 ·rcases reg_mem (l := l) (t := t) with h | ⟨p, h1, h2, h3⟩
  ·exact .inl h
  ·refine .inr ?_
   rw [renV_id (fun i => rho_id)]
   show reg l t = s.f t
   rw [h3, ← h2]
   have : ∀ l : List (Nat × Value), l.map (fun p => s.f p.1) = l.map (·.2) → p ∈ l → p.2 = s.f p.1 := by
    intro l
    induction l with
    | nil => intro _ h; cases h
    | cons q l ih =>
     intro hl hm
     simp only [List.map_cons, List.cons.injEq] at hl
     rcases List.mem_cons.1 hm with rfl | hm
     ·exact hl.1.symm
     ·exact ih hl.2 hm
   exact this l hl h1
 ·have h3 := zJ h1
  simp at h3
  have : k = i := by simp [h3] at h1; exact h1.symm
  subst this
  rw [renB_id (fun i => rho_id)]
  exact .inl h2
theorem z9 {B : Nat} {L : List (Nat × Value)} {h : List Blk} {K : St → Prop} (l : List (Nat × Value)) (hl : l.map (fun p => reg L p.1) = l.map (·.2)) (hk : K ⟨reg l, h⟩) (hB : B ≤ h.length := by simp) : ∃ s0, Wk B ⟨reg L, h⟩ s0 ∧ K s0 := seq_regs' l hl hk hB
def regsR (ρ : Nat → Nat) (f : Nat → Value) : List (Nat × Value) → Prop
 | [] => True
 | p :: l => zbw ρ p.2 = f p.1 ∧ regsR ρ f l
def blksR (ρ : Nat → Nat) (h : List Blk) : List Nat → List Blk → Prop
 | k :: ks, b :: bs => (h[k]? = some (zaR ρ b) ∨ (b = .gone ∧ h[k]? = none)) ∧ blksR ρ h ks bs
 | _, _ => True
theorem regsR_mem {ρ : Nat → Nat} {f : Nat → Value} : ∀ {l : List (Nat × Value)} {p : Nat × Value}, regsR ρ f l → p ∈ l → zbw ρ p.2 = f p.1
 | _ :: _, _, h, hm => by
  rcases List.mem_cons.1 hm with rfl | hm
  ·exact h.1
  ·exact regsR_mem h.2 hm
theorem blksR_get {ρ : Nat → Nat} {h : List Blk} : ∀ {sel : List Nat} {bs : List Blk}, blksR ρ h sel bs → ∀ (i k : Nat) b, sel[i]? = some k → bs[i]? = some b → h[k]? = some (zaR ρ b) ∨ (b = .gone ∧ h[k]? = none)
 | [], _, _, i, _, _, h1, _ => by simp at h1
 | _ :: _, [], _, i, _, _, _, h2 => by simp at h2
 | _ :: _, _ :: _, hb, 0, _, _, h1, h2 => by simp at h1 h2; subst h1; subst h2; exact hb.1
 | _ :: _, _ :: _, hb, i + 1, k, b, h1, h2 => blksR_get hb.2 i k b (by simpa using h1) (by simpa using h2)
theorem Wk.ren {B : Nat} {s : St} {l : List (Nat × Value)} {hs : List Blk} (sel : List Nat) (h1 : hs.length = sel.length) (h2 : sel.take B = List.range B) (h3 : sel.Nodup) (hr : regsR (rho sel s.h.length) s.f l) (hb : blksR (rho sel s.h.length) s.h sel hs) : Wk B s ⟨reg l, hs⟩ := by
 refine .inr (.inr ⟨sel, h1, fun i hi => ?_, h3, fun t => ?_, fun i k b e1 e2 => blksR_get hb i k b e1 e2⟩)
 ·have : (sel.take B)[i]? = some i := by rw [h2]; simp [hi]
  rwa [List.getElem?_take, if_pos hi] at this
 ·rcases reg_mem (l := l) (t := t) with h | ⟨p, h4, h5, h6⟩
  ·exact .inl h
  ·refine .inr ?_
   show zbw _ (reg l t) = _
   rw [h6, ← h5]
   exact regsR_mem hr h4
theorem zO {ρ : Nat → Nat} {c : List Value} {rw : Bool} (h : c.all zbz = true) : some (Blk.cells c rw) = some (zaR ρ (.cells c rw)) := by rw [zbk h]
theorem zgr {a b c : Prop} (h1 : a) (h2 : b ∧ c) : a ∧ b ∧ c := ⟨h1, h2⟩
theorem all_cons {α : Type} {p : α → Bool} {a : α} {l : List α} (h1 : p a = true) (h2 : l.all p = true) : (a :: l).all p = true := by simp [h1, h2]
theorem qB {s : St} {t : Nat} {v : Value} {r : List IRes} {l : List Value} (h : s.f t = v) (h2 : zfD s r = some l) : zfD s (.tmp t :: r) = some (v :: l) := by simp [zfD, h, h2]
theorem zcG {s : St} {a k o : Nat} {n : Option Nat} {c : List Value} {rw : Bool} {v : Value} {r : List IRes} {l : List Value} (h : s.f a = .pointer (some ⟨k, o, none⟩)) (hh : hf s.h k = some (.cells c rw)) (hv : zam n c o = some v) (h2 : zfD s r = some l) : zfD s (.cell a n :: r) = some (v :: l) := by
 simp [zfD, ldV, h, hh, hv, h2]
theorem zaE {c : ICell} {s : St} {v : Value} {e : Eff} (hg : c.guard = none) (hsp : qC c.op = 0) (h : zQ c.op (evf s.f) (hf s.h) s.h.length = some (v, e)) : zdi [c] s = some ⟨zas s.f c.dst v, e.on s.h⟩ := by
 obtain ⟨d, op, g⟩ := c
 simp only at hg; subst hg
 simp [zdi, run1, gJ, zb0, hsp, h]
theorem qL {c : ICell} {L : List (Nat × Value)} {h : List Blk} {v v' : Value} (he : v = v') (hr : zdi [c] ⟨reg L, h⟩ = some ⟨zas (reg L) c.dst v, h⟩) : zdi [c] ⟨reg L, h⟩ = some ⟨zas (reg L) c.dst v', h⟩ := he ▸ hr
theorem z6 {d : Option Nat} {m : Option Nat} {x : Opd} {L : List (Nat × Value)} {hp : List Blk} {k o : Nat} {c : List Value} {rw : Bool} {v : Value} (hx : evf (reg L) x = .pointer (some ⟨k, o, none⟩)) (hh : hf hp k = some (.cells c rw)) (hv : zam m c o = some v) : zdi [⟨d, .ld m x, none⟩] ⟨reg L, hp⟩ = some ⟨zas (reg L) d v, hp⟩ :=
 zaE (e := .no) rfl rfl (by simp [zQ, ldV, hx, hh, hv])
theorem qY {d : Option Nat} {n : Nat} {x y : Opd} {L : List (Nat × Value)} {hp : List Blk} {k o : Nat} {c c' : List Value} (hx : evf (reg L) x = .pointer (some ⟨k, o, none⟩)) (hh : hf hp k = some (.cells c true)) (ht : zbG (evf (reg L) y) = false) (hl : (zcN (evf (reg L) y)).length = n) (ho : o + n ≤ c.length) (hc : splice c o (zcN (evf (reg L) y)) = c') : zdi [⟨d, .st n x y, none⟩] ⟨reg L, hp⟩ = some ⟨zas (reg L) d undef, hp.set k (.cells c' true)⟩ :=
 zaE (v := undef) (e := .set k (.cells c' true)) rfl rfl (by simp [zQ, stV, hx, hh, ht, hl, ho, hc])
theorem zck {d : Option Nat} {z : RL} {ps : List (Nat × Nat × Opd)} {L : List (Nat × Value)} {hp : List Blk} {c : List Value} (h : zdO (qI z) (ps.map fun p => (p.1, p.2.1, evf (reg L) p.2.2)) = some c) : zdi [⟨d, .bld z ps, none⟩] ⟨reg L, hp⟩ = some ⟨zas (reg L) d (.agg ⟨c⟩), hp⟩ :=
 zaE (e := .no) rfl rfl (by simp [zQ, h])
theorem run_eqa {d : Option Nat} {neg : Bool} {ks : List (Nat × LK)} {x y : Opd} {L : List (Nat × Value)} {hp : List Blk} {a b : Array Value} {r R : Bool} (h : evf (reg L) x = .agg a ∧ evf (reg L) y = .agg b ∧ eqK (zcO ks) a.toList b.toList = some r) (hR : (if neg = true then !r else r) = R) : zdi [⟨d, .eqa neg ks x y, none⟩] ⟨reg L, hp⟩ = some ⟨zas (reg L) d (.bool R), hp⟩ := by
 subst hR
 exact zaE (e := .no) rfl rfl (by simp [zQ, h.1, h.2.1, h.2.2])
theorem zf7 {d : Option Nat} {off : Nat} {x : Opd} {L : List (Nat × Value)} {hp : List Blk} {k o o' : Nat} (hx : evf (reg L) x = .pointer (some ⟨k, o, none⟩)) (ho : o + off = o') : zdi [⟨d, .fad off x, none⟩] ⟨reg L, hp⟩ = some ⟨zas (reg L) d (.pointer (some ⟨k, o', none⟩)), hp⟩ := by
 subst ho
 exact zaE (e := .no) rfl rfl (by simp [zQ, hx])
theorem run_fld {d : Option Nat} {n : Option Nat} {off : Nat} {x : Opd} {L : List (Nat × Value)} {hp : List Blk} {a : Array Value} {v : Value} (hx : evf (reg L) x = .agg a) (hv : zam n a.toList off = some v) : zdi [⟨d, .fld n off x, none⟩] ⟨reg L, hp⟩ = some ⟨zas (reg L) d v, hp⟩ :=
 zaE (e := .no) rfl rfl (by simp [zQ, hx, hv])
theorem run_iadA {d : Option Nat} {len size : Nat} {x i : Opd} {L : List (Nat × Value)} {hp : List Blk} {k o o' : Nat} {ik : IntKind} {n : Int} (hx : evf (reg L) x = .pointer (some ⟨k, o, none⟩)) (hi : evf (reg L) i = .int ik n) (hn : 0 ≤ n ∧ n < len) (ho : o + n.toNat * size = o') : zdi [⟨d, .iadA len size x i, none⟩] ⟨reg L, hp⟩ = some ⟨zas (reg L) d (.pointer (some ⟨k, o', none⟩)), hp⟩ := by
 subst ho
 exact zaE (e := .no) rfl rfl (by simp [zQ, hx, hi, hn])
theorem zfB {d : Option Nat} {size : Nat} {x i : Opd} {L : List (Nat × Value)} {hp : List Blk} {k o o' len cap : Nat} {ik : IntKind} {n : Int} (hx : evf (reg L) x = .slice (some ⟨k, o, none⟩) len cap) (hi : evf (reg L) i = .int ik n) (hn : 0 ≤ n ∧ n < len) (ho : o + n.toNat * size = o') : zdi [⟨d, .iadS size x i, none⟩] ⟨reg L, hp⟩ = some ⟨zas (reg L) d (.pointer (some ⟨k, o', none⟩)), hp⟩ := by
 subst ho
 exact zaE (e := .no) rfl rfl (by simp [zQ, hx, hi, hn])
theorem run_ixA {d : Option Nat} {len size : Nat} {m : Option Nat} {x i : Opd} {L : List (Nat × Value)} {hp : List Blk} {c : Array Value} {ik : IntKind} {n : Int} {o : Nat} {v : Value} (hx : evf (reg L) x = .agg c) (hi : evf (reg L) i = .int ik n) (hn : 0 ≤ n ∧ n < len) (ho : n.toNat * size = o) (hv : zam m c.toList o = some v) : zdi [⟨d, .ixA len size m x i, none⟩] ⟨reg L, hp⟩ = some ⟨zas (reg L) d v, hp⟩ := by
 subst ho
 exact zaE (e := .no) rfl rfl (by simp [zQ, hx, hi, hn, hv])
theorem run_rem {d : Option Nat} {x y : Opd} {L : List (Nat × Value)} {hp : List Blk} {k : IntKind} {a b : Int} (hx : evf (reg L) x = .int k a) (hy : evf (reg L) y = .int k b) (hb : b ≠ 0) : zdi [⟨d, .bin .rem x y, none⟩] ⟨reg L, hp⟩ = some ⟨zas (reg L) d (.int k (a.tmod b)), hp⟩ :=
 zaE (e := .no) rfl rfl (by simp [zQ, hx, hy, binV, binI, hb])
theorem want_act {C : qW} {pu : List String} {c : ICell} {r : List ICell} {K : St → Prop} {s : St} (hg : gJ c s.f = false) (h1 : zb0 c s.f = true → actR C pu c.op (fun v h => wpR C pu r K ⟨zas s.f c.dst v, h⟩) s) (h2 : zb0 c s.f = false → wpR C pu r K ⟨zas s.f c.dst undef, s.h⟩) : wpR C pu (c :: r) K s := by
 obtain ⟨d, op, gd⟩ := c
 unfold wpR
 unfold gJ at hg
 unfold zb0 at h1 h2
 cases gd with
 | none =>
  have := h1 rfl
  unfold actR at this
  exact this
 | some gb =>
  obtain ⟨g, b⟩ := gb
  simp only at hg h1 h2 ⊢
  cases hv : s.f g with
  | bool x =>
   simp only [hv] at h1 h2 ⊢
   by_cases hx : x = b
   ·rw [if_pos hx]
    have := h1 (by simp [hx])
    unfold actR at this
    exact this
   ·rw [if_neg hx]
    exact h2 (by simpa using hx)
  | complex k r i => simp [hv] at hg
  | _ => simp only [hv] at h2; exact h2 trivial
theorem wpR_run1 {C : qW} {pu : List String} {c : ICell} {r : List ICell} {K : St → Prop} {s s' : St} (h : run1 c s = some s') (hk : wpR C pu r K s') : wpR C pu (c :: r) K s := by
 unfold run1 at h
 cases hg : gJ c s.f with
 | true => simp [hg] at h
 | false =>
  simp only [hg, if_false, Bool.false_eq_true] at h
  cases hw : zb0 c s.f with
  | false =>
   simp only [hw, if_false, Bool.false_eq_true, Option.some.injEq] at h
   subst h
   exact want_act hg (fun q => by rw [hw] at q; cases q) (fun _ => hk)
  | true =>
   simp only [hw, if_true] at h
   split at h <;> try cases h
   rename_i hsp
   refine want_act hg (fun _ => ?_) (fun q => by rw [hw] at q; cases q)
   have : actR C pu c.op (fun v h => wpR C pu r K ⟨zas s.f c.dst v, h⟩) s = (match zQ c.op (evf s.f) (hf s.h) s.h.length with
    | some (v, e) => wpR C pu r K ⟨zas s.f c.dst v, e.on s.h⟩
    | none => False) := by
    unfold actR
    cases ho : c.op <;> first | rfl | (rw [ho] at hsp; cases hsp)
   rw [this]
   split at h <;> cases h
   rename_i hs
   first | (simp only [hs]; exact hk) | exact hk | (rw [hs]; exact hk)
theorem wpR_run {C : qW} {pu : List String} {K : St → Prop} : ∀ {l r : List ICell} {s s' : St}, zdi l s = some s' → wpR C pu r K s' → wpR C pu (l ++ r) K s
 | [], _, _, _, h, hk => by cases h; exact hk
 | c :: l, r, s, s', h, hk => by
  simp only [zdi] at h
  split at h
  ·rename_i s1 h1; exact wpR_run1 h1 (wpR_run h hk)
  ·cases h
theorem wpR_n {C : qW} {pu : List String} {K : St → Prop} {l : List ICell} {s s' : St} (n : Nat) (h : zdi (l.take n) s = some s') (hk : wpR C pu (l.drop n) K s') : wpR C pu l K s := by
 have := wpR_run (C := C) (pu := pu) h hk
 rwa [List.take_append_drop] at this
theorem wpR_split {C : qW} {pu : List String} {K : St → Prop} {l : List ICell} {s : St} {b : Bool} (g : Nat) (hg : s.f g = .bool b) (h1 : b = true → wpR C pu l K ⟨setf s.f g (.bool true), s.h⟩) (h2 : b = false → wpR C pu l K ⟨setf s.f g (.bool false), s.h⟩) : wpR C pu l K s := by
 cases b with
 | true => have := h1 rfl; rwa [zex hg] at this
 | false => have := h2 rfl; rwa [zex hg] at this
theorem wpR_unguard {C : qW} {pu : List String} {K : St → Prop} {d : Option Nat} {op : IOp} {g : Nat} {b : Bool} {r : List ICell} {s : St} (hg : s.f g = .bool b) (hk : wpR C pu (⟨d, op, none⟩ :: r) K s) : wpR C pu (⟨d, op, some (g, b)⟩ :: r) K s := by
 obtain ⟨_, h2, _⟩ := wpR_cons hk
 exact want_act (by simp [gJ, hg]) (fun _ => h2 rfl) (fun q => by simp [zb0, hg] at q)
theorem wpC_dregK {C : qW} {B : Nat} {anc : List (List Nat)} {ops : List ICell} {Q : IExit → St → Prop} {L : List (Nat × Value)} {h : List Blk} (l : List (Nat × Value)) (h' : List Blk) (hr : (runD (unA anc) (zbA 0 h.length ops) [] ⟨reg L, h ++ List.replicate (zau ops) .gone⟩).map (·.2) = some ⟨reg (l ++ L), h'⟩) (hk : Q .normal ⟨reg (l ++ L), h'⟩) : wpC C B (.dreg ops anc) Q ⟨reg L, h⟩ := by
 simp only [Option.map_eq_some_iff] at hr
 obtain ⟨⟨log, s⟩, h1, h2⟩ := hr
 simp only at h2; subst h2
 exact wpD_all h1 hk
theorem wpR_cl {C : qW} {pu : List String} {K : St → Prop} {d : Nat} {g : String} {args : List Opd} {r : List ICell} {L : List (Nat × Value)} {h : List Blk} (hc : zfv C (pu.any fun x => x == g) g (args.map (evf (reg L))) (fun v h => wpR C pu r K ⟨reg ((d, v) :: L), h⟩) h) : wpR C pu (⟨some d, .call g args, none⟩ :: r) K ⟨reg L, h⟩ := hc
theorem wpOps_cl {C : qW} {K : St → Prop} {d : Nat} {g : String} {args : List Opd} {r : List ICell} {L : List (Nat × Value)} {h : List Blk} (hc : zcl C g (args.map (evf (reg L))) (fun v h => zbg C r K ⟨reg ((d, v) :: L), h⟩) h) : zbg C (⟨some d, .call g args, none⟩ :: r) K ⟨reg L, h⟩ := hc
theorem ziC {C : qW} {pu : Bool} {g : String} {vals vs : List Value} {K : zdX} {h : List Blk} {V : Value} (hC : C g vs [] (Ans V [])) (hv : vals = vs) (hp : vs.all vpf = true) (hV : vpf V = true) (hK : K V h) : zfv C pu g vals K h := by
 subst hv
 exact ⟨[], [], vals, V, hC, rfl, fun n => zbf fun v hm => qE (List.all_eq_true.1 hp v hm), by simp, by simp, fun _ => rfl, hV, hK⟩
def roB (h : List Blk) : List Nat → List (List Value) → Prop
 | k :: ks, c :: cs => (∃ rw, h[k]? = some (.cells c rw)) ∧ c.all zbz = true ∧ roB h ks cs
 | _, _ => True
theorem roB_get {h : List Blk} : ∀ {sel : List Nat} {cs : List (List Value)}, roB h sel cs → ∀ (i k : Nat) c, sel[i]? = some k → cs[i]? = some c → (∃ rw, h[k]? = some (.cells c rw)) ∧ c.all zbz = true
 | [], _, _, i, _, _, h1, _ => by simp at h1
 | _ :: _, [], _, i, _, _, _, h2 => by simp at h2
 | _ :: _, _ :: _, hb, 0, _, _, h1, h2 => by simp at h1 h2; subst h1; subst h2; exact ⟨hb.1, hb.2.1⟩
 | _ :: _, _ :: _, hb, i + 1, k, c, h1, h2 => roB_get hb.2.2 i k c (by simpa using h1) (by simpa using h2)
def roL (cs : List (List Value)) : List Blk := cs.map fun c => .cells c false
theorem callSR {C : qW} {g : String} {vals a1 : List Value} {K : zdX} {h : List Blk} {V : Value} (sel : List Nat) (cs : List (List Value)) (hC : C g a1 (roL cs) (Ans V (roL cs))) (hl : cs.length = sel.length) (ha : ∀ n, a1.map (zbw (rho sel n)) = vals) (hs : roB h sel cs) (hV : vpf V = true) (hK : K V h) : zfv C false g vals K h := by
 have hget : ∀ {i : Nat} {b : Blk}, (roL cs)[i]? = some b → ∃ c, cs[i]? = some c ∧ b = .cells c false := fun {i b} e => by
  simp only [roL, List.getElem?_map, Option.map_eq_some_iff] at e
  obtain ⟨c, e1, e2⟩ := e
  exact ⟨c, e1, e2.symm⟩
 refine ⟨sel, roL cs, a1, V, hC, by simp [roL, hl], ha, fun n i k b1 h1 h2 => ?_, fun b hb => ?_, fun q => (by cases q), hV, hK⟩
 ·obtain ⟨c, h3, rfl⟩ := hget h2
  obtain ⟨⟨rw, h4⟩, h5⟩ := roB_get hs i k c h1 h3
  exact ⟨_, h4, by simp, by rw [zbk h5]; exact ⟨rfl, by simp⟩⟩
 ·obtain ⟨i, hi⟩ := List.mem_iff_getElem?.1 hb
  obtain ⟨c, _, rfl⟩ := hget hi
  rfl
theorem callRO_K {C : qW} {pu : Bool} {g : String} {vals : List Value} {K : zdX} {h : List Blk} (hc : zfv C pu g vals K h) : zcl C g vals K h := by
 obtain ⟨sel, h1, a1, V, e1, e2, e3, e4, e5, e6, e7, e8⟩ := hc
 refine ⟨sel, h1, a1, _, e1, e2, e3 _, fun i k b1 q1 q2 => ?_, fun i j k b1 _ _ _ q => e5 b1 (List.mem_of_getElem? q), ?_⟩
 ·obtain ⟨b, hb, _, hs⟩ := e4 h.length i k b1 q1 q2; exact ⟨b, hb, .inl (.inl hs)⟩
 ·rintro v h' ⟨rfl, rfl⟩ _ _
  refine ⟨fun _ q => q, ?_⟩
  rw [qE e7, ziE e2 e5]
  exact e8
theorem callS {C : qW} {g : String} {vals a1 : List Value} {K : zdX} {h : List Blk} {V : Value} (sel : List Nat) (cs : List (List Value)) (hC : C g a1 (roL cs) (Ans V (roL cs))) (hl : cs.length = sel.length) (ha : ∀ n, a1.map (zbw (rho sel n)) = vals) (hs : roB h sel cs) (hV : vpf V = true) (hK : K V h) : zcl C g vals K h :=
 callRO_K (callSR sel cs hC hl ha hs hV hK)
end Go.Rh

namespace Go.Rh
def slV (k n : Nat) : Option Nat → Value
 | none => .slice none 0 0
 | some m => .slice (some ⟨k, 0, none⟩) n (n + m)
def zbs (z : List Value) (m : Nat) : List Value := (List.replicate m z).flatten
def slB (z cs : List Value) : Option Nat → Blk
 | none => .gone
 | some m => .cells (cs ++ zbs z m) true
theorem zgA {z : List Value} (hz : z.all zbz = true) (m : Nat) : (zbs z m).all zbz = true := by
 simp only [zbs, List.all_flatten]
 exact List.all_eq_true.2 fun l hl => by rw [List.eq_of_mem_replicate hl]; exact hz
theorem zeU {a b : List Value} (ha : a.all zbz = true) (hb : b.all zbz = true) : (a ++ b).all zbz = true := by simp [List.all_append, ha, hb]
theorem room_len (z : List Value) (m : Nat) : (zbs z m).length = m * z.length := by simp [zbs]
theorem room_add (z : List Value) (a b : Nat) : zbs z (a + b) = zbs z a ++ zbs z b := by rw [zbs, ← List.replicate_append_replicate, List.flatten_append]; rfl
theorem splice_room {cs xs z : List Value} {m q : Nat} (hx : xs.length = q * z.length) : splice (cs ++ zbs z (q + m)) cs.length xs = (cs ++ xs) ++ zbs z m := by
 unfold splice
 rw [room_add, List.take_append_of_le_length (Nat.le_refl _), List.take_length, ← List.append_assoc cs, List.drop_append]
 have h1 : (cs ++ zbs z q).length = cs.length + xs.length := by simp [room_len, hx]
 rw [h1, List.drop_eq_nil_of_le (by omega)]
 simp
theorem zbF {h : Nat → Option Blk} {size n j o l c : Nat} {cs t : List Value} {rw : Bool} (hh : h j = some (.cells t rw)) (ht : (t.drop o).take (n * size) = cs) (hl : o + n * size ≤ t.length) : first h size n (.slice (some ⟨j, o, none⟩) l c) = some cs := by
 simp [first, hh, hl, ht]
theorem app_k {C : qW} {K : Value → List Blk → Prop} {z : RL} {zl : List Value} {size bytes q : Nat} {s x : Opd} {L : List (Nat × Value)} {h : List Blk} {k n : Nat} {o : Option Nat} {cs xs : List Value} {vx : Value}
  (hz : qI z = zl) (hzl : zl.length = size) (hs : reg L = reg L ∧ evf (reg L) s = slV k n o) (hk : ∀ m, o = some m → hf h k = some (.cells (cs ++ zbs zl m) true)) (ho : o = none → n = 0 ∧ cs = []) (hcs : cs.length = n * size)
  (hx : evf (reg L) x = vx) (hq : lenV vx = some q) (hf1 : first (hf h) size q vx = some xs) (hxl : xs.length = q * size) (hq0 : 0 < q) (hb : 2 * (n + q) * bytes ≤ 2 ^ 48)
  (h1 : ∀ m, o = some (q + m) → K (sv k 0 (n + q) (n + q + m)) (h.set k (cw ((cs ++ xs) ++ zbs zl m))))
  (h2 : ∀ m, K (sv h.length 0 (n + q) (n + q + m)) (h ++ [cw ((cs ++ xs) ++ zbs zl m)])) : zfQ C (.app z size bytes s x) (reg L) h K := by
 show appK z size bytes (evf (reg L) s) (evf (reg L) x) (fun v e => K v (e.on h)) (hf h) h.length
 rw [hs.2, hx]
 have new : ∀ c, n + q ≤ c → K (.slice (some ⟨h.length, 0, none⟩) (n + q) c) (h ++ [.cells (cs ++ xs ++ (List.replicate (c - (n + q)) (qI z)).flatten) true]) := by
  intro c hc
  have := h2 (c - (n + q))
  rw [show n + q + (c - (n + q)) = c by omega] at this
  rw [hz]
  exact this
 cases o with
 | none =>
  obtain ⟨rfl, rfl⟩ := ho rfl
  simp only [appK, slV, hq]
  rw [hf1]
  simp only [first, List.nil_append]
  rw [if_neg (by omega)]
  refine ⟨by simpa using hb, fun c hc => ?_⟩
  have := new c (by omega)
  simpa [Eff.on] using this
 | some m =>
  have hk := hk m rfl
  simp only [appK, slV, hq]
  rw [hf1]
  have e1 : first (hf h) size n (.slice (some ⟨k, 0, none⟩) n (n + m)) = some cs := by
   refine zbF hk ?_ ?_
   ·rw [List.drop_zero, ← hcs, List.take_append_of_le_length (Nat.le_refl _), List.take_length]
   ·simp [hcs]
  rw [e1]
  simp only
  by_cases hm : n + q ≤ n + m
  ·rw [if_pos hm, if_neg (by omega), hk]
   simp only
   obtain ⟨m', rfl⟩ : ∃ m', m = q + m' := ⟨m - q, by omega⟩
   have hsz : (cs ++ zbs zl (q + m')).length = n * size + (q + m') * size := by simp [room_len, hzl, hcs]
   rw [if_pos (by rw [hsz, hxl, Nat.add_mul]; omega)]
   have e2 : splice (cs ++ zbs zl (q + m')) (0 + n * size) xs = (cs ++ xs) ++ zbs zl m' := by
    rw [Nat.zero_add, ← hcs]; exact splice_room (by rw [hzl]; exact hxl)
   rw [e2, show n + (q + m') = n + q + m' by omega]
   exact h1 m' rfl
  ·rw [if_neg hm]
   exact ⟨hb, fun c hc => by have := new c hc; simpa [Eff.on] using this⟩
theorem wpOps_app {C : qW} {K : St → Prop} {d : Nat} {z : RL} {zl : List Value} {size bytes q : Nat} {s x : Opd} {r : List ICell} {L : List (Nat × Value)} {h : List Blk} {k n : Nat} {o : Option Nat} {cs xs : List Value} {vx : Value}
  (hz : qI z = zl) (hzl : zl.length = size) (hs : reg L = reg L ∧ evf (reg L) s = slV k n o) (hk : ∀ m, o = some m → hf h k = some (.cells (cs ++ zbs zl m) true)) (ho : o = none → n = 0 ∧ cs = []) (hcs : cs.length = n * size)
  (hx : evf (reg L) x = vx) (hq : lenV vx = some q) (hf1 : first (hf h) size q vx = some xs) (hxl : xs.length = q * size) (hq0 : 0 < q) (hb : 2 * (n + q) * bytes ≤ 2 ^ 48)
  (h1 : ∀ m, o = some (q + m) → zbg C r K ⟨reg ((d, sv k 0 (n + q) (n + q + m)) :: L), h.set k (cw ((cs ++ xs) ++ zbs zl m))⟩)
  (h2 : ∀ m, zbg C r K ⟨reg ((d, sv h.length 0 (n + q) (n + q + m)) :: L), h ++ [cw ((cs ++ xs) ++ zbs zl m)]⟩) : zbg C (⟨some d, .app z size bytes s x, none⟩ :: r) K ⟨reg L, h⟩ :=
 app_k (C := C) (K := fun v h => zbg C r K ⟨zas (reg L) (some d) v, h⟩) hz hzl hs hk ho hcs hx hq hf1 hxl hq0 hb h1 h2
theorem wpOps_appC {C : qW} {K : St → Prop} {d : Nat} {z : RL} {zl : List Value} {size bytes q : Nat} {s x : Opd} {r : List ICell} {L : List (Nat × Value)} {h : List Blk} {k n : Nat} {o : Option Nat} {cs xs cs2 : List Value} {vx : Value}
  (hz : qI z = zl) (hzl : zl.length = size) (hs : evf (reg L) s = slV k n o) (hk : ∀ m, o = some m → hf h k = some (.cells (cs ++ zbs zl m) true)) (ho : o = none → n = 0 ∧ cs = []) (hcs : cs.length = n * size)
  (hx : evf (reg L) x = vx) (hq : lenV vx = some q) (hf1 : first (hf h) size q vx = some xs) (hxl : xs.length = q * size) (hq0 : 0 < q) (hb : 2 * (n + q) * bytes ≤ 2 ^ 48) (hc : cs ++ xs = cs2)
  (h1 : ∀ m, o = some (q + m) → zbg C r K ⟨reg ((d, sv k 0 (n + q) (n + q + m)) :: L), h.set k (cw (cs2 ++ zbs zl m))⟩)
  (h2 : ∀ m, zbg C r K ⟨reg ((d, sv h.length 0 (n + q) (n + q + m)) :: L), h ++ [cw (cs2 ++ zbs zl m)]⟩) : zbg C (⟨some d, .app z size bytes s x, none⟩ :: r) K ⟨reg L, h⟩ := by
 subst hc; exact wpOps_app hz hzl ⟨rfl, hs⟩ hk ho hcs hx hq hf1 hxl hq0 hb h1 h2
theorem zic {d : Option Nat} {x : Opd} {L : List (Nat × Value)} {hp : List Blk} {k n : Nat} {o : Option Nat} (hx : evf (reg L) x = slV k n o) (ho : o = none → n = 0) : zdi [⟨d, .lenS x, none⟩] ⟨reg L, hp⟩ = some ⟨zas (reg L) d (.int .i64 (n : Nat)), hp⟩ := by
 refine zaE (e := .no) rfl rfl ?_
 cases o with
 | none => simp [zQ, hx, slV, ho rfl]
 | some m => simp [zQ, hx, slV]
theorem zd0 {d : Option Nat} {size : Nat} {x i : Opd} {L : List (Nat × Value)} {hp : List Blk} {k o' n' : Nat} {o : Option Nat} {ik : IntKind} {n : Int} (hx : evf (reg L) x = slV k n' o) (ho : o = none → n' = 0) (hi : evf (reg L) i = .int ik n) (hn : 0 ≤ n ∧ n < n') (he : n.toNat * size = o') : zdi [⟨d, .iadS size x i, none⟩] ⟨reg L, hp⟩ = some ⟨zas (reg L) d (.pointer (some ⟨k, o', none⟩)), hp⟩ := by
 subst he
 cases o with
 | none => have := ho rfl; omega
 | some m => exact zaE (e := .no) rfl rfl (by simp [zQ, hx, slV, hi, hn])
end Go.Rh

namespace Go.Rh
abbrev qO := Nat → Int
def upd (c : qO) (i : Nat) (v : Int) : qO := fun j => if j = i then v else c j
def zH : qO := fun _ => 0
structure Ent where
  k : Int
  s : Int
  a : Int
  p : Int
  g : Int
  ka : Int
  kb : Int
def pk (i : Nat) : IntKind := if i < 324 then .i64 else .u64
def plF (c : qO) : Nat → Nat → List Value
 | _, 0 => []
 | i, n + 1 => .int (pk i) (c i) :: plF c (i + 1) n
def pl (c : qO) : List Value := plF c 0 330
def qG (c : qO) : Value := .agg ⟨pl c⟩
def qH (e : Ent) : Value := .agg #[.int .i64 e.k, .int .i64 e.s, .int .i64 e.a, .int .i64 e.p, .int .i64 e.g, .int .u64 e.ka, .int .u64 e.kb]
def slotV (c : qO) (k : Nat) : Value := .agg #[.int .i64 (c (3 + 5 * k)), .int .i64 (c (3 + 5 * k + 1)), .int .i64 (c (3 + 5 * k + 2)), .int .i64 (c (3 + 5 * k + 3)), .int .i64 (c (3 + 5 * k + 4))]
def za1 (a p : Int) : Bool := decide (0 ≤ a) && (decide (a ≤ 4294967295) && (decide (0 ≤ p) && decide (p ≤ 65535)))
def newS (a p ka kb na nb : Int) : qO := fun i => if i = 1 then a else if i = 2 then p else if i = 323 then 1 else if i = 326 then ka else if i = 327 then kb else if i = 328 then na else if i = 329 then nb else 0
def zcc (e : Ent) : Int :=
 if e.k < 1 ∨ 6 < e.k then 2
 else if e.s < 0 ∨ 64 ≤ e.s ∨ (e.k = 6 ∧ e.s ≠ 0) then 11
 else if e.k = 1 ∧ (za1 e.a e.p = false ∨ e.g < 1 ∨ 8 < e.g) then 14
 else if (e.k ≠ 1 ∧ (e.a ≠ 0 ∨ e.p ≠ 0 ∨ e.g ≠ 0)) ∨ (e.k ≠ 6 ∧ (e.ka ≠ 0 ∨ e.kb ≠ 0)) then 14
 else 0
def ze1 (c : qO) (a p : Int) (k : Nat) : Bool := decide (c (3 + 5 * k) ≠ 0) && (decide (c (3 + 5 * k + 1) = a) && decide (c (3 + 5 * k + 2) = p))
def zgI (c : qO) (a p : Int) : Nat → Bool
 | 0 => false
 | n + 1 => zgI c a p n || ze1 c a p n
def heldS (c : qO) (a p : Int) : Bool := (decide (c 1 = a) && decide (c 2 = p)) || zgI c a p 64
def badS (c : qO) (e : Ent) : Bool :=
 let t := c (3 + 5 * e.s.toNat)
 if e.k = 1 then decide (t ≠ 0) || heldS c e.a e.p
 else if e.k = 2 ∨ e.k = 4 then decide (t ≠ 1) && decide (t ≠ 3)
 else if e.k = 3 then decide (t ≠ 2)
 else if e.k = 5 then decide (t ≠ 4)
 else false
def zix (c : qO) (e : Ent) : Int :=
 if badS c e = true then 12
 else if e.k = 5 ∧ c 323 < i64.wrap (c (3 + 5 * e.s.toNat + 4) + 3) then 13
 else 0
def nextS (c : qO) (ka kb : Int) : qO :=
 upd (upd (upd (upd (upd (upd (upd c 323 (i64.wrap (c 323 + 1))) 324 (c 326)) 325 (c 327)) 326 (c 328)) 327 (c 329)) 328 ka) 329 kb
def zc6 (c : qO) (k : Nat) (x0 x1 x2 x3 x4 : Int) : qO :=
 upd (upd (upd (upd (upd c (3 + 5 * k) x0) (3 + 5 * k + 1) x1) (3 + 5 * k + 2) x2) (3 + 5 * k + 3) x3) (3 + 5 * k + 4) x4
def zeX (c : qO) (e : Ent) : qO :=
 let d := upd c 0 (i64.wrap (c 0 + 1))
 let k := e.s.toNat
 if e.k = 1 then zc6 d k 1 e.a e.p e.g 0
 else if e.k = 2 then upd d (3 + 5 * k) 2
 else if e.k = 3 then upd d (3 + 5 * k) 3
 else if e.k = 4 then upd (upd d (3 + 5 * k) 4) (3 + 5 * k + 4) (c 323)
 else if e.k = 5 then zc6 d k 0 0 0 0 0
 else nextS d e.ka e.kb
def errS (c : qO) (e : Ent) : Int := if zcc e ≠ 0 then zcc e else zix c e
def z2 (c : qO) (e : Ent) : qO × Int := if errS c e = 0 then (zeX c e, 0) else (zH, errS c e)
theorem zjh (c : qO) : ∀ n i, (plF c i n).length = n
 | 0, _ => rfl
 | n + 1, i => by simp [plF, zjh c n]
theorem zN (c : qO) : (pl c).length = 330 := zjh c 330 0
theorem plF_get (c : qO) : ∀ (n i k : Nat), k < n → (plF c i n)[k]? = some (.int (pk (i + k)) (c (i + k)))
 | 0, _, _, h => by omega
 | n + 1, i, 0, _ => by simp [plF]
 | n + 1, i, k + 1, h => by
  simp only [plF, List.getElem?_cons_succ]
  rw [plF_get c n (i + 1) k (by omega)]
  rw [show i + 1 + k = i + (k + 1) by omega]
theorem zjg (c : qO) {k : Nat} (h : k < 330) : (pl c)[k]? = some (.int (pk k) (c k)) := by
 unfold pl; rw [plF_get c 330 0 k h]; simp
theorem zhR (c : qO) {k : Nat} (h : k < 324) : (pl c)[k]? = some (.int .i64 (c k)) := by
 rw [zjg c (by omega)]; simp [pk, h]
theorem plF_scl (c : qO) : ∀ n i, (plF c i n).all zbz = true
 | 0, _ => rfl
 | n + 1, i => by simp only [plF, List.all_cons, plF_scl c n, Bool.and_true]; rfl
theorem za7 (c : qO) : (pl c).all zbz = true := plF_scl c 330 0
theorem zaA (c : qO) : vpf (qG c) = true := za7 c
theorem zaL (c : qO) : zi1 (qG c) = true := za7 c
theorem sbel_of_scl {m : Nat} {v : Value} (h : zbz v = true) : zhO m v = true := by
 unfold zhO; split <;> first | rfl | (simp [zbz] at h)
theorem zdW {m : Nat} {l : List Value} (h : l.all zbz = true) : l.all (zhO m) = true :=
 List.all_eq_true.2 fun v hv => sbel_of_scl (List.all_eq_true.1 h v hv)
theorem zgE (c : qO) (m : Nat) : (pl c).all (zhO m) = true := zdW (za7 c)
theorem take_scl {l : List Value} (h : l.all zbz = true) (n : Nat) : (l.take n).all zbz = true :=
 List.all_eq_true.2 fun v hv => List.all_eq_true.1 h v (List.mem_of_mem_take hv)
theorem drop_scl {l : List Value} (h : l.all zbz = true) (n : Nat) : (l.drop n).all zbz = true :=
 List.all_eq_true.2 fun v hv => List.all_eq_true.1 h v (List.mem_of_mem_drop hv)
theorem zc9 {l l' : List Value} (hl : l.length = l'.length) (h : ∀ k, k < l.length → l[k]? = l'[k]?) : l = l' := by
 refine List.ext_getElem? fun k => ?_
 rcases Nat.lt_or_ge k l.length with hk | hk
 ·exact h k hk
 ·rw [List.getElem?_eq_none hk, List.getElem?_eq_none (by omega)]
theorem pl_slot (c : qO) {k : Nat} (h : k < 64) : zam (some 5) (pl c) (3 + 5 * k) = some (slotV c k) := by
 unfold zam
 simp only []
 rw [if_pos (by rw [zN]; omega)]
 congr 2
 refine congrArg List.toArray (zc9 (by simp [zN]; omega) ?_)
 intro j hj
 simp [zN] at hj
 have hj := (show j < 5 by omega)
 rw [List.getElem?_take, if_pos hj, List.getElem?_drop, zhR c (by omega)]
 match j, hj with
 | 0, _ => rfl
 | 1, _ => rfl
 | 2, _ => rfl
 | 3, _ => rfl
 | 4, _ => rfl
theorem pl_slot' (c : qO) {k : Nat} (h : k < 64) : zam (some 5) (pl c) (0 + 3 + k * 5) = some (slotV c k) := by
 rw [show 0 + 3 + k * 5 = 3 + 5 * k by omega]; exact pl_slot c h
theorem zaU (c : qO) : zam (some 330) (pl c) 0 = some (qG c) := by
 unfold zam
 simp only []
 rw [if_pos (by rw [zN]; omega), List.drop_zero, List.take_of_length_le (by rw [zN]; omega)]
 rfl
def ze0 (c : qO) : List Value := ((pl c).drop 3).take 320
theorem slotsL_get (c : qO) {k : Nat} (h : k < 320) : (ze0 c)[k]? = some (.int .i64 (c (3 + k))) := by
 unfold ze0
 rw [List.getElem?_take, if_pos h, List.getElem?_drop, zhR c (by omega)]
theorem zeJ (c : qO) : (ze0 c).length = 320 := by simp [ze0, zN]
theorem zh7 (c : qO) {k : Nat} (h : k < 64) : zam (some 5) (ze0 c) (k * 5) = some (slotV c k) := by
 unfold zam
 simp only []
 rw [if_pos (by rw [zeJ]; omega)]
 congr 2
 refine congrArg List.toArray (zc9 (by simp [zeJ]; omega) ?_)
 intro j hj
 simp [zeJ] at hj
 have hj := (show j < 5 by omega)
 rw [List.getElem?_take, if_pos hj, List.getElem?_drop, slotsL_get c (by omega)]
 match j, hj with
 | 0, _ => simp [Nat.mul_comm]
 | 1, _ => simp [Nat.mul_comm, Nat.add_assoc]
 | 2, _ => simp [Nat.mul_comm, Nat.add_assoc]
 | 3, _ => simp [Nat.mul_comm, Nat.add_assoc]
 | 4, _ => simp [Nat.mul_comm, Nat.add_assoc]
theorem zi8 {c vs : List Value} {o k : Nat} (h : o + vs.length ≤ c.length) : (splice c o vs)[k]? = if o ≤ k ∧ k < o + vs.length then vs[k - o]? else c[k]? := by
 unfold splice
 rw [List.append_assoc]
 by_cases h1 : k < o
 ·rw [List.getElem?_append_left (by simp; omega), List.getElem?_take, if_pos h1, if_neg (by omega)]
 ·rw [List.getElem?_append_right (by simp; omega)]
  simp only [List.length_take, show min o c.length = o by omega]
  by_cases h2 : k < o + vs.length
  ·rw [List.getElem?_append_left (by omega), if_pos ⟨by omega, h2⟩]
  ·rw [List.getElem?_append_right (by omega), List.getElem?_drop, if_neg (by omega)]
   congr 1; omega
theorem zgY {c vs : List Value} {o : Nat} (h : o + vs.length ≤ c.length) : (splice c o vs).length = c.length := by
 unfold splice; simp; omega
theorem zh6 (c d : qO) {o : Nat} {vs : List Value} (h : o + vs.length ≤ 330) (hv : ∀ k, k < vs.length → vs[k]? = some (.int (pk (o + k)) (d (o + k)))) (hd : ∀ k, k < o ∨ o + vs.length ≤ k → d k = c k) : splice (pl c) o vs = pl d := by
 have hl : o + vs.length ≤ (pl c).length := by rw [zN]; exact h
 refine zc9 (by rw [zgY hl, zN, zN]) ?_
 intro k hk
 rw [zgY hl, zN] at hk
 rw [zi8 hl, zjg d hk]
 split
 ·rename_i h1
  rw [hv (k - o) (by omega), show o + (k - o) = k by omega]
 ·rename_i h1
  rw [zjg c hk, hd k (by omega)]
theorem zc4 (c : qO) {o : Nat} (h : o < 324) (v : Int) : splice (pl c) o [.int .i64 v] = pl (upd c o v) := by
 refine zh6 c _ (by simp; omega) ?_ ?_
 ·intro k hk
  match k, hk with
  | 0, _ => simp [pk, h, upd]
 ·intro k hk
  simp only [List.length_singleton] at hk
  simp only [upd]; rw [if_neg (by omega)]
theorem zh4 (c : qO) {k : Nat} (h : k < 64) (x0 x1 x2 x3 x4 : Int) : splice (pl c) (3 + 5 * k) [.int .i64 x0, .int .i64 x1, .int .i64 x2, .int .i64 x3, .int .i64 x4] = pl (zc6 c k x0 x1 x2 x3 x4) := by
 refine zh6 c _ (by simp; omega) ?_ ?_
 ·intro j hj
  have hp : pk (3 + 5 * k + j) = .i64 := by simp [pk]; simp at hj; omega
  rw [hp]
  match j, hj with
  | 0, _ => simp [zc6, upd]
  | 1, _ => simp [zc6, upd]
  | 2, _ => simp [zc6, upd]
  | 3, _ => simp [zc6, upd]
  | 4, _ => simp [zc6, upd]
 ·intro j hj
  simp only [List.length_cons, List.length_nil] at hj
  simp only [zc6, upd]
  rw [if_neg (by omega), if_neg (by omega), if_neg (by omega), if_neg (by omega), if_neg (by omega)]
def ringV (c : qO) : Value := .agg #[.int .i64 (c 323), .int .u64 (c 324), .int .u64 (c 325), .int .u64 (c 326), .int .u64 (c 327), .int .u64 (c 328), .int .u64 (c 329)]
theorem pl_ring (c : qO) : zam (some 7) (pl c) 323 = some (ringV c) := by
 unfold zam
 simp only []
 rw [if_pos (by rw [zN]; omega)]
 rfl
theorem zh5 (c : qO) (x0 x1 x2 x3 x4 x5 x6 : Int) : splice (pl c) 323 [.int .i64 x0, .int .u64 x1, .int .u64 x2, .int .u64 x3, .int .u64 x4, .int .u64 x5, .int .u64 x6] = pl (upd (upd (upd (upd (upd (upd (upd c 323 x0) 324 x1) 325 x2) 326 x3) 327 x4) 328 x5) 329 x6) := by
 refine zh6 c _ (by simp) ?_ ?_
 ·intro j hj
  match j, hj with
  | 0, _ => rfl
  | 1, _ => rfl
  | 2, _ => rfl
  | 3, _ => rfl
  | 4, _ => rfl
  | 5, _ => rfl
  | 6, _ => rfl
 ·intro j hj
  simp only [List.length_cons, List.length_nil] at hj
  simp only [upd]
  rw [if_neg (by omega), if_neg (by omega), if_neg (by omega), if_neg (by omega), if_neg (by omega), if_neg (by omega), if_neg (by omega)]
def zP : RL := [(324, .int .i64 0), (6, .int .u64 0)]
theorem ziN : qI zP = pl zH := by
 refine zc9 (by rw [zN]; simp [zP, qI]) ?_
 intro k hk
 have hk : k < 330 := by simpa [zP, qI] using hk
 rw [zjg zH hk]
 show (List.replicate 324 (Value.int .i64 0) ++ (List.replicate 6 (Value.int .u64 0) ++ []))[k]? = _
 by_cases h : k < 324
 ·rw [List.getElem?_append_left (by simpa using h), List.getElem?_replicate, if_pos h]
  simp [pk, h, zH]
 ·rw [List.getElem?_append_right (by simp; omega), List.append_nil, List.getElem?_replicate]
  simp only [List.length_replicate]
  rw [if_pos (by omega)]
  simp [pk, h, zH]
theorem pl_ext {c d : qO} (h : ∀ k, k < 330 → c k = d k) : pl c = pl d := by
 refine zc9 (by rw [zN, zN]) ?_
 intro k hk
 rw [zN] at hk
 rw [zjg c hk, zjg d hk, h k hk]
end Go.Rh

namespace Go.Rh
abbrev kq (d : Nat) (e : IOp) : ICell := ⟨some d, e, none⟩
abbrev km (d x : Nat) : ICell := ⟨some d, .mv (.t x), none⟩
abbrev ku (e : IOp) : ICell := ⟨none, e, none⟩
abbrev kg (d : Nat) (e : IOp) (g : Nat) (b : Bool) : ICell := ⟨some d, e, some (g, b)⟩
abbrev ki (n : Int) : Opd := .c (.int .i64 n)
abbrev kF : Opd := .c (.bool false)
abbrev kT : Opd := .c (.bool true)
abbrev kA : RL := [(324, .int .i64 0), (6, .int .u64 0)]
abbrev kB : RL := [(3, .int .i64 0), (2, .bool false), (5, .int .i64 0), (2, .int .u64 0), (324, .int .i64 0), (6, .int .u64 0)]
abbrev kC : RL := [(5, .int .i64 0), (2, .int .u64 0)]
def zhn : IFunc := ⟨18, [.tmp 4], (.seq (.reg [kq 2 (.box (.t 0)), kq 4 (.mv kF)]) (.seq (.seq (.reg [km 7 1, kq 8 (.lenS (.t 7)), kq 9 (.mv (ki 0))]) (.block 0 (.loop (.seq (.reg [kq 10 (.bin .lss (.t 9) (.t 8))]) (.seq (.cond (.t 10) .skip (.exit 0)) (.seq (.block 1 (.seq (.reg [kq 11 (.iadS 1 (.t 7) (.t 9)), kq 12 (.ld none (.t 11)), km 6 12]) (.seq (.reg [kq 13 (.fad 0 (.t 2)), kq 14 (.ld none (.t 13)), km 15 6, kq 16 (.bin .eql (.t 14) (.t 15))]) (.cond (.t 16) (.seq (.reg [kq 4 (.mv kT)]) .ret) .skip)))) (.reg [kq 17 (.bin .add (.t 9) (ki 1)), km 9 17]))))))) (.seq (.reg [kq 4 (.mv kF)]) .ret)))⟩
abbrev zaP (P : Program) : Prop := zX P "roundhouse/pool.may" = some zhn
def zgf : IFunc := ⟨32, [.tmp 4], (.seq (.reg [kq 2 (.box (.t 0)), kq 3 (.box (.t 1)), kq 4 (.mv kF)]) (.seq (.seq (.reg [kq 7 (.fad 1 (.t 2)), kq 8 (.ld none (.t 7)), kq 9 (.fad 2 (.t 2)), kq 10 (.ld none (.t 9)), kq 11 (.bld [(2, (.int .i64 0))] [(0, 1, (.t 8)), (1, 1, (.t 10))]), kq 12 (.ld (some 2) (.t 3)), kq 13 (.eqa false [(2, .i)] (.t 11) (.t 12))]) (.cond (.t 13) (.seq (.reg [kq 4 (.mv kT)]) .ret) .skip)) (.seq (.seq (.reg [kq 14 (.fad 3 (.t 2)), kq 15 (.ld (some 320) (.t 14)), kq 16 (.mv (ki 0))]) (.block 0 (.loop (.seq (.reg [kq 17 (.bin .lss (.t 16) (ki 64))]) (.seq (.cond (.t 17) .skip (.exit 0)) (.seq (.block 1 (.seq (.reg [kq 18 (.ixA 64 5 (some 5) (.t 15) (.t 16)), kq 6 (.new [(5, (.int .i64 0))]), ku (.st 5 (.t 6) (.t 18))]) (.seq (.reg [kq 19 (.fad 0 (.t 6)), kq 20 (.ld none (.t 19)), kq 21 (.bin .neq (.t 20) (ki 0)), km 22 21, kg 23 (.fad 1 (.t 6)) 22 true, kg 24 (.ld none (.t 23)) 22 true, kg 25 (.fad 2 (.t 6)) 22 true, kg 26 (.ld none (.t 25)) 22 true, kg 27 (.bld [(2, (.int .i64 0))] [(0, 1, (.t 24)), (1, 1, (.t 26))]) 22 true, kg 28 (.ld (some 2) (.t 3)) 22 true, kg 29 (.eqa false [(2, .i)] (.t 27) (.t 28)) 22 true, kq 30 (.pick (.t 22) (.t 29) kF)]) (.cond (.t 30) (.seq (.reg [kq 4 (.mv kT)]) .ret) .skip)))) (.reg [kq 31 (.bin .add (.t 16) (ki 1)), km 16 31]))))))) (.seq (.reg [kq 4 (.mv kF)]) .ret))))⟩
abbrev zaG (P : Program) : Prop := zX P "roundhouse/pool.held" = some zgf
def zeP : IFunc := ⟨19, [.tmp 4], (.seq (.reg [kq 4 (.mv kF)]) (.seq (.reg [km 5 0, kq 6 (.bin .geq (.t 5) (ki 0)), km 7 6, kg 8 (.mv (.t 0)) 7 true, kg 9 (.bin .leq (.t 8) (ki 4294967295)) 7 true, kq 10 (.pick (.t 7) (.t 9) kF), km 11 10, kg 12 (.mv (.t 1)) 11 true, kg 13 (.bin .geq (.t 12) (ki 0)) 11 true, kq 14 (.pick (.t 11) (.t 13) kF), km 15 14, kg 16 (.mv (.t 1)) 15 true, kg 17 (.bin .leq (.t 16) (ki 65535)) 15 true, kq 18 (.pick (.t 15) (.t 17) kF), km 4 18]) .ret))⟩
abbrev zai (P : Program) : Prop := zX P "roundhouse/pool.placed" = some zeP
def zeS : IFunc := ⟨14, [.cell 4 (some 7)], (.seq (.reg [kq 2 (.box (.t 0)), kq 3 (.box (.t 1)), kq 4 (.new [(1, (.int .i64 0)), (6, (.int .u64 0))])]) (.seq (.reg [kq 5 (.fad 0 (.t 2)), kq 6 (.ld none (.t 5)), kq 7 (.bin .add (.t 6) (ki 1)), kq 8 (.fad 3 (.t 2)), kq 9 (.ld (some 2) (.t 8)), kq 10 (.fad 5 (.t 2)), kq 11 (.ld (some 2) (.t 10)), kq 12 (.ld (some 2) (.t 3)), kq 13 (.bld [(1, (.int .i64 0)), (6, (.int .u64 0))] [(0, 1, (.t 7)), (1, 2, (.t 9)), (3, 2, (.t 11)), (5, 2, (.t 12))]), ku (.st 7 (.t 4) (.t 13))]) .ret))⟩
abbrev zaq (P : Program) : Prop := zX P "roundhouse/cookie.Next" = some zeS
def zgg : IFunc := ⟨61, [.tmp 4], (.seq (.reg [kq 2 (.box (.t 0)), kq 3 (.box (.t 1)), kq 4 (.mv (ki 0))]) (.seq (.reg [kq 7 (.fad 1 (.t 3)), kq 8 (.ld none (.t 7)), kq 9 (.fad 3 (.t 2)), kq 10 (.iadA 64 5 (.t 9) (.t 8)), kq 11 (.ld (some 5) (.t 10)), kq 5 (.new [(5, (.int .i64 0))]), ku (.st 5 (.t 5) (.t 11))]) (.seq (.reg [kq 6 (.mv kT)]) (.seq (.seq (.reg [kq 12 (.fad 0 (.t 3)), kq 13 (.ld none (.t 12))]) (.block 0 (.seq (.reg [kq 15 (.bin .eql (.t 13) (ki 1)), km 14 15]) (.cond (.t 14) (.reg [kq 16 (.ld (some 5) (.t 5)), kq 17 (.bsl [(1, (.int .i64 0))] 1 1 [(0, 1, (ki 0))]), kq 18 (.call "roundhouse/pool.may" [(.t 16), (.t 17)]), km 19 18, kg 20 (.ld (some 330) (.t 2)) 19 true, kg 21 (.fad 2 (.t 3)) 19 true, kg 22 (.ld none (.t 21)) 19 true, kg 23 (.fad 3 (.t 3)) 19 true, kg 24 (.ld none (.t 23)) 19 true, kg 25 (.bld [(2, (.int .i64 0))] [(0, 1, (.t 22)), (1, 1, (.t 24))]) 19 true, kg 26 (.call "roundhouse/pool.held" [(.t 20), (.t 25)]) 19 true, kg 27 (.un .not (.t 26)) 19 true, kq 28 (.pick (.t 19) (.t 27) kF), km 6 28]) (.seq (.seq (.reg [kq 30 (.bin .eql (.t 13) (ki 2)), km 29 30]) (.cond (.t 29) .skip (.reg [kq 31 (.bin .eql (.t 13) (ki 4)), km 29 31]))) (.cond (.t 29) (.reg [kq 32 (.ld (some 5) (.t 5)), kq 33 (.bsl [(1, (.int .i64 0))] 1 2 [(0, 1, (ki 1)), (1, 1, (ki 3))]), kq 34 (.call "roundhouse/pool.may" [(.t 32), (.t 33)]), km 6 34]) (.seq (.reg [kq 36 (.bin .eql (.t 13) (ki 3)), km 35 36]) (.cond (.t 35) (.reg [kq 37 (.ld (some 5) (.t 5)), kq 38 (.bsl [(1, (.int .i64 0))] 1 1 [(0, 1, (ki 2))]), kq 39 (.call "roundhouse/pool.may" [(.t 37), (.t 38)]), km 6 39]) (.seq (.reg [kq 41 (.bin .eql (.t 13) (ki 5)), km 40 41]) (.cond (.t 40) (.reg [kq 42 (.ld (some 5) (.t 5)), kq 43 (.bsl [(1, (.int .i64 0))] 1 1 [(0, 1, (ki 4))]), kq 44 (.call "roundhouse/pool.may" [(.t 42), (.t 43)]), km 6 44]) .skip)))))))))) (.seq (.block 1 (.seq (.reg [km 46 6, kq 47 (.un .not (.t 46)), km 45 47]) (.cond (.t 45) (.seq (.reg [kq 4 (.mv (ki 12))]) .ret) (.seq (.reg [kq 49 (.fad 0 (.t 3)), kq 50 (.ld none (.t 49)), kq 51 (.bin .eql (.t 50) (ki 5)), km 52 51, kg 53 (.fad 323 (.t 2)) 52 true, kg 54 (.fad 0 (.t 53)) 52 true, kg 55 (.ld none (.t 54)) 52 true, kg 56 (.fad 4 (.t 5)) 52 true, kg 57 (.ld none (.t 56)) 52 true, kg 58 (.bin .add (.t 57) (ki 3)) 52 true, kg 59 (.bin .lss (.t 55) (.t 58)) 52 true, kq 60 (.pick (.t 52) (.t 59) kF), km 48 60]) (.cond (.t 48) (.seq (.reg [kq 4 (.mv (ki 13))]) .ret) .skip))))) (.seq (.reg [kq 4 (.mv (ki 0))]) .ret))))))⟩
abbrev zaM (P : Program) : Prop := zX P "roundhouse/pool.fits" = some zgg
def zfk : IFunc := ⟨65, [.tmp 2], (.seq (.reg [kq 1 (.box (.t 0)), kq 2 (.mv (ki 0))]) (.seq (.block 0 (.seq (.reg [kq 5 (.fad 0 (.t 1)), kq 6 (.ld none (.t 5)), kq 7 (.bin .lss (.t 6) (ki 1)), km 8 7, kg 9 (.fad 0 (.t 1)) 8 false, kg 10 (.ld none (.t 9)) 8 false, kg 11 (.bin .gtr (.t 10) (ki 6)) 8 false, kq 12 (.pick (.t 8) kT (.t 11)), km 4 12]) (.cond (.t 4) (.seq (.reg [kq 2 (.mv (ki 2))]) .ret) (.seq (.reg [kq 14 (.fad 1 (.t 1)), kq 15 (.ld none (.t 14)), kq 16 (.bin .lss (.t 15) (ki 0)), km 17 16, kg 18 (.fad 1 (.t 1)) 17 false, kg 19 (.ld none (.t 18)) 17 false, kg 20 (.bin .geq (.t 19) (ki 64)) 17 false, kq 21 (.pick (.t 17) kT (.t 20)), km 22 21, kg 23 (.fad 0 (.t 1)) 22 false, kg 24 (.ld none (.t 23)) 22 false, kg 25 (.bin .eql (.t 24) (ki 6)) 22 false, kg 26 (.mv (.t 25)) 22 false, kg 27 (.fad 1 (.t 1)) 26 true, kg 28 (.ld none (.t 27)) 26 true, kg 29 (.bin .neq (.t 28) (ki 0)) 26 true, kg 30 (.pick (.t 26) (.t 29) kF) 22 false, kq 31 (.pick (.t 22) kT (.t 30)), km 13 31]) (.cond (.t 13) (.seq (.reg [kq 2 (.mv (ki 11))]) .ret) .skip))))) (.seq (.reg [kq 32 (.ld (some 7) (.t 1)), kq 3 (.new kC), ku (.st 7 (.t 3) (.t 32))]) (.seq (.reg [kq 33 (.fad 0 (.t 3)), ku (.st 1 (.t 33) (ki 0)), kq 34 (.fad 1 (.t 3)), ku (.st 1 (.t 34) (ki 0))]) (.seq (.seq (.reg [kq 35 (.fad 0 (.t 1)), kq 36 (.ld none (.t 35))]) (.block 1 (.seq (.reg [kq 38 (.bin .eql (.t 36) (ki 1)), km 37 38]) (.cond (.t 37) (.seq (.seq (.reg [kq 39 (.fad 2 (.t 1)), kq 40 (.ld none (.t 39)), kq 41 (.fad 3 (.t 1)), kq 42 (.ld none (.t 41)), kq 43 (.call "roundhouse/pool.placed" [(.t 40), (.t 42)]), kq 44 (.un .not (.t 43)), km 45 44, kg 46 (.fad 4 (.t 1)) 45 false, kg 47 (.ld none (.t 46)) 45 false, kg 48 (.bin .lss (.t 47) (ki 1)) 45 false, kq 49 (.pick (.t 45) kT (.t 48)), km 50 49, kg 51 (.fad 4 (.t 1)) 50 false, kg 52 (.ld none (.t 51)) 50 false, kg 53 (.bin .gtr (.t 52) (ki 8)) 50 false, kq 54 (.pick (.t 50) kT (.t 53))]) (.cond (.t 54) (.seq (.reg [kq 2 (.mv (ki 14))]) .ret) .skip)) (.reg [kq 55 (.fad 2 (.t 3)), ku (.st 1 (.t 55) (ki 0)), kq 56 (.fad 3 (.t 3)), ku (.st 1 (.t 56) (ki 0)), kq 57 (.fad 4 (.t 3)), ku (.st 1 (.t 57) (ki 0))])) (.seq (.reg [kq 59 (.bin .eql (.t 36) (ki 6)), km 58 59]) (.cond (.t 58) (.reg [kq 60 (.bld [(2, (.int .u64 0))] []), kq 61 (.fad 5 (.t 3)), ku (.st 2 (.t 61) (.t 60))]) .skip)))))) (.seq (.seq (.reg [kq 62 (.ld (some 7) (.t 3)), kq 63 (.bld kC []), kq 64 (.eqa true [(7, .i)] (.t 62) (.t 63))]) (.cond (.t 64) (.seq (.reg [kq 2 (.mv (ki 14))]) .ret) .skip)) (.seq (.reg [kq 2 (.mv (ki 0))]) .ret)))))))⟩
abbrev zaB (P : Program) : Prop := zX P "roundhouse/pool.Check" = some zfk
def zfl : IFunc := ⟨78, [.cell 4 (some 330), .tmp 5], (.seq (.reg [kq 2 (.box (.t 0)), kq 3 (.box (.t 1)), kq 4 (.new kA), kq 5 (.mv (ki 0))]) (.seq (.seq (.reg [kq 9 (.ld (some 7) (.t 3)), kq 10 (.call "roundhouse/pool.Check" [(.t 9)]), km 6 10]) (.seq (.reg [km 11 6, kq 12 (.bin .neq (.t 11) (ki 0))]) (.cond (.t 12) (.seq (.reg [kq 13 (.bld kA []), km 14 6, ku (.st 330 (.t 4) (.t 13)), km 5 14]) .ret) .skip))) (.seq (.seq (.reg [kq 15 (.ld (some 330) (.t 2)), kq 16 (.ld (some 7) (.t 3)), kq 17 (.call "roundhouse/pool.fits" [(.t 15), (.t 16)]), km 7 17]) (.seq (.reg [km 18 7, kq 19 (.bin .neq (.t 18) (ki 0))]) (.cond (.t 19) (.seq (.reg [kq 20 (.bld kA []), km 21 7, ku (.st 330 (.t 4) (.t 20)), km 5 21]) .ret) .skip))) (.seq (.reg [kq 22 (.fad 0 (.t 2)), kq 23 (.ld none (.t 22)), kq 24 (.bin .add (.t 23) (ki 1)), kq 25 (.fad 0 (.t 2)), ku (.st 1 (.t 25) (.t 24))]) (.seq (.reg [kq 26 (.fad 1 (.t 3)), kq 27 (.ld none (.t 26)), kq 28 (.fad 3 (.t 2)), kq 29 (.iadA 64 5 (.t 28) (.t 27)), km 8 29]) (.seq (.seq (.reg [kq 30 (.fad 0 (.t 3)), kq 31 (.ld none (.t 30))]) (.block 0 (.seq (.reg [kq 33 (.bin .eql (.t 31) (ki 1)), km 32 33]) (.cond (.t 32) (.reg [km 34 8, kq 35 (.fad 2 (.t 3)), kq 36 (.ld none (.t 35)), kq 37 (.fad 3 (.t 3)), kq 38 (.ld none (.t 37)), kq 39 (.fad 4 (.t 3)), kq 40 (.ld none (.t 39)), kq 41 (.bld [(5, (.int .i64 0))] [(0, 1, (ki 1)), (1, 1, (.t 36)), (2, 1, (.t 38)), (3, 1, (.t 40))]), kq 42 (.nilc (.t 34)), ku (.st 5 (.t 42) (.t 41))]) (.seq (.reg [kq 44 (.bin .eql (.t 31) (ki 2)), km 43 44]) (.cond (.t 43) (.reg [km 45 8, kq 46 (.nilc (.t 45)), kq 47 (.fad 0 (.t 46)), ku (.st 1 (.t 47) (ki 2))]) (.seq (.reg [kq 49 (.bin .eql (.t 31) (ki 3)), km 48 49]) (.cond (.t 48) (.reg [km 50 8, kq 51 (.nilc (.t 50)), kq 52 (.fad 0 (.t 51)), ku (.st 1 (.t 52) (ki 3))]) (.seq (.reg [kq 54 (.bin .eql (.t 31) (ki 4)), km 53 54]) (.cond (.t 53) (.reg [km 55 8, km 56 8, kq 57 (.fad 323 (.t 2)), kq 58 (.fad 0 (.t 57)), kq 59 (.ld none (.t 58)), kq 60 (.nilc (.t 55)), kq 61 (.fad 0 (.t 60)), ku (.st 1 (.t 61) (ki 4)), kq 62 (.nilc (.t 56)), kq 63 (.fad 4 (.t 62)), ku (.st 1 (.t 63) (.t 59))]) (.seq (.reg [kq 65 (.bin .eql (.t 31) (ki 5)), km 64 65]) (.cond (.t 64) (.reg [km 66 8, kq 67 (.bld [(5, (.int .i64 0))] []), kq 68 (.nilc (.t 66)), ku (.st 5 (.t 68) (.t 67))]) (.seq (.reg [kq 70 (.bin .eql (.t 31) (ki 6)), km 69 70]) (.cond (.t 69) (.reg [kq 71 (.fad 323 (.t 2)), kq 72 (.ld (some 7) (.t 71)), kq 73 (.fad 5 (.t 3)), kq 74 (.ld (some 2) (.t 73)), kq 75 (.call "roundhouse/cookie.Next" [(.t 72), (.t 74)]), kq 76 (.fad 323 (.t 2)), ku (.st 7 (.t 76) (.t 75))]) .skip)))))))))))))) (.seq (.reg [kq 77 (.ld (some 330) (.t 2)), ku (.st 330 (.t 4) (.t 77)), kq 5 (.mv (ki 0))]) .ret)))))))⟩
abbrev zaI (P : Program) : Prop := zX P "roundhouse/pool.Apply" = some zfl
def zfP : IFunc := ⟨34, [.cell 4 (some 330), .tmp 5, .tmp 6], (.seq (.reg [kq 2 (.box (.t 0)), kq 4 (.new kA), kq 5 (.mv (ki 0)), kq 6 (.mv (ki 0))]) (.seq (.seq (.reg [km 11 1, kq 12 (.lenS (.t 11)), kq 13 (.mv (ki 0))]) (.block 0 (.loop (.seq (.reg [kq 14 (.bin .lss (.t 13) (.t 12))]) (.seq (.cond (.t 14) .skip (.exit 0)) (.seq (.block 1 (.seq (.reg [km 15 13, kq 16 (.iadS 7 (.t 11) (.t 13)), kq 17 (.ld (some 7) (.t 16)), kq 8 (.new kC), km 7 15, ku (.st 7 (.t 8) (.t 17))]) (.seq (.reg [kq 19 (.ld (some 330) (.t 2)), kq 20 (.ld (some 7) (.t 8)), kq 21 (.call "roundhouse/pool.Apply" [(.t 19), (.t 20)]), km 18 21, kq 22 (.ext 0 (.t 18)), kq 23 (.ext 1 (.t 18)), kq 9 (.new kA), ku (.st 330 (.t 9) (.t 22)), km 10 23]) (.seq (.seq (.reg [km 24 10, kq 25 (.bin .neq (.t 24) (ki 0))]) (.cond (.t 25) (.seq (.reg [kq 26 (.ld (some 330) (.t 2)), km 27 7, km 28 10, ku (.st 330 (.t 4) (.t 26)), km 5 27, km 6 28]) .ret) .skip)) (.reg [kq 29 (.ld (some 330) (.t 9)), ku (.st 330 (.t 2) (.t 29))]))))) (.reg [kq 30 (.bin .add (.t 13) (ki 1)), km 13 30]))))))) (.seq (.reg [kq 31 (.ld (some 330) (.t 2)), km 32 1, kq 33 (.lenS (.t 32)), ku (.st 330 (.t 4) (.t 31)), km 5 33, kq 6 (.mv (ki 0))]) .ret)))⟩
abbrev zcH (P : Program) : Prop := zX P "roundhouse/pool.All" = some zfP
end Go.Rh

namespace Go.Rh
theorem nextC {P : Program} (hc : zaq P) {x0 y1 y2 y3 y4 y5 y6 k1 k2 : Int} :
  Env P "roundhouse/cookie.Next" [.agg #[.int .i64 x0, .int .u64 y1, .int .u64 y2, .int .u64 y3, .int .u64 y4, .int .u64 y5, .int .u64 y6], .agg #[.int .u64 k1, .int .u64 k2]] []
   (fun v h => v = .agg #[.int .i64 (i64.wrap (x0 + 1)), .int .u64 y3, .int .u64 y4, .int .u64 y5, .int .u64 y6, .int .u64 k1, .int .u64 k2] ∧ h = []) := by
 refine Env.of hc ?_
 unfold wpF zeS
 refine zL (s' := _) rfl (zC (zL (s' := _) rfl (zC (⟨trivial, _, rfl, ?_, .inr ⟨?_, ?_, ?_, rfl⟩⟩))))
 ·simp; rfl
 ·rfl
 ·simp
 ·rfl
def ii (l : List Int) : List Value := l.map fun x => .int .i64 x
theorem zbd (l : List Int) : (ii l).all zbz = true := by simp [ii, zbz]
theorem ii_bel (m : Nat) (l : List Int) : (ii l).all (zhO m) = true := by simp [ii, zhO]
theorem ii_blk (l : List Int) : ziT (.cells (ii l) false) = true := by simp [ii, zbz, ziT]
theorem ii_get {l : List Int} {i : Nat} (h : i < l.length) : zam none (ii l) i = some (.int .i64 l[i]) := by simp [zam, ii, h]
theorem mayC {P : Program} (hc : zaP P) (x0 x1 x2 x3 x4 : Int) (l : List Int) (hl : (l.length : Int) ≤ 1000) :
  Env P "roundhouse/pool.may" [.agg #[.int .i64 x0, .int .i64 x1, .int .i64 x2, .int .i64 x3, .int .i64 x4], .slice (some ⟨0, 0, none⟩) l.length l.length] [.cells (ii l) false]
   (Ans (.bool (l.contains x0)) [.cells (ii l) false]) := by
 refine Env.of hc ?_
 unfold wpF zhn
 refine zL (s' := _) rfl (zC (zL (s' := _) rfl (zC ?_)))
 have fin : ∀ (b : Bool) (s : St), b = l.contains x0 → s.f 4 = .bool b → s.h.take 1 = [.cells (ii l) false] → True ∧ ∃ q, zfD s [.tmp 4] = some q ∧ (∀ v ∈ q, zbG v = false) ∧
   (Ans (.bool (l.contains x0)) [.cells (ii l) false] (one q) s.h ∨ (vpf (one q) = true ∧ (∀ b ∈ s.h.take 1, ziT b = true) ∧ Ans (.bool (l.contains x0)) [.cells (ii l) false] (one q) (s.h.take 1))) := by
  intro b s hb h4 hh
  refine ⟨trivial, [.bool b], by simp [zfD, h4], by simp [zbG], .inr ⟨rfl, ?_, ?_⟩⟩
  ·rw [hh]; intro b hb; simp at hb; subst hb; exact ii_blk l
  ·rw [hh, hb]; exact ⟨rfl, rfl⟩
 refine ⟨fun m s => ∃ i : Nat, i ≤ l.length ∧ m = l.length - i ∧ (∀ (j : Nat) x, j < i → l[j]? = some x → x ≠ x0) ∧
  s = ⟨reg [(2, .pointer (some ⟨1, 0, none⟩)), (7, .slice (some ⟨0, 0, none⟩) l.length l.length), (8, .int .i64 l.length), (9, .int .i64 i)], [.cells (ii l) false, .cells [.int .i64 x0, .int .i64 x1, .int .i64 x2, .int .i64 x3, .int .i64 x4] true]⟩, ⟨l.length, _, Wk.to (hs := [.cells (ii l) false, .cells [.int .i64 x0, .int .i64 x1, .int .i64 x2, .int .i64 x3, .int .i64 x4] true]) ?_ ?_ ?_ ?_, 0, ?_, ?_, ?_, rfl⟩, ?_⟩
 ·exact Nat.le_succ 1
 ·rfl
 ·exact ⟨⟨rfl, rfl⟩, ⟨rfl, rfl⟩, ⟨rfl, rfl⟩, ⟨rfl, rfl⟩, trivial⟩
 ·simp [bbel, zhO, ii_bel]
 ·exact Nat.zero_le _
 ·rfl
 ·intro j x hj; exact absurd hj (Nat.not_lt_zero _)
 ·rintro m s ⟨i, hi, rfl, hlt, rfl⟩
  refine zL (s' := _) rfl (zC (qF (qS (t := decide ((i : Int) < (l.length : Int))) rfl (fun ht => ?_) (fun ht => ?_))))
  ·refine zC ?_
   have ht : i < l.length := by simpa using ht
   refine zi4 (k := 0) (o := 0) (n := i) rfl rfl (by omega) ?_
   refine zcq (v := .int .i64 l[i]) rfl rfl ?_ ?_
   ·rw [show 0 + (i : Int).toNat * 1 = i by omega]; exact ii_get ht
   refine zL (s' := _) rfl (zC (zL (s' := _) rfl (zC (qS (t := x0 == l[i]) rfl (fun hx => ?_) (fun hx => ?_)))))
   ·refine zL (s' := _) rfl (zC ?_)
    refine fin true _ ?_ rfl rfl
    have : x0 = l[i] := by simpa using hx
    simp [this]
   ·refine zC ?_
    refine zL (s' := _) rfl (⟨l.length - (i + 1), _, by omega, Wk.to (hs := [.cells (ii l) false, .cells [.int .i64 x0, .int .i64 x1, .int .i64 x2, .int .i64 x3, .int .i64 x4] true]) (Nat.le_succ 1) rfl ?_ ?_, i + 1, by omega, rfl, ?_, rfl⟩)
    ·refine ⟨⟨rfl, rfl⟩, ⟨rfl, rfl⟩, ⟨rfl, rfl⟩, ⟨?_, rfl⟩, trivial⟩
     exact congrArg (Value.int .i64) (w64 (by omega) (by omega))
    ·simp [bbel, zhO, ii_bel]
    ·intro j x hj hx'
     by_cases hji : j = i
     ·subst hji
      have : l[j]? = some l[j] := by simp
      rw [this] at hx'; cases hx'
      intro e; simp [e] at hx
     ·exact hlt j x (by omega) hx'
  ·refine zC ?_
   refine zL (s' := _) rfl (zC (fin false _ ?_ rfl rfl))
   have ht : l.length ≤ i := by simpa using ht
   symm
   rw [← Bool.not_eq_true]
   intro hc
   rw [List.contains_iff_exists_mem_beq] at hc
   obtain ⟨y, hy, hxy⟩ := hc
   obtain ⟨j, hj⟩ := List.mem_iff_getElem?.1 hy
   have := zJ hj
   exact hlt j y (by omega) hj (show y = x0 from (eq_of_beq hxy).symm)
theorem heldTo_of (c : qO) (a p : Int) : ∀ {n i : Nat}, i < n → ze1 c a p i = true → zgI c a p n = true
 | n + 1, i, hi, h => by
  simp only [zgI]
  by_cases e : i = n
  ·subst e; simp [h]
  ·simp [heldTo_of c a p (n := n) (by omega) h]
theorem heldC {P : Program} (hc : zaG P) (c : qO) (a p : Int) :
  Env P "roundhouse/pool.held" [qG c, .agg #[.int .i64 a, .int .i64 p]] [] (Ans (.bool (heldS c a p)) []) := by
 refine Env.of hc ?_
 unfold wpF zgf
 refine zL (s' := _) rfl (zC (qF (qF (zL (s' := _) rfl (zC (qS (t := (c 1 == a && (c 2 == p && true))) rfl (fun h0 => ?_) (fun h0 => ?_)))))))
 ·refine zL (s' := _) rfl (zC ?_)
  refine zar [.bool true] rfl rfl ?_ rfl rfl
  simp at h0
  simp [heldS, h0, one]
 ·refine zC ?_
  refine qF (qF (zL (s' := _) rfl (zC ?_)))
  refine ⟨fun m s => ∃ i : Nat, i ≤ 64 ∧ m = 64 - i ∧ zgI c a p i = false ∧ s = ⟨reg [(2, .pointer (some ⟨0, 0, none⟩)), (3, .pointer (some ⟨1, 0, none⟩)), (15, .agg ⟨ze0 c⟩), (16, .int .i64 i)], [.cells (pl c) true, .cells [.int .i64 a, .int .i64 p] true]⟩,
   ⟨64, _, Wk.to (hs := [.cells (pl c) true, .cells [.int .i64 a, .int .i64 p] true]) ?_ rfl ?_ ?_, 0, ?_, rfl, rfl, rfl⟩, ?_⟩
  ·exact Nat.zero_le _
  ·exact ⟨⟨rfl, rfl⟩, ⟨rfl, rfl⟩, ⟨rfl, zdW (take_scl (drop_scl (za7 c) 3) 320)⟩, ⟨rfl, rfl⟩, trivial⟩
  ·simp [bbel, zhO, zgE]
  ·exact Nat.zero_le _
  ·rintro m s ⟨i, hi, rfl, hto, rfl⟩
   refine zL (s' := _) rfl (zC (qF (qS (t := decide ((i : Int) < 64)) rfl (fun ht => ?_) (fun ht => ?_))))
   ·refine zC ?_
    have ht : i < 64 := by have := of_decide_eq_true ht; omega
    refine qF (zdk (qF (wpOps_ixA (n := i) (v := slotV c i) rfl rfl (by omega) ?_ ?_)))
    ·exact zh7 c ht
    refine zL (s' := _) rfl (zC (qF (zac (s' := _) 4 rfl ?_)))
    have next : zgI c a p (i + 1) = false → ∀ s : St, s.f 2 = .pointer (some ⟨0, 0, none⟩) → s.f 3 = .pointer (some ⟨1, 0, none⟩) → s.f 15 = .agg ⟨ze0 c⟩ → s.f 16 = .int .i64 (i64.wrap ((i : Int) + 1)) → s.h.take 2 = [.cells (pl c) true, .cells [.int .i64 a, .int .i64 p] true] →
      ∃ m s0, m < 64 - i ∧ Wk 0 s s0 ∧ ∃ i : Nat, i ≤ 64 ∧ m = 64 - i ∧ zgI c a p i = false ∧ s0 = ⟨reg [(2, .pointer (some ⟨0, 0, none⟩)), (3, .pointer (some ⟨1, 0, none⟩)), (15, .agg ⟨ze0 c⟩), (16, .int .i64 i)], [.cells (pl c) true, .cells [.int .i64 a, .int .i64 p] true]⟩ := by
     intro hto s h2 h3 h15 h16 hh
     refine ⟨64 - (i + 1), _, by omega, Wk.to (hs := [.cells (pl c) true, .cells [.int .i64 a, .int .i64 p] true]) (Nat.zero_le _) hh ?_ ?_, i + 1, by omega, rfl, hto, rfl⟩
     ·refine ⟨⟨h2, rfl⟩, ⟨h3, rfl⟩, ⟨h15, zdW (take_scl (drop_scl (za7 c) 3) 320)⟩, ⟨?_, rfl⟩, trivial⟩
      rw [h16, w64 (by omega) (by omega)]; rfl
     ·simp [bbel, zhO, zgE]
    refine zaT (b := c (3 + 5 * i) != 0) 22 rfl (fun hb => ?_) (fun hb => ?_)
    ·refine zL (s' := _) rfl (zC (qS (t := (c (3 + 5 * i + 1) == a && (c (3 + 5 * i + 2) == p && true))) rfl (fun ht => ?_) (fun ht => ?_)))
     ·refine zL (s' := _) rfl (zC ?_)
      refine zar [.bool true] rfl rfl ?_ rfl rfl
      have : ze1 c a p i = true := by simp at ht hb; simp [ze1, ht, hb]
      simp [heldS, one, heldTo_of c a p ‹_› this]
     ·refine zC ?_
      refine zL (s' := _) rfl (next ?_ _ rfl rfl rfl rfl rfl)
      have : ze1 c a p i = false := by
       rw [← Bool.not_eq_true]; intro h; simp [ze1] at h; simp [h] at ht
      simp [zgI, hto, this]
    ·refine zL (s' := _) rfl (zC (qS (t := false) rfl (fun ht => ?_) (fun ht => ?_)))
     ·cases ht
     ·refine zC ?_
      refine zL (s' := _) rfl (next ?_ _ rfl rfl rfl rfl rfl)
      have : ze1 c a p i = false := by simp at hb; simp [ze1, hb]
      simp [zgI, hto, this]
   ·refine zC ?_
    refine zL (s' := _) rfl (zC (zar [.bool false] rfl rfl ?_ rfl rfl))
    have ht : ¬ i < 64 := by have := of_decide_eq_false ht; omega
    have : i = 64 := by omega
    subst this
    have hz : ¬ (c 1 = a ∧ c 2 = p) := by rintro ⟨e1, e2⟩; simp [e1, e2] at h0
    simp only [heldS, one, hto, Bool.or_false, Value.bool.injEq]
    symm
    simp only [Bool.and_eq_false_iff, decide_eq_false_iff_not]
    by_cases h1 : c 1 = a
    ·exact .inr fun h2 => hz ⟨h1, h2⟩
    ·exact .inl h1
end Go.Rh

namespace Go.Rh
def inV (o : Option Nat) (k n : Nat) : Value := match o with
 | none => .slice none 0 0
 | some cap => .slice (some ⟨k, 0, none⟩) n cap
def inB (o : Option Nat) (c : List Value) : Blk := match o with
 | none => .gone
 | some _ => .cells c false
theorem hf_gone1 : hf [Blk.gone] = hf [] := by
 funext k
 cases k with
 | zero => rfl
 | succ k => simp [hf]
theorem Env.nil {P : Program} {g : String} {args : List Value} {V : Value} (h : Env P g args [.gone] (Ans V [.gone])) : Env P g args [] (Ans V []) := by
 intro f fn h1 h2 w φ args' H hl ha
 refine (h f fn h1 h2 w φ args' (by rw [hf_gone1]; exact H) hl ha).mono ?_
 rintro e w' ⟨v, v', h', φ', e1, ⟨e2, rfl⟩, e3, e4, e5⟩
 refine ⟨v, v', [], φ', e1, ⟨e2, rfl⟩, e3, by rw [← hf_gone1]; exact e4, e5.size, fun b hb hk => e5.keep b hb fun k blk o hq hrw => ?_, e5.os, e5.tape, e5.output, e5.le, e5.new, Nat.le_refl _, fun k b b' q => by simp at q⟩
 cases k with
 | zero => simp at hq; subst hq; intro he; have := H.nil 0 (zcT (by simp)); rw [this] at he; cases he
 | succ k => simp at hq
theorem run_lenIn {d : Option Nat} {x : Opd} {L : List (Nat × Value)} {hp : List Blk} {k n : Nat} {o : Option Nat} (hx : evf (reg L) x = inV o k n) (ho : o = none → n = 0) : zdi [⟨d, .lenS x, none⟩] ⟨reg L, hp⟩ = some ⟨zas (reg L) d (.int .i64 (n : Nat)), hp⟩ := by
 refine zaE (e := .no) rfl rfl ?_
 cases o with
 | none => simp [zQ, hx, inV, ho rfl]
 | some m => simp [zQ, hx, inV]
theorem inB_gone (o : Option Nat) {c : List Value} (hc : c.all zbz = true) : ziT (inB o c) = true := by
 cases o with
 | none => rfl
 | some _ => exact hc
theorem ii_r {l : List Int} {i : Nat} {x : Int} {o : Nat} (ho : o = i) (h : l[i]? = some x) : zam none (ii l) o = some (iv x) := by
 subst ho; simp [zam, ii, h]
theorem zd6 {α : Type} {l : List α} {i : Nat} (h : i < l.length) : ∃ x, l[i]? = some x ∧ l.drop i = x :: l.drop (i + 1) ∧ l.take (i + 1) = l.take i ++ [x] :=
 ⟨l[i], by simp [h], List.drop_eq_getElem_cons h, by rw [List.take_add_one]; simp [h]⟩
theorem hf_in {h : List Blk} {k n : Nat} {o : Option Nat} {c : List Value} (hk : h[k]? = some (inB o c)) (ho : o = none → n = 0) (hn : 0 < n) : hf h k = some (.cells c false) := by
 cases o with
 | none => have := ho rfl; omega
 | some m => exact zav.2 ⟨hk, by simp⟩
theorem run_iadIn {d : Option Nat} {size : Nat} {x i : Opd} {L : List (Nat × Value)} {hp : List Blk} {k o' n' : Nat} {o : Option Nat} {ik : IntKind} {n : Int} (hx : evf (reg L) x = inV o k n') (ho : o = none → n' = 0) (hi : evf (reg L) i = .int ik n) (hn : 0 ≤ n ∧ n < n') (he : n.toNat * size = o') : zdi [⟨d, .iadS size x i, none⟩] ⟨reg L, hp⟩ = some ⟨zas (reg L) d (.pointer (some ⟨k, o', none⟩)), hp⟩ := by
 subst he
 cases o with
 | none => have := ho rfl; omega
 | some m => exact zaE (e := .no) rfl rfl (by simp [zQ, hx, inV, hi, hn])
end Go.Rh

namespace Go.Rh
structure GC (C : qW) (B : Nat) (c : IC) (Q : IExit → St → Prop) (s : St) : Prop where
  out : wpC C B c Q s
structure GO (C : qW) (l : List ICell) (K : St → Prop) (s : St) : Prop where
  out : zbg C l K s
structure GE (C : qW) (pu : List String) (l : List ICell) (K : St → Prop) (s : St) : Prop where
  out : wpR C pu l K s
section
variable {C : qW} {B : Nat} {Q : IExit → St → Prop} {K : St → Prop} {s : St} {L : List (Nat × Value)} {h : List Blk} {pu : List String}
theorem zT {a b : IC} (hg : GC C B a (fun ex s' => match ex with | .normal => ∃ s0, Wk B s' s0 ∧ GC C B b Q s0 | ex => Q ex s') s) : GC C B (.seq a b) Q s :=
 ⟨zcM (c := a) (fun ex s hs => by
  cases ex with
  | normal => obtain ⟨s0, h1, h2⟩ := hs; exact ⟨s0, h1, h2.out⟩
  | exit i => exact hs
  | goto i => exact hs
  | ret => exact hs) hg.out⟩
theorem zaJ {c : Opd} {a b : IC} {t : Bool} (hc : evf s.f c = .bool t) (h1 : t = true → GC C B a Q s) (h2 : t = false → GC C B b Q s) : GC C B (.cond c a b) Q s :=
 ⟨qS hc (fun e => (h1 e).out) (fun e => (h2 e).out)⟩
theorem zd5 {c : Opd} {a b : IC} (hc : evf s.f c = .bool true) (h1 : GC C B a Q s) : GC C B (.cond c a b) Q s := ⟨wpC_true hc h1.out⟩
theorem zbU {c : Opd} {a b : IC} (hc : evf s.f c = .bool false) (h1 : GC C B b Q s) : GC C B (.cond c a b) Q s := ⟨wpC_false hc h1.out⟩
theorem zak {id : Nat} {b : IC} (hg : GC C B b (fun ex s' => match ex with | .exit i => if i = id then Q .normal s' else Q (.exit i) s' | ex => Q ex s') s) : GC C B (.block id b) Q s := ⟨zdk hg.out⟩
theorem zaC (hg : Q .normal s) : GC C B .skip Q s := ⟨hg⟩
theorem zcU {id : Nat} (hg : Q (.exit id) s) : GC C B (.exit id) Q s := ⟨hg⟩
theorem zbr (hg : Q .ret s) : GC C B .ret Q s := ⟨hg⟩
theorem z0 {ops : List ICell} (hg : GO C ops (Q .normal) s) : GC C B (.reg ops) Q s := ⟨hg.out⟩
theorem zdz (pu : List String) {ops : List ICell} {anc : List (List Nat)} (hok : okD pu ops anc = true) (hg : GE C pu ops (Q .normal) s) : GC C B (.dreg ops anc) Q s := ⟨wpC_dreg pu hok hg.out⟩
theorem glabel {l : Nat} (hg : Q .normal s) : GC C B (.label l) Q s := ⟨hg⟩
theorem gscp {l : Nat} {r b : IC} (I : Nat → St → Prop) (h1 : GC C B b (fun ex s' => match ex with | .goto i => if i = l then ∃ m s0, Wk B s' s0 ∧ I m s0 else Q (.goto i) s' | ex => Q ex s') s)
  (h2 : ∀ n s, I n s → GC C B r (fun ex s' => match ex with | .goto i => if i = l then ∃ m s0, m < n ∧ Wk B s' s0 ∧ I m s0 else Q (.goto i) s' | ex => Q ex s') s) : GC C B (.scp l r b) Q s :=
 ⟨⟨I, h1.out, fun n s hI => (h2 n s hI).out⟩⟩
theorem zdy {b : IC} (I : Nat → St → Prop) (h1 : ∃ n s0, Wk B s s0 ∧ I n s0) (h2 : ∀ n s, I n s → GC C B b (fun ex s' => match ex with | .normal => ∃ m s0, m < n ∧ Wk B s' s0 ∧ I m s0 | ex => Q ex s') s) : GC C B (.loop b) Q s :=
 ⟨⟨I, h1, fun n s hI => (h2 n s hI).out⟩⟩
theorem zF (hk : K s) : GO C [] K s := ⟨hk⟩
theorem o_d {ops : List ICell} (n : Nat) (l : List (Nat × Value)) (hr : zdi (ops.take n) ⟨reg L, h⟩ = some ⟨reg (l ++ L), h⟩) (hk : GO C (ops.drop n) K ⟨reg (l ++ L), h⟩) : GO C ops K ⟨reg L, h⟩ := ⟨zac n hr hk.out⟩
theorem o_b {ops : List ICell} (n : Nat) (l : List (Nat × Value)) (h' : List Blk) (hr : zdi (ops.take n) ⟨reg L, h⟩ = some ⟨reg (l ++ L), h'⟩) (hk : GO C (ops.drop n) K ⟨reg (l ++ L), h'⟩) : GO C ops K ⟨reg L, h⟩ := ⟨zac n hr hk.out⟩
theorem o_s {op : IOp} {ops : List ICell} {h' : List Blk} {d : Nat} {v : Value} (hr : zdi [⟨some d, op, none⟩] ⟨reg L, h⟩ = some ⟨zas (reg L) (some d) v, h'⟩) (hk : GO C ops K ⟨reg ((d, v) :: L), h'⟩) : GO C (⟨some d, op, none⟩ :: ops) K ⟨reg L, h⟩ := ⟨zeY (l := [_]) hr hk.out⟩
theorem zeC {op : IOp} {ops : List ICell} {h' : List Blk} {v : Value} (hr : zdi [⟨none, op, none⟩] ⟨reg L, h⟩ = some ⟨zas (reg L) none v, h'⟩) (hk : GO C ops K ⟨reg L, h'⟩) : GO C (⟨none, op, none⟩ :: ops) K ⟨reg L, h⟩ := ⟨zeY (l := [_]) hr hk.out⟩
theorem o_sp {l : List ICell} {b : Bool} (g : Nat) (hg : reg L g = .bool b) (h1 : b = true → GO C l K ⟨reg ((g, bv true) :: L), h⟩) (h2 : b = false → GO C l K ⟨reg ((g, bv false) :: L), h⟩) : GO C l K ⟨reg L, h⟩ := ⟨zaT g hg (fun e => (h1 e).out) (fun e => (h2 e).out)⟩
theorem zd2 {d : Option Nat} {op : IOp} {g : Nat} {b : Bool} {r : List ICell} (hg : reg L g = .bool b) (hk : GO C (⟨d, op, none⟩ :: r) K ⟨reg L, h⟩) : GO C (⟨d, op, some (g, b)⟩ :: r) K ⟨reg L, h⟩ := ⟨zeH hg hk.out⟩
theorem CallK_imp {g : String} {vals : List Value} {K K' : zdX} {h : List Blk} (hk : ∀ v h, K v h → K' v h) (hc : zcl C g vals K h) : zcl C g vals K' h := by
 obtain ⟨sel, h1, a1, R, e1, e2, e3, e4, e5, e6⟩ := hc
 exact ⟨sel, h1, a1, R, e1, e2, e3, e4, e5, fun v h1' q1 q2 q3 => ⟨(e6 v h1' q1 q2 q3).1, hk _ _ (e6 v h1' q1 q2 q3).2⟩⟩
theorem CallRO_imp {pu : Bool} {g : String} {vals : List Value} {K K' : zdX} {h : List Blk} (hk : ∀ v h, K v h → K' v h) (hc : zfv C pu g vals K h) : zfv C pu g vals K' h := by
 obtain ⟨sel, h1, a1, V, e1, e2, e3, e4, e5, e6, e7, e8⟩ := hc
 exact ⟨sel, h1, a1, V, e1, e2, e3, e4, e5, e6, e7, hk _ _ e8⟩
theorem zbO {d : Nat} {g : String} {args : List Opd} {r : List ICell} (hc : zcl C g (args.map (evf (reg L))) (fun v h => GO C r K ⟨reg ((d, v) :: L), h⟩) h) : GO C (⟨some d, .call g args, none⟩ :: r) K ⟨reg L, h⟩ := ⟨wpOps_cl (CallK_imp (fun v h q => q.out) hc)⟩
theorem zhy {d : Nat} {z : RL} {zl : List Value} {size bytes q : Nat} {s x : Opd} {r : List ICell} {k n : Nat} {o : Option Nat} {cs xs cs2 : List Value} {vx : Value}
  (hz : qI z = zl) (hzl : zl.length = size) (hs : evf (reg L) s = slV k n o) (hk : ∀ m, o = some m → hf h k = some (.cells (cs ++ zbs zl m) true)) (ho : o = none → n = 0 ∧ cs = []) (hcs : cs.length = n * size)
  (hx : evf (reg L) x = vx) (hq : lenV vx = some q) (hf1 : first (hf h) size q vx = some xs) (hxl : xs.length = q * size) (hq0 : 0 < q) (hb : 2 * (n + q) * bytes ≤ 2 ^ 48) (hc : cs ++ xs = cs2)
  (h1 : ∀ m, o = some (q + m) → GO C r K ⟨reg ((d, sv k 0 (n + q) (n + q + m)) :: L), h.set k (cw (cs2 ++ zbs zl m))⟩)
  (h2 : ∀ m, GO C r K ⟨reg ((d, sv h.length 0 (n + q) (n + q + m)) :: L), h ++ [cw (cs2 ++ zbs zl m)]⟩) : GO C (⟨some d, .app z size bytes s x, none⟩ :: r) K ⟨reg L, h⟩ :=
 ⟨wpOps_appC hz hzl hs hk ho hcs hx hq hf1 hxl hq0 hb hc (fun m e => (h1 m e).out) (fun m => (h2 m).out)⟩
theorem zc7 (hk : K s) : GE C pu [] K s := ⟨hk⟩
theorem r_d {ops : List ICell} (n : Nat) (l : List (Nat × Value)) (hr : zdi (ops.take n) ⟨reg L, h⟩ = some ⟨reg (l ++ L), h⟩) (hk : GE C pu (ops.drop n) K ⟨reg (l ++ L), h⟩) : GE C pu ops K ⟨reg L, h⟩ := ⟨wpR_n n hr hk.out⟩
theorem r_b {ops : List ICell} (n : Nat) (l : List (Nat × Value)) (h' : List Blk) (hr : zdi (ops.take n) ⟨reg L, h⟩ = some ⟨reg (l ++ L), h'⟩) (hk : GE C pu (ops.drop n) K ⟨reg (l ++ L), h'⟩) : GE C pu ops K ⟨reg L, h⟩ := ⟨wpR_n n hr hk.out⟩
theorem r_s {op : IOp} {ops : List ICell} {h' : List Blk} {d : Nat} {v : Value} (hr : zdi [⟨some d, op, none⟩] ⟨reg L, h⟩ = some ⟨zas (reg L) (some d) v, h'⟩) (hk : GE C pu ops K ⟨reg ((d, v) :: L), h'⟩) : GE C pu (⟨some d, op, none⟩ :: ops) K ⟨reg L, h⟩ := ⟨wpR_run (l := [_]) hr hk.out⟩
theorem r_s0 {op : IOp} {ops : List ICell} {h' : List Blk} {v : Value} (hr : zdi [⟨none, op, none⟩] ⟨reg L, h⟩ = some ⟨zas (reg L) none v, h'⟩) (hk : GE C pu ops K ⟨reg L, h'⟩) : GE C pu (⟨none, op, none⟩ :: ops) K ⟨reg L, h⟩ := ⟨wpR_run (l := [_]) hr hk.out⟩
theorem r_sp {l : List ICell} {b : Bool} (g : Nat) (hg : reg L g = .bool b) (h1 : b = true → GE C pu l K ⟨reg ((g, bv true) :: L), h⟩) (h2 : b = false → GE C pu l K ⟨reg ((g, bv false) :: L), h⟩) : GE C pu l K ⟨reg L, h⟩ := ⟨wpR_split g hg (fun e => (h1 e).out) (fun e => (h2 e).out)⟩
theorem r_unguard {d : Option Nat} {op : IOp} {g : Nat} {b : Bool} {r : List ICell} (hg : reg L g = .bool b) (hk : GE C pu (⟨d, op, none⟩ :: r) K ⟨reg L, h⟩) : GE C pu (⟨d, op, some (g, b)⟩ :: r) K ⟨reg L, h⟩ := ⟨wpR_unguard hg hk.out⟩
theorem r_cl {d : Nat} {g : String} {args : List Opd} {r : List ICell} (hc : zfv C (pu.any fun x => x == g) g (args.map (evf (reg L))) (fun v h => GE C pu r K ⟨reg ((d, v) :: L), h⟩) h) : GE C pu (⟨some d, .call g args, none⟩ :: r) K ⟨reg L, h⟩ := ⟨wpR_cl (CallRO_imp (fun v h q => q.out) hc)⟩
end
structure GD (C : qW) (un : Nat → Nat → Bool) (i nid : Nat) (ops : List ICell) (log : List Foot) (K : St → Prop) (s : St) : Prop where
  out : wpD C un (zbA i nid ops) log K s
theorem ziL : ∀ (n : Nat) (ops : List ICell) (i nid : Nat), zbA i nid ops = zbA i nid (ops.take n) ++ zbA (i + (ops.take n).length) (nid + zau (ops.take n)) (ops.drop n)
 | 0, ops, i, nid => by simp [zbA, zau]
 | n + 1, [], i, nid => by simp [zbA, zau]
 | n + 1, c :: r, i, nid => by
  simp only [List.take_succ_cons, List.drop_succ_cons, zbA, List.cons_append, List.length_cons, zau]
  rw [ziL n r (i + 1)]
  congr 2
  cases c.op.makes <;> simp <;> congr 1 <;> omega
section
variable {C : qW} {un : Nat → Nat → Bool} {K : St → Prop} {L : List (Nat × Value)} {h : List Blk} {i nid : Nat} {log : List Foot}
theorem d_n {ops : List ICell} (n i' nid' : Nat) (l : List (Nat × Value)) (h' : List Blk) (log' : List Foot) (hr : runD un (zbA i nid (ops.take n)) log ⟨reg L, h⟩ = some (log', ⟨reg (l ++ L), h'⟩)) (hi : i + (ops.take n).length = i') (hn : nid + zau (ops.take n) = nid') (hk : GD C un i' nid' (ops.drop n) log' K ⟨reg (l ++ L), h'⟩) : GD C un i nid ops log K ⟨reg L, h⟩ := by
 subst hi; subst hn
 refine ⟨?_⟩
 rw [ziL n ops]
 exact wpD_run hr hk.out
theorem zbW {s : St} (hk : K s) : GD C un i nid [] log K s := ⟨hk⟩
theorem run1_inv {c : ICell} {s s' : St} (hg : c.guard = none) (hsp : qC c.op = 0) (h : zdi [c] s = some s') : ∃ v e, zQ c.op (evf s.f) (hf s.h) s.h.length = some (v, e) ∧ s' = ⟨zas s.f c.dst v, e.on s.h⟩ := by
 obtain ⟨d, op, g⟩ := c
 simp only at hg hsp; subst hg
 simp only [zdi, run1, gJ, zb0, hsp] at h
 cases hs : zQ op (evf s.f) (hf s.h) s.h.length with
 | none => simp [hs] at h
 | some q => obtain ⟨v, e⟩ := q; simp [hs] at h; exact ⟨v, e, rfl, h.symm⟩
theorem d_step {d : Option Nat} {op : IOp} {r : List ICell} {s s' : St} {log' : List Foot} (w : List Nat) (hsp : qC op = 0) (hm : op.makes = false) (hw : op.writes = false ∧ w = [] ∨ ∃ m x y, op = .st m x y ∧ w = rdE op (evf s.f))
  (hr : zdi [⟨d, op, none⟩] s = some s') (hfit : zhI un ⟨i, rdE op (evf s.f), w, none⟩ log = true) (hl : zgs ⟨i, rdE op (evf s.f), w, none⟩ log = log') (hk : GD C un (i + 1) nid r log' K s') : GD C un i nid (⟨d, op, none⟩ :: r) log K s := by
 subst hl
 obtain ⟨v, e, hs, rfl⟩ := run1_inv rfl hsp hr
 refine ⟨?_⟩
 show za8 C un ⟨i, nid, ⟨d, op, none⟩⟩ log (fun log' s' => wpD C un (zbA (i + 1) (if op.makes then nid + 1 else nid) r) log' K s') s
 have hk := hk.out
 simp only [hm, if_false, Bool.false_eq_true]
 refine (zaZ (fun _ => hsp)).2 ?_
 have hs : zQ op (evf s.f) (hf s.h) nid = some (v, e) := by rw [zh2 (n := nid) (n' := s.h.length) hm]; exact hs
 rcases zgv hs with ⟨hm', _⟩ | ⟨_, rfl | ⟨hwr, k, b, rfl⟩⟩
 ·rw [hm] at hm'; cases hm'
 ·rcases hw with ⟨hw, rfl⟩ | ⟨m, x, y, rfl, rfl⟩
  ·refine ⟨⟨i, rdE op (evf s.f), [], none⟩, ⟨zas s.f d v, s.h⟩, ?_, zcJ hfit, hk⟩
   simp [ziB, gJ, zb0, hs]
  ·simp only [zQ] at hs
   split at hs <;> cases hs
   rename_i hf
   unfold stV at hf
   (repeat' (split at hf)) <;> cases hf
 ·rcases hw with ⟨hw, rfl⟩ | ⟨m, x, y, rfl, rfl⟩
  ·rw [hw] at hwr; cases hwr
  ·have hkr : rdE (.st m x y) (evf s.f) = [k] := by
    have := zei hs
    simp only [zQ] at hs
    split at hs <;> cases hs
    rename_i hf
    unfold stV at hf
    split at hf <;> try cases hf
    rename_i hx
    simp [rdE, IOp.rdl, hx, zbZ] at this ⊢
    exact this.symm
   rw [hkr] at hfit hk
   refine ⟨⟨i, rdE (.st m x y) (evf s.f), [k], none⟩, ⟨zas s.f d v, s.h.set k b⟩, ?_, ?_, ?_⟩
   ·simp [ziB, gJ, zb0, hs]
   ·rw [hkr]; exact zcJ hfit
   ·rw [hkr]; exact hk
theorem d_s {op : IOp} {r : List ICell} {h' : List Blk} {d : Nat} {v : Value} (hsp : qC op = 0) (hm : op.makes = false) (hw : op.writes = false) (hfit : zhI un ⟨i, rdE op (evf (reg L)), [], none⟩ log = true) (hr : zdi [⟨some d, op, none⟩] ⟨reg L, h⟩ = some ⟨zas (reg L) (some d) v, h'⟩) (hk : GD C un (i + 1) nid r (zgs ⟨i, rdE op (evf (reg L)), [], none⟩ log) K ⟨reg ((d, v) :: L), h'⟩) : GD C un i nid (⟨some d, op, none⟩ :: r) log K ⟨reg L, h⟩ :=
 d_step [] hsp hm (.inl ⟨hw, rfl⟩) hr hfit rfl hk
theorem d_s0 {op : IOp} {r : List ICell} {h' : List Blk} {v : Value} (hsp : qC op = 0) (hm : op.makes = false) (hw : ∃ m x y, op = .st m x y) (hfit : zhI un ⟨i, rdE op (evf (reg L)), rdE op (evf (reg L)), none⟩ log = true) (hr : zdi [⟨none, op, none⟩] ⟨reg L, h⟩ = some ⟨zas (reg L) none v, h'⟩) (hk : GD C un (i + 1) nid r (zgs ⟨i, rdE op (evf (reg L)), rdE op (evf (reg L)), none⟩ log) K ⟨reg L, h'⟩) : GD C un i nid (⟨none, op, none⟩ :: r) log K ⟨reg L, h⟩ := by
 obtain ⟨m, x, y, rfl⟩ := hw
 exact d_step _ hsp hm (.inr ⟨m, x, y, rfl, rfl⟩) hr hfit rfl hk
theorem d_cl {d : Nat} {g : String} {args : List Opd} {r : List ICell} (hc : zfv C true g (args.map (evf (reg L))) (fun v h => GD C un (i + 1) nid r (⟨i, [], [], some h.length⟩ :: log) K ⟨reg ((d, v) :: L), h⟩) h) (hfit : zhI un ⟨i, [], [], some h.length⟩ log = true := by kernel_rfl) : GD C un i nid (⟨some d, .call g args, none⟩ :: r) log K ⟨reg L, h⟩ := by
 obtain ⟨sel, h1', a1, V, e1, e2, e3, e4, e5, e6, e7, e8⟩ := hc
 have hs := e6 rfl; subst hs
 have : h1' = [] := List.eq_nil_of_length_eq_zero e2
 subst this
 refine ⟨⟨[], [], a1, _, e1, rfl, e3 _, by simp, by simp, zcJ hfit, fun _ => ⟨V, [], ⟨rfl, rfl⟩, by simp, by simp [zcI]⟩, ?_⟩⟩
 rintro v h'' ⟨rfl, rfl⟩ _ _
 refine ⟨fun _ q => q, ?_⟩
 rw [qE e7, ziE rfl (by simp)]
 exact e8.out
theorem d_sp {l : List ICell} {b : Bool} (g : Nat) (hg : reg L g = .bool b) (h1 : b = true → GD C un i nid l log K ⟨reg ((g, bv true) :: L), h⟩) (h2 : b = false → GD C un i nid l log K ⟨reg ((g, bv false) :: L), h⟩) : GD C un i nid l log K ⟨reg L, h⟩ := by
 cases b with
 | true => have := h1 rfl; rwa [show reg ((g, bv true) :: L) = reg L from zex hg] at this
 | false => have := h2 rfl; rwa [show reg ((g, bv false) :: L) = reg L from zex hg] at this
theorem d_appC {d : Nat} {z : RL} {zl : List Value} {size bytes q : Nat} {s x : Opd} {r : List ICell} {k n : Nat} {o : Option Nat} {cs xs cs2 : List Value} {vx : Value}
  (hz : qI z = zl) (hzl : zl.length = size) (hs : evf (reg L) s = slV k n o) (hk : ∀ m, o = some m → hf h k = some (.cells (cs ++ zbs zl m) true)) (ho : o = none → n = 0 ∧ cs = []) (hcs : cs.length = n * size)
  (hx : evf (reg L) x = vx) (hq : lenV vx = some q) (hf1 : first (hf h) size q vx = some xs) (hxl : xs.length = q * size) (hq0 : 0 < q) (hb : 2 * (n + q) * bytes ≤ 2 ^ 48) (hc : cs ++ xs = cs2)
  (h1 : ∀ m, o = some (q + m) → GD C un (i + 1) nid r log K ⟨reg ((d, sv k 0 (n + q) (n + q + m)) :: L), h.set k (cw (cs2 ++ zbs zl m))⟩)
  (h2 : ∀ m, GD C un (i + 1) nid r log K ⟨reg ((d, sv h.length 0 (n + q) (n + q + m)) :: L), h ++ [cw (cs2 ++ zbs zl m)]⟩) : GD C un i nid (⟨some d, .app z size bytes s x, none⟩ :: r) log K ⟨reg L, h⟩ := by
 subst hc
 refine ⟨?_⟩
 exact app_k (C := C) (K := fun v h => wpD C un (zbA (i + 1) nid r) log K ⟨zas (reg L) (some d) v, h⟩) hz hzl ⟨rfl, hs⟩ hk ho hcs hx hq hf1 hxl hq0 hb (fun m e => (h1 m e).out) (fun m => (h2 m).out)
theorem zbq {B : Nat} {Q : IExit → St → Prop} {ops : List ICell} {anc : List (List Nat)} (h' : List Blk) (hh : h ++ List.replicate (zau ops) .gone = h') (hg : GD C (unA anc) 0 h.length ops [] (Q .normal) ⟨reg L, h'⟩) : GC C B (.dreg ops anc) Q ⟨reg L, h⟩ := by
 subst hh; exact ⟨hg.out⟩
theorem gcut {B : Nat} {a b : IC} {Q : IExit → St → Prop} {s : St} (M : St → Prop) (h1 : GC C B a (fun ex s' => match ex with | .normal => ∃ s0, Wk B s' s0 ∧ M s0 | ex => Q ex s') s) (h2 : ∀ s, M s → GC C B b Q s) : GC C B (.seq a b) Q s :=
 ⟨zcM (c := a) (fun ex s hs => by
  cases ex with
  | normal => obtain ⟨s0, e1, e2⟩ := hs; exact ⟨s0, e1, (h2 s0 e2).out⟩
  | exit i => exact hs
  | goto i => exact hs
  | ret => exact hs) h1.out⟩
end
theorem za9 {sel : List Nat} {n k k' m : Nat} (o : Option Nat) (h : rho sel n k = k') : zbw (rho sel n) (slV k m o) = slV k' m o := by
 cases o with
 | none => rfl
 | some c => simp [slV, zbw, zfX, zet, renA, h]
theorem zaz {ρ : Nat → Nat} {z c : List Value} (o : Option Nat) (hc : ∀ m, (c ++ zbs z m).all zbz = true) : some (slB z c o) = some (zaR ρ (slB z c o)) := by
 cases o with
 | none => rfl
 | some m => exact zO (hc m)
theorem Env.by {P : Program} {g : String} {c : IFunc} {args : List Value} {h : List Blk} {R : zdX} (hc : zX P g = some c)
  (hg : GC (Env P) h.length c.body (fun ex s => (match ex with | .exit _ => False | .goto _ => False | _ => True) ∧ ∃ l, zfD s c.res = some l ∧ (∀ v ∈ l, zbG v = false) ∧
  (R (one l) s.h ∨ (vpf (one l) = true ∧ (∀ b ∈ s.h.take h.length, ziT b = true) ∧ R (one l) (s.h.take h.length)))) ⟨reg (argL 0 args), h⟩) : Env P g args h R := Env.of hc hg.out
end Go.Rh

namespace Go.Rh
open Go.RowKit
theorem rowAt_off {p : Program} {fits : TypeId → Bool} : ∀ {d : Nat} {e : TypeId} {count off n : Nat}, rowAt p fits d e count off n = true → off ≤ count * p.cellsOf e
 | 0, _, _, _, _, h => by simp [rowAt] at h
 | d + 1, e, count, off, n, h => by
  unfold rowAt at h
  simp only at h
  split at h
  ·cases h
  rename_i hs
  have hs : 0 < p.cellsOf e := by omega
  have hd := Nat.div_add_mod off (p.cellsOf e)
  have hm := Nat.mod_lt off hs
  simp only [Bool.or_eq_true, Bool.and_eq_true, beq_iff_eq, decide_eq_true_eq] at h
  rcases h with ⟨⟨h1, h2⟩, _⟩ | ⟨h1, _⟩
  ·have h3 : p.cellsOf e * (off / p.cellsOf e) ≤ p.cellsOf e * count := Nat.mul_le_mul_left _ (by omega)
   rw [Nat.mul_comm count]; omega
  ·have h3 : p.cellsOf e * (off / p.cellsOf e + 1) ≤ p.cellsOf e * count := Nat.mul_le_mul_left _ h1
   rw [Nat.mul_comm count]
   rw [Nat.mul_add, Nat.mul_one] at h3
   omega
theorem zjl {p : Program} : ∀ {d : Nat} {e : TypeId} {count off : Nat} {u : TypeId} {n : Nat}, liesAt p d e count off u n = true → off ≤ count * p.cellsOf e
 | 0, _, _, _, _, _, h => by simp [liesAt] at h
 | d + 1, e, count, off, u, n, h => by
  unfold liesAt at h
  simp only [Bool.or_eq_true] at h
  rcases h with h | h
  ·exact rowAt_off h
  ·split at h
   ·exact zjl h
   ·cases h
theorem okSlice_block {P : Program} {w : World} {r : Reach} {base : Nat} {t e : TypeId} {a : Addr} {len cap : Nat} (ht : P.underlying t = some (.slice e)) (h : Value.okWide P w r base t (.slice (some a) len cap)) :
  a.spot = none ∧ ∃ c T fr, w.heap[a.block]? = some (.cells c T fr) ∧ a.off ≤ c.size := by
 simp only [Value.okWide, ht, Cell.okWide, Cell.ok] at h
 obtain ⟨_, _, _, h1, row, cells, h2, h3⟩ := h
 refine ⟨h1, ?_⟩
 unfold World.shape? at h2
 split at h2 <;> cases h2
 rename_i T fr hh
 refine ⟨_, _, _, hh, ?_⟩
 have := zjl h3
 exact Nat.le_trans this (Nat.div_mul_le_self _ _)
structure RowAt (w : World) (a : Addr) (c : List Value) : Prop where
  spot : a.spot = none
  at_ : ∃ c' T fr, w.heap[a.block]? = some (.cells c' T fr) ∧ a.off + c.length ≤ c'.size ∧ (c'.toList.drop a.off).take c.length = c
  scl : c.all zbz = true
theorem addr_add (a : Addr) (h : a.spot = none) (i : Nat) : a.add i = ⟨a.block, a.off + i, none⟩ := by
 obtain ⟨b, o, s⟩ := a
 simp only at h; subst h
 unfold Addr.add; split <;> simp_all
theorem RowAt.of {w : World} {a : Addr} {c : List Value} (h1 : a.spot = none ∧ ∃ c T fr, w.heap[a.block]? = some (.cells c T fr) ∧ a.off ≤ c.size) (hc : ∀ (i : Nat) v, c[i]? = some v → w.cell? (a.add i) = some v) (hs : c.all zbz = true) : RowAt w a c := by
 obtain ⟨hsp, c', T, fr, hh, ho⟩ := h1
 have hget : ∀ (i : Nat) v, c[i]? = some v → c'[a.off + i]? = some v := fun i v hv => by
  have := hc i v hv
  rw [addr_add a hsp] at this
  simp only [World.cell?, hh] at this
  simpa using this
 have hl : a.off + c.length ≤ c'.size := by
  rcases Nat.eq_zero_or_pos c.length with h0 | h0
  ·omega
  ·have : c[c.length - 1]? = some (c[c.length - 1]'(by omega)) := by simp [show c.length - 1 < c.length by omega]
   have := hget _ _ this
   have hlt : a.off + (c.length - 1) < c'.size := by
    rcases Nat.lt_or_ge (a.off + (c.length - 1)) c'.size with h | h
    ·exact h
    ·rw [Array.getElem?_eq_none h] at this; cases this
   omega
 refine ⟨hsp, ⟨c', T, fr, hh, hl, ?_⟩, hs⟩
 refine List.ext_getElem? fun i => ?_
 rw [List.getElem?_take]
 split
 ·rename_i hi
  rw [List.getElem?_drop]
  have : c[i]? = some c[i] := by simp [hi]
  rw [this]
  have := hget i _ this
  simpa using this
 ·rename_i hi
  rw [List.getElem?_eq_none (by omega)]
abbrev Rows := List (Option (Addr × List Value))
def Rows.phi (r : Rows) : Phi := fun k => match r[k]? with
 | some (some (a, _)) => some (a.block, a.off)
 | _ => none
def Rows.blks (r : Rows) : List Blk := r.map fun | some (_, c) => .cells c false | none => .gone
theorem Rows.hr {r : Rows} {w : World} (h : ∀ a c, some (a, c) ∈ r → RowAt w a c) : HR r.phi (hf r.blks) w := by
 have hget : ∀ {k : Nat} {b : Blk}, hf r.blks k = some b → ∃ a c, r[k]? = some (some (a, c)) ∧ b = .cells c false := fun {k b} e => by
  obtain ⟨e1, e2⟩ := zav.1 e
  simp only [Rows.blks, List.getElem?_map, Option.map_eq_some_iff] at e1
  obtain ⟨x, e3, e4⟩ := e1
  cases x with
  | none => exact absurd e4.symm e2
  | some y => exact ⟨y.1, y.2, e3, e4.symm⟩
 refine ⟨fun k b hk => ?_, fun k hk => ?_, fun k k' b rb ro rb' ro' _ hk hrw => ?_⟩
 ·obtain ⟨a, c, e1, rfl⟩ := hget hk
  have R := h a c (List.mem_of_getElem? e1)
  obtain ⟨c', T, fr, h1, h2, h3⟩ := R.at_
  refine ⟨a.block, a.off, by simp [Rows.phi, e1], c', T, fr, h1, h2, ?_, fun q => by cases q⟩
  rw [h3]
  exact Each.refl_of fun v hv => SR.of_sclf (List.all_eq_true.1 R.scl v hv)
 ·unfold Rows.phi
  split
  ·rename_i a c e1
   have : r.blks[k]? = some (.cells c false) := by simp [Rows.blks, e1]
   rw [zav.2 ⟨this, by simp⟩] at hk; cases hk
  ·rfl
 ·obtain ⟨a, c, _, rfl⟩ := hget hk
  cases hrw
def VRL (φ : Phi) : List Value → List Value → Prop
 | a :: l, b :: m => VR φ a b ∧ VRL φ l m
 | [], [] => True
 | _, _ => False
theorem VRL.get {φ : Phi} : ∀ {l m : List Value}, VRL φ l m → l.length = m.length ∧ ∀ (i : Nat) v v', l[i]? = some v → m[i]? = some v' → VR φ v v'
 | [], [], _ => ⟨rfl, by simp⟩
 | a :: l, b :: m, h => by
  obtain ⟨h1, h2⟩ := VRL.get h.2
  refine ⟨by simp [h1], fun i v v' e1 e2 => ?_⟩
  cases i with
  | zero => simp at e1 e2; subst e1; subst e2; exact h.1
  | succ i => exact h2 i v v' (by simpa using e1) (by simpa using e2)
 | [], _ :: _, h => h.elim
 | _ :: _, [], h => h.elim
theorem Env.law {P : Program} {g : String} {f : FuncId} {fn : Func} (hf' : P.funcs[f]? = some fn) (hn : fn.name = g) {args : List Value} {r : Rows} {w : World} {args' : Array Value}
  (hC : Env P g args r.blks (Ans (.bool true) r.blks)) (hr : ∀ a c, some (a, c) ∈ r → RowAt w a c) (ha : VRL r.phi args args'.toList) :
  Calls P f args' w fun e w' => e = .returned (.bool true) ∧ Below w.heap.size w w' := by
 obtain ⟨h1, h2⟩ := ha.get
 refine (hC f fn hf' hn w r.phi args' (Rows.hr hr) (by simpa using h1) (fun i v v' e1 e2 => h2 i v v' e1 (by simpa using e2))).mono ?_
 rintro e w' ⟨v, v', h', φ', e1, ⟨e2, e3⟩, e4, e5, e6⟩
 subst e1; subst e2; subst e3
 refine ⟨?_, e6.os, e6.tape, e6.output, e6.size, fun b hb => e6.keep b hb fun k blk o hk hrw => ?_⟩
 ·have : v' = .bool true := by simpa [VR, GR, SR, zbz] using e4
  rw [this]
 ·simp only [Rows.blks, List.getElem?_map, Option.map_eq_some_iff] at hk
  obtain ⟨x, _, hx⟩ := hk
  cases x with
  | none => subst hx; intro q; have := (Rows.hr hr).nil k (zda (by simp_all [Rows.blks])); rw [this] at q; cases q
  | some y => subst hx; cases hrw
theorem VR.pl {φ : Phi} {v : Value} (h : vpf v = true) : VR φ v v := VR.of_vpf h
theorem VR.in_ {r : Rows} {k n cap : Nat} {a : Addr} {c : List Value} (h : r[k]? = some (some (a, c))) (hs : a.spot = none) : VR r.phi (inV (some cap) k n) (.slice (some a) n cap) := by
 refine ⟨a, rfl, rfl, a.block, a.off, by simp [Rows.phi, h], ?_⟩
 obtain ⟨b, o, s⟩ := a
 simp only at hs; subst hs; rfl
end Go.Rh

namespace Go.Rh
section
variable {C : qW} {un : Nat → Nat → Bool} {K : St → Prop} {L : List (Nat × Value)} {h : List Blk} {i nid : Nat} {log : List Foot}
theorem d_snd {c x : Opd} {r : List ICell} {k n : Nat} {b b2 : List Value} {v : Value} (hc : evf (reg L) c = .chan (some k)) (hh : hf h k = some (.chan n b)) (hv : evf (reg L) x = v) (hl : b.length < n) (ht : zbG v = false) (hb : b ++ [v] = b2) (hk : GD C un (i + 1) nid r log K ⟨reg L, h.set k (.chan n b2)⟩) : GD C un i nid (⟨none, .snd c x, none⟩ :: r) log K ⟨reg L, h⟩ := by
 refine ⟨?_⟩
 show sndK (evf (reg L) c) (evf (reg L) x) (fun v e => (fun v h => wpD C un (zbA (i + 1) nid r) log K ⟨zas (reg L) (none) v, h⟩) v (e.on h)) (hf h)
 subst hb
 rw [hc, hv]
 simp only [sndK, hh]
 exact ⟨hl, ht, hk.out⟩
theorem o_rcv {d : Nat} {c : Opd} {r : List ICell} {k n : Nat} {b : List Value} {v : Value} (hc : evf (reg L) c = .chan (some k)) (hh : hf h k = some (.chan n (v :: b))) (hk : GO C r K ⟨reg ((d, v) :: L), h.set k (.chan n b)⟩) : GO C (⟨some d, .rcv c, none⟩ :: r) K ⟨reg L, h⟩ := by
 refine ⟨?_⟩
 show rcvK (evf (reg L) c) (fun v e => (fun v h => zbg C r K ⟨zas (reg L) (some d) v, h⟩) v (e.on h)) (hf h)
 rw [hc]
 simp only [rcvK, hh]
 exact hk.out
theorem o_sel1 {d : Nat} {z : RL} {agg : Bool} {c : Opd} {r : List ICell} {k n : Nat} {b : List Value} {v : Value} (hc : evf (reg L) c = .chan (some k)) (hh : hf h k = some (.chan n (v :: b))) (hk : GO C r K ⟨reg ((d, .tuple #[.int .i64 0, .bool true, v]) :: L), h.set k (.chan n b)⟩) : GO C (⟨some d, .sel1 z agg c, none⟩ :: r) K ⟨reg L, h⟩ := by
 refine ⟨?_⟩
 show selK z agg (evf (reg L) c) (fun v e => (fun v h => zbg C r K ⟨zas (reg L) (some d) v, h⟩) v (e.on h)) (hf h)
 rw [hc]
 simp only [selK, hh]
 exact hk.out
theorem o_sel0 {d : Nat} {z : RL} {agg : Bool} {c : Opd} {r : List ICell} {k n : Nat} {zv : Value} (hc : evf (reg L) c = .chan (some k)) (hh : hf h k = some (.chan n [])) (hz : zeroV z agg = some zv) (hk : GO C r K ⟨reg ((d, .tuple #[.int .i64 (-1), .bool false, zv]) :: L), h⟩) : GO C (⟨some d, .sel1 z agg c, none⟩ :: r) K ⟨reg L, h⟩ := by
 refine ⟨?_⟩
 show selK z agg (evf (reg L) c) (fun v e => (fun v h => zbg C r K ⟨zas (reg L) (some d) v, h⟩) v (e.on h)) (hf h)
 rw [hc]
 simp only [selK, hh, hz]
 exact hk.out
theorem o_rng {d : Nat} {c : Opd} {r : List ICell} {k : Nat} {es : List (Value × Value)} (hc : evf (reg L) c = .map (some k)) (hh : hf h k = some (.map es)) (hk : GO C r K ⟨reg ((d, pv h.length 0) :: L), h ++ [.iter k es.length []]⟩) : GO C (⟨some d, .rng c, none⟩ :: r) K ⟨reg L, h⟩ := by
 refine ⟨?_⟩
 show rngK (evf (reg L) c) (fun v e => (fun v h => zbg C r K ⟨zas (reg L) (some d) v, h⟩) v (e.on h)) (hf h) h.length
 rw [hc]
 simp only [rngK, hh]
 exact hk.out
theorem o_nxt {d : Nat} {c : Opd} {r : List ICell} {k m : Nat} {es : List (Value × Value)} {seen : List Nat} (hc : evf (reg L) c = pv k 0) (hh : hf h k = some (.iter m es.length seen)) (hm : hf h m = some (.map es)) (h0 : (∀ i, i < es.length → i ∈ seen) → GO C r K ⟨reg ((d, .tuple #[.bool false]) :: L), h⟩) (h1 : ∀ (j : Nat) (e : Value × Value), j ∉ seen → es[j]? = some e → GO C r K ⟨reg ((d, .tuple #[.bool true, e.1, e.2]) :: L), h.set k (.iter m es.length (seen ++ [j]))⟩) : GO C (⟨some d, .nxt c, none⟩ :: r) K ⟨reg L, h⟩ := by
 refine ⟨?_⟩
 show nxtK (evf (reg L) c) (fun v e => (fun v h => zbg C r K ⟨zas (reg L) (some d) v, h⟩) v (e.on h)) (hf h)
 rw [hc]
 simp only [nxtK, pv, hh, hm]
 exact ⟨trivial, fun q => (h0 q).out, fun j e q1 q2 => (h1 j e q1 q2).out⟩
theorem o_ent {d : Nat} {c : Opd} {r : List ICell} {k m j : Nat} {es : List (Value × Value)} {e : Value × Value} {seen : List Nat} (hc : evf (reg L) c = pv k 0) (hh : hf h k = some (.iter m es.length (seen ++ [j]))) (hm : hf h m = some (.map es)) (he : es[j]? = some e) (hk : GO C r K ⟨reg ((d, .tuple #[e.1, e.2]) :: L), h⟩) : GO C (⟨some d, .ent c, none⟩ :: r) K ⟨reg L, h⟩ := by
 refine ⟨?_⟩
 show entK (evf (reg L) c) (fun v e => (fun v h => zbg C r K ⟨zas (reg L) (some d) v, h⟩) v (e.on h)) (hf h)
 rw [hc]
 simp only [entK, pv, hh, hm, List.getLast?_append, List.getLast?_singleton, Option.some_or, he]
 exact ⟨trivial, hk.out⟩
end
end Go.Rh

namespace Go.Rh
section
variable {P : Program} {C : qW}
def wpF2 (C : qW) (c : IFunc) (args : List Value) (h : List Blk) (R : zdX) : Prop :=
 wpC C h.length c.body (fun ex s => (match ex with | .exit _ => False | .goto _ => False | _ => True) ∧ ∃ s0, Wk h.length s s0 ∧ ∃ l, zfD s0 c.res = some l ∧ (∀ v ∈ l, zbG v = false) ∧ R (one l) s0.h) ⟨reg (argL 0 args), h⟩
theorem wpF2_sound (hC : ziM P C) {f : FuncId} {fn : Func} {c : IFunc} {args : List Value} {h : List Blk} {R : zdX} (hf' : P.funcs[f]? = some fn) (hc : cFunc P fn = some c) (hwp : wpF2 C c args h R) : ACalls P f args h R := by
 unfold cFunc at hc
 split at hc <;> try cases hc
 rename_i body res hb hres
 split at hc <;> cases hc
 rename_i hwf
 intro w φ args' H hl hargs
 refine calls_of_wp hf' hb (wp_mono (zbN (n := fn.ntmps) (h0 := h) (w0 := w) (φ0 := φ) hC H body _ _ w hwf ⟨φ, _, hwp, ?_⟩) ?_)
 ·refine ⟨by simp; omega, fun t => ?_, rfl, H, FrC.refl _ _ _⟩
  simp only [Array.getD_eq_getD_getElem?]
  rcases zhV args 0 t with h1 | ⟨v, h0, h1, h2⟩
  ·rw [h1]; exact VR.junk
  ·have ht := zJ h1
   have h3 : args'[t]? = some (args'[t]'(by omega)) := by simp [show t < args'.size by omega]
   rw [Array.getElem?_append_left (by omega), h2, h3]
   exact hargs t _ _ (by simpa using h1) h3
 ·intro e a' w' he
  have fin : Sim fn.ntmps φ h w (fun s => ∃ s0, Wk h.length s s0 ∧ ∃ l, zfD s0 res = some l ∧ (∀ v ∈ l, zbG v = false) ∧ R (one l) s0.h) a' w' →
    a'.defers = [] ∧ ∃ v, (results fn a'.tmps).run P w' = .ok v w' ∧ ∃ v0 v' h' φ', (Ending.returned v : Ending) = .returned v' ∧ R v0 h' ∧ VR φ' v0 v' ∧ HR φ' (hf h') w' ∧ FrC φ h w φ' h' w' := by
   intro hS
   obtain ⟨φ1, s, ⟨l, hl1, hl2, hR⟩, I⟩ := Sim.weak H hS
   obtain ⟨l', hr, hE⟩ := zd1 I hres hl1
   refine ⟨I.defers, if h : l'.toArray.size = 1 then l'.toArray[0] else .tuple l'.toArray, ?_, ?_⟩
   ·rw [zg4]
    simp [Array.mapM_eq_mapM_toList, hr]
   ·have hV : VR φ1 (one l) (if h : l'.toArray.size = 1 then l'.toArray[0] else .tuple l'.toArray) := by
     have hlen := hE.1
     unfold one
     split
     ·rename_i v
      match l', hE with
      | [v'], hE => simpa using hE.2 0 v v' rfl rfl
      | [], hE => simp at hlen
      | _ :: _ :: _, hE => simp at hlen
     ·rename_i hne
      have : ¬ l'.toArray.size = 1 := by
       intro h1
       have h2 : l.length = 1 := by rw [hlen]; simpa using h1
       match l, h2 with
       | [v], _ => exact hne v rfl
      rw [dif_neg this]
      exact ⟨l'.toArray, rfl, by simpa using hE.mono2 fun v v' hv hr => GR.of_VR (hl2 v hv) hr⟩
    exact ⟨_, _, _, φ1, rfl, hR, hV, I.heap, I.fr⟩
  cases e with
  | normal => exact fin (he.mono fun s h => h.2)
  | ret => exact fin (he.mono fun s h => h.2)
  | exit id => obtain ⟨_, _, ⟨h, _⟩, _⟩ := he; exact h.elim
  | goto l => obtain ⟨_, _, ⟨h, _⟩, _⟩ := he; exact h.elim
  | _ => exact he.elim
theorem Env.of2 {P : Program} {g : String} {c : IFunc} {args : List Value} {h : List Blk} {R : zdX} (hc : zX P g = some c) (hwp : wpF2 (Env P) c args h R) : Env P g args h R := by
 intro f fn hf hn
 unfold zX at hc
 split at hc <;> try cases hc
 rename_i fn' hfl
 have hm : fn ∈ P.funcs.toList.filter (·.name == g) := List.mem_filter.2 ⟨by
  have := Array.mem_of_getElem? hf
  simpa using this, by simpa using hn⟩
 rw [hfl] at hm
 have : fn = fn' := by simpa using hm
 subst this
 exact wpF2_sound (Env.sound P) hf hc hwp
end
theorem Env.by2 {P : Program} {g : String} {c : IFunc} {args : List Value} {h : List Blk} {R : zdX} (hc : zX P g = some c)
  (hg : GC (Env P) h.length c.body (fun ex s => (match ex with | .exit _ => False | .goto _ => False | _ => True) ∧ ∃ s0, Wk h.length s s0 ∧ ∃ l, zfD s0 c.res = some l ∧ (∀ v ∈ l, zbG v = false) ∧ R (one l) s0.h) ⟨reg (argL 0 args), h⟩) : Env P g args h R := Env.of2 hc hg.out
end Go.Rh

namespace Go.Rh
theorem zdw {m : Option Nat} {a b : List Value} {o : Nat} {v : Value} (h : zam m a o = some v) : zam m (a ++ b) o = some v := by
 cases m with
 | none =>
  simp only [zam] at h ⊢
  have := zJ h
  rw [List.getElem?_append_left this]; exact h
 | some m =>
  simp only [zam] at h ⊢
  split at h
  ·rename_i hl
   rw [if_pos (by simp; omega)]
   rw [← h, List.drop_append_of_le_length (by omega), List.take_append_of_le_length (by simp; omega)]
  ·cases h
theorem zfa {m : Option Nat} {a b : List Value} {n o : Nat} (ha : a.length = n) : zam m (a ++ b) (n + o) = zam m b o := by
 subst ha
 cases m with
 | none => simp only [zam]; rw [List.getElem?_append_right (by omega)]; congr 1; omega
 | some m =>
  simp only [zam, List.length_append]
  by_cases hl : o + m ≤ b.length
  ·rw [if_pos (by omega), if_pos hl, List.drop_append, List.drop_eq_nil_of_le (by omega), show a.length + o - a.length = o by omega, List.nil_append]
  ·rw [if_neg (by omega), if_neg hl]
theorem zej {a b vs : List Value} {o : Nat} (h : o + vs.length ≤ a.length) : splice (a ++ b) o vs = splice a o vs ++ b := by
 unfold splice
 rw [List.take_append_of_le_length (by omega), List.drop_append_of_le_length (by omega)]
 simp
theorem zcf {a b vs : List Value} {n o : Nat} (ha : a.length = n) : splice (a ++ b) (n + o) vs = a ++ splice b o vs := by
 subst ha
 unfold splice
 rw [List.take_append, List.drop_append, List.take_of_length_le (by omega), List.drop_eq_nil_of_le (by omega), show a.length + o - a.length = o by omega, show a.length + o + vs.length - a.length = o + vs.length by omega]
 simp
theorem isTup_slV (k n : Nat) (o : Option Nat) : zbG (slV k n o) = false := by cases o <;> rfl
theorem z1 : ∀ v ∈ ([] : List Value), zbG v = false := by simp
theorem zS {a : Value} {l : List Value} (h1 : zbG a = false) (h2 : ∀ v ∈ l, zbG v = false) : ∀ v ∈ a :: l, zbG v = false := List.forall_mem_cons.2 ⟨h1, h2⟩
def seenL (ρ : Nat → Nat) (h : List Blk) : List Nat → List Blk → Prop
 | k :: ks, b :: bs => (∃ b', h[k]? = some b' ∧ Blk.seen (zaR ρ b) b') ∧ seenL ρ h ks bs
 | _, _ => True
theorem seenL_get {ρ : Nat → Nat} {h : List Blk} : ∀ {sel : List Nat} {bs : List Blk}, seenL ρ h sel bs → ∀ (i k : Nat) b1, sel[i]? = some k → bs[i]? = some b1 → ∃ b, h[k]? = some b ∧ Blk.seen (zaR ρ b1) b
 | [], _, _, i, _, _, h1, _ => by simp at h1
 | _ :: _, [], _, i, _, _, _, h2 => by simp at h2
 | _ :: _, _ :: _, hb, 0, _, _, h1, h2 => by simp at h1 h2; subst h1; subst h2; exact hb.1
 | _ :: _, _ :: _, hb, i + 1, k, b, h1, h2 => seenL_get hb.2 i k b (by simpa using h1) (by simpa using h2)
def zhJ (sel : List Nat) (h1 : List Blk) (ρ : Nat → Nat) : Nat → List Blk → List Blk → Prop
 | k, b :: h, x :: xs => (match zeB k sel h1 with
  | some b' => zaR ρ b'
  | none => b) = x ∧ zhJ sel h1 ρ (k + 1) h xs
 | _, [], [] => True
 | _, _, _ => False
def renL (ρ : Nat → Nat) : List Blk → List Blk → Prop
 | b :: r, x :: xs => zaR ρ b = x ∧ renL ρ r xs
 | [], [] => True
 | _, _ => False
theorem renL_eq {ρ : Nat → Nat} : ∀ {l xs : List Blk}, renL ρ l xs → l.map (zaR ρ) = xs
 | [], [], _ => rfl
 | _ :: _, _ :: _, h => by rw [List.map_cons, h.1, renL_eq h.2]
 | [], _ :: _, h => h.elim
 | _ :: _, [], h => h.elim
theorem backL_eq {sel : List Nat} {h1 : List Blk} {ρ : Nat → Nat} : ∀ {h xs : List Blk} {k : Nat}, zhJ sel h1 ρ k h xs → (h.mapIdx fun i b => match zeB (i + k) sel h1 with
  | some b' => zaR ρ b'
  | none => b) = xs
 | [], [], _, _ => rfl
 | b :: h, x :: xs, k, q => by
  rw [List.mapIdx_cons]
  have h2 := backL_eq q.2
  have he : (fun (i : Nat) (b : Blk) => match zeB (i + 1 + k) sel h1 with | some b' => zaR ρ b' | none => b) = fun i b => match zeB (i + (k + 1)) sel h1 with | some b' => zaR ρ b' | none => b := by
   funext i b; rw [show i + 1 + k = i + (k + 1) by omega]
  rw [he, h2]
  have h3 := q.1
  rw [← h3, Nat.zero_add]
 | [], _ :: _, _, q => by simp [zhJ] at q
 | _ :: _, [], _, q => by simp [zhJ] at q
theorem ziF {sel : List Nat} {h1 : List Blk} {ρ : Nat → Nat} {h xs ys : List Blk} (h2 : zhJ sel h1 ρ 0 h xs) (h3 : renL ρ (h1.drop sel.length) ys) : zdK h sel h1 ρ = xs ++ ys := by
 unfold zdK
 rw [renL_eq h3]
 have := backL_eq h2
 simp only [Nat.add_zero] at this
 exact congrArg (· ++ ys) this
theorem zgF {l : List Nat} (h : l.Nodup) {i j k : Nat} (hij : i ≠ j) (h1 : l[i]? = some k) (h2 : l[j]? = some k) : False := by
 have hi := zJ h1
 have hj := zJ h2
 rw [List.getElem?_eq_getElem hi] at h1
 rw [List.getElem?_eq_getElem hj] at h2
 have e : l[i] = l[j] := (Option.some.inj h1).trans (Option.some.inj h2).symm
 rcases Nat.lt_or_gt_of_ne hij with q | q
 ·exact List.pairwise_iff_getElem.1 h i j hi hj q e
 ·exact List.pairwise_iff_getElem.1 h j i hj hi q e.symm
def seesL (ρ : Nat → Nat) (h : List Blk) : List Nat → List Blk → Prop
 | k :: ks, b :: bs => (∃ b', h[k]? = some b' ∧ Blk.sees (zaR ρ b) b') ∧ seesL ρ h ks bs
 | _, _ => True
theorem zia {ρ : Nat → Nat} {h : List Blk} : ∀ {sel : List Nat} {bs : List Blk}, seesL ρ h sel bs → ∀ (i k : Nat) b1, sel[i]? = some k → bs[i]? = some b1 → ∃ b, h[k]? = some b ∧ Blk.sees (zaR ρ b1) b
 | [], _, _, i, _, _, h1, _ => by simp at h1
 | _ :: _, [], _, i, _, _, _, h2 => by simp at h2
 | _ :: _, _ :: _, hb, 0, _, _, h1, h2 => by simp at h1 h2; subst h1; subst h2; exact hb.1
 | _ :: _, _ :: _, hb, i + 1, k, b, h1, h2 => zia hb.2 i k b (by simpa using h1) (by simpa using h2)
theorem seesL_of {ρ : Nat → Nat} {h : List Blk} : ∀ {sel : List Nat} {bs : List Blk}, seenL ρ h sel bs → seesL ρ h sel bs
 | [], _, _ => by simp [seesL]
 | _ :: _, [], _ => by simp [seesL]
 | _ :: _, _ :: _, q => ⟨let ⟨b, h1, h2⟩ := q.1; ⟨b, h1, .inl h2⟩, seesL_of q.2⟩
theorem zjm {ρ : Nat → Nat} {h : List Blk} {sel : List Nat} {h1 : List Blk} (hl : h1.length = sel.length) (hs : seenL ρ h sel h1) (h1' : List Blk) : zee h1 h1' := by
 intro i hi
 have := zJ hi
 obtain ⟨b, _, hb⟩ := seenL_get hs i _ _ (List.getElem?_eq_getElem (show i < sel.length by omega)) hi
 exact absurd rfl (zib hb).1
theorem callN {C : qW} {g : String} {vals : List Value} {K : zdX} {h : List Blk} {R : zdX} (sel : List Nat) (h1 : List Blk) (a1 : List Value) (hC : C g a1 h1 R) (hl : h1.length = sel.length) (ha : a1.map (zbw (rho sel h.length)) = vals)
  (hs : seesL (rho sel h.length) h sel h1) (hd : sel.Nodup) (hK : ∀ v h1', R v h1' → zee h1 h1' ∧ ∃ v' xs ys, zbw (rho sel h.length) v = v' ∧ zhJ sel h1' (rho sel h.length) 0 h xs ∧ renL (rho sel h.length) (h1'.drop sel.length) ys ∧ K v' (xs ++ ys)) : zcl C g vals K h := by
 refine ⟨sel, h1, a1, R, hC, hl, ha, fun i k b1 e1 e2 => (zia hs i k b1 e1 e2).imp fun _ q => ⟨q.1, .inl q.2⟩, fun i j k b1 hij e1 e2 _ => ?_, fun v h1' hR _ _ => ?_⟩
 ·exact (zgF hd hij e1 e2).elim
 ·obtain ⟨hg, v', xs, ys, e1, e2, e3, e4⟩ := hK v h1' hR
  rw [e1, ziF e2 e3]; exact ⟨hg, e4⟩
theorem callG {C : qW} {g : String} {vals : List Value} {K : zdX} {h : List Blk} {R : zdX} (sel : List Nat) (h1 : List Blk) (a1 : List Value) (hC : C g a1 h1 R) (hl : h1.length = sel.length) (ha : a1.map (zbw (rho sel h.length)) = vals)
  (hs : seenL (rho sel h.length) h sel h1) (hd : sel.Nodup) (hK : ∀ v h1', R v h1' → ∃ v' xs ys, zbw (rho sel h.length) v = v' ∧ zhJ sel h1' (rho sel h.length) 0 h xs ∧ renL (rho sel h.length) (h1'.drop sel.length) ys ∧ K v' (xs ++ ys)) : zcl C g vals K h :=
 callN sel h1 a1 hC hl ha (seesL_of hs) hd fun v h1' q => ⟨zjm hl hs h1', hK v h1' q⟩
section
variable {C : qW} {un : Nat → Nat → Bool} {K : St → Prop} {L : List (Nat × Value)} {h : List Blk} {i nid : Nat} {log : List Foot}
theorem d_clN {d : Nat} {g : String} {args : List Opd} {r : List ICell} {R : zdX} (sel : List Nat) (h1 : List Blk) (a1 : List Value) (hC : C g a1 h1 R) (hl : h1.length = sel.length) (ha : a1.map (zbw (rho sel h.length)) = args.map (evf (reg L)))
  (hs : seesL (rho sel h.length) h sel h1) (hd : sel.Nodup) (hx : ∃ v h1', R v h1' ∧ sel.length ≤ h1'.length ∧ zcI h1 h1')
  (hK : ∀ v h1', R v h1' → zee h1 h1' ∧ ∃ v' xs ys, zbw (rho sel h.length) v = v' ∧ zhJ sel h1' (rho sel h.length) 0 h xs ∧ renL (rho sel h.length) (h1'.drop sel.length) ys ∧ GD C un (i + 1) nid r (⟨i, sel, zcL sel h1, some h.length⟩ :: log) K ⟨reg ((d, v') :: L), xs ++ ys⟩)
  (hfit : zhI un ⟨i, sel, zcL sel h1, some h.length⟩ log = true := by kernel_rfl) : GD C un i nid (⟨some d, .call g args, none⟩ :: r) log K ⟨reg L, h⟩ := by
 refine ⟨⟨sel, h1, a1, R, hC, hl, ha, fun i k b1 e1 e2 => (zia hs i k b1 e1 e2).imp fun _ q => ⟨q.1, .inl q.2⟩, fun i j k b1 hij e1 e2 _ => ?_, zcJ hfit, fun _ => hx, fun v h1' hR _ _ => ?_⟩⟩
 ·exact (zgF hd hij e1 e2).elim
 ·obtain ⟨hg, v', xs, ys, e1, e2, e3, e4⟩ := hK v h1' hR
  rw [e1, ziF e2 e3]; exact ⟨hg, e4.out⟩
theorem d_clG {d : Nat} {g : String} {args : List Opd} {r : List ICell} {R : zdX} (sel : List Nat) (h1 : List Blk) (a1 : List Value) (hC : C g a1 h1 R) (hl : h1.length = sel.length) (ha : a1.map (zbw (rho sel h.length)) = args.map (evf (reg L)))
  (hs : seenL (rho sel h.length) h sel h1) (hd : sel.Nodup) (hx : ∃ v h1', R v h1' ∧ sel.length ≤ h1'.length ∧ zcI h1 h1')
  (hK : ∀ v h1', R v h1' → ∃ v' xs ys, zbw (rho sel h.length) v = v' ∧ zhJ sel h1' (rho sel h.length) 0 h xs ∧ renL (rho sel h.length) (h1'.drop sel.length) ys ∧ GD C un (i + 1) nid r (⟨i, sel, zcL sel h1, some h.length⟩ :: log) K ⟨reg ((d, v') :: L), xs ++ ys⟩)
  (hfit : zhI un ⟨i, sel, zcL sel h1, some h.length⟩ log = true := by kernel_rfl) : GD C un i nid (⟨some d, .call g args, none⟩ :: r) log K ⟨reg L, h⟩ :=
 d_clN sel h1 a1 hC hl ha (seesL_of hs) hd hx (fun v h1' q => ⟨zjm hl hs h1', hK v h1' q⟩) hfit
end
theorem zfG {ρ : Nat → Nat} (l : List Value) : zbw ρ (.tuple ⟨l⟩) = .tuple ⟨l.map (zfX ρ)⟩ := by simp [zbw]
theorem zan {a b : Value} {l m : List Value} (h : a = b) (h2 : l = m) : a :: l = b :: m := by rw [h, h2]
theorem zch {ρ : Nat → Nat} {c : List Value} {rw rw' : Bool} (h : c.all zbz = true) (hr : rw = true → rw' = true) : Blk.seen (zaR ρ (.cells c rw)) (.cells c rw') := by
 rw [zbk h]; exact ⟨rfl, hr⟩
theorem ren_slB2 {ρ : Nat → Nat} {z c : List Value} (o : Option Nat) (hc : ∀ m, (c ++ zbs z m).all zbz = true) : zaR ρ (slB z c o) = slB z c o := (Option.some.inj (zaz (ρ := ρ) o hc)).symm
theorem sees_slB {ρ : Nat → Nat} {z c : List Value} (o : Option Nat) (hc : ∀ m, (c ++ zbs z m).all zbz = true) : Blk.sees (zaR ρ (slB z c o)) (slB z c o) := by
 rw [ren_slB2 o hc]
 cases o with
 | none => exact .inr ⟨rfl, rfl⟩
 | some m => exact .inl ⟨rfl, fun q => q⟩
theorem za0 (h l : List Blk) : zcI h (h ++ l) := by
 intro i b b' e1 e2
 rw [List.getElem?_append_left (zJ e1), e1] at e2
 cases e2; rfl
theorem ziu (h l : List Blk) : zee h (h ++ l) := by
 intro i hi; rw [List.getElem?_append_left (zJ hi)]; exact hi
theorem ziw {a b c a' b' c' : Blk} (h1 : a'.rw = a.rw := by rfl) (h2 : b'.rw = b.rw := by rfl) (h3 : c'.rw = c.rw := by rfl) : zcI [a, b, c] [a', b', c'] := by
 intro i x y e1 e2
 match i with
 | 0 => simp at e1 e2; subst e1; subst e2; exact h1
 | 1 => simp at e1 e2; subst e1; subst e2; exact h2
 | 2 => simp at e1 e2; subst e1; subst e2; exact h3
 | i + 3 => simp at e1
theorem zij {a c : Int} (h : 0 ≤ a ∧ a ≤ 9223372036854775807) (hc : 0 < c) : i64.wrap (a.tdiv c) = a / c := by
 have h1 : a.tdiv c = a / c := Int.tdiv_eq_ediv_of_nonneg h.1
 have h2 : 0 ≤ a / c := Int.ediv_nonneg h.1 (by omega)
 have h3 : a / c ≤ a := Int.ediv_le_self c h.1
 rw [h1, w64 (by omega) (by omega)]
theorem zfY {a c : Int} (h : 0 ≤ a) : a.tmod c = a % c := Int.tmod_eq_emod_of_nonneg h
theorem zd7 {C : qW} {un : Nat → Nat → Bool} {K : St → Prop} {L : List (Nat × Value)} {h : List Blk} {i nid : Nat} {log : List Foot} {d : Option Nat} {op : IOp} {g : Nat} {b : Bool} {r : List ICell} (hg : reg L g = .bool b) (hk : GD C un i nid (⟨d, op, none⟩ :: r) log K ⟨reg L, h⟩) : GD C un i nid (⟨d, op, some (g, b)⟩ :: r) log K ⟨reg L, h⟩ := by
 refine ⟨?_⟩
 have hk := hk.out
 simp only [zbA, wpD, za8, gJ, zb0, hg, beq_self_eq_true, if_true, Bool.false_eq_true, if_false] at hk ⊢
 exact hk
theorem flags_of31 {a b c a' b' c' d' : Blk} (h1 : a'.rw = a.rw := by rfl) (h2 : b'.rw = b.rw := by rfl) (h3 : c'.rw = c.rw := by rfl) : zcI [a, b, c] [a', b', c', d'] := by
 intro i x y e1 e2
 match i with
 | 0 => simp at e1 e2; subst e1; subst e2; exact h1
 | 1 => simp at e1 e2; subst e1; subst e2; exact h2
 | 2 => simp at e1 e2; subst e1; subst e2; exact h3
 | i + 3 => simp at e1
theorem hf_sl {h : List Blk} {k n : Nat} {o : Option Nat} {z c : List Value} (hk : h[k]? = some (slB z c o)) (ho : o = none → n = 0) (hn : 0 < n) : hf h k = some (.cells (c ++ zbs z (o.getD 0)) true) := by
 cases o with
 | none => have := ho rfl; omega
 | some m => exact zav.2 ⟨hk, by simp [slB]⟩
theorem qN {ρ : Nat → Nat} {k k' n : Nat} (o : Option Nat) (h : ρ k = k') : zet ρ (slV k n o) = slV k' n o := by subst h; cases o <;> rfl
section
variable {C : qW} {un : Nat → Nat → Bool} {pu : List String} {K : St → Prop} {L : List (Nat × Value)} {h : List Blk} {i nid : Nat} {log : List Foot}
end
theorem zfM {a a' : Blk} {h h' : List Blk} (h1 : a'.rw = a.rw) (h2 : zcI h h') : zcI (a :: h) (a' :: h') := by
 intro i x y e1 e2
 cases i with
 | zero => simp at e1 e2; subst e1; subst e2; exact h1
 | succ i => simp at e1 e2; exact h2 i x y e1 e2
end Go.Rh

namespace Go.Rh
theorem zhT {P : Program} {K : zdX} {h : List Blk} {vals : List Value} {rw : Bool} {x0 x1 x2 x3 x4 : Int} (hmay : zaP P) (l : List Int) (k : Nat) (hl : (l.length : Int) ≤ 1000) (hk : h[k]? = some (.cells (ii l) rw))
  (hv : vals = [.agg #[.int .i64 x0, .int .i64 x1, .int .i64 x2, .int .i64 x3, .int .i64 x4], .slice (some ⟨k, 0, none⟩) l.length l.length]) (hK : K (.bool (l.contains x0)) h) : zcl (Env P) "roundhouse/pool.may" vals K h :=
 callRS (pre := [.agg #[.int .i64 x0, .int .i64 x1, .int .i64 x2, .int .i64 x3, .int .i64 x4]]) k (mayC hmay x0 x1 x2 x3 x4 l hl) hk (zbd l) rfl hv rfl hK
theorem placedC {P : Program} (hc : zai P) (a p : Int) :
  Env P "roundhouse/pool.placed" [.int .i64 a, .int .i64 p] [] (Ans (.bool (za1 a p)) []) := by
 refine Env.of hc ?_
 unfold wpF zeP
 refine zL (s' := _) rfl (zC (qF (zac (s' := _) 3 rfl (zaT (b := decide (a ≥ 0)) 7 rfl (fun h1 => ?_) (fun h1 => ?_)))))
 ·refine zac (s' := _) 4 rfl ?_
  refine zaT (b := decide (a ≤ 4294967295)) 11 rfl (fun h2 => ?_) (fun h2 => ?_)
  ·refine zac (s' := _) 4 rfl ?_
   refine zaT (b := decide (p ≥ 0)) 15 rfl (fun h3 => ?_) (fun h3 => ?_)
   ·refine zL (s' := _) rfl (zC ?_)
    refine zar [.bool (decide (p ≤ 65535))] rfl rfl ?_ rfl rfl
    have h1 := of_decide_eq_true h1; have h2 := of_decide_eq_true h2; have h3 := of_decide_eq_true h3
    simp [one, za1, h1, h2, h3]
   ·refine zL (s' := _) rfl (zC ?_)
    refine zar [.bool false] rfl rfl ?_ rfl rfl
    have h3 := of_decide_eq_false h3
    simp [one, za1]; omega
  ·refine zL (s' := _) rfl (zC ?_)
   refine zar [.bool false] rfl rfl ?_ rfl rfl
   have h2 := of_decide_eq_false h2
   simp [one, za1]; omega
 ·refine zL (s' := _) rfl (zC ?_)
  refine zar [.bool false] rfl rfl ?_ rfl rfl
  have h1 := of_decide_eq_false h1
  simp [one, za1]; omega
theorem CheckC {P : Program} (hc : zaB P) (hpl : zai P) (e : Ent) :
    Env P "roundhouse/pool.Check" [qH e] [] (Ans (.int .i64 (zcc e)) []) := by
  refine Env.of hc ?_
  unfold wpF zfk
  refine zL (s' := _) rfl (zC (zh0 (fun s => (1 ≤ e.k ∧ e.k ≤ 6) ∧ (0 ≤ e.s ∧ e.s < 64 ∧ (e.k = 6 → e.s = 0)) ∧ s = ⟨reg [(1, .pointer (some ⟨0, 0, none⟩))], [.cells [.int .i64 e.k, .int .i64 e.s, .int .i64 e.a, .int .i64 e.p, .int .i64 e.g, .int .u64 e.ka, .int .u64 e.kb] true]⟩) ?_ ?_))
  · refine zdk (qF (zac (s' := _) 4 rfl ?_))
    refine zaT (b := decide (e.k < 1)) 8 rfl (fun h1 => ?_) (fun h1 => ?_)
    · refine zL (s' := _) rfl (zC (qS (t := true) rfl (fun _ => ?_) (fun h => by cases h)))
      refine zL (s' := _) rfl (zC (zar [.int .i64 2] rfl rfl ?_ rfl rfl))
      have h1 := of_decide_eq_true h1
      simp [one, zcc, h1]
    · refine zL (s' := _) rfl (zC (qS (t := decide (e.k > 6)) rfl (fun h2 => ?_) (fun h2 => ?_)))
      · refine zL (s' := _) rfl (zC ?_)
        refine zar [.int .i64 2] rfl rfl ?_ rfl rfl
        have h2 := of_decide_eq_true h2
        simp [one, zcc, show 6 < e.k from h2]
      · have h1 := of_decide_eq_false h1
        have h2 := of_decide_eq_false h2
        have err : ∀ s : St, s.f 2 = .int .i64 11 → s.h.take 0 = [] → (e.s < 0 ∨ 64 ≤ e.s ∨ (e.k = 6 ∧ e.s ≠ 0)) → True ∧ ∃ l', zfD s [.tmp 2] = some l' ∧ (∀ v ∈ l', zbG v = false) ∧ (Ans (.int .i64 (zcc e)) [] (one l') s.h ∨ (vpf (one l') = true ∧ (∀ b ∈ s.h.take 0, ziT b = true) ∧ Ans (.int .i64 (zcc e)) [] (one l') (s.h.take 0))) := by
          intro s h4 h5 h6
          refine zar [.int .i64 11] (by simp [zfD, h4]) rfl ?_ h5 rfl
          have : ¬ (e.k < 1 ∨ 6 < e.k) := by omega
          simp [one, zcc, this, h6]
        have ok : ∀ s : St, s.f 1 = .pointer (some ⟨0, 0, none⟩) → s.h.take 1 = [.cells [.int .i64 e.k, .int .i64 e.s, .int .i64 e.a, .int .i64 e.p, .int .i64 e.g, .int .u64 e.ka, .int .u64 e.kb] true] → (0 ≤ e.s ∧ e.s < 64 ∧ (e.k = 6 → e.s = 0)) →
            ∃ s0, Wk 0 s s0 ∧ (1 ≤ e.k ∧ e.k ≤ 6) ∧ (0 ≤ e.s ∧ e.s < 64 ∧ (e.k = 6 → e.s = 0)) ∧ s0 = ⟨reg [(1, .pointer (some ⟨0, 0, none⟩))], [.cells [.int .i64 e.k, .int .i64 e.s, .int .i64 e.a, .int .i64 e.p, .int .i64 e.g, .int .u64 e.ka, .int .u64 e.kb] true]⟩ :=
          fun s h4 h5 h6 => ⟨_, Wk.to (l := [(1, .pointer (some ⟨0, 0, none⟩))]) (hs := [.cells [.int .i64 e.k, .int .i64 e.s, .int .i64 e.a, .int .i64 e.p, .int .i64 e.g, .int .u64 e.ka, .int .u64 e.kb] true]) (Nat.zero_le _) h5 ⟨⟨h4, rfl⟩, trivial⟩ rfl, ⟨by omega, by omega⟩, h6, rfl⟩
        refine qF (zac (s' := _) 4 rfl (zaT (b := decide (e.s < 0)) 17 rfl (fun h3 => ?_) (fun h3 => ?_)))
        · refine zL (s' := _) rfl (zC (qS (t := true) rfl (fun _ => ?_) (fun h => by cases h)))
          exact qF (zL (s' := _) rfl (zC (err _ rfl rfl (.inl (of_decide_eq_true h3)))))
        · refine zac (s' := _) 5 rfl ?_
          refine zaT (b := decide (e.s ≥ 64)) 22 rfl (fun h4 => ?_) (fun h4 => ?_)
          · refine zL (s' := _) rfl (zC (qS (t := true) rfl (fun _ => ?_) (fun h => by cases h)))
            exact qF (zL (s' := _) rfl (zC (err _ rfl rfl (.inr (.inl (of_decide_eq_true h4))))))
          · refine zac (s' := _) 4 rfl ?_
            have h3 := of_decide_eq_false h3
            have h4 := of_decide_eq_false h4
            refine zaT (b := e.k == 6) 26 rfl (fun h5 => ?_) (fun h5 => ?_)
            · have h5 := eq_of_beq h5
              refine zL (s' := _) rfl (zC (qS (t := e.s != 0) rfl (fun h6 => ?_) (fun h6 => ?_)))
              · exact qF (zL (s' := _) rfl (zC (err _ rfl rfl (.inr (.inr ⟨h5, by simpa using h6⟩)))))
              · exact ok _ rfl rfl ⟨by omega, by omega, fun _ => by simpa using h6⟩
            · have h5 : e.k ≠ 6 := by simpa using h5
              refine zL (s' := _) rfl (zC (qS (t := false) rfl (fun h => by cases h) (fun h6 => ?_)))
              exact ok _ rfl rfl ⟨by omega, by omega, fun h => absurd h h5⟩
  · rintro s ⟨hk, hs, rfl⟩
    refine zL (s' := _) rfl (zC (zL (s' := _) rfl (zC ?_)))
    have hk1 : ¬ (e.k < 1 ∨ 6 < e.k) := by omega
    have hs1 : ¬ (e.s < 0 ∨ 64 ≤ e.s ∨ (e.k = 6 ∧ e.s ≠ 0)) := by
      rintro (h | h | ⟨h, h'⟩)
      · omega
      · omega
      · exact h' (hs.2.2 h)
    refine zh0 (fun s => ¬ (e.k = 1 ∧ (za1 e.a e.p = false ∨ e.g < 1 ∨ 8 < e.g)) ∧ ∃ a p g ka kb, s = ⟨reg [(3, .pointer (some ⟨1, 0, none⟩))], [.cells [.int .i64 e.k, .int .i64 e.s, .int .i64 e.a, .int .i64 e.p, .int .i64 e.g, .int .u64 e.ka, .int .u64 e.kb] true, .cells [.int .i64 0, .int .i64 0, .int .i64 a, .int .i64 p, .int .i64 g, .int .u64 ka, .int .u64 kb] true]⟩ ∧
      ((a ≠ 0 ∨ p ≠ 0 ∨ g ≠ 0 ∨ ka ≠ 0 ∨ kb ≠ 0) ↔ ((e.k ≠ 1 ∧ (e.a ≠ 0 ∨ e.p ≠ 0 ∨ e.g ≠ 0)) ∨ (e.k ≠ 6 ∧ (e.ka ≠ 0 ∨ e.kb ≠ 0))))) ?_ ?_
    · have ok : ∀ (a p g ka kb : Int) (s : St), ¬ (e.k = 1 ∧ (za1 e.a e.p = false ∨ e.g < 1 ∨ 8 < e.g)) → ((a ≠ 0 ∨ p ≠ 0 ∨ g ≠ 0 ∨ ka ≠ 0 ∨ kb ≠ 0) ↔ ((e.k ≠ 1 ∧ (e.a ≠ 0 ∨ e.p ≠ 0 ∨ e.g ≠ 0)) ∨ (e.k ≠ 6 ∧ (e.ka ≠ 0 ∨ e.kb ≠ 0)))) →
          s.f 3 = .pointer (some ⟨1, 0, none⟩) → s.h.take 2 = [.cells [.int .i64 e.k, .int .i64 e.s, .int .i64 e.a, .int .i64 e.p, .int .i64 e.g, .int .u64 e.ka, .int .u64 e.kb] true, .cells [.int .i64 0, .int .i64 0, .int .i64 a, .int .i64 p, .int .i64 g, .int .u64 ka, .int .u64 kb] true] →
          ∃ s0, Wk 0 s s0 ∧ ¬ (e.k = 1 ∧ (za1 e.a e.p = false ∨ e.g < 1 ∨ 8 < e.g)) ∧ ∃ a p g ka kb, s0 = ⟨reg [(3, .pointer (some ⟨1, 0, none⟩))], [.cells [.int .i64 e.k, .int .i64 e.s, .int .i64 e.a, .int .i64 e.p, .int .i64 e.g, .int .u64 e.ka, .int .u64 e.kb] true, .cells [.int .i64 0, .int .i64 0, .int .i64 a, .int .i64 p, .int .i64 g, .int .u64 ka, .int .u64 kb] true]⟩ ∧
            ((a ≠ 0 ∨ p ≠ 0 ∨ g ≠ 0 ∨ ka ≠ 0 ∨ kb ≠ 0) ↔ ((e.k ≠ 1 ∧ (e.a ≠ 0 ∨ e.p ≠ 0 ∨ e.g ≠ 0)) ∨ (e.k ≠ 6 ∧ (e.ka ≠ 0 ∨ e.kb ≠ 0)))) := by
        intro a p g ka kb s h1 h2 h3 h4
        exact ⟨_, Wk.to (l := [(3, .pointer (some ⟨1, 0, none⟩))]) (hs := [.cells [.int .i64 e.k, .int .i64 e.s, .int .i64 e.a, .int .i64 e.p, .int .i64 e.g, .int .u64 e.ka, .int .u64 e.kb] true, .cells [.int .i64 0, .int .i64 0, .int .i64 a, .int .i64 p, .int .i64 g, .int .u64 ka, .int .u64 kb] true]) (Nat.zero_le _) h4 ⟨⟨h3, rfl⟩, trivial⟩ rfl, h1, a, p, g, ka, kb, rfl, h2⟩
      have err : ∀ s : St, s.f 2 = .int .i64 14 → s.h.take 0 = [] → e.k = 1 → (za1 e.a e.p = false ∨ e.g < 1 ∨ 8 < e.g) → True ∧ ∃ l', zfD s [.tmp 2] = some l' ∧ (∀ v ∈ l', zbG v = false) ∧ (Ans (.int .i64 (zcc e)) [] (one l') s.h ∨ (vpf (one l') = true ∧ (∀ b ∈ s.h.take 0, ziT b = true) ∧ Ans (.int .i64 (zcc e)) [] (one l') (s.h.take 0))) := by
        intro s h4 h5 h6 h7
        refine zar [.int .i64 14] (by simp [zfD, h4]) rfl ?_ h5 rfl
        simp only [one, zcc, hk1, hs1, if_false, if_pos (And.intro h6 h7)]
      refine qF (zL (s' := _) rfl (zC (zdk (qF (zL (s' := _) rfl (zC (qS (t := e.k == 1) rfl (fun h1 => ?_) (fun h1 => ?_))))))))
      · have h1 := eq_of_beq h1
        refine qF (qF (zac (s' := _) 4 rfl (zbX (callP (placedC hpl e.a e.p) rfl rfl (zac (s' := _) 2 rfl (zaT (b := !(za1 e.a e.p)) 45 rfl (fun h2 => ?_) (fun h2 => ?_)))))))
        · refine zL (s' := _) rfl (zC (qS (t := true) rfl (fun _ => ?_) (fun h => by cases h)))
          exact qF (zL (s' := _) rfl (zC (err _ rfl rfl h1 (.inl (by simpa using h2)))))
        · refine zac (s' := _) 5 rfl ?_
          refine zaT (b := decide (e.g < 1)) 50 rfl (fun h3 => ?_) (fun h3 => ?_)
          · refine zL (s' := _) rfl (zC (qS (t := true) rfl (fun _ => ?_) (fun h => by cases h)))
            exact qF (zL (s' := _) rfl (zC (err _ rfl rfl h1 (.inr (.inl (of_decide_eq_true h3))))))
          · refine zL (s' := _) rfl (zC (qS (t := decide (e.g > 8)) rfl (fun h4 => ?_) (fun h4 => ?_)))
            · exact qF (zL (s' := _) rfl (zC (err _ rfl rfl h1 (.inr (.inr (of_decide_eq_true h4))))))
            · refine zC (zL (s' := _) rfl ?_)
              refine ok 0 0 0 e.ka e.kb _ ?_ ?_ rfl rfl
              · have h2 : za1 e.a e.p = true := by simpa using h2
                have h3 := of_decide_eq_false h3
                have h4 := of_decide_eq_false h4
                rintro ⟨_, h | h | h⟩
                · rw [h2] at h; cases h
                · exact h3 h
                · exact h4 h
              · simp [h1]
      · have h1 : e.k ≠ 1 := by simpa using h1
        refine qF (zL (s' := _) rfl (zC (qS (t := e.k == 6) rfl (fun h2 => ?_) (fun h2 => ?_))))
        · have h2 := eq_of_beq h2
          refine zL (s' := _) rfl (ok e.a e.p e.g 0 0 _ (fun h => h1 h.1) ?_ rfl rfl)
          simp [h2]
        · have h2 : e.k ≠ 6 := by simpa using h2
          refine ok e.a e.p e.g e.ka e.kb _ (fun h => h1 h.1) ?_ rfl rfl
          simp [h1, h2]
          omega
    · rintro s ⟨h1, a, p, g, ka, kb, rfl, h2⟩
      refine qF (qF (zL (s' := _) rfl (zC (qS (t := !((0 : Int) == 0 && ((0 : Int) == 0 && (a == 0 && (p == 0 && (g == 0 && (ka == 0 && (kb == 0 && true)))))))) rfl (fun h3 => ?_) (fun h3 => ?_)))))
      · refine zL (s' := _) rfl (zC ?_)
        refine zar [.int .i64 14] rfl rfl ?_ rfl rfl
        have : a ≠ 0 ∨ p ≠ 0 ∨ g ≠ 0 ∨ ka ≠ 0 ∨ kb ≠ 0 := by
          simp at h3
          by_cases e1 : a = 0 <;> by_cases e2 : p = 0 <;> by_cases e3 : g = 0 <;> by_cases e4 : ka = 0 <;> simp_all
        simp only [one, zcc, hk1, hs1, h1, if_false, if_pos (h2.1 this)]
      · refine zC ?_
        refine zL (s' := _) rfl (zC (zar [.int .i64 0] rfl rfl ?_ rfl rfl))
        have : ¬ (a ≠ 0 ∨ p ≠ 0 ∨ g ≠ 0 ∨ ka ≠ 0 ∨ kb ≠ 0) := by
          simp at h3
          obtain ⟨e1, e2, e3, e4, e5⟩ := h3
          simp [e1, e2, e3, e4, e5]
        simp only [one, zcc, hk1, hs1, h1, if_false, if_neg (fun h => this (h2.2 h))]
end Go.Rh

namespace Go.Rh
def eL (e : Ent) : List Value := [.int .i64 e.k, .int .i64 e.s, .int .i64 e.a, .int .i64 e.p, .int .i64 e.g, .int .u64 e.ka, .int .u64 e.kb]
def sL (c : qO) (k : Nat) : List Value := [.int .i64 (c (3 + 5 * k)), .int .i64 (c (3 + 5 * k + 1)), .int .i64 (c (3 + 5 * k + 2)), .int .i64 (c (3 + 5 * k + 3)), .int .i64 (c (3 + 5 * k + 4))]
theorem fitsC {P : Program} (hc : zaM P) (hmay : zaP P) (hheld : zaG P) (c : qO) (e : Ent) (hs : 0 ≤ e.s ∧ e.s < 64) :
    Env P "roundhouse/pool.fits" [qG c, qH e] [] (Ans (.int .i64 (zix c e)) []) := by
  refine Env.of hc ?_
  unfold wpF zgg
  obtain ⟨k, hk⟩ : ∃ k, k = e.s.toNat := ⟨_, rfl⟩
  have hk64 : k < 64 := by omega
  refine zL (s' := _) rfl (zC (qF (zac (s' := _) 3 rfl (zi5 (n := e.s) rfl rfl (by omega) ?_))))
  rw [← hk]
  refine zcq (v := slotV c k) rfl rfl (pl_slot' c hk64) (zL (s' := _) rfl (zC (zL (s' := _) rfl (zC (zh0 (fun s => s = ⟨reg [(2, .pointer (some ⟨0, 0, none⟩)), (3, .pointer (some ⟨1, 0, none⟩)), (5, .pointer (some ⟨2, 0, none⟩)), (6, .bool (!(badS c e)))], [.cells (pl c) true, .cells (eL e) true, .cells (sL c k) true]⟩) ?_ ?_)))))
  · have ok : ∀ (b : Bool) (s : St), b = !(badS c e) → s.f 2 = .pointer (some ⟨0, 0, none⟩) → s.f 3 = .pointer (some ⟨1, 0, none⟩) → s.f 5 = .pointer (some ⟨2, 0, none⟩) → s.f 6 = .bool b → s.h.take 3 = [.cells (pl c) true, .cells (eL e) true, .cells (sL c k) true] →
        ∃ s0, Wk 0 s s0 ∧ s0 = ⟨reg [(2, .pointer (some ⟨0, 0, none⟩)), (3, .pointer (some ⟨1, 0, none⟩)), (5, .pointer (some ⟨2, 0, none⟩)), (6, .bool (!(badS c e)))], [.cells (pl c) true, .cells (eL e) true, .cells (sL c k) true]⟩ := by
      intro b s hb h2 h3 h5 h6 hh
      refine ⟨_, Wk.to (l := [(2, .pointer (some ⟨0, 0, none⟩)), (3, .pointer (some ⟨1, 0, none⟩)), (5, .pointer (some ⟨2, 0, none⟩)), (6, .bool (!(badS c e)))]) (hs := [.cells (pl c) true, .cells (eL e) true, .cells (sL c k) true]) (Nat.zero_le _) hh ⟨⟨h2, rfl⟩, ⟨h3, rfl⟩, ⟨h5, rfl⟩, ⟨h6.trans (congrArg Value.bool hb), rfl⟩, trivial⟩ ?_, rfl⟩
      simp [bbel, zgE, eL, sL, zhO]
    refine qF (zL (s' := _) rfl (zC (zdk (qF (zL (s' := _) rfl (zC (qS (t := e.k == 1) rfl (fun h1 => ?_) (fun h1 => ?_))))))))
    · have h1 := eq_of_beq h1
      refine zac (s' := _) 2 rfl (zbX (zhT (x0 := c (3 + 5 * k)) (x1 := c (3 + 5 * k + 1)) hmay [0] 3 (by decide) rfl rfl ?_))
      refine zac (s' := _) 1 rfl (zaT (b := [0].contains (c (3 + 5 * k))) 19 rfl (fun h2 => ?_) (fun h2 => ?_))
      · refine zeH rfl (zcq (v := qG c) rfl rfl (zaU c) ?_)
        refine zac (s' := _) 5 rfl (zeH rfl (zbX (zeO (heldC hheld c e.a e.p) rfl ?_ rfl ?_)))
        · rw [List.all_cons, zaA]; rfl
        refine zL (s' := _) rfl (ok (!(heldS c e.a e.p)) _ ?_ rfl rfl rfl rfl rfl)
        have h2 : c (3 + 5 * k) = 0 := by simpa using h2
        simp [badS, h1, ← hk, h2]
      · refine zL (s' := _) rfl ?_
        refine ok false _ ?_ rfl rfl rfl rfl rfl
        have h2 : c (3 + 5 * k) ≠ 0 := by simpa using h2
        simp [badS, h1, ← hk, h2]
    · have h1 : e.k ≠ 1 := by simpa using h1
      have two : ∀ s : St, (∃ b, s.f 29 = .bool b ∧ (b = true ↔ e.k = 2 ∨ e.k = 4)) → True := fun _ _ => trivial
      refine zh0 (fun s => s = ⟨reg [(2, .pointer (some ⟨0, 0, none⟩)), (3, .pointer (some ⟨1, 0, none⟩)), (5, .pointer (some ⟨2, 0, none⟩)), (6, .bool true), (13, .int .i64 e.k), (29, .bool (e.k == 2 || e.k == 4))], [.cells (pl c) true, .cells (eL e) true, .cells (sL c k) true]⟩) ?_ ?_
      · have st : ∀ (b : Bool) (s : St), b = (e.k == 2 || e.k == 4) → s.f 2 = .pointer (some ⟨0, 0, none⟩) → s.f 3 = .pointer (some ⟨1, 0, none⟩) → s.f 5 = .pointer (some ⟨2, 0, none⟩) → s.f 6 = .bool true → s.f 13 = .int .i64 e.k → s.f 29 = .bool b → s.h.take 3 = [.cells (pl c) true, .cells (eL e) true, .cells (sL c k) true] →
            ∃ s0, Wk 0 s s0 ∧ s0 = ⟨reg [(2, .pointer (some ⟨0, 0, none⟩)), (3, .pointer (some ⟨1, 0, none⟩)), (5, .pointer (some ⟨2, 0, none⟩)), (6, .bool true), (13, .int .i64 e.k), (29, .bool (e.k == 2 || e.k == 4))], [.cells (pl c) true, .cells (eL e) true, .cells (sL c k) true]⟩ := by
          intro b s hb h2 h3 h5 h6 h13 h29 hh
          refine ⟨_, Wk.to (l := [(2, .pointer (some ⟨0, 0, none⟩)), (3, .pointer (some ⟨1, 0, none⟩)), (5, .pointer (some ⟨2, 0, none⟩)), (6, .bool true), (13, .int .i64 e.k), (29, .bool (e.k == 2 || e.k == 4))]) (hs := [.cells (pl c) true, .cells (eL e) true, .cells (sL c k) true]) (Nat.zero_le _) hh ⟨⟨h2, rfl⟩, ⟨h3, rfl⟩, ⟨h5, rfl⟩, ⟨h6, rfl⟩, ⟨h13, rfl⟩, ⟨h29.trans (congrArg Value.bool hb), rfl⟩, trivial⟩ ?_, rfl⟩
          simp [bbel, zgE, eL, sL, zhO]
        refine qF (zL (s' := _) rfl (zC (qS (t := e.k == 2) rfl (fun h2 => ?_) (fun h2 => ?_))))
        · exact st true _ (by simp [eq_of_beq h2]) rfl rfl rfl rfl rfl (congrArg Value.bool h2) rfl
        · refine zL (s' := _) rfl ?_
          exact st (e.k == 4) _ (by simp [h2]) rfl rfl rfl rfl rfl rfl rfl
      · rintro s rfl
        refine qS (t := (e.k == 2 || e.k == 4)) rfl (fun h2 => ?_) (fun h2 => ?_)
        · refine zac (s' := _) 2 rfl (zbX (zhT (x0 := c (3 + 5 * k)) (x1 := c (3 + 5 * k + 1)) hmay [1, 3] 3 (by decide) rfl rfl ?_))
          refine zL (s' := _) rfl (ok ([1, 3].contains (c (3 + 5 * k))) _ ?_ rfl rfl rfl rfl rfl)
          have h2 : e.k = 2 ∨ e.k = 4 := by simpa using h2
          simp only [badS, h1, if_false, if_pos h2, ← hk]
          by_cases ha : c (3 + 5 * k) = 1 <;> by_cases hb : c (3 + 5 * k) = 3 <;> simp [ha, hb]
        · have h2 : ¬ (e.k = 2 ∨ e.k = 4) := by simpa using h2
          refine qF (zL (s' := _) rfl (zC (qS (t := e.k == 3) rfl (fun h3 => ?_) (fun h3 => ?_))))
          · have h3 := eq_of_beq h3
            refine zac (s' := _) 2 rfl (zbX (zhT (x0 := c (3 + 5 * k)) (x1 := c (3 + 5 * k + 1)) hmay [2] 3 (by decide) rfl rfl ?_))
            refine zL (s' := _) rfl (ok ([2].contains (c (3 + 5 * k))) _ ?_ rfl rfl rfl rfl rfl)
            simp only [badS, h1, h2, if_false, if_pos h3, ← hk]
            by_cases ha : c (3 + 5 * k) = 2 <;> simp [ha]
          · have h3 : e.k ≠ 3 := by simpa using h3
            refine qF (zL (s' := _) rfl (zC (qS (t := e.k == 5) rfl (fun h4 => ?_) (fun h4 => ?_))))
            · have h4 := eq_of_beq h4
              refine zac (s' := _) 2 rfl (zbX (zhT (x0 := c (3 + 5 * k)) (x1 := c (3 + 5 * k + 1)) hmay [4] 3 (by decide) rfl rfl ?_))
              refine zL (s' := _) rfl (ok ([4].contains (c (3 + 5 * k))) _ ?_ rfl rfl rfl rfl rfl)
              simp only [badS, h1, h2, h3, if_false, if_pos h4, ← hk]
              by_cases ha : c (3 + 5 * k) = 4 <;> simp [ha]
            · have h4 : e.k ≠ 5 := by simpa using h4
              refine ok true _ ?_ rfl rfl rfl rfl rfl
              simp only [badS, h1, h2, h3, h4, if_false]; rfl
  · rintro s rfl
    refine qF (zdk (qF (zL (s' := _) rfl (zC (qS (t := !(!(badS c e))) rfl (fun h1 => ?_) (fun h1 => ?_))))))
    · refine zL (s' := _) rfl (zC ?_)
      refine zar [.int .i64 12] rfl rfl ?_ rfl rfl
      have h1 : badS c e = true := by simpa using h1
      simp [one, zix, h1]
    · have h1 : badS c e = false := by simpa using h1
      refine qF (zac (s' := _) 4 rfl (zaT (b := e.k == 5) 52 rfl (fun h2 => ?_) (fun h2 => ?_)))
      · have h2 := eq_of_beq h2
        refine zL (s' := _) rfl (zC (qS (t := decide (c 323 < i64.wrap (c (3 + 5 * k + 4) + 3))) rfl (fun h3 => ?_) (fun h3 => ?_)))
        · refine zL (s' := _) rfl (zC ?_)
          refine zar [.int .i64 13] rfl rfl ?_ rfl rfl
          have h3 := of_decide_eq_true h3
          simp [one, zix, h1, h2, ← hk, h3]
        · refine zC (zL (s' := _) rfl (zC ?_))
          refine zar [.int .i64 0] rfl rfl ?_ rfl rfl
          have h3 := of_decide_eq_false h3
          simp [one, zix, h1, h2, ← hk, h3]
      · have h2 : e.k ≠ 5 := by simpa using h2
        refine zL (s' := _) rfl (zC (qS (t := false) rfl (fun h => by cases h) (fun h3 => ?_)))
        refine zC (zL (s' := _) rfl (zC (zar [.int .i64 0] rfl rfl ?_ rfl rfl)))
        simp [one, zix, h1, h2]
end Go.Rh
