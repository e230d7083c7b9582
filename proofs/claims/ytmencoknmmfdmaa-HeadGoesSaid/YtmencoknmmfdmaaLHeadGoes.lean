import Derived.Test.YtmencoknmmfdmaaMf
set_option linter.unusedSimpArgs false
set_option linter.unusedVariables false
set_option maxRecDepth 100000
set_option maxHeartbeats 8000000
namespace Go.Rh
def c_law11_HeadGoes : IFunc :=
  ⟨126, [.tmp 6], (.seq (.reg [⟨(some 6), .mv (.c (.bool false)), none⟩]) (.seq (.seq (.reg [⟨(some 18), .call "roundhouse/roundhouselaw11.known" [], none⟩, ⟨(some 19), .un .not (.t 18), none⟩]) (.cond (.t 19) (.seq (.reg [⟨(some 6), .mv (.c (.bool false)), none⟩]) .ret) .skip)) (.seq (.reg [⟨(some 20), .mv (.t 0), none⟩, ⟨(some 21), .call "roundhouse/roundhouselaw6.Make" [(.t 20), (.c (.int .i64 30))], none⟩, ⟨(some 7), .new [(324, (.int .i64 0)), (6, (.int .u64 0))], none⟩, ⟨none, .st 330 (.t 7) (.t 21), none⟩]) (.seq (.reg [⟨(some 22), .mv (.t 1), none⟩, ⟨(some 23), .call "roundhouse/roundhouselaw11.within" [(.t 22), (.c (.int .i64 5))], none⟩, ⟨(some 24), .bin .add (.c (.int .i64 1)) (.t 23), none⟩, ⟨(some 8), .mv (.t 24), none⟩]) (.seq (.reg [⟨(some 26), .ld (some 330) (.t 7), none⟩, ⟨(some 27), .mv (.t 8), none⟩, ⟨(some 28), .call "roundhouse/head.New" [(.t 26), (.t 27)], none⟩, ⟨(some 25), .mv (.t 28), none⟩, ⟨(some 29), .ext 0 (.t 25), none⟩, ⟨(some 30), .ext 1 (.t 25), none⟩, ⟨(some 9), .mv (.t 29), none⟩, ⟨(some 10), .mv (.t 30), none⟩]) (.seq (.seq (.reg [⟨(some 31), .mv (.t 10), none⟩, ⟨(some 32), .bin .neq (.t 31) (.c (.int .i64 0)), none⟩, ⟨(some 33), .mv (.t 32), none⟩, ⟨(some 34), .mv (.t 9), some (33, false)⟩, ⟨(some 35), .eqn false .ptr (.t 34) (.c (.pointer none)), some (33, false)⟩, ⟨(some 36), .pick (.t 33) (.c (.bool true)) (.t 35), none⟩]) (.cond (.t 36) (.seq (.reg [⟨(some 6), .mv (.c (.bool false)), none⟩]) .ret) .skip)) (.seq (.reg [⟨(some 11), .mv (.c (.slice none 0 0)), none⟩]) (.seq (.reg [⟨(some 37), .ld (some 330) (.t 7), none⟩, ⟨(some 12), .new [(324, (.int .i64 0)), (6, (.int .u64 0))], none⟩, ⟨none, .st 330 (.t 12) (.t 37), none⟩]) (.seq (.seq (.reg [⟨(some 13), .mv (.c (.int .i64 0)), none⟩]) (.block 0 (.loop (.seq (.seq (.reg [⟨(some 38), .mv (.t 13), none⟩, ⟨(some 39), .mv (.t 2), none⟩, ⟨(some 40), .lenS (.t 39), none⟩, ⟨(some 41), .bin .lss (.t 38) (.t 40), none⟩, ⟨(some 42), .mv (.t 41), none⟩, ⟨(some 43), .mv (.t 13), some (42, true)⟩, ⟨(some 44), .bin .lss (.t 43) (.c (.int .i64 12)), some (42, true)⟩, ⟨(some 45), .pick (.t 42) (.t 44) (.c (.bool false)), none⟩]) (.cond (.t 45) .skip (.exit 0))) (.seq (.block 1 (.seq (.dreg [⟨(some 49), .ld (some 330) (.t 12), none⟩, ⟨(some 50), .mv (.t 2), none⟩, ⟨(some 51), .mv (.t 13), none⟩, ⟨(some 52), .iadS 1 (.t 50) (.t 51), none⟩, ⟨(some 53), .ld none (.t 52), none⟩, ⟨(some 54), .call "roundhouse/roundhouselaw6.Entry" [(.t 53)], none⟩, ⟨(some 55), .call "roundhouse/roundhouseref6.Apply" [(.t 49), (.t 54)], none⟩, ⟨(some 48), .mv (.t 55), none⟩, ⟨(some 56), .ext 0 (.t 48), none⟩, ⟨(some 57), .ext 1 (.t 48), none⟩, ⟨(some 14), .new [(324, (.int .i64 0)), (6, (.int .u64 0))], none⟩, ⟨none, .st 330 (.t 14) (.t 56), none⟩, ⟨(some 15), .mv (.t 57), none⟩] [[], [], [], [1, 2], [3, 1, 2], [4, 3, 1, 2], [0, 5, 4, 3, 1, 2], [6, 0, 5, 4, 3, 1, 2], [7, 6, 0, 5, 4, 3, 1, 2], [7, 6, 0, 5, 4, 3, 1, 2], [], [10, 8, 7, 6, 0, 5, 4, 3, 1, 2], [9, 7, 6, 0, 5, 4, 3, 1, 2, 11, 10, 8]]) (.seq (.reg [⟨(some 58), .mv (.t 15), none⟩, ⟨(some 59), .bin .eql (.t 58) (.c (.int .i64 0)), none⟩]) (.cond (.t 59) (.seq (.reg [⟨(some 60), .ld (some 330) (.t 14), none⟩, ⟨none, .st 330 (.t 12) (.t 60), none⟩]) (.reg [⟨(some 61), .mv (.t 11), none⟩, ⟨(some 62), .mv (.t 2), none⟩, ⟨(some 63), .mv (.t 13), none⟩, ⟨(some 64), .iadS 1 (.t 62) (.t 63), none⟩, ⟨(some 65), .ld none (.t 64), none⟩, ⟨(some 66), .call "roundhouse/roundhouselaw6.Entry" [(.t 65)], none⟩, ⟨(some 67), .bsl [(5, (.int .i64 0)), (2, (.int .u64 0))] 7 1 [(0, 7, (.t 66))], none⟩, ⟨(some 68), .app [(5, (.int .i64 0)), (2, (.int .u64 0))] 7 56 (.t 61) (.t 67), none⟩, ⟨(some 11), .mv (.t 68), none⟩])) .skip)))) (.reg [⟨(some 46), .mv (.t 13), none⟩, ⟨(some 47), .bin .add (.t 46) (.c (.int .i64 1)), none⟩, ⟨(some 13), .mv (.t 47), none⟩])))))) (.seq (.seq (.reg [⟨(some 69), .mv (.t 9), none⟩, ⟨(some 70), .mv (.t 11), none⟩, ⟨(some 71), .call "(*roundhouse/head.Head).Wish" [(.t 69), (.t 70)], none⟩, ⟨(some 72), .bin .neq (.t 71) (.c (.int .i64 0)), none⟩, ⟨(some 73), .mv (.t 72), none⟩, ⟨(some 74), .mv (.t 9), some (73, false)⟩, ⟨(some 75), .call "(*roundhouse/head.Head).Waiting" [(.t 74)], some (73, false)⟩, ⟨(some 76), .mv (.t 11), some (73, false)⟩, ⟨(some 77), .lenS (.t 76), some (73, false)⟩, ⟨(some 78), .bin .neq (.t 75) (.t 77), some (73, false)⟩, ⟨(some 79), .pick (.t 73) (.c (.bool true)) (.t 78), none⟩]) (.cond (.t 79) (.seq (.reg [⟨(some 6), .mv (.c (.bool false)), none⟩]) .ret) .skip)) (.seq (.seq (.reg [⟨(some 16), .mv (.c (.int .i64 0)), none⟩]) (.block 2 (.loop (.seq (.seq (.reg [⟨(some 80), .mv (.t 16), none⟩, ⟨(some 81), .mv (.t 11), none⟩, ⟨(some 82), .lenS (.t 81), none⟩, ⟨(some 83), .bin .leq (.t 80) (.t 82), none⟩]) (.cond (.t 83) .skip (.exit 2))) (.seq (.block 3 (.seq (.seq (.dreg [⟨(some 86), .mv (.t 9), none⟩, ⟨(some 87), .call "(*roundhouse/head.Head).Version" [(.t 86)], none⟩, ⟨(some 88), .fad 0 (.t 7), none⟩, ⟨(some 89), .ld none (.t 88), none⟩, ⟨(some 90), .mv (.t 16), none⟩, ⟨(some 91), .bin .add (.t 89) (.t 90), none⟩, ⟨(some 92), .bin .neq (.t 87) (.t 91), none⟩] [[], [0], [], [2], [], [3, 2, 4], [1, 0, 5, 3, 2, 4]]) (.cond (.t 92) (.seq (.reg [⟨(some 6), .mv (.c (.bool false)), none⟩]) .ret) .skip)) (.seq (.seq (.reg [⟨(some 17), .mv (.c (.int .i64 0)), none⟩]) (.block 4 (.loop (.seq (.seq (.reg [⟨(some 93), .mv (.t 17), none⟩, ⟨(some 94), .mv (.t 8), none⟩, ⟨(some 95), .bin .lss (.t 93) (.t 94), none⟩]) (.cond (.t 95) .skip (.exit 4))) (.seq (.block 5 (.reg [⟨(some 98), .mv (.t 9), none⟩, ⟨(some 99), .mv (.t 17), none⟩, ⟨(some 100), .mv (.t 9), none⟩, ⟨(some 101), .call "(*roundhouse/head.Head).Version" [(.t 100)], none⟩, ⟨(some 102), .bld [(3, (.int .i64 0)), (2, (.bool false)), (5, (.int .i64 0)), (2, (.int .u64 0)), (324, (.int .i64 0)), (6, (.int .u64 0))] [(0, 1, (.t 99)), (2, 1, (.t 101)), (4, 1, (.c (.bool true)))], none⟩, ⟨(some 103), .call "(*roundhouse/head.Head).Heard" [(.t 98), (.t 102)], none⟩])) (.reg [⟨(some 96), .mv (.t 17), none⟩, ⟨(some 97), .bin .add (.t 96) (.c (.int .i64 1)), none⟩, ⟨(some 17), .mv (.t 97), none⟩])))))) (.seq (.reg [⟨(some 104), .mv (.t 9), none⟩, ⟨(some 105), .call "(*roundhouse/head.Head).Send" [(.t 104)], none⟩]) (.seq (.reg [⟨(some 106), .mv (.t 9), none⟩, ⟨(some 107), .call "(*roundhouse/head.Head).Waiting" [(.t 106)], none⟩, ⟨(some 108), .mv (.t 11), none⟩, ⟨(some 109), .lenS (.t 108), none⟩, ⟨(some 110), .mv (.t 16), none⟩, ⟨(some 111), .bin .sub (.t 109) (.t 110), none⟩, ⟨(some 112), .bin .sub (.t 111) (.c (.int .i64 1)), none⟩, ⟨(some 113), .mm true (.t 112) (.c (.int .i64 0)), none⟩, ⟨(some 114), .bin .neq (.t 107) (.t 113), none⟩]) (.cond (.t 114) (.seq (.reg [⟨(some 6), .mv (.c (.bool false)), none⟩]) .ret) .skip)))))) (.reg [⟨(some 84), .mv (.t 16), none⟩, ⟨(some 85), .bin .add (.t 84) (.c (.int .i64 1)), none⟩, ⟨(some 16), .mv (.t 85), none⟩])))))) (.seq (.dreg [⟨(some 115), .mv (.t 9), none⟩, ⟨(some 116), .call "(*roundhouse/head.Head).Pool" [(.t 115)], none⟩, ⟨(some 117), .ld (some 330) (.t 12), none⟩, ⟨(some 118), .eqa false [(330, .i)] (.t 116) (.t 117), none⟩, ⟨(some 119), .mv (.t 118), none⟩, ⟨(some 120), .mv (.t 9), some (119, true)⟩, ⟨(some 121), .call "(*roundhouse/head.Head).Version" [(.t 120)], some (119, true)⟩, ⟨(some 122), .fad 0 (.t 12), some (119, true)⟩, ⟨(some 123), .ld none (.t 122), some (119, true)⟩, ⟨(some 124), .bin .eql (.t 121) (.t 123), some (119, true)⟩, ⟨(some 125), .pick (.t 119) (.t 124) (.c (.bool false)), none⟩, ⟨(some 6), .mv (.t 125), none⟩] [[], [0], [], [1, 0, 2], [3, 1, 0, 2], [4, 3, 1, 0, 2], [5, 4, 3, 1, 0, 2], [4, 3, 1, 0, 2], [7, 4, 3, 1, 0, 2], [6, 5, 4, 3, 1, 0, 2, 8, 7], [4, 3, 1, 0, 2, 9, 6, 5, 8, 7], [10, 4, 3, 1, 0, 2, 9, 6, 5, 8, 7]]) .ret))))))))))))⟩
theorem goes_more {p d : Flat} {es : List Ent} {e : Ent} (h : allS p es 0 = (d, es.length, 0)) (h2 : (applyS d e).2 = 0) : allS p (es ++ [e]) 0 = ((applyS d e).1, (es ++ [e]).length, 0) := by
  rw [allS_app _ _ _ _ (by rw [h]), h]
  simp [allS, h2]
theorem goes_wish {p d : Flat} {u : Nat} {es : List Ent} (h : allS p es 0 = (d, es.length, 0)) (hl : es.length ≤ 200) : wishS (coldS p u []) es = (0, coldS p u es) := by
  rw [wish_ok (by simp [coldS]; omega) (by show ¬ (allS (allS p [] 0).1 es 0).2.2 ≠ 0; simp [allS, h])]
  simp [coldS]
structure GoI (p d : Flat) (u : Nat) (es : List Ent) (i : Nat) (x : HS) : Prop where
  w : x.w = es.drop i
  all : allS x.p x.w 0 = (d, x.w.length, 0)
  ver : i ≤ es.length → x.p 0 = p 0 + i
  len : x.hd.length = u ∧ 1 ≤ u ∧ u ≤ 16
  hear : ∀ j, j < u → ∃ v, x.hd[j]? = some (0, v) ∧ v ≤ x.p 0
structure GoK (u : Nat) (x : HS) (k : Nat) (hd : List (Int × Int)) : Prop where
  len : hd.length = u ∧ u ≤ 16
  hear : ∀ j, j < u → ∃ v, hd[j]? = some (0, v) ∧ v ≤ x.p 0 ∧ (j < k → v = x.p 0)
theorem GoI.toK {p d : Flat} {u : Nat} {es : List Ent} {i : Nat} {x : HS} (h : GoI p d u es i x) : GoK u x 0 x.hd :=
  ⟨⟨h.len.1, h.len.2.2⟩, fun j hj => let ⟨v, h1, h2⟩ := h.hear j hj; ⟨v, h1, h2, fun q => by omega⟩⟩
theorem goes_start {p d : Flat} {u k : Nat} {es : List Ent} (h : allS p es 0 = (d, es.length, 0)) (hp : 0 ≤ p 0 ∧ p 0 ≤ k) (hu : 1 ≤ u ∧ u ≤ 16) : GoI p d u es 0 (coldS p u es) :=
  ⟨rfl, h, fun _ => by simp [coldS], ⟨by simp [coldS], hu⟩, fun j hj => ⟨-1, by show (List.replicate u ((0 : Int), (-1 : Int)))[j]? = _; rw [List.getElem?_replicate, if_pos hj], by show (-1 : Int) ≤ p 0; omega⟩⟩
theorem goes_okx {p d : Flat} {u : Nat} {es : List Ent} {i : Nat} {x : HS} (h : GoI p d u es i x) (he : es.length ≤ 12) : HOK x := ⟨by rw [h.w]; simp; omega, by have := h.len; omega⟩
theorem goes_ok {p d : Flat} {u : Nat} {es : List Ent} {i k : Nat} {x : HS} {hd : List (Int × Int)} (h0 : GoI p d u es i x) (h : GoK u x k hd) (he : es.length ≤ 12) : HOK ⟨x.p, x.w, hd, x.e, x.s⟩ := ⟨(goes_okx h0 he).w, by have := h.len; show hd.length ≤ 1000; omega⟩
theorem goes_hear {u : Nat} {x : HS} {k : Nat} {hd : List (Int × Int)} (h : GoK u x k hd) (hk : k < u) (hp : 0 ≤ x.p 0) : GoK u x (k + 1) (heardS hd ⟨(k : Nat), 0, x.p 0, false, true, e0, zeroP⟩) := by
  obtain ⟨v, h1, h2, h3⟩ := h.hear k hk
  have hl : lkS hd (k : Nat) = ((0, v), true) := by rw [lk_at (lt_of_getElem? h1), List.getD_eq_getElem?_getD, h1]; rfl
  have hs : heardS hd ⟨(k : Nat), 0, x.p 0, false, true, e0, zeroP⟩ = hd.set k (0, x.p 0) := by
    rw [heard_in rfl (congrArg Prod.snd hl) (by show (lkS hd (k : Nat)).1.1 ≤ 0; rw [hl]; exact Int.le_refl _)]
    show hd.set k (if (0 : Int) > (lkS hd (k : Nat)).1.1 ∨ mxS (x.p 0) > (lkS hd (k : Nat)).1.2 then (0, mxS (x.p 0)) else ((lkS hd (k : Nat)).1.1, (lkS hd (k : Nat)).1.2)) = _
    rw [hl, mx_pos (by omega)]
    congr 1
    by_cases q : x.p 0 > v
    · rw [if_pos (.inr q)]
    · rw [if_neg (by simp only; omega)]; simp only; congr 1; omega
  rw [hs]
  refine ⟨⟨by rw [List.length_set]; exact h.len.1, h.len.2⟩, fun j hj => ?_⟩
  by_cases hj' : k = j
  · subst hj'; exact ⟨x.p 0, by rw [List.getElem?_set_self (lt_of_getElem? h1)], Int.le_refl _, fun _ => rfl⟩
  · obtain ⟨v', g1, g2, g3⟩ := h.hear j hj
    exact ⟨v', by rw [List.getElem?_set_ne hj']; exact g1, g2, fun q => g3 (by omega)⟩
theorem goes_allW {u : Nat} {x : HS} {k : Nat} {hd : List (Int × Int)} (h : GoK u x k hd) (hk : u ≤ k) : allW hd (x.p 0) = true := by
  refine allW_true fun j hj => ?_
  rw [hdM_length, h.len.1] at hj
  obtain ⟨v, h1, _, h3⟩ := h.hear j hj
  rw [List.getD_eq_getElem?_getD, h1]; exact h3 (by omega)
structure GoR (p d : Flat) (u : Nat) (es : List Ent) (i : Nat) (x : HS) : Prop where
  go : GoI p d u es i x
  len : (x.w.length : Int) = if 0 > ((es.length : Nat) : Int) - ((i - 1 : Nat) : Int) - 1 then 0 else ((es.length : Nat) : Int) - ((i - 1 : Nat) : Int) - 1
theorem goes_send {p d : Flat} {u b : Nat} {es : List Ent} {i k : Nat} {x : HS} {hd : List (Int × Int)} (h : GoI p d u es i x) (h2 : GoK u x k hd) (hp : 0 ≤ p 0 ∧ p 0 ≤ b) (hb : b ≤ 1000) (hk : u ≤ k) (hi : i ≤ es.length) (he : es.length ≤ 12) : GoR p d u es (i + 1) (sendS ⟨x.p, x.w, hd, x.e, x.s⟩).1 := by
  have hA := goes_allW h2 hk
  have hv := h.ver hi
  have hgo : goS ⟨x.p, x.w, hd, x.e, x.s⟩ = pubS ⟨x.p, x.w, hd, x.e, x.s⟩ := by unfold goS; rw [if_pos hA]
  show GoR p d u es (i + 1) (goS ⟨x.p, x.w, hd, x.e, x.s⟩)
  rw [hgo]
  have hlen : es.length - i = x.w.length := by rw [h.w]; simp
  have hear : ∀ q : Flat, x.p 0 ≤ q 0 → ∀ j, j < u → ∃ v, hd[j]? = some (0, v) ∧ v ≤ q 0 := fun q hq j hj => let ⟨v, g1, g2, _⟩ := h2.hear j hj; ⟨v, g1, by omega⟩
  cases hw : x.w with
  | nil =>
    have hli : i = es.length := by rw [hw] at hlen; simp at hlen; omega
    have e1 : pubS ⟨x.p, [], hd, x.e, x.s⟩ = ⟨x.p, [], hd, x.e, x.s⟩ := rfl
    rw [e1]
    refine ⟨⟨?_, ?_, fun q => by omega, ⟨h2.len.1, h.len.2⟩, hear x.p (Int.le_refl _)⟩, ?_⟩
    · show [] = es.drop (i + 1); rw [List.drop_eq_nil_of_le (by omega)]
    · have := h.all; rw [hw] at this; exact this
    · show ((0 : Nat) : Int) = _; rw [if_pos (by omega)]; rfl
  | cons e r =>
    have hall := h.all
    rw [hw] at hall
    have hok : (applyS x.p e).2 = 0 := by
      by_cases q : (applyS x.p e).2 = 0
      · exact q
      · exfalso
        simp only [allS] at hall
        rw [if_neg q] at hall
        have := congrArg (fun z => z.2.1) hall
        simp at this
    have e1 : pubS ⟨x.p, e :: r, hd, x.e, x.s⟩ = ⟨(applyS x.p e).1, r, hd, e, true⟩ := by unfold pubS; simp only; rw [if_pos hok]
    rw [e1]
    have hver : (applyS x.p e).1 0 = x.p 0 + 1 := by rw [apply_ver hok, w1 (by omega)]
    have hdr : r = es.drop (i + 1) := by
      have := h.w; rw [hw] at this
      have := congrArg List.tail this
      simpa using this
    rw [hw] at hlen; simp at hlen
    refine ⟨⟨hdr, ?_, fun q => by show (applyS x.p e).1 0 = _; rw [hver, hv]; omega, ⟨h2.len.1, h.len.2⟩, hear _ (by show x.p 0 ≤ (applyS x.p e).1 0; omega)⟩, ?_⟩
    · show allS (applyS x.p e).1 r 0 = (d, r.length, 0)
      simp only [allS, hok, if_true] at hall
      have h3 := allS_at r (applyS x.p e).1 0 1
      have hall : allS (applyS x.p e).1 r (0 + 1) = (d, r.length + 1, 0) := by simpa using hall
      rw [hall] at h3
      obtain ⟨g1, g2, g3⟩ := h3
      refine Prod.ext g1.symm (Prod.ext ?_ g3.symm)
      show (allS (applyS x.p e).1 r 0).2.1 = r.length
      simp at g2; omega
    · show (r.length : Int) = _
      rw [if_neg (by omega)]; omega
theorem goes_end {p d : Flat} {u : Nat} {es : List Ent} {i : Nat} {x : HS} (h : GoI p d u es i x) (hi : es.length < i) : x.p = d := by
  have hw : x.w = [] := by rw [h.w, List.drop_eq_nil_of_le (by omega)]
  have := h.all
  rw [hw] at this
  exact congrArg Prod.fst this
theorem HeadGoesC {P : Program} (hc : codeOf P "roundhouse/roundhouselaw11.HeadGoes" = some c_law11_HeadGoes) (h_law11_known : codeOf P "roundhouse/roundhouselaw11.known" = some c_law11_known) (h_ref6_New : codeOf P "roundhouse/roundhouseref6.New" = some c_ref6_New) (h_ref6_out : codeOf P "roundhouse/roundhouseref6.out" = some c_ref6_out) (h_ref5_Ring : codeOf P "roundhouse/roundhouseref5.Ring" = some c_ref5_Ring) (h_head_New : codeOf P "roundhouse/head.New" = some c_head_New) (h_head_Head_Send : codeOf P "(*roundhouse/head.Head).Send" = some c_head_Head_Send) (h_head_Head_all : codeOf P "(*roundhouse/head.Head).all" = some c_head_Head_all) (h_head_Head_publish : codeOf P "(*roundhouse/head.Head).publish" = some c_head_Head_publish) (h_pool_Apply : codeOf P "roundhouse/pool.Apply" = some c_pool_Apply) (h_pool_may : codeOf P "roundhouse/pool.may" = some c_pool_may) (h_pool_held : codeOf P "roundhouse/pool.held" = some c_pool_held) (h_pool_fits : codeOf P "roundhouse/pool.fits" = some c_pool_fits) (h_pool_Check : codeOf P "roundhouse/pool.Check" = some c_pool_Check) (h_pool_placed : codeOf P "roundhouse/pool.placed" = some c_pool_placed) (h_cookie_Next : codeOf P "roundhouse/cookie.Next" = some c_cookie_Next) (h_head_Head_Wish : codeOf P "(*roundhouse/head.Head).Wish" = some c_head_Head_Wish) (h_head_Head_waiting : codeOf P "(*roundhouse/head.Head).waiting" = some c_head_Head_waiting) (h_pool_All : codeOf P "roundhouse/pool.All" = some c_pool_All) (h_head_Head_Heard : codeOf P "(*roundhouse/head.Head).Heard" = some c_head_Head_Heard) (h_head_Head_Version : codeOf P "(*roundhouse/head.Head).Version" = some c_head_Head_Version) (h_head_Head_Waiting : codeOf P "(*roundhouse/head.Head).Waiting" = some c_head_Head_Waiting) (h_head_Head_Pool : codeOf P "(*roundhouse/head.Head).Pool" = some c_head_Head_Pool) (h_law6_Make : codeOf P "roundhouse/roundhouselaw6.Make" = some c_law6_Make) (h_law5_Key : codeOf P "roundhouse/roundhouselaw5.Key" = some c_law5_Key) (h_law6_Entry : codeOf P "roundhouse/roundhouselaw6.Entry" = some c_law6_Entry) (h_law6_within : codeOf P "roundhouse/roundhouselaw6.within" = some c_law6_within) (h_ref6_Apply : codeOf P "roundhouse/roundhouseref6.Apply" = some c_ref6_Apply) (h_ref6_Check : codeOf P "roundhouse/roundhouseref6.Check" = some c_ref6_Check) (h_ref6_bad : codeOf P "roundhouse/roundhouseref6.bad" = some c_ref6_bad) (h_ref6_Held : codeOf P "roundhouse/roundhouseref6.Held" = some c_ref6_Held) (h_ref5_Next : codeOf P "roundhouse/roundhouseref5.Next" = some c_ref5_Next) (h_law11_within : codeOf P "roundhouse/roundhouselaw11.within" = some c_law11_within) (o : Option Nat) (ns : List Int) (hnns : o = none → ns = []) (hl : (ns.length : Int) ≤ 9223372036854775807) (units : Int) (o2 : Option Nat) (ks : List Int) (hnks : o2 = none → ks = []) (hlk : (ks.length : Int) ≤ 9223372036854775807) :
    Env P "roundhouse/roundhouselaw11.HeadGoes" [inV o 0 ns.length, iv units, inV o2 1 ks.length] ([inB o (ii ns), inB o2 (ii ks)]) (Ans (.bool true) ([inB o (ii ns), inB o2 (ii ks)])) := by
 refine Env.by hc ?_
 unfold c_law11_HeadGoes
 show GC _ 2 _ _ ⟨reg [(0, inV o 0 ns.length), (1, iv units), (2, inV o2 1 ks.length)], [inB o (ii ns), inB o2 (ii ks)]⟩
 refine gseq ?_
 refine greg ?_
 refine o_d 1 [(6, bv false)] (by kernel_rfl) ?_
 refine o_nil ?_
 refine seq_go ?_
 refine gseq ?_
 refine gseq ?_
 refine greg ?_
 refine o_cl (callV (known11C h_law11_known h_ref6_New h_ref6_out h_ref5_Ring h_head_New h_head_Head_Send h_head_Head_all h_head_Head_publish h_pool_Apply h_pool_may h_pool_held h_pool_fits h_pool_Check h_pool_placed h_cookie_Next h_head_Head_Wish h_head_Head_waiting h_pool_All h_head_Head_Heard h_head_Head_Version h_head_Head_Waiting h_head_Head_Pool) rfl rfl rfl ?_)
 refine o_d 1 [(19, bv false)] (by kernel_rfl) ?_
 refine o_nil ?_
 refine seq_go ?_
 refine gfalse rfl ?_
 refine gskip ?_
 refine seq_go ?_
 refine gseq ?_
 refine greg ?_
 refine o_d 1 [(20, inV o 0 ns.length)] (by kernel_rfl) ?_
 refine o_cl (callRO_K (callIn 0 (MakeC h_law6_Make h_law5_Key h_ref6_New h_ref6_out h_ref5_Ring h_law6_Entry h_law6_within h_ref6_Apply h_ref6_Check h_ref6_bad h_ref6_Held h_ref5_Next o ns hnns hl 30 (by omega)) rfl (ii_scl _) rfl rfl (poolV_vpf _) ?_))
 have I0 := makeS_inv ns (k := 30) (by omega)
 have hpv := I0.ver
 generalize makeS ns 30 = p at I0 hpv ⊢
 refine o_b 1 [(7, pv 2 0)] [inB o (ii ns), inB o2 (ii ks), cw (pl zeroP)] (by kernel_rfl) ?_
 refine o_s0 (by refine run_st (c' := pl p) rfl rfl rfl ?_ ?_ ?_; exact pl_length _; exact pl_le (by omega); exact splice_pl0 zeroP p) ?_
 refine o_nil ?_
 refine seq_go ?_
 refine gseq ?_
 refine greg ?_
 refine o_d 1 [(22, iv units)] (by kernel_rfl) ?_
 refine o_cl (callV (within11C h_law11_within units 5 (by decide)) rfl rfl rfl ?_)
 have hw_u0 := within_lt units (n := 5) (by decide)
 generalize withinS units 5 = u0 at hw_u0 ⊢
 refine o_s (by refine run_val (v := .int .i64 (IntKind.i64.wrap (1 + u0))) (congrArg (Value.int .i64) (w64 (by omega) (by omega))) ?_; kernel_rfl) ?_
 refine o_d 1 [(8, iv (1 + u0))] (by kernel_rfl) ?_
 refine o_nil ?_
 refine seq_go ?_
 refine gseq ?_
 refine greg ?_
 refine o_s (by refine run_ld (v := poolV p) rfl rfl ?_; exact pl_all p) ?_
 refine o_d 1 [(27, iv (1 + u0))] (by kernel_rfl) ?_
 refine o_cl (callG [] [] [poolV p, iv (1 + u0)] (HNewC h_head_New p (1 + u0)) rfl (cons_eq (renV_vpf (poolV_vpf p)) (cons_eq rfl rfl)) trivial (by decide) ?_)
 rintro v1 h1' hN1
 rw [if_neg (by omega)] at hN1
 obtain ⟨rfl, rfl⟩ := hN1
 refine ⟨.tuple #[pv 3 0, iv 0], [inB o (ii ns), inB o2 (ii ks), cw (pl p)], [cw (headL ((coldS p (1 + u0).toNat []).p) 4 5 ((coldS p (1 + u0).toNat []).e) ((coldS p (1 + u0).toNat []).s)), .chan 200 (((coldS p (1 + u0).toNat []).w).map entV), .map (hdM ((coldS p (1 + u0).toNat []).hd))], ((renV_tup _).trans rfl), ⟨rfl, ⟨rfl, ⟨rfl, trivial⟩⟩⟩, ⟨(Option.some.inj (ren_headS rfl rfl)).symm, ⟨(Option.some.inj (congrArg some (ren_entsV _).symm)).symm, ⟨(Option.some.inj (congrArg some (ren_hdM _).symm)).symm, trivial⟩⟩⟩, ?_⟩
 refine o_d 5 [(10, iv 0), (9, pv 3 0), (30, iv 0), (29, pv 3 0), (25, .tuple #[pv 3 0, iv 0])] (by kernel_rfl) ?_
 refine o_nil ?_
 refine seq_go ?_
 refine gseq ?_
 refine gseq ?_
 refine greg ?_
 refine o_d 6 [(36, bv false), (35, bv false), (34, pv 3 0), (33, bv false), (32, bv false), (31, iv 0)] (by kernel_rfl) ?_
 refine o_nil ?_
 refine seq_regs [(36, bv false), (9, pv 3 0), (8, iv (1 + u0)), (7, pv 2 0), (2, inV o2 1 ks.length)] (by kernel_rfl) ?_
 refine gfalse rfl ?_
 refine gskip ?_
 refine seq_go ?_
 refine gseq ?_
 refine greg ?_
 refine o_d 1 [(11, .slice none 0 0)] (by kernel_rfl) ?_
 refine o_nil ?_
 refine seq_go ?_
 refine gseq ?_
 refine greg ?_
 refine o_s (by refine run_ld (v := poolV p) rfl rfl ?_; exact pl_all p) ?_
 refine o_b 1 [(12, pv 6 0)] [inB o (ii ns), inB o2 (ii ks), cw (pl p), cw (headL ((coldS p (1 + u0).toNat []).p) 4 5 ((coldS p (1 + u0).toNat []).e) ((coldS p (1 + u0).toNat []).s)), .chan 200 (((coldS p (1 + u0).toNat []).w).map entV), .map (hdM ((coldS p (1 + u0).toNat []).hd)), cw (pl zeroP)] (by kernel_rfl) ?_
 refine o_s0 (by refine run_st (c' := pl p) rfl rfl rfl ?_ ?_ ?_; exact pl_length _; exact pl_le (by omega); exact splice_pl0 zeroP p) ?_
 refine o_nil ?_
 refine seq_go ?_
 refine gseq ?_
 refine gseq ?_
 refine greg ?_
 refine o_d 1 [(13, iv 0)] (by kernel_rfl) ?_
 refine o_nil ?_
 refine seq_go ?_
 refine gblock ?_
 refine gloop (fun μ s => ∃ (i : Nat), ∃ (es : List Ent), ∃ (n : Nat), ∃ (d : Flat), ∃ (q1 : Option Nat), μ = ks.length - i ∧ (i ≤ ks.length ∧ i ≤ 12) ∧ (es.length = n) ∧ (n ≤ i) ∧ (allS p es 0 = (d, es.length, 0)) ∧ (q1 = none → es = []) ∧ s = ⟨reg [(13, iv (i : Int)), (12, pv 6 0), (11, slV 7 n q1), (9, pv 3 0), (8, iv (1 + u0)), (7, pv 2 0), (2, inV o2 1 ks.length)], [inB o (ii ns), inB o2 (ii ks), cw (pl p), cw (headL ((coldS p (1 + u0).toNat []).p) 4 5 ((coldS p (1 + u0).toNat []).e) ((coldS p (1 + u0).toNat []).s)), .chan 200 (((coldS p (1 + u0).toNat []).w).map entV), .map (hdM ((coldS p (1 + u0).toNat []).hd)), cw (pl d), slB zE (entsL es) q1]⟩) ⟨(ks.length - 0), ?_⟩ ?_
 ·skip
  refine ⟨⟨reg [(13, iv (0 : Int)), (12, pv 6 0), (11, slV 7 0 none), (9, pv 3 0), (8, iv (1 + u0)), (7, pv 2 0), (2, inV o2 1 ks.length)], [inB o (ii ns), inB o2 (ii ks), cw (pl p), cw (headL ((coldS p (1 + u0).toNat []).p) 4 5 ((coldS p (1 + u0).toNat []).e) ((coldS p (1 + u0).toNat []).s)), .chan 200 (((coldS p (1 + u0).toNat []).w).map entV), .map (hdM ((coldS p (1 + u0).toNat []).hd)), cw (pl p), slB zE (entsL ([] : List Ent)) none]⟩, ?_⟩
  refine ⟨?_, ?_⟩
  ·exact Wk.ren [0, 1, 2, 3, 4, 5, 6, 14] rfl rfl (by decide) ⟨rfl, ⟨rfl, ⟨rfl, ⟨rfl, ⟨rfl, ⟨rfl, ⟨((renV_inV o2 rfl)).trans rfl, trivial⟩⟩⟩⟩⟩⟩⟩ ⟨.inl (ren_inB o (ii_scl ns)), ⟨.inl (ren_inB o2 (ii_scl ks)), ⟨.inl (ren_cells (pl_scl p)), ⟨.inl (ren_headS rfl rfl), ⟨.inl (congrArg some (ren_entsV _).symm), ⟨.inl (congrArg some (ren_hdM _).symm), ⟨.inl (ren_cells (pl_scl p)), ⟨.inr ⟨rfl, rfl⟩, trivial⟩⟩⟩⟩⟩⟩⟩⟩
  ·exact ⟨0, ([] : List Ent), 0, p, none, rfl, ⟨Nat.zero_le _, Nat.zero_le _⟩, rfl, (Nat.zero_le _), rfl, (fun _ => rfl), rfl⟩
 rintro μ s ⟨i, es, n, d, q1, rfl, hi, hn, hes, hA, hq, rfl⟩
 refine gseq ?_
 refine gseq ?_
 refine greg ?_
 refine o_d 2 [(39, inV o2 1 ks.length), (38, iv (i : Int))] (by kernel_rfl) ?_
 refine o_s (by exact run_lenIn rfl (fun q => by rw [hnks q]; rfl)) ?_
 refine o_d 2 [(42, bv (decide ((i : Int) < (ks.length : Nat)))), (41, bv (decide ((i : Int) < (ks.length : Nat))))] (by kernel_rfl) ?_
 refine o_sp (b := decide ((i : Int) < (ks.length : Nat))) 42 rfl (fun h2 => ?_) (fun h2 => ?_)
 ·skip
  have h2' : (i : Int) < (ks.length : Nat) := of_decide_eq_true h2
  refine o_d 3 [(45, bv (decide ((i : Int) < 12))), (44, bv (decide ((i : Int) < 12))), (43, iv (i : Int))] (by kernel_rfl) ?_
  refine o_nil ?_
  refine seq_go ?_
  refine gcond (t := decide ((i : Int) < 12)) rfl (fun h3 => ?_) (fun h3 => ?_)
  ·skip
   have h3' : (i : Int) < 12 := of_decide_eq_true h3
   obtain ⟨x, hx, hdr, ht⟩ := get_of_lt (l := ks) (i := i) (by omega)
   refine gskip ?_
   refine seq_go ?_
   refine gseq ?_
   refine gblock ?_
   refine gseq ?_
   refine gdreg ["roundhouse/roundhouselaw6.Entry", "roundhouse/roundhouseref6.Apply"] (by kernel_rfl) ?_
   refine r_s (by refine run_ld (v := poolV d) rfl rfl ?_; exact pl_all d) ?_
   refine r_d 2 [(51, iv (i : Int)), (50, inV o2 1 ks.length)] (by kernel_rfl) ?_
   refine r_s (by exact run_iadIn (o' := i) rfl (fun q => by rw [hnks q]; rfl) rfl (by omega) (by omega)) ?_
   refine r_s (by refine run_ld (v := iv x) rfl (hf_in (n := ks.length) rfl (fun q => by rw [hnks q]; rfl) (by omega)) ?_; exact ii_r (i := i) (by omega) hx) ?_
   refine r_cl (callVR (EntryC h_law6_Entry h_law6_within h_law5_Key x) rfl rfl rfl ?_)
   refine r_cl (callVR (refApplyC h_ref6_Apply h_ref6_Check h_ref6_out h_ref6_bad h_ref6_Held h_ref5_Next d (entS x)) rfl (all_cons (poolV_vpf d) (all_cons rfl rfl)) (all_cons (poolV_aggf ((applyS d (entS x)).1)) (all_cons rfl rfl)) ?_)
   refine r_b 4 [(14, pv 8 0), (57, iv ((applyS d (entS x)).2)), (56, poolV ((applyS d (entS x)).1)), (48, .tuple #[poolV ((applyS d (entS x)).1), iv ((applyS d (entS x)).2)])] [inB o (ii ns), inB o2 (ii ks), cw (pl p), cw (headL ((coldS p (1 + u0).toNat []).p) 4 5 ((coldS p (1 + u0).toNat []).e) ((coldS p (1 + u0).toNat []).s)), .chan 200 (((coldS p (1 + u0).toNat []).w).map entV), .map (hdM ((coldS p (1 + u0).toNat []).hd)), cw (pl d), slB zE (entsL es) q1, cw (pl zeroP)] (by kernel_rfl) ?_
   refine r_s0 (by refine run_st (c' := pl ((applyS d (entS x)).1)) rfl rfl rfl ?_ ?_ ?_; exact pl_length _; exact pl_le (by omega); exact splice_pl0 zeroP ((applyS d (entS x)).1)) ?_
   refine r_b 1 [(15, iv ((applyS d (entS x)).2))] [inB o (ii ns), inB o2 (ii ks), cw (pl p), cw (headL ((coldS p (1 + u0).toNat []).p) 4 5 ((coldS p (1 + u0).toNat []).e) ((coldS p (1 + u0).toNat []).s)), .chan 200 (((coldS p (1 + u0).toNat []).w).map entV), .map (hdM ((coldS p (1 + u0).toNat []).hd)), cw (pl d), slB zE (entsL es) q1, cw (pl ((applyS d (entS x)).1))] (by kernel_rfl) ?_
   refine r_nil ?_
   refine seq_go ?_
   refine gseq ?_
   refine greg ?_
   refine o_d 2 [(59, bv (((applyS d (entS x)).2) == 0)), (58, iv ((applyS d (entS x)).2))] (by kernel_rfl) ?_
   refine o_nil ?_
   refine seq_regs [(59, bv (((applyS d (entS x)).2) == 0)), (14, pv 8 0), (13, iv (i : Int)), (12, pv 6 0), (11, slV 7 n q1), (9, pv 3 0), (8, iv (1 + u0)), (7, pv 2 0), (2, inV o2 1 ks.length)] (by kernel_rfl) ?_
   refine gcond (t := ((applyS d (entS x)).2) == 0) rfl (fun h4 => ?_) (fun h4 => ?_)
   ·skip
    have h4' : (applyS d (entS x)).2 = 0 := eqI_t h4
    refine gseq ?_
    refine greg ?_
    refine o_s (by refine run_ld (v := poolV ((applyS d (entS x)).1)) rfl rfl ?_; exact pl_all ((applyS d (entS x)).1)) ?_
    refine o_s0 (by refine run_st (c' := pl ((applyS d (entS x)).1)) rfl rfl rfl ?_ ?_ ?_; exact pl_length _; exact pl_le (by omega); exact splice_pl0 d ((applyS d (entS x)).1)) ?_
    refine o_nil ?_
    refine seq_go ?_
    refine greg ?_
    refine o_d 3 [(63, iv (i : Int)), (62, inV o2 1 ks.length), (61, slV 7 n q1)] (by kernel_rfl) ?_
    refine o_s (by exact run_iadIn (o' := i) rfl (fun q => by rw [hnks q]; rfl) rfl (by omega) (by omega)) ?_
    refine o_s (by refine run_ld (v := iv x) rfl (hf_in (n := ks.length) rfl (fun q => by rw [hnks q]; rfl) (by omega)) ?_; exact ii_r (i := i) (by omega) hx) ?_
    refine o_cl (callV (EntryC h_law6_Entry h_law6_within h_law5_Key x) rfl rfl rfl ?_)
    refine o_b 1 [(67, sv 9 0 1 1)] [inB o (ii ns), inB o2 (ii ks), cw (pl p), cw (headL ((coldS p (1 + u0).toNat []).p) 4 5 ((coldS p (1 + u0).toNat []).e) ((coldS p (1 + u0).toNat []).s)), .chan 200 (((coldS p (1 + u0).toNat []).w).map entV), .map (hdM ((coldS p (1 + u0).toNat []).hd)), cw (pl ((applyS d (entS x)).1)), slB zE (entsL es) q1, cw (pl ((applyS d (entS x)).1)), cw [iv ((entS x).k), iv ((entS x).s), iv ((entS x).a), iv ((entS x).p), iv ((entS x).g), uv ((entS x).ka), uv ((entS x).kb)]] (by kernel_rfl) ?_
    refine o_appC (k := 7) (n := n) (o := q1) (q := 1) (cs := entsL es) (xs := [iv ((entS x).k), iv ((entS x).s), iv ((entS x).a), iv ((entS x).p), iv ((entS x).g), uv ((entS x).ka), uv ((entS x).kb)]) (cs2 := entsL (es ++ [(entS x)])) (zl := zE) rfl rfl rfl (fun m q => by subst q; rfl) (fun z => by have h0 := hq z; subst h0; exact ⟨hn.symm, rfl⟩) (by rw [entsL_len]; first | omega | (simp; try omega)) rfl rfl (app_first rfl rfl (by simp)) (by rfl) (by omega) (by omega) (entsL_snoc es (entS x)) (fun m5 e6 => ?_) (fun m5 => ?_)
    ·skip
     subst e6
     refine o_d 1 [(11, sv 7 0 (n + 1) (n + 1 + m5))] (by kernel_rfl) ?_
     refine o_nil ?_
     refine seq_go ?_
     refine greg ?_
     refine o_d 1 [(46, iv (i : Int))] (by kernel_rfl) ?_
     refine o_s (by refine run_val (v := .int .i64 (IntKind.i64.wrap ((i : Int) + 1))) (congrArg (Value.int .i64) (w64 (by omega) (by omega))) ?_; kernel_rfl) ?_
     refine o_d 1 [(13, iv ((i : Int) + 1))] (by kernel_rfl) ?_
     refine o_nil ?_
     refine ⟨ks.length - (i + 1), ?_⟩
     refine ⟨⟨reg [(13, iv ((i + 1) : Int)), (12, pv 6 0), (11, slV 7 (n + 1) (some m5)), (9, pv 3 0), (8, iv (1 + u0)), (7, pv 2 0), (2, inV o2 1 ks.length)], [inB o (ii ns), inB o2 (ii ks), cw (pl p), cw (headL ((coldS p (1 + u0).toNat []).p) 4 5 ((coldS p (1 + u0).toNat []).e) ((coldS p (1 + u0).toNat []).s)), .chan 200 (((coldS p (1 + u0).toNat []).w).map entV), .map (hdM ((coldS p (1 + u0).toNat []).hd)), cw (pl ((applyS d (entS x)).1)), slB zE (entsL (es ++ [(entS x)])) (some m5)]⟩, ?_⟩
     refine and3 (by omega) ⟨?_, ?_⟩
     ·exact Wk.ren [0, 1, 2, 3, 4, 5, 6, 7] rfl rfl (by decide) ⟨rfl, ⟨rfl, ⟨rfl, ⟨rfl, ⟨rfl, ⟨rfl, ⟨((renV_inV o2 rfl)).trans rfl, trivial⟩⟩⟩⟩⟩⟩⟩ ⟨.inl (ren_inB o (ii_scl ns)), ⟨.inl (ren_inB o2 (ii_scl ks)), ⟨.inl (ren_cells (pl_scl p)), ⟨.inl (ren_headS rfl rfl), ⟨.inl (congrArg some (ren_entsV _).symm), ⟨.inl (congrArg some (ren_hdM _).symm), ⟨.inl (ren_cells (pl_scl ((applyS d (entS x)).1))), ⟨.inl (ren_cells (entsR_scl _ _)), trivial⟩⟩⟩⟩⟩⟩⟩⟩
     ·exact ⟨(i + 1), (es ++ [(entS x)]), (n + 1), ((applyS d (entS x)).1), (some m5), rfl, (by omega), (by first | exact hn | simp [hn]), (by omega), (by first | exact hA | exact goes_more hA (by assumption)), (by first | exact hq | (intro z; cases z)), rfl⟩
    refine o_d 1 [(11, sv 10 0 (n + 1) (n + 1 + m5))] (by kernel_rfl) ?_
    refine o_nil ?_
    refine seq_go ?_
    refine greg ?_
    refine o_d 1 [(46, iv (i : Int))] (by kernel_rfl) ?_
    refine o_s (by refine run_val (v := .int .i64 (IntKind.i64.wrap ((i : Int) + 1))) (congrArg (Value.int .i64) (w64 (by omega) (by omega))) ?_; kernel_rfl) ?_
    refine o_d 1 [(13, iv ((i : Int) + 1))] (by kernel_rfl) ?_
    refine o_nil ?_
    refine ⟨ks.length - (i + 1), ?_⟩
    refine ⟨⟨reg [(13, iv ((i + 1) : Int)), (12, pv 6 0), (11, slV 7 (n + 1) (some m5)), (9, pv 3 0), (8, iv (1 + u0)), (7, pv 2 0), (2, inV o2 1 ks.length)], [inB o (ii ns), inB o2 (ii ks), cw (pl p), cw (headL ((coldS p (1 + u0).toNat []).p) 4 5 ((coldS p (1 + u0).toNat []).e) ((coldS p (1 + u0).toNat []).s)), .chan 200 (((coldS p (1 + u0).toNat []).w).map entV), .map (hdM ((coldS p (1 + u0).toNat []).hd)), cw (pl ((applyS d (entS x)).1)), slB zE (entsL (es ++ [(entS x)])) (some m5)]⟩, ?_⟩
    refine and3 (by omega) ⟨?_, ?_⟩
    ·exact Wk.ren [0, 1, 2, 3, 4, 5, 6, 10] rfl rfl (by decide) ⟨rfl, ⟨rfl, ⟨rfl, ⟨rfl, ⟨rfl, ⟨rfl, ⟨((renV_inV o2 rfl)).trans rfl, trivial⟩⟩⟩⟩⟩⟩⟩ ⟨.inl (ren_inB o (ii_scl ns)), ⟨.inl (ren_inB o2 (ii_scl ks)), ⟨.inl (ren_cells (pl_scl p)), ⟨.inl (ren_headS rfl rfl), ⟨.inl (congrArg some (ren_entsV _).symm), ⟨.inl (congrArg some (ren_hdM _).symm), ⟨.inl (ren_cells (pl_scl ((applyS d (entS x)).1))), ⟨.inl (ren_cells (entsR_scl _ _)), trivial⟩⟩⟩⟩⟩⟩⟩⟩
    ·exact ⟨(i + 1), (es ++ [(entS x)]), (n + 1), ((applyS d (entS x)).1), (some m5), rfl, (by omega), (by first | exact hn | simp [hn]), (by omega), (by first | exact hA | exact goes_more hA (by assumption)), (by first | exact hq | (intro z; cases z)), rfl⟩
   have h4' : ¬ ((applyS d (entS x)).2 = 0) := eqI_f h4
   refine gskip ?_
   refine seq_go ?_
   refine greg ?_
   refine o_d 1 [(46, iv (i : Int))] (by kernel_rfl) ?_
   refine o_s (by refine run_val (v := .int .i64 (IntKind.i64.wrap ((i : Int) + 1))) (congrArg (Value.int .i64) (w64 (by omega) (by omega))) ?_; kernel_rfl) ?_
   refine o_d 1 [(13, iv ((i : Int) + 1))] (by kernel_rfl) ?_
   refine o_nil ?_
   refine ⟨ks.length - (i + 1), ?_⟩
   refine ⟨⟨reg [(13, iv ((i + 1) : Int)), (12, pv 6 0), (11, slV 7 n q1), (9, pv 3 0), (8, iv (1 + u0)), (7, pv 2 0), (2, inV o2 1 ks.length)], [inB o (ii ns), inB o2 (ii ks), cw (pl p), cw (headL ((coldS p (1 + u0).toNat []).p) 4 5 ((coldS p (1 + u0).toNat []).e) ((coldS p (1 + u0).toNat []).s)), .chan 200 (((coldS p (1 + u0).toNat []).w).map entV), .map (hdM ((coldS p (1 + u0).toNat []).hd)), cw (pl d), slB zE (entsL es) q1]⟩, ?_⟩
   refine and3 (by omega) ⟨?_, ?_⟩
   ·exact Wk.ren [0, 1, 2, 3, 4, 5, 6, 7] rfl rfl (by decide) ⟨rfl, ⟨rfl, ⟨((renV_slV q1 rfl)).trans rfl, ⟨rfl, ⟨rfl, ⟨rfl, ⟨((renV_inV o2 rfl)).trans rfl, trivial⟩⟩⟩⟩⟩⟩⟩ ⟨.inl (ren_inB o (ii_scl ns)), ⟨.inl (ren_inB o2 (ii_scl ks)), ⟨.inl (ren_cells (pl_scl p)), ⟨.inl (ren_headS rfl rfl), ⟨.inl (congrArg some (ren_entsV _).symm), ⟨.inl (congrArg some (ren_hdM _).symm), ⟨.inl (ren_cells (pl_scl d)), ⟨.inl (ren_slB q1 (fun _ => (entsR_scl _ _))), trivial⟩⟩⟩⟩⟩⟩⟩⟩
   ·exact ⟨(i + 1), es, n, d, q1, rfl, (by omega), (by first | exact hn | simp [hn]), (by omega), (by first | exact hA | exact goes_more hA (by assumption)), (by first | exact hq | (intro z; cases z)), rfl⟩
  have h3' : ¬ ((i : Int) < 12) := of_decide_eq_false h3
  subst hn
  have hes12 : es.length ≤ 12 := by omega
  refine gexit ?_
  refine seq_go ?_
  refine gseq ?_
  refine gseq ?_
  refine greg ?_
  refine o_d 2 [(70, slV 7 es.length q1), (69, pv 3 0)] (by kernel_rfl) ?_
  refine o_cl (callN [3, 4, 5, 7] [cw (headL ((coldS p (1 + u0).toNat []).p) 1 2 ((coldS p (1 + u0).toNat []).e) ((coldS p (1 + u0).toNat []).s)), .chan 200 (((coldS p (1 + u0).toNat []).w).map entV), .map (hdM ((coldS p (1 + u0).toNat []).hd)), slB zE (entsL es) q1] [pv 0 0, slV 3 es.length q1] (HWishC h_head_Head_Wish h_head_Head_waiting h_pool_All h_pool_Apply h_pool_may h_pool_held h_pool_fits h_pool_Check h_pool_placed h_cookie_Next ((coldS p (1 + u0).toNat []).p) ((coldS p (1 + u0).toNat []).w) ((coldS p (1 + u0).toNat []).hd) ((coldS p (1 + u0).toNat []).e) ((coldS p (1 + u0).toNat []).s) es q1 ((show HOK (coldS p (1 + u0).toNat []) from ok_cold p)).w hq (by omega)) rfl (cons_eq rfl (cons_eq (renV_slV q1 rfl) rfl)) ⟨⟨_, rfl, .inl (seen_head rfl rfl (fun q => q))⟩, ⟨_, rfl, .inl (seen_ents _)⟩, ⟨_, rfl, .inl (seen_hdM _)⟩, ⟨_, rfl, sees_slB q1 (fun _ => entsR_scl _ _)⟩, trivial⟩ (by decide) ?_)
  rintro v1 h1' ⟨rfl, rfl⟩
  refine ⟨(gone_cons (fun q => by cases q) (gone_cons (fun q => by cases q) (gone_cons (fun q => by cases q) (gone_cons (fun q => q) gone_nil)))), iv (wishS (coldS p (1 + u0).toNat []) es).1, [inB o (ii ns), inB o2 (ii ks), cw (pl p), cw (headL ((wisS (coldS p (1 + u0).toNat []) es).p) 4 5 ((wisS (coldS p (1 + u0).toNat []) es).e) ((wisS (coldS p (1 + u0).toNat []) es).s)), .chan 200 (((wisS (coldS p (1 + u0).toNat []) es).w).map entV), .map (hdM ((wisS (coldS p (1 + u0).toNat []) es).hd)), cw (pl d), slB zE (entsL es) q1], [], rfl, ⟨rfl, ⟨rfl, ⟨rfl, ⟨ren_headL rfl rfl, ⟨ren_entsV _, ⟨ren_hdM _, ⟨rfl, ⟨(by rcases q1 with _ | m9 <;> first | rfl | exact renB_cells (entsR_scl _ _)), trivial⟩⟩⟩⟩⟩⟩⟩⟩, trivial, ?_⟩
  rw [show iv (wishS (coldS p (1 + u0).toNat []) es).1 = iv 0 from congrArg (fun z : Int × HS => iv z.1) (goes_wish hA (by omega))]
  have ok_y7 := (ok_wis (show HOK (coldS p (1 + u0).toNat []) from ok_cold p) es)
  generalize hd_y7 : (wisS (coldS p (1 + u0).toNat []) es) = y7 at ok_y7 ⊢
  have hy_y7 : y7 = coldS p (1 + u0).toNat es := by rw [← hd_y7]; unfold wisS; rw [goes_wish hA (by omega)]; rfl
  subst hy_y7
  refine o_d 3 [(74, pv 3 0), (73, bv false), (72, bv false)] (by kernel_rfl) ?_
  refine o_unguard rfl ?_
  refine o_cl (callG [3, 4, 5] [cr (headL ((coldS p (1 + u0).toNat es).p) 1 2 ((coldS p (1 + u0).toNat es).e) ((coldS p (1 + u0).toNat es).s)), .chan 200 (((coldS p (1 + u0).toNat es).w).map entV), .map (hdM ((coldS p (1 + u0).toNat es).hd))] [pv 0 0] (HWaitingC h_head_Head_Waiting ((coldS p (1 + u0).toNat es).p) ((coldS p (1 + u0).toNat es).w) ((coldS p (1 + u0).toNat es).hd) ((coldS p (1 + u0).toNat es).e) ((coldS p (1 + u0).toNat es).s)) rfl rfl ⟨⟨_, rfl, seen_head rfl rfl (fun q => rfl)⟩, ⟨⟨_, rfl, seen_ents _⟩, ⟨⟨_, rfl, seen_hdM _⟩, trivial⟩⟩⟩ (by decide) ?_)
  rintro v1 h1' ⟨rfl, rfl⟩
  refine ⟨iv (((coldS p (1 + u0).toNat es).w).length : Nat), [inB o (ii ns), inB o2 (ii ks), cw (pl p), cw (headL ((coldS p (1 + u0).toNat es).p) 4 5 ((coldS p (1 + u0).toNat es).e) ((coldS p (1 + u0).toNat es).s)), .chan 200 (((coldS p (1 + u0).toNat es).w).map entV), .map (hdM ((coldS p (1 + u0).toNat es).hd)), cw (pl d), slB zE (entsL es) q1], [], rfl, ⟨rfl, ⟨rfl, ⟨rfl, ⟨rfl, ⟨ren_entsV _, ⟨ren_hdM _, ⟨rfl, ⟨rfl, trivial⟩⟩⟩⟩⟩⟩⟩⟩, trivial, ?_⟩
  refine o_d 1 [(76, slV 7 es.length q1)] (by kernel_rfl) ?_
  refine o_unguard rfl ?_
  refine o_s (by exact run_lenSl rfl (fun z => by have h0 := hq z; subst h0; first | rfl | exact hn.symm)) ?_
  refine o_d 2 [(79, bv (((((coldS p (1 + u0).toNat es).w).length : Nat) : Int) != (es.length : Nat))), (78, bv (((((coldS p (1 + u0).toNat es).w).length : Nat) : Int) != (es.length : Nat)))] (by kernel_rfl) ?_
  refine o_nil ?_
  refine seq_regs [(79, bv (((((coldS p (1 + u0).toNat es).w).length : Nat) : Int) != (es.length : Nat))), (12, pv 6 0), (11, slV 7 es.length q1), (9, pv 3 0), (8, iv (1 + u0)), (7, pv 2 0)] (by kernel_rfl) ?_
  refine gcond (t := ((((coldS p (1 + u0).toNat es).w).length : Nat) : Int) != (es.length : Nat)) rfl (fun q => by rw [(by first | (simp; done) | (simp [coldS]; done) | (rw [hG.ver (by omega)]; simp; done) | (rw [hG3.len]; simp; split <;> omega) | (rw [hG3.len]; split <;> simp <;> omega) : (((((coldS p (1 + u0).toNat es).w).length : Nat) : Int) != (es.length : Nat)) = false)] at q; cases q) (fun _ => ?_)
  refine gskip ?_
  refine seq_go ?_
  refine gseq ?_
  refine gseq ?_
  refine greg ?_
  refine o_d 1 [(16, iv 0)] (by kernel_rfl) ?_
  refine o_nil ?_
  refine seq_go ?_
  refine gblock ?_
  refine gloop (fun μ s => ∃ (i : Nat), ∃ (x : HS), μ = es.length + 1 - i ∧ (GoI p d (1 + u0).toNat es i x) ∧ s = ⟨reg [(16, iv (i : Int)), (12, pv 6 0), (11, slV 7 es.length q1), (9, pv 3 0), (8, iv (1 + u0)), (7, pv 2 0)], [inB o (ii ns), inB o2 (ii ks), cw (pl p), cw (headL x.p 4 5 x.e x.s), .chan 200 (x.w.map entV), .map (hdM x.hd), cw (pl d), slB zE (entsL es) q1]⟩) ⟨(es.length + 1 - 0), ?_⟩ ?_
  ·skip
   refine ⟨⟨reg [(16, iv (0 : Int)), (12, pv 6 0), (11, slV 7 es.length q1), (9, pv 3 0), (8, iv (1 + u0)), (7, pv 2 0)], [inB o (ii ns), inB o2 (ii ks), cw (pl p), cw (headL (coldS p (1 + u0).toNat es).p 4 5 (coldS p (1 + u0).toNat es).e (coldS p (1 + u0).toNat es).s), .chan 200 ((coldS p (1 + u0).toNat es).w.map entV), .map (hdM (coldS p (1 + u0).toNat es).hd), cw (pl d), slB zE (entsL es) q1]⟩, ?_⟩
   refine ⟨?_, ?_⟩
   ·exact Wk.ren [0, 1, 2, 3, 4, 5, 6, 7] rfl rfl (by decide) ⟨rfl, ⟨rfl, ⟨((renV_slV q1 rfl)).trans rfl, ⟨rfl, ⟨rfl, ⟨rfl, trivial⟩⟩⟩⟩⟩⟩ ⟨.inl (ren_inB o (ii_scl ns)), ⟨.inl (ren_inB o2 (ii_scl ks)), ⟨.inl (ren_cells (pl_scl p)), ⟨.inl (ren_headS rfl rfl), ⟨.inl (congrArg some (ren_entsV _).symm), ⟨.inl (congrArg some (ren_hdM _).symm), ⟨.inl (ren_cells (pl_scl d)), ⟨.inl (ren_slB q1 (fun _ => (entsR_scl _ _))), trivial⟩⟩⟩⟩⟩⟩⟩⟩
   ·exact ⟨0, (coldS p (1 + u0).toNat es), rfl, (goes_start hA hpv (by omega)), rfl⟩
  rintro μ s ⟨i, x, rfl, hG, rfl⟩
  refine gseq ?_
  refine gseq ?_
  refine greg ?_
  refine o_d 2 [(81, slV 7 es.length q1), (80, iv (i : Int))] (by kernel_rfl) ?_
  refine o_s (by exact run_lenSl rfl (fun z => by have h0 := hq z; subst h0; first | rfl | exact hn.symm)) ?_
  refine o_d 1 [(83, bv (decide ((i : Int) ≤ (es.length : Nat))))] (by kernel_rfl) ?_
  refine o_nil ?_
  refine seq_go ?_
  refine gcond (t := decide ((i : Int) ≤ (es.length : Nat))) rfl (fun h8 => ?_) (fun h8 => ?_)
  ·skip
   have h8' : (i : Int) ≤ (es.length : Nat) := of_decide_eq_true h8
   refine gskip ?_
   refine seq_go ?_
   refine gseq ?_
   refine gblock ?_
   refine gseq ?_
   refine gseq ?_
   refine gdregD [inB o (ii ns), inB o2 (ii ks), cw (pl p), cw (headL x.p 4 5 x.e x.s), .chan 200 (x.w.map entV), .map (hdM x.hd), cw (pl d), slB zE (entsL es) q1] (by kernel_rfl) ?_
   refine d_n 1 1 8 [(86, pv 3 0)] [inB o (ii ns), inB o2 (ii ks), cw (pl p), cw (headL x.p 4 5 x.e x.s), .chan 200 (x.w.map entV), .map (hdM x.hd), cw (pl d), slB zE (entsL es) q1] [] (by kernel_rfl) rfl rfl ?_
   refine d_clG [3, 4, 5] [cr (headL x.p 1 2 x.e x.s), .chan 200 (x.w.map entV), .map (hdM x.hd)] [pv 0 0] (HVersionC h_head_Head_Version x.p x.w x.hd x.e x.s) rfl rfl ⟨⟨_, rfl, seen_head rfl rfl (fun q => rfl)⟩, ⟨⟨_, rfl, seen_ents _⟩, ⟨⟨_, rfl, seen_hdM _⟩, trivial⟩⟩⟩ (by decide) ⟨_, _, ⟨rfl, rfl⟩, Nat.le_add_right 3 0, flags_app [_, _, _] []⟩ ?_ (by kernel_rfl)
   rintro v1 h1' ⟨rfl, rfl⟩
   refine ⟨iv (x.p 0), [inB o (ii ns), inB o2 (ii ks), cw (pl p), cw (headL x.p 4 5 x.e x.s), .chan 200 (x.w.map entV), .map (hdM x.hd), cw (pl d), slB zE (entsL es) q1], [], rfl, ⟨rfl, ⟨rfl, ⟨rfl, ⟨rfl, ⟨ren_entsV _, ⟨ren_hdM _, ⟨rfl, ⟨rfl, trivial⟩⟩⟩⟩⟩⟩⟩⟩, trivial, ?_⟩
   refine d_n 1 3 8 [(88, pv 2 0)] [inB o (ii ns), inB o2 (ii ks), cw (pl p), cw (headL x.p 4 5 x.e x.s), .chan 200 (x.w.map entV), .map (hdM x.hd), cw (pl d), slB zE (entsL es) q1] [⟨1, [3, 4, 5], [4, 5], some 8⟩] (by kernel_rfl) rfl rfl ?_
   refine d_s rfl rfl rfl (by kernel_rfl) (by refine run_ld (v := iv (p 0)) rfl rfl ?_; exact pl_r p 0 rfl (by omega)) ?_
   refine d_n 1 5 8 [(90, iv (i : Int))] [inB o (ii ns), inB o2 (ii ks), cw (pl p), cw (headL x.p 4 5 x.e x.s), .chan 200 (x.w.map entV), .map (hdM x.hd), cw (pl d), slB zE (entsL es) q1] [⟨3, [2], [], none⟩, ⟨1, [3, 4, 5], [4, 5], some 8⟩] (by kernel_rfl) rfl rfl ?_
   refine d_s rfl rfl rfl (by kernel_rfl) (by refine run_val (v := .int .i64 (IntKind.i64.wrap (p 0 + (i : Int)))) (congrArg (Value.int .i64) (w64 (by omega) (by omega))) ?_; kernel_rfl) ?_
   refine d_n 1 7 8 [(92, bv ((x.p 0) != (p 0 + (i : Int))))] [inB o (ii ns), inB o2 (ii ks), cw (pl p), cw (headL x.p 4 5 x.e x.s), .chan 200 (x.w.map entV), .map (hdM x.hd), cw (pl d), slB zE (entsL es) q1] [⟨3, [2], [], none⟩, ⟨1, [3, 4, 5], [4, 5], some 8⟩] (by kernel_rfl) rfl rfl ?_
   refine d_nil ?_
   refine seq_go ?_
   refine gcond (t := (x.p 0) != (p 0 + (i : Int))) rfl (fun q => by rw [(by first | (simp; done) | (simp [coldS]; done) | (rw [hG.ver (by omega)]; simp; done) | (rw [hG3.len]; simp; split <;> omega) | (rw [hG3.len]; split <;> simp <;> omega) : ((x.p 0) != (p 0 + (i : Int))) = false)] at q; cases q) (fun _ => ?_)
   refine gskip ?_
   refine seq_go ?_
   refine gseq ?_
   refine gseq ?_
   refine greg ?_
   refine o_d 1 [(17, iv 0)] (by kernel_rfl) ?_
   refine o_nil ?_
   refine seq_go ?_
   refine gblock ?_
   refine gloop (fun μ s => ∃ (k : Nat), ∃ (hd2 : List (Int × Int)), μ = (1 + u0).toNat - k ∧ (k ≤ (1 + u0).toNat) ∧ (GoK (1 + u0).toNat x k hd2) ∧ s = ⟨reg [(17, iv (k : Int)), (16, iv (i : Int)), (12, pv 6 0), (11, slV 7 es.length q1), (9, pv 3 0), (8, iv (1 + u0)), (7, pv 2 0)], [inB o (ii ns), inB o2 (ii ks), cw (pl p), cw (headL ((HS.mk x.p x.w hd2 x.e x.s).p) 4 5 ((HS.mk x.p x.w hd2 x.e x.s).e) ((HS.mk x.p x.w hd2 x.e x.s).s)), .chan 200 (((HS.mk x.p x.w hd2 x.e x.s).w).map entV), .map (hdM ((HS.mk x.p x.w hd2 x.e x.s).hd)), cw (pl d), slB zE (entsL es) q1]⟩) ⟨((1 + u0).toNat - 0), ?_⟩ ?_
   ·skip
    refine ⟨⟨reg [(17, iv (0 : Int)), (16, iv (i : Int)), (12, pv 6 0), (11, slV 7 es.length q1), (9, pv 3 0), (8, iv (1 + u0)), (7, pv 2 0)], [inB o (ii ns), inB o2 (ii ks), cw (pl p), cw (headL ((HS.mk x.p x.w x.hd x.e x.s).p) 4 5 ((HS.mk x.p x.w x.hd x.e x.s).e) ((HS.mk x.p x.w x.hd x.e x.s).s)), .chan 200 (((HS.mk x.p x.w x.hd x.e x.s).w).map entV), .map (hdM ((HS.mk x.p x.w x.hd x.e x.s).hd)), cw (pl d), slB zE (entsL es) q1]⟩, ?_⟩
    refine ⟨?_, ?_⟩
    ·exact Wk.ren [0, 1, 2, 3, 4, 5, 6, 7] rfl rfl (by decide) ⟨rfl, ⟨rfl, ⟨rfl, ⟨((renV_slV q1 rfl)).trans rfl, ⟨rfl, ⟨rfl, ⟨rfl, trivial⟩⟩⟩⟩⟩⟩⟩ ⟨.inl (ren_inB o (ii_scl ns)), ⟨.inl (ren_inB o2 (ii_scl ks)), ⟨.inl (ren_cells (pl_scl p)), ⟨.inl (ren_headS rfl rfl), ⟨.inl (congrArg some (ren_entsV _).symm), ⟨.inl (congrArg some (ren_hdM _).symm), ⟨.inl (ren_cells (pl_scl d)), ⟨.inl (ren_slB q1 (fun _ => (entsR_scl _ _))), trivial⟩⟩⟩⟩⟩⟩⟩⟩
    ·exact ⟨0, x.hd, rfl, (Nat.zero_le _), hG.toK, rfl⟩
   rintro μ s ⟨k, hd2, rfl, hk, hG2, rfl⟩
   refine gseq ?_
   refine gseq ?_
   refine greg ?_
   refine o_d 3 [(95, bv (decide ((k : Int) < 1 + u0))), (94, iv (1 + u0)), (93, iv (k : Int))] (by kernel_rfl) ?_
   refine o_nil ?_
   refine seq_go ?_
   refine gcond (t := decide ((k : Int) < 1 + u0)) rfl (fun h9 => ?_) (fun h9 => ?_)
   ·skip
    have h9' : (k : Int) < 1 + u0 := of_decide_eq_true h9
    refine gskip ?_
    refine seq_go ?_
    refine gseq ?_
    refine gblock ?_
    refine greg ?_
    refine o_d 3 [(100, pv 3 0), (99, iv (k : Int)), (98, pv 3 0)] (by kernel_rfl) ?_
    refine o_cl (callG [3, 4, 5] [cr (headL ((HS.mk x.p x.w hd2 x.e x.s).p) 1 2 ((HS.mk x.p x.w hd2 x.e x.s).e) ((HS.mk x.p x.w hd2 x.e x.s).s)), .chan 200 (((HS.mk x.p x.w hd2 x.e x.s).w).map entV), .map (hdM ((HS.mk x.p x.w hd2 x.e x.s).hd))] [pv 0 0] (HVersionC h_head_Head_Version ((HS.mk x.p x.w hd2 x.e x.s).p) ((HS.mk x.p x.w hd2 x.e x.s).w) ((HS.mk x.p x.w hd2 x.e x.s).hd) ((HS.mk x.p x.w hd2 x.e x.s).e) ((HS.mk x.p x.w hd2 x.e x.s).s)) rfl rfl ⟨⟨_, rfl, seen_head rfl rfl (fun q => rfl)⟩, ⟨⟨_, rfl, seen_ents _⟩, ⟨⟨_, rfl, seen_hdM _⟩, trivial⟩⟩⟩ (by decide) ?_)
    rintro v1 h1' ⟨rfl, rfl⟩
    refine ⟨iv (((HS.mk x.p x.w hd2 x.e x.s).p) 0), [inB o (ii ns), inB o2 (ii ks), cw (pl p), cw (headL ((HS.mk x.p x.w hd2 x.e x.s).p) 4 5 ((HS.mk x.p x.w hd2 x.e x.s).e) ((HS.mk x.p x.w hd2 x.e x.s).s)), .chan 200 (((HS.mk x.p x.w hd2 x.e x.s).w).map entV), .map (hdM ((HS.mk x.p x.w hd2 x.e x.s).hd)), cw (pl d), slB zE (entsL es) q1], [], rfl, ⟨rfl, ⟨rfl, ⟨rfl, ⟨rfl, ⟨ren_entsV _, ⟨ren_hdM _, ⟨rfl, ⟨rfl, trivial⟩⟩⟩⟩⟩⟩⟩⟩, trivial, ?_⟩
    refine o_s (by refine run_bld (c := ntF (k : Int) 0 (((HS.mk x.p x.w hd2 x.e x.s).p) 0) false true e0 zeroP) ?_; exact bld_nt rfl) ?_
    refine o_cl (callG [3, 4, 5] [cw (headL ((HS.mk x.p x.w hd2 x.e x.s).p) 1 2 ((HS.mk x.p x.w hd2 x.e x.s).e) ((HS.mk x.p x.w hd2 x.e x.s).s)), .chan 200 (((HS.mk x.p x.w hd2 x.e x.s).w).map entV), .map (hdM ((HS.mk x.p x.w hd2 x.e x.s).hd))] [pv 0 0, ntV (k : Int) 0 (((HS.mk x.p x.w hd2 x.e x.s).p) 0) false true e0 zeroP] (HheardC h_head_Head_Heard ((HS.mk x.p x.w hd2 x.e x.s).p) ((HS.mk x.p x.w hd2 x.e x.s).w) ((HS.mk x.p x.w hd2 x.e x.s).hd) ((HS.mk x.p x.w hd2 x.e x.s).e) ((HS.mk x.p x.w hd2 x.e x.s).s) (k : Int) 0 (((HS.mk x.p x.w hd2 x.e x.s).p) 0) false true e0 zeroP) rfl (cons_eq rfl (cons_eq (renV_vpf (ntV_vpf (k : Int) 0 (((HS.mk x.p x.w hd2 x.e x.s).p) 0) false true e0 zeroP)) rfl)) ⟨⟨_, rfl, seen_head rfl rfl (fun q => rfl)⟩, ⟨⟨_, rfl, seen_ents _⟩, ⟨⟨_, rfl, seen_hdM _⟩, trivial⟩⟩⟩ (by decide) ?_)
    rintro v1 h1' ⟨rfl, rfl⟩
    refine ⟨.tuple #[], [inB o (ii ns), inB o2 (ii ks), cw (pl p), cw (headL ((HS.mk x.p x.w (heardS hd2 (Nt.mk (k : Int) 0 (((HS.mk x.p x.w hd2 x.e x.s).p) 0) false true e0 zeroP)) x.e x.s).p) 4 5 ((HS.mk x.p x.w (heardS hd2 (Nt.mk (k : Int) 0 (((HS.mk x.p x.w hd2 x.e x.s).p) 0) false true e0 zeroP)) x.e x.s).e) ((HS.mk x.p x.w (heardS hd2 (Nt.mk (k : Int) 0 (((HS.mk x.p x.w hd2 x.e x.s).p) 0) false true e0 zeroP)) x.e x.s).s)), .chan 200 (((HS.mk x.p x.w (heardS hd2 (Nt.mk (k : Int) 0 (((HS.mk x.p x.w hd2 x.e x.s).p) 0) false true e0 zeroP)) x.e x.s).w).map entV), .map (hdM ((HS.mk x.p x.w (heardS hd2 (Nt.mk (k : Int) 0 (((HS.mk x.p x.w hd2 x.e x.s).p) 0) false true e0 zeroP)) x.e x.s).hd)), cw (pl d), slB zE (entsL es) q1], [], (by simp [renV]), ⟨rfl, ⟨rfl, ⟨rfl, ⟨ren_headL rfl rfl, ⟨ren_entsV _, ⟨ren_hdM _, ⟨rfl, ⟨rfl, trivial⟩⟩⟩⟩⟩⟩⟩⟩, trivial, ?_⟩
    refine o_nil ?_
    refine seq_go ?_
    refine greg ?_
    refine o_d 1 [(96, iv (k : Int))] (by kernel_rfl) ?_
    refine o_s (by refine run_val (v := .int .i64 (IntKind.i64.wrap ((k : Int) + 1))) (congrArg (Value.int .i64) (w64 (by omega) (by omega))) ?_; kernel_rfl) ?_
    refine o_d 1 [(17, iv ((k : Int) + 1))] (by kernel_rfl) ?_
    refine o_nil ?_
    refine ⟨(1 + u0).toNat - (k + 1), ?_⟩
    refine ⟨⟨reg [(17, iv ((k + 1) : Int)), (16, iv (i : Int)), (12, pv 6 0), (11, slV 7 es.length q1), (9, pv 3 0), (8, iv (1 + u0)), (7, pv 2 0)], [inB o (ii ns), inB o2 (ii ks), cw (pl p), cw (headL ((HS.mk x.p x.w (heardS hd2 (Nt.mk (k : Int) 0 (((HS.mk x.p x.w hd2 x.e x.s).p) 0) false true e0 zeroP)) x.e x.s).p) 4 5 ((HS.mk x.p x.w (heardS hd2 (Nt.mk (k : Int) 0 (((HS.mk x.p x.w hd2 x.e x.s).p) 0) false true e0 zeroP)) x.e x.s).e) ((HS.mk x.p x.w (heardS hd2 (Nt.mk (k : Int) 0 (((HS.mk x.p x.w hd2 x.e x.s).p) 0) false true e0 zeroP)) x.e x.s).s)), .chan 200 (((HS.mk x.p x.w (heardS hd2 (Nt.mk (k : Int) 0 (((HS.mk x.p x.w hd2 x.e x.s).p) 0) false true e0 zeroP)) x.e x.s).w).map entV), .map (hdM ((HS.mk x.p x.w (heardS hd2 (Nt.mk (k : Int) 0 (((HS.mk x.p x.w hd2 x.e x.s).p) 0) false true e0 zeroP)) x.e x.s).hd)), cw (pl d), slB zE (entsL es) q1]⟩, ?_⟩
    refine and3 (by omega) ⟨?_, ?_⟩
    ·exact Wk.ren [0, 1, 2, 3, 4, 5, 6, 7] rfl rfl (by decide) ⟨rfl, ⟨rfl, ⟨rfl, ⟨((renV_slV q1 rfl)).trans rfl, ⟨rfl, ⟨rfl, ⟨rfl, trivial⟩⟩⟩⟩⟩⟩⟩ ⟨.inl (ren_inB o (ii_scl ns)), ⟨.inl (ren_inB o2 (ii_scl ks)), ⟨.inl (ren_cells (pl_scl p)), ⟨.inl (ren_headS rfl rfl), ⟨.inl (congrArg some (ren_entsV _).symm), ⟨.inl (congrArg some (ren_hdM _).symm), ⟨.inl (ren_cells (pl_scl d)), ⟨.inl (ren_slB q1 (fun _ => (entsR_scl _ _))), trivial⟩⟩⟩⟩⟩⟩⟩⟩
    ·exact ⟨(k + 1), (heardS hd2 (Nt.mk (k : Int) 0 (((HS.mk x.p x.w hd2 x.e x.s).p) 0) false true e0 zeroP)), rfl, by omega, (goes_hear hG2 (by omega) (by have := hG.ver (by omega); omega)), rfl⟩
   have h9' : ¬ ((k : Int) < 1 + u0) := of_decide_eq_false h9
   refine gexit ?_
   refine seq_go ?_
   refine gseq ?_
   refine greg ?_
   refine o_d 1 [(104, pv 3 0)] (by kernel_rfl) ?_
   refine o_cl (callG [3, 4, 5] [cw (headL ((HS.mk x.p x.w hd2 x.e x.s).p) 1 2 ((HS.mk x.p x.w hd2 x.e x.s).e) ((HS.mk x.p x.w hd2 x.e x.s).s)), .chan 200 (((HS.mk x.p x.w hd2 x.e x.s).w).map entV), .map (hdM ((HS.mk x.p x.w hd2 x.e x.s).hd))] [pv 0 0] (HsendC h_head_Head_Send h_head_Head_all h_head_Head_publish h_pool_Apply h_pool_may h_pool_held h_pool_fits h_pool_Check h_pool_placed h_cookie_Next ((HS.mk x.p x.w hd2 x.e x.s).p) ((HS.mk x.p x.w hd2 x.e x.s).w) ((HS.mk x.p x.w hd2 x.e x.s).hd) ((HS.mk x.p x.w hd2 x.e x.s).e) ((HS.mk x.p x.w hd2 x.e x.s).s) ((goes_ok hG hG2 hes12)).hd) rfl rfl ⟨⟨_, rfl, seen_head rfl rfl (fun q => rfl)⟩, ⟨⟨_, rfl, seen_ents _⟩, ⟨⟨_, rfl, seen_hdM _⟩, trivial⟩⟩⟩ (by decide) ?_)
   rintro v1 h1' ⟨q10, hq11, rfl, rfl⟩
   refine ⟨slV 8 ((sendS (HS.mk x.p x.w hd2 x.e x.s)).2.length) q10, [inB o (ii ns), inB o2 (ii ks), cw (pl p), cw (headL ((sendS (HS.mk x.p x.w hd2 x.e x.s)).1.p) 4 5 ((sendS (HS.mk x.p x.w hd2 x.e x.s)).1.e) ((sendS (HS.mk x.p x.w hd2 x.e x.s)).1.s)), .chan 200 (((sendS (HS.mk x.p x.w hd2 x.e x.s)).1.w).map entV), .map (hdM ((sendS (HS.mk x.p x.w hd2 x.e x.s)).1.hd)), cw (pl d), slB zE (entsL es) q1], [slB zNt (ntsL ((sendS (HS.mk x.p x.w hd2 x.e x.s)).2)) q10], (renV_slV q10 rfl), ⟨rfl, ⟨rfl, ⟨rfl, ⟨ren_headL rfl rfl, ⟨ren_entsV _, ⟨(ren_hdM2 (sendS_hd _)), ⟨rfl, ⟨rfl, trivial⟩⟩⟩⟩⟩⟩⟩⟩, ⟨(Option.some.inj (ren_slB q10 (fun _ => (ntsR_scl _ _)))).symm, trivial⟩, ?_⟩
   have ok_y12 := (ok_send (goes_ok hG hG2 hes12))
   generalize hd_y12 : (sendS (HS.mk x.p x.w hd2 x.e x.s)) = y12 at ok_y12 hq11 ⊢
   have hG3 := goes_send hG hG2 hpv (by omega) (by omega) (by omega) hes12
   rw [hd_y12] at hG3
   refine o_nil ?_
   refine seq_go ?_
   refine gseq ?_
   refine greg ?_
   refine o_d 1 [(106, pv 3 0)] (by kernel_rfl) ?_
   refine o_cl (callG [3, 4, 5] [cr (headL y12.1.p 1 2 y12.1.e y12.1.s), .chan 200 (y12.1.w.map entV), .map (hdM y12.1.hd)] [pv 0 0] (HWaitingC h_head_Head_Waiting y12.1.p y12.1.w y12.1.hd y12.1.e y12.1.s) rfl rfl ⟨⟨_, rfl, seen_head rfl rfl (fun q => rfl)⟩, ⟨⟨_, rfl, seen_ents _⟩, ⟨⟨_, rfl, seen_hdM _⟩, trivial⟩⟩⟩ (by decide) ?_)
   rintro v1 h1' ⟨rfl, rfl⟩
   refine ⟨iv (y12.1.w.length : Nat), [inB o (ii ns), inB o2 (ii ks), cw (pl p), cw (headL y12.1.p 4 5 y12.1.e y12.1.s), .chan 200 (y12.1.w.map entV), .map (hdM y12.1.hd), cw (pl d), slB zE (entsL es) q1, slB zNt (ntsL y12.2) q10], [], rfl, ⟨rfl, ⟨rfl, ⟨rfl, ⟨rfl, ⟨ren_entsV _, ⟨ren_hdM _, ⟨rfl, ⟨rfl, ⟨rfl, trivial⟩⟩⟩⟩⟩⟩⟩⟩⟩, trivial, ?_⟩
   refine o_d 1 [(108, slV 7 es.length q1)] (by kernel_rfl) ?_
   refine o_s (by exact run_lenSl rfl (fun z => by have h0 := hq z; subst h0; first | rfl | exact hn.symm)) ?_
   refine o_d 1 [(110, iv (i : Int))] (by kernel_rfl) ?_
   refine o_s (by refine run_val (v := .int .i64 (IntKind.i64.wrap ((es.length : Nat) - (i : Int)))) (congrArg (Value.int .i64) (w64 (by omega) (by omega))) ?_; kernel_rfl) ?_
   refine o_s (by refine run_val (v := .int .i64 (IntKind.i64.wrap ((es.length : Nat) - (i : Int) - 1))) (congrArg (Value.int .i64) (w64 (by omega) (by omega))) ?_; kernel_rfl) ?_
   refine o_d 2 [(114, bv (((y12.1.w.length : Nat) : Int) != (if 0 > (es.length : Nat) - (i : Int) - 1 then 0 else (es.length : Nat) - (i : Int) - 1))), (113, iv (if 0 > (es.length : Nat) - (i : Int) - 1 then 0 else (es.length : Nat) - (i : Int) - 1))] (by kernel_rfl) ?_
   refine o_nil ?_
   refine seq_go ?_
   refine gcond (t := ((y12.1.w.length : Nat) : Int) != (if 0 > (es.length : Nat) - (i : Int) - 1 then 0 else (es.length : Nat) - (i : Int) - 1)) rfl (fun q => by rw [(by first | (simp; done) | (simp [coldS]; done) | (rw [hG.ver (by omega)]; simp; done) | (rw [hG3.len]; simp; split <;> omega) | (rw [hG3.len]; split <;> simp <;> omega) : (((y12.1.w.length : Nat) : Int) != (if 0 > (es.length : Nat) - (i : Int) - 1 then 0 else (es.length : Nat) - (i : Int) - 1)) = false)] at q; cases q) (fun _ => ?_)
   refine gskip ?_
   refine seq_go ?_
   refine greg ?_
   refine o_d 1 [(84, iv (i : Int))] (by kernel_rfl) ?_
   refine o_s (by refine run_val (v := .int .i64 (IntKind.i64.wrap ((i : Int) + 1))) (congrArg (Value.int .i64) (w64 (by omega) (by omega))) ?_; kernel_rfl) ?_
   refine o_d 1 [(16, iv ((i : Int) + 1))] (by kernel_rfl) ?_
   refine o_nil ?_
   refine ⟨es.length + 1 - (i + 1), ?_⟩
   refine ⟨⟨reg [(16, iv ((i + 1) : Int)), (12, pv 6 0), (11, slV 7 es.length q1), (9, pv 3 0), (8, iv (1 + u0)), (7, pv 2 0)], [inB o (ii ns), inB o2 (ii ks), cw (pl p), cw (headL y12.1.p 4 5 y12.1.e y12.1.s), .chan 200 (y12.1.w.map entV), .map (hdM y12.1.hd), cw (pl d), slB zE (entsL es) q1]⟩, ?_⟩
   refine and3 (by omega) ⟨?_, ?_⟩
   ·exact Wk.ren [0, 1, 2, 3, 4, 5, 6, 7] rfl rfl (by decide) ⟨rfl, ⟨rfl, ⟨((renV_slV q1 rfl)).trans rfl, ⟨rfl, ⟨rfl, ⟨rfl, trivial⟩⟩⟩⟩⟩⟩ ⟨.inl (ren_inB o (ii_scl ns)), ⟨.inl (ren_inB o2 (ii_scl ks)), ⟨.inl (ren_cells (pl_scl p)), ⟨.inl (ren_headS rfl rfl), ⟨.inl (congrArg some (ren_entsV _).symm), ⟨.inl (congrArg some (ren_hdM _).symm), ⟨.inl (ren_cells (pl_scl d)), ⟨.inl (ren_slB q1 (fun _ => (entsR_scl _ _))), trivial⟩⟩⟩⟩⟩⟩⟩⟩
   ·exact ⟨(i + 1), y12.1, rfl, hG3.go, rfl⟩
  have h8' : ¬ ((i : Int) ≤ (es.length : Nat)) := of_decide_eq_false h8
  refine gexit ?_
  refine seq_go ?_
  refine gseq ?_
  refine gdregD [inB o (ii ns), inB o2 (ii ks), cw (pl p), cw (headL x.p 4 5 x.e x.s), .chan 200 (x.w.map entV), .map (hdM x.hd), cw (pl d), slB zE (entsL es) q1] (by kernel_rfl) ?_
  refine d_n 1 1 8 [(115, pv 3 0)] [inB o (ii ns), inB o2 (ii ks), cw (pl p), cw (headL x.p 4 5 x.e x.s), .chan 200 (x.w.map entV), .map (hdM x.hd), cw (pl d), slB zE (entsL es) q1] [] (by kernel_rfl) rfl rfl ?_
  refine d_clG [3, 4, 5] [cr (headL x.p 1 2 x.e x.s), .chan 200 (x.w.map entV), .map (hdM x.hd)] [pv 0 0] (HPoolC h_head_Head_Pool x.p x.w x.hd x.e x.s) rfl rfl ⟨⟨_, rfl, seen_head rfl rfl (fun q => rfl)⟩, ⟨⟨_, rfl, seen_ents _⟩, ⟨⟨_, rfl, seen_hdM _⟩, trivial⟩⟩⟩ (by decide) ⟨_, _, ⟨rfl, rfl⟩, Nat.le_add_right 3 1, flags_app [_, _, _] [_]⟩ ?_ (by kernel_rfl)
  rintro v1 h1' ⟨rfl, rfl⟩
  refine ⟨poolV x.p, [inB o (ii ns), inB o2 (ii ks), cw (pl p), cw (headL x.p 4 5 x.e x.s), .chan 200 (x.w.map entV), .map (hdM x.hd), cw (pl d), slB zE (entsL es) q1], [cw (pl x.p)], (renV_vpf (poolV_vpf x.p)), ⟨rfl, ⟨rfl, ⟨rfl, ⟨rfl, ⟨ren_entsV _, ⟨ren_hdM _, ⟨rfl, ⟨rfl, trivial⟩⟩⟩⟩⟩⟩⟩⟩, ⟨(Option.some.inj (ren_cells (pl_scl x.p))).symm, trivial⟩, ?_⟩
  refine d_s rfl rfl rfl (by kernel_rfl) (by refine run_ld (v := poolV d) rfl rfl ?_; exact pl_all d) ?_
  refine d_s rfl rfl rfl (by kernel_rfl) (by refine run_eqa (a := ⟨pl x.p⟩) (b := ⟨pl d⟩) (r := eqP x.p d) (R := eqP x.p d) ?_ rfl; exact eqP_run x.p d rfl rfl) ?_
  refine d_n 1 5 8 [(119, bv (eqP x.p d))] [inB o (ii ns), inB o2 (ii ks), cw (pl p), cw (headL x.p 4 5 x.e x.s), .chan 200 (x.w.map entV), .map (hdM x.hd), cw (pl d), slB zE (entsL es) q1, cw (pl x.p)] [⟨2, [6], [], none⟩, ⟨1, [3, 4, 5], [4, 5], some 8⟩] (by kernel_rfl) rfl rfl ?_
  refine d_sp (b := eqP x.p d) 119 rfl (fun k13 => ?_) (fun q => by rw [(by rw [goes_end hG (by omega)]; first | exact eqP_self _ | simp : (eqP x.p d) = true)] at q; cases q)
  refine d_n 1 6 8 [(120, pv 3 0)] [inB o (ii ns), inB o2 (ii ks), cw (pl p), cw (headL x.p 4 5 x.e x.s), .chan 200 (x.w.map entV), .map (hdM x.hd), cw (pl d), slB zE (entsL es) q1, cw (pl x.p)] [⟨2, [6], [], none⟩, ⟨1, [3, 4, 5], [4, 5], some 8⟩] (by kernel_rfl) rfl rfl ?_
  refine d_unguard rfl ?_
  refine d_clG [3, 4, 5] [cr (headL x.p 1 2 x.e x.s), .chan 200 (x.w.map entV), .map (hdM x.hd)] [pv 0 0] (HVersionC h_head_Head_Version x.p x.w x.hd x.e x.s) rfl rfl ⟨⟨_, rfl, seen_head rfl rfl (fun q => rfl)⟩, ⟨⟨_, rfl, seen_ents _⟩, ⟨⟨_, rfl, seen_hdM _⟩, trivial⟩⟩⟩ (by decide) ⟨_, _, ⟨rfl, rfl⟩, Nat.le_add_right 3 0, flags_app [_, _, _] []⟩ ?_ (by kernel_rfl)
  rintro v1 h1' ⟨rfl, rfl⟩
  refine ⟨iv (x.p 0), [inB o (ii ns), inB o2 (ii ks), cw (pl p), cw (headL x.p 4 5 x.e x.s), .chan 200 (x.w.map entV), .map (hdM x.hd), cw (pl d), slB zE (entsL es) q1, cw (pl x.p)], [], rfl, ⟨rfl, ⟨rfl, ⟨rfl, ⟨rfl, ⟨ren_entsV _, ⟨ren_hdM _, ⟨rfl, ⟨rfl, ⟨rfl, trivial⟩⟩⟩⟩⟩⟩⟩⟩⟩, trivial, ?_⟩
  refine d_n 1 8 8 [(122, pv 6 0)] [inB o (ii ns), inB o2 (ii ks), cw (pl p), cw (headL x.p 4 5 x.e x.s), .chan 200 (x.w.map entV), .map (hdM x.hd), cw (pl d), slB zE (entsL es) q1, cw (pl x.p)] [⟨6, [3, 4, 5], [4, 5], some 9⟩, ⟨2, [6], [], none⟩, ⟨1, [3, 4, 5], [4, 5], some 8⟩] (by kernel_rfl) rfl rfl ?_
  refine d_unguard rfl ?_
  refine d_s rfl rfl rfl (by kernel_rfl) (by refine run_ld (v := iv (d 0)) rfl rfl ?_; exact pl_r d 0 rfl (by omega)) ?_
  refine d_n 3 12 8 [(6, bv ((x.p 0) == (d 0))), (125, bv ((x.p 0) == (d 0))), (124, bv ((x.p 0) == (d 0)))] [inB o (ii ns), inB o2 (ii ks), cw (pl p), cw (headL x.p 4 5 x.e x.s), .chan 200 (x.w.map entV), .map (hdM x.hd), cw (pl d), slB zE (entsL es) q1, cw (pl x.p)] [⟨8, [6], [], none⟩, ⟨6, [3, 4, 5], [4, 5], some 9⟩, ⟨2, [6], [], none⟩, ⟨1, [3, 4, 5], [4, 5], some 8⟩] (by kernel_rfl) rfl rfl ?_
  refine d_nil ?_
  refine seq_regs [(6, bv ((x.p 0) == (d 0)))] (by kernel_rfl) ?_
  refine gret ?_
  have E0_ : ((x.p 0) == (d 0)) = true := by
   rw [goes_end hG (by omega)]; simp
  exact fin_ans [bv ((x.p 0) == (d 0))] (resV_t rfl rfl) rfl (by rw [E0_]; rfl) rfl (show List.all [inB o (ii ns), inB o2 (ii ks)] blkf = true from (all_cons (inB_gone _ (ii_scl ns)) (all_cons (inB_gone _ (ii_scl ks)) rfl)))
 have h2' : ¬ ((i : Int) < (ks.length : Nat)) := of_decide_eq_false h2
 subst hn
 have hes12 : es.length ≤ 12 := by omega
 refine o_d 3 [(45, bv false), (44, undef), (43, undef)] (by kernel_rfl) ?_
 refine o_nil ?_
 refine seq_go ?_
 refine gfalse rfl ?_
 refine gexit ?_
 refine seq_go ?_
 refine gseq ?_
 refine gseq ?_
 refine greg ?_
 refine o_d 2 [(70, slV 7 es.length q1), (69, pv 3 0)] (by kernel_rfl) ?_
 refine o_cl (callN [3, 4, 5, 7] [cw (headL ((coldS p (1 + u0).toNat []).p) 1 2 ((coldS p (1 + u0).toNat []).e) ((coldS p (1 + u0).toNat []).s)), .chan 200 (((coldS p (1 + u0).toNat []).w).map entV), .map (hdM ((coldS p (1 + u0).toNat []).hd)), slB zE (entsL es) q1] [pv 0 0, slV 3 es.length q1] (HWishC h_head_Head_Wish h_head_Head_waiting h_pool_All h_pool_Apply h_pool_may h_pool_held h_pool_fits h_pool_Check h_pool_placed h_cookie_Next ((coldS p (1 + u0).toNat []).p) ((coldS p (1 + u0).toNat []).w) ((coldS p (1 + u0).toNat []).hd) ((coldS p (1 + u0).toNat []).e) ((coldS p (1 + u0).toNat []).s) es q1 ((show HOK (coldS p (1 + u0).toNat []) from ok_cold p)).w hq (by omega)) rfl (cons_eq rfl (cons_eq (renV_slV q1 rfl) rfl)) ⟨⟨_, rfl, .inl (seen_head rfl rfl (fun q => q))⟩, ⟨_, rfl, .inl (seen_ents _)⟩, ⟨_, rfl, .inl (seen_hdM _)⟩, ⟨_, rfl, sees_slB q1 (fun _ => entsR_scl _ _)⟩, trivial⟩ (by decide) ?_)
 rintro v1 h1' ⟨rfl, rfl⟩
 refine ⟨(gone_cons (fun q => by cases q) (gone_cons (fun q => by cases q) (gone_cons (fun q => by cases q) (gone_cons (fun q => q) gone_nil)))), iv (wishS (coldS p (1 + u0).toNat []) es).1, [inB o (ii ns), inB o2 (ii ks), cw (pl p), cw (headL ((wisS (coldS p (1 + u0).toNat []) es).p) 4 5 ((wisS (coldS p (1 + u0).toNat []) es).e) ((wisS (coldS p (1 + u0).toNat []) es).s)), .chan 200 (((wisS (coldS p (1 + u0).toNat []) es).w).map entV), .map (hdM ((wisS (coldS p (1 + u0).toNat []) es).hd)), cw (pl d), slB zE (entsL es) q1], [], rfl, ⟨rfl, ⟨rfl, ⟨rfl, ⟨ren_headL rfl rfl, ⟨ren_entsV _, ⟨ren_hdM _, ⟨rfl, ⟨(by rcases q1 with _ | m9 <;> first | rfl | exact renB_cells (entsR_scl _ _)), trivial⟩⟩⟩⟩⟩⟩⟩⟩, trivial, ?_⟩
 rw [show iv (wishS (coldS p (1 + u0).toNat []) es).1 = iv 0 from congrArg (fun z : Int × HS => iv z.1) (goes_wish hA (by omega))]
 have ok_y14 := (ok_wis (show HOK (coldS p (1 + u0).toNat []) from ok_cold p) es)
 generalize hd_y14 : (wisS (coldS p (1 + u0).toNat []) es) = y14 at ok_y14 ⊢
 have hy_y14 : y14 = coldS p (1 + u0).toNat es := by rw [← hd_y14]; unfold wisS; rw [goes_wish hA (by omega)]; rfl
 subst hy_y14
 refine o_d 3 [(74, pv 3 0), (73, bv false), (72, bv false)] (by kernel_rfl) ?_
 refine o_unguard rfl ?_
 refine o_cl (callG [3, 4, 5] [cr (headL ((coldS p (1 + u0).toNat es).p) 1 2 ((coldS p (1 + u0).toNat es).e) ((coldS p (1 + u0).toNat es).s)), .chan 200 (((coldS p (1 + u0).toNat es).w).map entV), .map (hdM ((coldS p (1 + u0).toNat es).hd))] [pv 0 0] (HWaitingC h_head_Head_Waiting ((coldS p (1 + u0).toNat es).p) ((coldS p (1 + u0).toNat es).w) ((coldS p (1 + u0).toNat es).hd) ((coldS p (1 + u0).toNat es).e) ((coldS p (1 + u0).toNat es).s)) rfl rfl ⟨⟨_, rfl, seen_head rfl rfl (fun q => rfl)⟩, ⟨⟨_, rfl, seen_ents _⟩, ⟨⟨_, rfl, seen_hdM _⟩, trivial⟩⟩⟩ (by decide) ?_)
 rintro v1 h1' ⟨rfl, rfl⟩
 refine ⟨iv (((coldS p (1 + u0).toNat es).w).length : Nat), [inB o (ii ns), inB o2 (ii ks), cw (pl p), cw (headL ((coldS p (1 + u0).toNat es).p) 4 5 ((coldS p (1 + u0).toNat es).e) ((coldS p (1 + u0).toNat es).s)), .chan 200 (((coldS p (1 + u0).toNat es).w).map entV), .map (hdM ((coldS p (1 + u0).toNat es).hd)), cw (pl d), slB zE (entsL es) q1], [], rfl, ⟨rfl, ⟨rfl, ⟨rfl, ⟨rfl, ⟨ren_entsV _, ⟨ren_hdM _, ⟨rfl, ⟨rfl, trivial⟩⟩⟩⟩⟩⟩⟩⟩, trivial, ?_⟩
 refine o_d 1 [(76, slV 7 es.length q1)] (by kernel_rfl) ?_
 refine o_unguard rfl ?_
 refine o_s (by exact run_lenSl rfl (fun z => by have h0 := hq z; subst h0; first | rfl | exact hn.symm)) ?_
 refine o_d 2 [(79, bv (((((coldS p (1 + u0).toNat es).w).length : Nat) : Int) != (es.length : Nat))), (78, bv (((((coldS p (1 + u0).toNat es).w).length : Nat) : Int) != (es.length : Nat)))] (by kernel_rfl) ?_
 refine o_nil ?_
 refine seq_regs [(79, bv (((((coldS p (1 + u0).toNat es).w).length : Nat) : Int) != (es.length : Nat))), (12, pv 6 0), (11, slV 7 es.length q1), (9, pv 3 0), (8, iv (1 + u0)), (7, pv 2 0)] (by kernel_rfl) ?_
 refine gcond (t := ((((coldS p (1 + u0).toNat es).w).length : Nat) : Int) != (es.length : Nat)) rfl (fun q => by rw [(by first | (simp; done) | (simp [coldS]; done) | (rw [hG.ver (by omega)]; simp; done) | (rw [hG3.len]; simp; split <;> omega) | (rw [hG3.len]; split <;> simp <;> omega) : (((((coldS p (1 + u0).toNat es).w).length : Nat) : Int) != (es.length : Nat)) = false)] at q; cases q) (fun _ => ?_)
 refine gskip ?_
 refine seq_go ?_
 refine gseq ?_
 refine gseq ?_
 refine greg ?_
 refine o_d 1 [(16, iv 0)] (by kernel_rfl) ?_
 refine o_nil ?_
 refine seq_go ?_
 refine gblock ?_
 refine gloop (fun μ s => ∃ (i : Nat), ∃ (x : HS), μ = es.length + 1 - i ∧ (GoI p d (1 + u0).toNat es i x) ∧ s = ⟨reg [(16, iv (i : Int)), (12, pv 6 0), (11, slV 7 es.length q1), (9, pv 3 0), (8, iv (1 + u0)), (7, pv 2 0)], [inB o (ii ns), inB o2 (ii ks), cw (pl p), cw (headL x.p 4 5 x.e x.s), .chan 200 (x.w.map entV), .map (hdM x.hd), cw (pl d), slB zE (entsL es) q1]⟩) ⟨(es.length + 1 - 0), ?_⟩ ?_
 ·skip
  refine ⟨⟨reg [(16, iv (0 : Int)), (12, pv 6 0), (11, slV 7 es.length q1), (9, pv 3 0), (8, iv (1 + u0)), (7, pv 2 0)], [inB o (ii ns), inB o2 (ii ks), cw (pl p), cw (headL (coldS p (1 + u0).toNat es).p 4 5 (coldS p (1 + u0).toNat es).e (coldS p (1 + u0).toNat es).s), .chan 200 ((coldS p (1 + u0).toNat es).w.map entV), .map (hdM (coldS p (1 + u0).toNat es).hd), cw (pl d), slB zE (entsL es) q1]⟩, ?_⟩
  refine ⟨?_, ?_⟩
  ·exact Wk.ren [0, 1, 2, 3, 4, 5, 6, 7] rfl rfl (by decide) ⟨rfl, ⟨rfl, ⟨((renV_slV q1 rfl)).trans rfl, ⟨rfl, ⟨rfl, ⟨rfl, trivial⟩⟩⟩⟩⟩⟩ ⟨.inl (ren_inB o (ii_scl ns)), ⟨.inl (ren_inB o2 (ii_scl ks)), ⟨.inl (ren_cells (pl_scl p)), ⟨.inl (ren_headS rfl rfl), ⟨.inl (congrArg some (ren_entsV _).symm), ⟨.inl (congrArg some (ren_hdM _).symm), ⟨.inl (ren_cells (pl_scl d)), ⟨.inl (ren_slB q1 (fun _ => (entsR_scl _ _))), trivial⟩⟩⟩⟩⟩⟩⟩⟩
  ·exact ⟨0, (coldS p (1 + u0).toNat es), rfl, (goes_start hA hpv (by omega)), rfl⟩
 rintro μ s ⟨i, x, rfl, hG, rfl⟩
 refine gseq ?_
 refine gseq ?_
 refine greg ?_
 refine o_d 2 [(81, slV 7 es.length q1), (80, iv (i : Int))] (by kernel_rfl) ?_
 refine o_s (by exact run_lenSl rfl (fun z => by have h0 := hq z; subst h0; first | rfl | exact hn.symm)) ?_
 refine o_d 1 [(83, bv (decide ((i : Int) ≤ (es.length : Nat))))] (by kernel_rfl) ?_
 refine o_nil ?_
 refine seq_go ?_
 refine gcond (t := decide ((i : Int) ≤ (es.length : Nat))) rfl (fun h15 => ?_) (fun h15 => ?_)
 ·skip
  have h15' : (i : Int) ≤ (es.length : Nat) := of_decide_eq_true h15
  refine gskip ?_
  refine seq_go ?_
  refine gseq ?_
  refine gblock ?_
  refine gseq ?_
  refine gseq ?_
  refine gdregD [inB o (ii ns), inB o2 (ii ks), cw (pl p), cw (headL x.p 4 5 x.e x.s), .chan 200 (x.w.map entV), .map (hdM x.hd), cw (pl d), slB zE (entsL es) q1] (by kernel_rfl) ?_
  refine d_n 1 1 8 [(86, pv 3 0)] [inB o (ii ns), inB o2 (ii ks), cw (pl p), cw (headL x.p 4 5 x.e x.s), .chan 200 (x.w.map entV), .map (hdM x.hd), cw (pl d), slB zE (entsL es) q1] [] (by kernel_rfl) rfl rfl ?_
  refine d_clG [3, 4, 5] [cr (headL x.p 1 2 x.e x.s), .chan 200 (x.w.map entV), .map (hdM x.hd)] [pv 0 0] (HVersionC h_head_Head_Version x.p x.w x.hd x.e x.s) rfl rfl ⟨⟨_, rfl, seen_head rfl rfl (fun q => rfl)⟩, ⟨⟨_, rfl, seen_ents _⟩, ⟨⟨_, rfl, seen_hdM _⟩, trivial⟩⟩⟩ (by decide) ⟨_, _, ⟨rfl, rfl⟩, Nat.le_add_right 3 0, flags_app [_, _, _] []⟩ ?_ (by kernel_rfl)
  rintro v1 h1' ⟨rfl, rfl⟩
  refine ⟨iv (x.p 0), [inB o (ii ns), inB o2 (ii ks), cw (pl p), cw (headL x.p 4 5 x.e x.s), .chan 200 (x.w.map entV), .map (hdM x.hd), cw (pl d), slB zE (entsL es) q1], [], rfl, ⟨rfl, ⟨rfl, ⟨rfl, ⟨rfl, ⟨ren_entsV _, ⟨ren_hdM _, ⟨rfl, ⟨rfl, trivial⟩⟩⟩⟩⟩⟩⟩⟩, trivial, ?_⟩
  refine d_n 1 3 8 [(88, pv 2 0)] [inB o (ii ns), inB o2 (ii ks), cw (pl p), cw (headL x.p 4 5 x.e x.s), .chan 200 (x.w.map entV), .map (hdM x.hd), cw (pl d), slB zE (entsL es) q1] [⟨1, [3, 4, 5], [4, 5], some 8⟩] (by kernel_rfl) rfl rfl ?_
  refine d_s rfl rfl rfl (by kernel_rfl) (by refine run_ld (v := iv (p 0)) rfl rfl ?_; exact pl_r p 0 rfl (by omega)) ?_
  refine d_n 1 5 8 [(90, iv (i : Int))] [inB o (ii ns), inB o2 (ii ks), cw (pl p), cw (headL x.p 4 5 x.e x.s), .chan 200 (x.w.map entV), .map (hdM x.hd), cw (pl d), slB zE (entsL es) q1] [⟨3, [2], [], none⟩, ⟨1, [3, 4, 5], [4, 5], some 8⟩] (by kernel_rfl) rfl rfl ?_
  refine d_s rfl rfl rfl (by kernel_rfl) (by refine run_val (v := .int .i64 (IntKind.i64.wrap (p 0 + (i : Int)))) (congrArg (Value.int .i64) (w64 (by omega) (by omega))) ?_; kernel_rfl) ?_
  refine d_n 1 7 8 [(92, bv ((x.p 0) != (p 0 + (i : Int))))] [inB o (ii ns), inB o2 (ii ks), cw (pl p), cw (headL x.p 4 5 x.e x.s), .chan 200 (x.w.map entV), .map (hdM x.hd), cw (pl d), slB zE (entsL es) q1] [⟨3, [2], [], none⟩, ⟨1, [3, 4, 5], [4, 5], some 8⟩] (by kernel_rfl) rfl rfl ?_
  refine d_nil ?_
  refine seq_go ?_
  refine gcond (t := (x.p 0) != (p 0 + (i : Int))) rfl (fun q => by rw [(by first | (simp; done) | (simp [coldS]; done) | (rw [hG.ver (by omega)]; simp; done) | (rw [hG3.len]; simp; split <;> omega) | (rw [hG3.len]; split <;> simp <;> omega) : ((x.p 0) != (p 0 + (i : Int))) = false)] at q; cases q) (fun _ => ?_)
  refine gskip ?_
  refine seq_go ?_
  refine gseq ?_
  refine gseq ?_
  refine greg ?_
  refine o_d 1 [(17, iv 0)] (by kernel_rfl) ?_
  refine o_nil ?_
  refine seq_go ?_
  refine gblock ?_
  refine gloop (fun μ s => ∃ (k : Nat), ∃ (hd2 : List (Int × Int)), μ = (1 + u0).toNat - k ∧ (k ≤ (1 + u0).toNat) ∧ (GoK (1 + u0).toNat x k hd2) ∧ s = ⟨reg [(17, iv (k : Int)), (16, iv (i : Int)), (12, pv 6 0), (11, slV 7 es.length q1), (9, pv 3 0), (8, iv (1 + u0)), (7, pv 2 0)], [inB o (ii ns), inB o2 (ii ks), cw (pl p), cw (headL ((HS.mk x.p x.w hd2 x.e x.s).p) 4 5 ((HS.mk x.p x.w hd2 x.e x.s).e) ((HS.mk x.p x.w hd2 x.e x.s).s)), .chan 200 (((HS.mk x.p x.w hd2 x.e x.s).w).map entV), .map (hdM ((HS.mk x.p x.w hd2 x.e x.s).hd)), cw (pl d), slB zE (entsL es) q1]⟩) ⟨((1 + u0).toNat - 0), ?_⟩ ?_
  ·skip
   refine ⟨⟨reg [(17, iv (0 : Int)), (16, iv (i : Int)), (12, pv 6 0), (11, slV 7 es.length q1), (9, pv 3 0), (8, iv (1 + u0)), (7, pv 2 0)], [inB o (ii ns), inB o2 (ii ks), cw (pl p), cw (headL ((HS.mk x.p x.w x.hd x.e x.s).p) 4 5 ((HS.mk x.p x.w x.hd x.e x.s).e) ((HS.mk x.p x.w x.hd x.e x.s).s)), .chan 200 (((HS.mk x.p x.w x.hd x.e x.s).w).map entV), .map (hdM ((HS.mk x.p x.w x.hd x.e x.s).hd)), cw (pl d), slB zE (entsL es) q1]⟩, ?_⟩
   refine ⟨?_, ?_⟩
   ·exact Wk.ren [0, 1, 2, 3, 4, 5, 6, 7] rfl rfl (by decide) ⟨rfl, ⟨rfl, ⟨rfl, ⟨((renV_slV q1 rfl)).trans rfl, ⟨rfl, ⟨rfl, ⟨rfl, trivial⟩⟩⟩⟩⟩⟩⟩ ⟨.inl (ren_inB o (ii_scl ns)), ⟨.inl (ren_inB o2 (ii_scl ks)), ⟨.inl (ren_cells (pl_scl p)), ⟨.inl (ren_headS rfl rfl), ⟨.inl (congrArg some (ren_entsV _).symm), ⟨.inl (congrArg some (ren_hdM _).symm), ⟨.inl (ren_cells (pl_scl d)), ⟨.inl (ren_slB q1 (fun _ => (entsR_scl _ _))), trivial⟩⟩⟩⟩⟩⟩⟩⟩
   ·exact ⟨0, x.hd, rfl, (Nat.zero_le _), hG.toK, rfl⟩
  rintro μ s ⟨k, hd2, rfl, hk, hG2, rfl⟩
  refine gseq ?_
  refine gseq ?_
  refine greg ?_
  refine o_d 3 [(95, bv (decide ((k : Int) < 1 + u0))), (94, iv (1 + u0)), (93, iv (k : Int))] (by kernel_rfl) ?_
  refine o_nil ?_
  refine seq_go ?_
  refine gcond (t := decide ((k : Int) < 1 + u0)) rfl (fun h16 => ?_) (fun h16 => ?_)
  ·skip
   have h16' : (k : Int) < 1 + u0 := of_decide_eq_true h16
   refine gskip ?_
   refine seq_go ?_
   refine gseq ?_
   refine gblock ?_
   refine greg ?_
   refine o_d 3 [(100, pv 3 0), (99, iv (k : Int)), (98, pv 3 0)] (by kernel_rfl) ?_
   refine o_cl (callG [3, 4, 5] [cr (headL ((HS.mk x.p x.w hd2 x.e x.s).p) 1 2 ((HS.mk x.p x.w hd2 x.e x.s).e) ((HS.mk x.p x.w hd2 x.e x.s).s)), .chan 200 (((HS.mk x.p x.w hd2 x.e x.s).w).map entV), .map (hdM ((HS.mk x.p x.w hd2 x.e x.s).hd))] [pv 0 0] (HVersionC h_head_Head_Version ((HS.mk x.p x.w hd2 x.e x.s).p) ((HS.mk x.p x.w hd2 x.e x.s).w) ((HS.mk x.p x.w hd2 x.e x.s).hd) ((HS.mk x.p x.w hd2 x.e x.s).e) ((HS.mk x.p x.w hd2 x.e x.s).s)) rfl rfl ⟨⟨_, rfl, seen_head rfl rfl (fun q => rfl)⟩, ⟨⟨_, rfl, seen_ents _⟩, ⟨⟨_, rfl, seen_hdM _⟩, trivial⟩⟩⟩ (by decide) ?_)
   rintro v1 h1' ⟨rfl, rfl⟩
   refine ⟨iv (((HS.mk x.p x.w hd2 x.e x.s).p) 0), [inB o (ii ns), inB o2 (ii ks), cw (pl p), cw (headL ((HS.mk x.p x.w hd2 x.e x.s).p) 4 5 ((HS.mk x.p x.w hd2 x.e x.s).e) ((HS.mk x.p x.w hd2 x.e x.s).s)), .chan 200 (((HS.mk x.p x.w hd2 x.e x.s).w).map entV), .map (hdM ((HS.mk x.p x.w hd2 x.e x.s).hd)), cw (pl d), slB zE (entsL es) q1], [], rfl, ⟨rfl, ⟨rfl, ⟨rfl, ⟨rfl, ⟨ren_entsV _, ⟨ren_hdM _, ⟨rfl, ⟨rfl, trivial⟩⟩⟩⟩⟩⟩⟩⟩, trivial, ?_⟩
   refine o_s (by refine run_bld (c := ntF (k : Int) 0 (((HS.mk x.p x.w hd2 x.e x.s).p) 0) false true e0 zeroP) ?_; exact bld_nt rfl) ?_
   refine o_cl (callG [3, 4, 5] [cw (headL ((HS.mk x.p x.w hd2 x.e x.s).p) 1 2 ((HS.mk x.p x.w hd2 x.e x.s).e) ((HS.mk x.p x.w hd2 x.e x.s).s)), .chan 200 (((HS.mk x.p x.w hd2 x.e x.s).w).map entV), .map (hdM ((HS.mk x.p x.w hd2 x.e x.s).hd))] [pv 0 0, ntV (k : Int) 0 (((HS.mk x.p x.w hd2 x.e x.s).p) 0) false true e0 zeroP] (HheardC h_head_Head_Heard ((HS.mk x.p x.w hd2 x.e x.s).p) ((HS.mk x.p x.w hd2 x.e x.s).w) ((HS.mk x.p x.w hd2 x.e x.s).hd) ((HS.mk x.p x.w hd2 x.e x.s).e) ((HS.mk x.p x.w hd2 x.e x.s).s) (k : Int) 0 (((HS.mk x.p x.w hd2 x.e x.s).p) 0) false true e0 zeroP) rfl (cons_eq rfl (cons_eq (renV_vpf (ntV_vpf (k : Int) 0 (((HS.mk x.p x.w hd2 x.e x.s).p) 0) false true e0 zeroP)) rfl)) ⟨⟨_, rfl, seen_head rfl rfl (fun q => rfl)⟩, ⟨⟨_, rfl, seen_ents _⟩, ⟨⟨_, rfl, seen_hdM _⟩, trivial⟩⟩⟩ (by decide) ?_)
   rintro v1 h1' ⟨rfl, rfl⟩
   refine ⟨.tuple #[], [inB o (ii ns), inB o2 (ii ks), cw (pl p), cw (headL ((HS.mk x.p x.w (heardS hd2 (Nt.mk (k : Int) 0 (((HS.mk x.p x.w hd2 x.e x.s).p) 0) false true e0 zeroP)) x.e x.s).p) 4 5 ((HS.mk x.p x.w (heardS hd2 (Nt.mk (k : Int) 0 (((HS.mk x.p x.w hd2 x.e x.s).p) 0) false true e0 zeroP)) x.e x.s).e) ((HS.mk x.p x.w (heardS hd2 (Nt.mk (k : Int) 0 (((HS.mk x.p x.w hd2 x.e x.s).p) 0) false true e0 zeroP)) x.e x.s).s)), .chan 200 (((HS.mk x.p x.w (heardS hd2 (Nt.mk (k : Int) 0 (((HS.mk x.p x.w hd2 x.e x.s).p) 0) false true e0 zeroP)) x.e x.s).w).map entV), .map (hdM ((HS.mk x.p x.w (heardS hd2 (Nt.mk (k : Int) 0 (((HS.mk x.p x.w hd2 x.e x.s).p) 0) false true e0 zeroP)) x.e x.s).hd)), cw (pl d), slB zE (entsL es) q1], [], (by simp [renV]), ⟨rfl, ⟨rfl, ⟨rfl, ⟨ren_headL rfl rfl, ⟨ren_entsV _, ⟨ren_hdM _, ⟨rfl, ⟨rfl, trivial⟩⟩⟩⟩⟩⟩⟩⟩, trivial, ?_⟩
   refine o_nil ?_
   refine seq_go ?_
   refine greg ?_
   refine o_d 1 [(96, iv (k : Int))] (by kernel_rfl) ?_
   refine o_s (by refine run_val (v := .int .i64 (IntKind.i64.wrap ((k : Int) + 1))) (congrArg (Value.int .i64) (w64 (by omega) (by omega))) ?_; kernel_rfl) ?_
   refine o_d 1 [(17, iv ((k : Int) + 1))] (by kernel_rfl) ?_
   refine o_nil ?_
   refine ⟨(1 + u0).toNat - (k + 1), ?_⟩
   refine ⟨⟨reg [(17, iv ((k + 1) : Int)), (16, iv (i : Int)), (12, pv 6 0), (11, slV 7 es.length q1), (9, pv 3 0), (8, iv (1 + u0)), (7, pv 2 0)], [inB o (ii ns), inB o2 (ii ks), cw (pl p), cw (headL ((HS.mk x.p x.w (heardS hd2 (Nt.mk (k : Int) 0 (((HS.mk x.p x.w hd2 x.e x.s).p) 0) false true e0 zeroP)) x.e x.s).p) 4 5 ((HS.mk x.p x.w (heardS hd2 (Nt.mk (k : Int) 0 (((HS.mk x.p x.w hd2 x.e x.s).p) 0) false true e0 zeroP)) x.e x.s).e) ((HS.mk x.p x.w (heardS hd2 (Nt.mk (k : Int) 0 (((HS.mk x.p x.w hd2 x.e x.s).p) 0) false true e0 zeroP)) x.e x.s).s)), .chan 200 (((HS.mk x.p x.w (heardS hd2 (Nt.mk (k : Int) 0 (((HS.mk x.p x.w hd2 x.e x.s).p) 0) false true e0 zeroP)) x.e x.s).w).map entV), .map (hdM ((HS.mk x.p x.w (heardS hd2 (Nt.mk (k : Int) 0 (((HS.mk x.p x.w hd2 x.e x.s).p) 0) false true e0 zeroP)) x.e x.s).hd)), cw (pl d), slB zE (entsL es) q1]⟩, ?_⟩
   refine and3 (by omega) ⟨?_, ?_⟩
   ·exact Wk.ren [0, 1, 2, 3, 4, 5, 6, 7] rfl rfl (by decide) ⟨rfl, ⟨rfl, ⟨rfl, ⟨((renV_slV q1 rfl)).trans rfl, ⟨rfl, ⟨rfl, ⟨rfl, trivial⟩⟩⟩⟩⟩⟩⟩ ⟨.inl (ren_inB o (ii_scl ns)), ⟨.inl (ren_inB o2 (ii_scl ks)), ⟨.inl (ren_cells (pl_scl p)), ⟨.inl (ren_headS rfl rfl), ⟨.inl (congrArg some (ren_entsV _).symm), ⟨.inl (congrArg some (ren_hdM _).symm), ⟨.inl (ren_cells (pl_scl d)), ⟨.inl (ren_slB q1 (fun _ => (entsR_scl _ _))), trivial⟩⟩⟩⟩⟩⟩⟩⟩
   ·exact ⟨(k + 1), (heardS hd2 (Nt.mk (k : Int) 0 (((HS.mk x.p x.w hd2 x.e x.s).p) 0) false true e0 zeroP)), rfl, by omega, (goes_hear hG2 (by omega) (by have := hG.ver (by omega); omega)), rfl⟩
  have h16' : ¬ ((k : Int) < 1 + u0) := of_decide_eq_false h16
  refine gexit ?_
  refine seq_go ?_
  refine gseq ?_
  refine greg ?_
  refine o_d 1 [(104, pv 3 0)] (by kernel_rfl) ?_
  refine o_cl (callG [3, 4, 5] [cw (headL ((HS.mk x.p x.w hd2 x.e x.s).p) 1 2 ((HS.mk x.p x.w hd2 x.e x.s).e) ((HS.mk x.p x.w hd2 x.e x.s).s)), .chan 200 (((HS.mk x.p x.w hd2 x.e x.s).w).map entV), .map (hdM ((HS.mk x.p x.w hd2 x.e x.s).hd))] [pv 0 0] (HsendC h_head_Head_Send h_head_Head_all h_head_Head_publish h_pool_Apply h_pool_may h_pool_held h_pool_fits h_pool_Check h_pool_placed h_cookie_Next ((HS.mk x.p x.w hd2 x.e x.s).p) ((HS.mk x.p x.w hd2 x.e x.s).w) ((HS.mk x.p x.w hd2 x.e x.s).hd) ((HS.mk x.p x.w hd2 x.e x.s).e) ((HS.mk x.p x.w hd2 x.e x.s).s) ((goes_ok hG hG2 hes12)).hd) rfl rfl ⟨⟨_, rfl, seen_head rfl rfl (fun q => rfl)⟩, ⟨⟨_, rfl, seen_ents _⟩, ⟨⟨_, rfl, seen_hdM _⟩, trivial⟩⟩⟩ (by decide) ?_)
  rintro v1 h1' ⟨q17, hq18, rfl, rfl⟩
  refine ⟨slV 8 ((sendS (HS.mk x.p x.w hd2 x.e x.s)).2.length) q17, [inB o (ii ns), inB o2 (ii ks), cw (pl p), cw (headL ((sendS (HS.mk x.p x.w hd2 x.e x.s)).1.p) 4 5 ((sendS (HS.mk x.p x.w hd2 x.e x.s)).1.e) ((sendS (HS.mk x.p x.w hd2 x.e x.s)).1.s)), .chan 200 (((sendS (HS.mk x.p x.w hd2 x.e x.s)).1.w).map entV), .map (hdM ((sendS (HS.mk x.p x.w hd2 x.e x.s)).1.hd)), cw (pl d), slB zE (entsL es) q1], [slB zNt (ntsL ((sendS (HS.mk x.p x.w hd2 x.e x.s)).2)) q17], (renV_slV q17 rfl), ⟨rfl, ⟨rfl, ⟨rfl, ⟨ren_headL rfl rfl, ⟨ren_entsV _, ⟨(ren_hdM2 (sendS_hd _)), ⟨rfl, ⟨rfl, trivial⟩⟩⟩⟩⟩⟩⟩⟩, ⟨(Option.some.inj (ren_slB q17 (fun _ => (ntsR_scl _ _)))).symm, trivial⟩, ?_⟩
  have ok_y19 := (ok_send (goes_ok hG hG2 hes12))
  generalize hd_y19 : (sendS (HS.mk x.p x.w hd2 x.e x.s)) = y19 at ok_y19 hq18 ⊢
  have hG3 := goes_send hG hG2 hpv (by omega) (by omega) (by omega) hes12
  rw [hd_y19] at hG3
  refine o_nil ?_
  refine seq_go ?_
  refine gseq ?_
  refine greg ?_
  refine o_d 1 [(106, pv 3 0)] (by kernel_rfl) ?_
  refine o_cl (callG [3, 4, 5] [cr (headL y19.1.p 1 2 y19.1.e y19.1.s), .chan 200 (y19.1.w.map entV), .map (hdM y19.1.hd)] [pv 0 0] (HWaitingC h_head_Head_Waiting y19.1.p y19.1.w y19.1.hd y19.1.e y19.1.s) rfl rfl ⟨⟨_, rfl, seen_head rfl rfl (fun q => rfl)⟩, ⟨⟨_, rfl, seen_ents _⟩, ⟨⟨_, rfl, seen_hdM _⟩, trivial⟩⟩⟩ (by decide) ?_)
  rintro v1 h1' ⟨rfl, rfl⟩
  refine ⟨iv (y19.1.w.length : Nat), [inB o (ii ns), inB o2 (ii ks), cw (pl p), cw (headL y19.1.p 4 5 y19.1.e y19.1.s), .chan 200 (y19.1.w.map entV), .map (hdM y19.1.hd), cw (pl d), slB zE (entsL es) q1, slB zNt (ntsL y19.2) q17], [], rfl, ⟨rfl, ⟨rfl, ⟨rfl, ⟨rfl, ⟨ren_entsV _, ⟨ren_hdM _, ⟨rfl, ⟨rfl, ⟨rfl, trivial⟩⟩⟩⟩⟩⟩⟩⟩⟩, trivial, ?_⟩
  refine o_d 1 [(108, slV 7 es.length q1)] (by kernel_rfl) ?_
  refine o_s (by exact run_lenSl rfl (fun z => by have h0 := hq z; subst h0; first | rfl | exact hn.symm)) ?_
  refine o_d 1 [(110, iv (i : Int))] (by kernel_rfl) ?_
  refine o_s (by refine run_val (v := .int .i64 (IntKind.i64.wrap ((es.length : Nat) - (i : Int)))) (congrArg (Value.int .i64) (w64 (by omega) (by omega))) ?_; kernel_rfl) ?_
  refine o_s (by refine run_val (v := .int .i64 (IntKind.i64.wrap ((es.length : Nat) - (i : Int) - 1))) (congrArg (Value.int .i64) (w64 (by omega) (by omega))) ?_; kernel_rfl) ?_
  refine o_d 2 [(114, bv (((y19.1.w.length : Nat) : Int) != (if 0 > (es.length : Nat) - (i : Int) - 1 then 0 else (es.length : Nat) - (i : Int) - 1))), (113, iv (if 0 > (es.length : Nat) - (i : Int) - 1 then 0 else (es.length : Nat) - (i : Int) - 1))] (by kernel_rfl) ?_
  refine o_nil ?_
  refine seq_go ?_
  refine gcond (t := ((y19.1.w.length : Nat) : Int) != (if 0 > (es.length : Nat) - (i : Int) - 1 then 0 else (es.length : Nat) - (i : Int) - 1)) rfl (fun q => by rw [(by first | (simp; done) | (simp [coldS]; done) | (rw [hG.ver (by omega)]; simp; done) | (rw [hG3.len]; simp; split <;> omega) | (rw [hG3.len]; split <;> simp <;> omega) : (((y19.1.w.length : Nat) : Int) != (if 0 > (es.length : Nat) - (i : Int) - 1 then 0 else (es.length : Nat) - (i : Int) - 1)) = false)] at q; cases q) (fun _ => ?_)
  refine gskip ?_
  refine seq_go ?_
  refine greg ?_
  refine o_d 1 [(84, iv (i : Int))] (by kernel_rfl) ?_
  refine o_s (by refine run_val (v := .int .i64 (IntKind.i64.wrap ((i : Int) + 1))) (congrArg (Value.int .i64) (w64 (by omega) (by omega))) ?_; kernel_rfl) ?_
  refine o_d 1 [(16, iv ((i : Int) + 1))] (by kernel_rfl) ?_
  refine o_nil ?_
  refine ⟨es.length + 1 - (i + 1), ?_⟩
  refine ⟨⟨reg [(16, iv ((i + 1) : Int)), (12, pv 6 0), (11, slV 7 es.length q1), (9, pv 3 0), (8, iv (1 + u0)), (7, pv 2 0)], [inB o (ii ns), inB o2 (ii ks), cw (pl p), cw (headL y19.1.p 4 5 y19.1.e y19.1.s), .chan 200 (y19.1.w.map entV), .map (hdM y19.1.hd), cw (pl d), slB zE (entsL es) q1]⟩, ?_⟩
  refine and3 (by omega) ⟨?_, ?_⟩
  ·exact Wk.ren [0, 1, 2, 3, 4, 5, 6, 7] rfl rfl (by decide) ⟨rfl, ⟨rfl, ⟨((renV_slV q1 rfl)).trans rfl, ⟨rfl, ⟨rfl, ⟨rfl, trivial⟩⟩⟩⟩⟩⟩ ⟨.inl (ren_inB o (ii_scl ns)), ⟨.inl (ren_inB o2 (ii_scl ks)), ⟨.inl (ren_cells (pl_scl p)), ⟨.inl (ren_headS rfl rfl), ⟨.inl (congrArg some (ren_entsV _).symm), ⟨.inl (congrArg some (ren_hdM _).symm), ⟨.inl (ren_cells (pl_scl d)), ⟨.inl (ren_slB q1 (fun _ => (entsR_scl _ _))), trivial⟩⟩⟩⟩⟩⟩⟩⟩
  ·exact ⟨(i + 1), y19.1, rfl, hG3.go, rfl⟩
 have h15' : ¬ ((i : Int) ≤ (es.length : Nat)) := of_decide_eq_false h15
 refine gexit ?_
 refine seq_go ?_
 refine gseq ?_
 refine gdregD [inB o (ii ns), inB o2 (ii ks), cw (pl p), cw (headL x.p 4 5 x.e x.s), .chan 200 (x.w.map entV), .map (hdM x.hd), cw (pl d), slB zE (entsL es) q1] (by kernel_rfl) ?_
 refine d_n 1 1 8 [(115, pv 3 0)] [inB o (ii ns), inB o2 (ii ks), cw (pl p), cw (headL x.p 4 5 x.e x.s), .chan 200 (x.w.map entV), .map (hdM x.hd), cw (pl d), slB zE (entsL es) q1] [] (by kernel_rfl) rfl rfl ?_
 refine d_clG [3, 4, 5] [cr (headL x.p 1 2 x.e x.s), .chan 200 (x.w.map entV), .map (hdM x.hd)] [pv 0 0] (HPoolC h_head_Head_Pool x.p x.w x.hd x.e x.s) rfl rfl ⟨⟨_, rfl, seen_head rfl rfl (fun q => rfl)⟩, ⟨⟨_, rfl, seen_ents _⟩, ⟨⟨_, rfl, seen_hdM _⟩, trivial⟩⟩⟩ (by decide) ⟨_, _, ⟨rfl, rfl⟩, Nat.le_add_right 3 1, flags_app [_, _, _] [_]⟩ ?_ (by kernel_rfl)
 rintro v1 h1' ⟨rfl, rfl⟩
 refine ⟨poolV x.p, [inB o (ii ns), inB o2 (ii ks), cw (pl p), cw (headL x.p 4 5 x.e x.s), .chan 200 (x.w.map entV), .map (hdM x.hd), cw (pl d), slB zE (entsL es) q1], [cw (pl x.p)], (renV_vpf (poolV_vpf x.p)), ⟨rfl, ⟨rfl, ⟨rfl, ⟨rfl, ⟨ren_entsV _, ⟨ren_hdM _, ⟨rfl, ⟨rfl, trivial⟩⟩⟩⟩⟩⟩⟩⟩, ⟨(Option.some.inj (ren_cells (pl_scl x.p))).symm, trivial⟩, ?_⟩
 refine d_s rfl rfl rfl (by kernel_rfl) (by refine run_ld (v := poolV d) rfl rfl ?_; exact pl_all d) ?_
 refine d_s rfl rfl rfl (by kernel_rfl) (by refine run_eqa (a := ⟨pl x.p⟩) (b := ⟨pl d⟩) (r := eqP x.p d) (R := eqP x.p d) ?_ rfl; exact eqP_run x.p d rfl rfl) ?_
 refine d_n 1 5 8 [(119, bv (eqP x.p d))] [inB o (ii ns), inB o2 (ii ks), cw (pl p), cw (headL x.p 4 5 x.e x.s), .chan 200 (x.w.map entV), .map (hdM x.hd), cw (pl d), slB zE (entsL es) q1, cw (pl x.p)] [⟨2, [6], [], none⟩, ⟨1, [3, 4, 5], [4, 5], some 8⟩] (by kernel_rfl) rfl rfl ?_
 refine d_sp (b := eqP x.p d) 119 rfl (fun k20 => ?_) (fun q => by rw [(by rw [goes_end hG (by omega)]; first | exact eqP_self _ | simp : (eqP x.p d) = true)] at q; cases q)
 refine d_n 1 6 8 [(120, pv 3 0)] [inB o (ii ns), inB o2 (ii ks), cw (pl p), cw (headL x.p 4 5 x.e x.s), .chan 200 (x.w.map entV), .map (hdM x.hd), cw (pl d), slB zE (entsL es) q1, cw (pl x.p)] [⟨2, [6], [], none⟩, ⟨1, [3, 4, 5], [4, 5], some 8⟩] (by kernel_rfl) rfl rfl ?_
 refine d_unguard rfl ?_
 refine d_clG [3, 4, 5] [cr (headL x.p 1 2 x.e x.s), .chan 200 (x.w.map entV), .map (hdM x.hd)] [pv 0 0] (HVersionC h_head_Head_Version x.p x.w x.hd x.e x.s) rfl rfl ⟨⟨_, rfl, seen_head rfl rfl (fun q => rfl)⟩, ⟨⟨_, rfl, seen_ents _⟩, ⟨⟨_, rfl, seen_hdM _⟩, trivial⟩⟩⟩ (by decide) ⟨_, _, ⟨rfl, rfl⟩, Nat.le_add_right 3 0, flags_app [_, _, _] []⟩ ?_ (by kernel_rfl)
 rintro v1 h1' ⟨rfl, rfl⟩
 refine ⟨iv (x.p 0), [inB o (ii ns), inB o2 (ii ks), cw (pl p), cw (headL x.p 4 5 x.e x.s), .chan 200 (x.w.map entV), .map (hdM x.hd), cw (pl d), slB zE (entsL es) q1, cw (pl x.p)], [], rfl, ⟨rfl, ⟨rfl, ⟨rfl, ⟨rfl, ⟨ren_entsV _, ⟨ren_hdM _, ⟨rfl, ⟨rfl, ⟨rfl, trivial⟩⟩⟩⟩⟩⟩⟩⟩⟩, trivial, ?_⟩
 refine d_n 1 8 8 [(122, pv 6 0)] [inB o (ii ns), inB o2 (ii ks), cw (pl p), cw (headL x.p 4 5 x.e x.s), .chan 200 (x.w.map entV), .map (hdM x.hd), cw (pl d), slB zE (entsL es) q1, cw (pl x.p)] [⟨6, [3, 4, 5], [4, 5], some 9⟩, ⟨2, [6], [], none⟩, ⟨1, [3, 4, 5], [4, 5], some 8⟩] (by kernel_rfl) rfl rfl ?_
 refine d_unguard rfl ?_
 refine d_s rfl rfl rfl (by kernel_rfl) (by refine run_ld (v := iv (d 0)) rfl rfl ?_; exact pl_r d 0 rfl (by omega)) ?_
 refine d_n 3 12 8 [(6, bv ((x.p 0) == (d 0))), (125, bv ((x.p 0) == (d 0))), (124, bv ((x.p 0) == (d 0)))] [inB o (ii ns), inB o2 (ii ks), cw (pl p), cw (headL x.p 4 5 x.e x.s), .chan 200 (x.w.map entV), .map (hdM x.hd), cw (pl d), slB zE (entsL es) q1, cw (pl x.p)] [⟨8, [6], [], none⟩, ⟨6, [3, 4, 5], [4, 5], some 9⟩, ⟨2, [6], [], none⟩, ⟨1, [3, 4, 5], [4, 5], some 8⟩] (by kernel_rfl) rfl rfl ?_
 refine d_nil ?_
 refine seq_regs [(6, bv ((x.p 0) == (d 0)))] (by kernel_rfl) ?_
 refine gret ?_
 have E0_ : ((x.p 0) == (d 0)) = true := by
  rw [goes_end hG (by omega)]; simp
 exact fin_ans [bv ((x.p 0) == (d 0))] (resV_t rfl rfl) rfl (by rw [E0_]; rfl) rfl (show List.all [inB o (ii ns), inB o2 (ii ks)] blkf = true from (all_cons (inB_gone _ (ii_scl ns)) (all_cons (inB_gone _ (ii_scl ks)) rfl)))
end Go.Rh
