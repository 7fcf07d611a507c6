/- A part of a proof: functions of the program, walked. -/
import Derived.Test.YtnofkhghgjdblaaL10M0
set_option linter.unusedVariables false
set_option linter.unusedSimpArgs false
namespace Go.Proofs.Ytnofkhghgjdblaa
open Go Go.Proofs Go.Proofs.YtnofkhghgjdblaaVm Go.Proofs.Ytnofkhghgjdblaa.Ty

theorem below_mono {a b : List UInt8} (h : ¬ slt b a) : ∀ l : List Pair, Sorted l → below a l ≤ below b l
  | [], _ => Nat.le_refl _
  | p :: r, hs => by
    cases hs with
    | cons h1 h2 =>
      have ih := below_mono h r h2
      unfold below
      by_cases ha : slt p.key a
      · have hb : slt p.key b := by
          rcases slt_total a b with c | c | c
          · exact slt_trans ha c
          · rw [← c]; exact ha
          · exact absurd c h
        rw [if_pos ha, if_pos hb]; omega
      · rw [if_neg ha]; omega
theorem below_nil (l : List Pair) : below [] l = 0 := by
  cases l with
  | nil => rfl
  | cons p r => unfold below; rw [if_neg (slt_nil _)]
theorem below_at {l : List Pair} (hs : Sorted l) {i : Nat} {x : Pair} (h : l[i]? = some x) : below x.key l = i := by
  have hr := (rising_iff l).2 hs
  rcases Nat.lt_trichotomy i (below x.key l) with c | c | c
  · exact absurd (below_lt l i x c h) (slt_irrefl _)
  · exact c.symm
  · exfalso
    obtain ⟨hlt, he⟩ := List.getElem?_eq_some_iff.1 h
    have hy : l[below x.key l]? = some l[below x.key l] := List.getElem?_eq_getElem (by omega)
    have h1 := below_ge l none hr (below x.key l) _ (Nat.le_refl _) hy
    have h2 := List.pairwise_iff_getElem.1 hs (below x.key l) i (by omega) hlt c
    rw [he] at h2
    exact h1 h2
theorem getV_at {l : List Pair} (h : pairsOk l) {i : Nat} {x : Pair} (hx : l[i]? = some x) : getV l x.key = (x.value, true) := by
  have hs := ((pairsOk_iff l).1 h).1
  have := getL_of_mem hs (List.mem_of_getElem? hx)
  unfold getV
  rw [if_pos h, this]

set_option maxRecDepth 10000 in
set_option maxHeartbeats 16000000 in
theorem law_Places (l : List Pair) (a b : List UInt8) (hl : l.length ≤ maxLen) :
    Ct Try.prog 7 (YtnofkhghgjdblaaVm.ops [.row (l.map Pair.pv), .str a, .str b]) (.vals [.bool true]) := by
  have aw := law10_awake
  refine Ct.of_V Try.func7 rfl (by simp [YtnofkhghgjdblaaVm.ops, Try.f7]) ?_
  refine V.exec 400 ?_
  simp (config := {contextual := true}) only [go_sem, ↓reduceIte, reduceCtorEq, Bool.false_eq_true, Bool.true_eq_false, Nat.reduceAdd, Nat.reduceLT, Nat.reduceEqDiff, Nat.reduceLeDiff, Nat.reduceSub, Nat.reduceMul, Try.f7]
  refine V.call rfl rfl (by simp [dOK]) ⟨9, [], by simp only [go_sem, ↓reduceIte, reduceCtorEq, Bool.false_eq_true, Bool.true_eq_false, Nat.reduceAdd, Nat.reduceLT, Nat.reduceEqDiff, Nat.reduceLeDiff, Nat.reduceSub, Nat.reduceMul], ⟨_, rfl, rfl, rfl⟩, .inl ⟨[.row (l.map Pair.pv)], _, .inl (by simp only [go_sem, ↓reduceIte, reduceCtorEq, Bool.false_eq_true, Bool.true_eq_false, Nat.reduceAdd, Nat.reduceLT, Nat.reduceEqDiff, Nat.reduceLeDiff, Nat.reduceSub, Nat.reduceMul]), law10_small l (by simp only [maxLen] at hl; omega), .inl ⟨_, rfl, rfl, rfl, rfl⟩⟩⟩ ?_
  refine V.exec 400 ?_
  by_cases h1 : smallP l
  · simp (config := {contextual := true}) only [go_sem, ↓reduceIte, reduceCtorEq, Bool.false_eq_true, Bool.true_eq_false, Nat.reduceAdd, Nat.reduceLT, Nat.reduceEqDiff, Nat.reduceLeDiff, Nat.reduceSub, Nat.reduceMul, h1]
    have hl60 := h1.1
    refine V.call rfl rfl (by simp [dOK]) ⟨18, [], by simp only [go_sem, ↓reduceIte, reduceCtorEq, Bool.false_eq_true, Bool.true_eq_false, Nat.reduceAdd, Nat.reduceLT, Nat.reduceEqDiff, Nat.reduceLeDiff, Nat.reduceSub, Nat.reduceMul], ⟨_, rfl, rfl, rfl⟩, .inl ⟨[.row (l.map Pair.pv)], _, .inl (by simp only [go_sem, ↓reduceIte, reduceCtorEq, Bool.false_eq_true, Bool.true_eq_false, Nat.reduceAdd, Nat.reduceLT, Nat.reduceEqDiff, Nat.reduceLeDiff, Nat.reduceSub, Nat.reduceMul]), leaf_Right l (by omega), .inl ⟨_, rfl, rfl, rfl, rfl⟩⟩⟩ ?_
    refine V.exec 400 ?_
    by_cases hok : pairsOk l
    · have hsr := ((pairsOk_iff l).1 hok).1
      have hnx : ∀ k, nextV l k = (below k l : Int) := fun k => by simp [nextV, hok]
      by_cases ha : a.length ≤ 300
      · have ha' : ¬ (300 : Int) < (a.length : Int) := by omega
        by_cases hb : b.length ≤ 300
        · have hb' : ¬ (300 : Int) < (b.length : Int) := by omega
          simp (config := {contextual := true}) only [go_sem, ↓reduceIte, reduceCtorEq, Bool.false_eq_true, Bool.true_eq_false, Nat.reduceAdd, Nat.reduceLT, Nat.reduceEqDiff, Nat.reduceLeDiff, Nat.reduceSub, Nat.reduceMul, hok, ha', hb']
          obtain ⟨x, hx⟩ : ∃ x, (if slt a b ∨ a = b then a else b) = x := ⟨_, rfl⟩
          obtain ⟨y, hy⟩ : ∃ y, (if slt a b then b else a) = y := ⟨_, rfl⟩
          have hyx : ¬ slt y x := by
            subst hx hy
            by_cases h : slt a b
            · rw [if_pos h, if_pos (.inl h)]; exact slt_asymm h
            · rw [if_neg h]
              split
              · exact slt_irrefl _
              · exact h
          have hn1 : ¬ nextV l y < nextV l x := by
            rw [hnx, hnx]
            have := below_mono hyx l hsr
            omega
          have hn2 : ¬ (l.length : Int) < nextV l y := by
            rw [hnx]
            have := below_le y l
            omega
          have hn3 : nextV l [] = 0 := by rw [hnx, below_nil]; rfl
          simp only [hx, hy]
          refine V.call rfl rfl (by simp [dOK]) ⟨20, [], by simp only [go_sem, ↓reduceIte, reduceCtorEq, Bool.false_eq_true, Bool.true_eq_false, Nat.reduceAdd, Nat.reduceLT, Nat.reduceEqDiff, Nat.reduceLeDiff, Nat.reduceSub, Nat.reduceMul], ⟨_, rfl, rfl, rfl⟩, .inl ⟨[.row (l.map Pair.pv), .str x], _, .inl (by simp only [go_sem, ↓reduceIte, reduceCtorEq, Bool.false_eq_true, Bool.true_eq_false, Nat.reduceAdd, Nat.reduceLT, Nat.reduceEqDiff, Nat.reduceLeDiff, Nat.reduceSub, Nat.reduceMul]), leaf_Next l x (by omega), .inl ⟨_, rfl, rfl, rfl, rfl⟩⟩⟩ ?_
          refine V.exec 400 ?_
          simp (config := {contextual := true}) only [go_sem, ↓reduceIte, reduceCtorEq, Bool.false_eq_true, Bool.true_eq_false, Nat.reduceAdd, Nat.reduceLT, Nat.reduceEqDiff, Nat.reduceLeDiff, Nat.reduceSub, Nat.reduceMul, hx, hy]
          refine V.call rfl rfl (by simp [dOK]) ⟨20, [], by simp only [go_sem, ↓reduceIte, reduceCtorEq, Bool.false_eq_true, Bool.true_eq_false, Nat.reduceAdd, Nat.reduceLT, Nat.reduceEqDiff, Nat.reduceLeDiff, Nat.reduceSub, Nat.reduceMul], ⟨_, rfl, rfl, rfl⟩, .inl ⟨[.row (l.map Pair.pv), .str y], _, .inl (by simp only [go_sem, ↓reduceIte, reduceCtorEq, Bool.false_eq_true, Bool.true_eq_false, Nat.reduceAdd, Nat.reduceLT, Nat.reduceEqDiff, Nat.reduceLeDiff, Nat.reduceSub, Nat.reduceMul]), leaf_Next l y (by omega), .inl ⟨_, rfl, rfl, rfl, rfl⟩⟩⟩ ?_
          refine V.exec 400 ?_
          simp (config := {contextual := true}) only [go_sem, ↓reduceIte, reduceCtorEq, Bool.false_eq_true, Bool.true_eq_false, Nat.reduceAdd, Nat.reduceLT, Nat.reduceEqDiff, Nat.reduceLeDiff, Nat.reduceSub, Nat.reduceMul, hn1]
          refine V.call rfl rfl (by simp [dOK]) ⟨20, [], by simp only [go_sem, ↓reduceIte, reduceCtorEq, Bool.false_eq_true, Bool.true_eq_false, Nat.reduceAdd, Nat.reduceLT, Nat.reduceEqDiff, Nat.reduceLeDiff, Nat.reduceSub, Nat.reduceMul], ⟨_, rfl, rfl, rfl⟩, .inl ⟨[.row (l.map Pair.pv), .str y], _, .inl (by simp only [go_sem, ↓reduceIte, reduceCtorEq, Bool.false_eq_true, Bool.true_eq_false, Nat.reduceAdd, Nat.reduceLT, Nat.reduceEqDiff, Nat.reduceLeDiff, Nat.reduceSub, Nat.reduceMul]), leaf_Next l y (by omega), .inl ⟨_, rfl, rfl, rfl, rfl⟩⟩⟩ ?_
          refine V.exec 400 ?_
          simp (config := {contextual := true}) only [go_sem, ↓reduceIte, reduceCtorEq, Bool.false_eq_true, Bool.true_eq_false, Nat.reduceAdd, Nat.reduceLT, Nat.reduceEqDiff, Nat.reduceLeDiff, Nat.reduceSub, Nat.reduceMul, hn2]
          refine V.call rfl rfl (by simp [dOK]) ⟨20, [], by simp only [go_sem, ↓reduceIte, reduceCtorEq, Bool.false_eq_true, Bool.true_eq_false, Nat.reduceAdd, Nat.reduceLT, Nat.reduceEqDiff, Nat.reduceLeDiff, Nat.reduceSub, Nat.reduceMul], ⟨_, rfl, rfl, rfl⟩, .inl ⟨[.row (l.map Pair.pv), .str []], _, .inl (by simp only [go_sem, ↓reduceIte, reduceCtorEq, Bool.false_eq_true, Bool.true_eq_false, Nat.reduceAdd, Nat.reduceLT, Nat.reduceEqDiff, Nat.reduceLeDiff, Nat.reduceSub, Nat.reduceMul]), leaf_Next l [] (by omega), .inl ⟨_, rfl, rfl, rfl, rfl⟩⟩⟩ ?_
          refine V.exec 400 ?_
          simp (config := {contextual := true}) only [go_sem, ↓reduceIte, reduceCtorEq, Bool.false_eq_true, Bool.true_eq_false, Nat.reduceAdd, Nat.reduceLT, Nat.reduceEqDiff, Nat.reduceLeDiff, Nat.reduceSub, Nat.reduceMul, hn3]
          refine V.loop (fun m ls os => ∃ i : Nat, i ≤ l.length ∧ m = l.length - i ∧ ls = [(0, .val (.row (l.map Pair.pv))), (1, .val (.str a)), (61, .val (.row (l.map Pair.pv))), (62, .val (.int .i64 l.length)), (63, .val (.int .i64 i))] ∧ os = []) 0 l.length
            [(0, .val (.row (l.map Pair.pv))), (1, .val (.str a)), (61, .val (.row (l.map Pair.pv))), (62, .val (.int .i64 l.length)), (63, .val (.int .i64 0))] [] []
            ⟨0, Nat.zero_le _, rfl, rfl, rfl⟩ (by simp only [go_sem, ↓reduceIte, reduceCtorEq, Bool.false_eq_true, Bool.true_eq_false, Nat.reduceAdd, Nat.reduceLT, Nat.reduceEqDiff, Nat.reduceLeDiff, Nat.reduceSub, Nat.reduceMul]) ?_
          rintro m ls os ⟨i, hi, rfl, rfl, rfl⟩
          refine V.exec 400 ?_
          by_cases hlt : i < l.length
          · have hlt' : (i : Int) < (l.length : Int) := by omega
            obtain ⟨q, hq⟩ : ∃ x, l[i]? = some x := ⟨_, List.getElem?_eq_getElem hlt⟩
            have hw : IntKind.i64.wrap ((i : Int) + 1) = ((i + 1 : Nat) : Int) := by rw [wrap_small3] <;> omega
            have hgv := getV_at hok hq
            have hnq : nextV l q.key = (i : Int) := by rw [hnx, below_at hsr hq]
            have c1 := leaf_Get l q.key (by omega)
            rw [hgv] at c1
            have c2 := leaf_Next l q.key (by omega)
            rw [hnq] at c2
            simp (config := {contextual := true}) only [go_sem, ↓reduceIte, reduceCtorEq, Bool.false_eq_true, Bool.true_eq_false, Nat.reduceAdd, Nat.reduceLT, Nat.reduceEqDiff, Nat.reduceLeDiff, Nat.reduceSub, Nat.reduceMul, hlt', hq, Pair.pv]
            refine V.call rfl rfl (by simp [dOK]) ⟨14, [], by simp only [go_sem, ↓reduceIte, reduceCtorEq, Bool.false_eq_true, Bool.true_eq_false, Nat.reduceAdd, Nat.reduceLT, Nat.reduceEqDiff, Nat.reduceLeDiff, Nat.reduceSub, Nat.reduceMul], ⟨_, rfl, rfl, rfl⟩, .inl ⟨[.row (l.map Pair.pv), .str q.key], _, .inl (by simp only [go_sem, ↓reduceIte, reduceCtorEq, Bool.false_eq_true, Bool.true_eq_false, Nat.reduceAdd, Nat.reduceLT, Nat.reduceEqDiff, Nat.reduceLeDiff, Nat.reduceSub, Nat.reduceMul]), c1, .inr (.inl ⟨_, rfl, rfl, rfl⟩)⟩⟩ ?_
            refine V.exec 400 ?_
            simp (config := {contextual := true}) only [go_sem, ↓reduceIte, reduceCtorEq, Bool.false_eq_true, Bool.true_eq_false, Nat.reduceAdd, Nat.reduceLT, Nat.reduceEqDiff, Nat.reduceLeDiff, Nat.reduceSub, Nat.reduceMul, decide_true]
            refine V.call rfl rfl (by simp [dOK]) ⟨20, [], by simp only [go_sem, ↓reduceIte, reduceCtorEq, Bool.false_eq_true, Bool.true_eq_false, Nat.reduceAdd, Nat.reduceLT, Nat.reduceEqDiff, Nat.reduceLeDiff, Nat.reduceSub, Nat.reduceMul], ⟨_, rfl, rfl, rfl⟩, .inl ⟨[.row (l.map Pair.pv), .str q.key], _, .inl (by simp only [go_sem, ↓reduceIte, reduceCtorEq, Bool.false_eq_true, Bool.true_eq_false, Nat.reduceAdd, Nat.reduceLT, Nat.reduceEqDiff, Nat.reduceLeDiff, Nat.reduceSub, Nat.reduceMul]), c2, .inl ⟨_, rfl, rfl, rfl, rfl⟩⟩⟩ ?_
            refine V.exec 400 ?_
            simp (config := {contextual := true}) only [go_sem, ↓reduceIte, reduceCtorEq, Bool.false_eq_true, Bool.true_eq_false, Nat.reduceAdd, Nat.reduceLT, Nat.reduceEqDiff, Nat.reduceLeDiff, Nat.reduceSub, Nat.reduceMul, hw, decide_true]
            exact ⟨l.length - (i + 1), _, [], [], by omega, ⟨i + 1, by omega, rfl, rfl, rfl⟩, by simp only [go_sem, ↓reduceIte, reduceCtorEq, Bool.false_eq_true, Bool.true_eq_false, Nat.reduceAdd, Nat.reduceLT, Nat.reduceEqDiff, Nat.reduceLeDiff, Nat.reduceSub, Nat.reduceMul]⟩
          · have hlt' : ¬ (i : Int) < (l.length : Int) := by omega
            have c1 := leaf_Get l a (by omega)
            have c2 := leaf_Next l a (by omega)
            rw [hnx] at c2
            cases hg : getL l a with
            | some p =>
              have hp := (below_find l none ((rising_iff l).2 hsr) p).2 hg
              have hbl := (List.getElem?_eq_some_iff.1 hp.1).1
              have hbl' : ((below a l : Nat) : Int) < (l.length : Int) := by omega
              have hgv : getV l a = (p.value, true) := by unfold getV; rw [if_pos hok, hg]
              rw [hgv] at c1
              simp (config := {contextual := true}) only [go_sem, ↓reduceIte, reduceCtorEq, Bool.false_eq_true, Bool.true_eq_false, Nat.reduceAdd, Nat.reduceLT, Nat.reduceEqDiff, Nat.reduceLeDiff, Nat.reduceSub, Nat.reduceMul, hlt']
              refine V.call rfl rfl (by simp [dOK]) ⟨14, [], by simp only [go_sem, ↓reduceIte, reduceCtorEq, Bool.false_eq_true, Bool.true_eq_false, Nat.reduceAdd, Nat.reduceLT, Nat.reduceEqDiff, Nat.reduceLeDiff, Nat.reduceSub, Nat.reduceMul], ⟨_, rfl, rfl, rfl⟩, .inl ⟨[.row (l.map Pair.pv), .str a], _, .inl (by simp only [go_sem, ↓reduceIte, reduceCtorEq, Bool.false_eq_true, Bool.true_eq_false, Nat.reduceAdd, Nat.reduceLT, Nat.reduceEqDiff, Nat.reduceLeDiff, Nat.reduceSub, Nat.reduceMul]), c1, .inr (.inl ⟨_, rfl, rfl, rfl⟩)⟩⟩ ?_
              refine V.exec 400 ?_
              simp (config := {contextual := true}) only [go_sem, ↓reduceIte, reduceCtorEq, Bool.false_eq_true, Bool.true_eq_false, Nat.reduceAdd, Nat.reduceLT, Nat.reduceEqDiff, Nat.reduceLeDiff, Nat.reduceSub, Nat.reduceMul, decide_true]
              refine V.call rfl rfl (by simp [dOK]) ⟨20, [], by simp only [go_sem, ↓reduceIte, reduceCtorEq, Bool.false_eq_true, Bool.true_eq_false, Nat.reduceAdd, Nat.reduceLT, Nat.reduceEqDiff, Nat.reduceLeDiff, Nat.reduceSub, Nat.reduceMul], ⟨_, rfl, rfl, rfl⟩, .inl ⟨[.row (l.map Pair.pv), .str a], _, .inl (by simp only [go_sem, ↓reduceIte, reduceCtorEq, Bool.false_eq_true, Bool.true_eq_false, Nat.reduceAdd, Nat.reduceLT, Nat.reduceEqDiff, Nat.reduceLeDiff, Nat.reduceSub, Nat.reduceMul]), c2, .inl ⟨_, rfl, rfl, rfl, rfl⟩⟩⟩ ?_
              refine V.exec 400 ?_
              simp (config := {contextual := true}) only [go_sem, ↓reduceIte, reduceCtorEq, Bool.false_eq_true, Bool.true_eq_false, Nat.reduceAdd, Nat.reduceLT, Nat.reduceEqDiff, Nat.reduceLeDiff, Nat.reduceSub, Nat.reduceMul, hbl', hp.1, hp.2, Pair.pv, decide_true]
              refine V.call rfl rfl (by simp [dOK]) ⟨11, [], by simp only [go_sem, ↓reduceIte, reduceCtorEq, Bool.false_eq_true, Bool.true_eq_false, Nat.reduceAdd, Nat.reduceLT, Nat.reduceEqDiff, Nat.reduceLeDiff, Nat.reduceSub, Nat.reduceMul], ⟨_, rfl, rfl, rfl⟩, .inl ⟨[], _, .inl (by simp only [go_sem, ↓reduceIte, reduceCtorEq, Bool.false_eq_true, Bool.true_eq_false, Nat.reduceAdd, Nat.reduceLT, Nat.reduceEqDiff, Nat.reduceLeDiff, Nat.reduceSub, Nat.reduceMul]), aw, .inl ⟨_, rfl, rfl, rfl, rfl⟩⟩⟩ ?_
              refine V.exec 400 ?_
              simp (config := {contextual := true}) only [go_sem, ↓reduceIte, reduceCtorEq, Bool.false_eq_true, Bool.true_eq_false, Nat.reduceAdd, Nat.reduceLT, Nat.reduceEqDiff, Nat.reduceLeDiff, Nat.reduceSub, Nat.reduceMul]
            | none =>
              have hgv : getV l a = ([], false) := by unfold getV; rw [if_pos hok, hg]
              rw [hgv] at c1
              simp (config := {contextual := true}) only [go_sem, ↓reduceIte, reduceCtorEq, Bool.false_eq_true, Bool.true_eq_false, Nat.reduceAdd, Nat.reduceLT, Nat.reduceEqDiff, Nat.reduceLeDiff, Nat.reduceSub, Nat.reduceMul, hlt']
              refine V.call rfl rfl (by simp [dOK]) ⟨14, [], by simp only [go_sem, ↓reduceIte, reduceCtorEq, Bool.false_eq_true, Bool.true_eq_false, Nat.reduceAdd, Nat.reduceLT, Nat.reduceEqDiff, Nat.reduceLeDiff, Nat.reduceSub, Nat.reduceMul], ⟨_, rfl, rfl, rfl⟩, .inl ⟨[.row (l.map Pair.pv), .str a], _, .inl (by simp only [go_sem, ↓reduceIte, reduceCtorEq, Bool.false_eq_true, Bool.true_eq_false, Nat.reduceAdd, Nat.reduceLT, Nat.reduceEqDiff, Nat.reduceLeDiff, Nat.reduceSub, Nat.reduceMul]), c1, .inr (.inl ⟨_, rfl, rfl, rfl⟩)⟩⟩ ?_
              refine V.exec 400 ?_
              simp (config := {contextual := true}) only [go_sem, ↓reduceIte, reduceCtorEq, Bool.false_eq_true, Bool.true_eq_false, Nat.reduceAdd, Nat.reduceLT, Nat.reduceEqDiff, Nat.reduceLeDiff, Nat.reduceSub, Nat.reduceMul, decide_false]
              refine V.call rfl rfl (by simp [dOK]) ⟨20, [], by simp only [go_sem, ↓reduceIte, reduceCtorEq, Bool.false_eq_true, Bool.true_eq_false, Nat.reduceAdd, Nat.reduceLT, Nat.reduceEqDiff, Nat.reduceLeDiff, Nat.reduceSub, Nat.reduceMul], ⟨_, rfl, rfl, rfl⟩, .inl ⟨[.row (l.map Pair.pv), .str a], _, .inl (by simp only [go_sem, ↓reduceIte, reduceCtorEq, Bool.false_eq_true, Bool.true_eq_false, Nat.reduceAdd, Nat.reduceLT, Nat.reduceEqDiff, Nat.reduceLeDiff, Nat.reduceSub, Nat.reduceMul]), c2, .inl ⟨_, rfl, rfl, rfl, rfl⟩⟩⟩ ?_
              refine V.exec 400 ?_
              by_cases hbl : below a l < l.length
              · have hbl' : ((below a l : Nat) : Int) < (l.length : Int) := by omega
                obtain ⟨q, hq⟩ : ∃ x, l[below a l]? = some x := ⟨_, List.getElem?_eq_getElem hbl⟩
                have hqa : ¬ q.key = a := fun e => by
                  have := (below_find l none ((rising_iff l).2 hsr) q).1 ⟨hq, e⟩
                  rw [hg] at this; cases this
                simp (config := {contextual := true}) only [go_sem, ↓reduceIte, reduceCtorEq, Bool.false_eq_true, Bool.true_eq_false, Nat.reduceAdd, Nat.reduceLT, Nat.reduceEqDiff, Nat.reduceLeDiff, Nat.reduceSub, Nat.reduceMul, hbl', hq, hqa, Pair.pv, decide_false]
                refine V.call rfl rfl (by simp [dOK]) ⟨11, [], by simp only [go_sem, ↓reduceIte, reduceCtorEq, Bool.false_eq_true, Bool.true_eq_false, Nat.reduceAdd, Nat.reduceLT, Nat.reduceEqDiff, Nat.reduceLeDiff, Nat.reduceSub, Nat.reduceMul], ⟨_, rfl, rfl, rfl⟩, .inl ⟨[], _, .inl (by simp only [go_sem, ↓reduceIte, reduceCtorEq, Bool.false_eq_true, Bool.true_eq_false, Nat.reduceAdd, Nat.reduceLT, Nat.reduceEqDiff, Nat.reduceLeDiff, Nat.reduceSub, Nat.reduceMul]), aw, .inl ⟨_, rfl, rfl, rfl, rfl⟩⟩⟩ ?_
                refine V.exec 400 ?_
                simp (config := {contextual := true}) only [go_sem, ↓reduceIte, reduceCtorEq, Bool.false_eq_true, Bool.true_eq_false, Nat.reduceAdd, Nat.reduceLT, Nat.reduceEqDiff, Nat.reduceLeDiff, Nat.reduceSub, Nat.reduceMul]
              · have hbl' : ¬ ((below a l : Nat) : Int) < (l.length : Int) := by omega
                simp (config := {contextual := true}) only [go_sem, ↓reduceIte, reduceCtorEq, Bool.false_eq_true, Bool.true_eq_false, Nat.reduceAdd, Nat.reduceLT, Nat.reduceEqDiff, Nat.reduceLeDiff, Nat.reduceSub, Nat.reduceMul, hbl', decide_false]
                refine V.call rfl rfl (by simp [dOK]) ⟨11, [], by simp only [go_sem, ↓reduceIte, reduceCtorEq, Bool.false_eq_true, Bool.true_eq_false, Nat.reduceAdd, Nat.reduceLT, Nat.reduceEqDiff, Nat.reduceLeDiff, Nat.reduceSub, Nat.reduceMul], ⟨_, rfl, rfl, rfl⟩, .inl ⟨[], _, .inl (by simp only [go_sem, ↓reduceIte, reduceCtorEq, Bool.false_eq_true, Bool.true_eq_false, Nat.reduceAdd, Nat.reduceLT, Nat.reduceEqDiff, Nat.reduceLeDiff, Nat.reduceSub, Nat.reduceMul]), aw, .inl ⟨_, rfl, rfl, rfl, rfl⟩⟩⟩ ?_
                refine V.exec 400 ?_
                simp (config := {contextual := true}) only [go_sem, ↓reduceIte, reduceCtorEq, Bool.false_eq_true, Bool.true_eq_false, Nat.reduceAdd, Nat.reduceLT, Nat.reduceEqDiff, Nat.reduceLeDiff, Nat.reduceSub, Nat.reduceMul]
        · have hb' : (300 : Int) < (b.length : Int) := by omega
          simp (config := {contextual := true}) only [go_sem, ↓reduceIte, reduceCtorEq, Bool.false_eq_true, Bool.true_eq_false, Nat.reduceAdd, Nat.reduceLT, Nat.reduceEqDiff, Nat.reduceLeDiff, Nat.reduceSub, Nat.reduceMul, hok, ha', hb']
          refine V.call rfl rfl (by simp [dOK]) ⟨11, [], by simp only [go_sem, ↓reduceIte, reduceCtorEq, Bool.false_eq_true, Bool.true_eq_false, Nat.reduceAdd, Nat.reduceLT, Nat.reduceEqDiff, Nat.reduceLeDiff, Nat.reduceSub, Nat.reduceMul], ⟨_, rfl, rfl, rfl⟩, .inl ⟨[], _, .inl (by simp only [go_sem, ↓reduceIte, reduceCtorEq, Bool.false_eq_true, Bool.true_eq_false, Nat.reduceAdd, Nat.reduceLT, Nat.reduceEqDiff, Nat.reduceLeDiff, Nat.reduceSub, Nat.reduceMul]), aw, .inl ⟨_, rfl, rfl, rfl, rfl⟩⟩⟩ ?_
          refine V.exec 400 ?_
          simp (config := {contextual := true}) only [go_sem, ↓reduceIte, reduceCtorEq, Bool.false_eq_true, Bool.true_eq_false, Nat.reduceAdd, Nat.reduceLT, Nat.reduceEqDiff, Nat.reduceLeDiff, Nat.reduceSub, Nat.reduceMul]
      · have ha' : (300 : Int) < (a.length : Int) := by omega
        simp (config := {contextual := true}) only [go_sem, ↓reduceIte, reduceCtorEq, Bool.false_eq_true, Bool.true_eq_false, Nat.reduceAdd, Nat.reduceLT, Nat.reduceEqDiff, Nat.reduceLeDiff, Nat.reduceSub, Nat.reduceMul, hok, ha']
        refine V.call rfl rfl (by simp [dOK]) ⟨11, [], by simp only [go_sem, ↓reduceIte, reduceCtorEq, Bool.false_eq_true, Bool.true_eq_false, Nat.reduceAdd, Nat.reduceLT, Nat.reduceEqDiff, Nat.reduceLeDiff, Nat.reduceSub, Nat.reduceMul], ⟨_, rfl, rfl, rfl⟩, .inl ⟨[], _, .inl (by simp only [go_sem, ↓reduceIte, reduceCtorEq, Bool.false_eq_true, Bool.true_eq_false, Nat.reduceAdd, Nat.reduceLT, Nat.reduceEqDiff, Nat.reduceLeDiff, Nat.reduceSub, Nat.reduceMul]), aw, .inl ⟨_, rfl, rfl, rfl, rfl⟩⟩⟩ ?_
        refine V.exec 400 ?_
        simp (config := {contextual := true}) only [go_sem, ↓reduceIte, reduceCtorEq, Bool.false_eq_true, Bool.true_eq_false, Nat.reduceAdd, Nat.reduceLT, Nat.reduceEqDiff, Nat.reduceLeDiff, Nat.reduceSub, Nat.reduceMul]
    · simp (config := {contextual := true}) only [go_sem, ↓reduceIte, reduceCtorEq, Bool.false_eq_true, Bool.true_eq_false, Nat.reduceAdd, Nat.reduceLT, Nat.reduceEqDiff, Nat.reduceLeDiff, Nat.reduceSub, Nat.reduceMul, hok]
      refine V.call rfl rfl (by simp [dOK]) ⟨11, [], by simp only [go_sem, ↓reduceIte, reduceCtorEq, Bool.false_eq_true, Bool.true_eq_false, Nat.reduceAdd, Nat.reduceLT, Nat.reduceEqDiff, Nat.reduceLeDiff, Nat.reduceSub, Nat.reduceMul], ⟨_, rfl, rfl, rfl⟩, .inl ⟨[], _, .inl (by simp only [go_sem, ↓reduceIte, reduceCtorEq, Bool.false_eq_true, Bool.true_eq_false, Nat.reduceAdd, Nat.reduceLT, Nat.reduceEqDiff, Nat.reduceLeDiff, Nat.reduceSub, Nat.reduceMul]), aw, .inl ⟨_, rfl, rfl, rfl, rfl⟩⟩⟩ ?_
      refine V.exec 400 ?_
      simp (config := {contextual := true}) only [go_sem, ↓reduceIte, reduceCtorEq, Bool.false_eq_true, Bool.true_eq_false, Nat.reduceAdd, Nat.reduceLT, Nat.reduceEqDiff, Nat.reduceLeDiff, Nat.reduceSub, Nat.reduceMul]
  · simp (config := {contextual := true}) only [go_sem, ↓reduceIte, reduceCtorEq, Bool.false_eq_true, Bool.true_eq_false, Nat.reduceAdd, Nat.reduceLT, Nat.reduceEqDiff, Nat.reduceLeDiff, Nat.reduceSub, Nat.reduceMul, h1]
    refine V.call rfl rfl (by simp [dOK]) ⟨11, [], by simp only [go_sem, ↓reduceIte, reduceCtorEq, Bool.false_eq_true, Bool.true_eq_false, Nat.reduceAdd, Nat.reduceLT, Nat.reduceEqDiff, Nat.reduceLeDiff, Nat.reduceSub, Nat.reduceMul], ⟨_, rfl, rfl, rfl⟩, .inl ⟨[], _, .inl (by simp only [go_sem, ↓reduceIte, reduceCtorEq, Bool.false_eq_true, Bool.true_eq_false, Nat.reduceAdd, Nat.reduceLT, Nat.reduceEqDiff, Nat.reduceLeDiff, Nat.reduceSub, Nat.reduceMul]), aw, .inl ⟨_, rfl, rfl, rfl, rfl⟩⟩⟩ ?_
    refine V.exec 400 ?_
    simp (config := {contextual := true}) only [go_sem, ↓reduceIte, reduceCtorEq, Bool.false_eq_true, Bool.true_eq_false, Nat.reduceAdd, Nat.reduceLT, Nat.reduceEqDiff, Nat.reduceLeDiff, Nat.reduceSub, Nat.reduceMul]

theorem ctPlaces (xs0 : List PV) (l0 : xs0.length ≤ maxLen) (h0 : ∀ x ∈ xs0, ∃ qs, x = .agg qs ∧ qs.map PV.kd = [.str, .str] ∧ ∀ q ∈ qs, q.wfv) (a b : List UInt8) :
    Ct Try.prog 7 (YtnofkhghgjdblaaVm.ops [.row xs0, .str a, .str b]) (.vals [.bool true]) := by
  obtain ⟨l, rfl⟩ := pair_of xs0 h0
  exact law_Places l a b (by simpa using l0)
end Go.Proofs.Ytnofkhghgjdblaa
