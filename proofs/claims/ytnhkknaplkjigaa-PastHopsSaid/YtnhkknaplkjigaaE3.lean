/- A part of a proof: functions of the program, walked. -/
import Derived.Test.YtnhkknaplkjigaaGH
set_option linter.unusedVariables false
set_option linter.unusedSimpArgs false
namespace Go.Proofs.Ytnhkknaplkjigaa
open Go Go.Proofs Go.Proofs.YtnhkknaplkjigaaVm Go.Proofs.Ytnhkknaplkjigaa.Ty

def upTo (t : List Change) (n : Int) : List Change := t.filter fun c => decide (c.seq ≤ n)
theorem upTo_snoc {t : List Change} {i : Nat} {x : Change} (hx : t[i]? = some x) (n : Int) : upTo (t.take (i + 1)) n = if x.seq ≤ n then upTo (t.take i) n ++ [x] else upTo (t.take i) n := by
  unfold upTo
  rw [List.take_add_one, hx, List.filter_append]
  by_cases h : x.seq ≤ n <;> simp [h]
theorem split_at {lo hi : Int} (hlh : lo ≤ hi) : ∀ (t : List Change) (a : Option Int), trailFrom a t → t.filter (fun c => decide (lo < c.seq)) = (upTo t hi).filter (fun c => decide (lo < c.seq)) ++ t.filter (fun c => decide (hi < c.seq))
  | [], _, _ => rfl
  | c :: r, a, h => by
    by_cases h1 : c.seq ≤ hi
    · have ih := split_at hlh r _ h.2.2
      have h2 : ¬ hi < c.seq := by omega
      have e : upTo (c :: r) hi = c :: upTo r hi := by unfold upTo; rw [List.filter_cons]; simp [h1]
      rw [e]
      by_cases h3 : lo < c.seq
      · simp only [List.filter_cons, h2, h3, decide_true, decide_false, if_true, ↓reduceIte, List.cons_append, Bool.false_eq_true]
        rw [ih]
      · simp only [List.filter_cons, h2, h3, decide_true, decide_false, if_true, ↓reduceIte, List.cons_append, Bool.false_eq_true]
        rw [ih]
    · have hall : ∀ x ∈ c :: r, hi < x.seq := fun x hx => by
        rcases List.mem_cons.1 hx with rfl | hx
        · omega
        · have := trailFrom_gt r c.seq h.2.2 x hx; omega
      have e1 : upTo (c :: r) hi = [] := by
        unfold upTo
        rw [List.filter_eq_nil_iff]
        intro x hx
        have := hall x hx
        simp; omega
      have e2 : (c :: r).filter (fun x => decide (hi < x.seq)) = c :: r := by
        rw [List.filter_eq_self]
        intro x hx
        simpa using hall x hx
      have e3 : (c :: r).filter (fun x => decide (lo < x.seq)) = c :: r := by
        rw [List.filter_eq_self]
        intro x hx
        have := hall x hx
        simp; omega
      rw [e1, e2, e3]
      rfl
/-- As of an earlier number, by way of a later one. -/
theorem at_hops {l : List Pair} {t : List Change} {lo hi : Int} {p : List Pair} (hlh : lo ≤ hi) (h : atV l t lo hi = (p, 0)) : atV p (upTo t hi) lo lo = atV l t lo lo := by
  have hf := atV_facts l t lo hi
  rw [h] at hf
  simp only at hf
  rcases hf with ⟨_, hpo, _, hl, ht⟩ | ⟨_, hf⟩
  · have htu : trailOk (upTo t hi) := trailOk_filter _ t ht
    have hb : backGo l (dropV t hi) = some p := by
      unfold atV at h
      rw [if_pos ⟨hl, ht⟩, if_neg (by omega)] at h
      cases hb : backGo l (dropV t hi) with
      | none => rw [hb] at h; simp at h
      | some q => rw [hb] at h; simp at h; rw [h]
    unfold atV
    have hs : dropV t lo = dropV (upTo t hi) lo ++ dropV t hi := by rw [dropV_ok ht, dropV_ok htu, dropV_ok ht, split_at hlh t none ht]
    rw [if_pos (⟨hl, ht⟩ : pairsOk l ∧ trailOk t), if_pos (⟨hpo, htu⟩ : pairsOk p ∧ trailOk (upTo t hi)), hs, backGo_app, hb]
    rfl
  · omega

set_option maxRecDepth 10000 in
set_option maxHeartbeats 16000000 in
theorem law_HopsP (l : List Pair) (t : List Change) (a b : Int) (hl : l.length ≤ maxLen) (ht : t.length ≤ maxLen) :
    Ct Try.prog 5 (YtnhkknaplkjigaaVm.ops [.row (l.map Pair.pv), .row (t.map Change.pv), .int .i64 a, .int .i64 b]) (.vals [.bool true]) := by
  have aw := law18_awake
  have minI : ∀ a b : Int, (if b < a then b else a) = min a b := fun a b => by simp only [Int.min_def]; split <;> split <;> omega
  have maxI : ∀ a b : Int, (if b > a then b else a) = max a b := fun a b => by simp only [Int.max_def]; split <;> split <;> omega
  have hlh : min a b ≤ max a b := by omega
  simp only [maxLen] at hl ht
  refine Ct.of_V Try.func5 rfl (by simp [YtnhkknaplkjigaaVm.ops, Try.f5]) ?_
  refine V.exec 400 ?_
  simp (config := {contextual := true}) only [go_sem, ↓reduceIte, reduceCtorEq, Bool.false_eq_true, Bool.true_eq_false, Nat.reduceAdd, Nat.reduceLT, Nat.reduceEqDiff, Nat.reduceLeDiff, Nat.reduceSub, Nat.reduceMul, Try.f5]
  refine V.call rfl rfl (by simp [dOK]) ⟨8, [], by simp only [go_sem, ↓reduceIte, reduceCtorEq, Bool.false_eq_true, Bool.true_eq_false, Nat.reduceAdd, Nat.reduceLT, Nat.reduceEqDiff, Nat.reduceLeDiff, Nat.reduceSub, Nat.reduceMul], ⟨_, rfl, rfl, rfl⟩, .inl ⟨[.row (l.map Pair.pv), .row (t.map Change.pv)], _, .inl (by simp only [go_sem, ↓reduceIte, reduceCtorEq, Bool.false_eq_true, Bool.true_eq_false, Nat.reduceAdd, Nat.reduceLT, Nat.reduceEqDiff, Nat.reduceLeDiff, Nat.reduceSub, Nat.reduceMul]), law18_small l t (by omega) (by omega), .inl ⟨_, rfl, rfl, rfl, rfl⟩⟩⟩ ?_
  refine V.exec 400 ?_
  by_cases h1 : smallPC l t
  · have hl60 := h1.1
    have ht60 := h1.2.1
    have d1 := past_At l t (min a b) (max a b) (by omega) (by omega)
    have d3 := past_At l t (min a b) (min a b) (by omega) (by omega)
    have hal := atV_len l t (min a b) (max a b)
    have hal3 := atV_len l t (min a b) (min a b)
    have hf := atV_facts l t (min a b) (max a b)
    have hh := @at_hops l t (min a b) (max a b)
    simp (config := {contextual := true}) only [go_sem, ↓reduceIte, reduceCtorEq, Bool.false_eq_true, Bool.true_eq_false, Nat.reduceAdd, Nat.reduceLT, Nat.reduceEqDiff, Nat.reduceLeDiff, Nat.reduceSub, Nat.reduceMul, h1, minI, maxI]
    generalize min a b = lo at *
    generalize max a b = hi at *
    obtain ⟨p, e, hp⟩ : ∃ p e, atV l t lo hi = (p, e) := ⟨_, _, rfl⟩
    rw [hp] at d1 hal hf
    simp only at d1 hal hf
    refine V.call rfl rfl (by simp [dOK]) ⟨10, [], by simp only [go_sem, ↓reduceIte, reduceCtorEq, Bool.false_eq_true, Bool.true_eq_false, Nat.reduceAdd, Nat.reduceLT, Nat.reduceEqDiff, Nat.reduceLeDiff, Nat.reduceSub, Nat.reduceMul], ⟨_, rfl, rfl, rfl⟩, .inl ⟨[.row (l.map Pair.pv), .row (t.map Change.pv), .int .i64 lo, .int .i64 hi], _, .inl (by simp only [go_sem, ↓reduceIte, reduceCtorEq, Bool.false_eq_true, Bool.true_eq_false, Nat.reduceAdd, Nat.reduceLT, Nat.reduceEqDiff, Nat.reduceLeDiff, Nat.reduceSub, Nat.reduceMul]), d1, .inr (.inl ⟨_, rfl, rfl, rfl⟩)⟩⟩ ?_
    refine V.exec 400 ?_
    by_cases he : e = 0
    · subst he
      have hv := hh hlh hp
      have d2 := past_At p (upTo t hi) lo lo (by omega) (Nat.le_trans (List.length_filter_le _ _) (by omega))
      rw [hv] at d2
      obtain ⟨q, g, hq⟩ : ∃ p e, atV l t lo lo = (p, e) := ⟨_, _, rfl⟩
      rw [hq] at d2 d3 hal3
      simp only at d2 d3 hal3
      simp (config := {contextual := true}) only [go_sem, ↓reduceIte, reduceCtorEq, Bool.false_eq_true, Bool.true_eq_false, Nat.reduceAdd, Nat.reduceLT, Nat.reduceEqDiff, Nat.reduceLeDiff, Nat.reduceSub, Nat.reduceMul]
      refine V.loop (fun m ls os => ∃ (i : Nat), i ≤ t.length ∧ m = t.length - i ∧
          ls = [(0, .val (.row (l.map Pair.pv))), (1, .val (.row (t.map Change.pv))), (9, .val (.int .i64 lo)), (10, .val (.int .i64 hi)), (11, .val (.row (p.map Pair.pv))), (13, .ref 0), (47, .val (.row (t.map Change.pv))), (48, .val (.int .i64 t.length)), (49, .val (.int .i64 i))] ∧ os = [.row 46 ((upTo (t.take i) hi).map Change.pv)]) 1 t.length
        [(0, .val (.row (l.map Pair.pv))), (1, .val (.row (t.map Change.pv))), (9, .val (.int .i64 lo)), (10, .val (.int .i64 hi)), (11, .val (.row (p.map Pair.pv))), (13, .ref 0), (47, .val (.row (t.map Change.pv))), (48, .val (.int .i64 t.length)), (49, .val (.int .i64 0))] [.row 46 []] [none]
        ⟨0, Nat.zero_le _, rfl, rfl, rfl⟩ (by simp only [go_sem, ↓reduceIte, reduceCtorEq, Bool.false_eq_true, Bool.true_eq_false, Nat.reduceAdd, Nat.reduceLT, Nat.reduceEqDiff, Nat.reduceLeDiff, Nat.reduceSub, Nat.reduceMul]; try decide) ?_
      rintro m ls os ⟨i, hi', rfl, rfl, rfl⟩
      refine V.exec 400 ?_
      by_cases hlt : i < t.length
      · have hlt' : (i : Int) < (t.length : Int) := by omega
        obtain ⟨x, hx⟩ : ∃ x, t[i]? = some x := ⟨_, List.getElem?_eq_getElem hlt⟩
        have hw : IntKind.i64.wrap ((i : Int) + 1) = ((i + 1 : Nat) : Int) := by rw [wrap_small3] <;> omega
        have hn := upTo_snoc hx hi
        have hul : (upTo (t.take i) hi).length ≤ t.length := Nat.le_trans (List.length_filter_le _ _) (by rw [List.length_take]; omega)
        generalize upTo (t.take i) hi = L at *
        by_cases hs : x.seq ≤ hi
        · rw [if_pos hs] at hn
          simp (config := {contextual := true}) only [go_sem, ↓reduceIte, reduceCtorEq, Bool.false_eq_true, Bool.true_eq_false, Nat.reduceAdd, Nat.reduceLT, Nat.reduceEqDiff, Nat.reduceLeDiff, Nat.reduceSub, Nat.reduceMul, hlt', hx, Change.pv, hs, hw]
          refine ⟨⟨by omega, by omega⟩, t.length - (i + 1), _, _, [some 13], by omega, ⟨i + 1, by omega, rfl, rfl, rfl⟩, ?_⟩
          simp only [go_sem, ↓reduceIte, reduceCtorEq, Bool.false_eq_true, Bool.true_eq_false, Nat.reduceAdd, Nat.reduceLT, Nat.reduceEqDiff, Nat.reduceLeDiff, Nat.reduceSub, Nat.reduceMul, hn, List.map_append, List.map_cons, List.map_nil, Change.pv]
          try decide
        · rw [if_neg hs] at hn
          simp (config := {contextual := true}) only [go_sem, ↓reduceIte, reduceCtorEq, Bool.false_eq_true, Bool.true_eq_false, Nat.reduceAdd, Nat.reduceLT, Nat.reduceEqDiff, Nat.reduceLeDiff, Nat.reduceSub, Nat.reduceMul, hlt', hx, Change.pv, hs, hw]
          refine ⟨t.length - (i + 1), _, _, [some 0], by omega, ⟨i + 1, by omega, rfl, rfl, rfl⟩, ?_⟩
          simp only [go_sem, ↓reduceIte, reduceCtorEq, Bool.false_eq_true, Bool.true_eq_false, Nat.reduceAdd, Nat.reduceLT, Nat.reduceEqDiff, Nat.reduceLeDiff, Nat.reduceSub, Nat.reduceMul, hn]
          try decide
      · have hlt' : ¬ (i : Int) < (t.length : Int) := by omega
        rw [List.take_of_length_le (by omega)]
        generalize upTo t hi = L at *
        simp (config := {contextual := true}) only [go_sem, ↓reduceIte, reduceCtorEq, Bool.false_eq_true, Bool.true_eq_false, Nat.reduceAdd, Nat.reduceLT, Nat.reduceEqDiff, Nat.reduceLeDiff, Nat.reduceSub, Nat.reduceMul, hlt']
        refine V.call rfl rfl (by simp [dOK]) ⟨10, [], by simp only [go_sem, ↓reduceIte, reduceCtorEq, Bool.false_eq_true, Bool.true_eq_false, Nat.reduceAdd, Nat.reduceLT, Nat.reduceEqDiff, Nat.reduceLeDiff, Nat.reduceSub, Nat.reduceMul], ⟨_, rfl, rfl, rfl⟩, .inl ⟨[.row (p.map Pair.pv), .row (L.map Change.pv), .int .i64 lo, .int .i64 lo], _, .inl (by simp only [go_sem, ↓reduceIte, reduceCtorEq, Bool.false_eq_true, Bool.true_eq_false, Nat.reduceAdd, Nat.reduceLT, Nat.reduceEqDiff, Nat.reduceLeDiff, Nat.reduceSub, Nat.reduceMul]), d2, .inr (.inl ⟨_, rfl, rfl, rfl⟩)⟩⟩ ?_
        refine V.exec 400 ?_
        simp (config := {contextual := true}) only [go_sem, ↓reduceIte, reduceCtorEq, Bool.false_eq_true, Bool.true_eq_false, Nat.reduceAdd, Nat.reduceLT, Nat.reduceEqDiff, Nat.reduceLeDiff, Nat.reduceSub, Nat.reduceMul]
        refine V.call rfl rfl (by simp [dOK]) ⟨10, [], by simp only [go_sem, ↓reduceIte, reduceCtorEq, Bool.false_eq_true, Bool.true_eq_false, Nat.reduceAdd, Nat.reduceLT, Nat.reduceEqDiff, Nat.reduceLeDiff, Nat.reduceSub, Nat.reduceMul], ⟨_, rfl, rfl, rfl⟩, .inl ⟨[.row (l.map Pair.pv), .row (t.map Change.pv), .int .i64 lo, .int .i64 lo], _, .inl (by simp only [go_sem, ↓reduceIte, reduceCtorEq, Bool.false_eq_true, Bool.true_eq_false, Nat.reduceAdd, Nat.reduceLT, Nat.reduceEqDiff, Nat.reduceLeDiff, Nat.reduceSub, Nat.reduceMul]), d3, .inr (.inl ⟨_, rfl, rfl, rfl⟩)⟩⟩ ?_
        refine V.exec 400 ?_
        simp (config := {contextual := true}) only [go_sem, ↓reduceIte, reduceCtorEq, Bool.false_eq_true, Bool.true_eq_false, Nat.reduceAdd, Nat.reduceLT, Nat.reduceEqDiff, Nat.reduceLeDiff, Nat.reduceSub, Nat.reduceMul]
        refine V.call rfl rfl (by simp [dOK]) ⟨16, [], by simp only [go_sem, ↓reduceIte, reduceCtorEq, Bool.false_eq_true, Bool.true_eq_false, Nat.reduceAdd, Nat.reduceLT, Nat.reduceEqDiff, Nat.reduceLeDiff, Nat.reduceSub, Nat.reduceMul], ⟨_, rfl, rfl, rfl⟩, .inl ⟨[.row (q.map Pair.pv), .row (q.map Pair.pv)], _, .inl (by simp only [go_sem, ↓reduceIte, reduceCtorEq, Bool.false_eq_true, Bool.true_eq_false, Nat.reduceAdd, Nat.reduceLT, Nat.reduceEqDiff, Nat.reduceLeDiff, Nat.reduceSub, Nat.reduceMul]), ref03_Same q q (by omega), .inl ⟨_, rfl, rfl, rfl, rfl⟩⟩⟩ ?_
        refine V.exec 400 ?_
        simp (config := {contextual := true}) only [go_sem, ↓reduceIte, reduceCtorEq, Bool.false_eq_true, Bool.true_eq_false, Nat.reduceAdd, Nat.reduceLT, Nat.reduceEqDiff, Nat.reduceLeDiff, Nat.reduceSub, Nat.reduceMul, decide_true]
        refine V.call rfl rfl (by simp [dOK]) ⟨9, [], by simp only [go_sem, ↓reduceIte, reduceCtorEq, Bool.false_eq_true, Bool.true_eq_false, Nat.reduceAdd, Nat.reduceLT, Nat.reduceEqDiff, Nat.reduceLeDiff, Nat.reduceSub, Nat.reduceMul], ⟨_, rfl, rfl, rfl⟩, .inl ⟨[], _, .inl (by simp only [go_sem, ↓reduceIte, reduceCtorEq, Bool.false_eq_true, Bool.true_eq_false, Nat.reduceAdd, Nat.reduceLT, Nat.reduceEqDiff, Nat.reduceLeDiff, Nat.reduceSub, Nat.reduceMul]), aw, .inl ⟨_, rfl, rfl, rfl, rfl⟩⟩⟩ ?_
        refine V.exec 400 ?_
        simp (config := {contextual := true}) only [go_sem, ↓reduceIte, reduceCtorEq, Bool.false_eq_true, Bool.true_eq_false, Nat.reduceAdd, Nat.reduceLT, Nat.reduceEqDiff, Nat.reduceLeDiff, Nat.reduceSub, Nat.reduceMul]
    · rcases hf with ⟨h, _⟩ | ⟨rfl, _⟩
      · exact absurd h he
      · have n0 : ((0 : Nat) : Int) = 0 := rfl
        simp (config := {contextual := true}) only [go_sem, ↓reduceIte, reduceCtorEq, Bool.false_eq_true, Bool.true_eq_false, Nat.reduceAdd, Nat.reduceLT, Nat.reduceEqDiff, Nat.reduceLeDiff, Nat.reduceSub, Nat.reduceMul, he, n0, List.map_nil, List.length_nil, decide_true]
        refine V.call rfl rfl (by simp [dOK]) ⟨9, [], by simp only [go_sem, ↓reduceIte, reduceCtorEq, Bool.false_eq_true, Bool.true_eq_false, Nat.reduceAdd, Nat.reduceLT, Nat.reduceEqDiff, Nat.reduceLeDiff, Nat.reduceSub, Nat.reduceMul], ⟨_, rfl, rfl, rfl⟩, .inl ⟨[], _, .inl (by simp only [go_sem, ↓reduceIte, reduceCtorEq, Bool.false_eq_true, Bool.true_eq_false, Nat.reduceAdd, Nat.reduceLT, Nat.reduceEqDiff, Nat.reduceLeDiff, Nat.reduceSub, Nat.reduceMul]), aw, .inl ⟨_, rfl, rfl, rfl, rfl⟩⟩⟩ ?_
        refine V.exec 400 ?_
        simp (config := {contextual := true}) only [go_sem, ↓reduceIte, reduceCtorEq, Bool.false_eq_true, Bool.true_eq_false, Nat.reduceAdd, Nat.reduceLT, Nat.reduceEqDiff, Nat.reduceLeDiff, Nat.reduceSub, Nat.reduceMul]
  · simp (config := {contextual := true}) only [go_sem, ↓reduceIte, reduceCtorEq, Bool.false_eq_true, Bool.true_eq_false, Nat.reduceAdd, Nat.reduceLT, Nat.reduceEqDiff, Nat.reduceLeDiff, Nat.reduceSub, Nat.reduceMul, h1]
    refine V.call rfl rfl (by simp [dOK]) ⟨9, [], by simp only [go_sem, ↓reduceIte, reduceCtorEq, Bool.false_eq_true, Bool.true_eq_false, Nat.reduceAdd, Nat.reduceLT, Nat.reduceEqDiff, Nat.reduceLeDiff, Nat.reduceSub, Nat.reduceMul], ⟨_, rfl, rfl, rfl⟩, .inl ⟨[], _, .inl (by simp only [go_sem, ↓reduceIte, reduceCtorEq, Bool.false_eq_true, Bool.true_eq_false, Nat.reduceAdd, Nat.reduceLT, Nat.reduceEqDiff, Nat.reduceLeDiff, Nat.reduceSub, Nat.reduceMul]), aw, .inl ⟨_, rfl, rfl, rfl, rfl⟩⟩⟩ ?_
    refine V.exec 400 ?_
    simp (config := {contextual := true}) only [go_sem, ↓reduceIte, reduceCtorEq, Bool.false_eq_true, Bool.true_eq_false, Nat.reduceAdd, Nat.reduceLT, Nat.reduceEqDiff, Nat.reduceLeDiff, Nat.reduceSub, Nat.reduceMul]
theorem ctHopsP (xs0 : List PV) (l0 : xs0.length ≤ maxLen) (h0 : ∀ x ∈ xs0, ∃ qs, x = .agg qs ∧ qs.map PV.kd = [.str, .str] ∧ ∀ q ∈ qs, q.wfv)
    (xs1 : List PV) (l1 : xs1.length ≤ maxLen) (h1 : ∀ x ∈ xs1, ∃ qs, x = .agg qs ∧ qs.map PV.kd = [.int .i64, .str, .bool, .str, .bool, .str] ∧ ∀ q ∈ qs, q.wfv)
    (a2 : Int) (w2 : (Lit.int .i64 a2).wf = true) (a3 : Int) (w3 : (Lit.int .i64 a3).wf = true) :
    Ct Try.prog 5 (YtnhkknaplkjigaaVm.ops [.row xs0, .row xs1, .int .i64 a2, .int .i64 a3]) (.vals [.bool true]) := by
  obtain ⟨l, rfl⟩ := pair_of xs0 h0
  obtain ⟨t, rfl⟩ := change_of' xs1 h1
  exact law_HopsP l t a2 a3 (by simpa using l0) (by simpa using l1)
end Go.Proofs.Ytnhkknaplkjigaa
