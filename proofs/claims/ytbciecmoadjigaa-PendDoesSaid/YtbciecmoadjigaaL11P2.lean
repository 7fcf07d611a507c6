/- A part of a proof: functions of the program, walked. -/
import Derived.Test.YtbciecmoadjigaaL11C1
set_option linter.unusedVariables false
set_option linter.unusedSimpArgs false
namespace Go.Proofs.Ytbciecmoadjigaa
open Go Go.Proofs Go.Proofs.YtbciecmoadjigaaVm Go.Proofs.Ytbciecmoadjigaa.Ty

theorem splitV_flat : ∀ (ls : List (List UInt8)) (l : List Note), ls ≠ [] → (splitV l ls).flatten = l
  | [], _, h => absurd rfl h
  | [_], l, _ => by simp [splitV]
  | _ :: t :: r, l, _ => by rw [splitV, List.flatten_cons, splitV_flat (t :: r) _ (by simp), List.take_append_drop]
theorem splitR_flat {l : List Note} {ls : List (List UInt8)} (h : splitR l ls ≠ []) : (splitR l ls).flatten = l := by
  unfold splitR at h ⊢
  split
  · rename_i hc
    exact splitV_flat ls l hc.2.2
  · rename_i hc
    rw [if_neg hc] at h
    exact absurd rfl h

set_option maxRecDepth 10000 in
set_option maxHeartbeats 16000000 in
theorem law_Most (l : List Note) (lows : List (List UInt8)) (hl : l.length ≤ maxLen) (hw : lows.length ≤ maxLen) :
    Ct Try.prog 7 (YtbciecmoadjigaaVm.ops [.row (l.map Note.pv), .row (lows.map PV.str)]) (.vals [.bool true]) := by
  have aw := law11_awake
  refine Ct.of_V Try.func7 rfl (by simp [YtbciecmoadjigaaVm.ops, Try.f7]) ?_
  refine V.exec 400 ?_
  simp (config := {contextual := true}) only [go_sem, ↓reduceIte, reduceCtorEq, Bool.false_eq_true, Bool.true_eq_false, Nat.reduceAdd, Nat.reduceLT, Nat.reduceEqDiff, Nat.reduceLeDiff, Nat.reduceSub, Nat.reduceMul, Try.f7]
  refine V.call rfl rfl (by simp [dOK]) ⟨9, [], by simp only [go_sem, ↓reduceIte, reduceCtorEq, Bool.false_eq_true, Bool.true_eq_false, Nat.reduceAdd, Nat.reduceLT, Nat.reduceEqDiff, Nat.reduceLeDiff, Nat.reduceSub, Nat.reduceMul], ⟨_, rfl, rfl, rfl⟩, .inl ⟨[.row (l.map Note.pv)], _, .inl (by simp only [go_sem, ↓reduceIte, reduceCtorEq, Bool.false_eq_true, Bool.true_eq_false, Nat.reduceAdd, Nat.reduceLT, Nat.reduceEqDiff, Nat.reduceLeDiff, Nat.reduceSub, Nat.reduceMul]), law11_few l (by simp only [maxLen] at hl; omega), .inl ⟨_, rfl, rfl, rfl, rfl⟩⟩⟩ ?_
  refine V.exec 400 ?_
  by_cases h1 : fewN l
  · have hl60 := h1.1
    by_cases h20 : lows.length ≤ 20
    · have h20' : ¬ (20 : Int) < (lows.length : Int) := by omega
      have c1 := pend_Split l lows (by omega) (by omega)
      have c2 := pend_Most l lows (by omega) (by omega)
      have hsl := splitR_len l lows
      have hfl := @splitR_flat l lows
      unfold mostV at c2
      generalize splitR l lows = S at *
      have hle := bestV_le S S.length
      have hfi := bestV_first S S.length
      have hlt0 := bestV_lt S S.length (Nat.le_refl _)
      have hz0 : S = [] → bestV S S.length = 0 := fun h => by rw [h]; rfl
      generalize bestV S S.length = B at *
      simp (config := {contextual := true}) only [go_sem, ↓reduceIte, reduceCtorEq, Bool.false_eq_true, Bool.true_eq_false, Nat.reduceAdd, Nat.reduceLT, Nat.reduceEqDiff, Nat.reduceLeDiff, Nat.reduceSub, Nat.reduceMul, h1, h20']
      refine V.call rfl rfl (by simp [dOK]) ⟨17, [], by simp only [go_sem, ↓reduceIte, reduceCtorEq, Bool.false_eq_true, Bool.true_eq_false, Nat.reduceAdd, Nat.reduceLT, Nat.reduceEqDiff, Nat.reduceLeDiff, Nat.reduceSub, Nat.reduceMul], ⟨_, rfl, rfl, rfl⟩, .inl ⟨[.row (l.map Note.pv), .row (lows.map PV.str)], _, .inl (by simp only [go_sem, ↓reduceIte, reduceCtorEq, Bool.false_eq_true, Bool.true_eq_false, Nat.reduceAdd, Nat.reduceLT, Nat.reduceEqDiff, Nat.reduceLeDiff, Nat.reduceSub, Nat.reduceMul]), c1, .inr (.inl ⟨_, rfl, rfl, rfl⟩)⟩⟩ ?_
      refine V.exec 400 ?_
      simp (config := {contextual := true}) only [go_sem, ↓reduceIte, reduceCtorEq, Bool.false_eq_true, Bool.true_eq_false, Nat.reduceAdd, Nat.reduceLT, Nat.reduceEqDiff, Nat.reduceLeDiff, Nat.reduceSub, Nat.reduceMul]
      refine V.call rfl rfl (by simp [dOK]) ⟨18, [], by simp only [go_sem, ↓reduceIte, reduceCtorEq, Bool.false_eq_true, Bool.true_eq_false, Nat.reduceAdd, Nat.reduceLT, Nat.reduceEqDiff, Nat.reduceLeDiff, Nat.reduceSub, Nat.reduceMul], ⟨_, rfl, rfl, rfl⟩, .inl ⟨[.row (l.map Note.pv), .row (lows.map PV.str)], _, .inl (by simp only [go_sem, ↓reduceIte, reduceCtorEq, Bool.false_eq_true, Bool.true_eq_false, Nat.reduceAdd, Nat.reduceLT, Nat.reduceEqDiff, Nat.reduceLeDiff, Nat.reduceSub, Nat.reduceMul]), c2, .inl ⟨_, rfl, rfl, rfl, rfl⟩⟩⟩ ?_
      refine V.exec 400 ?_
      by_cases h0 : S.length = 0
      · have h0' : (S.length : Int) = 0 := by omega
        have hz := hz0 (List.eq_nil_of_length_eq_zero h0)
        have hz' : (B : Int) = 0 := by omega
        simp (config := {contextual := true}) only [go_sem, ↓reduceIte, reduceCtorEq, Bool.false_eq_true, Bool.true_eq_false, Nat.reduceAdd, Nat.reduceLT, Nat.reduceEqDiff, Nat.reduceLeDiff, Nat.reduceSub, Nat.reduceMul, h0', hz', decide_true]
        refine V.call rfl rfl (by simp [dOK]) ⟨10, [], by simp only [go_sem, ↓reduceIte, reduceCtorEq, Bool.false_eq_true, Bool.true_eq_false, Nat.reduceAdd, Nat.reduceLT, Nat.reduceEqDiff, Nat.reduceLeDiff, Nat.reduceSub, Nat.reduceMul], ⟨_, rfl, rfl, rfl⟩, .inl ⟨[], _, .inl (by simp only [go_sem, ↓reduceIte, reduceCtorEq, Bool.false_eq_true, Bool.true_eq_false, Nat.reduceAdd, Nat.reduceLT, Nat.reduceEqDiff, Nat.reduceLeDiff, Nat.reduceSub, Nat.reduceMul]), aw, .inl ⟨_, rfl, rfl, rfl, rfl⟩⟩⟩ ?_
        refine V.exec 400 ?_
        simp (config := {contextual := true}) only [go_sem, ↓reduceIte, reduceCtorEq, Bool.false_eq_true, Bool.true_eq_false, Nat.reduceAdd, Nat.reduceLT, Nat.reduceEqDiff, Nat.reduceLeDiff, Nat.reduceSub, Nat.reduceMul]
      · have h0' : ¬ (S.length : Int) = 0 := by omega
        have hB := hlt0 (by omega)
        have hB' : ¬ (S.length : Int) ≤ (B : Int) := by omega
        have hBn : ¬ (B : Int) < 0 := by omega
        have hfl' := hfl (fun e => h0 (by rw [e]; rfl))
        have hfe : ∀ i, (S.take i).flatten.length ≤ 60 := fun i => by
          have : S.flatten = (S.take i).flatten ++ (S.drop i).flatten := by
            rw [← List.flatten_append, List.take_append_drop]
          have h2 : (S.take i).flatten.length ≤ S.flatten.length := by rw [this, List.length_append]; omega
          rw [hfl'] at h2; omega
        obtain ⟨y, hy⟩ : ∃ x, S[B]? = some x := ⟨_, List.getElem?_eq_getElem hB⟩
        have hBl : (B : Int) < (S.length : Int) := by omega
        simp (config := {contextual := true}) only [go_sem, ↓reduceIte, reduceCtorEq, Bool.false_eq_true, Bool.true_eq_false, Nat.reduceAdd, Nat.reduceLT, Nat.reduceEqDiff, Nat.reduceLeDiff, Nat.reduceSub, Nat.reduceMul, h0', hB', hBn, hBl]
        refine V.loop (fun m ls os => ∃ i : Nat, i ≤ S.length ∧ m = S.length - i ∧
            ls = [(0, .val (.row (l.map Note.pv))), (5, .val (.row (S.map rowN))), (6, .val (.int .i64 B)), (7, .ref 0), (41, .val (.row (S.map rowN))), (42, .val (.int .i64 S.length)), (43, .val (.int .i64 i))] ∧
            os = [.row 32 ((S.take i).flatten.map Note.pv)]) 1 S.length
          [(0, .val (.row (l.map Note.pv))), (5, .val (.row (S.map rowN))), (6, .val (.int .i64 B)), (7, .ref 0), (41, .val (.row (S.map rowN))), (42, .val (.int .i64 S.length)), (43, .val (.int .i64 0))] [.row 32 []] [none]
          ⟨0, Nat.zero_le _, rfl, rfl, rfl⟩ (by simp only [go_sem, ↓reduceIte, reduceCtorEq, Bool.false_eq_true, Bool.true_eq_false, Nat.reduceAdd, Nat.reduceLT, Nat.reduceEqDiff, Nat.reduceLeDiff, Nat.reduceSub, Nat.reduceMul]; try decide) ?_
        rintro m ls os ⟨i, hi, rfl, rfl, rfl⟩
        refine V.exec 400 ?_
        by_cases hlt : i < S.length
        · have hlt' : (i : Int) < (S.length : Int) := by omega
          obtain ⟨q, hq⟩ : ∃ x, S[i]? = some x := ⟨_, List.getElem?_eq_getElem hlt⟩
          have hw : IntKind.i64.wrap ((i : Int) + 1) = ((i + 1 : Nat) : Int) := by rw [wrap_small3] <;> omega
          have hf1 := hfe i
          have hf2 := hfe (i + 1)
          have hts : (S.take (i + 1)).flatten = (S.take i).flatten ++ q := by
            rw [List.take_add_one, hq, List.flatten_append]; simp
          rw [hts, List.length_append] at hf2
          have k1 := hle i hlt
          rw [getD_of hq, getD_of hy] at k1
          have k1' : ¬ (y.length : Int) < (q.length : Int) := by omega
          generalize hY : (S.take i).flatten = Y at *
          by_cases he : q.length = y.length
          · have he' : (q.length : Int) = (y.length : Int) := by omega
            have k2 : ¬ i < B := fun h => by
              have := hfi i h
              rw [getD_of hq, getD_of hy] at this
              omega
            have k2' : ¬ (i : Int) < (B : Int) := by omega
            have k3 : ¬ (y.length : Int) < (y.length : Int) := by omega
            simp (config := {contextual := true}) only [go_sem, ↓reduceIte, reduceCtorEq, Bool.false_eq_true, Bool.true_eq_false, Nat.reduceAdd, Nat.reduceLT, Nat.reduceEqDiff, Nat.reduceLeDiff, Nat.reduceSub, Nat.reduceMul, hlt', hq, hy, hBl, rowN, hw, hY, k3, he', k2', k1']
            refine ⟨fun j _ => rfl, ⟨by omega, by omega⟩, S.length - (i + 1), _, _, [some 32], by omega, ⟨i + 1, by omega, rfl, rfl, rfl⟩, ?_⟩
            simp only [go_sem, ↓reduceIte, reduceCtorEq, Bool.false_eq_true, Bool.true_eq_false, Nat.reduceAdd, Nat.reduceLT, Nat.reduceEqDiff, Nat.reduceLeDiff, Nat.reduceSub, Nat.reduceMul, hts, List.map_append]
            try decide
          · have he' : ¬ (q.length : Int) = (y.length : Int) := by omega
            simp (config := {contextual := true}) only [go_sem, ↓reduceIte, reduceCtorEq, Bool.false_eq_true, Bool.true_eq_false, Nat.reduceAdd, Nat.reduceLT, Nat.reduceEqDiff, Nat.reduceLeDiff, Nat.reduceSub, Nat.reduceMul, hlt', hq, hy, hBl, rowN, hw, hY, he', k1']
            refine ⟨fun j _ => rfl, ⟨by omega, by omega⟩, S.length - (i + 1), _, _, [some 32], by omega, ⟨i + 1, by omega, rfl, rfl, rfl⟩, ?_⟩
            simp only [go_sem, ↓reduceIte, reduceCtorEq, Bool.false_eq_true, Bool.true_eq_false, Nat.reduceAdd, Nat.reduceLT, Nat.reduceEqDiff, Nat.reduceLeDiff, Nat.reduceSub, Nat.reduceMul, hts, List.map_append]
            try decide
        · have hlt' : ¬ (i : Int) < (S.length : Int) := by omega
          rw [List.take_of_length_le (by omega), hfl']
          simp (config := {contextual := true}) only [go_sem, ↓reduceIte, reduceCtorEq, Bool.false_eq_true, Bool.true_eq_false, Nat.reduceAdd, Nat.reduceLT, Nat.reduceEqDiff, Nat.reduceLeDiff, Nat.reduceSub, Nat.reduceMul, hlt']
          refine V.call rfl rfl (by simp [dOK]) ⟨16, [], by simp only [go_sem, ↓reduceIte, reduceCtorEq, Bool.false_eq_true, Bool.true_eq_false, Nat.reduceAdd, Nat.reduceLT, Nat.reduceEqDiff, Nat.reduceLeDiff, Nat.reduceSub, Nat.reduceMul], ⟨_, rfl, rfl, rfl⟩, .inl ⟨[.row (l.map Note.pv), .row (l.map Note.pv)], _, .inl (by simp only [go_sem, ↓reduceIte, reduceCtorEq, Bool.false_eq_true, Bool.true_eq_false, Nat.reduceAdd, Nat.reduceLT, Nat.reduceEqDiff, Nat.reduceLeDiff, Nat.reduceSub, Nat.reduceMul]), ref09_Same l l (by omega), .inl ⟨_, rfl, rfl, rfl, rfl⟩⟩⟩ ?_
          refine V.exec 400 ?_
          simp (config := {contextual := true}) only [go_sem, ↓reduceIte, reduceCtorEq, Bool.false_eq_true, Bool.true_eq_false, Nat.reduceAdd, Nat.reduceLT, Nat.reduceEqDiff, Nat.reduceLeDiff, Nat.reduceSub, Nat.reduceMul, decide_true]
          refine V.call rfl rfl (by simp [dOK]) ⟨10, [], by simp only [go_sem, ↓reduceIte, reduceCtorEq, Bool.false_eq_true, Bool.true_eq_false, Nat.reduceAdd, Nat.reduceLT, Nat.reduceEqDiff, Nat.reduceLeDiff, Nat.reduceSub, Nat.reduceMul], ⟨_, rfl, rfl, rfl⟩, .inl ⟨[], _, .inl (by simp only [go_sem, ↓reduceIte, reduceCtorEq, Bool.false_eq_true, Bool.true_eq_false, Nat.reduceAdd, Nat.reduceLT, Nat.reduceEqDiff, Nat.reduceLeDiff, Nat.reduceSub, Nat.reduceMul]), aw, .inl ⟨_, rfl, rfl, rfl, rfl⟩⟩⟩ ?_
          refine V.exec 400 ?_
          simp (config := {contextual := true}) only [go_sem, ↓reduceIte, reduceCtorEq, Bool.false_eq_true, Bool.true_eq_false, Nat.reduceAdd, Nat.reduceLT, Nat.reduceEqDiff, Nat.reduceLeDiff, Nat.reduceSub, Nat.reduceMul]
    · have h20' : (20 : Int) < (lows.length : Int) := by omega
      simp (config := {contextual := true}) only [go_sem, ↓reduceIte, reduceCtorEq, Bool.false_eq_true, Bool.true_eq_false, Nat.reduceAdd, Nat.reduceLT, Nat.reduceEqDiff, Nat.reduceLeDiff, Nat.reduceSub, Nat.reduceMul, h1, h20']
      refine V.call rfl rfl (by simp [dOK]) ⟨10, [], by simp only [go_sem, ↓reduceIte, reduceCtorEq, Bool.false_eq_true, Bool.true_eq_false, Nat.reduceAdd, Nat.reduceLT, Nat.reduceEqDiff, Nat.reduceLeDiff, Nat.reduceSub, Nat.reduceMul], ⟨_, rfl, rfl, rfl⟩, .inl ⟨[], _, .inl (by simp only [go_sem, ↓reduceIte, reduceCtorEq, Bool.false_eq_true, Bool.true_eq_false, Nat.reduceAdd, Nat.reduceLT, Nat.reduceEqDiff, Nat.reduceLeDiff, Nat.reduceSub, Nat.reduceMul]), aw, .inl ⟨_, rfl, rfl, rfl, rfl⟩⟩⟩ ?_
      refine V.exec 400 ?_
      simp (config := {contextual := true}) only [go_sem, ↓reduceIte, reduceCtorEq, Bool.false_eq_true, Bool.true_eq_false, Nat.reduceAdd, Nat.reduceLT, Nat.reduceEqDiff, Nat.reduceLeDiff, Nat.reduceSub, Nat.reduceMul]
  · simp (config := {contextual := true}) only [go_sem, ↓reduceIte, reduceCtorEq, Bool.false_eq_true, Bool.true_eq_false, Nat.reduceAdd, Nat.reduceLT, Nat.reduceEqDiff, Nat.reduceLeDiff, Nat.reduceSub, Nat.reduceMul, h1]
    refine V.call rfl rfl (by simp [dOK]) ⟨10, [], by simp only [go_sem, ↓reduceIte, reduceCtorEq, Bool.false_eq_true, Bool.true_eq_false, Nat.reduceAdd, Nat.reduceLT, Nat.reduceEqDiff, Nat.reduceLeDiff, Nat.reduceSub, Nat.reduceMul], ⟨_, rfl, rfl, rfl⟩, .inl ⟨[], _, .inl (by simp only [go_sem, ↓reduceIte, reduceCtorEq, Bool.false_eq_true, Bool.true_eq_false, Nat.reduceAdd, Nat.reduceLT, Nat.reduceEqDiff, Nat.reduceLeDiff, Nat.reduceSub, Nat.reduceMul]), aw, .inl ⟨_, rfl, rfl, rfl, rfl⟩⟩⟩ ?_
    refine V.exec 400 ?_
    simp (config := {contextual := true}) only [go_sem, ↓reduceIte, reduceCtorEq, Bool.false_eq_true, Bool.true_eq_false, Nat.reduceAdd, Nat.reduceLT, Nat.reduceEqDiff, Nat.reduceLeDiff, Nat.reduceSub, Nat.reduceMul]

theorem note_one (qs : List PV) (hk : qs.map PV.kd = [.int .i64, .str, .str, .int .u64]) : ∃ s : Note, PV.agg qs = s.pv := by
  match qs, hk with
  | [.int k n, .str a, .str b, .int k' m], hk =>
    simp only [List.map_cons, PV.kd, List.cons.injEq, KD.int.injEq] at hk
    obtain ⟨rfl, _, _, rfl, _⟩ := hk
    exact ⟨⟨n, a, b, m⟩, by simp [Note.pv]⟩
theorem note_of (xs : List PV) (h : ∀ x ∈ xs, ∃ qs, x = .agg qs ∧ qs.map PV.kd = [.int .i64, .str, .str, .int .u64] ∧ ∀ q ∈ qs, q.wfv) : ∃ t : List Note, xs = t.map Note.pv := by
  induction xs with
  | nil => exact ⟨[], rfl⟩
  | cons x r ih =>
    obtain ⟨t, rfl⟩ := ih (fun y hy => h y (List.mem_cons_of_mem _ hy))
    obtain ⟨qs, rfl, hk, hw⟩ := h x List.mem_cons_self
    obtain ⟨s, hs⟩ := note_one qs hk
    exact ⟨s :: t, by simp [hs]⟩
theorem ctMost (xs0 : List PV) (l0 : xs0.length ≤ maxLen) (h0 : ∀ x ∈ xs0, ∃ qs, x = .agg qs ∧ qs.map PV.kd = [.int .i64, .str, .str, .int .u64] ∧ ∀ q ∈ qs, q.wfv) (ls1 : List (List UInt8)) (l1 : ls1.length ≤ maxLen) :
    Ct Try.prog 7 (YtbciecmoadjigaaVm.ops [.row xs0, .row (ls1.map PV.str)]) (.vals [.bool true]) := by
  obtain ⟨l, rfl⟩ := note_of xs0 h0
  exact law_Most l ls1 (by simpa using l0) l1
end Go.Proofs.Ytbciecmoadjigaa
