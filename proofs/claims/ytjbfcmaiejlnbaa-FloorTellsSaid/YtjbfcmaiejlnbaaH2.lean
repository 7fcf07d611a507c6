/- A part of a proof: functions of the program, walked. -/
import Derived.Test.YtjbfcmaiejlnbaaG9
set_option linter.unusedVariables false
set_option linter.unusedSimpArgs false
namespace Go.Proofs.Ytjbfcmaiejlnbaa
open Go Go.Proofs Go.Proofs.YtjbfcmaiejlnbaaVm Go.Proofs.Ytjbfcmaiejlnbaa.Ty

theorem Sub.inj (s t : Sub) : (s.pv = t.pv) = (s = t) := by
  obtain ⟨i, ⟨a, b, c⟩, d, e, f⟩ := s
  obtain ⟨i', ⟨a', b', c'⟩, d', e', f'⟩ := t
  simp [Sub.pv, and_assoc]
theorem rightFrom_set {s : Sub} (hk : s.ok) : ∀ (l : List Sub) (last : Int) (r : Nat) (x : Sub), rightFrom last l → l[r]? = some x → x.id = s.id → rightFrom last (l.set r s)
  | [], _, _, _, h, _, _ => h
  | c :: t, last, 0, x, h, hx, he => by
    simp at hx
    subst hx
    exact ⟨hk, by have := h.2.1; omega, by rw [← he]; exact h.2.2⟩
  | c :: t, last, r + 1, x, h, hx, he => by
    simp at hx
    exact ⟨h.1, h.2.1, rightFrom_set hk t c.id r x h.2.2 hx he⟩
theorem rank_set {s : Sub} {id : Int} : ∀ (l : List Sub) (r : Nat) (x : Sub), l[r]? = some x → x.id = s.id → rank id (l.set r s) = rank id l
  | [], _, _, _, _ => rfl
  | c :: t, 0, x, hx, he => by
    simp at hx
    subst hx
    simp only [List.set_cons_zero, rank, he]
  | c :: t, r + 1, x, hx, he => by
    simp at hx
    simp only [List.set_cons_succ, rank, rank_set t r x hx he]
theorem find_set {s : Sub} {id : Int} (hn : s.id ≠ id) : ∀ (l : List Sub) (r : Nat) (x : Sub), l[r]? = some x → x.id = s.id → findL (l.set r s) id = findL l id
  | [], _, _, _, _ => rfl
  | c :: t, 0, x, hx, he => by
    simp at hx
    subst hx
    have h1 : ¬ c.id = id := by rw [he]; exact hn
    simp [findL, List.find?_cons, h1, hn]
  | c :: t, r + 1, x, hx, he => by
    simp at hx
    have := find_set hn t r x hx he
    simp only [findL, List.set_cons_succ, List.find?_cons] at *
    split
    · rfl
    · exact this
theorem rightFrom_weaken : ∀ (l : List Sub) {a b : Int}, b ≤ a → rightFrom a l → rightFrom b l
  | [], _, _, _, _ => trivial
  | c :: r, a, b, h, ht => ⟨ht.1, by have := ht.2.1; omega, ht.2.2⟩
theorem rightFrom_filter (p : Sub → Bool) : ∀ (l : List Sub) (a : Int), rightFrom a l → rightFrom a (l.filter p)
  | [], _, _ => trivial
  | c :: r, a, ht => by
    rw [List.filter_cons]
    split
    · exact ⟨ht.1, ht.2.1, rightFrom_filter p r _ ht.2.2⟩
    · exact rightFrom_weaken _ (by have := ht.2.1; omega) (rightFrom_filter p r _ ht.2.2)
theorem findV_two {l : List Sub} (hs : subsOk l) (id : Int) : (findV l id).2 = 0 ∨ (findV l id).2 = 3 := by
  unfold findV
  rw [if_pos hs]
  split <;> simp
theorem leave_law {l : List Sub} (hs : subsOk l) (id : Int) : (leaveV l id).2 = (findV l id).2 ∧ (findV (leaveV l id).1 id).2 = 3 ∧ (leaveV l id).1.length ≤ l.length := by
  rcases findV_two hs id with h | h
  · have hv : leaveV l id = (l.filter (fun s => !decide (s.id = id)), 0) := by simp [leaveV, h]
    have hp : subsOk (l.filter (fun s => !decide (s.id = id))) := ⟨rightFrom_filter _ l 0 hs.1, Nat.le_trans (List.length_filter_le _ _) hs.2⟩
    have hf : findL (l.filter (fun s => !decide (s.id = id))) id = none := by
      unfold findL
      rw [List.find?_eq_none]
      intro x hx
      have := (List.mem_filter.1 hx).2
      simp at this
      simp [this]
    rw [hv, h]
    refine ⟨rfl, ?_, List.length_filter_le _ _⟩
    simp only [findV, if_pos hp, hf]
  · have hv : leaveV l id = (l, 3) := by simp [leaveV, h]
    rw [hv, h]
    exact ⟨rfl, rfl, Nat.le_refl _⟩
theorem set_law {l : List Sub} (hs : subsOk l) (s : Sub) (id : Int) : ((setV l s).2 = 0 ∧ id = s.id → findV (setV l s).1 id = (s, 0)) ∧
    (¬ ((setV l s).2 = 0 ∧ id = s.id) → findV (setV l s).1 id = findV l id) ∧ (setV l s).1.length = l.length := by
  by_cases hk : s.ok
  · cases hf : findL l s.id with
    | none =>
      have hv : setV l s = (l, 3) := by simp [setV, hs, hk, hf]
      rw [hv]
      exact ⟨fun h => absurd h.1 (by simp), fun _ => rfl, rfl⟩
    | some x =>
      have hx := (rank_find l hs.1 x).2 hf
      have hv : setV l s = (l.set (rank s.id l) s, 0) := by simp [setV, hs, hk, hf]
      have hrl := (List.getElem?_eq_some_iff.1 hx.1).1
      have hr := rightFrom_set hk l 0 _ x hs.1 hx.1 hx.2
      have hm : subsOk (l.set (rank s.id l) s) := ⟨hr, by rw [List.length_set]; exact hs.2⟩
      rw [hv]
      refine ⟨fun h => ?_, fun h => ?_, List.length_set⟩
      · have := (rank_find (id := s.id) (l.set (rank s.id l) s) hr s).1 ⟨by rw [rank_set l _ x hx.1 hx.2, List.getElem?_set_self hrl], rfl⟩
        rw [h.2]
        simp only [findV, if_pos hm, this]
      · have hn : s.id ≠ id := fun e => h ⟨rfl, e.symm⟩
        simp only [findV, if_pos hm, if_pos hs, find_set hn l _ x hx.1 hx.2]
  · have hv : setV l s = (l, 1) := by simp [setV, hk]
    rw [hv]
    exact ⟨fun h => absurd h.1 (by simp), fun _ => rfl, rfl⟩

set_option maxRecDepth 10000 in
set_option maxHeartbeats 8000000 in
theorem law_Sets (l : List Sub) (s : Sub) (id : Int) (hl : l.length ≤ maxLen) :
    Ct Try.prog 7 (YtjbfcmaiejlnbaaVm.ops [.row (l.map Sub.pv), s.pv, .int .i64 id]) (.vals [.bool true]) := by
  have aw := law_awake
  refine Ct.of_V Try.func7 rfl (by simp [YtjbfcmaiejlnbaaVm.ops, Try.f7]) ?_
  refine V.exec 400 ?_
  simp (config := {contextual := true}) only [go_sem, ↓reduceIte, reduceCtorEq, Bool.false_eq_true, Bool.true_eq_false, Nat.reduceAdd, Nat.reduceLT, Nat.reduceEqDiff, Nat.reduceLeDiff, Nat.reduceSub, Nat.reduceMul, Try.f7, Sub.pv]
  refine V.call rfl rfl (by simp [dOK]) ⟨15, [], by simp only [go_sem, ↓reduceIte, reduceCtorEq, Bool.false_eq_true, Bool.true_eq_false, Nat.reduceAdd, Nat.reduceLT, Nat.reduceEqDiff, Nat.reduceLeDiff, Nat.reduceSub, Nat.reduceMul], ⟨_, rfl, rfl, rfl⟩, .inl ⟨[.row (l.map Sub.pv)], _, .inl (by simp only [go_sem, ↓reduceIte, reduceCtorEq, Bool.false_eq_true, Bool.true_eq_false, Nat.reduceAdd, Nat.reduceLT, Nat.reduceEqDiff, Nat.reduceLeDiff, Nat.reduceSub, Nat.reduceMul]), law_small l (by simp only [maxLen] at hl; omega), .inl ⟨_, rfl, rfl, rfl, rfl⟩⟩⟩ ?_
  refine V.exec 400 ?_
  by_cases h1 : smallV l
  · simp (config := {contextual := true}) only [go_sem, ↓reduceIte, reduceCtorEq, Bool.false_eq_true, Bool.true_eq_false, Nat.reduceAdd, Nat.reduceLT, Nat.reduceEqDiff, Nat.reduceLeDiff, Nat.reduceSub, Nat.reduceMul, h1]
    refine V.call rfl rfl (by simp [dOK]) ⟨15, [], by simp only [go_sem, ↓reduceIte, reduceCtorEq, Bool.false_eq_true, Bool.true_eq_false, Nat.reduceAdd, Nat.reduceLT, Nat.reduceEqDiff, Nat.reduceLeDiff, Nat.reduceSub, Nat.reduceMul], ⟨_, rfl, rfl, rfl⟩, .inl ⟨[.row ([s].map Sub.pv)], _, .inl (by simp only [go_sem, ↓reduceIte, reduceCtorEq, Bool.false_eq_true, Bool.true_eq_false, Nat.reduceAdd, Nat.reduceLT, Nat.reduceEqDiff, Nat.reduceLeDiff, Nat.reduceSub, Nat.reduceMul, Sub.pv, List.map_cons, List.map_nil]), law_small [s] (by simp), .inl ⟨_, rfl, rfl, rfl, rfl⟩⟩⟩ ?_
    refine V.exec 400 ?_
    by_cases h2 : smallV [s]
    · simp (config := {contextual := true}) only [go_sem, ↓reduceIte, reduceCtorEq, Bool.false_eq_true, Bool.true_eq_false, Nat.reduceAdd, Nat.reduceLT, Nat.reduceEqDiff, Nat.reduceLeDiff, Nat.reduceSub, Nat.reduceMul, h2]
      have hll : l.length ≤ 1000000 := by have := h1.2; omega
      refine V.call rfl rfl (by simp [dOK]) ⟨13, [], by simp only [go_sem, ↓reduceIte, reduceCtorEq, Bool.false_eq_true, Bool.true_eq_false, Nat.reduceAdd, Nat.reduceLT, Nat.reduceEqDiff, Nat.reduceLeDiff, Nat.reduceSub, Nat.reduceMul], ⟨_, rfl, rfl, rfl⟩, .inl ⟨[.row (l.map Sub.pv)], _, .inl (by simp only [go_sem, ↓reduceIte, reduceCtorEq, Bool.false_eq_true, Bool.true_eq_false, Nat.reduceAdd, Nat.reduceLT, Nat.reduceEqDiff, Nat.reduceLeDiff, Nat.reduceSub, Nat.reduceMul]), floor_Right l hll, .inl ⟨_, rfl, rfl, rfl, rfl⟩⟩⟩ ?_
      refine V.exec 400 ?_
      by_cases hs : subsOk l
      · simp (config := {contextual := true}) only [go_sem, ↓reduceIte, reduceCtorEq, Bool.false_eq_true, Bool.true_eq_false, Nat.reduceAdd, Nat.reduceLT, Nat.reduceEqDiff, Nat.reduceLeDiff, Nat.reduceSub, Nat.reduceMul, hs]
        obtain ⟨hA, hB, hC⟩ := set_law hs s id
        obtain ⟨hD, hE, hF⟩ := leave_law hs id
        have c1 := floor_Set l s hll
        have c2 := floor_Find l id hll
        have c3 := floor_Find (setV l s).1 id (by omega)
        have c4 := floor_Leave l id hll
        have c5 := floor_Find (leaveV l id).1 id (by omega)
        obtain ⟨m, e, hme⟩ : ∃ m e, setV l s = (m, e) := ⟨_, _, rfl⟩
        obtain ⟨was, there, hwt⟩ : ∃ w t, findV l id = (w, t) := ⟨_, _, rfl⟩
        obtain ⟨p, f, hpf⟩ : ∃ w t, leaveV l id = (w, t) := ⟨_, _, rfl⟩
        rw [hme] at hA hB hC c1 c3
        rw [hwt] at hB hD c2
        rw [hpf] at hD hE hF c4 c5
        obtain ⟨now, is', hni⟩ : ∃ w t, findV m id = (w, t) := ⟨_, _, rfl⟩
        obtain ⟨gg, g, hgg⟩ : ∃ w t, findV p id = (w, t) := ⟨_, _, rfl⟩
        simp only at hA hB hC hD hE hF c1 c2 c3 c4 c5
        rw [hni] at hA hB c3
        rw [hgg] at hE c5
        simp only at hA hB hE c3 c5
        subst hD
        subst hE
        have hinj := Sub.inj now s
        have hinj2 := Sub.inj was now
        simp only [Sub.pv] at hinj hinj2
        refine V.call rfl rfl (by simp [dOK]) ⟨22, [], by simp only [go_sem, ↓reduceIte, reduceCtorEq, Bool.false_eq_true, Bool.true_eq_false, Nat.reduceAdd, Nat.reduceLT, Nat.reduceEqDiff, Nat.reduceLeDiff, Nat.reduceSub, Nat.reduceMul], ⟨_, rfl, rfl, rfl⟩, .inl ⟨[.row (l.map Sub.pv), s.pv], _, .inl (by simp only [go_sem, ↓reduceIte, reduceCtorEq, Bool.false_eq_true, Bool.true_eq_false, Nat.reduceAdd, Nat.reduceLT, Nat.reduceEqDiff, Nat.reduceLeDiff, Nat.reduceSub, Nat.reduceMul, Sub.pv]), c1, .inr (.inl ⟨_, rfl, rfl, rfl⟩)⟩⟩ ?_
        refine V.exec 400 ?_
        simp (config := {contextual := true}) only [go_sem, ↓reduceIte, reduceCtorEq, Bool.false_eq_true, Bool.true_eq_false, Nat.reduceAdd, Nat.reduceLT, Nat.reduceEqDiff, Nat.reduceLeDiff, Nat.reduceSub, Nat.reduceMul]
        refine V.call rfl rfl (by simp [dOK]) ⟨12, [], by simp only [go_sem, ↓reduceIte, reduceCtorEq, Bool.false_eq_true, Bool.true_eq_false, Nat.reduceAdd, Nat.reduceLT, Nat.reduceEqDiff, Nat.reduceLeDiff, Nat.reduceSub, Nat.reduceMul], ⟨_, rfl, rfl, rfl⟩, .inl ⟨[.row (l.map Sub.pv), .int .i64 id], _, .inl (by simp only [go_sem, ↓reduceIte, reduceCtorEq, Bool.false_eq_true, Bool.true_eq_false, Nat.reduceAdd, Nat.reduceLT, Nat.reduceEqDiff, Nat.reduceLeDiff, Nat.reduceSub, Nat.reduceMul]), c2, .inr (.inl ⟨_, rfl, rfl, rfl⟩)⟩⟩ ?_
        refine V.exec 400 ?_
        simp (config := {contextual := true}) only [go_sem, ↓reduceIte, reduceCtorEq, Bool.false_eq_true, Bool.true_eq_false, Nat.reduceAdd, Nat.reduceLT, Nat.reduceEqDiff, Nat.reduceLeDiff, Nat.reduceSub, Nat.reduceMul, Sub.pv]
        refine V.call rfl rfl (by simp [dOK]) ⟨12, [], by simp only [go_sem, ↓reduceIte, reduceCtorEq, Bool.false_eq_true, Bool.true_eq_false, Nat.reduceAdd, Nat.reduceLT, Nat.reduceEqDiff, Nat.reduceLeDiff, Nat.reduceSub, Nat.reduceMul], ⟨_, rfl, rfl, rfl⟩, .inl ⟨[.row (m.map Sub.pv), .int .i64 id], _, .inl (by simp only [go_sem, ↓reduceIte, reduceCtorEq, Bool.false_eq_true, Bool.true_eq_false, Nat.reduceAdd, Nat.reduceLT, Nat.reduceEqDiff, Nat.reduceLeDiff, Nat.reduceSub, Nat.reduceMul]), c3, .inr (.inl ⟨_, rfl, rfl, rfl⟩)⟩⟩ ?_
        refine V.exec 400 ?_
        by_cases he : e = 0 ∧ id = s.id
        · have hv := hA he
          simp only [Prod.mk.injEq] at hv
          have hn := hv.1.symm
          have h0 := hv.2
          obtain ⟨he1, he2⟩ := he
          subst hn h0 he1 he2
          simp (config := {contextual := true}) only [go_sem, ↓reduceIte, reduceCtorEq, Bool.false_eq_true, Bool.true_eq_false, Nat.reduceAdd, Nat.reduceLT, Nat.reduceEqDiff, Nat.reduceLeDiff, Nat.reduceSub, Nat.reduceMul, Sub.pv, hinj]
          refine V.call rfl rfl (by simp [dOK]) ⟨10, [], by simp only [go_sem, ↓reduceIte, reduceCtorEq, Bool.false_eq_true, Bool.true_eq_false, Nat.reduceAdd, Nat.reduceLT, Nat.reduceEqDiff, Nat.reduceLeDiff, Nat.reduceSub, Nat.reduceMul], ⟨_, rfl, rfl, rfl⟩, .inl ⟨[.row (l.map Sub.pv), .int .i64 s.id], _, .inl (by simp only [go_sem, ↓reduceIte, reduceCtorEq, Bool.false_eq_true, Bool.true_eq_false, Nat.reduceAdd, Nat.reduceLT, Nat.reduceEqDiff, Nat.reduceLeDiff, Nat.reduceSub, Nat.reduceMul]), c4, .inr (.inl ⟨_, rfl, rfl, rfl⟩)⟩⟩ ?_
          refine V.exec 400 ?_
          simp (config := {contextual := true}) only [go_sem, ↓reduceIte, reduceCtorEq, Bool.false_eq_true, Bool.true_eq_false, Nat.reduceAdd, Nat.reduceLT, Nat.reduceEqDiff, Nat.reduceLeDiff, Nat.reduceSub, Nat.reduceMul]
          refine V.call rfl rfl (by simp [dOK]) ⟨12, [], by simp only [go_sem, ↓reduceIte, reduceCtorEq, Bool.false_eq_true, Bool.true_eq_false, Nat.reduceAdd, Nat.reduceLT, Nat.reduceEqDiff, Nat.reduceLeDiff, Nat.reduceSub, Nat.reduceMul], ⟨_, rfl, rfl, rfl⟩, .inl ⟨[.row (p.map Sub.pv), .int .i64 s.id], _, .inl (by simp only [go_sem, ↓reduceIte, reduceCtorEq, Bool.false_eq_true, Bool.true_eq_false, Nat.reduceAdd, Nat.reduceLT, Nat.reduceEqDiff, Nat.reduceLeDiff, Nat.reduceSub, Nat.reduceMul]), c5, .inr (.inl ⟨_, rfl, rfl, rfl⟩)⟩⟩ ?_
          refine V.exec 400 ?_
          have hF' : (p.length : Int) ≤ (l.length : Int) := by omega
          simp (config := {contextual := true}) only [go_sem, ↓reduceIte, reduceCtorEq, Bool.false_eq_true, Bool.true_eq_false, Nat.reduceAdd, Nat.reduceLT, Nat.reduceEqDiff, Nat.reduceLeDiff, Nat.reduceSub, Nat.reduceMul, Sub.pv, hF']
          refine V.call rfl rfl (by simp [dOK]) ⟨9, [], by simp only [go_sem, ↓reduceIte, reduceCtorEq, Bool.false_eq_true, Bool.true_eq_false, Nat.reduceAdd, Nat.reduceLT, Nat.reduceEqDiff, Nat.reduceLeDiff, Nat.reduceSub, Nat.reduceMul], ⟨_, rfl, rfl, rfl⟩, .inl ⟨[], _, .inl (by simp only [go_sem, ↓reduceIte, reduceCtorEq, Bool.false_eq_true, Bool.true_eq_false, Nat.reduceAdd, Nat.reduceLT, Nat.reduceEqDiff, Nat.reduceLeDiff, Nat.reduceSub, Nat.reduceMul]), aw, .inl ⟨_, rfl, rfl, rfl, rfl⟩⟩⟩ ?_
          refine V.exec 400 ?_
          simp (config := {contextual := true}) only [go_sem, ↓reduceIte, reduceCtorEq, Bool.false_eq_true, Bool.true_eq_false, Nat.reduceAdd, Nat.reduceLT, Nat.reduceEqDiff, Nat.reduceLeDiff, Nat.reduceSub, Nat.reduceMul]
        · have hv := hB he
          simp only [Prod.mk.injEq] at hv
          have hn := hv.1.symm
          have h0 := hv.2.symm
          subst hn h0
          have hF' : (p.length : Int) ≤ (l.length : Int) := by omega
          by_cases e0 : e = 0
          · have e1 : ¬ id = s.id := fun h => he ⟨e0, h⟩
            simp (config := {contextual := true}) only [go_sem, ↓reduceIte, reduceCtorEq, Bool.false_eq_true, Bool.true_eq_false, Nat.reduceAdd, Nat.reduceLT, Nat.reduceEqDiff, Nat.reduceLeDiff, Nat.reduceSub, Nat.reduceMul, Sub.pv, hinj, hinj2, e0, e1]
            refine V.call rfl rfl (by simp [dOK]) ⟨10, [], by simp only [go_sem, ↓reduceIte, reduceCtorEq, Bool.false_eq_true, Bool.true_eq_false, Nat.reduceAdd, Nat.reduceLT, Nat.reduceEqDiff, Nat.reduceLeDiff, Nat.reduceSub, Nat.reduceMul], ⟨_, rfl, rfl, rfl⟩, .inl ⟨[.row (l.map Sub.pv), .int .i64 id], _, .inl (by simp only [go_sem, ↓reduceIte, reduceCtorEq, Bool.false_eq_true, Bool.true_eq_false, Nat.reduceAdd, Nat.reduceLT, Nat.reduceEqDiff, Nat.reduceLeDiff, Nat.reduceSub, Nat.reduceMul]), c4, .inr (.inl ⟨_, rfl, rfl, rfl⟩)⟩⟩ ?_
            refine V.exec 400 ?_
            simp (config := {contextual := true}) only [go_sem, ↓reduceIte, reduceCtorEq, Bool.false_eq_true, Bool.true_eq_false, Nat.reduceAdd, Nat.reduceLT, Nat.reduceEqDiff, Nat.reduceLeDiff, Nat.reduceSub, Nat.reduceMul]
            refine V.call rfl rfl (by simp [dOK]) ⟨12, [], by simp only [go_sem, ↓reduceIte, reduceCtorEq, Bool.false_eq_true, Bool.true_eq_false, Nat.reduceAdd, Nat.reduceLT, Nat.reduceEqDiff, Nat.reduceLeDiff, Nat.reduceSub, Nat.reduceMul], ⟨_, rfl, rfl, rfl⟩, .inl ⟨[.row (p.map Sub.pv), .int .i64 id], _, .inl (by simp only [go_sem, ↓reduceIte, reduceCtorEq, Bool.false_eq_true, Bool.true_eq_false, Nat.reduceAdd, Nat.reduceLT, Nat.reduceEqDiff, Nat.reduceLeDiff, Nat.reduceSub, Nat.reduceMul]), c5, .inr (.inl ⟨_, rfl, rfl, rfl⟩)⟩⟩ ?_
            refine V.exec 400 ?_
            simp (config := {contextual := true}) only [go_sem, ↓reduceIte, reduceCtorEq, Bool.false_eq_true, Bool.true_eq_false, Nat.reduceAdd, Nat.reduceLT, Nat.reduceEqDiff, Nat.reduceLeDiff, Nat.reduceSub, Nat.reduceMul, Sub.pv, hF']
            refine V.call rfl rfl (by simp [dOK]) ⟨9, [], by simp only [go_sem, ↓reduceIte, reduceCtorEq, Bool.false_eq_true, Bool.true_eq_false, Nat.reduceAdd, Nat.reduceLT, Nat.reduceEqDiff, Nat.reduceLeDiff, Nat.reduceSub, Nat.reduceMul], ⟨_, rfl, rfl, rfl⟩, .inl ⟨[], _, .inl (by simp only [go_sem, ↓reduceIte, reduceCtorEq, Bool.false_eq_true, Bool.true_eq_false, Nat.reduceAdd, Nat.reduceLT, Nat.reduceEqDiff, Nat.reduceLeDiff, Nat.reduceSub, Nat.reduceMul]), aw, .inl ⟨_, rfl, rfl, rfl, rfl⟩⟩⟩ ?_
            refine V.exec 400 ?_
            simp (config := {contextual := true}) only [go_sem, ↓reduceIte, reduceCtorEq, Bool.false_eq_true, Bool.true_eq_false, Nat.reduceAdd, Nat.reduceLT, Nat.reduceEqDiff, Nat.reduceLeDiff, Nat.reduceSub, Nat.reduceMul]
          · simp (config := {contextual := true}) only [go_sem, ↓reduceIte, reduceCtorEq, Bool.false_eq_true, Bool.true_eq_false, Nat.reduceAdd, Nat.reduceLT, Nat.reduceEqDiff, Nat.reduceLeDiff, Nat.reduceSub, Nat.reduceMul, Sub.pv, hinj, hinj2, e0]
            refine V.call rfl rfl (by simp [dOK]) ⟨10, [], by simp only [go_sem, ↓reduceIte, reduceCtorEq, Bool.false_eq_true, Bool.true_eq_false, Nat.reduceAdd, Nat.reduceLT, Nat.reduceEqDiff, Nat.reduceLeDiff, Nat.reduceSub, Nat.reduceMul], ⟨_, rfl, rfl, rfl⟩, .inl ⟨[.row (l.map Sub.pv), .int .i64 id], _, .inl (by simp only [go_sem, ↓reduceIte, reduceCtorEq, Bool.false_eq_true, Bool.true_eq_false, Nat.reduceAdd, Nat.reduceLT, Nat.reduceEqDiff, Nat.reduceLeDiff, Nat.reduceSub, Nat.reduceMul]), c4, .inr (.inl ⟨_, rfl, rfl, rfl⟩)⟩⟩ ?_
            refine V.exec 400 ?_
            simp (config := {contextual := true}) only [go_sem, ↓reduceIte, reduceCtorEq, Bool.false_eq_true, Bool.true_eq_false, Nat.reduceAdd, Nat.reduceLT, Nat.reduceEqDiff, Nat.reduceLeDiff, Nat.reduceSub, Nat.reduceMul]
            refine V.call rfl rfl (by simp [dOK]) ⟨12, [], by simp only [go_sem, ↓reduceIte, reduceCtorEq, Bool.false_eq_true, Bool.true_eq_false, Nat.reduceAdd, Nat.reduceLT, Nat.reduceEqDiff, Nat.reduceLeDiff, Nat.reduceSub, Nat.reduceMul], ⟨_, rfl, rfl, rfl⟩, .inl ⟨[.row (p.map Sub.pv), .int .i64 id], _, .inl (by simp only [go_sem, ↓reduceIte, reduceCtorEq, Bool.false_eq_true, Bool.true_eq_false, Nat.reduceAdd, Nat.reduceLT, Nat.reduceEqDiff, Nat.reduceLeDiff, Nat.reduceSub, Nat.reduceMul]), c5, .inr (.inl ⟨_, rfl, rfl, rfl⟩)⟩⟩ ?_
            refine V.exec 400 ?_
            simp (config := {contextual := true}) only [go_sem, ↓reduceIte, reduceCtorEq, Bool.false_eq_true, Bool.true_eq_false, Nat.reduceAdd, Nat.reduceLT, Nat.reduceEqDiff, Nat.reduceLeDiff, Nat.reduceSub, Nat.reduceMul, Sub.pv, hF']
            refine V.call rfl rfl (by simp [dOK]) ⟨9, [], by simp only [go_sem, ↓reduceIte, reduceCtorEq, Bool.false_eq_true, Bool.true_eq_false, Nat.reduceAdd, Nat.reduceLT, Nat.reduceEqDiff, Nat.reduceLeDiff, Nat.reduceSub, Nat.reduceMul], ⟨_, rfl, rfl, rfl⟩, .inl ⟨[], _, .inl (by simp only [go_sem, ↓reduceIte, reduceCtorEq, Bool.false_eq_true, Bool.true_eq_false, Nat.reduceAdd, Nat.reduceLT, Nat.reduceEqDiff, Nat.reduceLeDiff, Nat.reduceSub, Nat.reduceMul]), aw, .inl ⟨_, rfl, rfl, rfl, rfl⟩⟩⟩ ?_
            refine V.exec 400 ?_
            simp (config := {contextual := true}) only [go_sem, ↓reduceIte, reduceCtorEq, Bool.false_eq_true, Bool.true_eq_false, Nat.reduceAdd, Nat.reduceLT, Nat.reduceEqDiff, Nat.reduceLeDiff, Nat.reduceSub, Nat.reduceMul]
      · simp (config := {contextual := true}) only [go_sem, ↓reduceIte, reduceCtorEq, Bool.false_eq_true, Bool.true_eq_false, Nat.reduceAdd, Nat.reduceLT, Nat.reduceEqDiff, Nat.reduceLeDiff, Nat.reduceSub, Nat.reduceMul, hs]
        refine V.call rfl rfl (by simp [dOK]) ⟨9, [], by simp only [go_sem, ↓reduceIte, reduceCtorEq, Bool.false_eq_true, Bool.true_eq_false, Nat.reduceAdd, Nat.reduceLT, Nat.reduceEqDiff, Nat.reduceLeDiff, Nat.reduceSub, Nat.reduceMul], ⟨_, rfl, rfl, rfl⟩, .inl ⟨[], _, .inl (by simp only [go_sem, ↓reduceIte, reduceCtorEq, Bool.false_eq_true, Bool.true_eq_false, Nat.reduceAdd, Nat.reduceLT, Nat.reduceEqDiff, Nat.reduceLeDiff, Nat.reduceSub, Nat.reduceMul]), aw, .inl ⟨_, rfl, rfl, rfl, rfl⟩⟩⟩ ?_
        refine V.exec 400 ?_
        simp (config := {contextual := true}) only [go_sem, ↓reduceIte, reduceCtorEq, Bool.false_eq_true, Bool.true_eq_false, Nat.reduceAdd, Nat.reduceLT, Nat.reduceEqDiff, Nat.reduceLeDiff, Nat.reduceSub, Nat.reduceMul]
    · simp (config := {contextual := true}) only [go_sem, ↓reduceIte, reduceCtorEq, Bool.false_eq_true, Bool.true_eq_false, Nat.reduceAdd, Nat.reduceLT, Nat.reduceEqDiff, Nat.reduceLeDiff, Nat.reduceSub, Nat.reduceMul, h2]
      refine V.call rfl rfl (by simp [dOK]) ⟨9, [], by simp only [go_sem, ↓reduceIte, reduceCtorEq, Bool.false_eq_true, Bool.true_eq_false, Nat.reduceAdd, Nat.reduceLT, Nat.reduceEqDiff, Nat.reduceLeDiff, Nat.reduceSub, Nat.reduceMul], ⟨_, rfl, rfl, rfl⟩, .inl ⟨[], _, .inl (by simp only [go_sem, ↓reduceIte, reduceCtorEq, Bool.false_eq_true, Bool.true_eq_false, Nat.reduceAdd, Nat.reduceLT, Nat.reduceEqDiff, Nat.reduceLeDiff, Nat.reduceSub, Nat.reduceMul]), aw, .inl ⟨_, rfl, rfl, rfl, rfl⟩⟩⟩ ?_
      refine V.exec 400 ?_
      simp (config := {contextual := true}) only [go_sem, ↓reduceIte, reduceCtorEq, Bool.false_eq_true, Bool.true_eq_false, Nat.reduceAdd, Nat.reduceLT, Nat.reduceEqDiff, Nat.reduceLeDiff, Nat.reduceSub, Nat.reduceMul]
  · simp (config := {contextual := true}) only [go_sem, ↓reduceIte, reduceCtorEq, Bool.false_eq_true, Bool.true_eq_false, Nat.reduceAdd, Nat.reduceLT, Nat.reduceEqDiff, Nat.reduceLeDiff, Nat.reduceSub, Nat.reduceMul, h1]
    refine V.call rfl rfl (by simp [dOK]) ⟨9, [], by simp only [go_sem, ↓reduceIte, reduceCtorEq, Bool.false_eq_true, Bool.true_eq_false, Nat.reduceAdd, Nat.reduceLT, Nat.reduceEqDiff, Nat.reduceLeDiff, Nat.reduceSub, Nat.reduceMul], ⟨_, rfl, rfl, rfl⟩, .inl ⟨[], _, .inl (by simp only [go_sem, ↓reduceIte, reduceCtorEq, Bool.false_eq_true, Bool.true_eq_false, Nat.reduceAdd, Nat.reduceLT, Nat.reduceEqDiff, Nat.reduceLeDiff, Nat.reduceSub, Nat.reduceMul]), aw, .inl ⟨_, rfl, rfl, rfl, rfl⟩⟩⟩ ?_
    refine V.exec 400 ?_
    simp (config := {contextual := true}) only [go_sem, ↓reduceIte, reduceCtorEq, Bool.false_eq_true, Bool.true_eq_false, Nat.reduceAdd, Nat.reduceLT, Nat.reduceEqDiff, Nat.reduceLeDiff, Nat.reduceSub, Nat.reduceMul]

theorem sub_one (qs : List PV) (hk : qs.map PV.kd = [.int .i64, .str, .str, .bool, .bool, .str, .int .i64]) : ∃ s : Sub, PV.agg qs = s.pv := by
  match qs, hk with
  | [.int k n, .str a, .str b, .bool c, .bool d, .str e, .int k' m], hk =>
    simp only [List.map_cons, PV.kd, List.cons.injEq, KD.int.injEq] at hk
    obtain ⟨rfl, _, _, _, _, _, rfl, _⟩ := hk
    exact ⟨⟨n, ⟨a, b, c⟩, d, e, m⟩, by simp [Sub.pv]⟩

theorem ctSets (xs0 : List PV) (l0 : xs0.length ≤ maxLen) (h0 : ∀ x ∈ xs0, ∃ qs, x = .agg qs ∧ qs.map PV.kd = [.int .i64, .str, .str, .bool, .bool, .str, .int .i64] ∧ ∀ q ∈ qs, q.wfv)
    (xs1 : List PV) (h1 : xs1.map PV.kd = [.int .i64, .str, .str, .bool, .bool, .str, .int .i64]) (w1 : ∀ q ∈ xs1, q.wfv) (a2 : Int) (w2 : (Lit.int .i64 a2).wf = true) :
    Ct Try.prog 7 (YtjbfcmaiejlnbaaVm.ops [.row xs0, .agg xs1, .int .i64 a2]) (.vals [.bool true]) := by
  obtain ⟨l, rfl⟩ := sub_of xs0 h0
  obtain ⟨s, hs⟩ := sub_one xs1 h1
  rw [hs]
  exact law_Sets l s a2 (by simpa using l0)
end Go.Proofs.Ytjbfcmaiejlnbaa
