/- A part of a proof: functions of the program, walked. -/
import Derived.Test.YtjbfcmaiejlnbaaH3
import Derived.Test.YtjbfcmaiejlnbaaF7
set_option linter.unusedVariables false
set_option linter.unusedSimpArgs false
namespace Go.Proofs.Ytjbfcmaiejlnbaa
open Go Go.Proofs Go.Proofs.YtjbfcmaiejlnbaaVm Go.Proofs.Ytjbfcmaiejlnbaa.Ty

theorem refFind_neg {l : List Sub} {id : Int} : refFind l id < 0 ↔ findL l id = none := by
  unfold refFind findL
  cases h : l.findIdx? (fun s => decide (s.id = id)) with
  | none =>
    have h2 : l.find? (fun s => decide (s.id = id)) = none := by
      rw [List.find?_eq_none]
      intro x hx
      have := List.findIdx?_eq_none_iff.1 h x hx
      simpa using this
    simp [h2]
  | some i =>
    obtain ⟨hlt, hp, _⟩ := List.findIdx?_eq_some_iff_getElem.1 h
    have h2 : l.find? (fun s => decide (s.id = id)) ≠ none := by
      rw [Ne, List.find?_eq_none]
      intro hn
      have := hn l[i] (List.getElem_mem hlt)
      exact this hp
    simp [h2]

def keepL (l : List Sub) (id : Int) : List Sub := l.filter (fun s => !decide (s.id = id))
theorem keepL_len (l : List Sub) (id : Int) : (keepL l id).length ≤ l.length := List.length_filter_le _ _
theorem keepL_snoc (l : List Sub) (x : Sub) (id : Int) : keepL (l ++ [x]) id = if x.id = id then keepL l id else keepL l id ++ [x] := by
  unfold keepL
  rw [List.filter_append]
  by_cases h : x.id = id <;> simp [h]

theorem map_take_succ {l : List Sub} {i : Nat} {x : Sub} (h : l[i]? = some x) : l.take (i + 1) = l.take i ++ [x] := by
  rw [List.take_add_one, h]; rfl

set_option maxRecDepth 10000 in
set_option maxHeartbeats 8000000 in
theorem ref20_Leave (l : List Sub) (id : Int) (hl : l.length ≤ 1000000) : Ct Try.prog 24 (YtjbfcmaiejlnbaaVm.ops [.row (l.map Sub.pv), .int .i64 id]) (.vals [.row ((leaveV l id).1.map Sub.pv), .int .i64 (leaveV l id).2]) := by
  refine Ct.of_V Try.func24 rfl (by simp [YtjbfcmaiejlnbaaVm.ops, Try.f24]) ?_
  refine V.exec 400 ?_
  simp (config := {contextual := true}) only [go_sem, ↓reduceIte, reduceCtorEq, Bool.false_eq_true, Bool.true_eq_false, Nat.reduceAdd, Nat.reduceLT, Nat.reduceEqDiff, Nat.reduceLeDiff, Nat.reduceSub, Nat.reduceMul, Try.f24]
  refine V.call rfl rfl (by simp [dOK]) ⟨20, [], by simp only [go_sem, ↓reduceIte, reduceCtorEq, Bool.false_eq_true, Bool.true_eq_false, Nat.reduceAdd, Nat.reduceLT, Nat.reduceEqDiff, Nat.reduceLeDiff, Nat.reduceSub, Nat.reduceMul], ⟨_, rfl, rfl, rfl⟩, .inl ⟨[.row (l.map Sub.pv)], _, .inl (by simp only [go_sem, ↓reduceIte, reduceCtorEq, Bool.false_eq_true, Bool.true_eq_false, Nat.reduceAdd, Nat.reduceLT, Nat.reduceEqDiff, Nat.reduceLeDiff, Nat.reduceSub, Nat.reduceMul]), ref20_Right l hl, .inl ⟨_, rfl, rfl, rfl, rfl⟩⟩⟩ ?_
  refine V.exec 400 ?_
  by_cases hs : subsOk l
  · simp (config := {contextual := true}) only [go_sem, ↓reduceIte, reduceCtorEq, Bool.false_eq_true, Bool.true_eq_false, Nat.reduceAdd, Nat.reduceLT, Nat.reduceEqDiff, Nat.reduceLeDiff, Nat.reduceSub, Nat.reduceMul, hs]
    refine V.call rfl rfl (by simp [dOK]) ⟨25, [], by simp only [go_sem, ↓reduceIte, reduceCtorEq, Bool.false_eq_true, Bool.true_eq_false, Nat.reduceAdd, Nat.reduceLT, Nat.reduceEqDiff, Nat.reduceLeDiff, Nat.reduceSub, Nat.reduceMul], ⟨_, rfl, rfl, rfl⟩, .inl ⟨[.row (l.map Sub.pv), .int .i64 id], _, .inl (by simp only [go_sem, ↓reduceIte, reduceCtorEq, Bool.false_eq_true, Bool.true_eq_false, Nat.reduceAdd, Nat.reduceLT, Nat.reduceEqDiff, Nat.reduceLeDiff, Nat.reduceSub, Nat.reduceMul]), ref20_Find l id hl, .inl ⟨_, rfl, rfl, rfl, rfl⟩⟩⟩ ?_
    refine V.exec 400 ?_
    cases hf : findL l id with
    | none =>
      have hn := refFind_neg.2 hf
      have hv : leaveV l id = (l, 3) := by simp [leaveV, findV, hs, hf]
      simp (config := {contextual := true}) only [go_sem, ↓reduceIte, reduceCtorEq, Bool.false_eq_true, Bool.true_eq_false, Nat.reduceAdd, Nat.reduceLT, Nat.reduceEqDiff, Nat.reduceLeDiff, Nat.reduceSub, Nat.reduceMul, hn, hv]
    | some y =>
      have hn : ¬ refFind l id < 0 := fun h => by rw [refFind_neg.1 h] at hf; cases hf
      have hv : leaveV l id = (keepL l id, 0) := by simp [leaveV, findV, hs, hf, keepL]
      simp (config := {contextual := true}) only [go_sem, ↓reduceIte, reduceCtorEq, Bool.false_eq_true, Bool.true_eq_false, Nat.reduceAdd, Nat.reduceLT, Nat.reduceEqDiff, Nat.reduceLeDiff, Nat.reduceSub, Nat.reduceMul, hn, hv]
      refine V.loop (fun m ls os => ∃ i : Nat, i ≤ l.length ∧ m = l.length - i ∧
          ls = [(0, .val (.row (l.map Sub.pv))), (1, .val (.int .i64 id)), (7, .ref 0), (8, .val (.int .i64 i))] ∧ os = [.row 56 ((keepL (l.take i) id).map Sub.pv)]) 1 l.length
        [(0, .val (.row (l.map Sub.pv))), (1, .val (.int .i64 id)), (7, .ref 0), (8, .val (.int .i64 0))] [.row 56 []] [none]
        ⟨0, Nat.zero_le _, rfl, rfl, rfl⟩ (by simp only [go_sem, ↓reduceIte, reduceCtorEq, Bool.false_eq_true, Bool.true_eq_false, Nat.reduceAdd, Nat.reduceLT, Nat.reduceEqDiff, Nat.reduceLeDiff, Nat.reduceSub, Nat.reduceMul]; try decide) ?_
      rintro m ls os ⟨i, hi, rfl, rfl, rfl⟩
      refine V.exec 400 ?_
      by_cases hlt : i < l.length
      · have hlt' : (i : Int) < (l.length : Int) := by omega
        obtain ⟨x, hx⟩ : ∃ x, l[i]? = some x := ⟨_, List.getElem?_eq_getElem hlt⟩
        have hw : IntKind.i64.wrap ((i : Int) + 1) = ((i + 1 : Nat) : Int) := by rw [wrap_small3] <;> omega
        have hti : (keepL (l.take i) id).length ≤ i := Nat.le_trans (keepL_len _ _) (by simp; omega)
        have hmt := map_take_succ hx
        by_cases he : x.id = id
        · have hft : keepL (l.take (i + 1)) id = keepL (l.take i) id := by rw [hmt, keepL_snoc, if_pos he]
          simp (config := {contextual := true}) only [go_sem, ↓reduceIte, reduceCtorEq, Bool.false_eq_true, Bool.true_eq_false, Nat.reduceAdd, Nat.reduceLT, Nat.reduceEqDiff, Nat.reduceLeDiff, Nat.reduceSub, Nat.reduceMul, hlt', hx, Sub.pv, hw, he]
          refine ⟨l.length - (i + 1), _, _, [some 0], by omega, ⟨i + 1, by omega, rfl, rfl, rfl⟩, ?_⟩
          simp only [go_sem, ↓reduceIte, reduceCtorEq, Bool.false_eq_true, Bool.true_eq_false, Nat.reduceAdd, Nat.reduceLT, Nat.reduceEqDiff, Nat.reduceLeDiff, Nat.reduceSub, Nat.reduceMul, hft]
          try decide
        · have hft : keepL (l.take (i + 1)) id = keepL (l.take i) id ++ [x] := by rw [hmt, keepL_snoc, if_neg he]
          simp (config := {contextual := true}) only [go_sem, ↓reduceIte, reduceCtorEq, Bool.false_eq_true, Bool.true_eq_false, Nat.reduceAdd, Nat.reduceLT, Nat.reduceEqDiff, Nat.reduceLeDiff, Nat.reduceSub, Nat.reduceMul, hlt', hx, Sub.pv, hw, he]
          refine ⟨⟨by omega, by omega⟩, l.length - (i + 1), _, _, [some 18], by omega, ⟨i + 1, by omega, rfl, rfl, rfl⟩, ?_⟩
          simp only [go_sem, ↓reduceIte, reduceCtorEq, Bool.false_eq_true, Bool.true_eq_false, Nat.reduceAdd, Nat.reduceLT, Nat.reduceEqDiff, Nat.reduceLeDiff, Nat.reduceSub, Nat.reduceMul, hft, List.map_append, List.map_cons, List.map_nil, Sub.pv]
          try decide
      · have hlt' : ¬ (i : Int) < (l.length : Int) := by omega
        simp (config := {contextual := true}) only [go_sem, ↓reduceIte, reduceCtorEq, Bool.false_eq_true, Bool.true_eq_false, Nat.reduceAdd, Nat.reduceLT, Nat.reduceEqDiff, Nat.reduceLeDiff, Nat.reduceSub, Nat.reduceMul, hlt']
        rw [List.take_of_length_le (by omega)]
  · have hv : leaveV l id = (l, 1) := by simp [leaveV, findV, hs]
    simp (config := {contextual := true}) only [go_sem, ↓reduceIte, reduceCtorEq, Bool.false_eq_true, Bool.true_eq_false, Nat.reduceAdd, Nat.reduceLT, Nat.reduceEqDiff, Nat.reduceLeDiff, Nat.reduceSub, Nat.reduceMul, hs, hv]

def putL (l : List Sub) (s : Sub) : List Sub := l.map (fun y => if y.id = s.id then s else y)
theorem putL_len (l : List Sub) (s : Sub) : (putL l s).length = l.length := List.length_map _
theorem putL_snoc (l : List Sub) (x s : Sub) : putL (l ++ [x]) s = putL l s ++ [if x.id = s.id then s else x] := by simp [putL]
theorem set_map {s : Sub} : ∀ (l : List Sub) (last : Int) (r : Nat) (x : Sub), rightFrom last l → l[r]? = some x → x.id = s.id → l.map (fun y => if y.id = s.id then s else y) = l.set r s
  | [], _, _, _, _, hx, _ => by simp at hx
  | c :: t, last, 0, x, h, hx, he => by
    simp at hx
    subst hx
    simp only [List.map_cons, List.set_cons_zero, he, if_true]
    congr 1
    have : ∀ y ∈ t, (if y.id = s.id then s else y) = y := fun y hy => by
      have := above t h.2.2 y hy
      rw [if_neg (by omega)]
    rw [List.map_congr_left this, List.map_id']
  | c :: t, last, r + 1, x, h, hx, he => by
    simp at hx
    have hc := above t h.2.2 x (List.mem_of_getElem? hx)
    simp only [List.map_cons, List.set_cons_succ, set_map t c.id r x h.2.2 hx he]
    rw [if_neg (by omega)]

set_option maxRecDepth 10000 in
set_option maxHeartbeats 8000000 in
theorem ref20_Set (l : List Sub) (s : Sub) (hl : l.length ≤ 1000000) : Ct Try.prog 23 (YtjbfcmaiejlnbaaVm.ops [.row (l.map Sub.pv), s.pv]) (.vals [.row ((setV l s).1.map Sub.pv), .int .i64 (setV l s).2]) := by
  refine Ct.of_V Try.func23 rfl (by simp [YtjbfcmaiejlnbaaVm.ops, Try.f23]) ?_
  refine V.exec 400 ?_
  simp (config := {contextual := true}) only [go_sem, ↓reduceIte, reduceCtorEq, Bool.false_eq_true, Bool.true_eq_false, Nat.reduceAdd, Nat.reduceLT, Nat.reduceEqDiff, Nat.reduceLeDiff, Nat.reduceSub, Nat.reduceMul, Try.f23, Sub.pv]
  refine DV.call [] [] (by simp only [go_sem, ↓reduceIte, reduceCtorEq, Bool.false_eq_true, Bool.true_eq_false, Nat.reduceAdd, Nat.reduceLT, Nat.reduceEqDiff, Nat.reduceLeDiff, Nat.reduceSub, Nat.reduceMul]) (by simp [dOK]) ⟨20, [], by simp only [go_sem, ↓reduceIte, reduceCtorEq, Bool.false_eq_true, Bool.true_eq_false, Nat.reduceAdd, Nat.reduceLT, Nat.reduceEqDiff, Nat.reduceLeDiff, Nat.reduceSub, Nat.reduceMul], ⟨_, rfl, rfl, rfl⟩, .inl ⟨[.row (l.map Sub.pv)], _, .inl (by simp only [go_sem, ↓reduceIte, reduceCtorEq, Bool.false_eq_true, Bool.true_eq_false, Nat.reduceAdd, Nat.reduceLT, Nat.reduceEqDiff, Nat.reduceLeDiff, Nat.reduceSub, Nat.reduceMul]), ref20_Right l hl, .inl ⟨_, rfl, rfl, rfl, rfl⟩⟩⟩ (by simp only [go_sem, ↓reduceIte, reduceCtorEq, Bool.false_eq_true, Bool.true_eq_false, Nat.reduceAdd, Nat.reduceLT, Nat.reduceEqDiff, Nat.reduceLeDiff, Nat.reduceSub, Nat.reduceMul]) (by simp only [go_sem, ↓reduceIte, reduceCtorEq, Bool.false_eq_true, Bool.true_eq_false, Nat.reduceAdd, Nat.reduceLT, Nat.reduceEqDiff, Nat.reduceLeDiff, Nat.reduceSub, Nat.reduceMul]) (by simp only [go_sem, ↓reduceIte, reduceCtorEq, Bool.false_eq_true, Bool.true_eq_false, Nat.reduceAdd, Nat.reduceLT, Nat.reduceEqDiff, Nat.reduceLeDiff, Nat.reduceSub, Nat.reduceMul]) (by simp) ?_
  refine DV.exec 400 ?_
  simp (config := {contextual := true}) only [go_sem, ↓reduceIte, reduceCtorEq, Bool.false_eq_true, Bool.true_eq_false, Nat.reduceAdd, Nat.reduceLT, Nat.reduceEqDiff, Nat.reduceLeDiff, Nat.reduceSub, Nat.reduceMul]
  refine DV.call [] [] (by simp only [go_sem, ↓reduceIte, reduceCtorEq, Bool.false_eq_true, Bool.true_eq_false, Nat.reduceAdd, Nat.reduceLT, Nat.reduceEqDiff, Nat.reduceLeDiff, Nat.reduceSub, Nat.reduceMul, Sub.pv]) (by simp [dOK]) ⟨37, [], by simp only [go_sem, ↓reduceIte, reduceCtorEq, Bool.false_eq_true, Bool.true_eq_false, Nat.reduceAdd, Nat.reduceLT, Nat.reduceEqDiff, Nat.reduceLeDiff, Nat.reduceSub, Nat.reduceMul, Sub.pv], ⟨_, rfl, rfl, rfl⟩, .inl ⟨[s.pv], _, .inl (by simp only [go_sem, ↓reduceIte, reduceCtorEq, Bool.false_eq_true, Bool.true_eq_false, Nat.reduceAdd, Nat.reduceLT, Nat.reduceEqDiff, Nat.reduceLeDiff, Nat.reduceSub, Nat.reduceMul, Sub.pv]), ref19_Right s, .inl ⟨_, rfl, rfl, rfl, rfl⟩⟩⟩ (by simp only [go_sem, ↓reduceIte, reduceCtorEq, Bool.false_eq_true, Bool.true_eq_false, Nat.reduceAdd, Nat.reduceLT, Nat.reduceEqDiff, Nat.reduceLeDiff, Nat.reduceSub, Nat.reduceMul, Sub.pv]) (by simp only [go_sem, ↓reduceIte, reduceCtorEq, Bool.false_eq_true, Bool.true_eq_false, Nat.reduceAdd, Nat.reduceLT, Nat.reduceEqDiff, Nat.reduceLeDiff, Nat.reduceSub, Nat.reduceMul, Sub.pv]) (by simp only [go_sem, ↓reduceIte, reduceCtorEq, Bool.false_eq_true, Bool.true_eq_false, Nat.reduceAdd, Nat.reduceLT, Nat.reduceEqDiff, Nat.reduceLeDiff, Nat.reduceSub, Nat.reduceMul, Sub.pv]) (by simp) ?_
  refine DV.exec 400 ?_
  simp (config := {contextual := true}) only [go_sem, ↓reduceIte, reduceCtorEq, Bool.false_eq_true, Bool.true_eq_false, Nat.reduceAdd, Nat.reduceLT, Nat.reduceEqDiff, Nat.reduceLeDiff, Nat.reduceSub, Nat.reduceMul]
  refine ⟨by kernel_rfl, ?_⟩
  by_cases hs : subsOk l
  · by_cases hk : s.ok
    · simp (config := {contextual := true}) only [go_sem, ↓reduceIte, reduceCtorEq, Bool.false_eq_true, Bool.true_eq_false, Nat.reduceAdd, Nat.reduceLT, Nat.reduceEqDiff, Nat.reduceLeDiff, Nat.reduceSub, Nat.reduceMul, hs, hk]
      refine V.call rfl rfl (by simp [dOK]) ⟨25, [], by simp only [go_sem, ↓reduceIte, reduceCtorEq, Bool.false_eq_true, Bool.true_eq_false, Nat.reduceAdd, Nat.reduceLT, Nat.reduceEqDiff, Nat.reduceLeDiff, Nat.reduceSub, Nat.reduceMul], ⟨_, rfl, rfl, rfl⟩, .inl ⟨[.row (l.map Sub.pv), .int .i64 s.id], _, .inl (by simp only [go_sem, ↓reduceIte, reduceCtorEq, Bool.false_eq_true, Bool.true_eq_false, Nat.reduceAdd, Nat.reduceLT, Nat.reduceEqDiff, Nat.reduceLeDiff, Nat.reduceSub, Nat.reduceMul]), ref20_Find l s.id hl, .inl ⟨_, rfl, rfl, rfl, rfl⟩⟩⟩ ?_
      refine V.exec 400 ?_
      cases hf : findL l s.id with
      | none =>
        have hn := refFind_neg.2 hf
        have hv : setV l s = (l, 3) := by simp [setV, hs, hk, hf]
        simp (config := {contextual := true}) only [go_sem, ↓reduceIte, reduceCtorEq, Bool.false_eq_true, Bool.true_eq_false, Nat.reduceAdd, Nat.reduceLT, Nat.reduceEqDiff, Nat.reduceLeDiff, Nat.reduceSub, Nat.reduceMul, hn, hv]
      | some y =>
        have hx := (rank_find l hs.1 y).2 hf
        have hn : ¬ refFind l s.id < 0 := fun h => by rw [refFind_neg.1 h] at hf; cases hf
        have hv : setV l s = (putL l s, 0) := by unfold putL; rw [set_map l 0 _ y hs.1 hx.1 hx.2]; simp [setV, hs, hk, hf]
        simp (config := {contextual := true}) only [go_sem, ↓reduceIte, reduceCtorEq, Bool.false_eq_true, Bool.true_eq_false, Nat.reduceAdd, Nat.reduceLT, Nat.reduceEqDiff, Nat.reduceLeDiff, Nat.reduceSub, Nat.reduceMul, hn, hv]
        refine V.loop (fun m ls os => ∃ i : Nat, i ≤ l.length ∧ m = l.length - i ∧
            ls = [(0, .val (.row (l.map Sub.pv))), (3, .adr 0 0), (8, .ref 1), (9, .val (.int .i64 i))] ∧
            os = [.box true [.val (.int .i64 s.id), .val (.str s.r.lo), .val (.str s.r.hi), .val (.bool (decide (s.r.op = true))), .val (.bool (decide (s.live = true))), .val (.str s.next), .val (.int .i64 s.cur)], .row 56 ((putL (l.take i) s).map Sub.pv)]) 2 l.length
          [(0, .val (.row (l.map Sub.pv))), (3, .adr 0 0), (8, .ref 1), (9, .val (.int .i64 0))] [.box true [.val (.int .i64 s.id), .val (.str s.r.lo), .val (.str s.r.hi), .val (.bool (decide (s.r.op = true))), .val (.bool (decide (s.live = true))), .val (.str s.next), .val (.int .i64 s.cur)], .row 56 []] [some 2, none]
          ⟨0, Nat.zero_le _, rfl, rfl, rfl⟩ (by simp only [go_sem, ↓reduceIte, reduceCtorEq, Bool.false_eq_true, Bool.true_eq_false, Nat.reduceAdd, Nat.reduceLT, Nat.reduceEqDiff, Nat.reduceLeDiff, Nat.reduceSub, Nat.reduceMul]; try decide) ?_
        rintro m ls os ⟨i, hi, rfl, rfl, rfl⟩
        refine V.exec 400 ?_
        by_cases hlt : i < l.length
        · have hlt' : (i : Int) < (l.length : Int) := by omega
          obtain ⟨x, hx⟩ : ∃ x, l[i]? = some x := ⟨_, List.getElem?_eq_getElem hlt⟩
          have hw : IntKind.i64.wrap ((i : Int) + 1) = ((i + 1 : Nat) : Int) := by rw [wrap_small3] <;> omega
          have hti : (putL (l.take i) s).length = i := by rw [putL_len]; simp; omega
          have hft : putL (l.take (i + 1)) s = putL (l.take i) s ++ [if x.id = s.id then s else x] := by rw [map_take_succ hx, putL_snoc]
          by_cases he : x.id = s.id
          · rw [if_pos he] at hft
            simp (config := {contextual := true}) only [go_sem, ↓reduceIte, reduceCtorEq, Bool.false_eq_true, Bool.true_eq_false, Nat.reduceAdd, Nat.reduceLT, Nat.reduceEqDiff, Nat.reduceLeDiff, Nat.reduceSub, Nat.reduceMul, hlt', hx, Sub.pv, hw, he]
            refine ⟨by kernel_rfl, ⟨by omega, by omega⟩, l.length - (i + 1), _, _, [some 0, some 17], by omega, ⟨i + 1, by omega, rfl, rfl, rfl⟩, ?_⟩
            simp only [go_sem, ↓reduceIte, reduceCtorEq, Bool.false_eq_true, Bool.true_eq_false, Nat.reduceAdd, Nat.reduceLT, Nat.reduceEqDiff, Nat.reduceLeDiff, Nat.reduceSub, Nat.reduceMul, hft, List.map_append, List.map_cons, List.map_nil, Sub.pv]
            try decide
          · rw [if_neg he] at hft
            simp (config := {contextual := true}) only [go_sem, ↓reduceIte, reduceCtorEq, Bool.false_eq_true, Bool.true_eq_false, Nat.reduceAdd, Nat.reduceLT, Nat.reduceEqDiff, Nat.reduceLeDiff, Nat.reduceSub, Nat.reduceMul, hlt', hx, Sub.pv, hw, he]
            refine ⟨by kernel_rfl, ⟨by omega, by omega⟩, l.length - (i + 1), _, _, [some 0, some 20], by omega, ⟨i + 1, by omega, rfl, rfl, rfl⟩, ?_⟩
            simp only [go_sem, ↓reduceIte, reduceCtorEq, Bool.false_eq_true, Bool.true_eq_false, Nat.reduceAdd, Nat.reduceLT, Nat.reduceEqDiff, Nat.reduceLeDiff, Nat.reduceSub, Nat.reduceMul, hft, List.map_append, List.map_cons, List.map_nil, Sub.pv]
            try decide
        · have hlt' : ¬ (i : Int) < (l.length : Int) := by omega
          simp (config := {contextual := true}) only [go_sem, ↓reduceIte, reduceCtorEq, Bool.false_eq_true, Bool.true_eq_false, Nat.reduceAdd, Nat.reduceLT, Nat.reduceEqDiff, Nat.reduceLeDiff, Nat.reduceSub, Nat.reduceMul, hlt']
          rw [List.take_of_length_le (by omega)]
    · have hv : setV l s = (l, 1) := by simp [setV, hk]
      simp (config := {contextual := true}) only [go_sem, ↓reduceIte, reduceCtorEq, Bool.false_eq_true, Bool.true_eq_false, Nat.reduceAdd, Nat.reduceLT, Nat.reduceEqDiff, Nat.reduceLeDiff, Nat.reduceSub, Nat.reduceMul, hs, hk, hv]
  · have hv : setV l s = (l, 1) := by simp [setV, hs]
    simp (config := {contextual := true}) only [go_sem, ↓reduceIte, reduceCtorEq, Bool.false_eq_true, Bool.true_eq_false, Nat.reduceAdd, Nat.reduceLT, Nat.reduceEqDiff, Nat.reduceLeDiff, Nat.reduceSub, Nat.reduceMul, hs, hv]

theorem gapAt_ge : ∀ (l : List Sub) (b : Nat), b ≤ gapAt b l
  | [], b => Nat.le_refl b
  | s :: r, b => by
    unfold gapAt
    split
    · have := gapAt_ge r (b + 1); omega
    · exact Nat.le_refl b
theorem gapAt_le : ∀ (l : List Sub) (b : Nat), gapAt b l ≤ b + l.length
  | [], b => Nat.le_refl b
  | s :: r, b => by
    unfold gapAt
    split
    · have := gapAt_le r (b + 1); simp only [List.length_cons]; omega
    · omega
theorem gap_has : ∀ (l : List Sub) (b : Nat) (id : Nat), b < id → id ≤ gapAt b l → ∃ s ∈ l, s.id = (id : Int)
  | [], b, id, h, h' => by simp only [gapAt] at h'; omega
  | s :: r, b, id, h, h' => by
    unfold gapAt at h'
    split at h'
    · rename_i hs
      by_cases e : id = b + 1
      · exact ⟨s, List.mem_cons_self, by rw [hs, e]; omega⟩
      · obtain ⟨s', h1, h2⟩ := gap_has r (b + 1) id (by omega) h'
        exact ⟨s', List.mem_cons_of_mem _ h1, h2⟩
    · omega
theorem gap_not : ∀ (l : List Sub) (b : Nat), rightFrom (b : Int) l → ∀ s ∈ l, s.id ≠ (gapAt b l : Int) + 1
  | s :: r, b, h, y, hy => by
    have hr := above r h.2.2
    unfold gapAt
    split
    · rename_i hs
      have hg := gapAt_ge r (b + 1)
      rcases List.mem_cons.1 hy with rfl | hy
      · omega
      · have h2 : rightFrom ((b + 1 : Nat) : Int) r := by have := h.2.2; rw [hs] at this; exact_mod_cast this
        exact gap_not r (b + 1) h2 y hy
    · rename_i hs
      have h1 := h.2.1
      rcases List.mem_cons.1 hy with rfl | hy
      · omega
      · have := hr y hy
        omega
def lowL (l : List Sub) (g : Int) : List Sub := l.filter (fun s => decide (s.id < g))
def highL (l : List Sub) (g : Int) : List Sub := l.filter (fun s => decide (g < s.id))
theorem lowL_len (l : List Sub) (g : Int) : (lowL l g).length ≤ l.length := List.length_filter_le _ _
theorem highL_len (l : List Sub) (g : Int) : (highL l g).length ≤ l.length := List.length_filter_le _ _
theorem lowL_snoc (l : List Sub) (x : Sub) (g : Int) : lowL (l ++ [x]) g = if x.id < g then lowL l g ++ [x] else lowL l g := by
  unfold lowL
  rw [List.filter_append]
  by_cases h : x.id < g <;> simp [h]
theorem highL_snoc (l : List Sub) (x : Sub) (g : Int) : highL (l ++ [x]) g = if g < x.id then highL l g ++ [x] else highL l g := by
  unfold highL
  rw [List.filter_append]
  by_cases h : g < x.id <;> simp [h]
theorem gap_parts : ∀ (l : List Sub) (b : Nat), rightFrom (b : Int) l → lowL l ((gapAt b l : Int) + 1) = l.take (gapAt b l - b) ∧ highL l ((gapAt b l : Int) + 1) = l.drop (gapAt b l - b)
  | [], b, _ => by simp [lowL, highL]
  | s :: r, b, h => by
    have hr := above r h.2.2
    have h1 := h.2.1
    unfold gapAt
    split
    · rename_i hs
      have hg := gapAt_ge r (b + 1)
      have h2 : rightFrom ((b + 1 : Nat) : Int) r := by have := h.2.2; rw [hs] at this; exact_mod_cast this
      obtain ⟨i1, i2⟩ := gap_parts r (b + 1) h2
      have e : gapAt (b + 1) r - b = (gapAt (b + 1) r - (b + 1)) + 1 := by omega
      rw [e, List.take_succ_cons, List.drop_succ_cons, ← i1, ← i2]
      refine ⟨?_, ?_⟩
      · unfold lowL; rw [List.filter_cons, if_pos (by simp; omega)]
      · unfold highL; rw [List.filter_cons, if_neg (by simp; omega)]
    · rename_i hs
      simp only [Nat.sub_self, List.take_zero, List.drop_zero]
      refine ⟨?_, ?_⟩
      · unfold lowL
        rw [List.filter_eq_nil_iff]
        intro y hy
        rcases List.mem_cons.1 hy with rfl | hy
        · simp; omega
        · have := hr y hy; simp; omega
      · unfold highL
        rw [List.filter_eq_self]
        intro y hy
        rcases List.mem_cons.1 hy with rfl | hy
        · simp; omega
        · have := hr y hy; simp; omega
theorem refFind_gap {l : List Sub} (hs : rightFrom 0 l) (j : Nat) (hj : j ≤ gapAt 0 l) : (0 ≤ refFind l (((j + 1 : Nat) : Nat) : Int)) ↔ j < gapAt 0 l := by
  constructor
  · intro h
    rcases Nat.lt_or_ge j (gapAt 0 l) with h' | h'
    · exact h'
    · have e : j = gapAt 0 l := by omega
      exfalso
      have hn : refFind l ((j + 1 : Nat) : Int) < 0 := by
        rw [refFind_neg]
        unfold findL
        rw [List.find?_eq_none]
        intro x hx
        have := gap_not l 0 hs x hx
        simp
        omega
      omega
  · intro h
    obtain ⟨s, hs1, hs2⟩ := gap_has l 0 (j + 1) (by omega) (by omega)
    have hn : ¬ refFind l ((j + 1 : Nat) : Int) < 0 := fun hc => by
      have := refFind_neg.1 hc
      unfold findL at this
      rw [List.find?_eq_none] at this
      have := this s hs1
      simp at this
      exact this hs2
    omega
end Go.Proofs.Ytjbfcmaiejlnbaa
