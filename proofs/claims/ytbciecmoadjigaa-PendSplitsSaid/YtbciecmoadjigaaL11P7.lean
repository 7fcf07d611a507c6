/- A part of a proof: functions of the program, walked. -/
import Derived.Test.YtbciecmoadjigaaL11R6
set_option linter.unusedVariables false
set_option linter.unusedSimpArgs false
namespace Go.Proofs.Ytbciecmoadjigaa
open Go Go.Proofs Go.Proofs.YtbciecmoadjigaaVm Go.Proofs.Ytbciecmoadjigaa.Ty

theorem gBelow_take {k : List UInt8} {l : List Note} (hs : gSorted Note.key l) : l.take (gBelow Note.key k l) = gLow Note.key l k := (gLow_eq Note.key l hs).symm
theorem partGo_none (k : List UInt8) (ls : List (List UInt8)) : ∀ i, (∀ j, 1 ≤ j → ∀ s, ls[j]? = some s → slt k s) → partGo k ls i = 0
  | 0, _ => rfl
  | i + 1, h => by
    have ih := partGo_none k ls i h
    unfold partGo
    split
    · rename_i s hs
      split
      · exact ih
      · rename_i hn
        cases i with
        | zero => rfl
        | succ i => exact absurd (h (i + 1) (by omega) s hs) hn
    · exact ih
/-- Where a key belongs among rising ones: not ahead of the second. -/
theorem partGo_tail (k s t : List UInt8) (r : List (List UInt8)) (ht : ¬ slt k t) : ∀ i, partGo k (s :: t :: r) (i + 2) = partGo k (t :: r) (i + 1) + 1
  | 0 => by simp [partGo, ht]
  | i + 1 => by
    have ih := partGo_tail k s t r ht i
    show (match (s :: t :: r)[i + 2]? with
      | some u => if slt k u then partGo k (s :: t :: r) (i + 2) else i + 2
      | none => partGo k (s :: t :: r) (i + 2)) = (match (t :: r)[i + 1]? with
      | some u => if slt k u then partGo k (t :: r) (i + 1) else i + 1
      | none => partGo k (t :: r) (i + 1)) + 1
    rw [ih]
    have e : (s :: t :: r)[i + 2]? = (t :: r)[i + 1]? := by simp
    rw [e]
    cases (t :: r)[i + 1]? with
    | none => rfl
    | some u => simp only; split <;> rfl
theorem partV_low {k s t : List UInt8} {r : List (List UInt8)} (hr : (s :: t :: r).Pairwise slt) (h : slt k t) : partV k (s :: t :: r) = 0 := by
  refine partGo_none k _ _ fun j hj u hu => ?_
  have h2 := (List.pairwise_cons.1 hr).2
  obtain ⟨j, rfl⟩ : ∃ i, j = i + 1 := ⟨j - 1, by omega⟩
  have hu' : (t :: r)[j]? = some u := by simpa using hu
  rcases List.mem_cons.1 (List.mem_of_getElem? hu') with rfl | hm
  · exact h
  · exact slt_trans h ((List.pairwise_cons.1 h2).1 u hm)
theorem partV_high {k s t : List UInt8} {r : List (List UInt8)} (h : ¬ slt k t) : partV k (s :: t :: r) = partV k (t :: r) + 1 := partGo_tail k s t r h r.length
theorem partV_one (k s : List UInt8) : partV k [s] = 0 := by
  unfold partV partGo
  simp [partGo]
/-- The parts are what belongs there. -/
theorem splitV_at : ∀ (ls : List (List UInt8)) (l : List Note), gSorted Note.key l → ls.Pairwise slt → ∀ i p, (splitV l ls)[i]? = some p → p = l.filter fun x => decide (partV x.key ls = i)
  | [], _, _, _, _, _, h => by simp [splitV] at h
  | [s], l, _, _, i, p, h => by
    cases i with
    | zero =>
      simp [splitV] at h
      subst h
      refine (List.filter_eq_self.2 fun x _ => ?_).symm
      rw [partV_one]; rfl
    | succ i => simp [splitV] at h
  | s :: t :: r, l, hs, hr, i, p, h => by
    have hsd : gSorted Note.key (l.drop (gBelow Note.key t l)) := List.Pairwise.sublist (List.drop_sublist _ _) hs
    have hlow : ∀ x ∈ l.take (gBelow Note.key t l), slt x.key t := fun x hx => by
      obtain ⟨j, hj, rfl⟩ := List.getElem_of_mem hx
      have hj2 : j < gBelow Note.key t l := by simp at hj; omega
      refine gBelow_lt Note.key l j _ hj2 ?_
      rw [List.getElem_take, List.getElem?_eq_getElem]
    have hhigh : ∀ x ∈ l.drop (gBelow Note.key t l), ¬ slt x.key t := fun x hx => by
      obtain ⟨j, hj, rfl⟩ := List.getElem_of_mem hx
      refine gBelow_ge Note.key l hs (gBelow Note.key t l + j) _ (by omega) ?_
      rw [List.getElem_drop, List.getElem?_eq_getElem]
    have hl : l.filter (fun x => decide (partV x.key (s :: t :: r) = i)) = (l.take (gBelow Note.key t l)).filter (fun x => decide (partV x.key (s :: t :: r) = i)) ++ (l.drop (gBelow Note.key t l)).filter (fun x => decide (partV x.key (s :: t :: r) = i)) := by
      rw [← List.filter_append, List.take_append_drop]
    rw [hl]
    cases i with
    | zero =>
      simp [splitV] at h
      subst h
      rw [List.filter_eq_self.2 fun x hx => by rw [partV_low hr (hlow x hx)]; rfl, List.filter_eq_nil_iff.2 fun x hx => by rw [partV_high (hhigh x hx)]; simp, List.append_nil]
    | succ i =>
      rw [splitV, List.getElem?_cons_succ] at h
      have ih := splitV_at (t :: r) _ hsd (List.pairwise_cons.1 hr).2 i p h
      have e1 : (l.take (gBelow Note.key t l)).filter (fun x => decide (partV x.key (s :: t :: r) = i + 1)) = [] := List.filter_eq_nil_iff.2 fun x hx => by rw [partV_low hr (hlow x hx)]; simp
      rw [ih, e1, List.nil_append]
      refine List.filter_congr fun x hx => ?_
      rw [partV_high (hhigh x hx)]
      simp

set_option maxRecDepth 10000 in
set_option maxHeartbeats 16000000 in
theorem law_Splits (l : List Note) (lows : List (List UInt8)) (hl : l.length ≤ maxLen) (hw : lows.length ≤ maxLen) :
    Ct Try.prog 4 (YtbciecmoadjigaaVm.ops [.row (l.map Note.pv), .row (lows.map PV.str)]) (.vals [.bool true]) := by
  have aw := law11_awake
  refine Ct.of_V Try.func4 rfl (by simp [YtbciecmoadjigaaVm.ops, Try.f4]) ?_
  refine V.exec 400 ?_
  simp (config := {contextual := true}) only [go_sem, ↓reduceIte, reduceCtorEq, Bool.false_eq_true, Bool.true_eq_false, Nat.reduceAdd, Nat.reduceLT, Nat.reduceEqDiff, Nat.reduceLeDiff, Nat.reduceSub, Nat.reduceMul, Try.f4]
  refine V.call rfl rfl (by simp [dOK]) ⟨9, [], by simp only [go_sem, ↓reduceIte, reduceCtorEq, Bool.false_eq_true, Bool.true_eq_false, Nat.reduceAdd, Nat.reduceLT, Nat.reduceEqDiff, Nat.reduceLeDiff, Nat.reduceSub, Nat.reduceMul], ⟨_, rfl, rfl, rfl⟩, .inl ⟨[.row (l.map Note.pv)], _, .inl (by simp only [go_sem, ↓reduceIte, reduceCtorEq, Bool.false_eq_true, Bool.true_eq_false, Nat.reduceAdd, Nat.reduceLT, Nat.reduceEqDiff, Nat.reduceLeDiff, Nat.reduceSub, Nat.reduceMul]), law11_few l (by simp only [maxLen] at hl; omega), .inl ⟨_, rfl, rfl, rfl, rfl⟩⟩⟩ ?_
  refine V.exec 400 ?_
  by_cases h1 : fewN l
  · have hl60 := h1.1
    by_cases h20 : lows.length ≤ 20
    · have h20' : ¬ (20 : Int) < (lows.length : Int) := by omega
      have c1 := pend_Split l lows (by omega) (by omega)
      have c2 := pend_Most l lows (by omega) (by omega)
      have hS1 : ¬ (waitOk l ∧ risesOk lows ∧ lows ≠ []) → splitR l lows = [] := fun h => if_neg h
      have hS2 : waitOk l ∧ risesOk lows ∧ lows ≠ [] → (splitR l lows).length = lows.length ∧ ∀ (i : Nat) (p : List Note), (splitR l lows)[i]? = some p → p = l.filter fun x => decide ((partV x.key lows : Int) = (i : Int)) := fun h => by
        unfold splitR
        rw [if_pos h]
        refine ⟨splitV_len _ _, fun i p hp => ?_⟩
        rw [splitV_at lows l ((waitOk_iff l).1 h.1).1 ((risesOk_iff lows).1 h.2.1) i p hp]
        refine List.filter_congr fun x _ => ?_
        rw [decide_eq_decide]
        exact ⟨fun e => by rw [e], fun e => by omega⟩
      have hfl := @splitR_flat l lows
      have hb0 : splitR l lows = [] → mostV l lows = 0 := fun h => by unfold mostV; rw [h]; rfl
      have hbB : mostV l lows = bestV (splitR l lows) (splitR l lows).length := rfl
      generalize mostV l lows = B at *
      generalize splitR l lows = S at *
      simp (config := {contextual := true}) only [go_sem, ↓reduceIte, reduceCtorEq, Bool.false_eq_true, Bool.true_eq_false, Nat.reduceAdd, Nat.reduceLT, Nat.reduceEqDiff, Nat.reduceLeDiff, Nat.reduceSub, Nat.reduceMul, h1, h20']
      refine V.call rfl rfl (by simp [dOK]) ⟨17, [], by simp only [go_sem, ↓reduceIte, reduceCtorEq, Bool.false_eq_true, Bool.true_eq_false, Nat.reduceAdd, Nat.reduceLT, Nat.reduceEqDiff, Nat.reduceLeDiff, Nat.reduceSub, Nat.reduceMul], ⟨_, rfl, rfl, rfl⟩, .inl ⟨[.row (l.map Note.pv), .row (lows.map PV.str)], _, .inl (by simp only [go_sem, ↓reduceIte, reduceCtorEq, Bool.false_eq_true, Bool.true_eq_false, Nat.reduceAdd, Nat.reduceLT, Nat.reduceEqDiff, Nat.reduceLeDiff, Nat.reduceSub, Nat.reduceMul]), c1, .inr (.inl ⟨_, rfl, rfl, rfl⟩)⟩⟩ ?_
      refine V.exec 400 ?_
      simp (config := {contextual := true}) only [go_sem, ↓reduceIte, reduceCtorEq, Bool.false_eq_true, Bool.true_eq_false, Nat.reduceAdd, Nat.reduceLT, Nat.reduceEqDiff, Nat.reduceLeDiff, Nat.reduceSub, Nat.reduceMul]
      refine V.call rfl rfl (by simp [dOK]) ⟨18, [], by simp only [go_sem, ↓reduceIte, reduceCtorEq, Bool.false_eq_true, Bool.true_eq_false, Nat.reduceAdd, Nat.reduceLT, Nat.reduceEqDiff, Nat.reduceLeDiff, Nat.reduceSub, Nat.reduceMul], ⟨_, rfl, rfl, rfl⟩, .inl ⟨[.row (l.map Note.pv), .row (lows.map PV.str)], _, .inl (by simp only [go_sem, ↓reduceIte, reduceCtorEq, Bool.false_eq_true, Bool.true_eq_false, Nat.reduceAdd, Nat.reduceLT, Nat.reduceEqDiff, Nat.reduceLeDiff, Nat.reduceSub, Nat.reduceMul]), c2, .inl ⟨_, rfl, rfl, rfl, rfl⟩⟩⟩ ?_
      refine V.exec 400 ?_
      simp (config := {contextual := true}) only [go_sem, ↓reduceIte, reduceCtorEq, Bool.false_eq_true, Bool.true_eq_false, Nat.reduceAdd, Nat.reduceLT, Nat.reduceEqDiff, Nat.reduceLeDiff, Nat.reduceSub, Nat.reduceMul]
      refine V.call rfl rfl (by simp [dOK]) ⟨14, [], by simp only [go_sem, ↓reduceIte, reduceCtorEq, Bool.false_eq_true, Bool.true_eq_false, Nat.reduceAdd, Nat.reduceLT, Nat.reduceEqDiff, Nat.reduceLeDiff, Nat.reduceSub, Nat.reduceMul], ⟨_, rfl, rfl, rfl⟩, .inl ⟨[.row (l.map Note.pv)], _, .inl (by simp only [go_sem, ↓reduceIte, reduceCtorEq, Bool.false_eq_true, Bool.true_eq_false, Nat.reduceAdd, Nat.reduceLT, Nat.reduceEqDiff, Nat.reduceLeDiff, Nat.reduceSub, Nat.reduceMul]), ref11_Right l (by omega), .inl ⟨_, rfl, rfl, rfl, rfl⟩⟩⟩ ?_
      refine V.exec 400 ?_
      by_cases hok : waitOk l
      · simp (config := {contextual := true}) only [go_sem, ↓reduceIte, reduceCtorEq, Bool.false_eq_true, Bool.true_eq_false, Nat.reduceAdd, Nat.reduceLT, Nat.reduceEqDiff, Nat.reduceLeDiff, Nat.reduceSub, Nat.reduceMul, hok]
        refine V.call rfl rfl (by simp [dOK]) ⟨19, [], by simp only [go_sem, ↓reduceIte, reduceCtorEq, Bool.false_eq_true, Bool.true_eq_false, Nat.reduceAdd, Nat.reduceLT, Nat.reduceEqDiff, Nat.reduceLeDiff, Nat.reduceSub, Nat.reduceMul], ⟨_, rfl, rfl, rfl⟩, .inl ⟨[.row (lows.map PV.str)], _, .inl (by simp only [go_sem, ↓reduceIte, reduceCtorEq, Bool.false_eq_true, Bool.true_eq_false, Nat.reduceAdd, Nat.reduceLT, Nat.reduceEqDiff, Nat.reduceLeDiff, Nat.reduceSub, Nat.reduceMul]), ref11_Rises lows (by omega), .inl ⟨_, rfl, rfl, rfl, rfl⟩⟩⟩ ?_
        refine V.exec 400 ?_
        by_cases hr : risesOk lows
        · by_cases h0 : lows.length = 0
          · have h0' : (lows.length : Int) = 0 := by omega
            have hS := hS1 fun h => h.2.2 (List.eq_nil_of_length_eq_zero h0)
            have hB := hb0 hS
            subst hS hB
            have z00 : ((0 : Nat) : Int) = 0 := rfl
            simp (config := {contextual := true}) only [go_sem, ↓reduceIte, reduceCtorEq, Bool.false_eq_true, Bool.true_eq_false, Nat.reduceAdd, Nat.reduceLT, Nat.reduceEqDiff, Nat.reduceLeDiff, Nat.reduceSub, Nat.reduceMul, hr, h0', List.map_nil, List.length_nil, z00, decide_true]
            refine V.call rfl rfl (by simp [dOK]) ⟨10, [], by simp only [go_sem, ↓reduceIte, reduceCtorEq, Bool.false_eq_true, Bool.true_eq_false, Nat.reduceAdd, Nat.reduceLT, Nat.reduceEqDiff, Nat.reduceLeDiff, Nat.reduceSub, Nat.reduceMul], ⟨_, rfl, rfl, rfl⟩, .inl ⟨[], _, .inl (by simp only [go_sem, ↓reduceIte, reduceCtorEq, Bool.false_eq_true, Bool.true_eq_false, Nat.reduceAdd, Nat.reduceLT, Nat.reduceEqDiff, Nat.reduceLeDiff, Nat.reduceSub, Nat.reduceMul]), aw, .inl ⟨_, rfl, rfl, rfl, rfl⟩⟩⟩ ?_
            refine V.exec 400 ?_
            simp (config := {contextual := true}) only [go_sem, ↓reduceIte, reduceCtorEq, Bool.false_eq_true, Bool.true_eq_false, Nat.reduceAdd, Nat.reduceLT, Nat.reduceEqDiff, Nat.reduceLeDiff, Nat.reduceSub, Nat.reduceMul]
          · have h0' : ¬ (lows.length : Int) = 0 := by omega
            obtain ⟨hSl, hSp⟩ := hS2 ⟨hok, hr, fun e => h0 (by rw [e]; rfl)⟩
            have hfl' := hfl fun e => h0 (by rw [← hSl, e]; rfl)
            have hSl' : (S.length : Int) = (lows.length : Int) := by omega
            simp (config := {contextual := true}) only [go_sem, ↓reduceIte, reduceCtorEq, Bool.false_eq_true, Bool.true_eq_false, Nat.reduceAdd, Nat.reduceLT, Nat.reduceEqDiff, Nat.reduceLeDiff, Nat.reduceSub, Nat.reduceMul, hr, h0', hSl']
            refine V.loop (fun m ls os => ∃ (i : Nat), i ≤ lows.length ∧ m = lows.length - i ∧
                ls = [(0, .val (.row (l.map Note.pv))), (1, .val (.row (lows.map PV.str))), (5, .val (.row (S.map rowN))), (6, .val (.int .i64 B)), (7, .val (.int .i64 (bestV S i))), (53, .val (.row (S.map rowN))), (54, .val (.int .i64 lows.length)), (55, .val (.int .i64 i))] ∧ os = []) 0 lows.length
              [(0, .val (.row (l.map Note.pv))), (1, .val (.row (lows.map PV.str))), (5, .val (.row (S.map rowN))), (6, .val (.int .i64 B)), (7, .val (.int .i64 0)), (53, .val (.row (S.map rowN))), (54, .val (.int .i64 lows.length)), (55, .val (.int .i64 0))] [] []
              ⟨0, Nat.zero_le _, rfl, rfl, rfl⟩ (by simp only [go_sem, ↓reduceIte, reduceCtorEq, Bool.false_eq_true, Bool.true_eq_false, Nat.reduceAdd, Nat.reduceLT, Nat.reduceEqDiff, Nat.reduceLeDiff, Nat.reduceSub, Nat.reduceMul, hSl']) ?_
            rintro m ls os ⟨i, hi, rfl, rfl, rfl⟩
            refine V.exec 400 ?_
            by_cases hlt : i < lows.length
            · have hlt' : (i : Int) < (lows.length : Int) := by omega
              obtain ⟨x, hx⟩ : ∃ x, S[i]? = some x := ⟨_, List.getElem?_eq_getElem (by omega)⟩
              have hbl := bestV_lt S i (by omega) (by omega)
              obtain ⟨y, hy⟩ : ∃ y, S[bestV S i]? = some y := ⟨_, List.getElem?_eq_getElem hbl⟩
              have hbl' : ((bestV S i : Nat) : Int) < (lows.length : Int) := by omega
              have hwi : IntKind.i64.wrap ((i : Int) + 1) = ((i + 1 : Nat) : Int) := by rw [wrap_small3] <;> omega
              have hxe := hSp i x hx
              have cs := ref11_Split l lows (i : Int) (by omega) (by omega)
              rw [← hxe] at cs
              have hxl : x.length ≤ 60 := by rw [hxe]; exact Nat.le_trans (List.length_filter_le _ _) hl60
              simp (config := {contextual := true}) only [go_sem, ↓reduceIte, reduceCtorEq, Bool.false_eq_true, Bool.true_eq_false, Nat.reduceAdd, Nat.reduceLT, Nat.reduceEqDiff, Nat.reduceLeDiff, Nat.reduceSub, Nat.reduceMul, hlt', hSl', hx, rowN]
              refine V.call rfl rfl (by simp [dOK]) ⟨20, [], by simp only [go_sem, ↓reduceIte, reduceCtorEq, Bool.false_eq_true, Bool.true_eq_false, Nat.reduceAdd, Nat.reduceLT, Nat.reduceEqDiff, Nat.reduceLeDiff, Nat.reduceSub, Nat.reduceMul], ⟨_, rfl, rfl, rfl⟩, .inl ⟨[.row (l.map Note.pv), .row (lows.map PV.str), .int .i64 i], _, .inl (by simp only [go_sem, ↓reduceIte, reduceCtorEq, Bool.false_eq_true, Bool.true_eq_false, Nat.reduceAdd, Nat.reduceLT, Nat.reduceEqDiff, Nat.reduceLeDiff, Nat.reduceSub, Nat.reduceMul]), cs, .inr (.inl ⟨_, rfl, rfl, rfl⟩)⟩⟩ ?_
              refine V.exec 400 ?_
              simp (config := {contextual := true}) only [go_sem, ↓reduceIte, reduceCtorEq, Bool.false_eq_true, Bool.true_eq_false, Nat.reduceAdd, Nat.reduceLT, Nat.reduceEqDiff, Nat.reduceLeDiff, Nat.reduceSub, Nat.reduceMul]
              refine V.call rfl rfl (by simp [dOK]) ⟨16, [], by simp only [go_sem, ↓reduceIte, reduceCtorEq, Bool.false_eq_true, Bool.true_eq_false, Nat.reduceAdd, Nat.reduceLT, Nat.reduceEqDiff, Nat.reduceLeDiff, Nat.reduceSub, Nat.reduceMul], ⟨_, rfl, rfl, rfl⟩, .inl ⟨[.row (x.map Note.pv), .row (x.map Note.pv)], _, .inl (by simp only [go_sem, ↓reduceIte, reduceCtorEq, Bool.false_eq_true, Bool.true_eq_false, Nat.reduceAdd, Nat.reduceLT, Nat.reduceEqDiff, Nat.reduceLeDiff, Nat.reduceSub, Nat.reduceMul]), ref09_Same x x (by omega), .inl ⟨_, rfl, rfl, rfl, rfl⟩⟩⟩ ?_
              refine V.exec 400 ?_
              by_cases hc : y.length < x.length
              · have hc' : (y.length : Int) < (x.length : Int) := by omega
                have hn : bestV S (i + 1) = i := by rw [bestV, getD_of hx, getD_of hy, if_pos hc]
                simp (config := {contextual := true}) only [go_sem, ↓reduceIte, reduceCtorEq, Bool.false_eq_true, Bool.true_eq_false, Nat.reduceAdd, Nat.reduceLT, Nat.reduceEqDiff, Nat.reduceLeDiff, Nat.reduceSub, Nat.reduceMul, hlt', hSl', hx, hy, hbl', hwi, rowN, hc', decide_true]
                exact ⟨lows.length - (i + 1), _, [], [], by omega, ⟨i + 1, by omega, rfl, rfl, rfl⟩, by simp only [go_sem, ↓reduceIte, reduceCtorEq, Bool.false_eq_true, Bool.true_eq_false, Nat.reduceAdd, Nat.reduceLT, Nat.reduceEqDiff, Nat.reduceLeDiff, Nat.reduceSub, Nat.reduceMul, hn]⟩
              · have hc' : ¬ (y.length : Int) < (x.length : Int) := by omega
                have hn : bestV S (i + 1) = bestV S i := by rw [bestV, getD_of hx, getD_of hy, if_neg hc]
                simp (config := {contextual := true}) only [go_sem, ↓reduceIte, reduceCtorEq, Bool.false_eq_true, Bool.true_eq_false, Nat.reduceAdd, Nat.reduceLT, Nat.reduceEqDiff, Nat.reduceLeDiff, Nat.reduceSub, Nat.reduceMul, hlt', hSl', hx, hy, hbl', hwi, rowN, hc', decide_true]
                exact ⟨lows.length - (i + 1), _, [], [], by omega, ⟨i + 1, by omega, rfl, rfl, rfl⟩, by simp only [go_sem, ↓reduceIte, reduceCtorEq, Bool.false_eq_true, Bool.true_eq_false, Nat.reduceAdd, Nat.reduceLT, Nat.reduceEqDiff, Nat.reduceLeDiff, Nat.reduceSub, Nat.reduceMul, hn]⟩
            · have hlt' : ¬ (i : Int) < (lows.length : Int) := by omega
              obtain rfl : i = lows.length := by omega
              rw [hSl] at hbB
              simp (config := {contextual := true}) only [go_sem, ↓reduceIte, reduceCtorEq, Bool.false_eq_true, Bool.true_eq_false, Nat.reduceAdd, Nat.reduceLT, Nat.reduceEqDiff, Nat.reduceLeDiff, Nat.reduceSub, Nat.reduceMul, hlt', ← hbB, decide_true]
              refine V.call rfl rfl (by simp [dOK]) ⟨10, [], by simp only [go_sem, ↓reduceIte, reduceCtorEq, Bool.false_eq_true, Bool.true_eq_false, Nat.reduceAdd, Nat.reduceLT, Nat.reduceEqDiff, Nat.reduceLeDiff, Nat.reduceSub, Nat.reduceMul], ⟨_, rfl, rfl, rfl⟩, .inl ⟨[], _, .inl (by simp only [go_sem, ↓reduceIte, reduceCtorEq, Bool.false_eq_true, Bool.true_eq_false, Nat.reduceAdd, Nat.reduceLT, Nat.reduceEqDiff, Nat.reduceLeDiff, Nat.reduceSub, Nat.reduceMul]), aw, .inl ⟨_, rfl, rfl, rfl, rfl⟩⟩⟩ ?_
              refine V.exec 400 ?_
              simp (config := {contextual := true}) only [go_sem, ↓reduceIte, reduceCtorEq, Bool.false_eq_true, Bool.true_eq_false, Nat.reduceAdd, Nat.reduceLT, Nat.reduceEqDiff, Nat.reduceLeDiff, Nat.reduceSub, Nat.reduceMul]
        · have hS := hS1 fun h => hr h.2.1
          have hB := hb0 hS
          subst hS hB
          have z00 : ((0 : Nat) : Int) = 0 := rfl
          simp (config := {contextual := true}) only [go_sem, ↓reduceIte, reduceCtorEq, Bool.false_eq_true, Bool.true_eq_false, Nat.reduceAdd, Nat.reduceLT, Nat.reduceEqDiff, Nat.reduceLeDiff, Nat.reduceSub, Nat.reduceMul, hr, List.map_nil, List.length_nil, z00, decide_true]
          refine V.call rfl rfl (by simp [dOK]) ⟨10, [], by simp only [go_sem, ↓reduceIte, reduceCtorEq, Bool.false_eq_true, Bool.true_eq_false, Nat.reduceAdd, Nat.reduceLT, Nat.reduceEqDiff, Nat.reduceLeDiff, Nat.reduceSub, Nat.reduceMul], ⟨_, rfl, rfl, rfl⟩, .inl ⟨[], _, .inl (by simp only [go_sem, ↓reduceIte, reduceCtorEq, Bool.false_eq_true, Bool.true_eq_false, Nat.reduceAdd, Nat.reduceLT, Nat.reduceEqDiff, Nat.reduceLeDiff, Nat.reduceSub, Nat.reduceMul]), aw, .inl ⟨_, rfl, rfl, rfl, rfl⟩⟩⟩ ?_
          refine V.exec 400 ?_
          simp (config := {contextual := true}) only [go_sem, ↓reduceIte, reduceCtorEq, Bool.false_eq_true, Bool.true_eq_false, Nat.reduceAdd, Nat.reduceLT, Nat.reduceEqDiff, Nat.reduceLeDiff, Nat.reduceSub, Nat.reduceMul]
      · have hS := hS1 fun h => hok h.1
        have hB := hb0 hS
        subst hS hB
        have z00 : ((0 : Nat) : Int) = 0 := rfl
        simp (config := {contextual := true}) only [go_sem, ↓reduceIte, reduceCtorEq, Bool.false_eq_true, Bool.true_eq_false, Nat.reduceAdd, Nat.reduceLT, Nat.reduceEqDiff, Nat.reduceLeDiff, Nat.reduceSub, Nat.reduceMul, hok, List.map_nil, List.length_nil, z00, decide_true]
        refine V.call rfl rfl (by simp [dOK]) ⟨10, [], by simp only [go_sem, ↓reduceIte, reduceCtorEq, Bool.false_eq_true, Bool.true_eq_false, Nat.reduceAdd, Nat.reduceLT, Nat.reduceEqDiff, Nat.reduceLeDiff, Nat.reduceSub, Nat.reduceMul], ⟨_, rfl, rfl, rfl⟩, .inl ⟨[], _, .inl (by simp only [go_sem, ↓reduceIte, reduceCtorEq, Bool.false_eq_true, Bool.true_eq_false, Nat.reduceAdd, Nat.reduceLT, Nat.reduceEqDiff, Nat.reduceLeDiff, Nat.reduceSub, Nat.reduceMul]), aw, .inl ⟨_, rfl, rfl, rfl, rfl⟩⟩⟩ ?_
        refine V.exec 400 ?_
        simp (config := {contextual := true}) only [go_sem, ↓reduceIte, reduceCtorEq, Bool.false_eq_true, Bool.true_eq_false, Nat.reduceAdd, Nat.reduceLT, Nat.reduceEqDiff, Nat.reduceLeDiff, Nat.reduceSub, Nat.reduceMul]
    · have h20' : (20 : Int) < (lows.length : Int) := by omega
      simp (config := {contextual := true}) only [go_sem, ↓reduceIte, reduceCtorEq, Bool.false_eq_true, Bool.true_eq_false, Nat.reduceAdd, Nat.reduceLT, Nat.reduceEqDiff, Nat.reduceLeDiff, Nat.reduceSub, Nat.reduceMul, h1, h20']
      refine V.call rfl rfl (by simp [dOK]) ⟨10, [], by simp only [go_sem, ↓reduceIte, reduceCtorEq, Bool.false_eq_true, Bool.true_eq_false, Nat.reduceAdd, Nat.reduceLT, Nat.reduceEqDiff, Nat.reduceLeDiff, Nat.reduceSub, Nat.reduceMul], ⟨_, rfl, rfl, rfl⟩, .inl ⟨[], _, .inl (by simp only [go_sem, ↓reduceIte, reduceCtorEq, Bool.false_eq_true, Bool.true_eq_false, Nat.reduceAdd, Nat.reduceLT, Nat.reduceEqDiff, Nat.reduceLeDiff, Nat.reduceSub, Nat.reduceMul]), aw, .inl ⟨_, rfl, rfl, rfl, rfl⟩⟩⟩ ?_
      refine V.exec 400 ?_
      simp (config := {contextual := true}) only [go_sem, ↓reduceIte, reduceCtorEq, Bool.false_eq_true, Bool.true_eq_false, Nat.reduceAdd, Nat.reduceLT, Nat.reduceEqDiff, Nat.reduceLeDiff, Nat.reduceSub, Nat.reduceMul]
  · simp (config := {contextual := true}) only [go_sem, ↓reduceIte, reduceCtorEq, Bool.false_eq_true, Bool.true_eq_false, Nat.reduceAdd, Nat.reduceLT, Nat.reduceEqDiff, Nat.reduceLeDiff, Nat.reduceSub, Nat.reduceMul, h1]
    refine V.call rfl rfl (by simp [dOK]) ⟨10, [], by simp only [go_sem, ↓reduceIte, reduceCtorEq, Bool.false_eq_true, Bool.true_eq_false, Nat.reduceAdd, Nat.reduceLT, Nat.reduceEqDiff, Nat.reduceLeDiff, Nat.reduceSub, Nat.reduceMul], ⟨_, rfl, rfl, rfl⟩, .inl ⟨[], _, .inl (by simp only [go_sem, ↓reduceIte, reduceCtorEq, Bool.false_eq_true, Bool.true_eq_false, Nat.reduceAdd, Nat.reduceLT, Nat.reduceEqDiff, Nat.reduceLeDiff, Nat.reduceSub, Nat.reduceMul]), aw, .inl ⟨_, rfl, rfl, rfl, rfl⟩⟩⟩ ?_
    refine V.exec 400 ?_
    simp (config := {contextual := true}) only [go_sem, ↓reduceIte, reduceCtorEq, Bool.false_eq_true, Bool.true_eq_false, Nat.reduceAdd, Nat.reduceLT, Nat.reduceEqDiff, Nat.reduceLeDiff, Nat.reduceSub, Nat.reduceMul]
theorem ctSplits (xs0 : List PV) (l0 : xs0.length ≤ maxLen) (h0 : ∀ x ∈ xs0, ∃ qs, x = .agg qs ∧ qs.map PV.kd = [.int .i64, .str, .str, .int .u64] ∧ ∀ q ∈ qs, q.wfv) (ls1 : List (List UInt8)) (l1 : ls1.length ≤ maxLen) :
    Ct Try.prog 4 (YtbciecmoadjigaaVm.ops [.row xs0, .row (ls1.map PV.str)]) (.vals [.bool true]) := by
  obtain ⟨l, rfl⟩ := note_of xs0 h0
  exact law_Splits l ls1 (by simpa using l0) l1
end Go.Proofs.Ytbciecmoadjigaa
