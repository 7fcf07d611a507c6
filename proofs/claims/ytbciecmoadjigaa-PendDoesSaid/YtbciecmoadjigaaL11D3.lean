/- A part of a proof: functions of the program, walked. -/
import Derived.Test.YtbciecmoadjigaaL11D2
set_option linter.unusedVariables false
set_option linter.unusedSimpArgs false
namespace Go.Proofs.Ytbciecmoadjigaa
open Go Go.Proofs Go.Proofs.YtbciecmoadjigaaVm Go.Proofs.Ytbciecmoadjigaa.Ty

def risesFrom : Option (List UInt8) → List (List UInt8) → Prop
  | _, [] => True
  | last, s :: r => (∀ k, last = some k → slt k s) ∧ risesFrom (some s) r
def risesOk (l : List (List UInt8)) : Prop := risesFrom none l
instance instRFs : ∀ (last : Option (List UInt8)) (l : List (List UInt8)), Decidable (risesFrom last l)
  | _, [] => isTrue trivial
  | none, s :: r => by
    unfold risesFrom
    have := instRFs (some s) r
    have : Decidable (∀ k, none = some k → slt k s) := isTrue (fun k h => by cases h)
    infer_instance
  | some k, s :: r => by
    unfold risesFrom
    have := instRFs (some s) r
    have : Decidable (∀ k', some k = some k' → slt k' s) := decidable_of_iff (slt k s) ⟨fun h k' e => by cases e; exact h, fun h => h k rfl⟩
    infer_instance
instance instRisesOk (l : List (List UInt8)) : Decidable (risesOk l) := by unfold risesOk; infer_instance
def prevStr (l : List (List UInt8)) (i : Nat) : Option (List UInt8) := if i = 0 then none else l[i - 1]?

set_option maxRecDepth 4000 in
set_option maxHeartbeats 8000000 in
theorem pend_rises (l : List (List UInt8)) (hl : l.length ≤ 1000000) : Ct Try.prog 34 (YtbciecmoadjigaaVm.ops [.row (l.map PV.str)]) (.vals [.bool (decide (risesOk l))]) := by
  refine Ct.of_V Try.func34 rfl (by simp [YtbciecmoadjigaaVm.ops, Try.f34]) ?_
  refine V.exec 400 ?_
  simp (config := {contextual := true}) only [go_sem, ↓reduceIte, reduceCtorEq, Bool.false_eq_true, Bool.true_eq_false, Nat.reduceAdd, Nat.reduceLT, Nat.reduceEqDiff, Nat.reduceLeDiff, Nat.reduceSub, Nat.reduceMul, Try.f34]
  refine V.loop (fun m ls os => ∃ (i : Nat), i ≤ l.length ∧ m = l.length - i ∧ (risesOk l ↔ risesFrom (prevStr l i) (l.drop i)) ∧
        ls = [(0, .val (.row (l.map PV.str))), (5, .val (.row (l.map PV.str))), (6, .val (.int .i64 l.length)), (7, .val (.int .i64 i))] ∧ os = []) 0 l.length
      [(0, .val (.row (l.map PV.str))), (5, .val (.row (l.map PV.str))), (6, .val (.int .i64 l.length)), (7, .val (.int .i64 0))] [] []
      ⟨0, Nat.zero_le _, rfl, Iff.rfl, rfl, rfl⟩ (by simp only [go_sem, ↓reduceIte, reduceCtorEq, Bool.false_eq_true, Bool.true_eq_false, Nat.reduceAdd, Nat.reduceLT, Nat.reduceEqDiff, Nat.reduceLeDiff, Nat.reduceSub, Nat.reduceMul]) ?_
  rintro m ls os ⟨i, hi, rfl, hiff, rfl, rfl⟩
  refine V.exec 400 ?_
  by_cases hlt : i < l.length
  · have hlt' : (i : Int) < (l.length : Int) := by omega
    obtain ⟨x, hx⟩ : ∃ x, l[i]? = some x := ⟨_, List.getElem?_eq_getElem hlt⟩
    have hw : IntKind.i64.wrap ((i : Int) + 1) = ((i + 1 : Nat) : Int) := by rw [wrap_small3] <;> omega
    rw [drop_of_get hx, risesFrom] at hiff
    have hpk : prevStr l (i + 1) = some x := by simp [prevStr, hx]
    have fin : (∀ k, prevStr l i = some k → slt k x) → (risesOk l ↔ risesFrom (prevStr l (i + 1)) (l.drop (i + 1))) := fun b => by
      rw [hiff, hpk]; exact ⟨fun h => h.2, fun h => ⟨b, h⟩⟩
    have hfalse : ¬ risesOk l → some [PV.bool false] = some [PV.bool (decide (risesOk l))] := fun h => by simp [h]
    rcases Nat.eq_zero_or_pos i with rfl | hpos
    · have hz : ¬ (0 : Int) < ((0 : Nat) : Int) := by omega
      simp (config := {contextual := true}) only [go_sem, ↓reduceIte, reduceCtorEq, Bool.false_eq_true, Bool.true_eq_false, Nat.reduceAdd, Nat.reduceLT, Nat.reduceEqDiff, Nat.reduceLeDiff, Nat.reduceSub, Nat.reduceMul, hlt', hx, hw, hz]
      (repeat' (first | (intro _) | (refine ⟨by kernel_rfl, ?_⟩) | (apply And.intro)))
      all_goals exact ⟨l.length - (0 + 1), _, [], [], by omega, ⟨1, by omega, rfl, fin (fun k h => by simp [prevStr] at h), rfl, rfl⟩, by simp only [go_sem, ↓reduceIte, reduceCtorEq, Bool.false_eq_true, Bool.true_eq_false, Nat.reduceAdd, Nat.reduceLT, Nat.reduceEqDiff, Nat.reduceLeDiff, Nat.reduceSub, Nat.reduceMul]⟩
    · obtain ⟨j, rfl⟩ : ∃ j, i = j + 1 := ⟨i - 1, by omega⟩
      have hw2 : IntKind.i64.wrap (((j + 1 : Nat) : Int) - 1) = (j : Int) := by rw [wrap_small3] <;> omega
      have hjp : (0 : Int) < ((j + 1 : Nat) : Int) := by omega
      obtain ⟨y, hy⟩ : ∃ y, l[j]? = some y := ⟨_, List.getElem?_eq_getElem (by omega)⟩
      simp (config := {contextual := true}) only [go_sem, ↓reduceIte, reduceCtorEq, Bool.false_eq_true, Bool.true_eq_false, Nat.reduceAdd, Nat.reduceLT, Nat.reduceEqDiff, Nat.reduceLeDiff, Nat.reduceSub, Nat.reduceMul, hlt', hx, hw, hw2, hjp, hy]
      (repeat' (first | (intro _) | (refine ⟨by kernel_rfl, ?_⟩) | (apply And.intro)))
      all_goals first
        | exact ⟨l.length - (j + 1 + 1), _, [], [], by omega, ⟨j + 1 + 1, by omega, rfl, fin (fun k h => by simp [prevStr, hy] at h; rw [← h]; assumption), rfl, rfl⟩, by simp only [go_sem, ↓reduceIte, reduceCtorEq, Bool.false_eq_true, Bool.true_eq_false, Nat.reduceAdd, Nat.reduceLT, Nat.reduceEqDiff, Nat.reduceLeDiff, Nat.reduceSub, Nat.reduceMul]⟩
        | (refine hfalse fun h => ?_
           have := (hiff.1 h).1 y (by simp [prevStr, hy])
           contradiction)
  · have hlt' : ¬ (i : Int) < (l.length : Int) := by omega
    have hd : l.drop i = [] := List.drop_eq_nil_of_le (by omega)
    rw [hd, risesFrom] at hiff
    simp (config := {contextual := true}) only [go_sem, ↓reduceIte, reduceCtorEq, Bool.false_eq_true, Bool.true_eq_false, Nat.reduceAdd, Nat.reduceLT, Nat.reduceEqDiff, Nat.reduceLeDiff, Nat.reduceSub, Nat.reduceMul, hlt']
    simp [hiff]

/-- The parts, by where keys begin. -/
def splitV : List Note → List (List UInt8) → List (List Note)
  | _, [] => []
  | l, [_] => [l]
  | l, _ :: t :: r => l.take (gBelow Note.key t l) :: splitV (l.drop (gBelow Note.key t l)) (t :: r)
theorem splitV_len : ∀ (ls : List (List UInt8)) (l : List Note), (splitV l ls).length = ls.length
  | [], _ => rfl
  | [_], _ => rfl
  | _ :: t :: r, l => by rw [splitV, List.length_cons, splitV_len (t :: r)]; rfl
def splitR (l : List Note) (lows : List (List UInt8)) : List (List Note) := if waitOk l ∧ risesOk lows ∧ lows ≠ [] then splitV l lows else []
def rowN (l : List Note) : PV := .row (l.map Note.pv)
theorem set_mid {α : Type} (d : List α) (k : Nat) (z v : α) : (d ++ List.replicate (k + 1) z).set d.length v = (d ++ [v]) ++ List.replicate k z := by
  rw [List.set_append_right _ _ (Nat.le_refl _), Nat.sub_self, List.replicate_succ, List.set_cons_zero]
  simp

set_option maxRecDepth 10000 in
set_option maxHeartbeats 16000000 in
theorem pend_Split (l : List Note) (lows : List (List UInt8)) (hl : l.length ≤ 400000) (hw : lows.length ≤ 400000) : Ct Try.prog 17 (YtbciecmoadjigaaVm.ops [.row (l.map Note.pv), .row (lows.map PV.str)]) (.vals [.row ((splitR l lows).map rowN)]) := by
  have h2 : ∀ (l : List Note), ∀ x ∈ l.map Note.pv, x.cells.length = 4 := fun l x hx => by
    obtain ⟨s, _, rfl⟩ := List.mem_map.1 hx
    rfl
  refine Ct.of_V Try.func17 rfl (by simp [YtbciecmoadjigaaVm.ops, Try.f17]) ?_
  refine V.exec 400 ?_
  simp (config := {contextual := true}) only [go_sem, ↓reduceIte, reduceCtorEq, Bool.false_eq_true, Bool.true_eq_false, Nat.reduceAdd, Nat.reduceLT, Nat.reduceEqDiff, Nat.reduceLeDiff, Nat.reduceSub, Nat.reduceMul, Try.f17]
  refine V.call rfl rfl (by simp [dOK]) ⟨15, [], by simp only [go_sem, ↓reduceIte, reduceCtorEq, Bool.false_eq_true, Bool.true_eq_false, Nat.reduceAdd, Nat.reduceLT, Nat.reduceEqDiff, Nat.reduceLeDiff, Nat.reduceSub, Nat.reduceMul], ⟨_, rfl, rfl, rfl⟩, .inl ⟨[.row (l.map Note.pv)], _, .inl (by simp only [go_sem, ↓reduceIte, reduceCtorEq, Bool.false_eq_true, Bool.true_eq_false, Nat.reduceAdd, Nat.reduceLT, Nat.reduceEqDiff, Nat.reduceLeDiff, Nat.reduceSub, Nat.reduceMul]), pend_Right l (by omega), .inl ⟨_, rfl, rfl, rfl, rfl⟩⟩⟩ ?_
  refine V.exec 400 ?_
  by_cases hok : waitOk l
  · simp (config := {contextual := true}) only [go_sem, ↓reduceIte, reduceCtorEq, Bool.false_eq_true, Bool.true_eq_false, Nat.reduceAdd, Nat.reduceLT, Nat.reduceEqDiff, Nat.reduceLeDiff, Nat.reduceSub, Nat.reduceMul, hok]
    refine V.call rfl rfl (by simp [dOK]) ⟨34, [], by simp only [go_sem, ↓reduceIte, reduceCtorEq, Bool.false_eq_true, Bool.true_eq_false, Nat.reduceAdd, Nat.reduceLT, Nat.reduceEqDiff, Nat.reduceLeDiff, Nat.reduceSub, Nat.reduceMul], ⟨_, rfl, rfl, rfl⟩, .inl ⟨[.row (lows.map PV.str)], _, .inl (by simp only [go_sem, ↓reduceIte, reduceCtorEq, Bool.false_eq_true, Bool.true_eq_false, Nat.reduceAdd, Nat.reduceLT, Nat.reduceEqDiff, Nat.reduceLeDiff, Nat.reduceSub, Nat.reduceMul]), pend_rises lows (by omega), .inl ⟨_, rfl, rfl, rfl, rfl⟩⟩⟩ ?_
    refine V.exec 400 ?_
    by_cases hr : risesOk lows
    · by_cases h0 : lows.length = 0
      · have h0' : (lows.length : Int) = 0 := by omega
        have hv : splitR l lows = [] := by
          unfold splitR; rw [if_neg (fun h => h.2.2 (List.eq_nil_of_length_eq_zero h0))]
        simp (config := {contextual := true}) only [go_sem, ↓reduceIte, reduceCtorEq, Bool.false_eq_true, Bool.true_eq_false, Nat.reduceAdd, Nat.reduceLT, Nat.reduceEqDiff, Nat.reduceLeDiff, Nat.reduceSub, Nat.reduceMul, hr, h0', hv, List.map_nil]
      · have h0' : ¬ (lows.length : Int) = 0 := by omega
        have hv : splitR l lows = splitV l lows := by
          unfold splitR; rw [if_pos ⟨hok, hr, fun e => h0 (by rw [e]; rfl)⟩]
        have hsr := ((waitOk_iff l).1 hok).1
        simp (config := {contextual := true}) only [go_sem, ↓reduceIte, reduceCtorEq, Bool.false_eq_true, Bool.true_eq_false, Nat.reduceAdd, Nat.reduceLT, Nat.reduceEqDiff, Nat.reduceLeDiff, Nat.reduceSub, Nat.reduceMul, hr, h0', hv]
        refine ⟨⟨by omega, by omega⟩, ?_⟩
        refine V.loop (fun m ls os => ∃ (i : Nat) (rest : List Note) (done : List (List Note)), i ≤ lows.length ∧ m = lows.length - i ∧ gSorted Note.key rest ∧ rest.length ≤ l.length ∧ done.length = i ∧ done ++ splitV rest (lows.drop i) = splitV l lows ∧
            ls = [(0, .val (.row (rest.map Note.pv))), (1, .val (.row (lows.map PV.str))), (5, .ref 0), (24, .val (.row (lows.map PV.str))), (25, .val (.int .i64 lows.length)), (26, .val (.int .i64 i))] ∧ os = [.row 22 (done.map rowN ++ List.replicate (lows.length - i) (PV.row []))]) 1 lows.length
          [(0, .val (.row (l.map Note.pv))), (1, .val (.row (lows.map PV.str))), (5, .ref 0), (24, .val (.row (lows.map PV.str))), (25, .val (.int .i64 lows.length)), (26, .val (.int .i64 0))] [.row 22 (List.replicate lows.length (PV.row []))] [some 18]
          ⟨0, l, [], Nat.zero_le _, rfl, hsr, Nat.le_refl _, rfl, rfl, rfl, rfl⟩ (by simp only [go_sem, ↓reduceIte, reduceCtorEq, Bool.false_eq_true, Bool.true_eq_false, Nat.reduceAdd, Nat.reduceLT, Nat.reduceEqDiff, Nat.reduceLeDiff, Nat.reduceSub, Nat.reduceMul]; try decide) ?_
        rintro m ls os ⟨i, rest, done, hi, rfl, hrs, hrl, hdl, hda, rfl, rfl⟩
        refine V.exec 400 ?_
        by_cases hlt : i < lows.length
        · have hlt' : (i : Int) < (lows.length : Int) := by omega
          obtain ⟨s, hs⟩ : ∃ x, lows[i]? = some x := ⟨_, List.getElem?_eq_getElem hlt⟩
          have hw : IntKind.i64.wrap ((i : Int) + 1) = ((i + 1 : Nat) : Int) := by rw [wrap_small3] <;> omega
          have hRl : (done.map rowN ++ List.replicate (lows.length - i) (PV.row [])).length = lows.length := by simp [hdl]; omega
          have hRi : (done.map rowN ++ List.replicate (lows.length - i) (PV.row []))[i]? = some (PV.row []) := by
            rw [List.getElem?_append_right (by simp [hdl]), List.length_map, hdl, Nat.sub_self, List.getElem?_replicate, if_pos (by omega)]
          have hset : ∀ v, (done.map rowN ++ List.replicate (lows.length - i) (PV.row [])).set i v = (done.map rowN ++ [v]) ++ List.replicate (lows.length - (i + 1)) (PV.row []) := fun v => by
            have e : lows.length - i = (lows.length - (i + 1)) + 1 := by omega
            rw [e]
            have := set_mid (done.map rowN) (lows.length - (i + 1)) (PV.row []) v
            rw [List.length_map, hdl] at this
            exact this
          generalize hR : done.map rowN ++ List.replicate (lows.length - i) (PV.row []) = R at *
          by_cases hn1 : i + 1 < lows.length
          · have hn1' : ((i + 1 : Nat) : Int) < (lows.length : Int) := by omega
            obtain ⟨t, ht⟩ : ∃ x, lows[i + 1]? = some x := ⟨_, List.getElem?_eq_getElem hn1⟩
            have hdi : lows.drop i = s :: t :: lows.drop (i + 2) := by rw [drop_of_get hs, drop_of_get ht]
            have hdi2 : lows.drop (i + 1) = t :: lows.drop (i + 2) := drop_of_get ht
            have hbl := gBelow_le Note.key t rest
            have hpl := pend_place rest t (by omega)
            rw [posN_eq hrs t] at hpl
            generalize hB : gBelow Note.key t rest = B at *
            have hda2 : done ++ [rest.take B] ++ splitV (rest.drop B) (lows.drop (i + 1)) = splitV l lows := by
              rw [← hda, hdi, hdi2, splitV, hB]; simp
            have hcl := (CloneNote ((rest.map Note.pv).take B) (fun x hx => h2 rest x (List.mem_of_mem_take hx)) (by simp; omega)).forget
            have hBl' : ((B : Nat) : Int) ≤ (rest.length : Int) := by omega
            have hst := hset (rowN (rest.take B))
            simp only [rowN, List.map_take] at hst
            simp (config := {contextual := true}) only [go_sem, ↓reduceIte, reduceCtorEq, Bool.false_eq_true, Bool.true_eq_false, Nat.reduceAdd, Nat.reduceLT, Nat.reduceEqDiff, Nat.reduceLeDiff, Nat.reduceSub, Nat.reduceMul, hlt', hw, hn1', ht]
            refine V.call rfl rfl (by simp [dOK]) ⟨29, [], by simp only [go_sem, ↓reduceIte, reduceCtorEq, Bool.false_eq_true, Bool.true_eq_false, Nat.reduceAdd, Nat.reduceLT, Nat.reduceEqDiff, Nat.reduceLeDiff, Nat.reduceSub, Nat.reduceMul], ⟨_, rfl, rfl, rfl⟩, .inl ⟨[.row (rest.map Note.pv), .str t], _, .inl (by simp only [go_sem, ↓reduceIte, reduceCtorEq, Bool.false_eq_true, Bool.true_eq_false, Nat.reduceAdd, Nat.reduceLT, Nat.reduceEqDiff, Nat.reduceLeDiff, Nat.reduceSub, Nat.reduceMul]), hpl, .inl ⟨_, rfl, rfl, rfl, rfl⟩⟩⟩ ?_
            refine V.exec 400 ?_
            simp (config := {contextual := true}) only [go_sem, ↓reduceIte, reduceCtorEq, Bool.false_eq_true, Bool.true_eq_false, Nat.reduceAdd, Nat.reduceLT, Nat.reduceEqDiff, Nat.reduceLeDiff, Nat.reduceSub, Nat.reduceMul, hBl']
            refine DV.call [] [] (by simp only [go_sem, ↓reduceIte, reduceCtorEq, Bool.false_eq_true, Bool.true_eq_false, Nat.reduceAdd, Nat.reduceLT, Nat.reduceEqDiff, Nat.reduceLeDiff, Nat.reduceSub, Nat.reduceMul]) (by simp [dOK]) ⟨25, [], by simp only [go_sem, ↓reduceIte, reduceCtorEq, Bool.false_eq_true, Bool.true_eq_false, Nat.reduceAdd, Nat.reduceLT, Nat.reduceEqDiff, Nat.reduceLeDiff, Nat.reduceSub, Nat.reduceMul], ⟨_, rfl, rfl, rfl⟩, .inl ⟨[.row ((rest.map Note.pv).take B)], _, .inl (by simp only [go_sem, ↓reduceIte, reduceCtorEq, Bool.false_eq_true, Bool.true_eq_false, Nat.reduceAdd, Nat.reduceLT, Nat.reduceEqDiff, Nat.reduceLeDiff, Nat.reduceSub, Nat.reduceMul]), hcl, .inr (.inl ⟨_, rfl, rfl, rfl⟩)⟩⟩ (by simp only [go_sem, ↓reduceIte, reduceCtorEq, Bool.false_eq_true, Bool.true_eq_false, Nat.reduceAdd, Nat.reduceLT, Nat.reduceEqDiff, Nat.reduceLeDiff, Nat.reduceSub, Nat.reduceMul]) (by simp only [go_sem, ↓reduceIte, reduceCtorEq, Bool.false_eq_true, Bool.true_eq_false, Nat.reduceAdd, Nat.reduceLT, Nat.reduceEqDiff, Nat.reduceLeDiff, Nat.reduceSub, Nat.reduceMul]) (by simp only [go_sem, ↓reduceIte, reduceCtorEq, Bool.false_eq_true, Bool.true_eq_false, Nat.reduceAdd, Nat.reduceLT, Nat.reduceEqDiff, Nat.reduceLeDiff, Nat.reduceSub, Nat.reduceMul]) (by simp) ?_
            refine DV.exec 400 ?_
            simp (config := {contextual := true}) only [go_sem, ↓reduceIte, reduceCtorEq, Bool.false_eq_true, Bool.true_eq_false, Nat.reduceAdd, Nat.reduceLT, Nat.reduceEqDiff, Nat.reduceLeDiff, Nat.reduceSub, Nat.reduceMul, hRl, hRi, hst, hlt', hw, hBl']
            refine ⟨fun _ _ => rfl, by kernel_rfl, lows.length - (i + 1), _, _, [some 0], by omega, ⟨i + 1, rest.drop B, done ++ [rest.take B], by omega, rfl, List.Pairwise.sublist (List.drop_sublist _ _) hrs, by simp; omega, by simp [hdl], hda2, rfl, rfl⟩, ?_⟩
            simp only [go_sem, ↓reduceIte, reduceCtorEq, Bool.false_eq_true, Bool.true_eq_false, Nat.reduceAdd, Nat.reduceLT, Nat.reduceEqDiff, Nat.reduceLeDiff, Nat.reduceSub, Nat.reduceMul, rowN, List.map_append, List.map_take, List.map_drop]
            try decide
          · have hn1' : ¬ ((i + 1 : Nat) : Int) < (lows.length : Int) := by omega
            have hdi : lows.drop i = [s] := by rw [drop_of_get hs, List.drop_eq_nil_of_le (by omega)]
            rw [hdi] at hda
            have hda2 : done ++ [rest] ++ splitV [] (lows.drop (i + 1)) = splitV l lows := by
              rw [List.drop_eq_nil_of_le (by omega)]; simpa [splitV] using hda
            have hcl := (CloneNote ((rest.map Note.pv).take rest.length) (fun x hx => h2 rest x (List.mem_of_mem_take hx)) (by simp; omega)).forget
            have htk : (rest.map Note.pv).take rest.length = rest.map Note.pv := List.take_of_length_le (by simp)
            have hdk : (rest.map Note.pv).drop rest.length = [] := List.drop_eq_nil_of_le (by simp)
            rw [htk] at hcl
            have hst := hset (rowN rest)
            simp only [rowN] at hst
            simp (config := {contextual := true}) only [go_sem, ↓reduceIte, reduceCtorEq, Bool.false_eq_true, Bool.true_eq_false, Nat.reduceAdd, Nat.reduceLT, Nat.reduceEqDiff, Nat.reduceLeDiff, Nat.reduceSub, Nat.reduceMul, hlt', hw, hn1', htk, hdk]
            refine ⟨Int.le_refl _, ?_⟩
            refine DV.call [] [] (by simp only [go_sem, ↓reduceIte, reduceCtorEq, Bool.false_eq_true, Bool.true_eq_false, Nat.reduceAdd, Nat.reduceLT, Nat.reduceEqDiff, Nat.reduceLeDiff, Nat.reduceSub, Nat.reduceMul]) (by simp [dOK]) ⟨25, [], by simp only [go_sem, ↓reduceIte, reduceCtorEq, Bool.false_eq_true, Bool.true_eq_false, Nat.reduceAdd, Nat.reduceLT, Nat.reduceEqDiff, Nat.reduceLeDiff, Nat.reduceSub, Nat.reduceMul], ⟨_, rfl, rfl, rfl⟩, .inl ⟨[.row (rest.map Note.pv)], _, .inl (by simp only [go_sem, ↓reduceIte, reduceCtorEq, Bool.false_eq_true, Bool.true_eq_false, Nat.reduceAdd, Nat.reduceLT, Nat.reduceEqDiff, Nat.reduceLeDiff, Nat.reduceSub, Nat.reduceMul]), hcl, .inr (.inl ⟨_, rfl, rfl, rfl⟩)⟩⟩ (by simp only [go_sem, ↓reduceIte, reduceCtorEq, Bool.false_eq_true, Bool.true_eq_false, Nat.reduceAdd, Nat.reduceLT, Nat.reduceEqDiff, Nat.reduceLeDiff, Nat.reduceSub, Nat.reduceMul]) (by simp only [go_sem, ↓reduceIte, reduceCtorEq, Bool.false_eq_true, Bool.true_eq_false, Nat.reduceAdd, Nat.reduceLT, Nat.reduceEqDiff, Nat.reduceLeDiff, Nat.reduceSub, Nat.reduceMul]) (by simp only [go_sem, ↓reduceIte, reduceCtorEq, Bool.false_eq_true, Bool.true_eq_false, Nat.reduceAdd, Nat.reduceLT, Nat.reduceEqDiff, Nat.reduceLeDiff, Nat.reduceSub, Nat.reduceMul]) (by simp) ?_
            refine DV.exec 400 ?_
            simp (config := {contextual := true}) only [go_sem, ↓reduceIte, reduceCtorEq, Bool.false_eq_true, Bool.true_eq_false, Nat.reduceAdd, Nat.reduceLT, Nat.reduceEqDiff, Nat.reduceLeDiff, Nat.reduceSub, Nat.reduceMul, hRl, hRi, hst, htk, hdk, hlt', hw]
            refine ⟨⟨Int.le_refl _, fun _ _ => rfl⟩, by kernel_rfl, lows.length - (i + 1), _, _, [some 0], by omega, ⟨i + 1, [], done ++ [rest], by omega, rfl, List.Pairwise.nil, by simp, by simp [hdl], hda2, rfl, rfl⟩, ?_⟩
            simp only [go_sem, ↓reduceIte, reduceCtorEq, Bool.false_eq_true, Bool.true_eq_false, Nat.reduceAdd, Nat.reduceLT, Nat.reduceEqDiff, Nat.reduceLeDiff, Nat.reduceSub, Nat.reduceMul, rowN, List.map_append]
            try decide
        · have hlt' : ¬ (i : Int) < (lows.length : Int) := by omega
          have hd : lows.drop i = [] := List.drop_eq_nil_of_le (by omega)
          have hsn : ∀ r, splitV r [] = [] := fun r => by unfold splitV; rfl
          have hz : lows.length - i = 0 := by omega
          rw [hd, hsn, List.append_nil] at hda
          rw [hz]
          simp (config := {contextual := true}) only [go_sem, ↓reduceIte, reduceCtorEq, Bool.false_eq_true, Bool.true_eq_false, Nat.reduceAdd, Nat.reduceLT, Nat.reduceEqDiff, Nat.reduceLeDiff, Nat.reduceSub, Nat.reduceMul, hlt', List.replicate_zero, List.append_nil, hda]
    · have hv : splitR l lows = [] := by
        unfold splitR; rw [if_neg (fun h => hr h.2.1)]
      simp (config := {contextual := true}) only [go_sem, ↓reduceIte, reduceCtorEq, Bool.false_eq_true, Bool.true_eq_false, Nat.reduceAdd, Nat.reduceLT, Nat.reduceEqDiff, Nat.reduceLeDiff, Nat.reduceSub, Nat.reduceMul, hr, hv, List.map_nil]
  · have hv : splitR l lows = [] := by
      unfold splitR; rw [if_neg (fun h => hok h.1)]
    simp (config := {contextual := true}) only [go_sem, ↓reduceIte, reduceCtorEq, Bool.false_eq_true, Bool.true_eq_false, Nat.reduceAdd, Nat.reduceLT, Nat.reduceEqDiff, Nat.reduceLeDiff, Nat.reduceSub, Nat.reduceMul, hok, hv, List.map_nil]
end Go.Proofs.Ytbciecmoadjigaa
