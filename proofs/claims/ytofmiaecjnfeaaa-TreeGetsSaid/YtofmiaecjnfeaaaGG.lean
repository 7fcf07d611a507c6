/- A part of a proof: functions of the program, walked. -/
import Derived.Test.YtofmiaecjnfeaaaGF
set_option linter.unusedVariables false
set_option linter.unusedSimpArgs false
set_option maxRecDepth 8000
namespace Go.Proofs.Ytofmiaecjnfeaaa
open Nat renaming reduceAdd → uA, reduceLT → uB, reduceEqDiff → uC, reduceLeDiff → uD, reduceSub → uE, reduceMul → uF
open Bool renaming false_eq_true → yA, true_eq_false → yB
open Go Go.Proofs Go.Proofs.YtofmiaecjnfeaaaVm Go.Proofs.Ytofmiaecjnfeaaa.Ty

def risesFrom : Option (List UInt8) → List (List UInt8) → Prop
  | _, [] => True
  | last, s :: r => (∀ k, last = some k → slt k s) ∧ risesFrom (some s) r
def risesOk (l : List (List UInt8)) : Prop := risesFrom none l
instance instRFs : ∀ (last : Option (List UInt8)) (l : List (List UInt8)), Decidable (risesFrom last l)
  | _, [] => isTrue trivial
  | none, s :: r => by
    unfold risesFrom
    have := instRFs (some s) r
    have : Decidable (∀ k, none = some k → slt k s) := isTrue (fun k h => by cases h)
    infer_instance
  | some k, s :: r => by
    unfold risesFrom
    have := instRFs (some s) r
    have : Decidable (∀ k', some k = some k' → slt k' s) := decidable_of_iff (slt k s) ⟨fun h k' e => by cases e; exact h, fun h => h k rfl⟩
    infer_instance
instance instRisesOk (l : List (List UInt8)) : Decidable (risesOk l) := by unfold risesOk; infer_instance
def prevStr (l : List (List UInt8)) (i : Nat) : Option (List UInt8) := if i = 0 then none else l[i - 1]?

set_option maxRecDepth 4000 in
set_option maxHeartbeats 8000000 in
theorem pend_rises (l : List (List UInt8)) (hl : l.length ≤ 1000000) : Ct Try.prog 75 (YtofmiaecjnfeaaaVm.ops [.row (l.map PV.str)]) (.vals [.bool (decide (risesOk l))]) := by
  refine Ct.of_V Try.func75 rfl (by simp [YtofmiaecjnfeaaaVm.ops, Try.f75]) ?_
  refine V.exec 400 ?_
  simp +contextual (maxSteps := 1000000) only [go_sem, ↓reduceIte, reduceCtorEq, yA, yB, uA, uB, uC, uD, uE, uF, Try.f75]
  refine V.loop (fun m ls os => ∃ (i : Nat), i ≤ l.length ∧ m = l.length - i ∧ (risesOk l ↔ risesFrom (prevStr l i) (l.drop i)) ∧
        ls = [(0, .val (.row (l.map PV.str))), (5, .val (.row (l.map PV.str))), (6, .val (.int .i64 l.length)), (7, .val (.int .i64 i))] ∧ os = []) 0 l.length
      [(0, .val (.row (l.map PV.str))), (5, .val (.row (l.map PV.str))), (6, .val (.int .i64 l.length)), (7, .val (.int .i64 0))] [] []
      ⟨0, Nat.zero_le _, rfl, Iff.rfl, rfl, rfl⟩ (by simp only [go_sem, ↓reduceIte, reduceCtorEq, yA, yB, uA, uB, uC, uD, uE, uF]) ?_
  rintro m ls os ⟨i, hi, rfl, hiff, rfl, rfl⟩
  refine V.exec 400 ?_
  by_cases hlt : i < l.length
  · have hlt' : (i : Int) < (l.length : Int) := by omega
    obtain ⟨x, hx⟩ : ∃ x, l[i]? = some x := ⟨_, List.getElem?_eq_getElem hlt⟩
    have hw : IntKind.i64.wrap ((i : Int) + 1) = ((i + 1 : Nat) : Int) := by rw [wrap_small3] <;> omega
    rw [drop_of_get hx, risesFrom] at hiff
    have hpk : prevStr l (i + 1) = some x := by simp [prevStr, hx]
    have fin : (∀ k, prevStr l i = some k → slt k x) → (risesOk l ↔ risesFrom (prevStr l (i + 1)) (l.drop (i + 1))) := fun b => by
      rw [hiff, hpk]; exact ⟨fun h => h.2, fun h => ⟨b, h⟩⟩
    have hfalse : ¬ risesOk l → some [PV.bool false] = some [PV.bool (decide (risesOk l))] := fun h => by simp [h]
    rcases Nat.eq_zero_or_pos i with rfl | hpos
    · have hz : ¬ (0 : Int) < ((0 : Nat) : Int) := by omega
      simp +contextual (maxSteps := 1000000) only [go_sem, ↓reduceIte, reduceCtorEq, yA, yB, uA, uB, uC, uD, uE, uF, hlt', hx, hw, hz]
      (repeat' (first | (intro _) | (refine ⟨by kernel_rfl, ?_⟩) | (apply And.intro)))
      all_goals exact ⟨l.length - (0 + 1), _, [], [], by omega, ⟨1, by omega, rfl, fin (fun k h => by simp [prevStr] at h), rfl, rfl⟩, by simp only [go_sem, ↓reduceIte, reduceCtorEq, yA, yB, uA, uB, uC, uD, uE, uF]⟩
    · obtain ⟨j, rfl⟩ : ∃ j, i = j + 1 := ⟨i - 1, by omega⟩
      have hw2 : IntKind.i64.wrap (((j + 1 : Nat) : Int) - 1) = (j : Int) := by rw [wrap_small3] <;> omega
      have hjp : (0 : Int) < ((j + 1 : Nat) : Int) := by omega
      obtain ⟨y, hy⟩ : ∃ y, l[j]? = some y := ⟨_, List.getElem?_eq_getElem (by omega)⟩
      simp +contextual (maxSteps := 1000000) only [go_sem, ↓reduceIte, reduceCtorEq, yA, yB, uA, uB, uC, uD, uE, uF, hlt', hx, hw, hw2, hjp, hy]
      (repeat' (first | (intro _) | (refine ⟨by kernel_rfl, ?_⟩) | (apply And.intro)))
      all_goals first
        | exact ⟨l.length - (j + 1 + 1), _, [], [], by omega, ⟨j + 1 + 1, by omega, rfl, fin (fun k h => by simp [prevStr, hy] at h; rw [← h]; assumption), rfl, rfl⟩, by simp only [go_sem, ↓reduceIte, reduceCtorEq, yA, yB, uA, uB, uC, uD, uE, uF]⟩
        | (refine hfalse fun h => ?_
           have := (hiff.1 h).1 y (by simp [prevStr, hy])
           contradiction)
  · have hlt' : ¬ (i : Int) < (l.length : Int) := by omega
    have hd : l.drop i = [] := List.drop_eq_nil_of_le (by omega)
    rw [hd, risesFrom] at hiff
    simp +contextual (maxSteps := 1000000) only [go_sem, ↓reduceIte, reduceCtorEq, yA, yB, uA, uB, uC, uD, uE, uF, hlt']
    simp [hiff]

/-- The parts, by where keys begin. -/
def splitV : List Note → List (List UInt8) → List (List Note)
  | _, [] => []
  | l, [_] => [l]
  | l, _ :: t :: r => l.take (gBelow Note.key t l) :: splitV (l.drop (gBelow Note.key t l)) (t :: r)
theorem splitV_len : ∀ (ls : List (List UInt8)) (l : List Note), (splitV l ls).length = ls.length
  | [], _ => rfl
  | [_], _ => rfl
  | _ :: t :: r, l => by rw [splitV, List.length_cons, splitV_len (t :: r)]; rfl
def splitR (l : List Note) (lows : List (List UInt8)) : List (List Note) := if waitOk l ∧ risesOk lows ∧ lows ≠ [] then splitV l lows else []
def rowN (l : List Note) : PV := .row (l.map Note.pv)
theorem set_mid {α : Type} (d : List α) (k : Nat) (z v : α) : (d ++ List.replicate (k + 1) z).set d.length v = (d ++ [v]) ++ List.replicate k z := by
  rw [List.set_append_right _ _ (Nat.le_refl _), Nat.sub_self, List.replicate_succ, List.set_cons_zero]
  simp

set_option maxRecDepth 10000 in
set_option maxHeartbeats 16000000 in
theorem pend_SplitO (l : List Note) (lows : List (List UInt8)) (hl : l.length ≤ 400000) (hw : lows.length ≤ 400000) : Ct Try.prog 44 (YtofmiaecjnfeaaaVm.ops [.row (l.map Note.pv), .row (lows.map PV.str)]) (.own 30 ((splitR l lows).map rowN)) := by
  have h2 : ∀ (l : List Note), ∀ x ∈ l.map Note.pv, x.cells.length = 4 := fun l x hx => by
    obtain ⟨s, _, rfl⟩ := List.mem_map.1 hx
    rfl
  refine Ct.of_V Try.func44 rfl (by simp [YtofmiaecjnfeaaaVm.ops, Try.f44]) ?_
  refine V.exec 400 ?_
  simp +contextual (maxSteps := 1000000) only [go_sem, ↓reduceIte, reduceCtorEq, yA, yB, uA, uB, uC, uD, uE, uF, Try.f44]
  refine V.call rfl rfl (by simp [dOK]) ⟨67, [], by simp only [go_sem, ↓reduceIte, reduceCtorEq, yA, yB, uA, uB, uC, uD, uE, uF], ⟨_, rfl, rfl, rfl⟩, .inl ⟨[.row (l.map Note.pv)], _, .inl (by simp only [go_sem, ↓reduceIte, reduceCtorEq, yA, yB, uA, uB, uC, uD, uE, uF]), pend_Right l (by omega), .inl ⟨_, rfl, rfl, rfl, rfl⟩⟩⟩ ?_
  refine V.exec 400 ?_
  by_cases hok : waitOk l
  · simp +contextual (maxSteps := 1000000) only [go_sem, ↓reduceIte, reduceCtorEq, yA, yB, uA, uB, uC, uD, uE, uF, hok]
    refine V.call rfl rfl (by simp [dOK]) ⟨75, [], by simp only [go_sem, ↓reduceIte, reduceCtorEq, yA, yB, uA, uB, uC, uD, uE, uF], ⟨_, rfl, rfl, rfl⟩, .inl ⟨[.row (lows.map PV.str)], _, .inl (by simp only [go_sem, ↓reduceIte, reduceCtorEq, yA, yB, uA, uB, uC, uD, uE, uF]), pend_rises lows (by omega), .inl ⟨_, rfl, rfl, rfl, rfl⟩⟩⟩ ?_
    refine V.exec 400 ?_
    by_cases hr : risesOk lows
    · by_cases h0 : lows.length = 0
      · have h0' : (lows.length : Int) = 0 := by omega
        have hv : splitR l lows = [] := by
          unfold splitR; rw [if_neg (fun h => h.2.2 (List.eq_nil_of_length_eq_zero h0))]
        simp +contextual (maxSteps := 1000000) only [go_sem, ↓reduceIte, reduceCtorEq, yA, yB, uA, uB, uC, uD, uE, uF, hr, h0', hv, List.map_nil]
        exact ⟨1, rfl, by decide⟩
      · have h0' : ¬ (lows.length : Int) = 0 := by omega
        have hv : splitR l lows = splitV l lows := by
          unfold splitR; rw [if_pos ⟨hok, hr, fun e => h0 (by rw [e]; rfl)⟩]
        have hsr := ((waitOk_iff l).1 hok).1
        simp +contextual (maxSteps := 1000000) only [go_sem, ↓reduceIte, reduceCtorEq, yA, yB, uA, uB, uC, uD, uE, uF, hr, h0', hv]
        refine ⟨⟨by omega, by omega⟩, ?_⟩
        refine V.loop (fun m ls os => ∃ (i : Nat) (rest : List Note) (done : List (List Note)), i ≤ lows.length ∧ m = lows.length - i ∧ gSorted Note.key rest ∧ rest.length ≤ l.length ∧ done.length = i ∧ done ++ splitV rest (lows.drop i) = splitV l lows ∧
            ls = [(0, .val (.row (rest.map Note.pv))), (1, .val (.row (lows.map PV.str))), (5, .ref 0), (24, .val (.row (lows.map PV.str))), (25, .val (.int .i64 lows.length)), (26, .val (.int .i64 i))] ∧ os = [.row 30 (done.map rowN ++ List.replicate (lows.length - i) (PV.row []))]) 1 lows.length
          [(0, .val (.row (l.map Note.pv))), (1, .val (.row (lows.map PV.str))), (5, .ref 0), (24, .val (.row (lows.map PV.str))), (25, .val (.int .i64 lows.length)), (26, .val (.int .i64 0))] [.row 30 (List.replicate lows.length (PV.row []))] [some 18]
          ⟨0, l, [], Nat.zero_le _, rfl, hsr, Nat.le_refl _, rfl, rfl, rfl, rfl⟩ (by simp only [go_sem, ↓reduceIte, reduceCtorEq, yA, yB, uA, uB, uC, uD, uE, uF]; try decide) ?_
        rintro m ls os ⟨i, rest, done, hi, rfl, hrs, hrl, hdl, hda, rfl, rfl⟩
        refine V.exec 400 ?_
        by_cases hlt : i < lows.length
        · have hlt' : (i : Int) < (lows.length : Int) := by omega
          obtain ⟨s, hs⟩ : ∃ x, lows[i]? = some x := ⟨_, List.getElem?_eq_getElem hlt⟩
          have hw : IntKind.i64.wrap ((i : Int) + 1) = ((i + 1 : Nat) : Int) := by rw [wrap_small3] <;> omega
          have hRl : (done.map rowN ++ List.replicate (lows.length - i) (PV.row [])).length = lows.length := by simp [hdl]; omega
          have hRi : (done.map rowN ++ List.replicate (lows.length - i) (PV.row []))[i]? = some (PV.row []) := by
            rw [List.getElem?_append_right (by simp [hdl]), List.length_map, hdl, Nat.sub_self, List.getElem?_replicate, if_pos (by omega)]
          have hset : ∀ v, (done.map rowN ++ List.replicate (lows.length - i) (PV.row [])).set i v = (done.map rowN ++ [v]) ++ List.replicate (lows.length - (i + 1)) (PV.row []) := fun v => by
            have e : lows.length - i = (lows.length - (i + 1)) + 1 := by omega
            rw [e]
            have := set_mid (done.map rowN) (lows.length - (i + 1)) (PV.row []) v
            rw [List.length_map, hdl] at this
            exact this
          generalize hR : done.map rowN ++ List.replicate (lows.length - i) (PV.row []) = R at *
          by_cases hn1 : i + 1 < lows.length
          · have hn1' : ((i + 1 : Nat) : Int) < (lows.length : Int) := by omega
            obtain ⟨t, ht⟩ : ∃ x, lows[i + 1]? = some x := ⟨_, List.getElem?_eq_getElem hn1⟩
            have hdi : lows.drop i = s :: t :: lows.drop (i + 2) := by rw [drop_of_get hs, drop_of_get ht]
            have hdi2 : lows.drop (i + 1) = t :: lows.drop (i + 2) := drop_of_get ht
            have hbl := gBelow_le Note.key t rest
            have hpl := pend_place rest t (by omega)
            rw [posN_eq hrs t] at hpl
            generalize hB : gBelow Note.key t rest = B at *
            have hda2 : done ++ [rest.take B] ++ splitV (rest.drop B) (lows.drop (i + 1)) = splitV l lows := by
              rw [← hda, hdi, hdi2, splitV, hB]; simp
            have hcl := (CloneNote ((rest.map Note.pv).take B) (fun x hx => h2 rest x (List.mem_of_mem_take hx)) (by simp; omega)).forget
            have hBl' : ((B : Nat) : Int) ≤ (rest.length : Int) := by omega
            have hst := hset (rowN (rest.take B))
            simp only [rowN, List.map_take] at hst
            simp +contextual (maxSteps := 1000000) only [go_sem, ↓reduceIte, reduceCtorEq, yA, yB, uA, uB, uC, uD, uE, uF, hlt', hw, hn1', ht]
            refine V.call rfl rfl (by simp [dOK]) ⟨69, [], by simp only [go_sem, ↓reduceIte, reduceCtorEq, yA, yB, uA, uB, uC, uD, uE, uF], ⟨_, rfl, rfl, rfl⟩, .inl ⟨[.row (rest.map Note.pv), .str t], _, .inl (by simp only [go_sem, ↓reduceIte, reduceCtorEq, yA, yB, uA, uB, uC, uD, uE, uF]), hpl, .inl ⟨_, rfl, rfl, rfl, rfl⟩⟩⟩ ?_
            refine V.exec 400 ?_
            simp +contextual (maxSteps := 1000000) only [go_sem, ↓reduceIte, reduceCtorEq, yA, yB, uA, uB, uC, uD, uE, uF, hBl']
            refine DV.call [] [] (by simp only [go_sem, ↓reduceIte, reduceCtorEq, yA, yB, uA, uB, uC, uD, uE, uF]) (by simp [dOK]) ⟨60, [], by simp only [go_sem, ↓reduceIte, reduceCtorEq, yA, yB, uA, uB, uC, uD, uE, uF], ⟨_, rfl, rfl, rfl⟩, .inl ⟨[.row ((rest.map Note.pv).take B)], _, .inl (by simp only [go_sem, ↓reduceIte, reduceCtorEq, yA, yB, uA, uB, uC, uD, uE, uF]), hcl, .inr (.inl ⟨_, rfl, rfl, rfl⟩)⟩⟩ (by simp only [go_sem, ↓reduceIte, reduceCtorEq, yA, yB, uA, uB, uC, uD, uE, uF]) (by simp only [go_sem, ↓reduceIte, reduceCtorEq, yA, yB, uA, uB, uC, uD, uE, uF]) (by simp only [go_sem, ↓reduceIte, reduceCtorEq, yA, yB, uA, uB, uC, uD, uE, uF]) (by simp) ?_
            refine DV.exec 400 ?_
            simp +contextual (maxSteps := 1000000) only [go_sem, ↓reduceIte, reduceCtorEq, yA, yB, uA, uB, uC, uD, uE, uF, hRl, hRi, hst, hlt', hw, hBl']
            refine ⟨fun _ _ => rfl, by kernel_rfl, lows.length - (i + 1), _, _, [some 0], by omega, ⟨i + 1, rest.drop B, done ++ [rest.take B], by omega, rfl, List.Pairwise.sublist (List.drop_sublist _ _) hrs, by simp; omega, by simp [hdl], hda2, rfl, rfl⟩, ?_⟩
            simp only [go_sem, ↓reduceIte, reduceCtorEq, yA, yB, uA, uB, uC, uD, uE, uF, rowN, List.map_append, List.map_take, List.map_drop]
            try decide
          · have hn1' : ¬ ((i + 1 : Nat) : Int) < (lows.length : Int) := by omega
            have hdi : lows.drop i = [s] := by rw [drop_of_get hs, List.drop_eq_nil_of_le (by omega)]
            rw [hdi] at hda
            have hda2 : done ++ [rest] ++ splitV [] (lows.drop (i + 1)) = splitV l lows := by
              rw [List.drop_eq_nil_of_le (by omega)]; simpa [splitV] using hda
            have hcl := (CloneNote ((rest.map Note.pv).take rest.length) (fun x hx => h2 rest x (List.mem_of_mem_take hx)) (by simp; omega)).forget
            have htk : (rest.map Note.pv).take rest.length = rest.map Note.pv := List.take_of_length_le (by simp)
            have hdk : (rest.map Note.pv).drop rest.length = [] := List.drop_eq_nil_of_le (by simp)
            rw [htk] at hcl
            have hst := hset (rowN rest)
            simp only [rowN] at hst
            simp +contextual (maxSteps := 1000000) only [go_sem, ↓reduceIte, reduceCtorEq, yA, yB, uA, uB, uC, uD, uE, uF, hlt', hw, hn1', htk, hdk]
            refine ⟨Int.le_refl _, ?_⟩
            refine DV.call [] [] (by simp only [go_sem, ↓reduceIte, reduceCtorEq, yA, yB, uA, uB, uC, uD, uE, uF]) (by simp [dOK]) ⟨60, [], by simp only [go_sem, ↓reduceIte, reduceCtorEq, yA, yB, uA, uB, uC, uD, uE, uF], ⟨_, rfl, rfl, rfl⟩, .inl ⟨[.row (rest.map Note.pv)], _, .inl (by simp only [go_sem, ↓reduceIte, reduceCtorEq, yA, yB, uA, uB, uC, uD, uE, uF]), hcl, .inr (.inl ⟨_, rfl, rfl, rfl⟩)⟩⟩ (by simp only [go_sem, ↓reduceIte, reduceCtorEq, yA, yB, uA, uB, uC, uD, uE, uF]) (by simp only [go_sem, ↓reduceIte, reduceCtorEq, yA, yB, uA, uB, uC, uD, uE, uF]) (by simp only [go_sem, ↓reduceIte, reduceCtorEq, yA, yB, uA, uB, uC, uD, uE, uF]) (by simp) ?_
            refine DV.exec 400 ?_
            simp +contextual (maxSteps := 1000000) only [go_sem, ↓reduceIte, reduceCtorEq, yA, yB, uA, uB, uC, uD, uE, uF, hRl, hRi, hst, htk, hdk, hlt', hw]
            refine ⟨⟨Int.le_refl _, fun _ _ => rfl⟩, by kernel_rfl, lows.length - (i + 1), _, _, [some 0], by omega, ⟨i + 1, [], done ++ [rest], by omega, rfl, List.Pairwise.nil, by simp, by simp [hdl], hda2, rfl, rfl⟩, ?_⟩
            simp only [go_sem, ↓reduceIte, reduceCtorEq, yA, yB, uA, uB, uC, uD, uE, uF, rowN, List.map_append]
            try decide
        · have hlt' : ¬ (i : Int) < (lows.length : Int) := by omega
          have hd : lows.drop i = [] := List.drop_eq_nil_of_le (by omega)
          have hsn : ∀ r, splitV r [] = [] := fun r => by unfold splitV; rfl
          have hz : lows.length - i = 0 := by omega
          rw [hd, hsn, List.append_nil] at hda
          rw [hz]
          simp +contextual (maxSteps := 1000000) only [go_sem, ↓reduceIte, reduceCtorEq, yA, yB, uA, uB, uC, uD, uE, uF, hlt', List.replicate_zero, List.append_nil, hda]
    · have hv : splitR l lows = [] := by
        unfold splitR; rw [if_neg (fun h => hr h.2.1)]
      simp +contextual (maxSteps := 1000000) only [go_sem, ↓reduceIte, reduceCtorEq, yA, yB, uA, uB, uC, uD, uE, uF, hr, hv, List.map_nil]
      exact ⟨1, rfl, by decide⟩
  · have hv : splitR l lows = [] := by
      unfold splitR; rw [if_neg (fun h => hok h.1)]
    simp +contextual (maxSteps := 1000000) only [go_sem, ↓reduceIte, reduceCtorEq, yA, yB, uA, uB, uC, uD, uE, uF, hok, hv, List.map_nil]
    exact ⟨1, rfl, by decide⟩
theorem pend_Split (l : List Note) (lows : List (List UInt8)) (hl : l.length ≤ 400000) (hw : lows.length ≤ 400000) : Ct Try.prog 44 (YtofmiaecjnfeaaaVm.ops [.row (l.map Note.pv), .row (lows.map PV.str)]) (.vals [.row ((splitR l lows).map rowN)]) := (pend_SplitO l lows hl hw).forget
end Go.Proofs.Ytofmiaecjnfeaaa
set_option linter.unusedVariables false
set_option linter.unusedSimpArgs false
set_option maxRecDepth 8000
namespace Go.Proofs.Ytofmiaecjnfeaaa
open Nat renaming reduceAdd → uA, reduceLT → uB, reduceEqDiff → uC, reduceLeDiff → uD, reduceSub → uE, reduceMul → uF
open Bool renaming false_eq_true → yA, true_eq_false → yB
open Go Go.Proofs Go.Proofs.YtofmiaecjnfeaaaVm Go.Proofs.Ytofmiaecjnfeaaa.Ty

/-- The first longest of the first i lists. -/
def bestV (ps : List (List Note)) : Nat → Nat
  | 0 => 0
  | i + 1 => if (ps.getD (bestV ps i) []).length < (ps.getD i []).length then i else bestV ps i
theorem bestV_lt (ps : List (List Note)) : ∀ i, i ≤ ps.length → 0 < ps.length → bestV ps i < ps.length
  | 0, _, h => h
  | i + 1, h, h0 => by
    unfold bestV
    split
    · omega
    · exact bestV_lt ps i (by omega) h0
theorem bestV_le (ps : List (List Note)) : ∀ i, ∀ j < i, (ps.getD j []).length ≤ (ps.getD (bestV ps i) []).length
  | 0, _, h => absurd h (by omega)
  | i + 1, j, h => by
    have ih := bestV_le ps i
    unfold bestV
    split
    · rename_i hc
      by_cases hj : j = i
      · subst hj; exact Nat.le_refl _
      · exact Nat.le_of_lt (Nat.lt_of_le_of_lt (ih j (by omega)) hc)
    · rename_i hc
      by_cases hj : j = i
      · subst hj; omega
      · exact ih j (by omega)
theorem bestV_first (ps : List (List Note)) : ∀ i, ∀ j < bestV ps i, (ps.getD j []).length < (ps.getD (bestV ps i) []).length
  | 0, _, h => absurd h (by simp [bestV])
  | i + 1, j, h => by
    have ih := bestV_first ps i
    have hle := bestV_le ps i
    unfold bestV at h ⊢
    split
    · rename_i hc
      rw [if_pos hc] at h
      exact Nat.lt_of_le_of_lt (hle j h) hc
    · rename_i hc
      rw [if_neg hc] at h
      exact ih j h
def mostV (l : List Note) (lows : List (List UInt8)) : Nat := bestV (splitR l lows) (splitR l lows).length
theorem getD_of {ps : List (List Note)} {i : Nat} {x : List Note} (h : ps[i]? = some x) : ps.getD i [] = x := by rw [List.getD_eq_getElem?_getD, h]; rfl
theorem splitR_len (l : List Note) (lows : List (List UInt8)) : (splitR l lows).length ≤ lows.length := by
  unfold splitR
  split
  · rw [splitV_len]; exact Nat.le_refl _
  · exact Nat.zero_le _

set_option maxRecDepth 10000 in
set_option maxHeartbeats 16000000 in
theorem pend_Most (l : List Note) (lows : List (List UInt8)) (hl : l.length ≤ 400000) (hw : lows.length ≤ 400000) : Ct Try.prog 72 (YtofmiaecjnfeaaaVm.ops [.row (l.map Note.pv), .row (lows.map PV.str)]) (.vals [.int .i64 (mostV l lows)]) := by
  have c1 := pend_Split l lows hl hw
  have hsl := splitR_len l lows
  unfold mostV
  generalize splitR l lows = ps at *
  refine Ct.of_V Try.func72 rfl (by simp [YtofmiaecjnfeaaaVm.ops, Try.f72]) ?_
  refine V.exec 400 ?_
  simp +contextual (maxSteps := 1000000) only [go_sem, ↓reduceIte, reduceCtorEq, yA, yB, uA, uB, uC, uD, uE, uF, Try.f72]
  refine V.call rfl rfl (by simp [dOK]) ⟨44, [], by simp only [go_sem, ↓reduceIte, reduceCtorEq, yA, yB, uA, uB, uC, uD, uE, uF], ⟨_, rfl, rfl, rfl⟩, .inl ⟨[.row (l.map Note.pv), .row (lows.map PV.str)], _, .inl (by simp only [go_sem, ↓reduceIte, reduceCtorEq, yA, yB, uA, uB, uC, uD, uE, uF]), c1, .inr (.inl ⟨_, rfl, rfl, rfl⟩)⟩⟩ ?_
  refine V.exec 400 ?_
  simp +contextual (maxSteps := 1000000) only [go_sem, ↓reduceIte, reduceCtorEq, yA, yB, uA, uB, uC, uD, uE, uF]
  refine V.loop (fun m ls os => ∃ (i : Nat), i ≤ ps.length ∧ m = ps.length - i ∧
        ls = [(5, .val (.int .i64 (bestV ps i))), (6, .val (.row (ps.map rowN))), (12, .val (.row (ps.map rowN))), (13, .val (.int .i64 ps.length)), (14, .val (.int .i64 i))] ∧ os = []) 0 ps.length
      [(5, .val (.int .i64 0)), (6, .val (.row (ps.map rowN))), (12, .val (.row (ps.map rowN))), (13, .val (.int .i64 ps.length)), (14, .val (.int .i64 0))] [] []
      ⟨0, Nat.zero_le _, rfl, rfl, rfl⟩ (by simp only [go_sem, ↓reduceIte, reduceCtorEq, yA, yB, uA, uB, uC, uD, uE, uF]) ?_
  rintro m ls os ⟨i, hi, rfl, rfl, rfl⟩
  refine V.exec 400 ?_
  by_cases hlt : i < ps.length
  · have hlt' : (i : Int) < (ps.length : Int) := by omega
    obtain ⟨x, hx⟩ : ∃ x, ps[i]? = some x := ⟨_, List.getElem?_eq_getElem hlt⟩
    have hb := bestV_lt ps i (by omega) (by omega)
    obtain ⟨y, hy⟩ : ∃ y, ps[bestV ps i]? = some y := ⟨_, List.getElem?_eq_getElem hb⟩
    have hb' : ((bestV ps i : Nat) : Int) < (ps.length : Int) := by omega
    have hw : IntKind.i64.wrap ((i : Int) + 1) = ((i + 1 : Nat) : Int) := by rw [wrap_small3] <;> omega
    by_cases hc : y.length < x.length
    · have hc' : (y.length : Int) < (x.length : Int) := by omega
      have hn : bestV ps (i + 1) = i := by rw [bestV, getD_of hx, getD_of hy, if_pos hc]
      simp +contextual (maxSteps := 1000000) only [go_sem, ↓reduceIte, reduceCtorEq, yA, yB, uA, uB, uC, uD, uE, uF, hlt', hx, hy, hb', hw, rowN, hc']
      exact ⟨ps.length - (i + 1), _, [], [], by omega, ⟨i + 1, by omega, rfl, rfl, rfl⟩, by simp only [go_sem, ↓reduceIte, reduceCtorEq, yA, yB, uA, uB, uC, uD, uE, uF, hn]⟩
    · have hc' : ¬ (y.length : Int) < (x.length : Int) := by omega
      have hn : bestV ps (i + 1) = bestV ps i := by rw [bestV, getD_of hx, getD_of hy, if_neg hc]
      simp +contextual (maxSteps := 1000000) only [go_sem, ↓reduceIte, reduceCtorEq, yA, yB, uA, uB, uC, uD, uE, uF, hlt', hx, hy, hb', hw, rowN, hc']
      exact ⟨ps.length - (i + 1), _, [], [], by omega, ⟨i + 1, by omega, rfl, rfl, rfl⟩, by simp only [go_sem, ↓reduceIte, reduceCtorEq, yA, yB, uA, uB, uC, uD, uE, uF, hn]⟩
  · have hlt' : ¬ (i : Int) < (ps.length : Int) := by omega
    obtain rfl : i = ps.length := by omega
    simp +contextual (maxSteps := 1000000) only [go_sem, ↓reduceIte, reduceCtorEq, yA, yB, uA, uB, uC, uD, uE, uF, hlt']
end Go.Proofs.Ytofmiaecjnfeaaa
set_option linter.unusedVariables false
set_option linter.unusedSimpArgs false
set_option maxRecDepth 8000
namespace Go.Proofs.Ytofmiaecjnfeaaa
open Go Go.Proofs Go.Proofs.YtofmiaecjnfeaaaVm

def Sorted (l : List Pair) : Prop := l.Pairwise fun a b => slt a.key b.key
def Pair.short (p : Pair) : Prop := p.key.length ≤ 16 ∧ p.value.length ≤ 32
theorem sorted_of_rising : ∀ (l : List Pair) (last : Option (List UInt8)), rising last l → Sorted l
  | [], _, _ => .nil
  | p :: r, last, h => .cons (fun x hx => rising_above r p.key h.2 x hx) (sorted_of_rising r _ h.2)
theorem rising_of_sorted : ∀ (l : List Pair) (last : Option (List UInt8)), (∀ k, last = some k → ∀ x ∈ l, slt k x.key) → Sorted l → rising last l
  | [], _, _, _ => trivial
  | p :: r, last, h, hs => by
    cases hs with
    | cons h1 h2 => exact ⟨fun k hk => h k hk p List.mem_cons_self, rising_of_sorted r _ (fun k hk x hx => by cases hk; exact h1 x hx) h2⟩
theorem rising_iff (l : List Pair) : rising none l ↔ Sorted l := ⟨sorted_of_rising l none, rising_of_sorted l none (fun k h => by cases h)⟩
theorem pairsFrom_of : ∀ (l : List Pair) (last : Option (List UInt8)), rising last l → (∀ p ∈ l, p.short) → pairsFrom last l
  | [], _, _, _ => trivial
  | p :: r, last, h, hs => ⟨(hs p List.mem_cons_self).1, (hs p List.mem_cons_self).2, h.1, pairsFrom_of r _ h.2 fun x hx => hs x (List.mem_cons_of_mem _ hx)⟩
theorem short_of : ∀ (l : List Pair) (last : Option (List UInt8)), pairsFrom last l → ∀ p ∈ l, p.short
  | p :: r, last, h, x, hx => by
    rcases List.mem_cons.1 hx with rfl | hx
    · exact ⟨h.1, h.2.1⟩
    · exact short_of r _ h.2.2.2 x hx
theorem pairsOk_iff (l : List Pair) : pairsOk l ↔ Sorted l ∧ ∀ p ∈ l, p.short :=
  ⟨fun h => ⟨(rising_iff l).1 (rising_of l none h), short_of l none h⟩, fun h => pairsFrom_of l none ((rising_iff l).2 h.1) h.2⟩

/-- The value of a key. -/
def val (l : List Pair) (k : List UInt8) : Option (List UInt8) := (getL l k).map Pair.value
theorem getL_mem {l : List Pair} {k : List UInt8} {p : Pair} (h : getL l k = some p) : p ∈ l ∧ p.key = k := by
  unfold getL at h
  exact ⟨List.mem_of_find?_eq_some h, by simpa using List.find?_some h⟩
theorem getL_of_mem {l : List Pair} (hs : Sorted l) {p : Pair} (h : p ∈ l) : getL l p.key = some p := by
  unfold getL
  induction l with
  | nil => cases h
  | cons q r ih =>
    cases hs with
    | cons h1 h2 =>
      rw [List.find?_cons]
      rcases List.mem_cons.1 h with rfl | h
      · simp
      · have := h1 p h
        have hne : ¬ q.key = p.key := fun e => slt_irrefl p.key (by rw [e] at this; exact this)
        simp [hne, ih h2 h]
theorem val_iff {l : List Pair} (hs : Sorted l) {k v : List UInt8} : val l k = some v ↔ (⟨k, v⟩ : Pair) ∈ l := by
  unfold val
  constructor
  · intro h
    rw [Option.map_eq_some_iff] at h
    obtain ⟨p, hp, rfl⟩ := h
    obtain ⟨h1, rfl⟩ := getL_mem hp
    exact h1
  · intro h
    rw [getL_of_mem hs h]; rfl
theorem sorted_ext : ∀ (a b : List Pair), Sorted a → Sorted b → (∀ p, p ∈ a ↔ p ∈ b) → a = b
  | [], [], _, _, _ => rfl
  | [], q :: b, _, _, h => absurd ((h q).2 List.mem_cons_self) (by simp)
  | p :: a, [], _, _, h => absurd ((h p).1 List.mem_cons_self) (by simp)
  | p :: a, q :: b, ha, hb, h => by
    have ha' : Sorted (p :: a) := ha
    have hb' : Sorted (q :: b) := hb
    cases ha with
    | cons a1 a2 =>
      cases hb with
      | cons b1 b2 =>
        have e : p = q := by
          rcases List.mem_cons.1 ((h p).1 List.mem_cons_self) with e | e
          · exact e
          · rcases List.mem_cons.1 ((h q).2 List.mem_cons_self) with e' | e'
            · exact e'.symm
            · exact absurd (slt_trans (b1 p e) (a1 q e')) (slt_irrefl _)
        subst e
        congr 1
        refine sorted_ext a b a2 b2 fun x => ⟨fun hx => ?_, fun hx => ?_⟩
        · rcases List.mem_cons.1 ((h x).1 (List.mem_cons_of_mem _ hx)) with rfl | e
          · exact absurd (a1 x hx) (slt_irrefl _)
          · exact e
        · rcases List.mem_cons.1 ((h x).2 (List.mem_cons_of_mem _ hx)) with rfl | e
          · exact absurd (b1 x hx) (slt_irrefl _)
          · exact e
theorem val_ext {a b : List Pair} (ha : Sorted a) (hb : Sorted b) (h : ∀ k, val a k = val b k) : a = b := by
  refine sorted_ext a b ha hb fun p => ?_
  have := h p.key
  constructor
  · intro hp
    rw [← val_iff hb, ← this, val_iff ha]; exact hp
  · intro hp
    rw [← val_iff ha, this, val_iff hb]; exact hp

def lowP (l : List Pair) (k : List UInt8) : List Pair := l.filter fun p => decide (slt p.key k)
def highP (l : List Pair) (k : List UInt8) : List Pair := l.filter fun p => decide (slt k p.key)
/-- What a note makes of a key's value. -/
def stepO (o : Option (List UInt8)) (x : Note) : Option (List UInt8) :=
  let d := match o with | some v => doneOne (v, true) x | none => doneOne ([], false) x
  if d.2 = true then some d.1 else none
def mids (l : List Pair) (x : Note) : List Pair := match stepO (val l x.key) x with
  | some v => [⟨x.key, v⟩]
  | none => []
/-- A note, done. -/
def oneV (l : List Pair) (x : Note) : List Pair := lowP l x.key ++ mids l x ++ highP l x.key
theorem low_eq {k : List UInt8} : ∀ (l : List Pair), Sorted l → lowP l k = l.take (below k l)
  | [], _ => rfl
  | p :: r, hs => by
    cases hs with
    | cons h1 h2 =>
      unfold lowP below
      by_cases hk : slt p.key k
      · rw [if_pos hk, List.filter_cons, if_pos (by simpa using hk), List.take_succ_cons, ← low_eq r h2]; rfl
      · rw [if_neg hk, List.take_zero, List.filter_eq_nil_iff]
        intro y hy
        rcases List.mem_cons.1 hy with rfl | hy
        · simpa using hk
        · have := h1 y hy
          simp
          exact fun hc => hk (slt_trans this hc)
theorem high_eq {k : List UInt8} : ∀ (l : List Pair), Sorted l → highP l k = (match getL l k with | some _ => l.drop (below k l + 1) | none => l.drop (below k l))
  | [], _ => rfl
  | p :: r, hs => by
    cases hs with
    | cons h1 h2 =>
      have ih := high_eq (k := k) r h2
      unfold highP getL at ih
      unfold highP getL below
      by_cases hk : slt p.key k
      · have hne : ¬ p.key = k := fun e => slt_irrefl k (by rw [e] at hk; exact hk)
        rw [if_pos hk, List.filter_cons, if_neg (by simpa using slt_asymm hk), List.find?_cons, decide_eq_false hne, ih]
        cases r.find? (fun p => decide (p.key = k)) <;> simp
      · by_cases he : p.key = k
        · subst he
          rw [if_neg hk, List.filter_cons, if_neg (by simpa using hk), List.find?_cons]
          simp
          intro y hy
          exact h1 y hy
        · have hgt : slt k p.key := by
            rcases slt_total p.key k with h | h | h
            · exact absurd h hk
            · exact absurd h he
            · exact h
          have hnone : (p :: r).find? (fun p => decide (p.key = k)) = none := by
            rw [List.find?_eq_none]
            intro y hy
            rcases List.mem_cons.1 hy with rfl | hy
            · simpa using he
            · have := h1 y hy
              simp
              rintro rfl
              exact slt_irrefl _ (slt_trans hgt this)
          rw [hnone, if_neg hk]
          simp only [List.drop_zero]
          rw [List.filter_eq_self]
          intro y hy
          rcases List.mem_cons.1 hy with rfl | hy
          · simpa using hgt
          · simpa using slt_trans hgt (h1 y hy)
theorem oneV_sorted {l : List Pair} (hs : Sorted l) (x : Note) : Sorted (oneV l x) := by
  unfold oneV Sorted
  have hl : ∀ a ∈ lowP l x.key, slt a.key x.key := fun a ha => by simpa using (List.mem_filter.1 ha).2
  have hh : ∀ a ∈ highP l x.key, slt x.key a.key := fun a ha => by simpa using (List.mem_filter.1 ha).2
  have hm : ∀ a ∈ mids l x, a.key = x.key := fun a ha => by
    unfold mids at ha
    split at ha
    · simp at ha; rw [ha]
    · cases ha
  have hmp : (mids l x).Pairwise (fun a b => slt a.key b.key) := by
    unfold mids
    split
    · exact List.pairwise_singleton _ _
    · exact .nil
  rw [List.pairwise_append, List.pairwise_append]
  refine ⟨⟨hs.filter _, hmp, fun a ha b hb => ?_⟩, hs.filter _, fun a ha b hb => ?_⟩
  · rw [hm b hb]; exact hl a ha
  · rcases List.mem_append.1 ha with ha | ha
    · exact slt_trans (hl a ha) (hh b hb)
    · rw [hm a ha]; exact hh b hb
theorem oneV_val {l : List Pair} (hs : Sorted l) (x : Note) (k : List UInt8) : val (oneV l x) k = if k = x.key then stepO (val l k) x else val l k := by
  have ho := oneV_sorted hs x
  have hm : mids l x = (match stepO (val l x.key) x with | some v => [(⟨x.key, v⟩ : Pair)] | none => []) := rfl
  apply Option.ext
  intro v
  rw [val_iff ho]
  unfold oneV
  rw [List.mem_append, List.mem_append, lowP, highP, List.mem_filter, List.mem_filter]
  simp only [decide_eq_true_eq]
  by_cases hk : k = x.key
  · subst hk
    rw [if_pos rfl, hm]
    have := slt_irrefl x.key
    constructor
    · rintro ((h | h) | h)
      · exact absurd h.2 this
      · split at h
        · rename_i w hw; simp at h; rw [h, hw]
        · cases h
      · exact absurd h.2 this
    · intro h
      rw [h]
      exact .inl (.inr (by simp))
  · rw [if_neg hk, val_iff hs]
    constructor
    · rintro ((h | h) | h)
      · exact h.1
      · exfalso
        rw [hm] at h
        split at h
        · simp at h; exact hk h.1
        · cases h
      · exact h.1
    · intro h
      rcases slt_total k x.key with c | c | c
      · exact .inl (.inl ⟨h, c⟩)
      · exact absurd c hk
      · exact .inr ⟨h, c⟩
def appV (l : List Pair) (ns : List Note) : List Pair := ns.foldl oneV l
theorem appV_sorted : ∀ (ns : List Note) {l : List Pair}, Sorted l → Sorted (appV l ns)
  | [], _, h => h
  | x :: r, _, h => appV_sorted r (oneV_sorted h x)
theorem oneV_len {l : List Pair} (hs : Sorted l) (x : Note) : (oneV l x).length ≤ l.length + 1 := by
  have h1 := low_eq (k := x.key) l hs
  have h2 := high_eq (k := x.key) l hs
  have hb := below_le x.key l
  have hm : (mids l x).length ≤ 1 := by
    unfold mids
    split <;> simp
  unfold oneV
  rw [h1, h2, List.length_append, List.length_append, List.length_take]
  split <;> simp <;> omega
theorem beB8 (n : Int) : (beB n 8).length ≤ 32 := by rw [beB_len]; decide
theorem oneV_short {l : List Pair} (hl : ∀ p ∈ l, p.short) {x : Note} (hx : x.ok) : ∀ p ∈ oneV l x, p.short := by
  intro p hp
  unfold oneV at hp
  rw [List.mem_append, List.mem_append] at hp
  rcases hp with (hp | hp) | hp
  · exact hl p (List.mem_filter.1 hp).1
  · have hd : ∀ st : List UInt8 × Bool, (doneOne st x).1.length ≤ 32 := fun st => by
      unfold doneOne
      have := hx.2.1
      rcases hx.2.2 with h | h | h <;> simp [h.1]
      · exact this
      · exact beB8 _
    unfold mids at hp
    split at hp
    · rename_i v hv
      simp at hp
      rw [hp]
      refine ⟨hx.1, ?_⟩
      have hv2 : v.length ≤ 32 := by
        unfold stepO at hv
        cases ho : val l x.key with
        | none =>
          rw [ho] at hv
          simp only at hv
          split at hv
          · cases hv; exact hd _
          · cases hv
        | some w =>
          rw [ho] at hv
          simp only at hv
          split at hv
          · cases hv; exact hd _
          · cases hv
      exact hv2
    · cases hp
  · exact hl p (List.mem_filter.1 hp).1
theorem oneV_ok {l : List Pair} (h : pairsOk l) {x : Note} (hx : x.ok) : pairsOk (oneV l x) := by
  rw [pairsOk_iff] at *
  exact ⟨oneV_sorted h.1 x, oneV_short h.2 hx⟩
theorem appV_ok : ∀ (ns : List Note) {l : List Pair}, pairsOk l → (∀ x ∈ ns, x.ok) → pairsOk (appV l ns)
  | [], _, h, _ => h
  | x :: r, _, h, hn => appV_ok r (oneV_ok h (hn x List.mem_cons_self)) fun y hy => hn y (List.mem_cons_of_mem _ hy)
theorem appV_len : ∀ (ns : List Note) {l : List Pair}, Sorted l → (appV l ns).length ≤ l.length + ns.length
  | [], _, _ => Nat.le_refl _
  | x :: r, l, h => by
    have h1 := appV_len r (oneV_sorted h x)
    have h2 := oneV_len h x
    show (appV (oneV l x) r).length ≤ _
    simp only [List.length_cons]
    omega
end Go.Proofs.Ytofmiaecjnfeaaa
set_option linter.unusedVariables false
set_option linter.unusedSimpArgs false
set_option maxRecDepth 8000
namespace Go.Proofs.Ytofmiaecjnfeaaa
open Nat renaming reduceAdd → uA, reduceLT → uB, reduceEqDiff → uC, reduceLeDiff → uD, reduceSub → uE, reduceMul → uF
open Bool renaming false_eq_true → yA, true_eq_false → yB
open Go Go.Proofs Go.Proofs.YtofmiaecjnfeaaaVm Go.Proofs.Ytofmiaecjnfeaaa.Ty

set_option maxRecDepth 20000 in
set_option maxHeartbeats 4000000 in
theorem DeletePair (xs : List PV) (i : Nat) (h1 : ∀ x ∈ xs, x.cells.length = 2) (hi : i < xs.length) (hl : xs.length ≤ 1000000) :
    Ct Try.prog 64 (.o 42 xs :: YtofmiaecjnfeaaaVm.ops [.int .i64 i, .int .i64 (i + 1 : Nat)]) (.own 42 (xs.take i ++ xs.drop (i + 1))) := by
  refine Ct.of_V Try.func64 rfl (by simp [YtofmiaecjnfeaaaVm.ops, Try.f64]) ?_
  refine V.opn 0 2 42 xs rfl (by simp only [go_sem, ↓reduceIte, reduceCtorEq, yA, yB, uA, uB, uC, uD, uE, uF]) fun q => ?_
  have h0 : ¬ i = i + 1 := by omega
  refine V.execS [5] 400 ?_
  simp +contextual (maxSteps := 1000000) only [go_sem, ↓reduceIte, reduceCtorEq, yA, yB, uA, uB, uC, uD, uE, uF, Try.f64]
  refine ⟨⟨by omega, by omega, by omega⟩, fun h => absurd h (by omega), fun _ => ?_⟩
  refine V.exec 400 ?_
  have hc : i + (xs.length - (i + 1)) ≤ xs.length + q := by omega
  have hd : (List.take (xs.length - (i + 1)) (List.drop (i + 1) xs)).length = xs.length - (i + 1) := by simp
  simp only [go_sem, ↓reduceIte, reduceCtorEq, yA, yB, uA, uB, uC, uD, uE, uF, Nat.zero_add, Nat.sub_zero, hc, hd, forall_const, not_true_eq_false]
  have hD : List.take (xs.length - (i + 1)) (List.drop (i + 1) xs) = List.drop (i + 1) xs := List.take_of_length_le (by simp)
  rw [hD] at hd ⊢
  have hL : (over xs (List.drop (i + 1) xs) i).length = xs.length := by rw [over_length (by omega)]; omega
  have hL2 : (over (over xs (List.drop (i + 1) xs) i) (List.replicate (xs.length - (i + (xs.length - (i + 1)))) (PV.agg [PV.str [], PV.str []])) (i + (xs.length - (i + 1)))).length = xs.length := by
    rw [over_length (by omega), hL, List.length_replicate]; omega
  rw [hL, hL2]
  refine ⟨⟨by omega, by omega⟩, ⟨by omega, by omega⟩, by omega, by kernel_rfl, ⟨by omega, by omega⟩, ⟨by omega, by omega⟩, by omega, ?_⟩
  have e1 : over xs (List.drop (i + 1) xs) i = (xs.take i ++ xs.drop (i + 1)) ++ xs.drop (i + (xs.length - (i + 1))) := by rw [over, hd]
  have hlen : (xs.take i ++ xs.drop (i + 1)).length = i + (xs.length - (i + 1)) := by simp; omega
  rw [over, List.append_assoc, List.take_append_of_le_length (by rw [List.length_take, hL]; omega), List.take_take, Nat.min_self, e1, List.take_append_of_le_length (by omega)]
  exact (List.take_of_length_le (by omega)).symm
end Go.Proofs.Ytofmiaecjnfeaaa
set_option linter.unusedVariables false
set_option linter.unusedSimpArgs false
set_option maxRecDepth 8000
namespace Go.Proofs.Ytofmiaecjnfeaaa
open Nat renaming reduceAdd → uA, reduceLT → uB, reduceEqDiff → uC, reduceLeDiff → uD, reduceSub → uE, reduceMul → uF
open Bool renaming false_eq_true → yA, true_eq_false → yB
open Go Go.Proofs Go.Proofs.YtofmiaecjnfeaaaVm Go.Proofs.Ytofmiaecjnfeaaa.Ty

theorem leaf_Apply1 (x : Note) : Ct Try.prog 62 (YtofmiaecjnfeaaaVm.ops [x.pv]) (.vals [.bool (decide (¬ x.ok))]) := by
  refine Ct.of_V Try.func62 rfl (by simp [YtofmiaecjnfeaaaVm.ops, Try.f62]) ?_
  refine V.exec 400 ?_
  simp +contextual (maxSteps := 1000000) only [go_sem, ↓reduceIte, reduceCtorEq, yA, yB, uA, uB, uC, uD, uE, uF, Try.f62, Note.pv]
  refine V.call rfl rfl (by simp [dOK]) ⟨24, [], by simp only [go_sem, ↓reduceIte, reduceCtorEq, yA, yB, uA, uB, uC, uD, uE, uF], ⟨_, rfl, rfl, rfl⟩, .inl ⟨[x.pv], _, .inl (by simp only [go_sem, ↓reduceIte, reduceCtorEq, yA, yB, uA, uB, uC, uD, uE, uF, Note.pv]), note_Right x, .inl ⟨_, rfl, rfl, rfl, rfl⟩⟩⟩ ?_
  refine V.exec 400 ?_
  simp +contextual (maxSteps := 1000000) only [go_sem, ↓reduceIte, reduceCtorEq, yA, yB, uA, uB, uC, uD, uE, uF]

def Note.of : PV → Note
  | .agg [.int _ a, .str b, .str c, .int _ d] => ⟨a, b, c, d⟩
  | _ => ⟨0, [], [], 0⟩
theorem Note.of_pv (x : Note) : Note.of x.pv = x := rfl

def notesOk (ns : List Note) : Prop := ∀ x ∈ ns, x.ok
instance instNotesOk (ns : List Note) : Decidable (notesOk ns) := by unfold notesOk; infer_instance
theorem Contains_bad (ns : List Note) (hl : ns.length ≤ 1000000) : Ct Try.prog 22 (YtofmiaecjnfeaaaVm.ops [.row (ns.map Note.pv), .fn 62 []]) (.vals [.bool (decide (¬ notesOk ns))]) := by
  unfold notesOk
  obtain ⟨r, hr, hr1, hr2, hr3⟩ := first_of (fun y => decide (¬ (Note.of y).ok)) (ns.map Note.pv)
  have hi := IndexFuncNote (ns.map Note.pv) 62 [] (fun y => decide (¬ (Note.of y).ok)) (fun y hy => by
      obtain ⟨s, _, rfl⟩ := List.mem_map.1 hy
      exact ⟨rfl, rfl⟩) (by simpa using hl) ⟨_, rfl, rfl, rfl⟩ (fun y hy => by
      obtain ⟨s, _, rfl⟩ := List.mem_map.1 hy
      rw [Note.of_pv]
      simpa using leaf_Apply1 s) r hr hr1 hr2
  refine Ct.of_V Try.func22 rfl (by simp [YtofmiaecjnfeaaaVm.ops, Try.f22]) ?_
  refine V.exec 400 ?_
  simp +contextual (maxSteps := 1000000) only [go_sem, ↓reduceIte, reduceCtorEq, yA, yB, uA, uB, uC, uD, uE, uF, Try.f22]
  refine V.call rfl rfl (by simp [dOK]) ⟨38, [], by simp only [go_sem, ↓reduceIte, reduceCtorEq, yA, yB, uA, uB, uC, uD, uE, uF], ⟨_, rfl, rfl, rfl⟩, .inl ⟨[.row (ns.map Note.pv), .fn 62 []], _, .inl (by simp only [go_sem, ↓reduceIte, reduceCtorEq, yA, yB, uA, uB, uC, uD, uE, uF]), hi, .inl ⟨_, rfl, rfl, rfl, rfl⟩⟩⟩ ?_
  refine V.exec 400 ?_
  simp +contextual (maxSteps := 1000000) only [go_sem, ↓reduceIte, reduceCtorEq, yA, yB, uA, uB, uC, uD, uE, uF]
  have e : (∃ y ∈ ns.map Note.pv, decide (¬ (Note.of y).ok) = true) ↔ ¬ ∀ x ∈ ns, x.ok := by
    constructor
    · rintro ⟨y, hy, hp⟩ hc
      obtain ⟨s, hs, rfl⟩ := List.mem_map.1 hy
      rw [Note.of_pv] at hp
      simp at hp
      exact hp (hc s hs)
    · intro h
      simp only [Classical.not_forall] at h
      obtain ⟨x, hx, hp⟩ := h
      exact ⟨x.pv, List.mem_map_of_mem hx, by rw [Note.of_pv]; simpa using hp⟩
  rw [e] at hr3
  rw [List.length_map] at hr3
  by_cases hc : ∀ x ∈ ns, x.ok
  · have : ¬ r < ns.length := fun h => (hr3.1 h) hc
    simp [this]
    exact hc
  · have h2 := hr3.2 hc
    simp [h2, hc]

theorem oneV_some {l : List Pair} (hs : Sorted l) {x : Note} {p : Pair} (h : getL l x.key = some p) :
    oneV l x = if (doneOne (p.value, true) x).2 = true then l.set (below x.key l) ⟨p.key, (doneOne (p.value, true) x).1⟩ else l.take (below x.key l) ++ l.drop (below x.key l + 1) := by
  have h1 := low_eq (k := x.key) l hs
  have h2 := high_eq (k := x.key) l hs
  rw [h] at h2
  have hb := (below_find l none ((rising_iff l).2 hs) p).2 h
  have hlt := (List.getElem?_eq_some_iff.1 hb.1).1
  have hv : val l x.key = some p.value := by simp [val, h]
  unfold oneV mids
  rw [h1, h2, hv]
  simp only [stepO]
  split
  · rename_i w hw
    split at hw
    · cases hw
      rename_i hd
      rw [if_pos hd, List.set_eq_take_append_cons_drop, if_pos hlt, hb.2]
      simp
    · cases hw
  · rename_i hw
    split at hw
    · cases hw
    · rename_i hd
      rw [if_neg hd]
      simp
theorem oneV_none {l : List Pair} (hs : Sorted l) {x : Note} (h : getL l x.key = none) :
    oneV l x = if (doneOne ([], false) x).2 = true then l.take (below x.key l) ++ [⟨x.key, (doneOne ([], false) x).1⟩] ++ l.drop (below x.key l) else l := by
  have h1 := low_eq (k := x.key) l hs
  have h2 := high_eq (k := x.key) l hs
  rw [h] at h2
  have hv : val l x.key = none := by simp [val, h]
  unfold oneV mids
  rw [h1, h2, hv]
  simp only [stepO]
  split
  · rename_i w hw
    split at hw
    · cases hw
      rename_i hd
      rw [if_pos hd]
    · cases hw
  · rename_i hw
    split at hw
    · cases hw
    · rename_i hd
      rw [if_neg hd]
      simp
def applyV (l : List Pair) (ns : List Note) : List Pair × Int := if pairsOk l ∧ notesOk ns then (appV l ns, 0) else (l, 1)

set_option maxRecDepth 10000 in
set_option maxHeartbeats 16000000 in
theorem leaf_Apply (l : List Pair) (ns : List Note) (hl : l.length ≤ 400000) (hn : ns.length ≤ 400000) : Ct Try.prog 39 (YtofmiaecjnfeaaaVm.ops [.row (l.map Pair.pv), .row (ns.map Note.pv)]) (.vals [.row ((applyV l ns).1.map Pair.pv), .int .i64 (applyV l ns).2]) := by
  have h2 : ∀ (l : List Pair), ∀ x ∈ l.map Pair.pv, x.cells.length = 2 := fun l x hx => by
    obtain ⟨s, _, rfl⟩ := List.mem_map.1 hx
    rfl
  refine Ct.of_V Try.func39 rfl (by simp [YtofmiaecjnfeaaaVm.ops, Try.f39]) ?_
  refine V.exec 400 ?_
  simp +contextual (maxSteps := 1000000) only [go_sem, ↓reduceIte, reduceCtorEq, yA, yB, uA, uB, uC, uD, uE, uF, Try.f39]
  refine V.call rfl rfl (by simp [dOK]) ⟨56, [], by simp only [go_sem, ↓reduceIte, reduceCtorEq, yA, yB, uA, uB, uC, uD, uE, uF], ⟨_, rfl, rfl, rfl⟩, .inl ⟨[.row (l.map Pair.pv)], _, .inl (by simp only [go_sem, ↓reduceIte, reduceCtorEq, yA, yB, uA, uB, uC, uD, uE, uF]), ClonePair (l.map Pair.pv) (h2 l) (by simp; omega), .inr (.inr ⟨42, (l.map Pair.pv)   , rfl, by simp only [go_sem, ↓reduceIte, reduceCtorEq, yA, yB, uA, uB, uC, uD, uE, uF], rfl, rfl⟩)⟩⟩ ?_
  refine V.exec 400 ?_
  simp +contextual (maxSteps := 1000000) only [go_sem, ↓reduceIte, reduceCtorEq, yA, yB, uA, uB, uC, uD, uE, uF]
  refine V.call rfl rfl (by simp [dOK]) ⟨61, [], by simp only [go_sem, ↓reduceIte, reduceCtorEq, yA, yB, uA, uB, uC, uD, uE, uF], ⟨_, rfl, rfl, rfl⟩, .inl ⟨[.row (l.map Pair.pv)], _, .inl (by simp only [go_sem, ↓reduceIte, reduceCtorEq, yA, yB, uA, uB, uC, uD, uE, uF]), leaf_Right l (by omega), .inl ⟨_, rfl, rfl, rfl, rfl⟩⟩⟩ ?_
  refine V.exec 400 ?_
  by_cases hok : pairsOk l
  · simp +contextual (maxSteps := 1000000) only [go_sem, ↓reduceIte, reduceCtorEq, yA, yB, uA, uB, uC, uD, uE, uF, hok]
    refine V.call rfl rfl (by simp [dOK]) ⟨22, [], by simp only [go_sem, ↓reduceIte, reduceCtorEq, yA, yB, uA, uB, uC, uD, uE, uF], ⟨_, rfl, rfl, rfl⟩, .inl ⟨[.row (ns.map Note.pv), .fn 62 []], _, .inl (by simp only [go_sem, ↓reduceIte, reduceCtorEq, yA, yB, uA, uB, uC, uD, uE, uF]), Contains_bad ns (by omega), .inl ⟨_, rfl, rfl, rfl, rfl⟩⟩⟩ ?_
    refine V.exec 400 ?_
    by_cases hall : notesOk ns
    · have hv : applyV l ns = (appV l ns, 0) := by simp only [applyV]; rw [if_pos ⟨hok, hall⟩]
      simp +contextual (maxSteps := 1000000) only [go_sem, ↓reduceIte, reduceCtorEq, yA, yB, uA, uB, uC, uD, uE, uF, hall, hv]
      refine V.loop (fun m ls os => ∃ (i : Nat) (cur : List Pair), i ≤ ns.length ∧ m = ns.length - i ∧ Sorted cur ∧ cur.length ≤ l.length + i ∧ appV cur (ns.drop i) = appV l ns ∧
          ls = [(6, .ref 0), (24, .val (.row (ns.map Note.pv))), (25, .val (.int .i64 ns.length)), (26, .val (.int .i64 i))] ∧ os = [.row 42 (cur.map Pair.pv)]) 1 ns.length
        [(6, .ref 0), (24, .val (.row (ns.map Note.pv))), (25, .val (.int .i64 ns.length)), (26, .val (.int .i64 0))] [.row 42 (l.map Pair.pv)] [some 5]
        ⟨0, l, Nat.zero_le _, rfl, ((pairsOk_iff l).1 hok).1, Nat.le_refl _, rfl, rfl, rfl⟩ (by simp only [go_sem, ↓reduceIte, reduceCtorEq, yA, yB, uA, uB, uC, uD, uE, uF]; try decide) ?_
      rintro m ls os ⟨i, cur, hi, rfl, hcs, hcl, hca, rfl, rfl⟩
      refine V.exec 400 ?_
      by_cases hlt : i < ns.length
      · have hlt' : (i : Int) < (ns.length : Int) := by omega
        obtain ⟨x, hx⟩ : ∃ x, ns[i]? = some x := ⟨_, List.getElem?_eq_getElem hlt⟩
        have hw : IntKind.i64.wrap ((i : Int) + 1) = ((i + 1 : Nat) : Int) := by rw [wrap_small3] <;> omega
        rw [drop_of_get hx, appV, List.foldl_cons] at hca
        have hos := oneV_sorted hcs x
        have hol := oneV_len hcs x
        have hpb := posA_eq ((rising_iff cur).2 hcs) x.key
        have hpl := leaf_place cur x.key (by omega)
        rw [hpb] at hpl
        have hbl := below_le x.key cur
        simp +contextual (maxSteps := 1000000) only [go_sem, ↓reduceIte, reduceCtorEq, yA, yB, uA, uB, uC, uD, uE, uF, hlt', hx, Note.pv]
        refine V.call rfl rfl (by simp [dOK]) ⟨63, [], by simp only [go_sem, ↓reduceIte, reduceCtorEq, yA, yB, uA, uB, uC, uD, uE, uF], ⟨_, rfl, rfl, rfl⟩, .inl ⟨[.row (cur.map Pair.pv), .str x.key], _, .inl (by simp only [go_sem, ↓reduceIte, reduceCtorEq, yA, yB, uA, uB, uC, uD, uE, uF]), hpl, .inl ⟨_, rfl, rfl, rfl, rfl⟩⟩⟩ ?_
        refine V.exec 400 ?_
        cases hg : getL cur x.key with
        | some p =>
          have hp := (below_find cur none ((rising_iff cur).2 hcs) p).2 hg
          have hE : (∃ y, some p = some y ∧ y.key = x.key) := ⟨p, rfl, hp.2⟩
          have hrl := (List.getElem?_eq_some_iff.1 hp.1).1
          have hrl' : ((below x.key cur : Nat) : Int) < (cur.length : Int) := by omega
          have hone := oneV_some hcs hg
          have hdo := note_Done p.value true [x] (by simp)
          simp +contextual (maxSteps := 1000000) only [go_sem, ↓reduceIte, reduceCtorEq, yA, yB, uA, uB, uC, uD, uE, uF, hp.1, hE, hrl', Pair.pv]
          refine V.call rfl rfl (by simp [dOK]) ⟨54, [], by simp only [go_sem, ↓reduceIte, reduceCtorEq, yA, yB, uA, uB, uC, uD, uE, uF], ⟨_, rfl, rfl, rfl⟩, .inl ⟨[.str p.value, .bool (decide (true = true)), .row ([x].map Note.pv)], _, .inl (by simp only [go_sem, ↓reduceIte, reduceCtorEq, yA, yB, uA, uB, uC, uD, uE, uF, Note.pv, List.map_cons, List.map_nil, decide_true]), hdo, .inr (.inl ⟨_, rfl, rfl, rfl⟩)⟩⟩ ?_
          refine V.exec 400 ?_
          have hwr : IntKind.i64.wrap (((below x.key cur : Nat) : Int) + 1) = ((below x.key cur + 1 : Nat) : Int) := by rw [wrap_small3] <;> omega
          have hdv : doneV p.value true [x] = doneOne (p.value, true) x := rfl
          rw [hdv] at hdo ⊢
          obtain ⟨now, has, hdd⟩ : ∃ a b, doneOne (p.value, true) x = (a, b) := ⟨_, _, rfl⟩
          rw [hdd] at hone hdo ⊢
          simp only at hone hdo ⊢
          cases has with
          | true =>
            rw [if_pos rfl] at hone
            simp +contextual (maxSteps := 1000000) only [go_sem, ↓reduceIte, reduceCtorEq, yA, yB, uA, uB, uC, uD, uE, uF, hp.1, hE, hrl', Pair.pv, decide_true]
            refine ⟨ns.length - (i + 1), _, _, [some 0], by omega, ⟨i + 1, oneV cur x, by omega, rfl, hos, by omega, hca, rfl, rfl⟩, ?_⟩
            simp only [go_sem, ↓reduceIte, reduceCtorEq, yA, yB, uA, uB, uC, uD, uE, uF, hone, List.map_set, Pair.pv, hw]
            try decide
          | false =>
            rw [if_neg (by simp)] at hone
            have hdel := DeletePair (cur.map Pair.pv) (below x.key cur) (h2 cur) (by simpa using hrl) (by simp; omega)
            rw [← List.map_take, ← List.map_drop, ← List.map_append, ← hone] at hdel
            simp +contextual (maxSteps := 1000000) only [go_sem, ↓reduceIte, reduceCtorEq, yA, yB, uA, uB, uC, uD, uE, uF, hp.1, hE, hrl', Pair.pv, decide_false, hwr]
            refine V.call rfl rfl (by simp [dOK]) ⟨64, [], by simp only [go_sem, ↓reduceIte, reduceCtorEq, yA, yB, uA, uB, uC, uD, uE, uF], ⟨_, rfl, rfl, rfl⟩, .inr (.inl ⟨0, 42, cur.map Pair.pv, [.val (.int .i64 (below x.key cur : Nat)), .val (.int .i64 (below x.key cur + 1 : Nat))], [.int .i64 (below x.key cur : Nat), .int .i64 (below x.key cur + 1 : Nat)], 42, _, by simp only [go_sem, ↓reduceIte, reduceCtorEq, yA, yB, uA, uB, uC, uD, uE, uF], by simp only [go_sem, ↓reduceIte, reduceCtorEq, yA, yB, uA, uB, uC, uD, uE, uF], .inl (by simp only [go_sem, ↓reduceIte, reduceCtorEq, yA, yB, uA, uB, uC, uD, uE, uF]), hdel, by simp only [go_sem, ↓reduceIte, reduceCtorEq, yA, yB, uA, uB, uC, uD, uE, uF], rfl, rfl⟩)⟩ ?_
            refine V.exec 400 ?_
            simp +contextual (maxSteps := 1000000) only [go_sem, ↓reduceIte, reduceCtorEq, yA, yB, uA, uB, uC, uD, uE, uF, hw]
            refine ⟨ns.length - (i + 1), _, _, [some 44], by omega, ⟨i + 1, oneV cur x, by omega, rfl, hos, by omega, hca, rfl, rfl⟩, ?_⟩
            simp only [go_sem, ↓reduceIte, reduceCtorEq, yA, yB, uA, uB, uC, uD, uE, uF]
        | none =>
          have hE : ¬ ∃ y, cur[below x.key cur]? = some y ∧ y.key = x.key := fun ⟨y, hy⟩ => by
            have := (below_find cur none ((rising_iff cur).2 hcs) y).1 hy
            rw [hg] at this; cases this
          have hone := oneV_none hcs hg
          have hdo := note_Done [] false [x] (by simp)
          simp +contextual (maxSteps := 1000000) only [go_sem, ↓reduceIte, reduceCtorEq, yA, yB, uA, uB, uC, uD, uE, uF, hE]
          refine V.call rfl rfl (by simp [dOK]) ⟨54, [], by simp only [go_sem, ↓reduceIte, reduceCtorEq, yA, yB, uA, uB, uC, uD, uE, uF], ⟨_, rfl, rfl, rfl⟩, .inl ⟨[.str [], .bool (decide (false = true)), .row ([x].map Note.pv)], _, .inl (by simp only [go_sem, ↓reduceIte, reduceCtorEq, yA, yB, uA, uB, uC, uD, uE, uF, Note.pv, List.map_cons, List.map_nil, decide_false]), hdo, .inr (.inl ⟨_, rfl, rfl, rfl⟩)⟩⟩ ?_
          refine V.exec 400 ?_
          have hdv : doneV [] false [x] = doneOne ([], false) x := rfl
          rw [hdv] at hdo ⊢
          obtain ⟨now, has, hdd⟩ : ∃ a b, doneOne ([], false) x = (a, b) := ⟨_, _, rfl⟩
          rw [hdd] at hone hdo ⊢
          simp only at hone hdo ⊢
          cases has with
          | true =>
            rw [if_pos rfl] at hone
            have hins := InsertPair (cur.map Pair.pv) (Pair.pv ⟨x.key, now⟩) (below x.key cur) (h2 cur) rfl (by simpa using hbl) (by simp; omega)
            have he : (cur.map Pair.pv).take (below x.key cur) ++ [Pair.pv ⟨x.key, now⟩] ++ (cur.map Pair.pv).drop (below x.key cur) = (oneV cur x).map Pair.pv := by
              rw [hone]; simp [List.map_append, List.map_take, List.map_drop]
            rw [he] at hins
            simp +contextual (maxSteps := 1000000) only [go_sem, ↓reduceIte, reduceCtorEq, yA, yB, uA, uB, uC, uD, uE, uF, hE, Pair.pv, decide_true]
            refine V.call rfl rfl (by simp [dOK]) ⟨65, [], by simp only [go_sem, ↓reduceIte, reduceCtorEq, yA, yB, uA, uB, uC, uD, uE, uF], ⟨_, rfl, rfl, rfl⟩, .inr (.inl ⟨0, 42, cur.map Pair.pv, [.val (.int .i64 (below x.key cur : Nat)), .ref 42], [.int .i64 (below x.key cur : Nat), .rowp [Pair.pv ⟨x.key, now⟩]], 42, _, by simp only [go_sem, ↓reduceIte, reduceCtorEq, yA, yB, uA, uB, uC, uD, uE, uF], by simp only [go_sem, ↓reduceIte, reduceCtorEq, yA, yB, uA, uB, uC, uD, uE, uF], .inr ⟨[.val (.int .i64 (below x.key cur : Nat))], 42, 42, [Pair.pv ⟨x.key, now⟩], [.int .i64 (below x.key cur : Nat)], rfl, rfl, by simp only [go_sem, ↓reduceIte, reduceCtorEq, yA, yB, uA, uB, uC, uD, uE, uF, Pair.pv], rfl⟩, hins, by simp only [go_sem, ↓reduceIte, reduceCtorEq, yA, yB, uA, uB, uC, uD, uE, uF], rfl, rfl⟩)⟩ ?_
            refine V.exec 400 ?_
            simp +contextual (maxSteps := 1000000) only [go_sem, ↓reduceIte, reduceCtorEq, yA, yB, uA, uB, uC, uD, uE, uF, hw]
            refine ⟨ns.length - (i + 1), _, _, [some 43], by omega, ⟨i + 1, oneV cur x, by omega, rfl, hos, by omega, hca, rfl, rfl⟩, ?_⟩
            simp only [go_sem, ↓reduceIte, reduceCtorEq, yA, yB, uA, uB, uC, uD, uE, uF]
          | false =>
            rw [if_neg (by simp)] at hone
            simp +contextual (maxSteps := 1000000) only [go_sem, ↓reduceIte, reduceCtorEq, yA, yB, uA, uB, uC, uD, uE, uF, hE, Pair.pv, decide_false, hw]
            refine ⟨ns.length - (i + 1), _, _, [some 0], by omega, ⟨i + 1, oneV cur x, by omega, rfl, hos, by omega, hca, rfl, rfl⟩, ?_⟩
            simp only [go_sem, ↓reduceIte, reduceCtorEq, yA, yB, uA, uB, uC, uD, uE, uF, hone]
      · have hlt' : ¬ (i : Int) < (ns.length : Int) := by omega
        have hd : ns.drop i = [] := List.drop_eq_nil_of_le (by omega)
        rw [hd] at hca
        simp +contextual (maxSteps := 1000000) only [go_sem, ↓reduceIte, reduceCtorEq, yA, yB, uA, uB, uC, uD, uE, uF, hlt', ← hca]
        rfl
    · have hv : applyV l ns = (l, 1) := by simp only [applyV]; rw [if_neg (fun h => hall h.2)]
      simp +contextual (maxSteps := 1000000) only [go_sem, ↓reduceIte, reduceCtorEq, yA, yB, uA, uB, uC, uD, uE, uF, hall, hv]
  · have hv : applyV l ns = (l, 1) := by simp only [applyV]; rw [if_neg (fun h => hok h.1)]
    simp +contextual (maxSteps := 1000000) only [go_sem, ↓reduceIte, reduceCtorEq, yA, yB, uA, uB, uC, uD, uE, uF, hok, hv]
end Go.Proofs.Ytofmiaecjnfeaaa
set_option linter.unusedVariables false
set_option linter.unusedSimpArgs false
set_option maxRecDepth 8000
namespace Go.Proofs.Ytofmiaecjnfeaaa
open Nat renaming reduceAdd → uA, reduceLT → uB, reduceEqDiff → uC, reduceLeDiff → uD, reduceSub → uE, reduceMul → uF
open Bool renaming false_eq_true → yA, true_eq_false → yB
open Go Go.Proofs Go.Proofs.YtofmiaecjnfeaaaVm Go.Proofs.Ytofmiaecjnfeaaa.Ty

/-- So many parts. -/
def partsV : Nat → List Pair → List (List Pair)
  | 0, _ => []
  | p + 1, l => l.take ((l.length + p) / (p + 1)) :: partsV p (l.drop ((l.length + p) / (p + 1)))
def howMany (n m : Nat) : Nat := if 0 < n % m then n / m + 1 else n / m
def shareV (l : List Pair) (most : Int) : List (List Pair) := if most < 1 then [] else partsV (howMany l.length most.toNat) l
def rowP (l : List Pair) : PV := .row (l.map Pair.pv)
theorem rowP_isAgg (l : List Pair) : (rowP l).isAgg = false := rfl

set_option maxRecDepth 10000 in
set_option maxHeartbeats 16000000 in
theorem leaf_Share (l : List Pair) (most : Int) (hl : l.length ≤ 400000) (h0 : most ≤ 9223372036854775807) : Ct Try.prog 66 (YtofmiaecjnfeaaaVm.ops [.row (l.map Pair.pv), .int .i64 most]) (.vals [.row ((shareV l most).map rowP)]) := by
  have h2 : ∀ (l : List Pair), ∀ x ∈ l.map Pair.pv, x.cells.length = 2 := fun l x hx => by
    obtain ⟨s, _, rfl⟩ := List.mem_map.1 hx
    rfl
  refine Ct.of_V Try.func66 rfl (by simp [YtofmiaecjnfeaaaVm.ops, Try.f66]) ?_
  refine V.exec 400 ?_
  by_cases hm : most < 1
  · have hv : shareV l most = [] := by simp [shareV, hm]
    simp +contextual (maxSteps := 1000000) only [go_sem, ↓reduceIte, reduceCtorEq, yA, yB, uA, uB, uC, uD, uE, uF, Try.f66, hm, hv, List.map_nil]
  · obtain ⟨k, rfl⟩ : ∃ k : Nat, most = (k : Int) := ⟨most.toNat, by omega⟩
    have hk : 0 < k := by omega
    have hk0 : ¬ (k : Int) = 0 := by omega
    have hv : shareV l k = partsV (howMany l.length k) l := by simp [shareV, hm]
    have hq : IntKind.i64.wrap ((l.length : Int).tdiv (k : Int)) = ((l.length / k : Nat) : Int) := by
      have e : (l.length : Int).tdiv (k : Int) = ((l.length / k : Nat) : Int) := rfl
      have : l.length / k ≤ l.length := Nat.div_le_self _ _
      rw [e]
      generalize l.length / k = c at *
      rw [wrap_small3] <;> omega
    have hr : (l.length : Int).tmod (k : Int) = ((l.length % k : Nat) : Int) := rfl
    have hw : IntKind.i64.wrap (((l.length / k : Nat) : Int) + 1) = ((l.length / k + 1 : Nat) : Int) := by
      have : l.length / k ≤ l.length := Nat.div_le_self _ _
      generalize l.length / k = c at *
      rw [wrap_small3] <;> omega
    rw [hv]
    simp +contextual (maxSteps := 1000000) only [go_sem, ↓reduceIte, reduceCtorEq, yA, yB, uA, uB, uC, uD, uE, uF, Try.f66, hm, hk0, hq, hr, hw]
    have hpl : howMany l.length k ≤ l.length + 1 := by
      have : l.length / k ≤ l.length := Nat.div_le_self _ _
      unfold howMany; split <;> omega
    have loop : ∀ (n : Nat), n = howMany l.length k → True := fun _ _ => trivial
    by_cases hrem : 0 < l.length % k
    · have hrem' : (0 : Int) < ((l.length % k : Nat) : Int) := by omega
      have hn : howMany l.length k = l.length / k + 1 := by simp [howMany, hrem]
      rw [hn] at hpl ⊢
      simp only [hrem', true_implies, not_true_eq_false, false_imp_iff, and_true]
      generalize l.length / k + 1 = P at *
      refine V.loop (fun m ls os => ∃ (p : Nat) (r : List Pair) (done : List (List Pair)), p ≤ l.length + 1 ∧ r.length ≤ l.length ∧ m = p ∧ done ++ partsV p r = partsV P l ∧ done.length + p ≤ l.length + 1 ∧
          ls = [(0, .val (.row (r.map Pair.pv))), (5, .ref 0), (6, .val (.int .i64 p))] ∧ os = [.row 29 (done.map rowP)]) 1 P
        [(0, .val (.row (l.map Pair.pv))), (5, .ref 0), (6, .val (.int .i64 P))] [.row 29 []] [none]
        ⟨P, l, [], hpl, Nat.le_refl _, rfl, rfl, by simpa using hpl, rfl, rfl⟩ (by simp only [go_sem, ↓reduceIte, reduceCtorEq, yA, yB, uA, uB, uC, uD, uE, uF]; try decide) ?_
      rintro m ls os ⟨p, r, done, hp, hrl, hmp, hd, hdl, rfl, rfl⟩
      subst hmp
      refine V.exec 400 ?_
      cases m with
      | zero =>
        have h0 : ¬ (0 : Int) < ((0 : Nat) : Int) := by omega
        simp +contextual (maxSteps := 1000000) only [go_sem, ↓reduceIte, reduceCtorEq, yA, yB, uA, uB, uC, uD, uE, uF, h0]
        simp [partsV] at hd
        rw [hd]
      | succ p =>
        have h0 : (0 : Int) < ((p + 1 : Nat) : Int) := by omega
        have hw1 : IntKind.i64.wrap ((r.length : Int) + ((p + 1 : Nat) : Int)) = ((r.length + (p + 1) : Nat) : Int) := by rw [wrap_small3] <;> omega
        have hw2 : IntKind.i64.wrap (((r.length + (p + 1) : Nat) : Int) - 1) = ((r.length + p : Nat) : Int) := by rw [wrap_small3] <;> omega
        have hw3 : IntKind.i64.wrap (((r.length + p : Nat) : Int).tdiv ((p + 1 : Nat) : Int)) = (((r.length + p) / (p + 1) : Nat) : Int) := by
          have e : ((r.length + p : Nat) : Int).tdiv ((p + 1 : Nat) : Int) = (((r.length + p) / (p + 1) : Nat) : Int) := rfl
          have : (r.length + p) / (p + 1) ≤ r.length + p := Nat.div_le_self _ _
          rw [e]
          generalize (r.length + p) / (p + 1) = c at *
          rw [wrap_small3] <;> omega
        have hw4 : IntKind.i64.wrap (((p + 1 : Nat) : Int) - 1) = (p : Int) := by rw [wrap_small3] <;> omega
        have hp0 : ¬ ((p + 1 : Nat) : Int) = 0 := by omega
        have hnl : (r.length + p) / (p + 1) ≤ r.length := by
          rw [Nat.div_le_iff_le_mul_add_pred (by omega)]
          have : r.length ≤ (p + 1) * r.length := Nat.le_mul_of_pos_left _ (by omega)
          omega
        have hcl := (ClonePair ((r.map Pair.pv).take ((r.length + p) / (p + 1))) (fun x hx => h2 r x (List.mem_of_mem_take hx)) (by simp; omega)).forget
        have hnl' : (((r.length + p) / (p + 1) : Nat) : Int) ≤ (r.length : Int) := by omega
        simp +contextual (maxSteps := 1000000) only [go_sem, ↓reduceIte, reduceCtorEq, yA, yB, uA, uB, uC, uD, uE, uF, h0, hw1, hw2, hw3, hp0]
        refine ⟨by omega, ?_⟩
        refine DV.call [] [] (by simp only [go_sem, ↓reduceIte, reduceCtorEq, yA, yB, uA, uB, uC, uD, uE, uF]) (by simp [dOK]) ⟨56, [], by simp only [go_sem, ↓reduceIte, reduceCtorEq, yA, yB, uA, uB, uC, uD, uE, uF], ⟨_, rfl, rfl, rfl⟩, .inl ⟨[.row ((r.map Pair.pv).take ((r.length + p) / (p + 1)))], _, .inl (by simp only [go_sem, ↓reduceIte, reduceCtorEq, yA, yB, uA, uB, uC, uD, uE, uF]), hcl, .inr (.inl ⟨_, rfl, rfl, rfl⟩)⟩⟩ (by simp only [go_sem, ↓reduceIte, reduceCtorEq, yA, yB, uA, uB, uC, uD, uE, uF]) (by simp only [go_sem, ↓reduceIte, reduceCtorEq, yA, yB, uA, uB, uC, uD, uE, uF]) (by simp only [go_sem, ↓reduceIte, reduceCtorEq, yA, yB, uA, uB, uC, uD, uE, uF]) (by simp) ?_
        refine DV.exec 400 ?_
        simp +contextual (maxSteps := 1000000) only [go_sem, ↓reduceIte, reduceCtorEq, yA, yB, uA, uB, uC, uD, uE, uF, hw4]
        refine ⟨⟨by omega, by omega⟩, ⟨hnl', fun j _ => rfl⟩, by kernel_rfl, p, _, _, [some 17], by omega, ⟨p, r.drop ((r.length + p) / (p + 1)), done ++ [r.take ((r.length + p) / (p + 1))], by omega, Nat.le_trans (by rw [List.length_drop]; exact Nat.sub_le _ _) hrl, rfl, ?_, by rw [List.length_append, List.length_singleton]; omega, rfl, rfl⟩, ?_⟩
        · rw [← hd]; simp [partsV]
        · simp only [go_sem, ↓reduceIte, reduceCtorEq, yA, yB, uA, uB, uC, uD, uE, uF, List.map_append, List.map_cons, List.map_nil, rowP, List.map_take, List.map_drop]
          try decide
    · have hrem' : ¬ (0 : Int) < ((l.length % k : Nat) : Int) := by omega
      have hn : howMany l.length k = l.length / k := by simp [howMany, hrem]
      rw [hn] at hpl ⊢
      simp only [hrem', false_imp_iff, not_false_eq_true, true_implies, true_and]
      generalize l.length / k = P at *
      refine V.loop (fun m ls os => ∃ (p : Nat) (r : List Pair) (done : List (List Pair)), p ≤ l.length + 1 ∧ r.length ≤ l.length ∧ m = p ∧ done ++ partsV p r = partsV P l ∧ done.length + p ≤ l.length + 1 ∧
          ls = [(0, .val (.row (r.map Pair.pv))), (5, .ref 0), (6, .val (.int .i64 p))] ∧ os = [.row 29 (done.map rowP)]) 1 P
        [(0, .val (.row (l.map Pair.pv))), (5, .ref 0), (6, .val (.int .i64 P))] [.row 29 []] [none]
        ⟨P, l, [], hpl, Nat.le_refl _, rfl, rfl, by simpa using hpl, rfl, rfl⟩ (by simp only [go_sem, ↓reduceIte, reduceCtorEq, yA, yB, uA, uB, uC, uD, uE, uF]; try decide) ?_
      rintro m ls os ⟨p, r, done, hp, hrl, hmp, hd, hdl, rfl, rfl⟩
      subst hmp
      refine V.exec 400 ?_
      cases m with
      | zero =>
        have h0 : ¬ (0 : Int) < ((0 : Nat) : Int) := by omega
        simp +contextual (maxSteps := 1000000) only [go_sem, ↓reduceIte, reduceCtorEq, yA, yB, uA, uB, uC, uD, uE, uF, h0]
        simp [partsV] at hd
        rw [hd]
      | succ p =>
        have h0 : (0 : Int) < ((p + 1 : Nat) : Int) := by omega
        have hw1 : IntKind.i64.wrap ((r.length : Int) + ((p + 1 : Nat) : Int)) = ((r.length + (p + 1) : Nat) : Int) := by rw [wrap_small3] <;> omega
        have hw2 : IntKind.i64.wrap (((r.length + (p + 1) : Nat) : Int) - 1) = ((r.length + p : Nat) : Int) := by rw [wrap_small3] <;> omega
        have hw3 : IntKind.i64.wrap (((r.length + p : Nat) : Int).tdiv ((p + 1 : Nat) : Int)) = (((r.length + p) / (p + 1) : Nat) : Int) := by
          have e : ((r.length + p : Nat) : Int).tdiv ((p + 1 : Nat) : Int) = (((r.length + p) / (p + 1) : Nat) : Int) := rfl
          have : (r.length + p) / (p + 1) ≤ r.length + p := Nat.div_le_self _ _
          rw [e]
          generalize (r.length + p) / (p + 1) = c at *
          rw [wrap_small3] <;> omega
        have hw4 : IntKind.i64.wrap (((p + 1 : Nat) : Int) - 1) = (p : Int) := by rw [wrap_small3] <;> omega
        have hp0 : ¬ ((p + 1 : Nat) : Int) = 0 := by omega
        have hnl : (r.length + p) / (p + 1) ≤ r.length := by
          rw [Nat.div_le_iff_le_mul_add_pred (by omega)]
          have : r.length ≤ (p + 1) * r.length := Nat.le_mul_of_pos_left _ (by omega)
          omega
        have hcl := (ClonePair ((r.map Pair.pv).take ((r.length + p) / (p + 1))) (fun x hx => h2 r x (List.mem_of_mem_take hx)) (by simp; omega)).forget
        have hnl' : (((r.length + p) / (p + 1) : Nat) : Int) ≤ (r.length : Int) := by omega
        simp +contextual (maxSteps := 1000000) only [go_sem, ↓reduceIte, reduceCtorEq, yA, yB, uA, uB, uC, uD, uE, uF, h0, hw1, hw2, hw3, hp0]
        refine ⟨by omega, ?_⟩
        refine DV.call [] [] (by simp only [go_sem, ↓reduceIte, reduceCtorEq, yA, yB, uA, uB, uC, uD, uE, uF]) (by simp [dOK]) ⟨56, [], by simp only [go_sem, ↓reduceIte, reduceCtorEq, yA, yB, uA, uB, uC, uD, uE, uF], ⟨_, rfl, rfl, rfl⟩, .inl ⟨[.row ((r.map Pair.pv).take ((r.length + p) / (p + 1)))], _, .inl (by simp only [go_sem, ↓reduceIte, reduceCtorEq, yA, yB, uA, uB, uC, uD, uE, uF]), hcl, .inr (.inl ⟨_, rfl, rfl, rfl⟩)⟩⟩ (by simp only [go_sem, ↓reduceIte, reduceCtorEq, yA, yB, uA, uB, uC, uD, uE, uF]) (by simp only [go_sem, ↓reduceIte, reduceCtorEq, yA, yB, uA, uB, uC, uD, uE, uF]) (by simp only [go_sem, ↓reduceIte, reduceCtorEq, yA, yB, uA, uB, uC, uD, uE, uF]) (by simp) ?_
        refine DV.exec 400 ?_
        simp +contextual (maxSteps := 1000000) only [go_sem, ↓reduceIte, reduceCtorEq, yA, yB, uA, uB, uC, uD, uE, uF, hw4]
        refine ⟨⟨by omega, by omega⟩, ⟨hnl', fun j _ => rfl⟩, by kernel_rfl, p, _, _, [some 17], by omega, ⟨p, r.drop ((r.length + p) / (p + 1)), done ++ [r.take ((r.length + p) / (p + 1))], by omega, Nat.le_trans (by rw [List.length_drop]; exact Nat.sub_le _ _) hrl, rfl, ?_, by rw [List.length_append, List.length_singleton]; omega, rfl, rfl⟩, ?_⟩
        · rw [← hd]; simp [partsV]
        · simp only [go_sem, ↓reduceIte, reduceCtorEq, yA, yB, uA, uB, uC, uD, uE, uF, List.map_append, List.map_cons, List.map_nil, rowP, List.map_take, List.map_drop]
          try decide
end Go.Proofs.Ytofmiaecjnfeaaa
set_option linter.unusedVariables false
set_option linter.unusedSimpArgs false
set_option maxRecDepth 8000
namespace Go.Proofs.Ytofmiaecjnfeaaa
open Nat renaming reduceAdd → uA, reduceLT → uB, reduceEqDiff → uC, reduceLeDiff → uD, reduceSub → uE, reduceMul → uF
open Bool renaming false_eq_true → yA, true_eq_false → yB
open Go Go.Proofs Go.Proofs.YtofmiaecjnfeaaaVm Go.Proofs.Ytofmiaecjnfeaaa.Ty

theorem Pair.inj (s t : Pair) : (s.pv = t.pv) = (s = t) := by
  cases s; cases t
  simp [Pair.pv]

set_option maxRecDepth 4000 in
set_option maxHeartbeats 8000000 in
theorem ref03_Same (a b : List Pair) (hb : b.length ≤ 1000000) : Ct Try.prog 16 (YtofmiaecjnfeaaaVm.ops [.row (a.map Pair.pv), .row (b.map Pair.pv)]) (.vals [.bool (decide (a = b))]) := by
  refine Ct.of_V Try.func16 rfl (by simp [YtofmiaecjnfeaaaVm.ops, Try.f16]) ?_
  refine V.exec 400 ?_
  by_cases hl : a.length = b.length
  · simp +contextual (maxSteps := 1000000) only [go_sem, ↓reduceIte, reduceCtorEq, yA, yB, uA, uB, uC, uD, uE, uF, Try.f16, hl]
    refine V.loop (fun m ls os => ∃ i : Nat, i ≤ b.length ∧ m = b.length - i ∧ a.take i = b.take i ∧
        ls = [(0, .val (.row (a.map Pair.pv))), (1, .val (.row (b.map Pair.pv))), (5, .val (.int .i64 i))] ∧ os = []) 0 b.length [(0, .val (.row (a.map Pair.pv))), (1, .val (.row (b.map Pair.pv))), (5, .val (.int .i64 0))] [] []
      ⟨0, Nat.zero_le _, rfl, rfl, rfl, rfl⟩ (by simp only [go_sem, ↓reduceIte, reduceCtorEq, yA, yB, uA, uB, uC, uD, uE, uF]) ?_
    rintro m ls os ⟨i, hi, rfl, heq, rfl, rfl⟩
    refine V.exec 400 ?_
    by_cases hlt : i < b.length
    · have hlt' : (i : Int) < (b.length : Int) := by omega
      have hla : i < a.length := by omega
      obtain ⟨x, hx⟩ : ∃ x, a[i]? = some x := ⟨_, List.getElem?_eq_getElem hla⟩
      obtain ⟨y, hy⟩ : ∃ y, b[i]? = some y := ⟨_, List.getElem?_eq_getElem hlt⟩
      have hw : IntKind.i64.wrap ((i : Int) + 1) = ((i + 1 : Nat) : Int) := by rw [wrap_small3] <;> omega
      have hinj := Pair.inj x y
      simp only [Pair.pv] at hinj
      simp +contextual (maxSteps := 1000000) only [go_sem, ↓reduceIte, reduceCtorEq, yA, yB, uA, uB, uC, uD, uE, uF, hl, hlt', hx, hy, Pair.pv, hw, hinj]
      refine ⟨by kernel_rfl, fun hne => ?_, fun he => ⟨b.length - (i + 1), _, [], [], by omega, ⟨i + 1, by omega, rfl, ?_, rfl, rfl⟩, ?_⟩⟩
      · have : a ≠ b := fun e => hne (by rw [e, hy] at hx; cases hx; rfl)
        simp [this]
      · rw [List.take_add_one, List.take_add_one, heq, hx, hy, he]
      · simp only [go_sem, ↓reduceIte, reduceCtorEq, yA, yB, uA, uB, uC, uD, uE, uF]
    · have hlt' : ¬ (i : Int) < (b.length : Int) := by omega
      simp +contextual (maxSteps := 1000000) only [go_sem, ↓reduceIte, reduceCtorEq, yA, yB, uA, uB, uC, uD, uE, uF, hl, hlt']
      have : a = b := by rw [List.take_of_length_le (by omega), List.take_of_length_le (by omega)] at heq; exact heq
      simp [this]
  · have hl' : ¬ (a.length : Int) = (b.length : Int) := by omega
    have : a ≠ b := fun e => hl (by rw [e])
    simp +contextual (maxSteps := 1000000) only [go_sem, ↓reduceIte, reduceCtorEq, yA, yB, uA, uB, uC, uD, uE, uF, Try.f16, hl', this, not_false_eq_true]

theorem applyV_len (l : List Pair) (ns : List Note) : (applyV l ns).1.length ≤ l.length + ns.length := by
  unfold applyV
  split
  · rename_i h
    exact appV_len ns ((pairsOk_iff l).1 h.1).1
  · simp
theorem applyV_ok {l : List Pair} {ns : List Note} (h : pairsOk l) (hn : notesOk ns) : applyV l ns = (appV l ns, 0) := by
  unfold applyV; rw [if_pos ⟨h, hn⟩]
theorem applyV_bad {l : List Pair} {ns : List Note} (h : ¬ (pairsOk l ∧ notesOk ns)) : applyV l ns = (l, 1) := by
  unfold applyV; rw [if_neg h]
theorem stepO_put (o : Option (List UInt8)) {x : Note} (h : x.kind = 1) : stepO o x = some x.value := by
  unfold stepO; cases o <;> simp [doneOne, h]
theorem stepO_del (o : Option (List UInt8)) {x : Note} (h : x.kind = 2) : stepO o x = none := by
  unfold stepO; cases o <;> simp [doneOne, h]
theorem getV_val {l : List Pair} (h : pairsOk l) (k : List UInt8) : getV l k = (match val l k with | some v => (v, true) | none => ([], false)) := by
  unfold getV val
  rw [if_pos h]
  cases getL l k <;> rfl
theorem getV_bad {l : List Pair} (h : ¬ pairsOk l) (k : List UInt8) : getV l k = ([], false) := by
  unfold getV; rw [if_neg h]
theorem appV_val : ∀ (ns : List Note) {l : List Pair}, Sorted l → ∀ k, val (appV l ns) k = ns.foldl (fun o x => if k = x.key then stepO o x else o) (val l k)
  | [], _, _, _ => rfl
  | x :: r, l, hs, k => by
    have h1 := appV_val r (oneV_sorted hs x) k
    rw [oneV_val hs x k] at h1
    exact h1
theorem notesOk_one (x : Note) : notesOk [x] ↔ x.ok := by simp [notesOk]
theorem notesOk_app (a b : List Note) : notesOk (a ++ b) ↔ notesOk a ∧ notesOk b := by
  unfold notesOk
  simp only [List.mem_append]
  exact ⟨fun h => ⟨fun x hx => h x (.inl hx), fun x hx => h x (.inr hx)⟩, fun h x hx => hx.elim (h.1 x) (h.2 x)⟩
theorem appV_app (l : List Pair) (a b : List Note) : appV l (a ++ b) = appV (appV l a) b := List.foldl_append ..

theorem pair_of (xs : List PV) (h : ∀ x ∈ xs, ∃ qs, x = .agg qs ∧ qs.map PV.kd = [.str, .str] ∧ ∀ q ∈ qs, q.wfv) : ∃ t : List Pair, xs = t.map Pair.pv := by
  induction xs with
  | nil => exact ⟨[], rfl⟩
  | cons x r ih =>
    obtain ⟨t, rfl⟩ := ih (fun y hy => h y (List.mem_cons_of_mem _ hy))
    obtain ⟨qs, rfl, hk, hw⟩ := h x List.mem_cons_self
    match qs, hk with
    | [.str a, .str b], hk => exact ⟨⟨a, b⟩ :: t, by simp [Pair.pv]⟩
end Go.Proofs.Ytofmiaecjnfeaaa
set_option linter.unusedVariables false
set_option linter.unusedSimpArgs false
set_option maxRecDepth 8000
namespace Go.Proofs.Ytofmiaecjnfeaaa
open Go Go.Proofs Go.Proofs.YtofmiaecjnfeaaaVm Go.Proofs.Ytofmiaecjnfeaaa.Ty

theorem Note.inj (s t : Note) : (s.pv = t.pv) = (s = t) := by
  cases s; cases t
  simp [Note.pv]

theorem eqNote : EqT Try.prog 50 [.int .i64, .str, .str, .int .u64] := EqT.of (by kernel_rfl) (by kernel_rfl) (by kernel_rfl)

def fewN (l : List Note) : Prop := l.length ≤ 60 ∧ ∀ p ∈ l, p.key.length ≤ 300 ∧ p.value.length ≤ 300
instance instFewN (l : List Note) : Decidable (fewN l) := by unfold fewN; infer_instance

end Go.Proofs.Ytofmiaecjnfeaaa
set_option linter.unusedVariables false
set_option linter.unusedSimpArgs false
set_option maxRecDepth 8000
namespace Go.Proofs.Ytofmiaecjnfeaaa
open Go Go.Proofs Go.Proofs.YtofmiaecjnfeaaaVm Go.Proofs.Ytofmiaecjnfeaaa.Ty

def aN1 : Note := ⟨3, [107], [], 1⟩
def aN2 : Note := ⟨2, [97], [], 0⟩
def aN3 : Note := ⟨3, [107], [], 2⟩
def aN4 : Note := ⟨3, [107], [], 3⟩
def aL : List Note := [aN2, aN4]
def aS : List (List Note) := [[aN2], [aN4]]
theorem av1 : pushR [] [aN1, aN2, aN3] = (aL, 0) := by kernel_rfl
theorem av2 : findN aL [107] = (aN4, true) := by kernel_rfl
theorem av3 : splitR aL [[], [98]] = aS := by kernel_rfl
theorem av4 : pushR [Note.zero] [] = ([Note.zero], 1) := by kernel_rfl
theorem av5 : mostV aL [[98], [99]] = 0 := by kernel_rfl
theorem av6 : waitOk aL := by decide +kernel

end Go.Proofs.Ytofmiaecjnfeaaa
set_option linter.unusedVariables false
set_option linter.unusedSimpArgs false
set_option maxRecDepth 8000
namespace Go.Proofs.Ytofmiaecjnfeaaa
open Go Go.Proofs Go.Proofs.YtofmiaecjnfeaaaVm Go.Proofs.Ytofmiaecjnfeaaa.Ty

theorem splitV_flat : ∀ (ls : List (List UInt8)) (l : List Note), ls ≠ [] → (splitV l ls).flatten = l
  | [], _, h => absurd rfl h
  | [_], l, _ => by simp [splitV]
  | _ :: t :: r, l, _ => by rw [splitV, List.flatten_cons, splitV_flat (t :: r) _ (by simp), List.take_append_drop]
theorem splitR_flat {l : List Note} {ls : List (List UInt8)} (h : splitR l ls ≠ []) : (splitR l ls).flatten = l := by
  unfold splitR at h ⊢
  split
  · rename_i hc
    exact splitV_flat ls l hc.2.2
  · rename_i hc
    rw [if_neg hc] at h
    exact absurd rfl h

theorem note_one (qs : List PV) (hk : qs.map PV.kd = [.int .i64, .str, .str, .int .u64]) : ∃ s : Note, PV.agg qs = s.pv := by
  match qs, hk with
  | [.int k n, .str a, .str b, .int k' m], hk =>
    simp only [List.map_cons, PV.kd, List.cons.injEq, KD.int.injEq] at hk
    obtain ⟨rfl, _, _, rfl, _⟩ := hk
    exact ⟨⟨n, a, b, m⟩, by simp [Note.pv]⟩
theorem note_of (xs : List PV) (h : ∀ x ∈ xs, ∃ qs, x = .agg qs ∧ qs.map PV.kd = [.int .i64, .str, .str, .int .u64] ∧ ∀ q ∈ qs, q.wfv) : ∃ t : List Note, xs = t.map Note.pv := by
  induction xs with
  | nil => exact ⟨[], rfl⟩
  | cons x r ih =>
    obtain ⟨t, rfl⟩ := ih (fun y hy => h y (List.mem_cons_of_mem _ hy))
    obtain ⟨qs, rfl, hk, hw⟩ := h x List.mem_cons_self
    obtain ⟨s, hs⟩ := note_one qs hk
    exact ⟨s :: t, by simp [hs]⟩
end Go.Proofs.Ytofmiaecjnfeaaa
set_option linter.unusedVariables false
set_option linter.unusedSimpArgs false
set_option maxRecDepth 8000
namespace Go.Proofs.Ytofmiaecjnfeaaa
open Nat renaming reduceAdd → uA, reduceLT → uB, reduceEqDiff → uC, reduceLeDiff → uD, reduceSub → uE, reduceMul → uF
open Bool renaming false_eq_true → yA, true_eq_false → yB
open Go Go.Proofs Go.Proofs.YtofmiaecjnfeaaaVm Go.Proofs.Ytofmiaecjnfeaaa.Ty

set_option maxHeartbeats 4000000 in
theorem ref01_Take (s : List UInt8) (hl : s.length = 8) : Ct Try.prog 93 (YtofmiaecjnfeaaaVm.ops [.str s, .int .i64 8]) (.vals [.int .u64 (beN s), .str [], .int .i64 0]) := by
  refine Ct.of_V Try.func93 rfl (by simp [YtofmiaecjnfeaaaVm.ops, Try.f93]) ?_
  refine V.exec 400 ?_
  have h1 : ¬ (8 : Int) < 1 := by decide
  have h2 : ¬ (8 : Int) < 8 := by decide
  have hl' : ¬ (s.length : Int) < 8 := by omega
  simp +contextual (maxSteps := 1000000) only [go_sem, ↓reduceIte, reduceCtorEq, yA, yB, uA, uB, uC, uD, uE, uF, Try.f93, h1, h2, hl']
  refine V.loop (fun m ls os => ∃ (i : Nat), i ≤ 8 ∧ m = 8 - i ∧
        ls = [(0, .val (.str s)), (1, .val (.int .i64 8)), (7, .val (.int .u64 (beN (s.take i)))), (8, .val (.int .i64 i))] ∧ os = []) 0 8
      [(0, .val (.str s)), (1, .val (.int .i64 8)), (7, .val (.int .u64 0)), (8, .val (.int .i64 0))] [] []
      ⟨0, Nat.zero_le _, rfl, rfl, rfl⟩ (by simp only [go_sem, ↓reduceIte, reduceCtorEq, yA, yB, uA, uB, uC, uD, uE, uF]) ?_
  rintro m ls os ⟨i, hi, rfl, rfl, rfl⟩
  refine V.exec 400 ?_
  by_cases hlt : i < 8
  · have hlt' : (i : Int) < 8 := by omega
    obtain ⟨x, hx⟩ : ∃ x, s[i]? = some x := ⟨_, List.getElem?_eq_getElem (by omega)⟩
    have hw : IntKind.i64.wrap ((i : Int) + 1) = ((i + 1 : Nat) : Int) := by rw [wrap_small3] <;> omega
    have hb0 := beN_nonneg (s.take i)
    have hb1 : beN (s.take i) < 72057594037927936 := by
      have h1 := beN_lt (s.take i)
      have h2 : (s.take i).length ≤ 7 := by simp; omega
      have h3 : ∀ k : Fin 8, (256 : Int) ^ k.val ≤ 72057594037927936 := by decide
      have := h3 ⟨(s.take i).length, by omega⟩
      exact Int.lt_of_lt_of_le h1 this
    have hsn : beN (s.take (i + 1)) = beN (s.take i) * 256 + (x.toNat : Int) := by rw [List.take_add_one, hx]; exact beN_snoc _ _
    have hxl := x.toNat_lt
    have hsh : IntKind.u64.wrap (beN (s.take i) * 256) = beN (s.take i) * 256 := by rw [wrap_u64] <;> omega
    have hcv : IntKind.u64.wrap (x.toNat : Int) = (x.toNat : Int) := by rw [wrap_u64] <;> omega
    have had : IntKind.u64.wrap (beN (s.take i) * 256 + (x.toNat : Int)) = beN (s.take i) * 256 + (x.toNat : Int) := by rw [wrap_u64] <;> omega
    rw [← hsn] at had
    simp +contextual (maxSteps := 1000000) only [go_sem, ↓reduceIte, reduceCtorEq, yA, yB, uA, uB, uC, uD, uE, uF, hlt', hx, hw, hsh, hcv, ← hsn, had]
    exact ⟨8 - (i + 1), _, [], [], by omega, ⟨i + 1, by omega, rfl, rfl, rfl⟩, by simp only [go_sem, ↓reduceIte, reduceCtorEq, yA, yB, uA, uB, uC, uD, uE, uF]⟩
  · have hlt' : ¬ (i : Int) < 8 := by omega
    obtain rfl : i = 8 := by omega
    simp +contextual (maxSteps := 1000000) only [go_sem, ↓reduceIte, reduceCtorEq, yA, yB, uA, uB, uC, uD, uE, uF, hlt']
    refine ⟨⟨by decide, by omega⟩, by kernel_rfl, ?_⟩
    rw [List.take_of_length_le (by omega), List.drop_eq_nil_of_le (by simp; omega)]

theorem ref09_Number (v : List UInt8) : Ct Try.prog 77 (YtofmiaecjnfeaaaVm.ops [.str v]) (.vals [.int .u64 (numV v)]) := by
  refine Ct.of_V Try.func77 rfl (by simp [YtofmiaecjnfeaaaVm.ops, Try.f77]) ?_
  refine V.exec 400 ?_
  by_cases h : v.length = 8
  · have h' : (v.length : Int) = 8 := by omega
    simp +contextual (maxSteps := 1000000) only [go_sem, ↓reduceIte, reduceCtorEq, yA, yB, uA, uB, uC, uD, uE, uF, Try.f77, h', not_true_eq_false]
    refine V.call rfl rfl (by simp [dOK]) ⟨93, [], by simp only [go_sem, ↓reduceIte, reduceCtorEq, yA, yB, uA, uB, uC, uD, uE, uF], ⟨_, rfl, rfl, rfl⟩, .inl ⟨[.str v, .int .i64 8], _, .inl (by simp only [go_sem, ↓reduceIte, reduceCtorEq, yA, yB, uA, uB, uC, uD, uE, uF]), ref01_Take v h, .inr (.inl ⟨_, rfl, rfl, rfl⟩)⟩⟩ ?_
    refine V.exec 400 ?_
    simp +contextual (maxSteps := 1000000) only [go_sem, ↓reduceIte, reduceCtorEq, yA, yB, uA, uB, uC, uD, uE, uF]
    simp [numV, h]
  · have h' : ¬ (v.length : Int) = 8 := by omega
    simp +contextual (maxSteps := 1000000) only [go_sem, ↓reduceIte, reduceCtorEq, yA, yB, uA, uB, uC, uD, uE, uF, Try.f77, h']
    simp [numV, h]

set_option maxHeartbeats 4000000 in
theorem ref01_Num (n : Int) (h0 : 0 ≤ n) (hn : n < 18446744073709551616) : Ct Try.prog 76 (YtofmiaecjnfeaaaVm.ops [.int .u64 n, .int .i64 8]) (.vals [.str (beB n 8), .int .i64 0]) := by
  refine Ct.of_V Try.func76 rfl (by simp [YtofmiaecjnfeaaaVm.ops, Try.f76]) ?_
  refine V.exec 400 ?_
  have h1 : ¬ (8 : Int) < 1 := by decide
  have h2 : ¬ (8 : Int) < 8 := by decide
  simp +contextual (maxSteps := 1000000) only [go_sem, ↓reduceIte, reduceCtorEq, yA, yB, uA, uB, uC, uD, uE, uF, Try.f76, h1, h2]
  refine V.loop (fun m ls os => ∃ (i : Nat), i ≤ 8 ∧ m = 8 - i ∧
        ls = [(0, .val (.int .u64 (n / 256 ^ i))), (1, .val (.int .i64 8)), (6, .val (.str (beB n i))), (7, .val (.int .i64 i))] ∧ os = []) 0 8
      [(0, .val (.int .u64 n)), (1, .val (.int .i64 8)), (6, .val (.str [])), (7, .val (.int .i64 0))] [] []
      ⟨0, Nat.zero_le _, rfl, by simp [beB], rfl⟩ (by simp only [go_sem, ↓reduceIte, reduceCtorEq, yA, yB, uA, uB, uC, uD, uE, uF]) ?_
  rintro m ls os ⟨i, hi, rfl, rfl, rfl⟩
  refine V.exec 400 ?_
  by_cases hlt : i < 8
  · have hlt' : (i : Int) < 8 := by omega
    have hw : IntKind.i64.wrap ((i : Int) + 1) = ((i + 1 : Nat) : Int) := by rw [wrap_small3] <;> omega
    have hq0 : 0 ≤ n / 256 ^ i := Int.ediv_nonneg h0 (Int.le_of_lt (Int.pow_pos (by decide)))
    have hql : n / 256 ^ i ≤ n := Int.ediv_le_self _ h0
    have hmod : (n / 256 ^ i).tmod 256 = n / 256 ^ i % 256 := Int.tmod_eq_emod_of_nonneg hq0
    have hdiv : (n / 256 ^ i).tdiv 256 = n / 256 ^ (i + 1) := by
      rw [Int.tdiv_eq_ediv_of_nonneg hq0, Int.pow_succ, Int.ediv_ediv_of_nonneg (Int.le_of_lt (Int.pow_pos (by decide)))]
    have hqn : 0 ≤ n / 256 ^ (i + 1) := Int.ediv_nonneg h0 (Int.le_of_lt (Int.pow_pos (by decide)))
    have hqm : n / 256 ^ (i + 1) ≤ n := Int.ediv_le_self _ h0
    have hwq : IntKind.u64.wrap (n / 256 ^ (i + 1)) = n / 256 ^ (i + 1) := by rw [wrap_u64] <;> omega
    have hc8 : IntKind.u8.wrap (n / 256 ^ i % 256) = n / 256 ^ i % 256 := by simp [IntKind.wrap, IntKind.bits, IntKind.signed]
    have h256 : ¬ (256 : Int) = 0 := by decide
    have hbs := beB_succ n i
    have hbl := beB_len n i
    have hby : bytesOf [PV.int .u8 (n / 256 ^ i % 256)] = some [UInt8.ofNat (n / 256 ^ i % 256).toNat] := rfl
    simp +contextual (maxSteps := 1000000) only [go_sem, ↓reduceIte, reduceCtorEq, yA, yB, uA, uB, uC, uD, uE, uF, hlt', hw, hmod, hdiv, hwq, hc8, h256, hby, hbl, List.cons_append, ← hbs]
    exact ⟨by omega, 8 - (i + 1), _, [], [], by omega, ⟨i + 1, by omega, rfl, rfl, rfl⟩, by simp only [go_sem, ↓reduceIte, reduceCtorEq, yA, yB, uA, uB, uC, uD, uE, uF]⟩
  · have hlt' : ¬ (i : Int) < 8 := by omega
    obtain rfl : i = 8 := by omega
    have hz : n / 256 ^ 8 = 0 := by omega
    have hz' : ¬ (0 : Int) < 0 := by decide
    simp +contextual (maxSteps := 1000000) only [go_sem, ↓reduceIte, reduceCtorEq, yA, yB, uA, uB, uC, uD, uE, uF, hlt', hz, hz']

theorem u64_wrap_lt (x : Int) : IntKind.u64.wrap x < 18446744073709551616 := by simp [IntKind.wrap, IntKind.bits, IntKind.signed]; omega

set_option maxHeartbeats 4000000 in
theorem ref09_Right (x : Note) : Ct Try.prog 21 (YtofmiaecjnfeaaaVm.ops [x.pv]) (.vals [.bool (decide x.ok)]) := by
  refine Ct.of_V Try.func21 rfl (by simp [YtofmiaecjnfeaaaVm.ops, Try.f21]) ?_
  refine V.exec 400 ?_
  simp +contextual (maxSteps := 1000000) only [go_sem, ↓reduceIte, reduceCtorEq, yA, yB, uA, uB, uC, uD, uE, uF, Try.f21, Note.pv]
  simp only [Option.some.injEq, List.cons.injEq, PV.bool.injEq, and_true]
  (repeat' (first | (intro _) | (refine ⟨by kernel_rfl, ?_⟩) | (apply And.intro)))
  all_goals grind [Note.ok]

def notesOk' (ns : List Note) : Prop := ∀ x ∈ ns, x.ok
instance instNotesOk' (ns : List Note) : Decidable (notesOk' ns) := by unfold notesOk'; infer_instance

set_option maxHeartbeats 4000000 in
theorem ref09_All (l : List Note) (hl : l.length ≤ 1000000) : Ct Try.prog 19 (YtofmiaecjnfeaaaVm.ops [.row (l.map Note.pv)]) (.vals [.bool (decide (notesOk' l))]) := by
  refine Ct.of_V Try.func19 rfl (by simp [YtofmiaecjnfeaaaVm.ops, Try.f19]) ?_
  refine V.exec 400 ?_
  simp +contextual (maxSteps := 1000000) only [go_sem, ↓reduceIte, reduceCtorEq, yA, yB, uA, uB, uC, uD, uE, uF, Try.f19]
  refine V.loop (fun m ls os => ∃ (i : Nat), i ≤ l.length ∧ m = l.length - i ∧ (∀ x ∈ l.take i, x.ok) ∧
        ls = [(0, .val (.row (l.map Note.pv))), (3, .val (.int .i64 i))] ∧ os = []) 0 l.length
      [(0, .val (.row (l.map Note.pv))), (3, .val (.int .i64 0))] [] []
      ⟨0, Nat.zero_le _, rfl, by simp, rfl, rfl⟩ (by simp only [go_sem, ↓reduceIte, reduceCtorEq, yA, yB, uA, uB, uC, uD, uE, uF]) ?_
  rintro m ls os ⟨i, hi, rfl, hno, rfl, rfl⟩
  refine V.exec 400 ?_
  by_cases hlt : i < l.length
  · have hlt' : (i : Int) < (l.length : Int) := by omega
    obtain ⟨x, hx⟩ : ∃ x, l[i]? = some x := ⟨_, List.getElem?_eq_getElem hlt⟩
    have hw : IntKind.i64.wrap ((i : Int) + 1) = ((i + 1 : Nat) : Int) := by rw [wrap_small3] <;> omega
    simp +contextual (maxSteps := 1000000) only [go_sem, ↓reduceIte, reduceCtorEq, yA, yB, uA, uB, uC, uD, uE, uF, hlt', hx, Note.pv]
    refine V.call rfl rfl (by simp [dOK]) ⟨21, [], by simp only [go_sem, ↓reduceIte, reduceCtorEq, yA, yB, uA, uB, uC, uD, uE, uF], ⟨_, rfl, rfl, rfl⟩, .inl ⟨[x.pv], _, .inl (by simp only [go_sem, ↓reduceIte, reduceCtorEq, yA, yB, uA, uB, uC, uD, uE, uF, Note.pv]), ref09_Right x, .inl ⟨_, rfl, rfl, rfl, rfl⟩⟩⟩ ?_
    refine V.exec 400 ?_
    by_cases hk : x.ok
    · simp +contextual (maxSteps := 1000000) only [go_sem, ↓reduceIte, reduceCtorEq, yA, yB, uA, uB, uC, uD, uE, uF, hk, hw]
      refine ⟨l.length - (i + 1), _, [], [], by omega, ⟨i + 1, by omega, rfl, fun s hs => ?_, rfl, rfl⟩, by simp only [go_sem, ↓reduceIte, reduceCtorEq, yA, yB, uA, uB, uC, uD, uE, uF]⟩
      rw [List.take_add_one, hx] at hs
      rcases List.mem_append.1 hs with hs | hs
      · exact hno s hs
      · simp at hs; rw [hs]; exact hk
    · have : ¬ notesOk' l := fun h => hk (h x (List.mem_of_getElem? hx))
      simp +contextual (maxSteps := 1000000) only [go_sem, ↓reduceIte, reduceCtorEq, yA, yB, uA, uB, uC, uD, uE, uF, hk, this]
  · have hlt' : ¬ (i : Int) < (l.length : Int) := by omega
    rw [List.take_of_length_le (by omega)] at hno
    have : notesOk' l := hno
    simp +contextual (maxSteps := 1000000) only [go_sem, ↓reduceIte, reduceCtorEq, yA, yB, uA, uB, uC, uD, uE, uF, hlt', this, decide_true]

set_option maxRecDepth 4000 in
set_option maxHeartbeats 8000000 in
theorem ref09_Done (v : List UInt8) (has : Bool) (l : List Note) (hl : l.length ≤ 1000000) : Ct Try.prog 46 (YtofmiaecjnfeaaaVm.ops [.str v, .bool (decide (has = true)), .row (l.map Note.pv)])
    (.vals [.str (doneV v has l).1, .bool (decide ((doneV v has l).2 = true))]) := by
  generalize hD : doneV v has l = D
  unfold doneV at hD
  refine Ct.of_V Try.func46 rfl (by simp [YtofmiaecjnfeaaaVm.ops, Try.f46]) ?_
  refine V.exec 400 ?_
  cases has
  all_goals simp only [Bool.false_eq_true, ↓reduceIte] at hD
  all_goals simp +contextual (maxSteps := 1000000) only [go_sem, ↓reduceIte, reduceCtorEq, yA, yB, uA, uB, uC, uD, uE, uF, Try.f46, decide_true, decide_false]
  all_goals refine V.loop (fun m ls os => ∃ (i : Nat) (u : List UInt8) (h : Bool), i ≤ l.length ∧ m = l.length - i ∧ (l.drop i).foldl doneOne (u, h) = D ∧ ls = [(0, .val (.str u)), (1, .val (.bool (decide (h = true)))), (2, .val (.row (l.map Note.pv))), (8, .val (.int .i64 i))] ∧ os = []) 0 l.length _ _ [] ⟨0, _, _, Nat.zero_le _, rfl, hD, rfl, rfl⟩ (by simp only [go_sem, ↓reduceIte, reduceCtorEq, yA, yB, uA, uB, uC, uD, uE, uF, decide_true, decide_false]; try rfl) ?_
  all_goals rintro m ls os ⟨i, u, h, hi, rfl, hf, rfl, rfl⟩
  all_goals refine V.exec 400 ?_
  all_goals by_cases hlt : i < l.length
  case neg =>
    have hlt' : ¬ (i : Int) < (l.length : Int) := by omega
    have hd : l.drop i = [] := List.drop_eq_nil_of_le (by omega)
    rw [hd, List.foldl_nil] at hf
    subst hf
    simp +contextual (maxSteps := 1000000) only [go_sem, ↓reduceIte, reduceCtorEq, yA, yB, uA, uB, uC, uD, uE, uF, hlt']
  case neg =>
    have hlt' : ¬ (i : Int) < (l.length : Int) := by omega
    have hd : l.drop i = [] := List.drop_eq_nil_of_le (by omega)
    rw [hd, List.foldl_nil] at hf
    subst hf
    simp +contextual (maxSteps := 1000000) only [go_sem, ↓reduceIte, reduceCtorEq, yA, yB, uA, uB, uC, uD, uE, uF, hlt']
  all_goals
    have hlt' : (i : Int) < (l.length : Int) := by omega
    obtain ⟨x, hx⟩ : ∃ x, l[i]? = some x := ⟨_, List.getElem?_eq_getElem hlt⟩
    have hw : IntKind.i64.wrap ((i : Int) + 1) = ((i + 1 : Nat) : Int) := by rw [wrap_small3] <;> omega
    rw [drop_of_get hx, List.foldl_cons] at hf
    have h12 : ¬ (1 : Int) = 2 := by decide
    have h13 : ¬ (1 : Int) = 3 := by decide
    have h23 : ¬ (2 : Int) = 3 := by decide
    have h21 : ¬ (2 : Int) = 1 := by decide
    have h31 : ¬ (3 : Int) = 1 := by decide
    have h32 : ¬ (3 : Int) = 2 := by decide
    by_cases h1 : x.kind = 1
    · have e : doneOne (u, h) x = (x.value, true) := by simp [doneOne, h1]
      rw [e] at hf
      simp +contextual (maxSteps := 1000000) only [go_sem, ↓reduceIte, reduceCtorEq, yA, yB, uA, uB, uC, uD, uE, uF, hlt', hx, Note.pv, hw, h1, h12, h13]
      exact ⟨l.length - (i + 1), _, [], [], by omega, ⟨i + 1, _, _, by omega, rfl, hf, rfl, rfl⟩, by simp only [go_sem, ↓reduceIte, reduceCtorEq, yA, yB, uA, uB, uC, uD, uE, uF, decide_true]⟩
    · by_cases h2 : x.kind = 2
      · have e : doneOne (u, h) x = ([], false) := by simp [doneOne, h2]
        rw [e] at hf
        simp +contextual (maxSteps := 1000000) only [go_sem, ↓reduceIte, reduceCtorEq, yA, yB, uA, uB, uC, uD, uE, uF, hlt', hx, Note.pv, hw, h2, h21, h23]
        exact ⟨l.length - (i + 1), _, [], [], by omega, ⟨i + 1, _, _, by omega, rfl, hf, rfl, rfl⟩, by simp only [go_sem, ↓reduceIte, reduceCtorEq, yA, yB, uA, uB, uC, uD, uE, uF, decide_false]⟩
      · by_cases h3 : x.kind = 3
        · have e : doneOne (u, h) x = (beB (IntKind.u64.wrap (numV u + x.n)) 8, true) := by simp [doneOne, h3]
          rw [e] at hf
          have hn := ref01_Num _ (u64_wrap_nonneg (numV u + x.n)) (u64_wrap_lt (numV u + x.n))
          simp +contextual (maxSteps := 1000000) only [go_sem, ↓reduceIte, reduceCtorEq, yA, yB, uA, uB, uC, uD, uE, uF, hlt', hx, Note.pv, hw, h3, h31, h32]
          refine DV.call [] [] (by simp only [go_sem, ↓reduceIte, reduceCtorEq, yA, yB, uA, uB, uC, uD, uE, uF]) (by simp [dOK]) ⟨77, [], by simp only [go_sem, ↓reduceIte, reduceCtorEq, yA, yB, uA, uB, uC, uD, uE, uF], ⟨_, rfl, rfl, rfl⟩, .inl ⟨[.str u], _, .inl (by simp only [go_sem, ↓reduceIte, reduceCtorEq, yA, yB, uA, uB, uC, uD, uE, uF]), ref09_Number u, .inl ⟨_, rfl, rfl, rfl, rfl⟩⟩⟩ (by simp only [go_sem, ↓reduceIte, reduceCtorEq, yA, yB, uA, uB, uC, uD, uE, uF]) (by simp only [go_sem, ↓reduceIte, reduceCtorEq, yA, yB, uA, uB, uC, uD, uE, uF]) (by simp only [go_sem, ↓reduceIte, reduceCtorEq, yA, yB, uA, uB, uC, uD, uE, uF]) (by simp) ?_
          refine DV.exec 400 ?_
          simp +contextual (maxSteps := 1000000) only [go_sem, ↓reduceIte, reduceCtorEq, yA, yB, uA, uB, uC, uD, uE, uF, hlt', hx, Note.pv]
          refine DV.call [] [] (by simp only [go_sem, ↓reduceIte, reduceCtorEq, yA, yB, uA, uB, uC, uD, uE, uF]) (by simp [dOK]) ⟨76, [], by simp only [go_sem, ↓reduceIte, reduceCtorEq, yA, yB, uA, uB, uC, uD, uE, uF], ⟨_, rfl, rfl, rfl⟩, .inl ⟨[.int .u64 (IntKind.u64.wrap (numV u + x.n)), .int .i64 8], _, .inl (by simp only [go_sem, ↓reduceIte, reduceCtorEq, yA, yB, uA, uB, uC, uD, uE, uF]), hn, .inr (.inl ⟨_, rfl, rfl, rfl⟩)⟩⟩ (by simp only [go_sem, ↓reduceIte, reduceCtorEq, yA, yB, uA, uB, uC, uD, uE, uF]) (by simp only [go_sem, ↓reduceIte, reduceCtorEq, yA, yB, uA, uB, uC, uD, uE, uF]) (by simp only [go_sem, ↓reduceIte, reduceCtorEq, yA, yB, uA, uB, uC, uD, uE, uF]) (by simp) ?_
          refine DV.exec 400 ?_
          simp +contextual (maxSteps := 1000000) only [go_sem, ↓reduceIte, reduceCtorEq, yA, yB, uA, uB, uC, uD, uE, uF, hw]
          (repeat' (first | (intro _) | (refine ⟨by kernel_rfl, ?_⟩) | (apply And.intro)))
          exact ⟨l.length - (i + 1), _, [], [], by omega, ⟨i + 1, _, _, by omega, rfl, hf, rfl, rfl⟩, by simp only [go_sem, ↓reduceIte, reduceCtorEq, yA, yB, uA, uB, uC, uD, uE, uF, decide_true]⟩
        · have e : doneOne (u, h) x = (u, h) := by simp [doneOne, h1, h2, h3]
          rw [e] at hf
          simp +contextual (maxSteps := 1000000) only [go_sem, ↓reduceIte, reduceCtorEq, yA, yB, uA, uB, uC, uD, uE, uF, hlt', hx, Note.pv, hw, h1, h2, h3]
          exact ⟨l.length - (i + 1), _, [], [], by omega, ⟨i + 1, _, _, by omega, rfl, hf, rfl, rfl⟩, by simp only [go_sem, ↓reduceIte, reduceCtorEq, yA, yB, uA, uB, uC, uD, uE, uF]⟩
end Go.Proofs.Ytofmiaecjnfeaaa
set_option linter.unusedVariables false
set_option linter.unusedSimpArgs false
set_option maxRecDepth 8000
namespace Go.Proofs.Ytofmiaecjnfeaaa
open Go Go.Proofs Go.Proofs.YtofmiaecjnfeaaaVm Go.Proofs.Ytofmiaecjnfeaaa.Ty

theorem doneV_two (a b : Note) : doneV [] false [a, b] = doneOne (doneOne ([], false) a) b := rfl
/-- The document's: two notes as one. -/
def refBothV (a b : Note) : Note :=
  if b.kind < 1 ∨ 3 < b.kind then { a with key := b.key }
  else if b.kind ≠ 3 ∨ a.kind < 1 ∨ 3 < a.kind then b
  else if a.kind = 3 then ⟨3, b.key, b.value, IntKind.u64.wrap (a.n + b.n)⟩
  else ⟨1, b.key, (doneV [] false [a, b]).1, 0⟩

theorem doneOne_key (st : List UInt8 × Bool) {x : Note} (h : x.kind = 1) : doneOne st x = (x.value, true) := by simp [doneOne, h]
theorem doneOne_del (st : List UInt8 × Bool) {x : Note} (h : x.kind = 2) : doneOne st x = ([], false) := by simp [doneOne, h]
/-- Of right notes both say the same. -/
theorem refBoth_eq {a b : Note} (ha : a.ok) (hb : b.ok) : refBothV a b = bothV a b := by
  obtain ⟨_, _, ka⟩ := ha
  obtain ⟨_, _, kb⟩ := hb
  unfold refBothV bothV
  rcases kb with kb | kb | kb
  · simp [kb.1]
  · simp [kb.1]
  · rcases ka with ka | ka | ka
    · simp [kb.1, ka.1, doneV_two, doneOne_key _ ka.1]
    · simp [kb.1, ka.1, doneV_two, doneOne_del _ ka.1]
    · cases b; cases a
      simp_all [Int.add_comm]
end Go.Proofs.Ytofmiaecjnfeaaa
set_option linter.unusedVariables false
set_option linter.unusedSimpArgs false
set_option maxRecDepth 8000
namespace Go.Proofs.Ytofmiaecjnfeaaa
open Go Go.Proofs Go.Proofs.YtofmiaecjnfeaaaVm Go.Proofs.Ytofmiaecjnfeaaa.Ty

def keyStep (k : List UInt8) (o : Option Note) (x : Note) : Option Note := if k = x.key then some (match o with | some w => bothV w x | none => x) else o
theorem pushV_get : ∀ (ns : List Note) {l : List Note}, gSorted Note.key l → ∀ k, gGet Note.key (pushV l ns) k = ns.foldl (keyStep k) (gGet Note.key l k)
  | [], _, _, _ => rfl
  | x :: r, l, h, k => by
    show gGet Note.key (pushV (pushOne l x) r) k = _
    rw [pushV_get r (pushOne_sorted h x) k, pushOne_get h, List.foldl_cons]
    rfl
theorem waitOk_nil : waitOk [] := trivial
theorem pushR_nil {ns : List Note} (h : allOk ns) : pushR [] ns = (pushV [] ns, 0) := by unfold pushR; rw [if_pos ⟨waitOk_nil, h⟩]
theorem pushR_bad {l ns : List Note} (h : ¬ (waitOk l ∧ allOk ns)) : pushR l ns = (l, 1) := by unfold pushR; rw [if_neg h]
theorem pushR_ok {l ns : List Note} (hl : waitOk l) (h : allOk ns) : pushR l ns = (pushV l ns, 0) := by unfold pushR; rw [if_pos ⟨hl, h⟩]
def nb (w : Note) : Ob := .box true [.val (.int .i64 w.kind), .val (.str w.key), .val (.str w.value), .val (.int .u64 w.n)]

end Go.Proofs.Ytofmiaecjnfeaaa
set_option linter.unusedVariables false
set_option linter.unusedSimpArgs false
set_option maxRecDepth 8000
namespace Go.Proofs.Ytofmiaecjnfeaaa
open Go Go.Proofs Go.Proofs.YtofmiaecjnfeaaaVm Go.Proofs.Ytofmiaecjnfeaaa.Ty

theorem u64_eq (x : Int) : IntKind.u64.wrap x = x % 18446744073709551616 := by simp [IntKind.wrap, IntKind.bits, IntKind.signed]
theorem beN_foldl : ∀ (l : List UInt8) (a : Int), l.foldl (fun n b => n * 256 + (b.toNat : Int)) a = a * 256 ^ l.length + beN l
  | [], a => by simp [beN]
  | b :: l, a => by
    have h1 := beN_foldl l (a * 256 + (b.toNat : Int))
    have h2 := beN_foldl l (b.toNat : Int)
    have h3 : beN (b :: l) = l.foldl (fun n b => n * 256 + (b.toNat : Int)) (b.toNat : Int) := by simp [beN]
    rw [List.foldl_cons, h1, h3, h2, List.length_cons, Int.pow_succ, Int.add_mul, Int.mul_assoc, Int.mul_comm 256, Int.add_assoc]
theorem beN_cons (b : UInt8) (l : List UInt8) : beN (b :: l) = (b.toNat : Int) * 256 ^ l.length + beN l := by
  have := beN_foldl l (b.toNat : Int)
  rw [← this]; simp [beN]
theorem beN_beB : ∀ (k m : Nat), beN (beB (m : Int) k) = ((m % 256 ^ k : Nat) : Int)
  | 0, m => by simp [beB, beN, Nat.mod_one]
  | k + 1, m => by
    rw [beB_succ, beN_cons, beN_beB k m, beB_len]
    have e : ((m : Int) / 256 ^ k % 256) = ((m / 256 ^ k % 256 : Nat) : Int) := by
      rw [Int.natCast_emod, Int.natCast_ediv, Int.natCast_pow]; rfl
    have h : (UInt8.ofNat ((m : Int) / 256 ^ k % 256).toNat).toNat = m / 256 ^ k % 256 := by
      rw [e, Int.toNat_natCast, UInt8.toNat_ofNat']
      exact Nat.mod_eq_of_lt (Nat.mod_lt _ (by decide))
    rw [h, Nat.pow_succ, Nat.mod_mul, Int.natCast_add, Int.natCast_mul, Int.natCast_pow]
    rw [Int.mul_comm, Int.add_comm]; rfl
theorem numV_beB {w : Int} (h0 : 0 ≤ w) (h1 : w < 18446744073709551616) : numV (beB w 8) = w := by
  unfold numV
  rw [if_pos (beB_len _ _)]
  obtain ⟨m, rfl⟩ := Int.eq_ofNat_of_zero_le h0
  rw [beN_beB]
  have : m < 256 ^ 8 := by
    have e : (256 : Nat) ^ 8 = 18446744073709551616 := by decide
    omega
  rw [Nat.mod_eq_of_lt this]
theorem numV_wrap (x : Int) : numV (beB (IntKind.u64.wrap x) 8) = IntKind.u64.wrap x := numV_beB (u64_wrap_nonneg x) (u64_wrap_lt x)

theorem bothV_assoc {a b c : Note} (ha : a.ok) (hb : b.ok) (hc : c.ok) : bothV (bothV a b) c = bothV a (bothV b c) := by
  obtain ⟨_, _, ka⟩ := ha
  obtain ⟨_, _, kb⟩ := hb
  obtain ⟨_, _, kc⟩ := hc
  have d1 : ¬ (3 : Int) = 1 := by decide
  have d2 : ¬ (3 : Int) = 2 := by decide
  have d3 : ¬ (2 : Int) = 1 := by decide
  rcases kc with kc | kc | kc
  · simp [bothV, kc.1]
  · simp [bothV, kc.1]
  · rcases kb with kb | kb | kb
    · simp [bothV, kc.1, kb.1]
    · simp [bothV, kc.1, kb.1]
    · rcases ka with ka | ka | ka
      · simp only [bothV, kc.1, kb.1, ka.1, d1, d2, or_self, or_true, if_true, if_false, doneOne, ↓reduceIte, numV_wrap]
        simp only [u64_eq]
        congr 2
        omega
      · simp only [bothV, kc.1, kb.1, ka.1, d1, d2, d3, or_self, or_true, if_true, if_false, doneOne, ↓reduceIte, numV_wrap]
        simp only [u64_eq]
        congr 2
        omega
      · simp only [bothV, kc.1, kb.1, ka.1, d1, d2, or_self, or_true, if_true, if_false, ↓reduceIte]
        simp only [u64_eq]
        congr 1
        omega
def joinN : Option Note → Option Note → Option Note
  | o, none => o
  | none, some w => some w
  | some v, some w => some (bothV v w)
def okO (o : Option Note) : Prop := ∀ w, o = some w → w.ok
theorem keyStep_ok (k : List UInt8) {o : Option Note} (ho : okO o) {x : Note} (hx : x.ok) : okO (keyStep k o x) := by
  unfold keyStep
  split
  · intro w hw
    cases o with
    | none => cases hw; exact hx
    | some v => cases hw; exact bothV_ok (ho v rfl) hx
  · exact ho
theorem keyStep_join (k : List UInt8) {o p : Option Note} (ho : okO o) (hp : okO p) {x : Note} (hx : x.ok) : keyStep k (joinN o p) x = joinN o (keyStep k p x) := by
  unfold keyStep
  by_cases h : k = x.key
  · rw [if_pos h, if_pos h]
    cases p with
    | none => cases o <;> rfl
    | some w => cases o with
      | none => rfl
      | some v =>
        show some (bothV (bothV v w) x) = some (bothV v (bothV w x))
        rw [bothV_assoc (ho v rfl) (hp w rfl) hx]
  · rw [if_neg h, if_neg h]
theorem fold_join (k : List UInt8) : ∀ (ns : List Note) {o p : Option Note}, okO o → okO p → allOk ns → ns.foldl (keyStep k) (joinN o p) = joinN o (ns.foldl (keyStep k) p)
  | [], _, _, _, _, _ => rfl
  | x :: r, o, p, ho, hp, hn => by
    have hx := hn x List.mem_cons_self
    rw [List.foldl_cons, List.foldl_cons, keyStep_join k ho hp hx]
    exact fold_join k r ho (keyStep_ok k hp hx) fun y hy => hn y (List.mem_cons_of_mem _ hy)
theorem fold_none (k : List UInt8) {ns : List Note} {o : Option Note} (ho : okO o) (hn : allOk ns) : ns.foldl (keyStep k) o = joinN o (ns.foldl (keyStep k) none) := by
  have := fold_join k ns (p := none) ho (fun w h => by cases h) hn
  rw [← this]
  cases o <;> rfl
theorem fold_other (k : List UInt8) : ∀ (ns : List Note) (o : Option Note), (∀ x ∈ ns, ¬ k = x.key) → ns.foldl (keyStep k) o = o
  | [], _, _ => rfl
  | x :: r, o, h => by
    rw [List.foldl_cons]
    have : keyStep k o x = o := by unfold keyStep; rw [if_neg (h x List.mem_cons_self)]
    rw [this]
    exact fold_other k r o fun y hy => h y (List.mem_cons_of_mem _ hy)
/-- Of notes that wait well each key's fold is its note. -/
theorem fold_sorted (k : List UInt8) : ∀ (ns : List Note), gSorted Note.key ns → ns.foldl (keyStep k) none = gGet Note.key ns k
  | [], _ => rfl
  | x :: r, h => by
    cases h with
    | cons h1 h2 =>
      rw [List.foldl_cons]
      unfold gGet
      rw [List.find?_cons]
      by_cases hk : k = x.key
      · have e : keyStep k none x = some x := by unfold keyStep; rw [if_pos hk]
        rw [e, fold_other k r _ (fun y hy e2 => by
          have := h1 y hy
          rw [← hk, ← e2] at this
          exact slt_irrefl _ this)]
        simp [hk]
      · have e : keyStep k none x = none := by unfold keyStep; rw [if_neg hk]
        rw [e, fold_sorted k r h2]
        have hd : decide (x.key = k) = false := decide_eq_false (fun e => hk e.symm)
        rw [hd]; rfl
theorem okO_get {l : List Note} (h : waitOk l) (k : List UInt8) : okO (gGet Note.key l k) := fun w hw => ((waitOk_iff l).1 h).2 w (gGet_mem Note.key hw).1
theorem fold_okO (k : List UInt8) : ∀ (ns : List Note) {o : Option Note}, okO o → allOk ns → okO (ns.foldl (keyStep k) o)
  | [], _, h, _ => h
  | x :: r, _, h, hn => fold_okO k r (keyStep_ok k h (hn x List.mem_cons_self)) fun y hy => hn y (List.mem_cons_of_mem _ hy)
/-- Pushed in parts is pushed at once. -/
theorem push_groups {l ns : List Note} (hl : waitOk l) (hn : allOk ns) : pushV l (pushV [] ns) = pushV l ns := by
  have hs := ((waitOk_iff l).1 hl).1
  have h0 := pushV_sorted ns (l := []) List.Pairwise.nil
  have hk0 := pushV_ok ns waitOk_nil hn
  refine gGet_ext Note.key (pushV_sorted _ hs) (pushV_sorted _ hs) fun k => ?_
  rw [pushV_get _ hs, pushV_get _ hs, fold_none k (okO_get hl k) ((waitOk_iff _).1 hk0).2, fold_none k (okO_get hl k) hn, fold_sorted k _ h0, pushV_get ns List.Pairwise.nil k]
  rfl
theorem pushV_app (l a b : List Note) : pushV l (a ++ b) = pushV (pushV l a) b := List.foldl_append ..
end Go.Proofs.Ytofmiaecjnfeaaa
set_option linter.unusedVariables false
set_option linter.unusedSimpArgs false
set_option maxRecDepth 8000
namespace Go.Proofs.Ytofmiaecjnfeaaa
open Go Go.Proofs Go.Proofs.YtofmiaecjnfeaaaVm Go.Proofs.Ytofmiaecjnfeaaa.Ty

theorem allOk_app {a b : List Note} : allOk (a ++ b) ↔ allOk a ∧ allOk b := by
  unfold allOk
  simp only [List.mem_append]
  exact ⟨fun h => ⟨fun x hx => h x (.inl hx), fun x hx => h x (.inr hx)⟩, fun h x hx => hx.elim (h.1 x) (h.2 x)⟩
theorem pushR_len (l ns : List Note) : (pushR l ns).1.length ≤ l.length + ns.length := by
  unfold pushR
  split
  · rename_i h
    exact pushV_len ns ((waitOk_iff l).1 h.1).1
  · simp
theorem groups_law {a b c : List Note} (h : allOk (a ++ b ++ c)) :
    pushR (pushR [] a).1 (pushR (pushR [] b).1 c).1 = pushR [] (a ++ b ++ c) := by
  have h1 := allOk_app.1 h
  have h2 := allOk_app.1 h1.1
  have ka := pushV_ok a waitOk_nil h2.1
  have kb := pushV_ok b waitOk_nil h2.2
  have kbc := pushV_ok c kb h1.2
  rw [pushR_nil h2.1, pushR_nil h2.2, pushR_ok kb h1.2, pushR_nil h, pushR_ok ka ((waitOk_iff _).1 kbc).2, ← pushV_app [] b c, push_groups ka (allOk_app.2 ⟨h2.2, h1.2⟩), ← pushV_app [] a (b ++ c), List.append_assoc]

end Go.Proofs.Ytofmiaecjnfeaaa
set_option linter.unusedVariables false
set_option linter.unusedSimpArgs false
set_option maxRecDepth 8000
namespace Go.Proofs.Ytofmiaecjnfeaaa
open Nat renaming reduceAdd → uA, reduceLT → uB, reduceEqDiff → uC, reduceLeDiff → uD, reduceSub → uE, reduceMul → uF
open Bool renaming false_eq_true → yA, true_eq_false → yB
open Go Go.Proofs Go.Proofs.YtofmiaecjnfeaaaVm Go.Proofs.Ytofmiaecjnfeaaa.Ty

/-- Rising strings: from a place on. -/
theorem risesFrom_iff : ∀ (l : List (List UInt8)) (last : Option (List UInt8)), risesFrom last l ↔ (∀ k, last = some k → ∀ s ∈ l, slt k s) ∧ l.Pairwise slt
  | [], last => by simp [risesFrom]
  | s :: r, last => by
    rw [risesFrom, risesFrom_iff r, List.pairwise_cons]
    constructor
    · rintro ⟨h1, h2, h3⟩
      refine ⟨fun k hk x hx => ?_, fun x hx => h2 _ rfl x hx, h3⟩
      rcases List.mem_cons.1 hx with rfl | hx
      · exact h1 k hk
      · exact slt_trans (h1 k hk) (h2 _ rfl x hx)
    · rintro ⟨h1, h2, h3⟩
      exact ⟨fun k hk => h1 k hk s List.mem_cons_self, fun k hk x hx => by cases hk; exact h2 x hx, h3⟩
theorem risesOk_iff (l : List (List UInt8)) : risesOk l ↔ l.Pairwise slt := by
  unfold risesOk; rw [risesFrom_iff]; simp
/-- A list rises when each is less than the next. -/
theorem pair_next {α : Type} {key : α → List UInt8} : ∀ (l : List α), (∀ i x y, l[i]? = some x → l[i + 1]? = some y → slt (key x) (key y)) → gSorted key l
  | [], _ => List.Pairwise.nil
  | [_], _ => List.pairwise_singleton _ _
  | a :: b :: r, h => by
    have ih := pair_next (key := key) (b :: r) fun i x y hx hy => h (i + 1) x y (by simpa using hx) (by simpa using hy)
    have hab := h 0 a b rfl rfl
    refine List.pairwise_cons.2 ⟨fun z hz => ?_, ih⟩
    rcases List.mem_cons.1 hz with rfl | hz
    · exact hab
    · exact slt_trans hab ((List.pairwise_cons.1 ih).1 z hz)
theorem next_pair {α : Type} {key : α → List UInt8} {l : List α} (h : gSorted key l) {i : Nat} {x y : α} (hx : l[i]? = some x) (hy : l[i + 1]? = some y) : slt (key x) (key y) := by
  obtain ⟨h1, e1⟩ := List.getElem?_eq_some_iff.1 hx
  obtain ⟨h2, e2⟩ := List.getElem?_eq_some_iff.1 hy
  have := List.pairwise_iff_getElem.1 h i (i + 1) h1 h2 (by omega)
  rw [e1, e2] at this; exact this

set_option maxRecDepth 4000 in
set_option maxHeartbeats 8000000 in
theorem ref11_Right (l : List Note) (hl : l.length ≤ 1000000) : Ct Try.prog 49 (YtofmiaecjnfeaaaVm.ops [.row (l.map Note.pv)]) (.vals [.bool (decide (waitOk l))]) := by
  have h01 : ((0 : Nat) : Int) + 1 = 1 := rfl
  refine Ct.of_V Try.func49 rfl (by simp [YtofmiaecjnfeaaaVm.ops, Try.f49]) ?_
  refine V.exec 400 ?_
  simp +contextual (maxSteps := 1000000) only [go_sem, ↓reduceIte, reduceCtorEq, yA, yB, uA, uB, uC, uD, uE, uF, Try.f49]
  refine V.call rfl rfl (by simp [dOK]) ⟨19, [], by simp only [go_sem, ↓reduceIte, reduceCtorEq, yA, yB, uA, uB, uC, uD, uE, uF], ⟨_, rfl, rfl, rfl⟩, .inl ⟨[.row (l.map Note.pv)], _, .inl (by simp only [go_sem, ↓reduceIte, reduceCtorEq, yA, yB, uA, uB, uC, uD, uE, uF]), ref09_All l (by omega), .inl ⟨_, rfl, rfl, rfl, rfl⟩⟩⟩ ?_
  refine V.exec 400 ?_
  simp +contextual (maxSteps := 1000000) only [go_sem, ↓reduceIte, reduceCtorEq, yA, yB, uA, uB, uC, uD, uE, uF]
  refine V.loop (fun m ls os => ∃ (i : Nat), (i ≤ l.length ∨ i = 0) ∧ m = l.length - i ∧ (∀ j, j < i → ∀ x y, l[j]? = some x → l[j + 1]? = some y → slt x.key y.key) ∧
        ls = [(0, .val (.row (l.map Note.pv))), (3, .val (.bool (decide (notesOk' l)))), (4, .val (.int .i64 (i + 1 : Nat)))] ∧ os = []) 0 l.length
      [(0, .val (.row (l.map Note.pv))), (3, .val (.bool (decide (notesOk' l)))), (4, .val (.int .i64 1))] [] []
      ⟨0, .inr rfl, rfl, fun j hj => absurd hj (by omega), rfl, rfl⟩ (by simp only [go_sem, ↓reduceIte, reduceCtorEq, yA, yB, uA, uB, uC, uD, uE, uF]) ?_
  rintro m ls os ⟨i, hi, rfl, hall, rfl, rfl⟩
  refine V.exec 400 ?_
  by_cases hlt : i + 1 < l.length
  · have hlt' : ((i + 1 : Nat) : Int) < (l.length : Int) := by omega
    obtain ⟨x, hx⟩ : ∃ x, l[i]? = some x := ⟨_, List.getElem?_eq_getElem (by omega)⟩
    obtain ⟨y, hy⟩ : ∃ x, l[i + 1]? = some x := ⟨_, List.getElem?_eq_getElem hlt⟩
    have hw : IntKind.i64.wrap (((i + 1 : Nat) : Int) + 1) = ((i + 1 + 1 : Nat) : Int) := by rw [wrap_small3] <;> omega
    have hw2 : IntKind.i64.wrap (((i + 1 : Nat) : Int) - 1) = (i : Int) := by rw [wrap_small3] <;> omega
    by_cases hs : slt x.key y.key
    · simp +contextual (maxSteps := 1000000) only [go_sem, ↓reduceIte, reduceCtorEq, yA, yB, uA, uB, uC, uD, uE, uF, hlt', hx, hy, Note.pv, hw, hw2, hs]
      refine ⟨by kernel_rfl, l.length - (i + 1), _, [], [], by omega, ⟨i + 1, .inl (by omega), rfl, fun j hj x' y' h1 h2 => ?_, rfl, rfl⟩, by simp only [go_sem, ↓reduceIte, reduceCtorEq, yA, yB, uA, uB, uC, uD, uE, uF]⟩
      rcases Nat.lt_or_ge j i with hji | hji
      · exact hall j hji x' y' h1 h2
      · obtain rfl : j = i := by omega
        rw [hx] at h1; rw [hy] at h2
        cases h1; cases h2
        exact hs
    · have hn : ¬ waitOk l := fun h => hs (next_pair ((waitOk_iff l).1 h).1 hx hy)
      simp +contextual (maxSteps := 1000000) only [go_sem, ↓reduceIte, reduceCtorEq, yA, yB, uA, uB, uC, uD, uE, uF, hlt', hx, hy, Note.pv, hw, hw2, hs, hn]
      kernel_rfl
  · have hlt' : ¬ ((i + 1 : Nat) : Int) < (l.length : Int) := by omega
    have hs : gSorted Note.key l := pair_next l fun j x y hx hy => hall j (by have := (List.getElem?_eq_some_iff.1 hy).1; omega) x y hx hy
    have he : waitOk l ↔ notesOk' l := by rw [waitOk_iff]; exact ⟨fun h => h.2, fun h => ⟨hs, h⟩⟩
    simp +contextual (maxSteps := 1000000) only [go_sem, ↓reduceIte, reduceCtorEq, yA, yB, uA, uB, uC, uD, uE, uF, hlt']
    simp [he]

/-- Where a key belongs. -/
def partGo (k : List UInt8) (lows : List (List UInt8)) : Nat → Nat
  | 0 => 0
  | i + 1 => match lows[i]? with
    | some s => if slt k s then partGo k lows i else i
    | none => partGo k lows i
def partV (k : List UInt8) (lows : List (List UInt8)) : Nat := partGo k lows lows.length

end Go.Proofs.Ytofmiaecjnfeaaa
set_option linter.unusedVariables false
set_option linter.unusedSimpArgs false
set_option maxRecDepth 8000
namespace Go.Proofs.Ytofmiaecjnfeaaa
open Go Go.Proofs Go.Proofs.YtofmiaecjnfeaaaVm Go.Proofs.Ytofmiaecjnfeaaa.Ty

theorem stepO_both (o : Option (List UInt8)) {a b : Note} (ha : a.ok) (hb : b.ok) : stepO (stepO o a) b = stepO o (bothV a b) := by
  obtain ⟨_, _, ka⟩ := ha
  obtain ⟨_, _, kb⟩ := hb
  have d1 : ¬ (3 : Int) = 1 := by decide
  have d2 : ¬ (3 : Int) = 2 := by decide
  have d3 : ¬ (2 : Int) = 1 := by decide
  rcases kb with kb | kb | kb
  · have e : bothV a b = b := by simp [bothV, kb.1]
    rw [e, stepO_put _ kb.1, stepO_put _ kb.1]
  · have e : bothV a b = b := by simp [bothV, kb.1]
    rw [e, stepO_del _ kb.1, stepO_del _ kb.1]
  · rcases ka with ka | ka | ka
    · have e : bothV a b = ⟨1, b.key, (doneOne (a.value, true) b).1, 0⟩ := by simp [bothV, kb.1, ka.1]
      have e2 : stepO o ⟨1, b.key, (doneOne (a.value, true) b).1, 0⟩ = some (doneOne (a.value, true) b).1 := stepO_put o rfl
      rw [e, e2, stepO_put _ ka.1]
      simp [stepO, doneOne, kb.1]
    · have e : bothV a b = ⟨1, b.key, (doneOne ([], false) b).1, 0⟩ := by simp [bothV, kb.1, ka.1]
      have e2 : stepO o ⟨1, b.key, (doneOne ([], false) b).1, 0⟩ = some (doneOne ([], false) b).1 := stepO_put o rfl
      rw [e, e2, stepO_del _ ka.1]
      simp [stepO, doneOne, kb.1]
    · have e : bothV a b = { b with n := IntKind.u64.wrap (b.n + a.n) } := by simp [bothV, kb.1, ka.1]
      rw [e]
      have hw : ∀ u : Int, IntKind.u64.wrap (IntKind.u64.wrap (u + a.n) + b.n) = IntKind.u64.wrap (u + IntKind.u64.wrap (b.n + a.n)) := fun u => by
        simp only [u64_eq]; omega
      cases o with
      | none => simp [stepO, doneOne, kb.1, ka.1, numV_wrap, hw]
      | some v => simp [stepO, doneOne, kb.1, ka.1, numV_wrap, hw]
def actO (o : Option (List UInt8)) : Option Note → Option (List UInt8)
  | none => o
  | some w => stepO o w
def valF (k : List UInt8) (o : Option (List UInt8)) (x : Note) : Option (List UInt8) := if k = x.key then stepO o x else o
theorem valF_act (k : List UInt8) (o : Option (List UInt8)) {p : Option Note} (hp : okO p) {x : Note} (hx : x.ok) : valF k (actO o p) x = actO o (keyStep k p x) := by
  unfold valF keyStep
  by_cases h : k = x.key
  · rw [if_pos h, if_pos h]
    cases p with
    | none => rfl
    | some w => exact stepO_both o (hp w rfl) hx
  · rw [if_neg h, if_neg h]
theorem fold_act (k : List UInt8) (o : Option (List UInt8)) : ∀ (ns : List Note) {p : Option Note}, okO p → allOk ns → ns.foldl (valF k) (actO o p) = actO o (ns.foldl (keyStep k) p)
  | [], _, _, _ => rfl
  | x :: r, p, hp, hn => by
    have hx := hn x List.mem_cons_self
    rw [List.foldl_cons, List.foldl_cons, valF_act k o hp hx]
    exact fold_act k o r (keyStep_ok k hp hx) fun y hy => hn y (List.mem_cons_of_mem _ hy)
theorem app_act {l : List Pair} (hs : Sorted l) {ns : List Note} (hn : allOk ns) (k : List UInt8) : val (appV l ns) k = actO (val l k) (ns.foldl (keyStep k) none) := by
  rw [appV_val ns hs k]
  exact fold_act k (val l k) ns (p := none) (fun w h => by cases h) hn
/-- What is pushed does what the notes do. -/
theorem push_does {p : List Pair} (hp : Sorted p) {l more : List Note} (hl : waitOk l) (hm : allOk more) : appV p (pushV l more) = appV p (l ++ more) := by
  have hl' := (waitOk_iff l).1 hl
  have hw := (waitOk_iff _).1 (pushV_ok more hl hm)
  refine val_ext (appV_sorted _ hp) (appV_sorted _ hp) fun k => ?_
  rw [app_act hp hw.2, app_act hp (allOk_app.2 ⟨hl'.2, hm⟩), fold_sorted k _ hw.1, pushV_get more hl'.1 k, List.foldl_append, fold_sorted k l hl'.1]
/-- Parts do what the whole does, in any order. -/
theorem parts_does {p : List Pair} (hp : Sorted p) {a : List Note} (ha : gSorted Note.key a) {S : List (List Note)} (hS : S.flatten = a) : appV p S.reverse.flatten = appV p a := by
  refine val_ext (appV_sorted _ hp) (appV_sorted _ hp) fun k => ?_
  rw [appV_val _ hp, appV_val _ hp, ← hS]
  have hperm : S.reverse.flatten.Perm S.flatten := List.Perm.flatten (List.reverse_perm S)
  refine hperm.foldl_eq' (fun x hx y hy z => ?_) _
  have hx' : x ∈ a := hS ▸ hperm.mem_iff.1 hx
  have hy' : y ∈ a := hS ▸ hperm.mem_iff.1 hy
  by_cases h1 : k = x.key
  · by_cases h2 : k = y.key
    · have e1 := gGet_of_mem Note.key ha hx'
      have e2 := gGet_of_mem Note.key ha hy'
      rw [← h1] at e1
      rw [← h2, e1] at e2
      cases e2; rfl
    · have e1 : ∀ z, valF k z x = stepO z x := fun z => if_pos h1
      have e2 : ∀ z, valF k z y = z := fun z => if_neg h2
      show valF k (valF k z x) y = valF k (valF k z y) x
      rw [e2, e2]
  · simp [h1]
end Go.Proofs.Ytofmiaecjnfeaaa
set_option linter.unusedVariables false
set_option linter.unusedSimpArgs false
set_option maxRecDepth 8000
namespace Go.Proofs.Ytofmiaecjnfeaaa
open Go Go.Proofs Go.Proofs.YtofmiaecjnfeaaaVm Go.Proofs.Ytofmiaecjnfeaaa.Ty

/-- A node. -/
inductive Nd where
  | mk (low : List UInt8) (kids : List Nd) (wait : List Note) (pairs : List Pair)
def Nd.low : Nd → List UInt8 | .mk l _ _ _ => l
def Nd.kids : Nd → List Nd | .mk _ k _ _ => k
def Nd.wait : Nd → List Note | .mk _ _ w _ => w
def Nd.pairs : Nd → List Pair | .mk _ _ _ p => p
mutual
def Nd.pv : Nd → PV
  | .mk l ks w p => .ptr (.agg [.str l, .row (Nd.pvs ks), .row (w.map Note.pv), .row (p.map Pair.pv)])
def Nd.pvs : List Nd → List PV
  | [] => []
  | k :: ks => k.pv :: Nd.pvs ks
end
theorem Nd.pvs_eq : ∀ ks : List Nd, Nd.pvs ks = ks.map Nd.pv
  | [] => rfl
  | k :: ks => by rw [Nd.pvs, Nd.pvs_eq ks]; rfl
theorem Nd.pv_eq (n : Nd) : n.pv = .ptr (.agg [.str n.low, .row (n.kids.map Nd.pv), .row (n.wait.map Note.pv), .row (n.pairs.map Pair.pv)]) := by
  cases n with
  | mk l ks w p => rw [Nd.pv, Nd.pvs_eq]; rfl
mutual
def Nd.all : Nd → List Pair
  | .mk _ ks w p => (applyV (p ++ Nd.alls ks) w).1
def Nd.alls : List Nd → List Pair
  | [] => []
  | k :: ks => k.all ++ Nd.alls ks
end
mutual
def Nd.mass : Nd → Nat
  | .mk _ ks w _ => w.length + (if ks.isEmpty then 1 else 0) + Nd.masss ks
def Nd.masss : List Nd → Nat
  | [] => 0
  | k :: ks => k.mass + Nd.masss ks
end
theorem alls_app : ∀ (a b : List Nd), Nd.alls (a ++ b) = Nd.alls a ++ Nd.alls b
  | [], b => rfl
  | k :: a, b => by rw [List.cons_append, Nd.alls, alls_app a b, Nd.alls, List.append_assoc]
theorem masss_app : ∀ (a b : List Nd), Nd.masss (a ++ b) = Nd.masss a + Nd.masss b
  | [], b => by simp [Nd.masss]
  | k :: a, b => by rw [List.cons_append, Nd.masss, masss_app a b, Nd.masss]; omega
mutual
theorem mass_pos : ∀ n : Nd, 0 < n.mass
  | .mk lo ks w p => by
    rw [Nd.mass]
    have := masss_len ks
    cases ks with
    | nil => simp; omega
    | cons k ks => simp at this ⊢; omega
theorem masss_len : ∀ ks : List Nd, ks.length ≤ Nd.masss ks
  | [] => Nat.le_refl _
  | k :: ks => by
    have h1 := mass_pos k
    have h2 := masss_len ks
    rw [Nd.masss, List.length_cons]; omega
end

/-! ### The code's functions, plain -/
def gparts {α : Type} : Nat → List α → List (List α)
  | 0, _ => []
  | p + 1, l => l.take ((l.length + p) / (p + 1)) :: gparts p (l.drop ((l.length + p) / (p + 1)))
def headLow : List Nd → List UInt8
  | [] => []
  | k :: _ => k.low
def setLow (lo : List UInt8) : Nd → Nd
  | .mk _ ks w p => .mk lo ks w p
def mkParts : List (List UInt8) → List (List Nd) → List (List Note) → List Nd
  | lo :: los, g :: gs, ws => .mk lo g (ws.headD []) [] :: mkParts los gs ws.tail
  | _, _, _ => []
def partLows (lo : List UInt8) : List (List Nd) → List (List UInt8)
  | [] => []
  | _ :: r => lo :: r.map headLow
def groups (ks : List Nd) : List (List Nd) := gparts ((ks.length + 3) / 4) ks
def partsN (lo : List UInt8) (ks : List Nd) (w : List Note) : List Nd :=
  mkParts (partLows lo (groups ks)) (groups ks) (splitR w (partLows lo (groups ks)))
def fixMore (more ks : List Nd) (i : Nat) : List Nd × List Nd :=
  match more with
  | _ :: _ => (more, ks)
  | [] => if ks.length = 1 then ([.mk (headLow ks) [] [] []], ks) else if i = 0 then ([], match ks with | a :: b :: r => a :: setLow a.low b :: r | l => l) else ([], ks)
def spliceN (more ks : List Nd) (i : Nat) : List Nd := (fixMore more ks i).2.take i ++ (fixMore more ks i).1 ++ (fixMore more ks i).2.drop (i + 1)
def flushN (putf : Nd → List Note → List Nd) (ks : List Nd) (w : List Note) : List Nd × List Note :=
  (spliceN (putf (ks.getD (mostV w (ks.map Nd.low)) (.mk [] [] [] [])) ((splitR w (ks.map Nd.low)).getD (mostV w (ks.map Nd.low)) [])) ks (mostV w (ks.map Nd.low)),
    ((splitR w (ks.map Nd.low)).set (mostV w (ks.map Nd.low)) []).flatten)
def drainN (putf : Nd → List Note → List Nd) : Nat → List Nd → List Note → List Nd × List Note
  | 0, ks, w => (ks, w)
  | f + 1, ks, w => if 6 < w.length then drainN putf f (flushN putf ks w).1 (flushN putf ks w).2 else (ks, w)
def headKey : List Pair → List UInt8
  | [] => []
  | p :: _ => p.key
def leafOf (q : List Pair) : Nd := .mk (headKey q) [] [] q
def leavesN (lo : List UInt8) (l : List Pair) : List Nd :=
  match shareV l 4 with
  | [] => []
  | p :: r => .mk lo [] [] p :: r.map leafOf
def putN : Nat → Nd → List Note → List Nd
  | 0, n, ns => leavesN n.low (applyV n.pairs ns).1
  | h + 1, n, ns => if n.kids.isEmpty = true then leavesN n.low (applyV n.pairs ns).1 else
      partsN n.low (drainN (putN h) (pushR n.wait ns).1.length n.kids (pushR n.wait ns).1).1 (drainN (putN h) (pushR n.wait ns).1.length n.kids (pushR n.wait ns).1).2

/-! ### Where keys lie -/
def In (lo : List UInt8) (hi : Option (List UInt8)) (k : List UInt8) : Prop := ¬ slt k lo ∧ ∀ b, hi = some b → slt k b
theorem lt_ge {x y b : List UInt8} (h : slt x b) (g : ¬ slt y b) : slt x y := by
  rcases slt_total y b with h1 | h1 | h1
  · exact absurd h1 g
  · rw [h1]; exact h
  · exact slt_trans h h1
theorem ge_lt {x y z : List UInt8} (e : slt x z) (h : ¬ slt x y) : slt y z := by
  rcases slt_total x y with h1 | h1 | h1
  · exact absurd h1 h
  · rw [← h1]; exact e
  · exact slt_trans h1 e
theorem ge_trans {x y z : List UInt8} (h : ¬ slt x y) (g : ¬ slt y z) : ¬ slt x z := fun e => g (ge_lt e h)
theorem ge_of_lt {x y : List UInt8} (h : slt x y) : ¬ slt y x := slt_asymm h

def nextLow : List Nd → Option (List UInt8) → Option (List UInt8)
  | [], hi => hi
  | k :: _, _ => some k.low
def Seg (R : Option (List UInt8) → Nd → Prop) : List Nd → Option (List UInt8) → Prop
  | [], _ => True
  | k :: ks, hi => R (nextLow ks hi) k ∧ Seg R ks hi
theorem nextLow_app (a b : List Nd) (hi : Option (List UInt8)) : nextLow (a ++ b) hi = nextLow a (nextLow b hi) := by cases a <;> rfl
theorem seg_app {R : Option (List UInt8) → Nd → Prop} : ∀ (a b : List Nd) (hi : Option (List UInt8)), Seg R (a ++ b) hi ↔ Seg R a (nextLow b hi) ∧ Seg R b hi
  | [], b, hi => by simp [Seg]
  | k :: a, b, hi => by simp only [List.cons_append, Seg, seg_app a b hi, nextLow_app, and_assoc]

def Full (h : Nat) (ks : List Nd) : Prop := h = 0 → 1 < ks.length → ∀ k ∈ ks, k.pairs ≠ []
def Gap (lo : List UInt8) (hi : Option (List UInt8)) : Prop := ∀ b, hi = some b → slt lo b
def WF : Nat → Option (List UInt8) → Nd → Prop
  | 0, hi, n => n.kids = [] ∧ n.wait = [] ∧ n.pairs.length ≤ 4 ∧ pairsOk n.pairs ∧ (∀ x ∈ n.pairs, In n.low hi x.key) ∧ Gap n.low hi
  | h + 1, hi, n => n.pairs = [] ∧ n.wait.length ≤ 6 ∧ waitOk n.wait ∧ (∀ x ∈ n.wait, In n.low hi x.key) ∧ n.kids.length ≤ 4 ∧ nextLow n.kids none = some n.low ∧ Seg (WF h) n.kids hi ∧ Full h n.kids ∧ Gap n.low hi
theorem WF.gap {h : Nat} {hi : Option (List UInt8)} {n : Nd} (w : WF h hi n) : Gap n.low hi := by
  cases h with
  | zero => exact w.2.2.2.2.2
  | succ h => exact w.2.2.2.2.2.2.2.2
/-- Who follows begins above. -/
theorem seg_gap {h : Nat} : ∀ (ks : List Nd) (hi : Option (List UInt8)), Seg (WF h) ks hi → ∀ k ∈ ks, Gap k.low hi
  | k :: ks, hi, hs, x, hx => by
    have h1 := hs.1.gap
    rcases List.mem_cons.1 hx with rfl | hx
    · cases ks with
      | nil => exact h1
      | cons y ys =>
        intro b hb
        exact slt_trans (h1 _ rfl) (seg_gap (y :: ys) hi hs.2 y List.mem_cons_self b hb)
    · exact seg_gap ks hi hs.2 x hx
theorem seg_above {h : Nat} : ∀ (ks : List Nd) (hi : Option (List UInt8)) (k : Nd), Seg (WF h) (k :: ks) hi → ∀ x ∈ ks, slt k.low x.low
  | y :: ys, hi, k, hs, x, hx => by
    have h1 : slt k.low y.low := hs.1.gap _ rfl
    rcases List.mem_cons.1 hx with rfl | hx
    · exact h1
    · exact slt_trans h1 (seg_above ys hi y hs.2 x hx)
theorem seg_rises {h : Nat} : ∀ (ks : List Nd) (hi : Option (List UInt8)), Seg (WF h) ks hi → (ks.map Nd.low).Pairwise slt
  | [], _, _ => .nil
  | k :: ks, hi, hs => .cons (fun s hs' => by
      obtain ⟨x, hx, rfl⟩ := List.mem_map.1 hs'
      exact seg_above ks hi k hs x hx) (seg_rises ks hi hs.2)

/-! ### Notes on pairs in two parts -/
theorem val_app_l {A B : List Pair} {k : List UInt8} (hB : ∀ p ∈ B, slt k p.key) : val (A ++ B) k = val A k := by
  have h2 : B.find? (fun p => decide (p.key = k)) = none := List.find?_eq_none.2 fun p hp => by
    have := hB p hp
    intro e
    rw [decide_eq_true_eq] at e
    rw [e] at this
    exact slt_irrefl k this
  unfold val getL
  rw [List.find?_append, h2, Option.or_none]
theorem val_app_r {A B : List Pair} {k : List UInt8} (hA : ∀ p ∈ A, slt p.key k) : val (A ++ B) k = val B k := by
  have h2 : A.find? (fun p => decide (p.key = k)) = none := List.find?_eq_none.2 fun p hp => by
    have := hA p hp
    intro e
    rw [decide_eq_true_eq] at e
    rw [e] at this
    exact slt_irrefl k this
  unfold val getL
  rw [List.find?_append, h2, Option.none_or]
theorem filter_none {α : Type} {p : α → Bool} {l : List α} (h : ∀ x ∈ l, p x = false) : l.filter p = [] := List.filter_eq_nil_iff.2 fun x hx => by rw [h x hx]; simp
theorem filter_all {α : Type} {p : α → Bool} {l : List α} (h : ∀ x ∈ l, p x = true) : l.filter p = l := List.filter_eq_self.2 h
theorem oneV_l {A B : List Pair} {x : Note} (hB : ∀ p ∈ B, slt x.key p.key) : oneV (A ++ B) x = oneV A x ++ B := by
  have h1 : lowP (A ++ B) x.key = lowP A x.key := by
    unfold lowP
    rw [List.filter_append, filter_none (l := B) fun p hp => by simpa using slt_asymm (hB p hp), List.append_nil]
  have h2 : highP (A ++ B) x.key = highP A x.key ++ B := by
    unfold highP
    rw [List.filter_append, filter_all (l := B) fun p hp => by simpa using hB p hp]
  unfold oneV mids
  rw [h1, h2, val_app_l hB]
  simp only [List.append_assoc]
theorem oneV_r {A B : List Pair} {x : Note} (hA : ∀ p ∈ A, slt p.key x.key) : oneV (A ++ B) x = A ++ oneV B x := by
  have h1 : lowP (A ++ B) x.key = A ++ lowP B x.key := by
    unfold lowP
    rw [List.filter_append, filter_all (l := A) fun p hp => by simpa using hA p hp]
  have h2 : highP (A ++ B) x.key = highP B x.key := by
    unfold highP
    rw [List.filter_append, filter_none (l := A) fun p hp => by simpa using slt_asymm (hA p hp), List.nil_append]
  unfold oneV mids
  rw [h1, h2, val_app_r hA]
  simp only [List.append_assoc]
theorem oneV_key {l : List Pair} {x : Note} {p : Pair} (h : p ∈ oneV l x) : p ∈ l ∨ p.key = x.key := by
  unfold oneV at h
  rcases List.mem_append.1 h with h | h
  · rcases List.mem_append.1 h with h | h
    · exact .inl (List.mem_filter.1 h).1
    · unfold mids at h
      split at h
      · simp at h; rw [h]; exact .inr rfl
      · cases h
  · exact .inl (List.mem_filter.1 h).1
theorem appV_key : ∀ (ns : List Note) {l : List Pair} {p : Pair}, p ∈ appV l ns → p ∈ l ∨ ∃ x ∈ ns, p.key = x.key
  | [], l, p, h => .inl h
  | x :: ns, l, p, h => by
    rcases appV_key ns (l := oneV l x) h with h | ⟨y, hy, e⟩
    · rcases oneV_key h with h | h
      · exact .inl h
      · exact .inr ⟨x, List.mem_cons_self, h⟩
    · exact .inr ⟨y, List.mem_cons_of_mem _ hy, e⟩
theorem appV_l : ∀ (ns : List Note) {A B : List Pair}, (∀ x ∈ ns, ∀ p ∈ B, slt x.key p.key) → appV (A ++ B) ns = appV A ns ++ B
  | [], A, B, _ => rfl
  | x :: ns, A, B, h => by
    show appV (oneV (A ++ B) x) ns = appV (oneV A x) ns ++ B
    rw [oneV_l (h x List.mem_cons_self)]
    exact appV_l ns fun y hy => h y (List.mem_cons_of_mem _ hy)
theorem appV_r : ∀ (ns : List Note) {A B : List Pair}, (∀ x ∈ ns, ∀ p ∈ A, slt p.key x.key) → appV (A ++ B) ns = A ++ appV B ns
  | [], A, B, _ => rfl
  | x :: ns, A, B, h => by
    show appV (oneV (A ++ B) x) ns = A ++ appV (oneV B x) ns
    rw [oneV_r (h x List.mem_cons_self)]
    exact appV_r ns fun y hy => h y (List.mem_cons_of_mem _ hy)
/-- Pairs and notes that a key parts. -/
theorem appV_cut {A B : List Pair} {wa wb : List Note} {b : List UInt8} (h1 : ∀ p ∈ A, slt p.key b) (h2 : ∀ x ∈ wa, slt x.key b) (h3 : ∀ p ∈ B, ¬ slt p.key b) (h4 : ∀ x ∈ wb, ¬ slt x.key b) :
    appV (A ++ B) (wa ++ wb) = appV A wa ++ appV B wb := by
  rw [appV_app, appV_l wa fun x hx p hp => lt_ge (h2 x hx) (h3 p hp), appV_r wb fun x hx p hp => ?_]
  rcases appV_key wa hp with hp | ⟨y, hy, e⟩
  · exact lt_ge (h1 p hp) (h4 x hx)
  · rw [e]; exact lt_ge (h2 y hy) (h4 x hx)

/-! ### The pairs of a node -/
theorem pairsOk_app {A B : List Pair} (hA : pairsOk A) (hB : pairsOk B) (h : ∀ p ∈ A, ∀ q ∈ B, slt p.key q.key) : pairsOk (A ++ B) := by
  rw [pairsOk_iff] at *
  exact ⟨List.pairwise_append.2 ⟨hA.1, hB.1, h⟩, fun p hp => (List.mem_append.1 hp).elim (hA.2 p) (hB.2 p)⟩
theorem pairsOk_nil : pairsOk [] := (pairsOk_iff []).2 ⟨.nil, fun p hp => by cases hp⟩
def AllIn (n : Nd) (hi : Option (List UInt8)) : Prop := pairsOk n.all ∧ ∀ x ∈ n.all, In n.low hi x.key
theorem seg_all' {h : Nat} (ih : ∀ hi n, WF h hi n → AllIn n hi) : ∀ (ks : List Nd) (hi : Option (List UInt8)), Seg (WF h) ks hi → pairsOk (Nd.alls ks) ∧ ∀ x ∈ Nd.alls ks, In (headLow ks) hi x.key
  | [], hi, _ => ⟨pairsOk_nil, fun x hx => by cases hx⟩
  | k :: ks, hi, hs => by
    obtain ⟨a1, a2⟩ := ih _ k hs.1
    obtain ⟨b1, b2⟩ := seg_all' ih ks hi hs.2
    have hg := seg_gap (k :: ks) hi hs
    refine ⟨pairsOk_app a1 b1 fun p hp q hq => ?_, fun x hx => ?_⟩
    · cases ks with
      | nil => cases hq
      | cons y ys => exact lt_ge ((a2 p hp).2 y.low rfl) (b2 q hq).1
    · rw [Nd.alls] at hx
      rcases List.mem_append.1 hx with h1 | h1
      · refine ⟨(a2 x h1).1, fun b hb => ?_⟩
        cases ks with
        | nil => exact (a2 x h1).2 b hb
        | cons y ys => exact slt_trans ((a2 x h1).2 _ rfl) (hg y (List.mem_cons_of_mem _ List.mem_cons_self) b hb)
      · refine ⟨?_, (b2 x h1).2⟩
        cases ks with
        | nil => cases h1
        | cons y ys => exact ge_trans (b2 x h1).1 (ge_of_lt (hs.1.gap y.low rfl))
theorem Nd.all_eq (n : Nd) : n.all = (applyV (n.pairs ++ Nd.alls n.kids) n.wait).1 := by
  cases n; rw [Nd.all]; rfl
theorem WF.all : ∀ (h : Nat) (hi : Option (List UInt8)) (n : Nd), WF h hi n → AllIn n hi
  | 0, hi, n, w => by
    obtain ⟨h1, h2, h3, h4, h5, h6⟩ := w
    have e : n.all = n.pairs := by
      rw [Nd.all_eq, h1, h2, Nd.alls, List.append_nil, applyV_ok h4 (fun x hx => by cases hx)]; rfl
    unfold AllIn
    rw [e]
    exact ⟨h4, h5⟩
  | h + 1, hi, n, w => by
    obtain ⟨h1, h2, h3, h4, h5, h6, h7, h8, h9⟩ := w
    obtain ⟨a1, a2⟩ := seg_all' (WF.all h) n.kids hi h7
    have hw := (waitOk_iff _).1 h3
    have e : n.all = appV (Nd.alls n.kids) n.wait := by rw [Nd.all_eq, h1, List.nil_append, applyV_ok a1 hw.2]
    have hl : headLow n.kids = n.low := by
      cases hk : n.kids with
      | nil => rw [hk] at h6; cases h6
      | cons k ks => rw [hk] at h6; exact Option.some.inj h6
    unfold AllIn
    rw [e]
    refine ⟨appV_ok _ a1 hw.2, fun x hx => ?_⟩
    rcases appV_key _ hx with hx | ⟨y, hy, ey⟩
    · have := a2 x hx; rw [hl] at this; exact this
    · rw [ey]; exact h4 y hy
theorem seg_all {h : Nat} (ks : List Nd) (hi : Option (List UInt8)) (hs : Seg (WF h) ks hi) : pairsOk (Nd.alls ks) ∧ ∀ x ∈ Nd.alls ks, In (headLow ks) hi x.key := seg_all' (WF.all h) ks hi hs
theorem WF.all_leaf {hi : Option (List UInt8)} {n : Nd} (w : WF 0 hi n) : n.all = n.pairs := by
  obtain ⟨h1, h2, h3, h4, h5, h6⟩ := w
  rw [Nd.all_eq, h1, h2, Nd.alls, List.append_nil, applyV_ok h4 (fun x hx => by cases hx)]; rfl
theorem WF.all_node {h : Nat} {hi : Option (List UInt8)} {n : Nd} (w : WF (h + 1) hi n) : n.all = appV (Nd.alls n.kids) n.wait := by
  obtain ⟨h1, h2, h3, h4, h5, h6, h7, h8, h9⟩ := w
  rw [Nd.all_eq, h1, List.nil_append, applyV_ok (seg_all n.kids hi h7).1 ((waitOk_iff _).1 h3).2]
end Go.Proofs.Ytofmiaecjnfeaaa
set_option linter.unusedVariables false
set_option linter.unusedSimpArgs false
set_option maxRecDepth 8000
namespace Go.Proofs.Ytofmiaecjnfeaaa
open Go Go.Proofs Go.Proofs.YtofmiaecjnfeaaaVm Go.Proofs.Ytofmiaecjnfeaaa.Ty

/-! ### Lists in parts -/
theorem gparts_step {p n : Nat} (hn : 0 < p) : (n + (p - 1)) / p * p ≤ n + (p - 1) ∧ n ≤ (n + (p - 1)) / p * p := by
  have h1 := Nat.div_add_mod (n + (p - 1)) p
  have h2 := Nat.mod_lt (n + (p - 1)) hn
  have h3 : p * ((n + (p - 1)) / p) = (n + (p - 1)) / p * p := Nat.mul_comm _ _
  omega
theorem gparts_spec {α : Type} : ∀ (p : Nat) (l : List α), l.length ≤ 4 * p → p ≤ l.length → (gparts p l).flatten = l ∧ (gparts p l).length = p ∧ ∀ g ∈ gparts p l, g ≠ [] ∧ g.length ≤ 4
  | 0, l, h, _ => by
    have : l = [] := List.eq_nil_of_length_eq_zero (by omega)
    subst this
    exact ⟨rfl, rfl, fun g hg => by cases hg⟩
  | p + 1, l, h, h' => by
    obtain ⟨h1, h2⟩ := gparts_step (p := p + 1) (n := l.length) (by omega)
    rw [Nat.add_sub_cancel] at h1 h2
    generalize hk : (l.length + p) / (p + 1) = k at *
    have hk4 : k ≤ 4 := by
      rcases Nat.lt_or_ge 4 k with h5 | h5
      · have := Nat.mul_le_mul_right (p + 1) h5; omega
      · exact h5
    have hk1 : 0 < k := by
      rcases Nat.eq_zero_or_pos k with h5 | h5
      · subst h5; omega
      · exact h5
    have e : k * (p + 1) = k * p + k := Nat.mul_succ k p
    have hkp : k * p ≤ 4 * p := Nat.mul_le_mul_right p hk4
    have hpp : p ≤ k * p := Nat.le_mul_of_pos_left p hk1
    have hkl : k ≤ l.length := by
      rcases Nat.lt_or_ge l.length k with h5 | h5
      · rcases Nat.eq_zero_or_pos p with hp | hp
        · subst hp; omega
        · rcases Nat.lt_or_ge 1 k with h6 | h6
          · have : 2 * p ≤ k * p := Nat.mul_le_mul_right p h6
            omega
          · omega
      · exact h5
    have hpl : p ≤ (l.drop k).length := by
      rw [List.length_drop]
      rcases Nat.lt_or_ge 1 k with h6 | h6
      · have h7 : 2 * p ≤ k * p := Nat.mul_le_mul_right p h6
        omega
      · have : k = 1 := by omega
        subst this; omega
    have hlp : (l.drop k).length ≤ 4 * p := by rw [List.length_drop]; omega
    obtain ⟨g1, g2, g3⟩ := gparts_spec p (l.drop k) hlp hpl
    rw [gparts, hk]
    refine ⟨by rw [List.flatten_cons, g1, List.take_append_drop], by rw [List.length_cons, g2], fun g hg => ?_⟩
    rcases List.mem_cons.1 hg with rfl | hg
    · refine ⟨fun e0 => ?_, by rw [List.length_take]; omega⟩
      have := congrArg List.length e0
      rw [List.length_take, List.length_nil] at this
      omega
    · exact g3 g hg
theorem partsV_eq : ∀ (p : Nat) (l : List Pair), partsV p l = gparts p l
  | 0, l => rfl
  | p + 1, l => by rw [partsV, gparts, partsV_eq p]
theorem groups_spec (ks : List Nd) : (groups ks).flatten = ks ∧ (groups ks).length = (ks.length + 3) / 4 ∧ ∀ g ∈ groups ks, g ≠ [] ∧ g.length ≤ 4 := gparts_spec _ ks (by omega) (by omega)
theorem howMany4 (n : Nat) : howMany n 4 = (n + 3) / 4 := by unfold howMany; split <;> omega
theorem share4 (l : List Pair) : shareV l 4 = gparts ((l.length + 3) / 4) l := by
  unfold shareV
  rw [if_neg (by decide), partsV_eq, show (4 : Int).toNat = 4 from rfl, howMany4]
theorem share4_spec (l : List Pair) : (shareV l 4).flatten = l ∧ (shareV l 4).length = (l.length + 3) / 4 ∧ ∀ g ∈ shareV l 4, g ≠ [] ∧ g.length ≤ 4 := by
  rw [share4]; exact gparts_spec _ l (by omega) (by omega)

/-! ### Notes by nodes -/
def SegN : List Nd → List (List Note) → Option (List UInt8) → Prop
  | k :: ks, s :: ss, hi => (∀ x ∈ s, In k.low (nextLow ks hi) x.key) ∧ SegN ks ss hi
  | [], [], _ => True
  | _, _, _ => False
def acts : List Nd → List (List Note) → List Pair
  | k :: ks, s :: ss => appV k.all s ++ acts ks ss
  | _, _ => []
theorem segN_len : ∀ (ks : List Nd) (S : List (List Note)) (hi : Option (List UInt8)), SegN ks S hi → ks.length = S.length
  | [], [], _, _ => rfl
  | k :: ks, s :: ss, hi, h => by rw [List.length_cons, List.length_cons, segN_len ks ss hi h.2]
  | [], _ :: _, _, h => h.elim
  | _ :: _, [], _, h => h.elim
theorem segN_app : ∀ (A B : List Nd) (SA SB : List (List Note)) (hi : Option (List UInt8)), A.length = SA.length → (SegN (A ++ B) (SA ++ SB) hi ↔ SegN A SA (nextLow B hi) ∧ SegN B SB hi)
  | [], B, [], SB, hi, _ => by simp [SegN]
  | k :: A, B, s :: SA, SB, hi, h => by
    have ih := segN_app A B SA SB hi (by simpa using h)
    simp only [List.cons_append, SegN, ih, nextLow_app, and_assoc]
  | [], _, _ :: _, _, _, h => by simp at h
  | _ :: _, _, [], _, _, h => by simp at h
theorem acts_app : ∀ (A B : List Nd) (SA SB : List (List Note)), A.length = SA.length → acts (A ++ B) (SA ++ SB) = acts A SA ++ acts B SB
  | [], B, [], SB, _ => rfl
  | k :: A, B, s :: SA, SB, h => by simp only [List.cons_append, acts, acts_app A B SA SB (by simpa using h), List.append_assoc]
  | [], _, _ :: _, _, h => by simp at h
  | _ :: _, _, [], _, h => by simp at h
theorem acts_none : ∀ ks : List Nd, acts ks (List.replicate ks.length []) = Nd.alls ks
  | [] => rfl
  | k :: ks => by rw [List.length_cons, List.replicate_succ, acts, acts_none ks, Nd.alls]; rfl
theorem segN_none : ∀ (ks : List Nd) (hi : Option (List UInt8)), SegN ks (List.replicate ks.length []) hi
  | [], _ => trivial
  | k :: ks, hi => by rw [List.length_cons, List.replicate_succ]; exact ⟨fun x hx => (by cases hx), segN_none ks hi⟩
theorem flat_none (n : Nat) : (List.replicate n ([] : List Note)).flatten = [] := by simp
theorem segN_low {h : Nat} : ∀ (ks : List Nd) (S : List (List Note)) (hi : Option (List UInt8)), Seg (WF h) ks hi → SegN ks S hi → ∀ x ∈ S.flatten, In (headLow ks) hi x.key
  | [], [], _, _, _, x, hx => by cases hx
  | k :: ks, s :: ss, hi, hs, hn, x, hx => by
    have hg := seg_gap (k :: ks) hi hs
    rw [List.flatten_cons] at hx
    rcases List.mem_append.1 hx with h1 | h1
    · have h2 := hn.1 x h1
      refine ⟨h2.1, fun b hb => ?_⟩
      cases ks with
      | nil => exact h2.2 b hb
      | cons y ys => exact slt_trans (h2.2 _ rfl) (hg y (List.mem_cons_of_mem _ List.mem_cons_self) b hb)
    · have h2 := segN_low ks ss hi hs.2 hn.2 x h1
      refine ⟨?_, h2.2⟩
      cases ks with
      | nil =>
        have := segN_len [] ss hi hn.2
        have : ss = [] := List.eq_nil_of_length_eq_zero this.symm
        subst this; cases h1
      | cons y ys => exact ge_trans h2.1 (ge_of_lt (hs.1.gap y.low rfl))
  | [], _ :: _, _, _, h, _, _ => h.elim
  | _ :: _, [], _, _, h, _, _ => h.elim
theorem appV_acts {h : Nat} : ∀ (ks : List Nd) (S : List (List Note)) (hi : Option (List UInt8)), Seg (WF h) ks hi → SegN ks S hi → appV (Nd.alls ks) S.flatten = acts ks S
  | [], [], _, _, _ => rfl
  | k :: ks, s :: ss, hi, hs, hn => by
    have ih := appV_acts ks ss hi hs.2 hn.2
    rw [Nd.alls, List.flatten_cons, acts, ← ih]
    cases ks with
    | nil =>
      have := segN_len [] ss hi hn.2
      have : ss = [] := List.eq_nil_of_length_eq_zero this.symm
      subst this
      simp [Nd.alls, appV]
    | cons y ys =>
      have ha := WF.all h _ k hs.1
      have hb := seg_all (y :: ys) hi hs.2
      exact appV_cut (b := y.low) (fun p hp => (ha.2 p hp).2 _ rfl) (fun x hx => (hn.1 x hx).2 _ rfl) (fun p hp => (hb.2 p hp).1) (fun x hx => (segN_low (y :: ys) ss hi hs.2 hn.2 x hx).1)
  | [], _ :: _, _, _, h => h.elim
  | _ :: _, [], _, _, h => h.elim
theorem split_parts {h : Nat} : ∀ (ks : List Nd) (hi : Option (List UInt8)) (w : List Note), ks ≠ [] → Seg (WF h) ks hi → gSorted Note.key w → (∀ x ∈ w, In (headLow ks) hi x.key) →
    (splitV w (ks.map Nd.low)).flatten = w ∧ SegN ks (splitV w (ks.map Nd.low)) hi
  | [k], hi, w, _, _, _, hw => by
    show ([w] : List (List Note)).flatten = w ∧ _
    exact ⟨by simp, hw, trivial⟩
  | k :: y :: ks, hi, w, _, hs, hsw, hw => by
    have hle := gBelow_le Note.key y.low w
    have h1 : ∀ x ∈ w.take (gBelow Note.key y.low w), slt x.key y.low := fun x hx => by
      obtain ⟨i, hi', e⟩ := List.mem_take_iff_getElem.1 hx
      exact gBelow_lt Note.key w i x (by omega) (by rw [← e]; exact List.getElem?_eq_getElem (by omega))
    have h2 : ∀ x ∈ w.drop (gBelow Note.key y.low w), ¬ slt x.key y.low := fun x hx => by
      obtain ⟨i, hi', e⟩ := List.mem_iff_getElem.1 hx
      rw [List.getElem_drop] at e
      exact gBelow_ge Note.key w hsw (gBelow Note.key y.low w + i) x (by omega) (by rw [← e]; exact List.getElem?_eq_getElem _)
    have hd := split_parts (y :: ks) hi (w.drop (gBelow Note.key y.low w)) (by simp) hs.2 (List.Pairwise.sublist (List.drop_sublist _ _) hsw) (fun x hx => ⟨h2 x hx, (hw x (List.mem_of_mem_drop hx)).2⟩)
    have e : splitV w ((k :: y :: ks).map Nd.low) = w.take (gBelow Note.key y.low w) :: splitV (w.drop (gBelow Note.key y.low w)) ((y :: ks).map Nd.low) := rfl
    rw [e, List.flatten_cons, hd.1, List.take_append_drop]
    exact ⟨rfl, fun x hx => ⟨(hw x (List.mem_of_mem_take hx)).1, fun b hb => by cases hb; exact h1 x hx⟩, hd.2⟩

/-! ### A flush -/
structure DI (h : Nat) (lo : List UInt8) (hi : Option (List UInt8)) (ks : List Nd) (w : List Note) : Prop where
  seg : Seg (WF h) ks hi
  head : nextLow ks none = some lo
  full : Full h ks
  wok : waitOk w
  win : ∀ x ∈ w, In lo hi x.key
theorem headLow_of {ks : List Nd} {lo : List UInt8} (h : nextLow ks none = some lo) : ks ≠ [] ∧ headLow ks = lo := by
  cases ks with
  | nil => cases h
  | cons k ks => exact ⟨by simp, Option.some.inj h⟩
theorem DI.split {h : Nat} {lo : List UInt8} {hi : Option (List UInt8)} {ks : List Nd} {w : List Note} (d : DI h lo hi ks w) :
    splitR w (ks.map Nd.low) = splitV w (ks.map Nd.low) ∧ (splitV w (ks.map Nd.low)).flatten = w ∧ SegN ks (splitV w (ks.map Nd.low)) hi ∧ (splitV w (ks.map Nd.low)).length = ks.length := by
  obtain ⟨h1, h2⟩ := headLow_of d.head
  have hr : risesOk (ks.map Nd.low) := (risesOk_iff _).2 (seg_rises ks hi d.seg)
  obtain ⟨a, b⟩ := split_parts ks hi w h1 d.seg ((waitOk_iff _).1 d.wok).1 (by rw [h2]; exact d.win)
  refine ⟨?_, a, b, by rw [splitV_len, List.length_map]⟩
  unfold splitR
  rw [if_pos ⟨d.wok, hr, by simpa using h1⟩]
structure PutOK (h : Nat) (hi : Option (List UInt8)) (n : Nd) (ns : List Note) (out : List Nd) : Prop where
  seg : Seg (WF h) out hi
  head : out ≠ [] → headLow out = n.low
  some : h ≠ 0 → out ≠ []
  full : h = 0 → ∀ k ∈ out, k.pairs ≠ []
  all : Nd.alls out = appV n.all ns
  mass : Nd.masss out ≤ n.mass + ns.length
def PutSpec (h : Nat) (putf : Nd → List Note → List Nd) : Prop := ∀ hi n ns, WF h hi n → notesOk ns → (∀ x ∈ ns, In n.low hi x.key) → PutOK h hi n ns (putf n ns)

theorem seg0_hi {bnd : List UInt8} {x : Option (List UInt8)} (hx : ∀ b, x = some b → slt bnd b) : ∀ (A : List Nd), Seg (WF 0) A (some bnd) → Seg (WF 0) A x
  | [], _ => trivial
  | [k], h => by
    obtain ⟨⟨h1, h2, h3, h4, h5, h6⟩, _⟩ := h
    refine ⟨⟨h1, h2, h3, h4, fun y hy => ⟨(h5 y hy).1, fun b hb => ?_⟩, fun b hb => ?_⟩, trivial⟩
    · exact slt_trans ((h5 y hy).2 bnd rfl) (hx b hb)
    · exact slt_trans (h6 bnd rfl) (hx b hb)
  | k :: y :: A, h => ⟨h.1, seg0_hi hx (y :: A) h.2⟩
theorem segN_hi {bnd : List UInt8} {x : Option (List UInt8)} (hx : ∀ b, x = some b → slt bnd b) : ∀ (A : List Nd) (S : List (List Note)), SegN A S (some bnd) → SegN A S x
  | [], [], _ => trivial
  | [k], [s], h => ⟨fun y hy => ⟨(h.1 y hy).1, fun b hb => slt_trans ((h.1 y hy).2 bnd rfl) (hx b hb)⟩, trivial⟩
  | k :: y :: A, s :: ss, h => ⟨h.1, segN_hi hx (y :: A) ss h.2⟩
  | [], _ :: _, h => h.elim
  | _ :: _, [], h => h.elim
  | [_], _ :: _ :: _, h => h.2.elim

theorem fix_cons {z : Nd} {zs ks : List Nd} {i : Nat} : fixMore (z :: zs) ks i = (z :: zs, ks) := rfl
theorem fix_one {k : Nd} {i : Nat} : fixMore [] [k] i = ([.mk k.low [] [] []], [k]) := rfl
theorem fix_zero {a b : Nd} {r : List Nd} : fixMore [] (a :: b :: r) 0 = ([], a :: setLow a.low b :: r) := by
  simp [fixMore]
theorem fix_else {ks : List Nd} {i : Nat} (h1 : ¬ ks.length = 1) (h2 : ¬ i = 0) : fixMore [] ks i = ([], ks) := by
  simp [fixMore, h1, h2]
/-- What a splice makes of the kids. -/
theorem splice_spec {h : Nat} {hi : Option (List UInt8)} {A B more : List Nd} {k : Nd} {SA SB : List (List Note)} {s : List Note} (hs : Seg (WF h) (A ++ k :: B) hi) (hn : SegN (A ++ k :: B) (SA ++ s :: SB) hi)
    (hl : A.length = SA.length) (hm : Seg (WF h) more (nextLow B hi)) (hc : Nd.alls more = appV k.all s) (hf : Full h (A ++ k :: B)) (hmf : h = 0 → ∀ k ∈ more, k.pairs ≠ []) (hml : Nd.masss more ≤ k.mass + s.length)
    (hnil : more = [] → h = 0) (hlow : more ≠ [] → headLow more = k.low) {ks' : List Nd} (hks : ks' = spliceN more (A ++ k :: B) A.length) :
    Seg (WF h) ks' hi ∧ nextLow ks' none = nextLow (A ++ k :: B) none ∧ Full h ks' ∧ appV (Nd.alls ks') (SA.flatten ++ SB.flatten) = appV (Nd.alls (A ++ k :: B)) (SA ++ s :: SB).flatten ∧ Nd.masss ks' ≤ Nd.masss (A ++ k :: B) + s.length := by
  have hsA := (seg_app A (k :: B) hi).1 hs
  have hnA := (segN_app A (k :: B) SA (s :: SB) hi hl).1 hn
  have hkB : Seg (WF h) (k :: B) hi := hsA.2
  have hnB : SegN B SB hi := hnA.2.2
  have hlB := segN_len B SB hi hnB
  rw [appV_acts _ _ hi hs hn, acts_app _ _ _ _ hl, acts]
  have hmas : Nd.masss (A ++ k :: B) = Nd.masss A + (k.mass + Nd.masss B) := by rw [masss_app, Nd.masss]
  -- the plain case
  have plain : ∀ m : List Nd, m ≠ [] → headLow m = k.low → Seg (WF h) m (nextLow B hi) → Nd.alls m = appV k.all s → Seg (WF h) (A ++ m ++ B) hi ∧ nextLow (A ++ m ++ B) none = nextLow (A ++ k :: B) none ∧
      appV (Nd.alls (A ++ m ++ B)) (SA.flatten ++ SB.flatten) = acts A SA ++ (appV k.all s ++ acts B SB) := by
    intro m hne hlo hsm hcm
    have hnl : ∀ x, nextLow m x = some k.low := fun x => by
      cases m with
      | nil => exact absurd rfl hne
      | cons z zs => exact congrArg some hlo
    have hseg : Seg (WF h) (A ++ m ++ B) hi := by
      rw [List.append_assoc, seg_app, seg_app]
      refine ⟨?_, hsm, hkB.2⟩
      rw [nextLow_app, hnl]; exact hsA.1
    have hsn : SegN (A ++ m ++ B) (SA ++ List.replicate m.length [] ++ SB) hi := by
      rw [List.append_assoc, List.append_assoc, segN_app _ _ _ _ _ hl, segN_app _ _ _ _ _ (by simp)]
      refine ⟨?_, segN_none _ _, hnB⟩
      rw [nextLow_app, hnl]; exact hnA.1
    refine ⟨hseg, ?_, ?_⟩
    · rw [List.append_assoc, nextLow_app, nextLow_app, hnl, nextLow_app]; rfl
    · have e : SA.flatten ++ SB.flatten = (SA ++ List.replicate m.length [] ++ SB).flatten := by rw [List.flatten_append, List.flatten_append, flat_none, List.append_nil]
      rw [e, appV_acts _ _ hi hseg hsn, List.append_assoc, List.append_assoc, acts_app _ _ _ _ hl, acts_app _ _ _ _ (by simp), acts_none, hcm]
  cases hmore : more with
  | cons z zs =>
    have hne : more ≠ [] := by rw [hmore]; simp
    have e : ks' = A ++ more ++ B := by
      rw [hks, spliceN, hmore, fix_cons]; simp
    rw [e]
    obtain ⟨p1, p2, p3⟩ := plain more hne (hlow hne) hm hc
    refine ⟨p1, p2, fun h0 hlen x hx => ?_, p3, by rw [masss_app, masss_app, hmas]; omega⟩
    by_cases hAB : A = [] ∧ B = []
    · obtain ⟨rfl, rfl⟩ := hAB
      rw [List.nil_append, List.append_nil] at hx
      exact hmf h0 x hx
    · have hlen2 : 1 < (A ++ k :: B).length := by
        rw [List.length_append, List.length_cons]
        rcases Nat.eq_zero_or_pos A.length with ha | ha
        · rcases Nat.eq_zero_or_pos B.length with hb | hb
          · exact absurd ⟨List.eq_nil_of_length_eq_zero ha, List.eq_nil_of_length_eq_zero hb⟩ hAB
          · omega
        · omega
      have hff := hf h0 hlen2
      rw [List.append_assoc] at hx
      rcases List.mem_append.1 hx with hx | hx
      · exact hff x (List.mem_append_left _ hx)
      · rcases List.mem_append.1 hx with hx | hx
        · exact hmf h0 x hx
        · exact hff x (List.mem_append_right _ (List.mem_cons_of_mem _ hx))
  | nil =>
    have h0 := hnil hmore
    subst h0
    rw [hmore] at hc hks
    have hc : appV k.all s = [] := hc.symm
    have hw := hkB.1
    by_cases h1 : (A ++ k :: B).length = 1
    · have hA : A = [] := List.eq_nil_of_length_eq_zero (by rw [List.length_append, List.length_cons] at h1; omega)
      have hB : B = [] := List.eq_nil_of_length_eq_zero (by rw [List.length_append, List.length_cons] at h1; omega)
      subst hA hB
      have e : ks' = [] ++ [Nd.mk k.low [] [] []] ++ [] := by
        rw [hks]; rfl
      have hleaf : WF 0 (nextLow [] hi) (Nd.mk k.low [] [] []) := ⟨rfl, rfl, by show 0 ≤ 4; omega, pairsOk_nil, fun x hx => (by cases hx), hw.2.2.2.2.2⟩
      obtain ⟨p1, p2, p3⟩ := plain [Nd.mk k.low [] [] []] (by simp) rfl ⟨hleaf, trivial⟩ (by
        rw [hc, Nd.alls, Nd.alls, List.append_nil, hleaf.all_leaf]; rfl)
      rw [e]
      refine ⟨p1, p2, fun _ hlen => by simp at hlen, p3, ?_⟩
      have := mass_pos k
      rw [hmas]; simp [Nd.masss, Nd.mass]; omega
    · have hlen2 : 1 < (A ++ k :: B).length := by rw [List.length_append, List.length_cons] at h1 ⊢; omega
      have hff := hf rfl hlen2
      by_cases hA : A = []
      · subst hA
        cases hB : B with
        | nil => subst hB; simp at h1
        | cons b B' =>
          subst hB
          have hSA : SA = [] := List.eq_nil_of_length_eq_zero hl.symm
          subst hSA
          cases hSB : SB with
          | nil => rw [hSB] at hlB; simp at hlB
          | cons sb SB' =>
            subst hSB
            have e : ks' = setLow k.low b :: B' := by
              rw [hks, spliceN, List.nil_append, List.length_nil, fix_zero]
              simp
            have hb := hkB.2.1
            have hgap : slt k.low b.low := hw.gap _ rfl
            have hb' : WF 0 (nextLow B' hi) (setLow k.low b) := by
              obtain ⟨q1, q2, q3, q4, q5, q6⟩ := hb
              cases b with
              | mk bl bk bw bp =>
                exact ⟨q1, q2, q3, q4, fun x hx => ⟨ge_trans (q5 x hx).1 (ge_of_lt hgap), (q5 x hx).2⟩, fun c hc => slt_trans hgap (q6 c hc)⟩
            have hall : (setLow k.low b).all = b.all := by
              rw [hb'.all_leaf, hb.all_leaf]; cases b; rfl
            have hseg : Seg (WF 0) (setLow k.low b :: B') hi := ⟨hb', hkB.2.2⟩
            have hlo : (setLow k.low b).low = k.low := by cases b; rfl
            have hsn : SegN (setLow k.low b :: B') (sb :: SB') hi := ⟨fun x hx => by rw [hlo]; exact ⟨ge_trans (hnB.1 x hx).1 (ge_of_lt hgap), (hnB.1 x hx).2⟩, hnB.2⟩
            rw [e]
            refine ⟨hseg, congrArg some hlo, fun _ _ x hx => ?_, ?_, ?_⟩
            · rcases List.mem_cons.1 hx with rfl | hx
              · have := hff b (by simp)
                cases b; exact this
              · exact hff x (by simp [hx])
            · rw [List.flatten_nil, List.nil_append, appV_acts _ _ hi hseg hsn, hc, acts, acts, hall]; rfl
            · rw [hmas]
              have : (setLow k.low b).mass = b.mass := by cases b; simp [setLow, Nd.mass]
              simp only [Nd.masss, this]; omega
      · have e : ks' = A ++ B := by
          rw [hks, spliceN, fix_else h1 (by simpa using hA)]
          simp
        have hgap : ∀ b, nextLow B hi = some b → slt k.low b := hw.gap
        have hseg : Seg (WF 0) (A ++ B) hi := by
          rw [seg_app]
          exact ⟨seg0_hi hgap A hsA.1, hkB.2⟩
        have hsn : SegN (A ++ B) (SA ++ SB) hi := by
          rw [segN_app _ _ _ _ _ hl]
          exact ⟨segN_hi hgap A SA hnA.1, hnB⟩
        rw [e]
        refine ⟨hseg, ?_, fun _ _ x hx => ?_, ?_, ?_⟩
        · cases A with
          | nil => exact absurd rfl hA
          | cons a A => rfl
        · rcases List.mem_append.1 hx with hx | hx
          · exact hff x (List.mem_append_left _ hx)
          · exact hff x (List.mem_append_right _ (List.mem_cons_of_mem _ hx))
        · rw [← List.flatten_append, appV_acts _ _ hi hseg hsn, acts_app _ _ _ _ hl, hc]; rfl
        · rw [masss_app, hmas]; omega

theorem flush_spec {h : Nat} {putf : Nd → List Note → List Nd} (hp : PutSpec h putf) {lo : List UInt8} {hi : Option (List UInt8)} {ks : List Nd} {w : List Note} (d : DI h lo hi ks w) (hw : w ≠ []) :
    DI h lo hi (flushN putf ks w).1 (flushN putf ks w).2 ∧ appV (Nd.alls (flushN putf ks w).1) (flushN putf ks w).2 = appV (Nd.alls ks) w ∧ (flushN putf ks w).2.length < w.length ∧
      Nd.masss (flushN putf ks w).1 + (flushN putf ks w).2.length ≤ Nd.masss ks + w.length := by
  obtain ⟨e1, e2, e3, e4⟩ := d.split
  obtain ⟨k1, k2⟩ := headLow_of d.head
  obtain ⟨i, hi'⟩ : ∃ i, i = mostV w (ks.map Nd.low) := ⟨_, rfl⟩
  have hlen : 0 < ks.length := List.length_pos_iff.2 k1
  have hilt : i < ks.length := by
    rw [hi', mostV, e1, ← e4]
    exact bestV_lt _ _ (Nat.le_refl _) (by omega)
  have hbest := bestV_le (splitV w (ks.map Nd.low)) (splitV w (ks.map Nd.low)).length
  have hi2 : bestV (splitV w (ks.map Nd.low)) (splitV w (ks.map Nd.low)).length = i := by rw [hi', mostV, e1]
  rw [hi2] at hbest
  unfold flushN
  rw [← hi', e1]
  generalize splitV w (ks.map Nd.low) = S at *
  obtain ⟨k, hk⟩ : ∃ k, ks[i]? = some k := ⟨_, List.getElem?_eq_getElem hilt⟩
  obtain ⟨s, hs⟩ : ∃ s, S[i]? = some s := ⟨_, List.getElem?_eq_getElem (by omega)⟩
  have hkd : ks.getD i (.mk [] [] [] []) = k := by rw [List.getD_eq_getElem?_getD, hk]; rfl
  have hsd : S.getD i [] = s := by rw [List.getD_eq_getElem?_getD, hs]; rfl
  have hks : ks = ks.take i ++ k :: ks.drop (i + 1) := by rw [← drop_of_get hk, List.take_append_drop]
  have hS : S = S.take i ++ s :: S.drop (i + 1) := by rw [← drop_of_get hs, List.take_append_drop]
  have hsne : s ≠ [] := by
    intro e0
    rw [hsd, e0] at hbest
    apply hw
    rw [← e2]
    apply List.flatten_eq_nil_iff.2
    intro x hx
    obtain ⟨j, hj, rfl⟩ := List.mem_iff_getElem.1 hx
    have := hbest j hj
    rw [List.getD_eq_getElem?_getD, List.getElem?_eq_getElem hj] at this
    exact List.eq_nil_of_length_eq_zero (by simpa using this)
  rw [hkd, hsd]
  have hAl : (ks.take i).length = i := by rw [List.length_take]; omega
  have hSl : (S.take i).length = i := by rw [List.length_take]; omega
  generalize hA : ks.take i = A at *
  generalize hB : ks.drop (i + 1) = B at *
  generalize hSA : S.take i = SA at *
  generalize hSB : S.drop (i + 1) = SB at *
  have hset : (S.set i []).flatten = SA.flatten ++ SB.flatten := by
    rw [hS, List.set_append_right _ _ (by omega), hSl, Nat.sub_self, List.set_cons_zero, List.flatten_append, List.flatten_cons, List.nil_append]
  have hseg := d.seg
  have hfull := d.full
  have hhead := d.head
  rw [hset]
  rw [hks] at hseg hfull hhead e3 ⊢
  rw [hS] at e3
  have hw2 : w = SA.flatten ++ (s ++ SB.flatten) := by rw [← e2, hS, List.flatten_append, List.flatten_cons]
  have hwo := (waitOk_iff w).1 d.wok
  have hsl : (SA.flatten ++ SB.flatten).Sublist w := by
    rw [hw2]
    exact List.Sublist.append (List.Sublist.refl _) (List.sublist_append_right _ _)
  have hsn : notesOk s := fun x hx => hwo.2 x (by rw [hw2]; exact List.mem_append_right _ (List.mem_append_left _ hx))
  have hwk : WF h (nextLow B hi) k := ((seg_app A (k :: B) hi).1 hseg).2.1
  have hsin := ((segN_app A (k :: B) SA (s :: SB) hi (by omega)).1 e3).2.1
  have po := hp (nextLow B hi) k s hwk hsn hsin
  have sp := splice_spec hseg e3 (by omega) po.seg po.all hfull po.full po.mass (fun e0 => Classical.byContradiction fun hne => po.some hne e0) po.head (ks' := spliceN (putf k s) (A ++ k :: B) i) (by rw [hAl])
  obtain ⟨s1, s2, s3, s4, s5⟩ := sp
  have hlw : w.length = SA.flatten.length + (s.length + SB.flatten.length) := by rw [hw2, List.length_append, List.length_append]
  have hsp : 0 < s.length := List.length_pos_iff.2 hsne
  refine ⟨⟨s1, s2.trans hhead, s3, (waitOk_iff _).2 ⟨List.Pairwise.sublist hsl hwo.1, fun x hx => hwo.2 x (hsl.subset hx)⟩, fun x hx => d.win x (hsl.subset hx)⟩, ?_, by rw [List.length_append]; omega, by rw [List.length_append]; simp only; omega⟩
  rw [s4, ← hS, e2]
theorem drain_spec {h : Nat} {putf : Nd → List Note → List Nd} (hp : PutSpec h putf) {lo : List UInt8} {hi : Option (List UInt8)} : ∀ (f : Nat) (ks : List Nd) (w : List Note), DI h lo hi ks w → w.length ≤ f →
    DI h lo hi (drainN putf f ks w).1 (drainN putf f ks w).2 ∧ appV (Nd.alls (drainN putf f ks w).1) (drainN putf f ks w).2 = appV (Nd.alls ks) w ∧ (drainN putf f ks w).2.length ≤ 6 ∧
      Nd.masss (drainN putf f ks w).1 + (drainN putf f ks w).2.length ≤ Nd.masss ks + w.length
  | 0, ks, w, d, hf => ⟨d, rfl, by show w.length ≤ 6; omega, Nat.le_refl _⟩
  | f + 1, ks, w, d, hf => by
    unfold drainN
    by_cases h6 : 6 < w.length
    · rw [if_pos h6]
      obtain ⟨a1, a2, a3, a4⟩ := flush_spec hp d (fun e => by rw [e] at h6; simp at h6)
      obtain ⟨b1, b2, b3, b4⟩ := drain_spec hp f _ _ a1 (by omega)
      exact ⟨b1, b2.trans a2, b3, by omega⟩
    · rw [if_neg h6]
      exact ⟨d, rfl, by show w.length ≤ 6; omega, Nat.le_refl _⟩
end Go.Proofs.Ytofmiaecjnfeaaa
