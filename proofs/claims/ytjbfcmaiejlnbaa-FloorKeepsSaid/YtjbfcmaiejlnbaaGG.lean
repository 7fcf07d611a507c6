/- A part of a proof: functions of the program, walked. -/
import Derived.Test.YtjbfcmaiejlnbaaGF
import Derived.Test.YtjbfcmaiejlnbaaGE
set_option linter.unusedVariables false
set_option linter.unusedSimpArgs false
set_option maxRecDepth 8000
namespace Go.Proofs.Ytjbfcmaiejlnbaa
open Nat renaming reduceAdd → uA, reduceLT → uB, reduceEqDiff → uC, reduceLeDiff → uD, reduceSub → uE, reduceMul → uF
open Bool renaming false_eq_true → yA, true_eq_false → yB
open Go Go.Proofs Go.Proofs.YtjbfcmaiejlnbaaVm Go.Proofs.Ytjbfcmaiejlnbaa.Ty

set_option maxRecDepth 4000 in
set_option maxHeartbeats 8000000 in
theorem ref13_May (c : Change) : Ct Try.prog 35 (YtjbfcmaiejlnbaaVm.ops [c.pv]) (.vals [.bool (decide c.ok)]) := by
  refine Ct.of_V Try.func35 rfl (by simp [YtjbfcmaiejlnbaaVm.ops, Try.f35]) ?_
  refine V.exec 400 ?_
  simp +contextual (maxSteps := 1000000) only [go_sem, ↓reduceIte, reduceCtorEq, yA, yB, uA, uB, uC, uD, uE, uF, Try.f35, Change.pv]
  simp only [Option.some.injEq, List.cons.injEq, PV.bool.injEq, and_true]
  (repeat' (first | (intro _) | (refine ⟨by kernel_rfl, ?_⟩) | (apply And.intro)))
  all_goals grind [Change.ok]

theorem Change.inj (s t : Change) : (s.pv = t.pv) = (s = t) := by
  cases s; cases t
  simp [Change.pv]

set_option maxRecDepth 4000 in
set_option maxHeartbeats 8000000 in
theorem ref13_Same (a b : List Change) (hb : b.length ≤ 1000000) : Ct Try.prog 18 (YtjbfcmaiejlnbaaVm.ops [.row (a.map Change.pv), .row (b.map Change.pv)]) (.vals [.bool (decide (a = b))]) := by
  refine Ct.of_V Try.func18 rfl (by simp [YtjbfcmaiejlnbaaVm.ops, Try.f18]) ?_
  refine V.exec 400 ?_
  by_cases hl : a.length = b.length
  · simp +contextual (maxSteps := 1000000) only [go_sem, ↓reduceIte, reduceCtorEq, yA, yB, uA, uB, uC, uD, uE, uF, Try.f18, hl]
    refine V.loop (fun m ls os => ∃ i : Nat, i ≤ b.length ∧ m = b.length - i ∧ a.take i = b.take i ∧
        ls = [(0, .val (.row (a.map Change.pv))), (1, .val (.row (b.map Change.pv))), (5, .val (.int .i64 i))] ∧ os = []) 0 b.length [(0, .val (.row (a.map Change.pv))), (1, .val (.row (b.map Change.pv))), (5, .val (.int .i64 0))] [] []
      ⟨0, Nat.zero_le _, rfl, rfl, rfl, rfl⟩ (by simp only [go_sem, ↓reduceIte, reduceCtorEq, yA, yB, uA, uB, uC, uD, uE, uF]) ?_
    rintro m ls os ⟨i, hi, rfl, heq, rfl, rfl⟩
    refine V.exec 400 ?_
    by_cases hlt : i < b.length
    · have hlt' : (i : Int) < (b.length : Int) := by omega
      have hla : i < a.length := by omega
      obtain ⟨x, hx⟩ : ∃ x, a[i]? = some x := ⟨_, List.getElem?_eq_getElem hla⟩
      obtain ⟨y, hy⟩ : ∃ y, b[i]? = some y := ⟨_, List.getElem?_eq_getElem hlt⟩
      have hw : IntKind.i64.wrap ((i : Int) + 1) = ((i + 1 : Nat) : Int) := by rw [wrap_small3] <;> omega
      have hinj := Change.inj x y
      simp only [Change.pv] at hinj
      simp +contextual (maxSteps := 1000000) only [go_sem, ↓reduceIte, reduceCtorEq, yA, yB, uA, uB, uC, uD, uE, uF, hl, hlt', hx, hy, Change.pv, hw, hinj]
      refine ⟨by kernel_rfl, fun hne => ?_, fun he => ⟨b.length - (i + 1), _, [], [], by omega, ⟨i + 1, by omega, rfl, ?_, rfl, rfl⟩, ?_⟩⟩
      · have : a ≠ b := fun e => hne (by rw [e, hy] at hx; cases hx; rfl)
        simp [this]
      · rw [List.take_add_one, List.take_add_one, heq, hx, hy, he]
      · simp only [go_sem, ↓reduceIte, reduceCtorEq, yA, yB, uA, uB, uC, uD, uE, uF]
    · have hlt' : ¬ (i : Int) < (b.length : Int) := by omega
      simp +contextual (maxSteps := 1000000) only [go_sem, ↓reduceIte, reduceCtorEq, yA, yB, uA, uB, uC, uD, uE, uF, hl, hlt']
      have : a = b := by rw [List.take_of_length_le (by omega), List.take_of_length_le (by omega)] at heq; exact heq
      simp [this]
  · have hl' : ¬ (a.length : Int) = (b.length : Int) := by omega
    have : a ≠ b := fun e => hl (by rw [e])
    simp +contextual (maxSteps := 1000000) only [go_sem, ↓reduceIte, reduceCtorEq, yA, yB, uA, uB, uC, uD, uE, uF, Try.f18, hl', this, not_false_eq_true]

set_option maxRecDepth 4000 in
set_option maxHeartbeats 8000000 in
theorem ref16_Right (l : List Change) (hl : l.length ≤ 1000000) : Ct Try.prog 16 (YtjbfcmaiejlnbaaVm.ops [.row (l.map Change.pv)]) (.vals [.bool (decide (trailOk l))]) := by
  refine Ct.of_V Try.func16 rfl (by simp [YtjbfcmaiejlnbaaVm.ops, Try.f16]) ?_
  refine V.exec 400 ?_
  simp +contextual (maxSteps := 1000000) only [go_sem, ↓reduceIte, reduceCtorEq, yA, yB, uA, uB, uC, uD, uE, uF, Try.f16]
  refine V.loop (fun m ls os => ∃ (i : Nat), i ≤ l.length ∧ m = l.length - i ∧ (trailOk l ↔ trailFrom (prevSeq l i) (l.drop i)) ∧
        ls = [(0, .val (.row (l.map Change.pv))), (3, .val (.int .i64 i))] ∧ os = []) 0 l.length
      [(0, .val (.row (l.map Change.pv))), (3, .val (.int .i64 0))] [] []
      ⟨0, Nat.zero_le _, rfl, Iff.rfl, rfl, rfl⟩ (by simp only [go_sem, ↓reduceIte, reduceCtorEq, yA, yB, uA, uB, uC, uD, uE, uF]) ?_
  rintro m ls os ⟨i, hi, rfl, hiff, rfl, rfl⟩
  refine V.exec 400 ?_
  by_cases hlt : i < l.length
  · have hlt' : (i : Int) < (l.length : Int) := by omega
    obtain ⟨x, hx⟩ : ∃ x, l[i]? = some x := ⟨_, List.getElem?_eq_getElem hlt⟩
    have hw : IntKind.i64.wrap ((i : Int) + 1) = ((i + 1 : Nat) : Int) := by rw [wrap_small3] <;> omega
    rw [drop_of_get hx, trailFrom] at hiff
    have hpk : prevSeq l (i + 1) = some x.seq := by simp [prevSeq, hx]
    have fin : x.ok → (∀ k, prevSeq l i = some k → k < x.seq) → (trailOk l ↔ trailFrom (prevSeq l (i + 1)) (l.drop (i + 1))) := fun a b => by
      rw [hiff, hpk]; exact ⟨fun h => h.2.2, fun h => ⟨a, b, h⟩⟩
    have hfalse : ¬ trailOk l → some [PV.bool false] = some [PV.bool (decide (trailOk l))] := fun h => by simp [h]
    simp +contextual (maxSteps := 1000000) only [go_sem, ↓reduceIte, reduceCtorEq, yA, yB, uA, uB, uC, uD, uE, uF, hlt', hx, Change.pv]
    refine V.call rfl rfl (by simp [dOK]) ⟨35, [], by simp only [go_sem, ↓reduceIte, reduceCtorEq, yA, yB, uA, uB, uC, uD, uE, uF], ⟨_, rfl, rfl, rfl⟩, .inl ⟨[x.pv], _, .inl (by simp only [go_sem, ↓reduceIte, reduceCtorEq, yA, yB, uA, uB, uC, uD, uE, uF, Change.pv]), ref13_May x, .inl ⟨_, rfl, rfl, rfl, rfl⟩⟩⟩ ?_
    refine V.exec 400 ?_
    by_cases hok : x.ok
    · rcases Nat.eq_zero_or_pos i with rfl | hpos
      · have hz : ¬ (0 : Int) < ((0 : Nat) : Int) := by omega
        simp +contextual (maxSteps := 1000000) only [go_sem, ↓reduceIte, reduceCtorEq, yA, yB, uA, uB, uC, uD, uE, uF, hlt', hx, Change.pv, hw, hz, hok]
        (repeat' (first | (intro _) | (refine ⟨by kernel_rfl, ?_⟩) | (apply And.intro)))
        exact ⟨l.length - (0 + 1), _, [], [], by omega, ⟨1, by omega, rfl, fin hok (fun k h => by simp [prevSeq] at h), rfl, rfl⟩, by simp only [go_sem, ↓reduceIte, reduceCtorEq, yA, yB, uA, uB, uC, uD, uE, uF]⟩
      · obtain ⟨j, rfl⟩ : ∃ j, i = j + 1 := ⟨i - 1, by omega⟩
        have hw2 : IntKind.i64.wrap (((j + 1 : Nat) : Int) - 1) = (j : Int) := by rw [wrap_small3] <;> omega
        have hjp : (0 : Int) < ((j + 1 : Nat) : Int) := by omega
        obtain ⟨y, hy⟩ : ∃ y, l[j]? = some y := ⟨_, List.getElem?_eq_getElem (by omega)⟩
        simp +contextual (maxSteps := 1000000) only [go_sem, ↓reduceIte, reduceCtorEq, yA, yB, uA, uB, uC, uD, uE, uF, hlt', hx, Change.pv, hw, hw2, hjp, hy, hok]
        (repeat' (first | (intro _) | (refine ⟨by kernel_rfl, ?_⟩) | (apply And.intro)))
        · refine hfalse fun h => ?_
          have := (hiff.1 h).2.1 y.seq (by simp [prevSeq, hy])
          omega
        · exact ⟨l.length - (j + 1 + 1), _, [], [], by omega, ⟨j + 1 + 1, by omega, rfl, fin hok (fun k h => by simp [prevSeq, hy] at h; omega), rfl, rfl⟩, by simp only [go_sem, ↓reduceIte, reduceCtorEq, yA, yB, uA, uB, uC, uD, uE, uF]⟩
    · simp +contextual (maxSteps := 1000000) only [go_sem, ↓reduceIte, reduceCtorEq, yA, yB, uA, uB, uC, uD, uE, uF, hlt', hx, Change.pv, hw, hok]
      exact hfalse fun h => hok (hiff.1 h).1
  · have hlt' : ¬ (i : Int) < (l.length : Int) := by omega
    have hd : l.drop i = [] := List.drop_eq_nil_of_le (by omega)
    rw [hd, trailFrom] at hiff
    simp +contextual (maxSteps := 1000000) only [go_sem, ↓reduceIte, reduceCtorEq, yA, yB, uA, uB, uC, uD, uE, uF, hlt']
    simp [hiff]

def Sub.small (s : Sub) : Prop := s.r.lo.length ≤ 300 ∧ s.r.hi.length ≤ 300 ∧ s.next.length ≤ 300
instance Sub.instSmall (s : Sub) : Decidable s.small := by unfold Sub.small; infer_instance
def smallV (l : List Sub) : Prop := (∀ s ∈ l, s.small) ∧ l.length ≤ 20
instance instSmallV (l : List Sub) : Decidable (smallV l) := by unfold smallV; infer_instance

set_option maxHeartbeats 8000000 in
theorem law_small (l : List Sub) (hl : l.length ≤ 9223372036854775807) : Ct Try.prog 15 (YtjbfcmaiejlnbaaVm.ops [.row (l.map Sub.pv)]) (.vals [.bool (decide (smallV l))]) := by
  refine Ct.of_V Try.func15 rfl (by simp [YtjbfcmaiejlnbaaVm.ops, Try.f15]) ?_
  refine V.exec 400 ?_
  simp +contextual (maxSteps := 1000000) only [go_sem, ↓reduceIte, reduceCtorEq, yA, yB, uA, uB, uC, uD, uE, uF, Try.f15]
  refine V.loop (fun m ls os => ∃ (i : Nat), i ≤ l.length ∧ m = l.length - i ∧ (∀ s ∈ l.take i, s.small) ∧
        ls = [(0, .val (.row (l.map Sub.pv))), (5, .val (.row (l.map Sub.pv))), (6, .val (.int .i64 l.length)), (7, .val (.int .i64 i))] ∧ os = []) 0 l.length
      [(0, .val (.row (l.map Sub.pv))), (5, .val (.row (l.map Sub.pv))), (6, .val (.int .i64 l.length)), (7, .val (.int .i64 0))] [] []
      ⟨0, Nat.zero_le _, rfl, by simp, rfl, rfl⟩ (by simp only [go_sem, ↓reduceIte, reduceCtorEq, yA, yB, uA, uB, uC, uD, uE, uF]) ?_
  rintro m ls os ⟨i, hi, rfl, hiff, rfl, rfl⟩
  refine V.exec 400 ?_
  by_cases hlt : i < l.length
  · have hlt' : (i : Int) < (l.length : Int) := by omega
    obtain ⟨x, hx⟩ : ∃ x, l[i]? = some x := ⟨_, List.getElem?_eq_getElem hlt⟩
    have hw : IntKind.i64.wrap ((i : Int) + 1) = ((i + 1 : Nat) : Int) := by rw [wrap_small3] <;> omega
    have hxm := List.mem_of_getElem? hx
    have hfalse : ¬ x.small → some [PV.bool false] = some [PV.bool (decide (smallV l))] := fun h => by
      have : ¬ smallV l := fun g => h (g.1 x hxm)
      simp [this]
    have hnext : x.small → ∀ s ∈ l.take (i + 1), s.small := fun h s hs => by
      rw [List.take_add_one, hx] at hs
      rcases List.mem_append.1 hs with hs | hs
      · exact hiff s hs
      · simp at hs; rw [hs]; exact h
    simp +contextual (maxSteps := 1000000) only [go_sem, ↓reduceIte, reduceCtorEq, yA, yB, uA, uB, uC, uD, uE, uF, hlt', hx, Sub.pv, hw]
    (repeat' (first | (intro _) | (refine ⟨by kernel_rfl, ?_⟩) | (apply And.intro)))
    all_goals first
      | exact ⟨l.length - (i + 1), _, [], [], by omega, ⟨i + 1, by omega, rfl, hnext ⟨by omega, by omega, by omega⟩, rfl, rfl⟩, by simp only [go_sem, ↓reduceIte, reduceCtorEq, yA, yB, uA, uB, uC, uD, uE, uF]⟩
      | exact hfalse fun h => by have := h.1; have := h.2.1; have := h.2.2; omega
  · have hlt' : ¬ (i : Int) < (l.length : Int) := by omega
    simp +contextual (maxSteps := 1000000) only [go_sem, ↓reduceIte, reduceCtorEq, yA, yB, uA, uB, uC, uD, uE, uF, hlt']
    have : l.take i = l := List.take_of_length_le (by omega)
    rw [this] at hiff
    have e1 : ((l.length : Int) ≤ 20) = (l.length ≤ 20) := by apply propext; omega
    have e2 : smallV l ↔ l.length ≤ 20 := ⟨fun h => h.2, fun h => ⟨hiff, h⟩⟩
    simp [e1, e2]
end Go.Proofs.Ytjbfcmaiejlnbaa
set_option linter.unusedVariables false
set_option linter.unusedSimpArgs false
set_option maxRecDepth 8000
namespace Go.Proofs.Ytjbfcmaiejlnbaa
open Nat renaming reduceAdd → uA, reduceLT → uB, reduceEqDiff → uC, reduceLeDiff → uD, reduceSub → uE, reduceMul → uF
open Bool renaming false_eq_true → yA, true_eq_false → yB
open Go Go.Proofs Go.Proofs.YtjbfcmaiejlnbaaVm Go.Proofs.Ytjbfcmaiejlnbaa.Ty

def mkSub (id cur : Int) (live : Bool) : Sub := ⟨id, ⟨[], [], false⟩, live, [], cur⟩
def wA1 : List Sub := [mkSub 1 5 true]
def wA2 : List Sub := [mkSub 1 5 true, mkSub 2 3 false]
def wM : List Sub := [mkSub 2 3 false]
def wM2 : List Sub := [mkSub 1 9 false, mkSub 2 3 false]
def wC1 : Change := ⟨3, [97], false, [], true, []⟩
def wC2 : Change := ⟨4, [97], true, [], false, []⟩
theorem wv1 : addV [] (mkSub 0 5 true) = (wA1, 1, 0) := by kernel_rfl
theorem wv2 : addV wA1 (mkSub 0 3 false) = (wA2, 2, 0) := by kernel_rfl
theorem wv3 : leaveV wA2 1 = (wM, 0) := by kernel_rfl
theorem wv4 : addV wM (mkSub 0 9 false) = (wM2, 1, 0) := by kernel_rfl
theorem wv5 : findV wM2 2 = (mkSub 2 3 false, 0) := by kernel_rfl
theorem wv6 : findV wM2 3 = (Sub.zero, 3) := by kernel_rfl
theorem wv7 : floorOf 7 wM2 = 3 := by kernel_rfl
theorem wv8 : dropV [wC1, wC2] 3 = [wC2] := by kernel_rfl
theorem wv9 : floorOf 2 wM2 = 2 := by kernel_rfl
theorem wv10 : subsOk wM2 := by decide +kernel

set_option maxRecDepth 10000 in
set_option maxHeartbeats 8000000 in
theorem law_awake : Ct Try.prog 9 (YtjbfcmaiejlnbaaVm.ops []) (.vals [.bool true]) := by
  have c1 := floor_Add [] (mkSub 0 5 true) (by decide)
  rw [wv1] at c1
  have c2 := floor_Add wA1 (mkSub 0 3 false) (by decide)
  rw [wv2] at c2
  have c3 := floor_Leave wA2 1 (by decide)
  rw [wv3] at c3
  have c4 := floor_Add wM (mkSub 0 9 false) (by decide)
  rw [wv4] at c4
  have c5 := floor_Find wM2 2 (by decide)
  rw [wv5] at c5
  have c6 := floor_Find wM2 3 (by decide)
  rw [wv6] at c6
  have c7 := floor_Trim [wC1, wC2] 7 wM2 (by decide) (by decide)
  rw [wv7, wv8] at c7
  have c8 := floor_Of 2 wM2 (by decide)
  rw [wv9] at c8
  have c9 := floor_Right wM2 (by decide)
  refine Ct.of_V Try.func9 rfl (by simp [YtjbfcmaiejlnbaaVm.ops, Try.f9]) ?_
  refine V.exec 400 ?_
  simp +contextual (maxSteps := 1000000) only [go_sem, ↓reduceIte, reduceCtorEq, yA, yB, uA, uB, uC, uD, uE, uF, Try.f9]
  refine V.call rfl rfl (by simp [dOK]) ⟨11, [], by simp only [go_sem, ↓reduceIte, reduceCtorEq, yA, yB, uA, uB, uC, uD, uE, uF], ⟨_, rfl, rfl, rfl⟩, .inl ⟨[.row [], (mkSub 0 5 true).pv], _, .inl (by simp only [go_sem, ↓reduceIte, reduceCtorEq, yA, yB, uA, uB, uC, uD, uE, uF, Sub.pv, mkSub, decide_true, decide_false]), c1, .inr (.inl ⟨_, rfl, rfl, rfl⟩)⟩⟩ ?_
  refine V.exec 400 ?_
  simp +contextual (maxSteps := 1000000) only [go_sem, ↓reduceIte, reduceCtorEq, yA, yB, uA, uB, uC, uD, uE, uF]
  refine V.call rfl rfl (by simp [dOK]) ⟨11, [], by simp only [go_sem, ↓reduceIte, reduceCtorEq, yA, yB, uA, uB, uC, uD, uE, uF], ⟨_, rfl, rfl, rfl⟩, .inl ⟨[.row (wA1.map Sub.pv), (mkSub 0 3 false).pv], _, .inl (by simp only [go_sem, ↓reduceIte, reduceCtorEq, yA, yB, uA, uB, uC, uD, uE, uF, Sub.pv, mkSub, decide_true, decide_false]), c2, .inr (.inl ⟨_, rfl, rfl, rfl⟩)⟩⟩ ?_
  refine V.exec 400 ?_
  simp +contextual (maxSteps := 1000000) only [go_sem, ↓reduceIte, reduceCtorEq, yA, yB, uA, uB, uC, uD, uE, uF]
  refine V.call rfl rfl (by simp [dOK]) ⟨10, [], by simp only [go_sem, ↓reduceIte, reduceCtorEq, yA, yB, uA, uB, uC, uD, uE, uF], ⟨_, rfl, rfl, rfl⟩, .inl ⟨[.row (wA2.map Sub.pv), .int .i64 1], _, .inl (by simp only [go_sem, ↓reduceIte, reduceCtorEq, yA, yB, uA, uB, uC, uD, uE, uF]), c3, .inr (.inl ⟨_, rfl, rfl, rfl⟩)⟩⟩ ?_
  refine V.exec 400 ?_
  simp +contextual (maxSteps := 1000000) only [go_sem, ↓reduceIte, reduceCtorEq, yA, yB, uA, uB, uC, uD, uE, uF]
  refine V.call rfl rfl (by simp [dOK]) ⟨11, [], by simp only [go_sem, ↓reduceIte, reduceCtorEq, yA, yB, uA, uB, uC, uD, uE, uF], ⟨_, rfl, rfl, rfl⟩, .inl ⟨[.row (wM.map Sub.pv), (mkSub 0 9 false).pv], _, .inl (by simp only [go_sem, ↓reduceIte, reduceCtorEq, yA, yB, uA, uB, uC, uD, uE, uF, Sub.pv, mkSub, decide_true, decide_false]), c4, .inr (.inl ⟨_, rfl, rfl, rfl⟩)⟩⟩ ?_
  refine V.exec 400 ?_
  simp +contextual (maxSteps := 1000000) only [go_sem, ↓reduceIte, reduceCtorEq, yA, yB, uA, uB, uC, uD, uE, uF]
  refine V.call rfl rfl (by simp [dOK]) ⟨12, [], by simp only [go_sem, ↓reduceIte, reduceCtorEq, yA, yB, uA, uB, uC, uD, uE, uF], ⟨_, rfl, rfl, rfl⟩, .inl ⟨[.row (wM2.map Sub.pv), .int .i64 2], _, .inl (by simp only [go_sem, ↓reduceIte, reduceCtorEq, yA, yB, uA, uB, uC, uD, uE, uF]), c5, .inr (.inl ⟨_, rfl, rfl, rfl⟩)⟩⟩ ?_
  refine V.exec 400 ?_
  simp +contextual (maxSteps := 1000000) only [go_sem, ↓reduceIte, reduceCtorEq, yA, yB, uA, uB, uC, uD, uE, uF, Sub.pv, mkSub, decide_true, decide_false]
  refine V.call rfl rfl (by simp [dOK]) ⟨12, [], by simp only [go_sem, ↓reduceIte, reduceCtorEq, yA, yB, uA, uB, uC, uD, uE, uF], ⟨_, rfl, rfl, rfl⟩, .inl ⟨[.row (wM2.map Sub.pv), .int .i64 3], _, .inl (by simp only [go_sem, ↓reduceIte, reduceCtorEq, yA, yB, uA, uB, uC, uD, uE, uF]), c6, .inr (.inl ⟨_, rfl, rfl, rfl⟩)⟩⟩ ?_
  refine V.exec 400 ?_
  simp +contextual (maxSteps := 1000000) only [go_sem, ↓reduceIte, reduceCtorEq, yA, yB, uA, uB, uC, uD, uE, uF, Sub.pv, mkSub, decide_true, decide_false]
  refine V.call rfl rfl (by simp [dOK]) ⟨17, [], by simp only [go_sem, ↓reduceIte, reduceCtorEq, yA, yB, uA, uB, uC, uD, uE, uF], ⟨_, rfl, rfl, rfl⟩, .inl ⟨[.row ([wC1, wC2].map Change.pv), .int .i64 7, .row (wM2.map Sub.pv)], _, .inl (by simp only [go_sem, ↓reduceIte, reduceCtorEq, yA, yB, uA, uB, uC, uD, uE, uF, Change.pv, wC1, wC2, List.map_cons, List.map_nil, decide_true, decide_false]), c7, .inr (.inl ⟨_, rfl, rfl, rfl⟩)⟩⟩ ?_
  refine V.exec 400 ?_
  have h1 : ((1 : Nat) : Int) = 1 := rfl
  simp +contextual (maxSteps := 1000000) only [go_sem, ↓reduceIte, reduceCtorEq, yA, yB, uA, uB, uC, uD, uE, uF, List.map_cons, List.map_nil, h1]
  refine V.call rfl rfl (by simp [dOK]) ⟨14, [], by simp only [go_sem, ↓reduceIte, reduceCtorEq, yA, yB, uA, uB, uC, uD, uE, uF], ⟨_, rfl, rfl, rfl⟩, .inl ⟨[.int .i64 2, .row (wM2.map Sub.pv)], _, .inl (by simp only [go_sem, ↓reduceIte, reduceCtorEq, yA, yB, uA, uB, uC, uD, uE, uF]), c8, .inl ⟨_, rfl, rfl, rfl, rfl⟩⟩⟩ ?_
  refine V.exec 400 ?_
  simp +contextual (maxSteps := 1000000) only [go_sem, ↓reduceIte, reduceCtorEq, yA, yB, uA, uB, uC, uD, uE, uF]
  refine V.call rfl rfl (by simp [dOK]) ⟨13, [], by simp only [go_sem, ↓reduceIte, reduceCtorEq, yA, yB, uA, uB, uC, uD, uE, uF], ⟨_, rfl, rfl, rfl⟩, .inl ⟨[.row (wM2.map Sub.pv)], _, .inl (by simp only [go_sem, ↓reduceIte, reduceCtorEq, yA, yB, uA, uB, uC, uD, uE, uF]), c9, .inl ⟨_, rfl, rfl, rfl, rfl⟩⟩⟩ ?_
  refine V.exec 400 ?_
  simp +contextual (maxSteps := 1000000) only [go_sem, ↓reduceIte, reduceCtorEq, yA, yB, uA, uB, uC, uD, uE, uF, wv10, decide_true]
end Go.Proofs.Ytjbfcmaiejlnbaa
set_option linter.unusedVariables false
set_option linter.unusedSimpArgs false
set_option maxRecDepth 8000
namespace Go.Proofs.Ytjbfcmaiejlnbaa
open Go Go.Proofs Go.Proofs.YtjbfcmaiejlnbaaVm Go.Proofs.Ytjbfcmaiejlnbaa.Ty

theorem gapAt_ge : ∀ (l : List Sub) (b : Nat), b ≤ gapAt b l
  | [], b => Nat.le_refl b
  | s :: r, b => by
    unfold gapAt
    split
    · have := gapAt_ge r (b + 1); omega
    · exact Nat.le_refl b
theorem gapAt_le : ∀ (l : List Sub) (b : Nat), gapAt b l ≤ b + l.length
  | [], b => Nat.le_refl b
  | s :: r, b => by
    unfold gapAt
    split
    · have := gapAt_le r (b + 1); simp only [List.length_cons]; omega
    · omega
theorem gap_not : ∀ (l : List Sub) (b : Nat), rightFrom (b : Int) l → ∀ s ∈ l, s.id ≠ (gapAt b l : Int) + 1
  | s :: r, b, h, y, hy => by
    have hr := above r h.2.2
    unfold gapAt
    split
    · rename_i hs
      have hg := gapAt_ge r (b + 1)
      rcases List.mem_cons.1 hy with rfl | hy
      · omega
      · have h2 : rightFrom ((b + 1 : Nat) : Int) r := by have := h.2.2; rw [hs] at this; exact_mod_cast this
        exact gap_not r (b + 1) h2 y hy
    · rename_i hs
      have h1 := h.2.1
      rcases List.mem_cons.1 hy with rfl | hy
      · omega
      · have := hr y hy
        omega
theorem rightFrom_weaken : ∀ (l : List Sub) {a b : Int}, b ≤ a → rightFrom a l → rightFrom b l
  | [], _, _, _, _ => trivial
  | c :: r, a, b, h, ht => ⟨ht.1, by have := ht.2.1; omega, ht.2.2⟩
theorem rightFrom_filter (p : Sub → Bool) : ∀ (l : List Sub) (a : Int), rightFrom a l → rightFrom a (l.filter p)
  | [], _, _ => trivial
  | c :: r, a, ht => by
    rw [List.filter_cons]
    split
    · exact ⟨ht.1, ht.2.1, rightFrom_filter p r _ ht.2.2⟩
    · exact rightFrom_weaken _ (by have := ht.2.1; omega) (rightFrom_filter p r _ ht.2.2)
theorem floorOf_iff : ∀ (l : List Sub) (h m : Int), floorOf h l = m ↔ (m ≤ h ∧ (∀ s ∈ l, m ≤ s.cur)) ∧ (m = h ∨ ∃ s ∈ l, m = s.cur)
  | [], h, m => by simp [floorOf]; omega
  | s :: r, h, m => by
    rw [floorOf, floorOf_iff r]
    constructor
    · rintro ⟨⟨a, b⟩, c⟩
      refine ⟨⟨by omega, fun x hx => ?_⟩, ?_⟩
      · rcases List.mem_cons.1 hx with rfl | hx
        · omega
        · exact b x hx
      · rcases c with c | ⟨x, hx, c⟩
        · by_cases hh : h ≤ s.cur
          · exact .inl (by omega)
          · exact .inr ⟨s, List.mem_cons_self, by omega⟩
        · exact .inr ⟨x, List.mem_cons_of_mem _ hx, c⟩
    · rintro ⟨⟨a, b⟩, c⟩
      have hs := b s List.mem_cons_self
      refine ⟨⟨by omega, fun x hx => b x (List.mem_cons_of_mem _ hx)⟩, ?_⟩
      rcases c with c | ⟨x, hx, c⟩
      · exact .inl (by omega)
      · rcases List.mem_cons.1 hx with rfl | hx
        · exact .inl (by omega)
        · exact .inr ⟨x, hx, c⟩
theorem gap_right {s : Sub} (hs : s.ok) : ∀ (l : List Sub) (b : Nat), rightFrom (b : Int) l → rightFrom (b : Int) (l.take (gapAt b l - b) ++ [{ s with id := (gapAt b l : Int) + 1 }] ++ l.drop (gapAt b l - b))
  | [], b, _ => by
    simp only [List.take_nil, List.drop_nil, List.nil_append, List.append_nil, gapAt]
    exact ⟨hs, by show (b : Int) < (b : Int) + 1; omega, trivial⟩
  | x :: r, b, h => by
    unfold gapAt
    split
    · rename_i hx
      have hg := gapAt_ge r (b + 1)
      have h2 : rightFrom ((b + 1 : Nat) : Int) r := by have := h.2.2; rw [hx] at this; exact this
      have ih := gap_right hs r (b + 1) h2
      obtain ⟨m, hm⟩ : ∃ m, gapAt (b + 1) r - b = m + 1 := ⟨gapAt (b + 1) r - b - 1, by omega⟩
      have hm2 : gapAt (b + 1) r - (b + 1) = m := by omega
      rw [hm2] at ih
      rw [hm, List.take_succ_cons, List.drop_succ_cons]
      refine ⟨h.1, h.2.1, ?_⟩
      have e : x.id = ((b + 1 : Nat) : Int) := by rw [hx]; omega
      rw [e]
      exact ih
    · rename_i hx
      rw [Nat.sub_self]
      have h1 := h.2.1
      exact ⟨hs, by show (b : Int) < (b : Int) + 1; omega, h.1, by show (b : Int) + 1 < x.id; omega, h.2.2⟩

/-- Who is found under whose Id. -/
theorem findL_of : ∀ (l : List Sub) (last : Int), rightFrom last l → ∀ s ∈ l, findL l s.id = some s
  | x :: l, last, h, s, hs => by
    unfold findL
    rcases List.mem_cons.1 hs with rfl | hs
    · simp
    · have hx := above l h.2.2 s hs
      have hne : decide (x.id = s.id) = false := by simp; omega
      rw [List.find?_cons, hne]
      exact findL_of l x.id h.2.2 s hs
theorem ids_nodup : ∀ (l : List Sub) (last : Int), rightFrom last l → (l.map (·.id)).Nodup
  | [], _, _ => List.nodup_nil
  | x :: l, last, h => by
    rw [List.map_cons, List.nodup_cons]
    refine ⟨fun hm => ?_, ids_nodup l x.id h.2.2⟩
    obtain ⟨y, hy, e⟩ := List.mem_map.1 hm
    have := above l h.2.2 y hy
    omega

theorem nodup_inj {α β : Type} (f : α → β) : ∀ (l : List α), (l.map f).Nodup → ∀ x ∈ l, ∀ y ∈ l, f x = f y → x = y
  | z :: l, h, x, hx, y, hy, e => by
    rw [List.map_cons, List.nodup_cons] at h
    rcases List.mem_cons.1 hx with hx | hx <;> rcases List.mem_cons.1 hy with hy | hy
    · rw [hx, hy]
    · exact absurd (List.mem_map.2 ⟨y, hy, by rw [← e, hx]⟩) h.1
    · exact absurd (List.mem_map.2 ⟨x, hx, by rw [e, hy]⟩) h.1
    · exact nodup_inj f l h.2 x hx y hy e

/-- The subscribers, and the map that tells their Cursors. -/
structure Keeps (l : List Sub) (es : List Ent) (clock : Nat) : Prop where
  ok : subsOk l
  ids : ∀ s ∈ l, 1 ≤ s.id ∧ s.id ≤ 4
  corr : (es.map fun e => (e.1, e.2.1)).Perm (l.map fun s => (s.id, s.cur))
  born : (es.map (·.2.2)).Nodup
  lt : ∀ e ∈ es, e.2.2 < clock

theorem Keeps.nil : Keeps [] [] 0 := ⟨⟨trivial, by simp⟩, by simp, by simp, by simp, by simp⟩
section
variable {l : List Sub} {es : List Ent} {clock : Nat}
theorem Keeps.len (h : Keeps l es clock) : es.length = l.length := by simpa using h.corr.length_eq
theorem Keeps.keys (h : Keeps l es clock) : (es.map (·.1)).Nodup := by
  have h1 := h.corr.map (·.1)
  rw [List.map_map, List.map_map] at h1
  exact (h1.nodup_iff).2 (ids_nodup l 0 h.ok.1)
theorem Keeps.of_ent (h : Keeps l es clock) {e : Ent} (he : e ∈ es) : ∃ s ∈ l, s.id = e.1 ∧ s.cur = e.2.1 ∧ findV l e.1 = (s, 0) := by
  have : (e.1, e.2.1) ∈ l.map fun s => (s.id, s.cur) := h.corr.mem_iff.1 (List.mem_map.2 ⟨e, he, rfl⟩)
  obtain ⟨s, hs, hse⟩ := List.mem_map.1 this
  obtain ⟨h1, h2⟩ := Prod.mk.inj hse
  refine ⟨s, hs, h1, h2, ?_⟩
  unfold findV
  rw [if_pos h.ok, ← h1, findL_of l 0 h.ok.1 s hs]
theorem Keeps.of_sub (h : Keeps l es clock) {s : Sub} (hs : s ∈ l) : ∃ e ∈ es, e.1 = s.id ∧ e.2.1 = s.cur := by
  have : (s.id, s.cur) ∈ es.map fun e => (e.1, e.2.1) := h.corr.mem_iff.2 (List.mem_map.2 ⟨s, hs, rfl⟩)
  obtain ⟨e, he, hse⟩ := List.mem_map.1 this
  obtain ⟨h1, h2⟩ := Prod.mk.inj hse
  exact ⟨e, he, h1, h2⟩
theorem Keeps.there (h : Keeps l es clock) {n : Int} {e : Ent} (hf : es.find? (keyIs n) = some e) : (leaveV l n).2 = 0 := by
  have he := List.mem_of_find?_eq_some hf
  have hk : e.1 = n := by have := List.find?_some hf; simpa [keyIs] using this
  obtain ⟨s, hs, h1, h2, h3⟩ := h.of_ent he
  rw [hk] at h3
  unfold leaveV
  simp [h3]
theorem Keeps.gone (h : Keeps l es clock) {n : Int} (hf : es.find? (keyIs n) = none) : (leaveV l n).2 ≠ 0 := by
  have hn : findL l n = none := by
    cases hc : findL l n with
    | none => rfl
    | some s =>
      have hs := List.mem_of_find?_eq_some hc
      have hid : s.id = n := by have := List.find?_some hc; simpa using this
      obtain ⟨e, he, h1, h2⟩ := h.of_sub hs
      have := List.find?_eq_none.1 hf e he
      simp [keyIs, h1, hid] at this
  unfold leaveV findV
  simp [h.ok, hn]
theorem eraseP_filter (n : Int) : ∀ (es : List Ent), (es.map (·.1)).Nodup → es.eraseP (keyIs n) = es.filter fun e => !keyIs n e
  | [], _ => rfl
  | e :: es, h => by
    rw [List.map_cons, List.nodup_cons] at h
    by_cases hk : keyIs n e = true
    · have hn : ∀ x ∈ es, (!keyIs n x) = true := fun x hx => by
        have h1 : e.1 = n := by simpa [keyIs] using hk
        have h2 : x.1 ≠ n := fun e' => h.1 (List.mem_map.2 ⟨x, hx, by rw [e', h1]⟩)
        simpa [keyIs] using h2
      rw [List.eraseP_cons_of_pos hk, List.filter_cons, if_neg (by simp [hk]), List.filter_eq_self.2 hn]
    · rw [List.eraseP_cons_of_neg hk, List.filter_cons, if_pos (by simpa using hk), eraseP_filter n es h.2]
theorem Keeps.leave (h : Keeps l es clock) (n : Int) : Keeps (leaveV l n).1 (es.eraseP (keyIs n)) clock := by
  have hl : (leaveV l n).1 = l.filter fun s => !decide (s.id = n) := by
    unfold leaveV
    split
    · rfl
    · rename_i hne
      symm
      refine List.filter_eq_self.2 fun s hs => ?_
      by_cases hid : s.id = n
      · exfalso
        apply hne
        have := findL_of l 0 h.ok.1 s hs
        rw [hid] at this
        unfold findV
        simp [h.ok, this]
      · simpa using hid
  rw [hl, eraseP_filter n es h.keys]
  refine ⟨⟨rightFrom_filter _ l 0 h.ok.1, Nat.le_trans (List.length_filter_le _ _) h.ok.2⟩, fun s hs => h.ids s (List.mem_filter.1 hs).1, ?_, (List.filter_sublist.map _).nodup h.born, fun e he => h.lt e (List.mem_filter.1 he).1⟩
  have hp := h.corr.filter (fun x => !decide (x.1 = n))
  rw [List.filter_map, List.filter_map] at hp
  have e1 : es.filter ((fun x : Int × Int => !decide (x.1 = n)) ∘ fun e => (e.1, e.2.1)) = es.filter fun e => !keyIs n e := by
    apply List.filter_congr
    intro x _
    by_cases hx : x.1 = n <;> simp [keyIs, hx]
  rw [e1] at hp
  exact hp
theorem Keeps.add (h : Keeps l es clock) (hl : l.length < 4) {s : Sub} (hs : s.ok) : ∃ k : Nat, (addV l s).2.2 = 0 ∧ (addV l s).2.1 = (k : Int) + 1 ∧ k + 1 ≤ 4 ∧ es.find? (keyIs ((k : Int) + 1)) = none ∧
    Keeps (addV l s).1 (es ++ [((k : Int) + 1, s.cur, clock)]) (clock + 1) := by
  have hadd : addV l s = (l.take (gapAt 0 l) ++ [{ s with id := (gapAt 0 l : Int) + 1 }] ++ l.drop (gapAt 0 l), (gapAt 0 l : Int) + 1, 0) := by
    unfold addV
    rw [if_pos ⟨h.ok, hs⟩, if_neg (by omega)]
  have hle := gapAt_le l 0
  have hno := gap_not l 0 h.ok.1
  refine ⟨gapAt 0 l, by rw [hadd], by rw [hadd], by omega, ?_, ?_⟩
  · refine List.find?_eq_none.2 fun e he => ?_
    obtain ⟨x, hx, h1, _⟩ := h.of_ent he
    have := hno x hx
    simp only [keyIs, beq_iff_eq]
    omega
  · rw [hadd]
    have hr := gap_right hs l 0 h.ok.1
    rw [Nat.sub_zero] at hr
    refine ⟨⟨hr, by simp; omega⟩, fun x hx => ?_, ?_, ?_, fun e he => ?_⟩
    · simp only [List.append_assoc, List.mem_append, List.mem_cons, List.not_mem_nil, or_false] at hx
      rcases hx with hx | rfl | hx
      · exact h.ids x (List.mem_of_mem_take hx)
      · refine ⟨?_, ?_⟩
        · show 1 ≤ (gapAt 0 l : Int) + 1; omega
        · show (gapAt 0 l : Int) + 1 ≤ 4; omega
      · exact h.ids x (List.mem_of_mem_drop hx)
    · rw [List.map_append, List.map_append, List.map_append, List.map_cons, List.map_nil, List.map_cons, List.map_nil]
      have h1 := h.corr.append_right [((gapAt 0 l : Int) + 1, s.cur)]
      refine h1.trans ?_
      have h2 : l.map (fun s => (s.id, s.cur)) = (l.take (gapAt 0 l)).map (fun s => (s.id, s.cur)) ++ (l.drop (gapAt 0 l)).map (fun s => (s.id, s.cur)) := by
        rw [← List.map_append, List.take_append_drop]
      rw [h2, List.append_assoc, List.append_assoc]
      exact List.Perm.append_left _ List.perm_append_comm
    · rw [List.map_append, List.nodup_append]
      refine ⟨h.born, by simp, fun a ha b hb => ?_⟩
      obtain ⟨e, he, rfl⟩ := List.mem_map.1 ha
      have := h.lt e he
      simp only [List.map_cons, List.map_nil, List.mem_cons, List.not_mem_nil, or_false] at hb
      omega
    · rcases List.mem_append.1 he with he | he
      · have := h.lt e he; omega
      · simp only [List.mem_cons, List.not_mem_nil, or_false] at he
        rw [he]; exact Nat.lt_succ_self _
theorem Keeps.full (h : Keeps l es clock) (hl : ¬ l.length < 4) (s : Sub) (hs : s.ok) : addV l s = (l, 0, 7) := by
  unfold addV
  rw [if_pos ⟨h.ok, hs⟩, if_pos (by omega)]

theorem find_bornIs : ∀ (es : List Ent), (es.map (·.2.2)).Nodup → ∀ e ∈ es, es.find? (bornIs e.2.2) = some e
  | x :: es, h, e, he => by
    rw [List.map_cons, List.nodup_cons] at h
    rcases List.mem_cons.1 he with rfl | he
    · simp [bornIs]
    · have hne : bornIs e.2.2 x = false := by
        have : x.2.2 ≠ e.2.2 := fun e' => h.1 (List.mem_map.2 ⟨e, he, e'.symm⟩)
        simpa [bornIs] using this
      rw [List.find?_cons, hne]
      exact find_bornIs es h.2 e he
theorem filter_less {α : Type} (p q : α → Bool) (hpq : ∀ x, q x = true → p x = true) (e : α) (hp : p e = true) (hq : q e = false) : ∀ l : List α, e ∈ l → (l.filter q).length < (l.filter p).length
  | x :: l, he => by
    have hle : ∀ l : List α, (l.filter q).length ≤ (l.filter p).length := fun l => by
      induction l with
      | nil => exact Nat.le_refl _
      | cons y l ih =>
        cases h1 : q y with
        | true => simp [h1, hpq y h1, ih]
        | false => cases h2 : p y <;> simp [h1, h2] <;> omega
    rcases List.mem_cons.1 he with h | h
    · subst h
      have := hle l
      simp [hp, hq]; omega
    · have ih := filter_less p q hpq e hp hq l h
      cases h1 : q x with
      | true => simp [h1, hpq x h1, ih]
      | false => cases h2 : p x <;> simp [h1, h2] <;> omega
theorem left_lt {es : List Ent} {seen : List Nat} {e : Ent} (he : e ∈ leftE es seen) : (leftE es (seen ++ [e.2.2])).length < (leftE es seen).length := by
  have h := List.mem_filter.1 he
  unfold leftE
  exact filter_less (fun x : Ent => !seen.contains x.2.2) (fun x : Ent => !(seen ++ [e.2.2]).contains x.2.2) (fun x hx => by simp at hx ⊢; exact hx.1) e h.2 (by simp) es h.1
/-- The least of those seen. -/
def Least (es : List Ent) (seen : List Nat) (m : Int) : Prop := (m ≤ 2147483647 ∧ ∀ e ∈ es, e.2.2 ∈ seen → m ≤ e.2.1) ∧ (m = 2147483647 ∨ ∃ e ∈ es, e.2.2 ∈ seen ∧ m = e.2.1)
theorem Least.nil : Least es [] 2147483647 := ⟨⟨by omega, fun e _ h => by simp at h⟩, .inl rfl⟩
theorem Least.step (h : Keeps l es clock) {seen : List Nat} {m : Int} (hm : Least es seen m) {e : Ent} (he : e ∈ es) : Least es (seen ++ [e.2.2]) (if e.2.1 < m then e.2.1 else m) := by
  obtain ⟨⟨h1, h2⟩, h3⟩ := hm
  have huniq : ∀ x ∈ es, x.2.2 = e.2.2 → x = e := fun x hx hxe => by
    exact nodup_inj (fun e : Ent => e.2.2) es h.born x hx e he hxe
  refine ⟨⟨by split <;> omega, fun x hx hs => ?_⟩, ?_⟩
  · rcases List.mem_append.1 hs with hs | hs
    · have := h2 x hx hs
      split <;> omega
    · rw [huniq x hx (by simpa using hs)]
      split <;> omega
  · split
    · exact .inr ⟨e, he, by simp, rfl⟩
    · rcases h3 with h3 | ⟨x, hx, hs, h3⟩
      · exact .inl h3
      · exact .inr ⟨x, hx, List.mem_append_left _ hs, h3⟩
theorem Least.all (h : Keeps l es clock) {seen : List Nat} {m : Int} (hm : Least es seen m) (hl : leftE es seen = []) : floorOf 2147483647 l = m := by
  have hall : ∀ e ∈ es, e.2.2 ∈ seen := fun e he => by
    have := List.filter_eq_nil_iff.1 hl e he
    simpa using this
  rw [floorOf_iff]
  obtain ⟨⟨h1, h2⟩, h3⟩ := hm
  refine ⟨⟨h1, fun s hs => ?_⟩, ?_⟩
  · obtain ⟨e, he, _, hc⟩ := h.of_sub hs
    rw [← hc]; exact h2 e he (hall e he)
  · rcases h3 with h3 | ⟨e, he, _, h3⟩
    · exact .inl h3
    · obtain ⟨s, hs, _, hc, _⟩ := h.of_ent he
      exact .inr ⟨s, hs, by rw [hc]; exact h3⟩
end
end Go.Proofs.Ytjbfcmaiejlnbaa
