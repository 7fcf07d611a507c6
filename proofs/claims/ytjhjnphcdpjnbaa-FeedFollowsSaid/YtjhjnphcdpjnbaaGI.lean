/- A part of a proof: functions of the program, walked. -/
import Derived.Test.YtjhjnphcdpjnbaaGH
import Derived.Test.YtjhjnphcdpjnbaaGE
import Derived.Test.YtjhjnphcdpjnbaaGD
set_option linter.unusedVariables false
set_option linter.unusedSimpArgs false
set_option maxRecDepth 8000
namespace Go.Proofs.Ytjhjnphcdpjnbaa
open Go Go.Proofs Go.Proofs.YtjhjnphcdpjnbaaVm Go.Proofs.Ytjhjnphcdpjnbaa.Ty

set_option maxHeartbeats 8000000 in
theorem ref19_Took (s : Sub) (l : List Pair) (t : List Change) (floor n : Int) (hl : l.length ≤ 100000) (ht : t.length ≤ 100000) :
    Ct Try.prog 13 (YtjhjnphcdpjnbaaVm.ops [s.pv, .row (l.map Pair.pv), .row (t.map Change.pv), .int .i64 floor, .int .i64 n]) (.vals [(tookV s l t floor n).1.pv, .int .i64 (tookV s l t floor n).2]) := by
  have hc := ref19_left s l t floor hl ht
  have hlen := leftV_len s l t floor
  have hkeys := @leftV_keys s l t floor
  have hbad : ¬ (s.ok ∧ s.live = false ∧ 0 ≤ n) → tookV s l t floor n = (s, 1) := fun h => by unfold tookV; rw [if_neg h]
  refine Ct.of_V Try.func13 rfl (by simp [YtjhjnphcdpjnbaaVm.ops, Try.f13]) ?_
  refine V.exec 400 ?_
  simp (config := {contextual := true}) only [go_sem, ↓reduceIte, reduceCtorEq, Bool.false_eq_true, Bool.true_eq_false, Nat.reduceAdd, Nat.reduceLT, Nat.reduceEqDiff, Nat.reduceLeDiff, Nat.reduceSub, Nat.reduceMul, Try.f13, Sub.pv]
  refine V.call rfl rfl (by simp [dOK]) ⟨17, [], by simp only [go_sem, ↓reduceIte, reduceCtorEq, Bool.false_eq_true, Bool.true_eq_false, Nat.reduceAdd, Nat.reduceLT, Nat.reduceEqDiff, Nat.reduceLeDiff, Nat.reduceSub, Nat.reduceMul], ⟨_, rfl, rfl, rfl⟩, .inl ⟨[s.pv], _, .inl (by simp only [go_sem, ↓reduceIte, reduceCtorEq, Bool.false_eq_true, Bool.true_eq_false, Nat.reduceAdd, Nat.reduceLT, Nat.reduceEqDiff, Nat.reduceLeDiff, Nat.reduceSub, Nat.reduceMul, Sub.pv]), ref19_Right s, .inl ⟨_, rfl, rfl, rfl, rfl⟩⟩⟩ ?_
  refine V.exec 400 ?_
  by_cases hok : s.ok
  · by_cases hlv : s.live = true
    · have hv := hbad (fun h => by rw [hlv] at h; exact Bool.noConfusion h.2.1)
      simp (config := {contextual := true}) only [go_sem, ↓reduceIte, reduceCtorEq, Bool.false_eq_true, Bool.true_eq_false, Nat.reduceAdd, Nat.reduceLT, Nat.reduceEqDiff, Nat.reduceLeDiff, Nat.reduceSub, Nat.reduceMul, hok, hlv, hv, Sub.pv]
    · have hlf : s.live = false := by simpa using hlv
      by_cases hm : n < 0
      · have hv := hbad (fun h => by omega)
        simp (config := {contextual := true}) only [go_sem, ↓reduceIte, reduceCtorEq, Bool.false_eq_true, Bool.true_eq_false, Nat.reduceAdd, Nat.reduceLT, Nat.reduceEqDiff, Nat.reduceLeDiff, Nat.reduceSub, Nat.reduceMul, hok, hlv, hm, hv, Sub.pv]
      · have hv : tookV s l t floor n = (if (leftV s l t floor).2 = 0 then
            if n > ((leftV s l t floor).1.length : Int) then (s, 9)
            else if n = ((leftV s l t floor).1.length : Int) then ({ s with live := true, next := [] }, 0)
            else match (leftV s l t floor).1[n.toNat - 1]? with
              | some x => if 0 < n then ({ s with next := x.key ++ [0] }, 0) else (s, 0)
              | none => (s, 0)
          else (s, (leftV s l t floor).2) : Sub × Int) := by unfold tookV; rw [if_pos ⟨hok, hlf, by omega⟩]; first | done | rfl
        obtain ⟨p, e, hp⟩ : ∃ p e, leftV s l t floor = (p, e) := ⟨_, _, rfl⟩
        rw [hp] at hc hlen hv hkeys
        simp only at hc hlen hv hkeys
        simp (config := {contextual := true}) only [go_sem, ↓reduceIte, reduceCtorEq, Bool.false_eq_true, Bool.true_eq_false, Nat.reduceAdd, Nat.reduceLT, Nat.reduceEqDiff, Nat.reduceLeDiff, Nat.reduceSub, Nat.reduceMul, hok, hlv, hm]
        refine V.call rfl rfl (by simp [dOK]) ⟨28, [], by simp only [go_sem, ↓reduceIte, reduceCtorEq, Bool.false_eq_true, Bool.true_eq_false, Nat.reduceAdd, Nat.reduceLT, Nat.reduceEqDiff, Nat.reduceLeDiff, Nat.reduceSub, Nat.reduceMul], ⟨_, rfl, rfl, rfl⟩, .inl ⟨[s.pv, .row (l.map Pair.pv), .row (t.map Change.pv), .int .i64 floor], _, .inl (by simp only [go_sem, ↓reduceIte, reduceCtorEq, Bool.false_eq_true, Bool.true_eq_false, Nat.reduceAdd, Nat.reduceLT, Nat.reduceEqDiff, Nat.reduceLeDiff, Nat.reduceSub, Nat.reduceMul, Sub.pv, hlv]), hc, .inr (.inl ⟨_, rfl, rfl, rfl⟩)⟩⟩ ?_
        refine V.exec 400 ?_
        by_cases he : e = 0
        · subst he
          rw [if_pos rfl] at hv
          by_cases h9 : (p.length : Int) < n
          · rw [if_pos h9] at hv
            simp (config := {contextual := true}) only [go_sem, ↓reduceIte, reduceCtorEq, Bool.false_eq_true, Bool.true_eq_false, Nat.reduceAdd, Nat.reduceLT, Nat.reduceEqDiff, Nat.reduceLeDiff, Nat.reduceSub, Nat.reduceMul, hlv, h9, hv, Sub.pv]
          · rw [if_neg h9] at hv
            by_cases hn : n = (p.length : Int)
            · subst hn
              rw [if_pos rfl] at hv
              simp (config := {contextual := true}) only [go_sem, ↓reduceIte, reduceCtorEq, Bool.false_eq_true, Bool.true_eq_false, Nat.reduceAdd, Nat.reduceLT, Nat.reduceEqDiff, Nat.reduceLeDiff, Nat.reduceSub, Nat.reduceMul, hlv, h9, hv, Sub.pv, decide_true]
            · rw [if_neg hn] at hv
              by_cases h0 : 0 < n
              · obtain ⟨x, hx⟩ : ∃ x, p[n.toNat - 1]? = some x := ⟨_, List.getElem?_eq_getElem (by omega)⟩
                have hxk := hkeys x (List.mem_of_getElem? hx)
                rw [hx] at hv
                simp only [h0, if_true] at hv
                have hw : IntKind.i64.wrap (n - 1) = ((n.toNat - 1 : Nat) : Int) := by rw [wrap_small3] <;> omega
                have hlt : ((n.toNat - 1 : Nat) : Int) < (p.length : Int) := by omega
                have hn0 : ¬ n = 0 := by omega
                simp (config := {contextual := true}) only [go_sem, ↓reduceIte, reduceCtorEq, Bool.false_eq_true, Bool.true_eq_false, Nat.reduceAdd, Nat.reduceLT, Nat.reduceEqDiff, Nat.reduceLeDiff, Nat.reduceSub, Nat.reduceMul, hlv, h9, hn, h0, hn0, hw, hlt, hx, hv, Pair.pv, Sub.pv]
                (repeat' (first | (intro _) | (refine ⟨by kernel_rfl, ?_⟩) | (apply And.intro)))
                all_goals first | omega | kernel_rfl
              · have hv2 : tookV s l t floor n = (s, 0) := by
                  rw [hv]; split <;> simp [h0]
                have hn0 : n = 0 := by omega
                subst hn0
                simp (config := {contextual := true}) only [go_sem, ↓reduceIte, reduceCtorEq, Bool.false_eq_true, Bool.true_eq_false, Nat.reduceAdd, Nat.reduceLT, Nat.reduceEqDiff, Nat.reduceLeDiff, Nat.reduceSub, Nat.reduceMul, hlv, h9, hn, h0, hv2, Sub.pv]
        · rw [if_neg he] at hv
          simp (config := {contextual := true}) only [go_sem, ↓reduceIte, reduceCtorEq, Bool.false_eq_true, Bool.true_eq_false, Nat.reduceAdd, Nat.reduceLT, Nat.reduceEqDiff, Nat.reduceLeDiff, Nat.reduceSub, Nat.reduceMul, he, hlv, hv, Sub.pv]
  · have hv := hbad (fun h => hok h.1)
    simp (config := {contextual := true}) only [go_sem, ↓reduceIte, reduceCtorEq, Bool.false_eq_true, Bool.true_eq_false, Nat.reduceAdd, Nat.reduceLT, Nat.reduceEqDiff, Nat.reduceLeDiff, Nat.reduceSub, Nat.reduceMul, hok, hv, Sub.pv]

set_option maxHeartbeats 8000000 in
theorem ref19_Ack (s : Sub) (head seq : Int) :
    Ct Try.prog 15 (YtjhjnphcdpjnbaaVm.ops [s.pv, .int .i64 head, .int .i64 seq]) (.vals [(ackV s head seq).1.pv, .int .i64 (ackV s head seq).2]) := by
  have hbad : ¬ (s.ok ∧ s.live = true ∧ s.cur ≤ seq) → ackV s head seq = (s, 1) := fun h => by unfold ackV; rw [if_neg h]
  refine Ct.of_V Try.func15 rfl (by simp [YtjhjnphcdpjnbaaVm.ops, Try.f15]) ?_
  refine V.exec 400 ?_
  simp (config := {contextual := true}) only [go_sem, ↓reduceIte, reduceCtorEq, Bool.false_eq_true, Bool.true_eq_false, Nat.reduceAdd, Nat.reduceLT, Nat.reduceEqDiff, Nat.reduceLeDiff, Nat.reduceSub, Nat.reduceMul, Try.f15, Sub.pv]
  refine V.call rfl rfl (by simp [dOK]) ⟨17, [], by simp only [go_sem, ↓reduceIte, reduceCtorEq, Bool.false_eq_true, Bool.true_eq_false, Nat.reduceAdd, Nat.reduceLT, Nat.reduceEqDiff, Nat.reduceLeDiff, Nat.reduceSub, Nat.reduceMul], ⟨_, rfl, rfl, rfl⟩, .inl ⟨[s.pv], _, .inl (by simp only [go_sem, ↓reduceIte, reduceCtorEq, Bool.false_eq_true, Bool.true_eq_false, Nat.reduceAdd, Nat.reduceLT, Nat.reduceEqDiff, Nat.reduceLeDiff, Nat.reduceSub, Nat.reduceMul, Sub.pv]), ref19_Right s, .inl ⟨_, rfl, rfl, rfl, rfl⟩⟩⟩ ?_
  refine V.exec 400 ?_
  by_cases hok : s.ok
  · by_cases hlv : s.live = true
    · by_cases hm : seq < s.cur
      · have hv := hbad (fun h => by omega)
        simp (config := {contextual := true}) only [go_sem, ↓reduceIte, reduceCtorEq, Bool.false_eq_true, Bool.true_eq_false, Nat.reduceAdd, Nat.reduceLT, Nat.reduceEqDiff, Nat.reduceLeDiff, Nat.reduceSub, Nat.reduceMul, hok, hlv, hm, hv, Sub.pv]
      · by_cases hh : head < seq
        · have hv : ackV s head seq = (s, 9) := by unfold ackV; rw [if_pos ⟨hok, hlv, by omega⟩, if_pos hh]
          simp (config := {contextual := true}) only [go_sem, ↓reduceIte, reduceCtorEq, Bool.false_eq_true, Bool.true_eq_false, Nat.reduceAdd, Nat.reduceLT, Nat.reduceEqDiff, Nat.reduceLeDiff, Nat.reduceSub, Nat.reduceMul, hok, hlv, hm, hh, hv, Sub.pv]
        · have hv : ackV s head seq = ({ s with cur := seq }, 0) := by unfold ackV; rw [if_pos ⟨hok, hlv, by omega⟩, if_neg hh]
          have hn := hok.2.2.1 hlv
          simp (config := {contextual := true}) only [go_sem, ↓reduceIte, reduceCtorEq, Bool.false_eq_true, Bool.true_eq_false, Nat.reduceAdd, Nat.reduceLT, Nat.reduceEqDiff, Nat.reduceLeDiff, Nat.reduceSub, Nat.reduceMul, hok, hlv, hm, hh, hv, hn, Sub.pv]
    · have hv := hbad (fun h => hlv h.2.1)
      simp (config := {contextual := true}) only [go_sem, ↓reduceIte, reduceCtorEq, Bool.false_eq_true, Bool.true_eq_false, Nat.reduceAdd, Nat.reduceLT, Nat.reduceEqDiff, Nat.reduceLeDiff, Nat.reduceSub, Nat.reduceMul, hok, hlv, hv, Sub.pv]
  · have hv := hbad (fun h => hok h.1)
    simp (config := {contextual := true}) only [go_sem, ↓reduceIte, reduceCtorEq, Bool.false_eq_true, Bool.true_eq_false, Nat.reduceAdd, Nat.reduceLT, Nat.reduceEqDiff, Nat.reduceLeDiff, Nat.reduceSub, Nat.reduceMul, hok, hv, Sub.pv]

/-- The first ones of what one is told, as the document counts them. -/
theorem sinceA_snoc {t : List Change} {i : Nat} {x : Change} (hx : t[i]? = some x) (s : Sub) : sinceA (t.take (i + 1)) s = if s.cur < x.seq ∧ s.r.isIn x.key then sinceA (t.take i) s ++ [x] else sinceA (t.take i) s := by
  unfold sinceA
  rw [List.take_add_one, hx, List.filter_append]
  by_cases h : s.cur < x.seq ∧ s.r.isIn x.key
  · simp [h]
  · rw [if_neg h]; simp [h]
theorem sinceA_pre (t : List Change) (s : Sub) (i : Nat) : (sinceA t s).take (sinceA (t.take i) s).length = sinceA (t.take i) s := by
  have : sinceA t s = sinceA (t.take i) s ++ sinceA (t.drop i) s := by
    unfold sinceA
    rw [← List.filter_append, List.take_append_drop]
  rw [this, List.take_left]

set_option maxHeartbeats 8000000 in
theorem ref16_Since (s : Sub) (t : List Change) (most : Int) (ht : t.length ≤ 100000) (hm : 0 ≤ most) :
    Ct Try.prog 29 (YtjhjnphcdpjnbaaVm.ops [.row (t.map Change.pv), .int .i64 s.cur, .int .i64 most, .row ([s.r].map Range.pv)]) (.vals [.row (((sinceA t s).take (cutM most (sinceA t s).length)).map Change.pv)]) := by
  refine Ct.of_V Try.func29 rfl (by simp [YtjhjnphcdpjnbaaVm.ops, Try.f29]) ?_
  refine V.exec 400 ?_
  simp (config := {contextual := true}) only [go_sem, ↓reduceIte, reduceCtorEq, Bool.false_eq_true, Bool.true_eq_false, Nat.reduceAdd, Nat.reduceLT, Nat.reduceEqDiff, Nat.reduceLeDiff, Nat.reduceSub, Nat.reduceMul, Try.f29]
  refine V.loop (fun m ls os => ∃ (i : Nat), i ≤ t.length ∧ m = t.length - i ∧ ((sinceA (t.take i) s).length : Int) ≤ most ∧
        ls = [(0, .val (.row (t.map Change.pv))), (1, .val (.int .i64 s.cur)), (2, .val (.int .i64 most)), (3, .val (.row ([s.r].map Range.pv))), (9, .ref 0), (10, .val (.int .i64 i))] ∧ os = [.row 70 ((sinceA (t.take i) s).map Change.pv)]) 1 t.length
      [(0, .val (.row (t.map Change.pv))), (1, .val (.int .i64 s.cur)), (2, .val (.int .i64 most)), (3, .val (.row ([s.r].map Range.pv))), (9, .ref 0), (10, .val (.int .i64 0))] [.row 70 []] [none]
      ⟨0, Nat.zero_le _, rfl, hm, rfl, rfl⟩ (by simp only [go_sem, ↓reduceIte, reduceCtorEq, Bool.false_eq_true, Bool.true_eq_false, Nat.reduceAdd, Nat.reduceLT, Nat.reduceEqDiff, Nat.reduceLeDiff, Nat.reduceSub, Nat.reduceMul]; try decide) ?_
  rintro m ls os ⟨i, hi, rfl, him, rfl, rfl⟩
  have hpl : (sinceA (t.take i) s).length ≤ t.length := Nat.le_trans (sinceA_len _ _) (by rw [List.length_take]; omega)
  have hpre := sinceA_pre t s i
  have hle : (sinceA (t.take i) s).length ≤ (sinceA t s).length := by
    have := congrArg List.length hpre
    rw [List.length_take] at this; omega
  have hend : ¬ (i < t.length ∧ ((sinceA (t.take i) s).length : Int) < most) → (sinceA t s).take (cutM most (sinceA t s).length) = sinceA (t.take i) s := fun h => by
    by_cases h2 : ((sinceA (t.take i) s).length : Int) = most
    · have e : cutM most (sinceA t s).length = (sinceA (t.take i) s).length := by unfold cutM; omega
      rw [e, hpre]
    · have h3 : t.take i = t := List.take_of_length_le (by omega)
      rw [h3] at him h2 ⊢
      rw [List.take_of_length_le]
      unfold cutM; omega
  by_cases hlt : i < t.length
  · have hlt' : (i : Int) < (t.length : Int) := by omega
    obtain ⟨x, hx⟩ : ∃ x, t[i]? = some x := ⟨_, List.getElem?_eq_getElem hlt⟩
    have hw : IntKind.i64.wrap ((i : Int) + 1) = ((i + 1 : Nat) : Int) := by rw [wrap_small3] <;> omega
    have hn := sinceA_snoc hx s
    by_cases hmo : ((sinceA (t.take i) s).length : Int) < most
    · generalize sinceA (t.take i) s = L at *
      refine V.exec 400 ?_
      simp (config := {contextual := true}) only [go_sem, ↓reduceIte, reduceCtorEq, Bool.false_eq_true, Bool.true_eq_false, Nat.reduceAdd, Nat.reduceLT, Nat.reduceEqDiff, Nat.reduceLeDiff, Nat.reduceSub, Nat.reduceMul, hlt', hmo, hx, Change.pv]
      refine V.loop (fun m ls os => ∃ (k : Nat) (b : Bool), k ≤ 1 ∧ m = 1 - k ∧ b = (if k = 0 then decide (s.cur < x.seq) else decide (s.cur < x.seq ∧ s.r.isIn x.key)) ∧
          ls = [(0, .val (.row (t.map Change.pv))), (1, .val (.int .i64 s.cur)), (2, .val (.int .i64 most)), (3, .val (.row ([s.r].map Range.pv))), (9, .ref 0), (10, .val (.int .i64 i)), (11, .val (.bool b)), (12, .val (.int .i64 k))] ∧ os = [.row 70 (L.map Change.pv)]) 1 1
        [(0, .val (.row (t.map Change.pv))), (1, .val (.int .i64 s.cur)), (2, .val (.int .i64 most)), (3, .val (.row ([s.r].map Range.pv))), (9, .ref 0), (10, .val (.int .i64 i)), (11, .val (.bool (decide (s.cur < x.seq)))), (12, .val (.int .i64 0))] [.row 70 (L.map Change.pv)] [some 0]
        ⟨0, _, Nat.zero_le _, rfl, rfl, rfl, rfl⟩ (by simp only [go_sem, ↓reduceIte, reduceCtorEq, Bool.false_eq_true, Bool.true_eq_false, Nat.reduceAdd, Nat.reduceLT, Nat.reduceEqDiff, Nat.reduceLeDiff, Nat.reduceSub, Nat.reduceMul, Range.pv, List.map_cons, List.map_nil]; try decide) ?_
      rintro m ls os ⟨k, b, hk, rfl, hb, rfl, rfl⟩
      have hk2 : k = 0 ∨ k = 1 := by omega
      rcases hk2 with rfl | rfl
      · rw [if_pos rfl] at hb
        subst hb
        have n1 : ((1 : Nat) : Int) = 1 := rfl
        have n0 : ((0 : Nat) : Int) = 0 := rfl
        have h01 : (0 : Int) < 1 := by decide
        have t0 : Int.toNat 0 = 0 := rfl
        have hw01 : IntKind.i64.wrap (0 + 1) = 1 := by decide
        refine V.exec 400 ?_
        simp (config := {contextual := true}) only [go_sem, ↓reduceIte, reduceCtorEq, Bool.false_eq_true, Bool.true_eq_false, Nat.reduceAdd, Nat.reduceLT, Nat.reduceEqDiff, Nat.reduceLeDiff, Nat.reduceSub, Nat.reduceMul, hlt', hx, Change.pv, Range.pv, List.map_cons, List.map_nil, List.length_cons, List.length_nil, n1, n0, h01, t0, List.getElem?_cons_zero]
        refine ⟨Int.le_refl 0, ?_⟩
        refine DV.call [] [] (by simp only [go_sem, ↓reduceIte, reduceCtorEq, Bool.false_eq_true, Bool.true_eq_false, Nat.reduceAdd, Nat.reduceLT, Nat.reduceEqDiff, Nat.reduceLeDiff, Nat.reduceSub, Nat.reduceMul, Range.pv]) (by simp [dOK]) ⟨37, [], by simp only [go_sem, ↓reduceIte, reduceCtorEq, Bool.false_eq_true, Bool.true_eq_false, Nat.reduceAdd, Nat.reduceLT, Nat.reduceEqDiff, Nat.reduceLeDiff, Nat.reduceSub, Nat.reduceMul, Range.pv], ⟨_, rfl, rfl, rfl⟩, .inl ⟨[s.r.pv, .str x.key], _, .inl (by simp only [go_sem, ↓reduceIte, reduceCtorEq, Bool.false_eq_true, Bool.true_eq_false, Nat.reduceAdd, Nat.reduceLT, Nat.reduceEqDiff, Nat.reduceLeDiff, Nat.reduceSub, Nat.reduceMul, Range.pv]), ref03_In s.r x.key, .inl ⟨_, rfl, rfl, rfl, rfl⟩⟩⟩ (by simp only [go_sem, ↓reduceIte, reduceCtorEq, Bool.false_eq_true, Bool.true_eq_false, Nat.reduceAdd, Nat.reduceLT, Nat.reduceEqDiff, Nat.reduceLeDiff, Nat.reduceSub, Nat.reduceMul, Range.pv]) (by simp only [go_sem, ↓reduceIte, reduceCtorEq, Bool.false_eq_true, Bool.true_eq_false, Nat.reduceAdd, Nat.reduceLT, Nat.reduceEqDiff, Nat.reduceLeDiff, Nat.reduceSub, Nat.reduceMul, Range.pv]) (by simp only [go_sem, ↓reduceIte, reduceCtorEq, Bool.false_eq_true, Bool.true_eq_false, Nat.reduceAdd, Nat.reduceLT, Nat.reduceEqDiff, Nat.reduceLeDiff, Nat.reduceSub, Nat.reduceMul, Range.pv]) (by simp) ?_
        refine DV.exec 400 ?_
        by_cases h1 : s.cur < x.seq
        · by_cases h2 : s.r.isIn x.key
          · simp (config := {contextual := true}) only [go_sem, ↓reduceIte, reduceCtorEq, Bool.false_eq_true, Bool.true_eq_false, Nat.reduceAdd, Nat.reduceLT, Nat.reduceEqDiff, Nat.reduceLeDiff, Nat.reduceSub, Nat.reduceMul, h1, h2, hw01]
            refine ⟨by kernel_rfl, 0, _, _, [some 0], by omega, ⟨1, true, by omega, rfl, by simp [h1, h2], rfl, rfl⟩, ?_⟩
            simp only [go_sem, ↓reduceIte, reduceCtorEq, Bool.false_eq_true, Bool.true_eq_false, Nat.reduceAdd, Nat.reduceLT, Nat.reduceEqDiff, Nat.reduceLeDiff, Nat.reduceSub, Nat.reduceMul, Range.pv, List.map_cons, List.map_nil, n1]
            try decide
          · simp (config := {contextual := true}) only [go_sem, ↓reduceIte, reduceCtorEq, Bool.false_eq_true, Bool.true_eq_false, Nat.reduceAdd, Nat.reduceLT, Nat.reduceEqDiff, Nat.reduceLeDiff, Nat.reduceSub, Nat.reduceMul, h1, h2, hw01]
            refine ⟨by kernel_rfl, 0, _, _, [some 0], by omega, ⟨1, false, by omega, rfl, by simp [h1, h2], rfl, rfl⟩, ?_⟩
            simp only [go_sem, ↓reduceIte, reduceCtorEq, Bool.false_eq_true, Bool.true_eq_false, Nat.reduceAdd, Nat.reduceLT, Nat.reduceEqDiff, Nat.reduceLeDiff, Nat.reduceSub, Nat.reduceMul, Range.pv, List.map_cons, List.map_nil, n1]
            try decide
        · by_cases h2 : s.r.isIn x.key
          · simp (config := {contextual := true}) only [go_sem, ↓reduceIte, reduceCtorEq, Bool.false_eq_true, Bool.true_eq_false, Nat.reduceAdd, Nat.reduceLT, Nat.reduceEqDiff, Nat.reduceLeDiff, Nat.reduceSub, Nat.reduceMul, h1, h2, hw01]
            refine ⟨by kernel_rfl, 0, _, _, [some 0], by omega, ⟨1, false, by omega, rfl, by simp [h1, h2], rfl, rfl⟩, ?_⟩
            simp only [go_sem, ↓reduceIte, reduceCtorEq, Bool.false_eq_true, Bool.true_eq_false, Nat.reduceAdd, Nat.reduceLT, Nat.reduceEqDiff, Nat.reduceLeDiff, Nat.reduceSub, Nat.reduceMul, Range.pv, List.map_cons, List.map_nil, n1]
            try decide
          · simp (config := {contextual := true}) only [go_sem, ↓reduceIte, reduceCtorEq, Bool.false_eq_true, Bool.true_eq_false, Nat.reduceAdd, Nat.reduceLT, Nat.reduceEqDiff, Nat.reduceLeDiff, Nat.reduceSub, Nat.reduceMul, h1, h2, hw01]
            refine ⟨by kernel_rfl, 0, _, _, [some 0], by omega, ⟨1, false, by omega, rfl, by simp [h1, h2], rfl, rfl⟩, ?_⟩
            simp only [go_sem, ↓reduceIte, reduceCtorEq, Bool.false_eq_true, Bool.true_eq_false, Nat.reduceAdd, Nat.reduceLT, Nat.reduceEqDiff, Nat.reduceLeDiff, Nat.reduceSub, Nat.reduceMul, Range.pv, List.map_cons, List.map_nil, n1]
            try decide
      · have e1 : ¬ ((1 : Nat) = 0) := by decide
        rw [if_neg e1] at hb
        subst hb
        have n1 : ((1 : Nat) : Int) = 1 := rfl
        have h11 : ¬ (1 : Int) < 1 := by decide
        refine V.exec 400 ?_
        by_cases hin : s.cur < x.seq ∧ s.r.isIn x.key
        · rw [if_pos hin] at hn
          simp (config := {contextual := true}) only [go_sem, ↓reduceIte, reduceCtorEq, Bool.false_eq_true, Bool.true_eq_false, Nat.reduceAdd, Nat.reduceLT, Nat.reduceEqDiff, Nat.reduceLeDiff, Nat.reduceSub, Nat.reduceMul, List.map_cons, List.map_nil, List.length_cons, List.length_nil, n1, h11, hin, hx, hlt', hw, Change.pv]
          refine ⟨⟨by omega, by omega⟩, t.length - (i + 1), _, _, [some 12], by omega, ⟨i + 1, by omega, rfl, by rw [hn, List.length_append, List.length_singleton]; omega, rfl, rfl⟩, ?_⟩
          simp only [go_sem, ↓reduceIte, reduceCtorEq, Bool.false_eq_true, Bool.true_eq_false, Nat.reduceAdd, Nat.reduceLT, Nat.reduceEqDiff, Nat.reduceLeDiff, Nat.reduceSub, Nat.reduceMul, hn, List.map_append, List.map_cons, List.map_nil, Change.pv, Range.pv]
          try decide
        · rw [if_neg hin] at hn
          simp (config := {contextual := true}) only [go_sem, ↓reduceIte, reduceCtorEq, Bool.false_eq_true, Bool.true_eq_false, Nat.reduceAdd, Nat.reduceLT, Nat.reduceEqDiff, Nat.reduceLeDiff, Nat.reduceSub, Nat.reduceMul, List.map_cons, List.map_nil, List.length_cons, List.length_nil, n1, h11, hin, hx, hlt', hw, Change.pv]
          refine ⟨t.length - (i + 1), _, _, [some 0], by omega, ⟨i + 1, by omega, rfl, by rw [hn]; exact him, rfl, rfl⟩, ?_⟩
          simp only [go_sem, ↓reduceIte, reduceCtorEq, Bool.false_eq_true, Bool.true_eq_false, Nat.reduceAdd, Nat.reduceLT, Nat.reduceEqDiff, Nat.reduceLeDiff, Nat.reduceSub, Nat.reduceMul, hn, Range.pv, List.map_cons, List.map_nil]
          try decide
    · have hv := hend (fun h => hmo h.2)
      rw [hv]
      generalize sinceA (t.take i) s = L at *
      refine V.exec 400 ?_
      simp (config := {contextual := true}) only [go_sem, ↓reduceIte, reduceCtorEq, Bool.false_eq_true, Bool.true_eq_false, Nat.reduceAdd, Nat.reduceLT, Nat.reduceEqDiff, Nat.reduceLeDiff, Nat.reduceSub, Nat.reduceMul, hlt', hmo]
  · have hlt' : ¬ (i : Int) < (t.length : Int) := by omega
    have hv := hend (fun h => hlt h.1)
    rw [hv]
    refine V.exec 400 ?_
    simp (config := {contextual := true}) only [go_sem, ↓reduceIte, reduceCtorEq, Bool.false_eq_true, Bool.true_eq_false, Nat.reduceAdd, Nat.reduceLT, Nat.reduceEqDiff, Nat.reduceLeDiff, Nat.reduceSub, Nat.reduceMul, hlt']
end Go.Proofs.Ytjhjnphcdpjnbaa
set_option linter.unusedVariables false
set_option linter.unusedSimpArgs false
set_option maxRecDepth 8000
namespace Go.Proofs.Ytjhjnphcdpjnbaa
open Go Go.Proofs Go.Proofs.YtjhjnphcdpjnbaaVm Go.Proofs.Ytjhjnphcdpjnbaa.Ty

set_option maxHeartbeats 8000000 in
theorem ref19_Poll (s : Sub) (l : List Pair) (t : List Change) (floor most : Int) (hl : l.length ≤ 100000) (ht : t.length ≤ 100000) :
    Ct Try.prog 11 (YtjhjnphcdpjnbaaVm.ops [s.pv, .row (l.map Pair.pv), .row (t.map Change.pv), .int .i64 floor, .int .i64 most]) (.vals [(pollV s l t floor most).1.pv, .int .i64 (pollV s l t floor most).2]) := by
  have hc := ref19_left s l t floor hl ht
  have hlen := leftV_len s l t floor
  have hbad : ¬ (s.ok ∧ 1 ≤ most) → pollV s l t floor most = (Chunk.zero, 1) := fun h => by unfold pollV; rw [if_neg h]
  refine Ct.of_V Try.func11 rfl (by simp [YtjhjnphcdpjnbaaVm.ops, Try.f11]) ?_
  refine V.exec 400 ?_
  simp (config := {contextual := true}) only [go_sem, ↓reduceIte, reduceCtorEq, Bool.false_eq_true, Bool.true_eq_false, Nat.reduceAdd, Nat.reduceLT, Nat.reduceEqDiff, Nat.reduceLeDiff, Nat.reduceSub, Nat.reduceMul, Try.f11, Sub.pv]
  refine V.call rfl rfl (by simp [dOK]) ⟨17, [], by simp only [go_sem, ↓reduceIte, reduceCtorEq, Bool.false_eq_true, Bool.true_eq_false, Nat.reduceAdd, Nat.reduceLT, Nat.reduceEqDiff, Nat.reduceLeDiff, Nat.reduceSub, Nat.reduceMul], ⟨_, rfl, rfl, rfl⟩, .inl ⟨[s.pv], _, .inl (by simp only [go_sem, ↓reduceIte, reduceCtorEq, Bool.false_eq_true, Bool.true_eq_false, Nat.reduceAdd, Nat.reduceLT, Nat.reduceEqDiff, Nat.reduceLeDiff, Nat.reduceSub, Nat.reduceMul, Sub.pv]), ref19_Right s, .inl ⟨_, rfl, rfl, rfl, rfl⟩⟩⟩ ?_
  refine V.exec 400 ?_
  by_cases hok : s.ok
  · by_cases hm : most < 1
    · have hv := hbad (fun h => by omega)
      simp (config := {contextual := true}) only [go_sem, ↓reduceIte, reduceCtorEq, Bool.false_eq_true, Bool.true_eq_false, Nat.reduceAdd, Nat.reduceLT, Nat.reduceEqDiff, Nat.reduceLeDiff, Nat.reduceSub, Nat.reduceMul, hok, hm, hv, Chunk.zero, Chunk.pv, List.map_nil]
    · have hv : pollV s l t floor most = (if (leftV s l t floor).2 = 0 then
          if s.live = true then (⟨[], (sinceA t s).take (cutM most (sinceA t s).length), decide (cutM most (sinceA t s).length < (sinceA t s).length)⟩, 0)
          else (⟨(leftV s l t floor).1.take (cutM most (leftV s l t floor).1.length), [], decide (cutM most (leftV s l t floor).1.length < (leftV s l t floor).1.length)⟩, 0)
        else (Chunk.zero, (leftV s l t floor).2) : Chunk × Int) := by unfold pollV; rw [if_pos ⟨hok, by omega⟩]
      obtain ⟨p, e, hp⟩ : ∃ p e, leftV s l t floor = (p, e) := ⟨_, _, rfl⟩
      rw [hp] at hc hlen hv
      simp only at hc hlen hv
      simp (config := {contextual := true}) only [go_sem, ↓reduceIte, reduceCtorEq, Bool.false_eq_true, Bool.true_eq_false, Nat.reduceAdd, Nat.reduceLT, Nat.reduceEqDiff, Nat.reduceLeDiff, Nat.reduceSub, Nat.reduceMul, hok, hm]
      refine V.call rfl rfl (by simp [dOK]) ⟨28, [], by simp only [go_sem, ↓reduceIte, reduceCtorEq, Bool.false_eq_true, Bool.true_eq_false, Nat.reduceAdd, Nat.reduceLT, Nat.reduceEqDiff, Nat.reduceLeDiff, Nat.reduceSub, Nat.reduceMul], ⟨_, rfl, rfl, rfl⟩, .inl ⟨[s.pv, .row (l.map Pair.pv), .row (t.map Change.pv), .int .i64 floor], _, .inl (by simp only [go_sem, ↓reduceIte, reduceCtorEq, Bool.false_eq_true, Bool.true_eq_false, Nat.reduceAdd, Nat.reduceLT, Nat.reduceEqDiff, Nat.reduceLeDiff, Nat.reduceSub, Nat.reduceMul, Sub.pv]), hc, .inr (.inl ⟨_, rfl, rfl, rfl⟩)⟩⟩ ?_
      refine V.execS [7] 400 ?_
      by_cases he : e = 0
      · subst he
        rw [if_pos rfl] at hv
        simp (config := {contextual := true}) only [go_sem, ↓reduceIte, reduceCtorEq, Bool.false_eq_true, Bool.true_eq_false, Nat.reduceAdd, Nat.reduceLT, Nat.reduceEqDiff, Nat.reduceLeDiff, Nat.reduceSub, Nat.reduceMul]
        refine V.sem _ (SemCode.zbox (zs := [.nils, .nils, .val (.bool false)]) (by decide) (by decide) (by decide) rfl rfl rfl rfl rfl rfl (by simp only [go_sem, ↓reduceIte, reduceCtorEq, Bool.false_eq_true, Bool.true_eq_false, Nat.reduceAdd, Nat.reduceLT, Nat.reduceEqDiff, Nat.reduceLeDiff, Nat.reduceSub, Nat.reduceMul])) (fun σ' h => ?_)
        subst h
        refine V.exec 400 ?_
        by_cases hlv : s.live = true
        · rw [if_pos hlv] at hv
          have hsl := sinceA_len t s
          have hk1 := ref16_Since s t t.length ht (by omega)
          have hk2 := ref16_Since s t most ht (by omega)
          have hall : (sinceA t s).take (cutM t.length (sinceA t s).length) = sinceA t s := List.take_of_length_le (by unfold cutM; omega)
          rw [hall] at hk1
          have htl : ((sinceA t s).take (cutM most (sinceA t s).length)).length = cutM most (sinceA t s).length := by rw [List.length_take]; unfold cutM; omega
          simp (config := {contextual := true}) only [go_sem, ↓reduceIte, reduceCtorEq, Bool.false_eq_true, Bool.true_eq_false, Nat.reduceAdd, Nat.reduceLT, Nat.reduceEqDiff, Nat.reduceLeDiff, Nat.reduceSub, Nat.reduceMul, hlv]
          refine V.call rfl rfl (by simp [dOK]) ⟨29, [], by simp only [go_sem, ↓reduceIte, reduceCtorEq, Bool.false_eq_true, Bool.true_eq_false, Nat.reduceAdd, Nat.reduceLT, Nat.reduceEqDiff, Nat.reduceLeDiff, Nat.reduceSub, Nat.reduceMul], ⟨_, rfl, rfl, rfl⟩, .inl ⟨[.row (t.map Change.pv), .int .i64 s.cur, .int .i64 t.length, .row ([s.r].map Range.pv)], _, .inl (by simp only [go_sem, ↓reduceIte, reduceCtorEq, Bool.false_eq_true, Bool.true_eq_false, Nat.reduceAdd, Nat.reduceLT, Nat.reduceEqDiff, Nat.reduceLeDiff, Nat.reduceSub, Nat.reduceMul, Range.pv, List.map_cons, List.map_nil]), hk1, .inr (.inl ⟨_, rfl, rfl, rfl⟩)⟩⟩ ?_
          refine V.exec 400 ?_
          simp (config := {contextual := true}) only [go_sem, ↓reduceIte, reduceCtorEq, Bool.false_eq_true, Bool.true_eq_false, Nat.reduceAdd, Nat.reduceLT, Nat.reduceEqDiff, Nat.reduceLeDiff, Nat.reduceSub, Nat.reduceMul]
          refine V.call rfl rfl (by simp [dOK]) ⟨29, [], by simp only [go_sem, ↓reduceIte, reduceCtorEq, Bool.false_eq_true, Bool.true_eq_false, Nat.reduceAdd, Nat.reduceLT, Nat.reduceEqDiff, Nat.reduceLeDiff, Nat.reduceSub, Nat.reduceMul], ⟨_, rfl, rfl, rfl⟩, .inl ⟨[.row (t.map Change.pv), .int .i64 s.cur, .int .i64 most, .row ([s.r].map Range.pv)], _, .inl (by simp only [go_sem, ↓reduceIte, reduceCtorEq, Bool.false_eq_true, Bool.true_eq_false, Nat.reduceAdd, Nat.reduceLT, Nat.reduceEqDiff, Nat.reduceLeDiff, Nat.reduceSub, Nat.reduceMul, Range.pv, List.map_cons, List.map_nil]), hk2, .inr (.inl ⟨_, rfl, rfl, rfl⟩)⟩⟩ ?_
          refine V.exec 400 ?_
          simp (config := {contextual := true}) only [go_sem, ↓reduceIte, reduceCtorEq, Bool.false_eq_true, Bool.true_eq_false, Nat.reduceAdd, Nat.reduceLT, Nat.reduceEqDiff, Nat.reduceLeDiff, Nat.reduceSub, Nat.reduceMul, htl]
          rw [hv]
          simp [Chunk.pv]
        · rw [if_neg hlv] at hv
          simp (config := {contextual := true}) only [go_sem, ↓reduceIte, reduceCtorEq, Bool.false_eq_true, Bool.true_eq_false, Nat.reduceAdd, Nat.reduceLT, Nat.reduceEqDiff, Nat.reduceLeDiff, Nat.reduceSub, Nat.reduceMul, hlv]
          refine V.loop (fun m ls os => ∃ (i : Nat), i ≤ p.length ∧ m = p.length - i ∧ (i : Int) ≤ max 0 most ∧
              ls = [(4, .val (.int .i64 most)), (10, .adr 0 0), (13, .val (.row (p.map Pair.pv))), (15, .adr 1 0), (17, .val (.int .i64 i))] ∧ os = [.box true [.nils, .nils, .val (.bool false)], .box true [.ref 2, .nils, .val (.bool false)], .row 73 ((p.take i).map Pair.pv)]) 3 p.length
            [(4, .val (.int .i64 most)), (10, .adr 0 0), (13, .val (.row (p.map Pair.pv))), (15, .adr 1 0), (17, .val (.int .i64 0))] [.box true [.nils, .nils, .val (.bool false)], .box true [.ref 2, .nils, .val (.bool false)], .row 73 []] [some 6, some 30, none]
            ⟨0, Nat.zero_le _, rfl, by omega, rfl, rfl⟩ (by simp only [go_sem, ↓reduceIte, reduceCtorEq, Bool.false_eq_true, Bool.true_eq_false, Nat.reduceAdd, Nat.reduceLT, Nat.reduceEqDiff, Nat.reduceLeDiff, Nat.reduceSub, Nat.reduceMul]; try decide) ?_
          rintro m ls os ⟨i, hi, rfl, him, rfl, rfl⟩
          have hend : ¬ ((i : Int) < (p.length : Int) ∧ (i : Int) < most) → cutM most p.length = i := fun h => by unfold cutM; omega
          refine V.exec 400 ?_
          by_cases hlt : i < p.length
          · have hlt' : (i : Int) < (p.length : Int) := by omega
            obtain ⟨x, hx⟩ : ∃ x, p[i]? = some x := ⟨_, List.getElem?_eq_getElem hlt⟩
            have hw : IntKind.i64.wrap ((i : Int) + 1) = ((i + 1 : Nat) : Int) := by rw [wrap_small3] <;> omega
            by_cases hmo : (i : Int) < most
            · have hts := take_snoc hx
              have htl : (p.take i).length = i := by rw [List.length_take]; omega
              generalize hL : p.take i = L at *
              simp (config := {contextual := true}) only [go_sem, ↓reduceIte, reduceCtorEq, Bool.false_eq_true, Bool.true_eq_false, Nat.reduceAdd, Nat.reduceLT, Nat.reduceEqDiff, Nat.reduceLeDiff, Nat.reduceSub, Nat.reduceMul, hlt', hmo, hx, Pair.pv, hw]
              refine ⟨⟨by omega, by omega⟩, by kernel_rfl, p.length - (i + 1), _, _, [some 0, some 1, some 19], by omega, ⟨i + 1, by omega, rfl, by omega, rfl, rfl⟩, ?_⟩
              simp only [go_sem, ↓reduceIte, reduceCtorEq, Bool.false_eq_true, Bool.true_eq_false, Nat.reduceAdd, Nat.reduceLT, Nat.reduceEqDiff, Nat.reduceLeDiff, Nat.reduceSub, Nat.reduceMul, hts, List.map_append, List.map_cons, List.map_nil, Pair.pv]
              try decide
            · have hv1 := hend (fun h => hmo h.2)
              have htl : ((p.take i).length : Int) = (i : Int) := by rw [List.length_take]; omega
              simp (config := {contextual := true}) only [go_sem, ↓reduceIte, reduceCtorEq, Bool.false_eq_true, Bool.true_eq_false, Nat.reduceAdd, Nat.reduceLT, Nat.reduceEqDiff, Nat.reduceLeDiff, Nat.reduceSub, Nat.reduceMul, hlt', hmo, htl]
              rw [hv, hv1]
              simp [Chunk.pv, hlt]
          · have hlt' : ¬ (i : Int) < (p.length : Int) := by omega
            have hv1 := hend (fun h => hlt' h.1)
            have htl : ((p.take i).length : Int) = (i : Int) := by rw [List.length_take]; omega
            simp (config := {contextual := true}) only [go_sem, ↓reduceIte, reduceCtorEq, Bool.false_eq_true, Bool.true_eq_false, Nat.reduceAdd, Nat.reduceLT, Nat.reduceEqDiff, Nat.reduceLeDiff, Nat.reduceSub, Nat.reduceMul, hlt', htl]
            rw [hv, hv1]
            simp [Chunk.pv, hlt]
      · rw [if_neg he] at hv
        simp (config := {contextual := true}) only [go_sem, ↓reduceIte, reduceCtorEq, Bool.false_eq_true, Bool.true_eq_false, Nat.reduceAdd, Nat.reduceLT, Nat.reduceEqDiff, Nat.reduceLeDiff, Nat.reduceSub, Nat.reduceMul, he, hv, Chunk.zero, Chunk.pv, List.map_nil]
  · have hv := hbad (fun h => hok h.1)
    simp (config := {contextual := true}) only [go_sem, ↓reduceIte, reduceCtorEq, Bool.false_eq_true, Bool.true_eq_false, Nat.reduceAdd, Nat.reduceLT, Nat.reduceEqDiff, Nat.reduceLeDiff, Nat.reduceSub, Nat.reduceMul, hok, hv, Chunk.zero, Chunk.pv, List.map_nil]
end Go.Proofs.Ytjhjnphcdpjnbaa
set_option linter.unusedVariables false
set_option linter.unusedSimpArgs false
set_option maxRecDepth 8000
namespace Go.Proofs.Ytjhjnphcdpjnbaa
open Go Go.Proofs Go.Proofs.YtjhjnphcdpjnbaaVm Go.Proofs.Ytjhjnphcdpjnbaa.Ty

def noteP (p : Pair) : Note := ⟨1, p.key, p.value, 0⟩
def Chunk.slim (c : Chunk) : Prop := c.ps.length ≤ 1000 ∧ c.cs.length ≤ 1000
/-- What the chunks make of the pairs. -/
def replayGo (l0 : List Pair) : List Pair → List Chunk → List Pair × Int
  | out, [] => (out, 0)
  | out, c :: r => if (applyV out (c.ps.map noteP)).2 = 0 then (if (doV (applyV out (c.ps.map noteP)).1 c.cs).2 = 0 then replayGo l0 (doV (applyV out (c.ps.map noteP)).1 c.cs).1 r else (l0, (doV (applyV out (c.ps.map noteP)).1 c.cs).2)) else (l0, (applyV out (c.ps.map noteP)).2)
def replayV (l : List Pair) (chunks : List Chunk) : List Pair × Int := replayGo l l chunks

set_option maxHeartbeats 8000000 in
theorem feed_Replay (l : List Pair) (ch : List Chunk) (hl : l.length ≤ 1000) (hn : ch.length ≤ 90) (hs : ∀ c ∈ ch, c.slim) :
    Ct Try.prog 20 (YtjhjnphcdpjnbaaVm.ops [.row (l.map Pair.pv), .row (ch.map Chunk.pv)]) (.vals [.row ((replayV l ch).1.map Pair.pv), .int .i64 (replayV l ch).2]) := by
  obtain ⟨RP, re, hR⟩ : ∃ p e, replayV l ch = (p, e) := ⟨_, _, rfl⟩
  rw [hR]
  unfold replayV at hR
  simp only
  refine Ct.of_V Try.func20 rfl (by simp [YtjhjnphcdpjnbaaVm.ops, Try.f20]) ?_
  refine V.exec 400 ?_
  simp (config := {contextual := true}) only [go_sem, ↓reduceIte, reduceCtorEq, Bool.false_eq_true, Bool.true_eq_false, Nat.reduceAdd, Nat.reduceLT, Nat.reduceEqDiff, Nat.reduceLeDiff, Nat.reduceSub, Nat.reduceMul, Try.f20]
  refine V.loop (fun m ls os => ∃ (i : Nat) (out : List Pair), i ≤ ch.length ∧ m = ch.length - i ∧ out.length ≤ 1000 + 2000 * i ∧ replayGo l out (ch.drop i) = (RP, re) ∧
        ls = [(0, .val (.row (l.map Pair.pv))), (6, .val (.row (out.map Pair.pv))), (15, .val (.row (ch.map Chunk.pv))), (16, .val (.int .i64 ch.length)), (17, .val (.int .i64 i))] ∧ os = []) 0 ch.length
      [(0, .val (.row (l.map Pair.pv))), (6, .val (.row (l.map Pair.pv))), (15, .val (.row (ch.map Chunk.pv))), (16, .val (.int .i64 ch.length)), (17, .val (.int .i64 0))] [] []
      ⟨0, l, Nat.zero_le _, rfl, by omega, hR, rfl, rfl⟩ (by simp only [go_sem, ↓reduceIte, reduceCtorEq, Bool.false_eq_true, Bool.true_eq_false, Nat.reduceAdd, Nat.reduceLT, Nat.reduceEqDiff, Nat.reduceLeDiff, Nat.reduceSub, Nat.reduceMul]) ?_
  rintro m ls os ⟨i, out, hi, rfl, hol, hgo, rfl, rfl⟩
  refine V.exec 400 ?_
  by_cases hlt : i < ch.length
  · have hlt' : (i : Int) < (ch.length : Int) := by omega
    obtain ⟨c, hx⟩ : ∃ x, ch[i]? = some x := ⟨_, List.getElem?_eq_getElem hlt⟩
    have hsl := hs c (List.mem_of_getElem? hx)
    have hw : IntKind.i64.wrap ((i : Int) + 1) = ((i + 1 : Nat) : Int) := by rw [wrap_small3] <;> omega
    rw [drop_of_get hx, replayGo] at hgo
    simp (config := {contextual := true}) only [go_sem, ↓reduceIte, reduceCtorEq, Bool.false_eq_true, Bool.true_eq_false, Nat.reduceAdd, Nat.reduceLT, Nat.reduceEqDiff, Nat.reduceLeDiff, Nat.reduceSub, Nat.reduceMul, hlt', hx, Chunk.pv]
    have hsl1 := hsl.1
    have hsl2 := hsl.2
    have ha := leaf_Apply out (c.ps.map noteP) (by omega) (by simp; omega)
    have hal := applyV_len out (c.ps.map noteP)
    rw [List.length_map] at hal
    obtain ⟨q, e1, hq⟩ : ∃ p e, applyV out (c.ps.map noteP) = (p, e) := ⟨_, _, rfl⟩
    rw [hq] at ha hal hgo
    simp only at ha hal hgo
    have hd := change_Do q c.cs (by omega) (by omega)
    have hdl := doV_len q c.cs
    obtain ⟨q2, e2, hq2⟩ : ∃ p e, doV q c.cs = (p, e) := ⟨_, _, rfl⟩
    rw [hq2] at hd hdl hgo
    simp only at hd hdl hgo
    refine V.loop (fun m ls os => ∃ (j : Nat), j ≤ c.ps.length ∧ m = c.ps.length - j ∧
        ls = [(0, .val (.row (l.map Pair.pv))), (6, .val (.row (out.map Pair.pv))), (8, .adr 0 0), (9, .ref 1), (15, .val (.row (ch.map Chunk.pv))), (16, .val (.int .i64 ch.length)), (17, .val (.int .i64 i)), (22, .val (.row (c.ps.map Pair.pv))), (23, .val (.int .i64 c.ps.length)), (24, .val (.int .i64 j))] ∧ os = [.box true [.val (.row (c.ps.map Pair.pv)), .val (.row (c.cs.map Change.pv)), .val (.bool (decide (c.more = true)))], .row 64 (((c.ps.take j).map noteP).map Note.pv)]) 2 c.ps.length
      [(0, .val (.row (l.map Pair.pv))), (6, .val (.row (out.map Pair.pv))), (8, .adr 0 0), (9, .ref 1), (15, .val (.row (ch.map Chunk.pv))), (16, .val (.int .i64 ch.length)), (17, .val (.int .i64 i)), (22, .val (.row (c.ps.map Pair.pv))), (23, .val (.int .i64 c.ps.length)), (24, .val (.int .i64 0))] [.box true [.val (.row (c.ps.map Pair.pv)), .val (.row (c.cs.map Change.pv)), .val (.bool (decide (c.more = true)))], .row 64 []] [some 3, none]
      ⟨0, Nat.zero_le _, rfl, rfl, rfl⟩ (by simp only [go_sem, ↓reduceIte, reduceCtorEq, Bool.false_eq_true, Bool.true_eq_false, Nat.reduceAdd, Nat.reduceLT, Nat.reduceEqDiff, Nat.reduceLeDiff, Nat.reduceSub, Nat.reduceMul, Chunk.pv]; try decide) ?_
    rintro m ls os ⟨j, hj, rfl, rfl, rfl⟩
    refine V.exec 400 ?_
    by_cases hjt : j < c.ps.length
    · have hjt' : (j : Int) < (c.ps.length : Int) := by omega
      obtain ⟨x, hy⟩ : ∃ x, c.ps[j]? = some x := ⟨_, List.getElem?_eq_getElem hjt⟩
      have hw2 : IntKind.i64.wrap ((j : Int) + 1) = ((j + 1 : Nat) : Int) := by rw [wrap_small3] <;> omega
      have hts : (c.ps.take (j + 1)).map noteP = (c.ps.take j).map noteP ++ [noteP x] := by rw [List.take_add_one, hy, List.map_append]; rfl
      have htl : ((c.ps.take j).map noteP).length ≤ 1000 := by rw [List.length_map, List.length_take]; omega
      generalize (c.ps.take j).map noteP = N at *
      simp (config := {contextual := true}) only [go_sem, ↓reduceIte, reduceCtorEq, Bool.false_eq_true, Bool.true_eq_false, Nat.reduceAdd, Nat.reduceLT, Nat.reduceEqDiff, Nat.reduceLeDiff, Nat.reduceSub, Nat.reduceMul, hjt', hy, Pair.pv, hw2]
      refine ⟨⟨by omega, by omega⟩, c.ps.length - (j + 1), _, _, [some 0, some 14], by omega, ⟨j + 1, by omega, rfl, rfl, rfl⟩, ?_⟩
      simp only [go_sem, ↓reduceIte, reduceCtorEq, Bool.false_eq_true, Bool.true_eq_false, Nat.reduceAdd, Nat.reduceLT, Nat.reduceEqDiff, Nat.reduceLeDiff, Nat.reduceSub, Nat.reduceMul, hts, List.map_append, List.map_cons, List.map_nil, Note.pv, noteP]
      try decide
    · have hjt' : ¬ (j : Int) < (c.ps.length : Int) := by omega
      rw [List.take_of_length_le (by omega)]
      simp (config := {contextual := true}) only [go_sem, ↓reduceIte, reduceCtorEq, Bool.false_eq_true, Bool.true_eq_false, Nat.reduceAdd, Nat.reduceLT, Nat.reduceEqDiff, Nat.reduceLeDiff, Nat.reduceSub, Nat.reduceMul, hjt']
      refine V.call rfl rfl (by simp [dOK]) ⟨32, [], by simp only [go_sem, ↓reduceIte, reduceCtorEq, Bool.false_eq_true, Bool.true_eq_false, Nat.reduceAdd, Nat.reduceLT, Nat.reduceEqDiff, Nat.reduceLeDiff, Nat.reduceSub, Nat.reduceMul], ⟨_, rfl, rfl, rfl⟩, .inl ⟨[.row (out.map Pair.pv), .row ((c.ps.map noteP).map Note.pv)], _, .inl (by simp only [go_sem, ↓reduceIte, reduceCtorEq, Bool.false_eq_true, Bool.true_eq_false, Nat.reduceAdd, Nat.reduceLT, Nat.reduceEqDiff, Nat.reduceLeDiff, Nat.reduceSub, Nat.reduceMul]), ha, .inr (.inl ⟨_, rfl, rfl, rfl⟩)⟩⟩ ?_
      refine V.exec 400 ?_
      by_cases he1 : e1 = 0
      · rw [if_pos he1] at hgo
        subst he1
        simp (config := {contextual := true}) only [go_sem, ↓reduceIte, reduceCtorEq, Bool.false_eq_true, Bool.true_eq_false, Nat.reduceAdd, Nat.reduceLT, Nat.reduceEqDiff, Nat.reduceLeDiff, Nat.reduceSub, Nat.reduceMul]
        refine V.call rfl rfl (by simp [dOK]) ⟨33, [], by simp only [go_sem, ↓reduceIte, reduceCtorEq, Bool.false_eq_true, Bool.true_eq_false, Nat.reduceAdd, Nat.reduceLT, Nat.reduceEqDiff, Nat.reduceLeDiff, Nat.reduceSub, Nat.reduceMul], ⟨_, rfl, rfl, rfl⟩, .inl ⟨[.row (q.map Pair.pv), .row (c.cs.map Change.pv)], _, .inl (by simp only [go_sem, ↓reduceIte, reduceCtorEq, Bool.false_eq_true, Bool.true_eq_false, Nat.reduceAdd, Nat.reduceLT, Nat.reduceEqDiff, Nat.reduceLeDiff, Nat.reduceSub, Nat.reduceMul]), hd, .inr (.inl ⟨_, rfl, rfl, rfl⟩)⟩⟩ ?_
        refine V.exec 400 ?_
        by_cases he2 : e2 = 0
        · rw [if_pos he2] at hgo
          subst he2
          simp (config := {contextual := true}) only [go_sem, ↓reduceIte, reduceCtorEq, Bool.false_eq_true, Bool.true_eq_false, Nat.reduceAdd, Nat.reduceLT, Nat.reduceEqDiff, Nat.reduceLeDiff, Nat.reduceSub, Nat.reduceMul, hw]
          exact ⟨ch.length - (i + 1), _, [], [], by omega, ⟨i + 1, q2, by omega, rfl, by omega, hgo, rfl, rfl⟩, by simp only [go_sem, ↓reduceIte, reduceCtorEq, Bool.false_eq_true, Bool.true_eq_false, Nat.reduceAdd, Nat.reduceLT, Nat.reduceEqDiff, Nat.reduceLeDiff, Nat.reduceSub, Nat.reduceMul]⟩
        · rw [if_neg he2, Prod.mk.injEq] at hgo
          obtain ⟨rfl, rfl⟩ := hgo
          simp (config := {contextual := true}) only [go_sem, ↓reduceIte, reduceCtorEq, Bool.false_eq_true, Bool.true_eq_false, Nat.reduceAdd, Nat.reduceLT, Nat.reduceEqDiff, Nat.reduceLeDiff, Nat.reduceSub, Nat.reduceMul, he2]
      · rw [if_neg he1, Prod.mk.injEq] at hgo
        obtain ⟨rfl, rfl⟩ := hgo
        simp (config := {contextual := true}) only [go_sem, ↓reduceIte, reduceCtorEq, Bool.false_eq_true, Bool.true_eq_false, Nat.reduceAdd, Nat.reduceLT, Nat.reduceEqDiff, Nat.reduceLeDiff, Nat.reduceSub, Nat.reduceMul, he1]
  · have hlt' : ¬ (i : Int) < (ch.length : Int) := by omega
    have hd : ch.drop i = [] := List.drop_eq_nil_of_le (by omega)
    rw [hd, replayGo, Prod.mk.injEq] at hgo
    obtain ⟨rfl, rfl⟩ := hgo
    simp (config := {contextual := true}) only [go_sem, ↓reduceIte, reduceCtorEq, Bool.false_eq_true, Bool.true_eq_false, Nat.reduceAdd, Nat.reduceLT, Nat.reduceEqDiff, Nat.reduceLeDiff, Nat.reduceSub, Nat.reduceMul, hlt']
end Go.Proofs.Ytjhjnphcdpjnbaa
set_option linter.unusedVariables false
set_option linter.unusedSimpArgs false
set_option maxRecDepth 8000
namespace Go.Proofs.Ytjhjnphcdpjnbaa
open Go Go.Proofs Go.Proofs.YtjhjnphcdpjnbaaVm Go.Proofs.Ytjhjnphcdpjnbaa.Ty

set_option maxHeartbeats 8000000 in
theorem law19_small (l : List Pair) (t : List Change) (hl : l.length ≤ 9223372036854775807) (ht : t.length ≤ 9223372036854775807) : Ct Try.prog 8 (YtjhjnphcdpjnbaaVm.ops [.row (l.map Pair.pv), .row (t.map Change.pv)]) (.vals [.bool (decide (smallPC l t))]) := by
  have hno : ¬ smallPC l t → some [PV.bool false] = some [PV.bool (decide (smallPC l t))] := fun h => by simp [h]
  refine Ct.of_V Try.func8 rfl (by simp [YtjhjnphcdpjnbaaVm.ops, Try.f8]) ?_
  refine V.exec 400 ?_
  simp (config := {contextual := true}) only [go_sem, ↓reduceIte, reduceCtorEq, Bool.false_eq_true, Bool.true_eq_false, Nat.reduceAdd, Nat.reduceLT, Nat.reduceEqDiff, Nat.reduceLeDiff, Nat.reduceSub, Nat.reduceMul, Try.f8]
  by_cases h60 : l.length ≤ 60
  · have h60' : ¬ (60 : Int) < (l.length : Int) := by omega
    by_cases h61 : t.length ≤ 60
    · have h61' : ¬ (60 : Int) < (t.length : Int) := by omega
      simp (config := {contextual := true}) only [go_sem, ↓reduceIte, reduceCtorEq, Bool.false_eq_true, Bool.true_eq_false, Nat.reduceAdd, Nat.reduceLT, Nat.reduceEqDiff, Nat.reduceLeDiff, Nat.reduceSub, Nat.reduceMul, h60', h61']
      refine V.loop (fun m ls os => ∃ (i : Nat), i ≤ l.length ∧ m = l.length - i ∧ (∀ s ∈ l.take i, s.fine) ∧
          ls = [(1, .val (.row (t.map Change.pv))), (17, .val (.row (l.map Pair.pv))), (18, .val (.int .i64 l.length)), (19, .val (.int .i64 i))] ∧ os = []) 0 l.length
        [(1, .val (.row (t.map Change.pv))), (17, .val (.row (l.map Pair.pv))), (18, .val (.int .i64 l.length)), (19, .val (.int .i64 0))] [] []
        ⟨0, Nat.zero_le _, rfl, by simp, rfl, rfl⟩ (by simp only [go_sem, ↓reduceIte, reduceCtorEq, Bool.false_eq_true, Bool.true_eq_false, Nat.reduceAdd, Nat.reduceLT, Nat.reduceEqDiff, Nat.reduceLeDiff, Nat.reduceSub, Nat.reduceMul]) ?_
      rintro m ls os ⟨i, hi, rfl, hall, rfl, rfl⟩
      refine V.exec 400 ?_
      by_cases hlt : i < l.length
      · have hlt' : (i : Int) < (l.length : Int) := by omega
        obtain ⟨x, hx⟩ : ∃ x, l[i]? = some x := ⟨_, List.getElem?_eq_getElem hlt⟩
        have hw : IntKind.i64.wrap ((i : Int) + 1) = ((i + 1 : Nat) : Int) := by rw [wrap_small3] <;> omega
        have hxm := List.mem_of_getElem? hx
        simp (config := {contextual := true}) only [go_sem, ↓reduceIte, reduceCtorEq, Bool.false_eq_true, Bool.true_eq_false, Nat.reduceAdd, Nat.reduceLT, Nat.reduceEqDiff, Nat.reduceLeDiff, Nat.reduceSub, Nat.reduceMul, hlt', hx, Pair.pv, hw]
        (repeat' (first | (intro _) | (refine ⟨by kernel_rfl, ?_⟩) | (apply And.intro)))
        all_goals first
          | exact ⟨l.length - (i + 1), _, [], [], by omega, ⟨i + 1, by omega, rfl, take_all hx hall ⟨by omega, by omega⟩, rfl, rfl⟩, by simp only [go_sem, ↓reduceIte, reduceCtorEq, Bool.false_eq_true, Bool.true_eq_false, Nat.reduceAdd, Nat.reduceLT, Nat.reduceEqDiff, Nat.reduceLeDiff, Nat.reduceSub, Nat.reduceMul]⟩
          | exact hno fun h => by have := (h.2.2.1 x hxm).1; have := (h.2.2.1 x hxm).2; omega
      · have hlt' : ¬ (i : Int) < (l.length : Int) := by omega
        rw [List.take_of_length_le (by omega)] at hall
        simp (config := {contextual := true}) only [go_sem, ↓reduceIte, reduceCtorEq, Bool.false_eq_true, Bool.true_eq_false, Nat.reduceAdd, Nat.reduceLT, Nat.reduceEqDiff, Nat.reduceLeDiff, Nat.reduceSub, Nat.reduceMul, hlt']
        refine V.loop (fun m ls os => ∃ (i : Nat), i ≤ t.length ∧ m = t.length - i ∧ (∀ s ∈ t.take i, s.fine) ∧
            ls = [(34, .val (.row (t.map Change.pv))), (35, .val (.int .i64 t.length)), (36, .val (.int .i64 i))] ∧ os = []) 0 t.length
          [(34, .val (.row (t.map Change.pv))), (35, .val (.int .i64 t.length)), (36, .val (.int .i64 0))] [] []
          ⟨0, Nat.zero_le _, rfl, by simp, rfl, rfl⟩ (by simp only [go_sem, ↓reduceIte, reduceCtorEq, Bool.false_eq_true, Bool.true_eq_false, Nat.reduceAdd, Nat.reduceLT, Nat.reduceEqDiff, Nat.reduceLeDiff, Nat.reduceSub, Nat.reduceMul]) ?_
        rintro m ls os ⟨j, hj, rfl, hall2, rfl, rfl⟩
        refine V.exec 400 ?_
        by_cases hjt : j < t.length
        · have hjt' : (j : Int) < (t.length : Int) := by omega
          obtain ⟨x, hx⟩ : ∃ x, t[j]? = some x := ⟨_, List.getElem?_eq_getElem hjt⟩
          have hw : IntKind.i64.wrap ((j : Int) + 1) = ((j + 1 : Nat) : Int) := by rw [wrap_small3] <;> omega
          have hxm := List.mem_of_getElem? hx
          simp (config := {contextual := true}) only [go_sem, ↓reduceIte, reduceCtorEq, Bool.false_eq_true, Bool.true_eq_false, Nat.reduceAdd, Nat.reduceLT, Nat.reduceEqDiff, Nat.reduceLeDiff, Nat.reduceSub, Nat.reduceMul, hjt', hx, Change.pv, hw]
          (repeat' (first | (intro _) | (refine ⟨by kernel_rfl, ?_⟩) | (apply And.intro)))
          all_goals first
            | exact ⟨t.length - (j + 1), _, [], [], by omega, ⟨j + 1, by omega, rfl, take_all hx hall2 ⟨by omega, by omega, by omega⟩, rfl, rfl⟩, by simp only [go_sem, ↓reduceIte, reduceCtorEq, Bool.false_eq_true, Bool.true_eq_false, Nat.reduceAdd, Nat.reduceLT, Nat.reduceEqDiff, Nat.reduceLeDiff, Nat.reduceSub, Nat.reduceMul]⟩
            | exact hno fun h => by have h := h.2.2.2 x hxm; have := h.1; have := h.2.1; have := h.2.2; omega
        · have hjt' : ¬ (j : Int) < (t.length : Int) := by omega
          rw [List.take_of_length_le (by omega)] at hall2
          have hyes : smallPC l t := ⟨h60, h61, hall, hall2⟩
          simp (config := {contextual := true}) only [go_sem, ↓reduceIte, reduceCtorEq, Bool.false_eq_true, Bool.true_eq_false, Nat.reduceAdd, Nat.reduceLT, Nat.reduceEqDiff, Nat.reduceLeDiff, Nat.reduceSub, Nat.reduceMul, hjt']
          simp [hyes]
    · have h61' : (60 : Int) < (t.length : Int) := by omega
      simp (config := {contextual := true}) only [go_sem, ↓reduceIte, reduceCtorEq, Bool.false_eq_true, Bool.true_eq_false, Nat.reduceAdd, Nat.reduceLT, Nat.reduceEqDiff, Nat.reduceLeDiff, Nat.reduceSub, Nat.reduceMul, h60', h61']
      exact hno fun h => h61 h.2.1
  · have h60' : (60 : Int) < (l.length : Int) := by omega
    simp (config := {contextual := true}) only [go_sem, ↓reduceIte, reduceCtorEq, Bool.false_eq_true, Bool.true_eq_false, Nat.reduceAdd, Nat.reduceLT, Nat.reduceEqDiff, Nat.reduceLeDiff, Nat.reduceSub, Nat.reduceMul, h60']
    exact hno fun h => h60 h.1


theorem law19_ref (c : Chunk) : Ct Try.prog 19 (YtjhjnphcdpjnbaaVm.ops [c.pv]) (.vals [c.pv]) := by
  refine Ct.of_V Try.func19 rfl (by simp [YtjhjnphcdpjnbaaVm.ops, Try.f19]) ?_
  refine V.exec 400 ?_
  simp (config := {contextual := true}) only [go_sem, ↓reduceIte, reduceCtorEq, Bool.false_eq_true, Bool.true_eq_false, Nat.reduceAdd, Nat.reduceLT, Nat.reduceEqDiff, Nat.reduceLeDiff, Nat.reduceSub, Nat.reduceMul, Try.f19, Chunk.pv]

set_option maxHeartbeats 4000000 in
theorem law19_same (a b : Chunk) (h1 : b.ps.length ≤ 1000000) (h2 : b.cs.length ≤ 1000000) : Ct Try.prog 18 (YtjhjnphcdpjnbaaVm.ops [a.pv, b.pv]) (.vals [.bool (decide (a = b))]) := by
  have he : a = b ↔ a.more = b.more ∧ a.ps = b.ps ∧ a.cs = b.cs := by
    cases a; cases b; simp only [Chunk.mk.injEq]
    constructor
    · rintro ⟨rfl, rfl, rfl⟩; exact ⟨rfl, rfl, rfl⟩
    · rintro ⟨rfl, rfl, rfl⟩; exact ⟨rfl, rfl, rfl⟩
  refine Ct.of_V Try.func18 rfl (by simp [YtjhjnphcdpjnbaaVm.ops, Try.f18]) ?_
  refine V.exec 400 ?_
  simp (config := {contextual := true}) only [go_sem, ↓reduceIte, reduceCtorEq, Bool.false_eq_true, Bool.true_eq_false, Nat.reduceAdd, Nat.reduceLT, Nat.reduceEqDiff, Nat.reduceLeDiff, Nat.reduceSub, Nat.reduceMul, Try.f18, Chunk.pv]
  by_cases hm : a.more = b.more
  · simp (config := {contextual := true}) only [go_sem, ↓reduceIte, reduceCtorEq, Bool.false_eq_true, Bool.true_eq_false, Nat.reduceAdd, Nat.reduceLT, Nat.reduceEqDiff, Nat.reduceLeDiff, Nat.reduceSub, Nat.reduceMul, hm]
    refine V.call rfl rfl (by simp [dOK]) ⟨22, [], by simp only [go_sem, ↓reduceIte, reduceCtorEq, Bool.false_eq_true, Bool.true_eq_false, Nat.reduceAdd, Nat.reduceLT, Nat.reduceEqDiff, Nat.reduceLeDiff, Nat.reduceSub, Nat.reduceMul], ⟨_, rfl, rfl, rfl⟩, .inl ⟨[.row (a.ps.map Pair.pv), .row (b.ps.map Pair.pv)], _, .inl (by simp only [go_sem, ↓reduceIte, reduceCtorEq, Bool.false_eq_true, Bool.true_eq_false, Nat.reduceAdd, Nat.reduceLT, Nat.reduceEqDiff, Nat.reduceLeDiff, Nat.reduceSub, Nat.reduceMul]), ref03_Same a.ps b.ps h1, .inl ⟨_, rfl, rfl, rfl, rfl⟩⟩⟩ ?_
    refine V.exec 400 ?_
    by_cases hp : a.ps = b.ps
    · simp (config := {contextual := true}) only [go_sem, ↓reduceIte, reduceCtorEq, Bool.false_eq_true, Bool.true_eq_false, Nat.reduceAdd, Nat.reduceLT, Nat.reduceEqDiff, Nat.reduceLeDiff, Nat.reduceSub, Nat.reduceMul, hm, hp]
      refine V.call rfl rfl (by simp [dOK]) ⟨23, [], by simp only [go_sem, ↓reduceIte, reduceCtorEq, Bool.false_eq_true, Bool.true_eq_false, Nat.reduceAdd, Nat.reduceLT, Nat.reduceEqDiff, Nat.reduceLeDiff, Nat.reduceSub, Nat.reduceMul], ⟨_, rfl, rfl, rfl⟩, .inl ⟨[.row (a.cs.map Change.pv), .row (b.cs.map Change.pv)], _, .inl (by simp only [go_sem, ↓reduceIte, reduceCtorEq, Bool.false_eq_true, Bool.true_eq_false, Nat.reduceAdd, Nat.reduceLT, Nat.reduceEqDiff, Nat.reduceLeDiff, Nat.reduceSub, Nat.reduceMul]), ref13_Same a.cs b.cs h2, .inl ⟨_, rfl, rfl, rfl, rfl⟩⟩⟩ ?_
      refine V.exec 400 ?_
      simp (config := {contextual := true}) only [go_sem, ↓reduceIte, reduceCtorEq, Bool.false_eq_true, Bool.true_eq_false, Nat.reduceAdd, Nat.reduceLT, Nat.reduceEqDiff, Nat.reduceLeDiff, Nat.reduceSub, Nat.reduceMul, hm, hp]
      by_cases hc : a.cs = b.cs
      · have : a = b := he.2 ⟨hm, hp, hc⟩
        simp [this]
      · have : a ≠ b := fun h => hc (he.1 h).2.2
        simp [this, hc]
    · have : a ≠ b := fun h => hp (he.1 h).2.1
      simp (config := {contextual := true}) only [go_sem, ↓reduceIte, reduceCtorEq, Bool.false_eq_true, Bool.true_eq_false, Nat.reduceAdd, Nat.reduceLT, Nat.reduceEqDiff, Nat.reduceLeDiff, Nat.reduceSub, Nat.reduceMul, hm, hp]
      simp [this]
  · have : a ≠ b := fun h => hm (he.1 h).1
    have hm2 : (decide (a.more = true) == decide (b.more = true)) = false := by
      cases ha : a.more <;> cases hb : b.more <;> simp_all
    simp (config := {contextual := true}) only [go_sem, ↓reduceIte, reduceCtorEq, Bool.false_eq_true, Bool.true_eq_false, Nat.reduceAdd, Nat.reduceLT, Nat.reduceEqDiff, Nat.reduceLeDiff, Nat.reduceSub, Nat.reduceMul, hm2, this, decide_false]

def gP1 : Pair := ⟨[97], [50]⟩
def gP2 : Pair := ⟨[98], [49]⟩
def gP3 : Pair := ⟨[97], [49]⟩
def gC : Change := ⟨6, [97], true, [49], true, [50]⟩
def gS : Sub := ⟨0, ⟨[], [], true⟩, false, [], 5⟩
def gU : Sub := ⟨0, ⟨[], [], true⟩, false, [97, 0], 5⟩
def gV : Sub := ⟨0, ⟨[], [], true⟩, true, [], 5⟩
def gW : Sub := ⟨0, ⟨[], [], true⟩, true, [], 6⟩
def gK1 : Chunk := ⟨[gP3], [], true⟩
def gK2 : Chunk := ⟨[], [gC], false⟩
theorem gv1 : pollV gS [gP1, gP2] [gC] 0 1 = (gK1, 0) := by kernel_rfl
theorem gv2 : tookV gS [gP1, gP2] [gC] 0 1 = (gU, 0) := by kernel_rfl
theorem gv3 : tookV gU [gP1, gP2] [gC] 0 1 = (gV, 0) := by kernel_rfl
theorem gv4 : pollV gV [gP1, gP2] [gC] 0 9 = (gK2, 0) := by kernel_rfl
theorem gv5 : ackV gV 6 6 = (gW, 0) := by kernel_rfl
theorem gv6 : ackV gV 6 7 = (gV, 9) := by kernel_rfl
theorem gv7 : replayV [] [gK1, gK2] = ([gP1], 0) := by kernel_rfl
theorem gv8 : gS.ok := by decide +kernel

set_option maxRecDepth 10000 in
set_option maxHeartbeats 16000000 in
theorem law19_awake : Ct Try.prog 9 (YtjhjnphcdpjnbaaVm.ops []) (.vals [.bool true]) := by
  have c1 := feed_Poll gS [gP1, gP2] [gC] 0 1 (by decide) (by decide)
  rw [gv1] at c1
  have c2 := feed_Took gS [gP1, gP2] [gC] 0 1 (by decide) (by decide)
  rw [gv2] at c2
  have c3 := feed_Took gU [gP1, gP2] [gC] 0 1 (by decide) (by decide)
  rw [gv3] at c3
  have c4 := feed_Poll gV [gP1, gP2] [gC] 0 9 (by decide) (by decide)
  rw [gv4] at c4
  have c5 := feed_Ack gV 6 6
  rw [gv5] at c5
  have c6 := feed_Ack gV 6 7
  rw [gv6] at c6
  have c7 := feed_Replay [] [gK1, gK2] (by decide) (by decide) (by intro c hc; simp at hc; rcases hc with rfl | rfl <;> exact ⟨by decide, by decide⟩)
  rw [gv7] at c7
  have c8 := feed_Right gS
  rw [decide_eq_true gv8] at c8
  simp only at c1 c2 c3 c4 c5 c6 c7 c8
  refine Ct.of_V Try.func9 rfl (by simp [YtjhjnphcdpjnbaaVm.ops, Try.f9]) ?_
  refine V.exec 400 ?_
  simp (config := {contextual := true}) only [go_sem, ↓reduceIte, reduceCtorEq, Bool.false_eq_true, Bool.true_eq_false, Nat.reduceAdd, Nat.reduceLT, Nat.reduceEqDiff, Nat.reduceLeDiff, Nat.reduceSub, Nat.reduceMul, Try.f9]
  refine V.call rfl rfl (by simp [dOK]) ⟨10, [], by simp only [go_sem, ↓reduceIte, reduceCtorEq, Bool.false_eq_true, Bool.true_eq_false, Nat.reduceAdd, Nat.reduceLT, Nat.reduceEqDiff, Nat.reduceLeDiff, Nat.reduceSub, Nat.reduceMul], ⟨_, rfl, rfl, rfl⟩, .inl ⟨[gS.pv, .row ([gP1, gP2].map Pair.pv), .row ([gC].map Change.pv), .int .i64 0, .int .i64 1], _, .inl (by simp only [go_sem, ↓reduceIte, reduceCtorEq, Bool.false_eq_true, Bool.true_eq_false, Nat.reduceAdd, Nat.reduceLT, Nat.reduceEqDiff, Nat.reduceLeDiff, Nat.reduceSub, Nat.reduceMul, gP1, gP2, gP3, gC, gS, gU, gV, gW, gK1, gK2, Sub.pv, Chunk.pv, Pair.pv, Change.pv, List.map_cons, List.map_nil, decide_true, decide_false]), c1, .inr (.inl ⟨_, rfl, rfl, rfl⟩)⟩⟩ ?_
  refine V.exec 400 ?_
  simp (config := {contextual := true}) only [go_sem, ↓reduceIte, reduceCtorEq, Bool.false_eq_true, Bool.true_eq_false, Nat.reduceAdd, Nat.reduceLT, Nat.reduceEqDiff, Nat.reduceLeDiff, Nat.reduceSub, Nat.reduceMul, gP1, gP2, gP3, gC, gS, gU, gV, gW, gK1, gK2, Sub.pv, Chunk.pv, Pair.pv, Change.pv, List.map_cons, List.map_nil, decide_true, decide_false]
  refine V.call rfl rfl (by simp [dOK]) ⟨12, [], by simp only [go_sem, ↓reduceIte, reduceCtorEq, Bool.false_eq_true, Bool.true_eq_false, Nat.reduceAdd, Nat.reduceLT, Nat.reduceEqDiff, Nat.reduceLeDiff, Nat.reduceSub, Nat.reduceMul], ⟨_, rfl, rfl, rfl⟩, .inl ⟨[gS.pv, .row ([gP1, gP2].map Pair.pv), .row ([gC].map Change.pv), .int .i64 0, .int .i64 1], _, .inl (by simp only [go_sem, ↓reduceIte, reduceCtorEq, Bool.false_eq_true, Bool.true_eq_false, Nat.reduceAdd, Nat.reduceLT, Nat.reduceEqDiff, Nat.reduceLeDiff, Nat.reduceSub, Nat.reduceMul, gP1, gP2, gP3, gC, gS, gU, gV, gW, gK1, gK2, Sub.pv, Chunk.pv, Pair.pv, Change.pv, List.map_cons, List.map_nil, decide_true, decide_false]), c2, .inr (.inl ⟨_, rfl, rfl, rfl⟩)⟩⟩ ?_
  refine V.exec 400 ?_
  simp (config := {contextual := true}) only [go_sem, ↓reduceIte, reduceCtorEq, Bool.false_eq_true, Bool.true_eq_false, Nat.reduceAdd, Nat.reduceLT, Nat.reduceEqDiff, Nat.reduceLeDiff, Nat.reduceSub, Nat.reduceMul, gP1, gP2, gP3, gC, gS, gU, gV, gW, gK1, gK2, Sub.pv, Chunk.pv, Pair.pv, Change.pv, List.map_cons, List.map_nil, decide_true, decide_false]
  refine V.call rfl rfl (by simp [dOK]) ⟨12, [], by simp only [go_sem, ↓reduceIte, reduceCtorEq, Bool.false_eq_true, Bool.true_eq_false, Nat.reduceAdd, Nat.reduceLT, Nat.reduceEqDiff, Nat.reduceLeDiff, Nat.reduceSub, Nat.reduceMul], ⟨_, rfl, rfl, rfl⟩, .inl ⟨[gU.pv, .row ([gP1, gP2].map Pair.pv), .row ([gC].map Change.pv), .int .i64 0, .int .i64 1], _, .inl (by simp only [go_sem, ↓reduceIte, reduceCtorEq, Bool.false_eq_true, Bool.true_eq_false, Nat.reduceAdd, Nat.reduceLT, Nat.reduceEqDiff, Nat.reduceLeDiff, Nat.reduceSub, Nat.reduceMul, gP1, gP2, gP3, gC, gS, gU, gV, gW, gK1, gK2, Sub.pv, Chunk.pv, Pair.pv, Change.pv, List.map_cons, List.map_nil, decide_true, decide_false]), c3, .inr (.inl ⟨_, rfl, rfl, rfl⟩)⟩⟩ ?_
  refine V.exec 400 ?_
  simp (config := {contextual := true}) only [go_sem, ↓reduceIte, reduceCtorEq, Bool.false_eq_true, Bool.true_eq_false, Nat.reduceAdd, Nat.reduceLT, Nat.reduceEqDiff, Nat.reduceLeDiff, Nat.reduceSub, Nat.reduceMul, gP1, gP2, gP3, gC, gS, gU, gV, gW, gK1, gK2, Sub.pv, Chunk.pv, Pair.pv, Change.pv, List.map_cons, List.map_nil, decide_true, decide_false]
  refine V.call rfl rfl (by simp [dOK]) ⟨10, [], by simp only [go_sem, ↓reduceIte, reduceCtorEq, Bool.false_eq_true, Bool.true_eq_false, Nat.reduceAdd, Nat.reduceLT, Nat.reduceEqDiff, Nat.reduceLeDiff, Nat.reduceSub, Nat.reduceMul], ⟨_, rfl, rfl, rfl⟩, .inl ⟨[gV.pv, .row ([gP1, gP2].map Pair.pv), .row ([gC].map Change.pv), .int .i64 0, .int .i64 9], _, .inl (by simp only [go_sem, ↓reduceIte, reduceCtorEq, Bool.false_eq_true, Bool.true_eq_false, Nat.reduceAdd, Nat.reduceLT, Nat.reduceEqDiff, Nat.reduceLeDiff, Nat.reduceSub, Nat.reduceMul, gP1, gP2, gP3, gC, gS, gU, gV, gW, gK1, gK2, Sub.pv, Chunk.pv, Pair.pv, Change.pv, List.map_cons, List.map_nil, decide_true, decide_false]), c4, .inr (.inl ⟨_, rfl, rfl, rfl⟩)⟩⟩ ?_
  refine V.exec 400 ?_
  simp (config := {contextual := true}) only [go_sem, ↓reduceIte, reduceCtorEq, Bool.false_eq_true, Bool.true_eq_false, Nat.reduceAdd, Nat.reduceLT, Nat.reduceEqDiff, Nat.reduceLeDiff, Nat.reduceSub, Nat.reduceMul, gP1, gP2, gP3, gC, gS, gU, gV, gW, gK1, gK2, Sub.pv, Chunk.pv, Pair.pv, Change.pv, List.map_cons, List.map_nil, decide_true, decide_false]
  refine V.call rfl rfl (by simp [dOK]) ⟨14, [], by simp only [go_sem, ↓reduceIte, reduceCtorEq, Bool.false_eq_true, Bool.true_eq_false, Nat.reduceAdd, Nat.reduceLT, Nat.reduceEqDiff, Nat.reduceLeDiff, Nat.reduceSub, Nat.reduceMul], ⟨_, rfl, rfl, rfl⟩, .inl ⟨[gV.pv, .int .i64 6, .int .i64 6], _, .inl (by simp only [go_sem, ↓reduceIte, reduceCtorEq, Bool.false_eq_true, Bool.true_eq_false, Nat.reduceAdd, Nat.reduceLT, Nat.reduceEqDiff, Nat.reduceLeDiff, Nat.reduceSub, Nat.reduceMul, gP1, gP2, gP3, gC, gS, gU, gV, gW, gK1, gK2, Sub.pv, Chunk.pv, Pair.pv, Change.pv, List.map_cons, List.map_nil, decide_true, decide_false]), c5, .inr (.inl ⟨_, rfl, rfl, rfl⟩)⟩⟩ ?_
  refine V.exec 400 ?_
  simp (config := {contextual := true}) only [go_sem, ↓reduceIte, reduceCtorEq, Bool.false_eq_true, Bool.true_eq_false, Nat.reduceAdd, Nat.reduceLT, Nat.reduceEqDiff, Nat.reduceLeDiff, Nat.reduceSub, Nat.reduceMul, gP1, gP2, gP3, gC, gS, gU, gV, gW, gK1, gK2, Sub.pv, Chunk.pv, Pair.pv, Change.pv, List.map_cons, List.map_nil, decide_true, decide_false]
  refine V.call rfl rfl (by simp [dOK]) ⟨14, [], by simp only [go_sem, ↓reduceIte, reduceCtorEq, Bool.false_eq_true, Bool.true_eq_false, Nat.reduceAdd, Nat.reduceLT, Nat.reduceEqDiff, Nat.reduceLeDiff, Nat.reduceSub, Nat.reduceMul], ⟨_, rfl, rfl, rfl⟩, .inl ⟨[gV.pv, .int .i64 6, .int .i64 7], _, .inl (by simp only [go_sem, ↓reduceIte, reduceCtorEq, Bool.false_eq_true, Bool.true_eq_false, Nat.reduceAdd, Nat.reduceLT, Nat.reduceEqDiff, Nat.reduceLeDiff, Nat.reduceSub, Nat.reduceMul, gP1, gP2, gP3, gC, gS, gU, gV, gW, gK1, gK2, Sub.pv, Chunk.pv, Pair.pv, Change.pv, List.map_cons, List.map_nil, decide_true, decide_false]), c6, .inr (.inl ⟨_, rfl, rfl, rfl⟩)⟩⟩ ?_
  refine V.exec 400 ?_
  simp (config := {contextual := true}) only [go_sem, ↓reduceIte, reduceCtorEq, Bool.false_eq_true, Bool.true_eq_false, Nat.reduceAdd, Nat.reduceLT, Nat.reduceEqDiff, Nat.reduceLeDiff, Nat.reduceSub, Nat.reduceMul, gP1, gP2, gP3, gC, gS, gU, gV, gW, gK1, gK2, Sub.pv, Chunk.pv, Pair.pv, Change.pv, List.map_cons, List.map_nil, decide_true, decide_false]
  refine V.call rfl rfl (by simp [dOK]) ⟨20, [], by simp only [go_sem, ↓reduceIte, reduceCtorEq, Bool.false_eq_true, Bool.true_eq_false, Nat.reduceAdd, Nat.reduceLT, Nat.reduceEqDiff, Nat.reduceLeDiff, Nat.reduceSub, Nat.reduceMul], ⟨_, rfl, rfl, rfl⟩, .inl ⟨[.row (([] : List Pair).map Pair.pv), .row ([gK1, gK2].map Chunk.pv)], _, .inl (by simp only [go_sem, ↓reduceIte, reduceCtorEq, Bool.false_eq_true, Bool.true_eq_false, Nat.reduceAdd, Nat.reduceLT, Nat.reduceEqDiff, Nat.reduceLeDiff, Nat.reduceSub, Nat.reduceMul, gP1, gP2, gP3, gC, gS, gU, gV, gW, gK1, gK2, Sub.pv, Chunk.pv, Pair.pv, Change.pv, List.map_cons, List.map_nil, decide_true, decide_false]), c7, .inr (.inl ⟨_, rfl, rfl, rfl⟩)⟩⟩ ?_
  refine V.exec 400 ?_
  have n1 : ((1 : Nat) : Int) = 1 := rfl
  have n0 : ((0 : Nat) : Int) = 0 := rfl
  have r1 : (0 : Int) ≤ 0 ∧ (0 : Int) < 1 := by decide
  have t0 : Int.toNat 0 = 0 := rfl
  simp (config := {contextual := true}) only [go_sem, ↓reduceIte, reduceCtorEq, Bool.false_eq_true, Bool.true_eq_false, Nat.reduceAdd, Nat.reduceLT, Nat.reduceEqDiff, Nat.reduceLeDiff, Nat.reduceSub, Nat.reduceMul, gP1, gP2, gP3, gC, gS, gU, gV, gW, gK1, gK2, Sub.pv, Chunk.pv, Pair.pv, Change.pv, List.map_cons, List.map_nil, decide_true, decide_false, List.length_cons, List.length_nil, n1, n0, r1, t0, List.getElem?_cons_zero, List.append_eq, List.cons_append, List.nil_append]
  refine V.call rfl rfl (by simp [dOK]) ⟨16, [], by simp only [go_sem, ↓reduceIte, reduceCtorEq, Bool.false_eq_true, Bool.true_eq_false, Nat.reduceAdd, Nat.reduceLT, Nat.reduceEqDiff, Nat.reduceLeDiff, Nat.reduceSub, Nat.reduceMul], ⟨_, rfl, rfl, rfl⟩, .inl ⟨[gS.pv], _, .inl (by simp only [go_sem, ↓reduceIte, reduceCtorEq, Bool.false_eq_true, Bool.true_eq_false, Nat.reduceAdd, Nat.reduceLT, Nat.reduceEqDiff, Nat.reduceLeDiff, Nat.reduceSub, Nat.reduceMul, gP1, gP2, gP3, gC, gS, gU, gV, gW, gK1, gK2, Sub.pv, Chunk.pv, Pair.pv, Change.pv, List.map_cons, List.map_nil, decide_true, decide_false]), c8, .inl ⟨_, rfl, rfl, rfl, rfl⟩⟩⟩ ?_
  refine V.exec 400 ?_
  simp (config := {contextual := true}) only [go_sem, ↓reduceIte, reduceCtorEq, Bool.false_eq_true, Bool.true_eq_false, Nat.reduceAdd, Nat.reduceLT, Nat.reduceEqDiff, Nat.reduceLeDiff, Nat.reduceSub, Nat.reduceMul, gP1, gP2, gP3, gC, gS, gU, gV, gW, gK1, gK2, Sub.pv, Chunk.pv, Pair.pv, Change.pv, List.map_cons, List.map_nil, decide_true, decide_false]
end Go.Proofs.Ytjhjnphcdpjnbaa
set_option linter.unusedVariables false
set_option linter.unusedSimpArgs false
set_option maxRecDepth 8000
namespace Go.Proofs.Ytjhjnphcdpjnbaa
open Go Go.Proofs Go.Proofs.YtjhjnphcdpjnbaaVm

theorem n9 : ¬ (9 : Int) = 0 := by decide
theorem n1' : ¬ (1 : Int) = 0 := by decide
theorem ack_two {s : Sub} (hok : s.ok) (hl : s.live = true) {a b : Int} (hab : a ≤ b) :
    ((ackV s 200 a).2 = 0 → (ackV (ackV s 200 a).1 200 b).2 = (ackV s 200 b).2 ∧ ((ackV s 200 b).2 = 0 → (ackV (ackV s 200 a).1 200 b).1 = (ackV s 200 b).1)) ∧ s.cur ≤ (ackV s 200 a).1.cur ∧ ((ackV s 200 b).1.cur ≤ 200 ∨ (ackV s 200 b).1 = s) := by
  by_cases h1 : s.cur ≤ a
  · have h2 : s.cur ≤ b := by omega
    by_cases h3 : 200 < a
    · have h4 : 200 < b := by omega
      have e1 : ackV s 200 a = (s, 9) := by unfold ackV; rw [if_pos ⟨hok, hl, h1⟩, if_pos h3]
      have e2 : ackV s 200 b = (s, 9) := by unfold ackV; rw [if_pos ⟨hok, hl, h2⟩, if_pos h4]
      rw [e1, e2]
      exact ⟨fun h => absurd h n9, Int.le_refl _, .inr rfl⟩
    · have e1 : ackV s 200 a = ({ s with cur := a }, 0) := by unfold ackV; rw [if_pos ⟨hok, hl, h1⟩, if_neg h3]
      have hok2 : Sub.ok { s with cur := a } := ⟨hok.1, hok.2.1, hok.2.2.1, by have := hok.2.2.2.1; show 0 ≤ a; omega, by show a ≤ 2147483647; omega⟩
      by_cases h4 : 200 < b
      · have e2 : ackV s 200 b = (s, 9) := by unfold ackV; rw [if_pos ⟨hok, hl, h2⟩, if_pos h4]
        have e3 : ackV { s with cur := a } 200 b = ({ s with cur := a }, 9) := by unfold ackV; rw [if_pos ⟨hok2, hl, hab⟩, if_pos h4]
        rw [e1, e2]
        simp only [e3]
        exact ⟨fun _ => ⟨trivial, fun h => absurd h n9⟩, h1, .inr trivial⟩
      · have e2 : ackV s 200 b = ({ s with cur := b }, 0) := by unfold ackV; rw [if_pos ⟨hok, hl, h2⟩, if_neg h4]
        have e3 : ackV { s with cur := a } 200 b = ({ s with cur := b }, 0) := by unfold ackV; rw [if_pos ⟨hok2, hl, hab⟩, if_neg h4]
        rw [e1, e2]
        simp only [e3]
        exact ⟨fun _ => ⟨trivial, fun _ => trivial⟩, h1, .inl (by show b ≤ 200; omega)⟩
  · have e1 : ackV s 200 a = (s, 1) := by unfold ackV; rw [if_neg (fun h => h1 h.2.2)]
    rw [e1]
    refine ⟨fun h => absurd h n1', Int.le_refl _, ?_⟩
    by_cases h2 : s.cur ≤ b
    · by_cases h4 : 200 < b
      · right; unfold ackV; rw [if_pos ⟨hok, hl, h2⟩, if_pos h4]
      · left; unfold ackV; rw [if_pos ⟨hok, hl, h2⟩, if_neg h4]; show b ≤ 200; omega
    · right; unfold ackV; rw [if_neg (fun h => h2 h.2.2)]

theorem left_next {s : Sub} {l : List Pair} {t : List Change} {floor : Int} {P : List Pair} (h : leftV s l t floor = (P, 0)) {j : Nat} {k : Pair} (hk : P[j]? = some k) :
    leftV { s with next := k.key ++ [0] } l t floor = (P.drop (j + 1), 0) := by
  have hf := atV_facts l t floor s.cur
  unfold leftV at h ⊢
  simp only at h ⊢
  by_cases h0 : (atV l t floor s.cur).2 = 0
  · rw [if_pos h0] at h ⊢
    rcases hf with ⟨_, hp, _⟩ | ⟨_, hf⟩
    · have hs := ((pairsOk_iff _).1 hp).1
      generalize (atV l t floor s.cur).1 = p at *
      simp only [Prod.mk.injEq, and_true] at h
      subst h
      have hsP : Sorted (leftP s p) := List.Pairwise.sublist List.filter_sublist hs
      have hkm := List.mem_of_getElem? hk
      have hki : s.r.isIn k.key ∧ ¬ slt k.key s.next := by simpa using (List.mem_filter.1 hkm).2
      rw [← sorted_drop hsP hk]
      unfold leftP
      rw [List.filter_filter]
      congr 2
      funext q
      have e : (s.r.isIn q.key ∧ ¬ slt q.key (k.key ++ [0])) ↔ (slt k.key q.key ∧ (s.r.isIn q.key ∧ ¬ slt q.key s.next)) := by
        rw [slt_zero]
        constructor
        · rintro ⟨a, b⟩; exact ⟨b, a, fun c => hki.2 (slt_trans b c)⟩
        · rintro ⟨a, b, _⟩; exact ⟨b, a⟩
      by_cases g : s.r.isIn q.key ∧ ¬ slt q.key (k.key ++ [0])
      · have g2 := e.1 g
        rw [decide_eq_true g, decide_eq_true g2.1, decide_eq_true g2.2]; rfl
      · have g2 : ¬ (slt k.key q.key ∧ (s.r.isIn q.key ∧ ¬ slt q.key s.next)) := fun x => g (e.2 x)
        rw [decide_eq_false g]
        by_cases g3 : slt k.key q.key
        · have g4 : ¬ (s.r.isIn q.key ∧ ¬ slt q.key s.next) := fun x => g2 ⟨g3, x⟩
          rw [decide_eq_false g4, Bool.and_false]
        · rw [decide_eq_false g3, Bool.false_and]
    · omega
  · rw [if_neg h0] at h
    simp only [Prod.mk.injEq] at h
    exact absurd h.2 h0

/-- What is taken, as the cases are. -/
theorem took_cases {s : Sub} (hok : s.ok) (hl : s.live = false) {l : List Pair} {t : List Change} {floor n : Int} (hn : 0 ≤ n) :
    ((leftV s l t floor).2 ≠ 0 → tookV s l t floor n = (s, (leftV s l t floor).2)) ∧ ∀ P, leftV s l t floor = (P, 0) →
      ((P.length : Int) < n → tookV s l t floor n = (s, 9)) ∧ (n = (P.length : Int) → tookV s l t floor n = ({ s with live := true, next := [] }, 0)) ∧
      (n = 0 → n < (P.length : Int) → tookV s l t floor n = (s, 0)) ∧ (∀ j k, n = ((j + 1 : Nat) : Int) → j + 1 < P.length → P[j]? = some k → tookV s l t floor n = ({ s with next := k.key ++ [0] }, 0)) := by
  have hc : s.ok ∧ s.live = false ∧ 0 ≤ n := ⟨hok, hl, hn⟩
  constructor
  · intro h
    unfold tookV
    rw [if_pos hc, if_neg h]
  · intro P hP
    refine ⟨fun h => ?_, fun h => ?_, fun h1 h2 => ?_, fun j k h1 h2 h3 => ?_⟩
    · unfold tookV; rw [if_pos hc, hP]; simp only [↓reduceIte]; rw [if_pos h]
    · unfold tookV; rw [if_pos hc, hP]; simp only [↓reduceIte]; rw [if_neg (by omega), if_pos h]
    · unfold tookV; rw [if_pos hc, hP]; simp only [↓reduceIte]; rw [if_neg (by omega), if_neg (by omega)]
      split
      · rw [if_neg (by omega)]
      · rfl
    · unfold tookV; rw [if_pos hc, hP]; simp only [↓reduceIte]; rw [if_neg (by omega), if_neg (by omega)]
      have e : n.toNat - 1 = j := by omega
      rw [e, h3]
      simp only
      rw [if_pos (by omega)]
theorem took_two {s : Sub} (hok : s.ok) (hl : s.live = false) {l : List Pair} {t : List Change} {floor n m : Int} (hn : 0 ≤ n) (hm : 0 ≤ m) :
    ((tookV s l t floor n).2 ≠ 0 → (tookV s l t floor (n + m)).2 ≠ 0 ∧ (tookV s l t floor n).1 = s) ∧
    ((tookV s l t floor n).2 = 0 → (tookV s l t floor n).1.live = true → (m = 0 ↔ (tookV s l t floor (n + m)).2 = 0)) ∧
    ((tookV s l t floor n).2 = 0 → ¬ (tookV s l t floor n).1.live = true → (tookV (tookV s l t floor n).1 l t floor m).2 = (tookV s l t floor (n + m)).2 ∧ ((tookV s l t floor (n + m)).2 = 0 → (tookV (tookV s l t floor n).1 l t floor m).1 = (tookV s l t floor (n + m)).1)) := by
  have h1 := @took_cases s hok hl l t floor n hn
  have h2 := @took_cases s hok hl l t floor (n + m) (by omega)
  by_cases he : (leftV s l t floor).2 = 0
  · obtain ⟨P, hP⟩ : ∃ P, leftV s l t floor = (P, 0) := ⟨(leftV s l t floor).1, by rw [← he]⟩
    have hkeys := @leftV_keys s l t floor
    rw [hP] at hkeys
    obtain ⟨a1, a2, a3, a4⟩ := h1.2 P hP
    obtain ⟨b1, b2, b3, b4⟩ := h2.2 P hP
    by_cases g1 : (P.length : Int) < n
    · rw [a1 g1, b1 (by omega)]
      exact ⟨fun _ => ⟨n9, rfl⟩, fun h => absurd h n9, fun h => absurd h n9⟩
    · by_cases g2 : n = (P.length : Int)
      · rw [a2 g2]
        refine ⟨fun h => absurd rfl h, fun _ _ => ?_, fun _ h => absurd rfl h⟩
        by_cases g3 : m = 0
        · rw [b2 (by omega)]; simp [g3]
        · rw [b1 (by omega)]; simp [g3]
      · have key : ∀ x : Sub, x.ok → x.live = false → tookV s l t floor n = (x, 0) → (x.r = s.r ∧ x.id = s.id ∧ x.cur = s.cur) → (m = 0 → tookV s l t floor (n + m) = (x, 0)) → leftV x l t floor = (P.drop n.toNat, 0) →
            ((tookV s l t floor n).2 ≠ 0 → (tookV s l t floor (n + m)).2 ≠ 0 ∧ (tookV s l t floor n).1 = s) ∧
            ((tookV s l t floor n).2 = 0 → (tookV s l t floor n).1.live = true → (m = 0 ↔ (tookV s l t floor (n + m)).2 = 0)) ∧
            ((tookV s l t floor n).2 = 0 → ¬ (tookV s l t floor n).1.live = true → (tookV (tookV s l t floor n).1 l t floor m).2 = (tookV s l t floor (n + m)).2 ∧ ((tookV s l t floor (n + m)).2 = 0 → (tookV (tookV s l t floor n).1 l t floor m).1 = (tookV s l t floor (n + m)).1)) := by
          intro x hxo hxl hx hsame hx0 hxP
          rw [hx]
          refine ⟨fun h => absurd rfl h, fun _ h => by rw [hxl] at h; exact Bool.noConfusion h, fun _ _ => ?_⟩
          simp only
          obtain ⟨c1, c2, c3, c4⟩ := (@took_cases x hxo hxl l t floor m hm).2 _ hxP
          rw [List.length_drop] at c1 c2 c3 c4
          by_cases k1 : (P.length : Int) < n + m
          · rw [b1 k1, c1 (by omega)]
            exact ⟨rfl, fun h => absurd h n9⟩
          · by_cases k2 : n + m = (P.length : Int)
            · rw [b2 k2, c2 (by omega)]
              refine ⟨rfl, fun _ => ?_⟩
              cases x; cases s
              simp only at hsame
              obtain ⟨rfl, rfl, rfl⟩ := hsame
              rfl
            · by_cases k3 : m = 0
              · rw [hx0 k3, c3 k3 (by omega)]
                exact ⟨rfl, fun _ => rfl⟩
              · obtain ⟨k, hk⟩ : ∃ k, P[(n + m).toNat - 1]? = some k := ⟨_, List.getElem?_eq_getElem (by omega)⟩
                rw [b4 ((n + m).toNat - 1) k (by omega) (by omega) hk, c4 (m.toNat - 1) k (by omega) (by omega) (by rw [List.getElem?_drop, ← hk]; congr 1; omega)]
                refine ⟨rfl, fun _ => ?_⟩
                cases x; cases s
                simp only at hsame hxl hl
                obtain ⟨rfl, rfl, rfl⟩ := hsame
                rw [hxl, hl]
        by_cases g3 : n = 0
        · subst g3
          exact key s hok hl (a3 rfl (by omega)) ⟨rfl, rfl, rfl⟩ (fun h => by subst h; exact a3 rfl (by omega)) (by simpa using hP)
        · obtain ⟨k, hk⟩ : ∃ k, P[n.toNat - 1]? = some k := ⟨_, List.getElem?_eq_getElem (by omega)⟩
          have hx := a4 (n.toNat - 1) k (by omega) (by omega) hk
          have hkl := hkeys k (List.mem_of_getElem? hk)
          refine key { s with next := k.key ++ [0] } ⟨hok.1, by show (k.key ++ [0]).length ≤ 17; rw [List.length_append]; simp; omega, fun h => by simp only at h; rw [hl] at h; exact Bool.noConfusion h, hok.2.2.2⟩ hl hx ⟨rfl, rfl, rfl⟩ (fun h => by subst h; rw [Int.add_zero]; exact hx) ?_
          rw [left_next hP hk]
          congr 2; omega
  · rw [h1.1 he, h2.1 he]
    exact ⟨fun _ => ⟨he, rfl⟩, fun h => absurd h he, fun h => absurd h he⟩
end Go.Proofs.Ytjhjnphcdpjnbaa
set_option linter.unusedVariables false
set_option linter.unusedSimpArgs false
set_option maxRecDepth 8000
namespace Go.Proofs.Ytjhjnphcdpjnbaa
open Go Go.Proofs Go.Proofs.YtjhjnphcdpjnbaaVm Go.Proofs.Ytjhjnphcdpjnbaa.Ty

theorem sub_one (qs : List PV) (hk : qs.map PV.kd = [.int .i64, .str, .str, .bool, .bool, .str, .int .i64]) : ∃ s : Sub, PV.agg qs = s.pv := by
  match qs, hk with
  | [.int k n, .str a, .str b, .bool c, .bool d, .str e, .int k' m], hk =>
    simp only [List.map_cons, PV.kd, List.cons.injEq, KD.int.injEq] at hk
    obtain ⟨rfl, _, _, _, _, _, rfl, _⟩ := hk
    exact ⟨⟨n, ⟨a, b, c⟩, d, e, m⟩, by simp [Sub.pv]⟩
theorem u8_of {a : Int} (w : (Lit.int .u8 a).wf = true) : 0 ≤ a ∧ a ≤ 255 := by
  simp only [Lit.wf, Bool.and_eq_true, decide_eq_true_eq] at w
  have e1 : IntKind.min .u8 = 0 := by decide
  have e2 : IntKind.max .u8 = 255 := by decide
  rw [e1, e2] at w
  exact w
theorem minI2 (a b : Int) : (if b < a then b else a) = min a b := by simp only [Int.min_def]; split <;> split <;> omega
theorem maxI2 (a b : Int) : (if b > a then b else a) = max a b := by simp only [Int.max_def]; split <;> split <;> omega
end Go.Proofs.Ytjhjnphcdpjnbaa
set_option linter.unusedVariables false
set_option linter.unusedSimpArgs false
set_option maxRecDepth 8000
namespace Go.Proofs.Ytjhjnphcdpjnbaa
open Go Go.Proofs Go.Proofs.YtjhjnphcdpjnbaaVm

theorem poll_bad {s : Sub} {l : List Pair} {t : List Change} {floor : Int} (h : ¬ s.ok ∨ (leftV s l t floor).2 ≠ 0) : ∃ e, e ≠ 0 ∧ ∀ n, 1 ≤ n → pollV s l t floor n = (Chunk.zero, e) := by
  by_cases hok : s.ok
  · have he := h.resolve_left (fun g => g hok)
    refine ⟨_, he, fun n hn => ?_⟩
    unfold pollV
    rw [if_pos ⟨hok, hn⟩, if_neg he]
  · exact ⟨1, by decide, fun n hn => by unfold pollV; rw [if_neg (fun g => hok g.1)]⟩
theorem poll_live {s : Sub} {l : List Pair} {t : List Change} {floor n : Int} (hok : s.ok) (h0 : (leftV s l t floor).2 = 0) (hl : s.live = true) (hn : 1 ≤ n) :
    pollV s l t floor n = (⟨[], (sinceA t s).take (cutM n (sinceA t s).length), decide (cutM n (sinceA t s).length < (sinceA t s).length)⟩, 0) := by
  unfold pollV; rw [if_pos ⟨hok, hn⟩, if_pos h0, if_pos hl]
theorem poll_pairs {s : Sub} {l : List Pair} {t : List Change} {floor n : Int} {P : List Pair} (hok : s.ok) (hP : leftV s l t floor = (P, 0)) (hl : s.live = false) (hn : 1 ≤ n) :
    pollV s l t floor n = (⟨P.take (cutM n P.length), [], decide (cutM n P.length < P.length)⟩, 0) := by
  unfold pollV; rw [if_pos ⟨hok, hn⟩, hP, if_pos rfl, if_neg (by rw [hl]; decide)]
/-- What is told again when what was told was taken. -/
theorem poll_took {s : Sub} (hok : s.ok) (hl : s.live = false) {l : List Pair} {t : List Change} {floor n : Int} (hn : 1 ≤ n) {P : List Pair} (hP : leftV s l t floor = (P, 0)) (hPl : P.length ≤ 1000) :
    ∃ u x y, tookV s l t floor (cutM n P.length : Nat) = (u, 0) ∧ pollV u l t floor 1000 = (x, 0) ∧ pollV s l t floor 1000 = (y, 0) ∧ u.cur = s.cur ∧ (u.live = true ↔ ¬ cutM n P.length < P.length) ∧
      (¬ u.live = true → P.take (cutM n P.length) ++ x.ps = y.ps) ∧ y.ps.length ≤ P.length ∧ x.ps.length ≤ P.length := by
  have hy := @poll_pairs s l t floor 1000 P hok hP hl (by decide)
  have hc1 : cutM 1000 P.length = P.length := by unfold cutM; simp; omega
  rw [hc1, List.take_length] at hy
  obtain ⟨a1, a2, a3, a4⟩ := (@took_cases s hok hl l t floor ((cutM n P.length : Nat) : Int) (by omega)).2 P hP
  by_cases hlt : cutM n P.length < P.length
  · have hpos : 0 < cutM n P.length := by unfold cutM at *; omega
    obtain ⟨j, hj⟩ : ∃ j, cutM n P.length = j + 1 := ⟨cutM n P.length - 1, by omega⟩
    rw [hj] at a4 hlt ⊢
    obtain ⟨k, hk⟩ : ∃ k, P[j]? = some k := ⟨_, List.getElem?_eq_getElem (by omega)⟩
    have hu := a4 j k rfl hlt hk
    have hkeys := @leftV_keys s l t floor
    rw [hP] at hkeys
    have hkl := hkeys k (List.mem_of_getElem? hk)
    have hok2 : Sub.ok { s with next := k.key ++ [0] } := ⟨hok.1, by show (k.key ++ [0]).length ≤ 17; rw [List.length_append]; simp; omega, fun h => by simp only at h; rw [hl] at h; exact Bool.noConfusion h, hok.2.2.2⟩
    have hx := @poll_pairs { s with next := k.key ++ [0] } l t floor 1000 _ hok2 (left_next hP hk) hl (by decide)
    have hc2 : cutM 1000 (P.drop (j + 1)).length = (P.drop (j + 1)).length := by unfold cutM; rw [List.length_drop]; simp; omega
    rw [hc2, List.take_length] at hx
    refine ⟨_, _, _, hu, hx, hy, rfl, ⟨fun h => by simp only at h; rw [hl] at h; exact Bool.noConfusion h, fun h => absurd hlt h⟩, fun _ => List.take_append_drop _ _, Nat.le_refl _, by simp⟩
  · have hle : cutM n P.length = P.length := by unfold cutM at *; omega
    have hu := a2 (by rw [hle])
    have hok2 : Sub.ok { s with live := true, next := [] } := ⟨hok.1, by simp, fun _ => rfl, hok.2.2.2⟩
    have h0 : (leftV { s with live := true, next := [] } l t floor).2 = 0 := by
      have : (leftV s l t floor).2 = 0 := by rw [hP]
      unfold leftV at this ⊢
      simp only
      by_cases g : (atV l t floor s.cur).2 = 0
      · rw [if_pos g]
      · rw [if_neg g] at this; exact absurd this g
    have hx := @poll_live { s with live := true, next := [] } l t floor 1000 hok2 h0 rfl (by decide)
    exact ⟨_, _, _, hu, hx, hy, rfl, ⟨fun _ => hlt, fun _ => rfl⟩, fun h => absurd rfl h, Nat.le_refl _, by simp⟩
end Go.Proofs.Ytjhjnphcdpjnbaa
set_option linter.unusedVariables false
set_option linter.unusedSimpArgs false
set_option maxRecDepth 8000
namespace Go.Proofs.Ytjhjnphcdpjnbaa
open Go Go.Proofs Go.Proofs.YtjhjnphcdpjnbaaVm Go.Proofs.Ytjhjnphcdpjnbaa.Ty

set_option maxHeartbeats 8000000 in
theorem ref19_Replay (l : List Pair) (ch : List Chunk) (hl : l.length ≤ 1000) (hn : ch.length ≤ 90) (hs : ∀ c ∈ ch, c.slim) :
    Ct Try.prog 21 (YtjhjnphcdpjnbaaVm.ops [.row (l.map Pair.pv), .row (ch.map Chunk.pv)]) (.vals [.row ((replayV l ch).1.map Pair.pv), .bool (decide ((replayV l ch).2 = 0))]) := by
  obtain ⟨RP, re, hR⟩ : ∃ p e, replayV l ch = (p, e) := ⟨_, _, rfl⟩
  rw [hR]
  unfold replayV at hR
  simp only
  refine Ct.of_V Try.func21 rfl (by simp [YtjhjnphcdpjnbaaVm.ops, Try.f21]) ?_
  refine V.exec 400 ?_
  simp (config := {contextual := true}) only [go_sem, ↓reduceIte, reduceCtorEq, Bool.false_eq_true, Bool.true_eq_false, Nat.reduceAdd, Nat.reduceLT, Nat.reduceEqDiff, Nat.reduceLeDiff, Nat.reduceSub, Nat.reduceMul, Try.f21]
  refine V.loop (fun m ls os => ∃ (i : Nat) (out : List Pair), i ≤ ch.length ∧ m = ch.length - i ∧ out.length ≤ 1000 + 2000 * i ∧ replayGo l out (ch.drop i) = (RP, re) ∧
        ls = [(0, .val (.row (l.map Pair.pv))), (1, .val (.row (ch.map Chunk.pv))), (6, .val (.row (out.map Pair.pv))), (7, .val (.int .i64 i))] ∧ os = []) 0 ch.length
      [(0, .val (.row (l.map Pair.pv))), (1, .val (.row (ch.map Chunk.pv))), (6, .val (.row (l.map Pair.pv))), (7, .val (.int .i64 0))] [] []
      ⟨0, l, Nat.zero_le _, rfl, by omega, hR, rfl, rfl⟩ (by simp only [go_sem, ↓reduceIte, reduceCtorEq, Bool.false_eq_true, Bool.true_eq_false, Nat.reduceAdd, Nat.reduceLT, Nat.reduceEqDiff, Nat.reduceLeDiff, Nat.reduceSub, Nat.reduceMul]) ?_
  rintro m ls os ⟨i, out, hi, rfl, hol, hgo, rfl, rfl⟩
  refine V.exec 400 ?_
  by_cases hlt : i < ch.length
  · have hlt' : (i : Int) < (ch.length : Int) := by omega
    obtain ⟨c, hx⟩ : ∃ x, ch[i]? = some x := ⟨_, List.getElem?_eq_getElem hlt⟩
    have hsl := hs c (List.mem_of_getElem? hx)
    have hw : IntKind.i64.wrap ((i : Int) + 1) = ((i + 1 : Nat) : Int) := by rw [wrap_small3] <;> omega
    rw [drop_of_get hx, replayGo] at hgo
    have hsl1 := hsl.1
    have hsl2 := hsl.2
    have ha := ref10_Apply out (c.ps.map noteP) (by omega) (by simp; omega)
    have hal := applyV_len out (c.ps.map noteP)
    rw [List.length_map] at hal
    obtain ⟨q, e1, hq⟩ : ∃ p e, applyV out (c.ps.map noteP) = (p, e) := ⟨_, _, rfl⟩
    rw [hq] at ha hal hgo
    simp only at ha hal hgo
    have hd := ref15_Do q c.cs (by omega) (by omega)
    have hdl := doV_len q c.cs
    obtain ⟨q2, e2, hq2⟩ : ∃ p e, doV q c.cs = (p, e) := ⟨_, _, rfl⟩
    rw [hq2] at hd hdl hgo
    simp only at hd hdl hgo
    simp (config := {contextual := true}) only [go_sem, ↓reduceIte, reduceCtorEq, Bool.false_eq_true, Bool.true_eq_false, Nat.reduceAdd, Nat.reduceLT, Nat.reduceEqDiff, Nat.reduceLeDiff, Nat.reduceSub, Nat.reduceMul, hlt', hx, Chunk.pv]
    refine V.loop (fun m ls os => ∃ (j : Nat), j ≤ c.ps.length ∧ m = c.ps.length - j ∧
        ls = [(0, .val (.row (l.map Pair.pv))), (1, .val (.row (ch.map Chunk.pv))), (6, .val (.row (out.map Pair.pv))), (7, .val (.int .i64 i)), (8, .ref 0), (9, .val (.int .i64 j))] ∧ os = [.row 64 (((c.ps.take j).map noteP).map Note.pv)]) 1 c.ps.length
      [(0, .val (.row (l.map Pair.pv))), (1, .val (.row (ch.map Chunk.pv))), (6, .val (.row (out.map Pair.pv))), (7, .val (.int .i64 i)), (8, .ref 0), (9, .val (.int .i64 0))] [.row 64 []] [none]
      ⟨0, Nat.zero_le _, rfl, rfl, rfl⟩ (by simp only [go_sem, ↓reduceIte, reduceCtorEq, Bool.false_eq_true, Bool.true_eq_false, Nat.reduceAdd, Nat.reduceLT, Nat.reduceEqDiff, Nat.reduceLeDiff, Nat.reduceSub, Nat.reduceMul, Chunk.pv]; try decide) ?_
    rintro m ls os ⟨j, hj, rfl, rfl, rfl⟩
    refine V.exec 400 ?_
    by_cases hjt : j < c.ps.length
    · have hjt' : (j : Int) < (c.ps.length : Int) := by omega
      obtain ⟨x, hy⟩ : ∃ x, c.ps[j]? = some x := ⟨_, List.getElem?_eq_getElem hjt⟩
      have hw2 : IntKind.i64.wrap ((j : Int) + 1) = ((j + 1 : Nat) : Int) := by rw [wrap_small3] <;> omega
      have hts : (c.ps.take (j + 1)).map noteP = (c.ps.take j).map noteP ++ [noteP x] := by rw [List.take_add_one, hy, List.map_append]; rfl
      have htl : ((c.ps.take j).map noteP).length ≤ 1000 := by rw [List.length_map, List.length_take]; omega
      generalize (c.ps.take j).map noteP = N at *
      simp (config := {contextual := true}) only [go_sem, ↓reduceIte, reduceCtorEq, Bool.false_eq_true, Bool.true_eq_false, Nat.reduceAdd, Nat.reduceLT, Nat.reduceEqDiff, Nat.reduceLeDiff, Nat.reduceSub, Nat.reduceMul, hlt', hx, Chunk.pv, hjt', hy, Pair.pv, hw2]
      refine ⟨⟨by omega, by omega⟩, by kernel_rfl, c.ps.length - (j + 1), _, _, [some 30], by omega, ⟨j + 1, by omega, rfl, rfl, rfl⟩, ?_⟩
      simp only [go_sem, ↓reduceIte, reduceCtorEq, Bool.false_eq_true, Bool.true_eq_false, Nat.reduceAdd, Nat.reduceLT, Nat.reduceEqDiff, Nat.reduceLeDiff, Nat.reduceSub, Nat.reduceMul, hts, List.map_append, List.map_cons, List.map_nil, Note.pv, noteP]
      try decide
    · have hjt' : ¬ (j : Int) < (c.ps.length : Int) := by omega
      rw [List.take_of_length_le (by omega)]
      simp (config := {contextual := true}) only [go_sem, ↓reduceIte, reduceCtorEq, Bool.false_eq_true, Bool.true_eq_false, Nat.reduceAdd, Nat.reduceLT, Nat.reduceEqDiff, Nat.reduceLeDiff, Nat.reduceSub, Nat.reduceMul, hlt', hx, Chunk.pv, hjt']
      refine V.call rfl rfl (by simp [dOK]) ⟨34, [], by simp only [go_sem, ↓reduceIte, reduceCtorEq, Bool.false_eq_true, Bool.true_eq_false, Nat.reduceAdd, Nat.reduceLT, Nat.reduceEqDiff, Nat.reduceLeDiff, Nat.reduceSub, Nat.reduceMul], ⟨_, rfl, rfl, rfl⟩, .inl ⟨[.row (out.map Pair.pv), .row ((c.ps.map noteP).map Note.pv)], _, .inl (by simp only [go_sem, ↓reduceIte, reduceCtorEq, Bool.false_eq_true, Bool.true_eq_false, Nat.reduceAdd, Nat.reduceLT, Nat.reduceEqDiff, Nat.reduceLeDiff, Nat.reduceSub, Nat.reduceMul]), ha, .inr (.inl ⟨_, rfl, rfl, rfl⟩)⟩⟩ ?_
      refine V.exec 400 ?_
      simp (config := {contextual := true}) only [go_sem, ↓reduceIte, reduceCtorEq, Bool.false_eq_true, Bool.true_eq_false, Nat.reduceAdd, Nat.reduceLT, Nat.reduceEqDiff, Nat.reduceLeDiff, Nat.reduceSub, Nat.reduceMul, hlt', hx, Chunk.pv]
      refine V.call rfl rfl (by simp [dOK]) ⟨35, [], by simp only [go_sem, ↓reduceIte, reduceCtorEq, Bool.false_eq_true, Bool.true_eq_false, Nat.reduceAdd, Nat.reduceLT, Nat.reduceEqDiff, Nat.reduceLeDiff, Nat.reduceSub, Nat.reduceMul], ⟨_, rfl, rfl, rfl⟩, .inl ⟨[.row (q.map Pair.pv), .row (c.cs.map Change.pv)], _, .inl (by simp only [go_sem, ↓reduceIte, reduceCtorEq, Bool.false_eq_true, Bool.true_eq_false, Nat.reduceAdd, Nat.reduceLT, Nat.reduceEqDiff, Nat.reduceLeDiff, Nat.reduceSub, Nat.reduceMul]), hd, .inr (.inl ⟨_, rfl, rfl, rfl⟩)⟩⟩ ?_
      refine V.exec 400 ?_
      by_cases he1 : e1 = 0
      · rw [if_pos he1] at hgo
        by_cases he2 : e2 = 0
        · rw [if_pos he2] at hgo
          simp (config := {contextual := true}) only [go_sem, ↓reduceIte, reduceCtorEq, Bool.false_eq_true, Bool.true_eq_false, Nat.reduceAdd, Nat.reduceLT, Nat.reduceEqDiff, Nat.reduceLeDiff, Nat.reduceSub, Nat.reduceMul, he1, he2, hw, decide_true]
          exact ⟨ch.length - (i + 1), _, [], [], by omega, ⟨i + 1, q2, by omega, rfl, by omega, hgo, rfl, rfl⟩, by simp only [go_sem, ↓reduceIte, reduceCtorEq, Bool.false_eq_true, Bool.true_eq_false, Nat.reduceAdd, Nat.reduceLT, Nat.reduceEqDiff, Nat.reduceLeDiff, Nat.reduceSub, Nat.reduceMul]⟩
        · rw [if_neg he2, Prod.mk.injEq] at hgo
          obtain ⟨rfl, rfl⟩ := hgo
          simp (config := {contextual := true}) only [go_sem, ↓reduceIte, reduceCtorEq, Bool.false_eq_true, Bool.true_eq_false, Nat.reduceAdd, Nat.reduceLT, Nat.reduceEqDiff, Nat.reduceLeDiff, Nat.reduceSub, Nat.reduceMul, he1, he2, decide_false]
      · rw [if_neg he1, Prod.mk.injEq] at hgo
        obtain ⟨rfl, rfl⟩ := hgo
        simp (config := {contextual := true}) only [go_sem, ↓reduceIte, reduceCtorEq, Bool.false_eq_true, Bool.true_eq_false, Nat.reduceAdd, Nat.reduceLT, Nat.reduceEqDiff, Nat.reduceLeDiff, Nat.reduceSub, Nat.reduceMul, he1, decide_false]
  · have hlt' : ¬ (i : Int) < (ch.length : Int) := by omega
    have hd : ch.drop i = [] := List.drop_eq_nil_of_le (by omega)
    rw [hd, replayGo, Prod.mk.injEq] at hgo
    obtain ⟨rfl, rfl⟩ := hgo
    simp (config := {contextual := true}) only [go_sem, ↓reduceIte, reduceCtorEq, Bool.false_eq_true, Bool.true_eq_false, Nat.reduceAdd, Nat.reduceLT, Nat.reduceEqDiff, Nat.reduceLeDiff, Nat.reduceSub, Nat.reduceMul, hlt', decide_true]
end Go.Proofs.Ytjhjnphcdpjnbaa
set_option linter.unusedVariables false
set_option linter.unusedSimpArgs false
set_option maxRecDepth 8000
namespace Go.Proofs.YtjhjnphcdpjnbaaVm
open Go Go.Proofs
/-- A row of structs of one kind. -/
def RowOf (ks : List KD) (xs : List PV) : Prop := xs.length ≤ maxLen ∧ ∀ x ∈ xs, ∃ qs, x = .agg qs ∧ qs.map PV.kd = ks ∧ ∀ q ∈ qs, q.wfv
theorem PTy.rowOf {P : Program} {d d' : Nat} {t e : TypeId} {ps : List PV} {ks : List KD} (h : PTy P (d + 1) t ps) (hs : P.underlying t = some (.slice e)) (hk : eqK P d' e = some ks) (hag : aggOf P e = some true) : ∃ xs, ps = [.row xs] ∧ RowOf ks xs := by
  unfold PTy at h
  simp only [hs] at h
  obtain ⟨ys, hc, hyl, hy⟩ := h
  refine ⟨ys, hc, hyl, fun y hym => ?_⟩
  obtain ⟨k1, k2⟩ := hy y hym
  rw [hag] at k2
  obtain ⟨m1, m2⟩ := PTy.kinds d e _ k1 d' ks hk
  cases y with
  | agg qs => exact ⟨qs, rfl, m1, m2⟩
  | _ => cases k2
def packC (x : List PV × List PV × Bool) : PV := .agg [.row x.1, .row x.2.1, .bool x.2.2]
theorem Opens.packs {P : Program} {w : World} {d : Nat} {t s e1 e2 : TypeId} {cs : List Value} {ks1 ks2 : List KD} {d' : Nat} {fs : Array Field} {f1 f2 f3 : Field} (h : Opens P w (d + 3) t cs) (hu : P.underlying t = some (.slice s)) (hs : P.underlying s = some (.struct fs)) (hfs : fs.toList = [f1, f2, f3]) (has : aggOf P s = some true)
    (u1 : P.underlying f1.type = some (.slice e1)) (u2 : P.underlying f2.type = some (.slice e2)) (u3 : P.underlying f3.type = some .bool) (c1 : P.cellsOf f1.type = 1) (c2 : P.cellsOf f2.type = 1) (c3 : P.cellsOf f3.type = 1)
    (hk1 : eqK P d' e1 = some ks1) (hg1 : aggOf P e1 = some true) (hk2 : eqK P d' e2 = some ks2) (hg2 : aggOf P e2 = some true) :
    ∃ xs : List (List PV × List PV × Bool), Reps w (Fw w) [.row (xs.map packC)] cs ∧ xs.length ≤ maxLen ∧ ∀ x ∈ xs, RowOf ks1 x.1 ∧ RowOf ks2 x.2.1 := by
  obtain ⟨ps, h1, h2, h3, h4⟩ := h
  unfold PTy at h2
  simp only [hu] at h2
  obtain ⟨xs, rfl, hl, hx⟩ := h2
  have key : ∀ xs : List PV, (∀ x ∈ xs, ∃ y, x = packC y ∧ RowOf ks1 y.1 ∧ RowOf ks2 y.2.1) → ∃ ys : List (List PV × List PV × Bool), xs = ys.map packC ∧ ∀ y ∈ ys, RowOf ks1 y.1 ∧ RowOf ks2 y.2.1 := by
    intro xs
    induction xs with
    | nil => intro _; exact ⟨[], rfl, by simp⟩
    | cons x r ih =>
      intro h
      obtain ⟨t, rfl, ht⟩ := ih fun y hy => h y (List.mem_cons_of_mem _ hy)
      obtain ⟨y, rfl, hy⟩ := h x List.mem_cons_self
      refine ⟨y :: t, rfl, fun z hz => ?_⟩
      rcases List.mem_cons.1 hz with rfl | hz
      · exact hy
      · exact ht z hz
  obtain ⟨ys, rfl, hys⟩ := key xs fun x hxm => by
    obtain ⟨g1, g2⟩ := hx x hxm
    rw [has] at g2
    cases x with
    | agg qs =>
      unfold PTy at g1
      simp only [hs, hfs, PFs, c1, c2, c3, PV.cells] at g1
      obtain ⟨k1, k2, k3, k4⟩ := g1
      obtain ⟨a, ha, ha'⟩ := PTy.rowOf k1 u1 hk1 hg1
      obtain ⟨b, hb, hb'⟩ := PTy.rowOf k2 u2 hk2 hg2
      unfold PTy at k3
      simp only [u3] at k3
      obtain ⟨m, hm⟩ := k3
      match qs, ha, hb, hm, k4 with
      | [p1, p2, p3], ha, hb, hm, k4 =>
        simp at ha hb hm
        subst ha hb hm
        exact ⟨(a, b, m), rfl, ha', hb'⟩
    | _ => cases g2
  exact ⟨ys, h1, by simpa using hl, hys⟩
end Go.Proofs.YtjhjnphcdpjnbaaVm
set_option linter.unusedVariables false
set_option linter.unusedSimpArgs false
set_option maxRecDepth 8000
namespace Go.Proofs.Ytjhjnphcdpjnbaa
open Go Go.Proofs Go.Proofs.YtjhjnphcdpjnbaaVm

theorem pick_sorted {p : List Pair} (hs : Sorted p) (r : Range) : Sorted (pickV r p) := List.Pairwise.sublist List.filter_sublist hs
theorem pick_ok {p : List Pair} (h : pairsOk p) (r : Range) : pairsOk (pickV r p) := by
  obtain ⟨h1, h2⟩ := (pairsOk_iff p).1 h
  exact (pairsOk_iff _).2 ⟨pick_sorted h1 r, fun x hx => h2 x (List.mem_filter.1 hx).1⟩
theorem pick_val {p : List Pair} (hs : Sorted p) (r : Range) (k : List UInt8) : val (pickV r p) k = if r.isIn k then val p k else none := by
  apply Option.ext
  intro v
  rw [val_iff (pick_sorted hs r)]
  unfold pickV
  rw [List.mem_filter]
  simp only [decide_eq_true_eq]
  by_cases h : r.isIn k
  · rw [if_pos h, val_iff hs]; simp [h]
  · rw [if_neg h]; simp [h]
theorem pick_one {p : List Pair} (hs : Sorted p) (r : Range) (c : Change) : pickV r (oneV p (noteC c)) = if r.isIn c.key then oneV (pickV r p) (noteC c) else pickV r p := by
  have h1 := oneV_sorted hs (noteC c)
  have h2 := pick_sorted hs r
  split
  · rename_i hk
    refine val_ext (pick_sorted h1 r) (oneV_sorted h2 _) fun k => ?_
    rw [pick_val h1, val_note hs, val_note h2, pick_val hs]
    by_cases e : k = c.key
    · subst e; simp [hk]
    · simp [e]
  · rename_i hk
    refine val_ext (pick_sorted h1 r) h2 fun k => ?_
    rw [pick_val h1, val_note hs, pick_val hs]
    by_cases e : k = c.key
    · subst e; simp [hk]
    · simp [e]
/-- Of the pairs of a range only the changes of that range matter. -/
theorem pick_go (r : Range) : ∀ (cs : List Change) {p q : List Pair}, pairsOk p → doGo p cs = some q → doGo (pickV r p) (cs.filter fun c => decide (r.isIn c.key)) = some (pickV r q)
  | [], p, q, h, e => by cases e; rfl
  | c :: t, p, q, h, e => by
    simp only [doGo] at e
    split at e
    · rename_i hc
      have hs := ((pairsOk_iff p).1 h).1
      have ih := pick_go r t (oneV_pairsOk h (noteC_ok hc.1)) e
      rw [pick_one hs] at ih
      by_cases hk : r.isIn c.key
      · rw [if_pos hk] at ih
        rw [List.filter_cons, if_pos (by simpa using hk)]
        have hfit : fitC (pickV r p) c := (fitC_val (pick_ok h r) hc.1).2 (by rw [pick_val hs, if_pos hk]; exact (fitC_val h hc.1).1 hc.2)
        simp only [doGo]
        rw [if_pos ⟨hc.1, hfit⟩]
        exact ih
      · rw [if_neg hk] at ih
        rw [List.filter_cons, if_neg (by simpa using hk)]
        exact ih
    · cases e
/-- Pairs that are put behind. -/
theorem put_one {l : List Pair} {x : Pair} (hs : Sorted (l ++ [x])) : oneV l (noteP x) = l ++ [x] := by
  have hl : Sorted l := List.Pairwise.sublist (List.sublist_append_left l [x]) hs
  refine val_ext (oneV_sorted hl _) hs fun k => ?_
  have hkk : (noteP x).key = x.key := rfl
  rw [oneV_val hl, hkk]
  have hx : stepO (val l k) (noteP x) = some x.value := by
    unfold stepO
    cases val l k <;> rfl
  by_cases e : k = x.key
  · subst e
    rw [if_pos rfl, hx]
    exact ((val_iff hs).2 (by simp)).symm
  · rw [if_neg e]
    apply Option.ext
    intro v
    rw [val_iff hl, val_iff hs]
    simp only [List.mem_append, List.mem_singleton]
    constructor
    · exact .inl
    · rintro (h | h)
      · exact h
      · exact absurd (congrArg Pair.key h) e
theorem put_all : ∀ (xs : List Pair) {l : List Pair}, Sorted (l ++ xs) → appV l (xs.map noteP) = l ++ xs
  | [], l, _ => by simp [appV]
  | x :: r, l, h => by
    have h1 : Sorted (l ++ [x]) := by
      refine List.Pairwise.sublist ?_ h
      exact List.Sublist.append_left (List.Sublist.cons_cons x (List.nil_sublist r)) l
    have e : appV l ((x :: r).map noteP) = appV (oneV l (noteP x)) (r.map noteP) := rfl
    rw [e, put_one h1, put_all r (by simpa using h)]
    simp
theorem put_taken {Q : List Pair} (hQ : pairsOk Q) (j n : Nat) : applyV (Q.take j) (((Q.drop j).take n).map noteP) = (Q.take (j + n), 0) := by
  obtain ⟨h1, h2⟩ := (pairsOk_iff Q).1 hQ
  have e : Q.take (j + n) = Q.take j ++ (Q.drop j).take n := List.take_add
  have hs : Sorted (Q.take j ++ (Q.drop j).take n) := by rw [← e]; exact List.Pairwise.sublist (List.take_sublist _ _) h1
  have ho : pairsOk (Q.take j) := (pairsOk_iff _).2 ⟨List.Pairwise.sublist (List.take_sublist _ _) h1, fun x hx => h2 x (List.mem_of_mem_take hx)⟩
  have hn : notesOk (((Q.drop j).take n).map noteP) := fun x hx => by
    obtain ⟨p, hp, rfl⟩ := List.mem_map.1 hx
    have := h2 p (List.mem_of_mem_drop (List.mem_of_mem_take hp))
    exact ⟨this.1, this.2, .inl ⟨rfl, rfl⟩⟩
  unfold applyV
  rw [if_pos ⟨ho, hn⟩, put_all _ hs, e]
/-- The first ones of what is chosen are what is chosen of a first part. -/
theorem take_filter {α : Type} (P : α → Bool) : ∀ (A : List α) (n : Nat), 0 < n → n ≤ (A.filter P).length → ∃ j, 0 < j ∧ j ≤ A.length ∧ (A.filter P).take n = (A.take j).filter P ∧ ∃ x, A[j - 1]? = some x ∧ ((A.filter P).take n)[n - 1]? = some x
  | [], n, h0, h => by simp at h; omega
  | a :: A, n, h0, h => by
    by_cases hp : P a = true
    · rw [List.filter_cons, if_pos hp] at h ⊢
      by_cases h1 : n = 1
      · subst h1
        exact ⟨1, by omega, by simp, by simp [hp], a, by simp, by simp⟩
      · obtain ⟨m, rfl⟩ : ∃ m, n = m + 1 := ⟨n - 1, by omega⟩
        obtain ⟨j, g1, g2, g3, x, g4, g5⟩ := take_filter P A m (by omega) (by simpa using h)
        refine ⟨j + 1, by omega, by simpa using g2, by rw [List.take_succ_cons, List.take_succ_cons, List.filter_cons, if_pos hp, g3], x, ?_, ?_⟩
        · obtain ⟨j', rfl⟩ : ∃ j', j = j' + 1 := ⟨j - 1, by omega⟩
          simpa using g4
        · obtain ⟨m', rfl⟩ : ∃ m', m = m' + 1 := ⟨m - 1, by omega⟩
          simpa using g5
    · rw [List.filter_cons, if_neg hp] at h ⊢
      obtain ⟨j, g1, g2, g3, x, g4, g5⟩ := take_filter P A n h0 h
      refine ⟨j + 1, by omega, by simpa using g2, by rw [g3, List.take_succ_cons, List.filter_cons, if_neg hp], x, ?_, g5⟩
      obtain ⟨j', rfl⟩ : ∃ j', j = j' + 1 := ⟨j - 1, by omega⟩
      simpa using g4
end Go.Proofs.Ytjhjnphcdpjnbaa
set_option linter.unusedVariables false
set_option linter.unusedSimpArgs false
set_option maxRecDepth 8000
namespace Go.Proofs.Ytjhjnphcdpjnbaa
open Go Go.Proofs Go.Proofs.YtjhjnphcdpjnbaaVm

theorem consec_drop {c : List Change} (h : Consec 0 c) {k : Nat} : ∀ x ∈ c.drop k, (k : Int) < x.seq := fun x hx => by
  obtain ⟨j, hj, rfl⟩ := List.getElem_of_mem hx
  have := h (k + j) _ (by rw [← List.getElem?_drop]; exact List.getElem?_eq_getElem hj)
  rw [this]; omega
theorem at_part {p pa : List Pair} {ca cb : List Change} (hpo : pairsOk p) (ht : trailOk (ca ++ cb)) (hc : Consec 0 (ca ++ cb)) (hd : doV pa cb = (p, 0)) : atV p (ca ++ cb) 0 (ca.length : Int) = (pa, 0) := by
  have e1 : dropV (ca ++ cb) (ca.length : Int) = cb := by
    rw [dropV_at ht (n := (ca.length : Int)) (k := ca.length) (by rw [List.length_append]; omega) (consec_drop hc) (fun x hk hx => by
      have := hc _ x hx
      rw [this]; omega)]
    exact List.drop_left
  have e2 : backGo p cb = some pa := by
    have := (do_undo hd).1
    rw [undoV_go hpo] at this
    cases hb : backGo p cb with
    | none => rw [hb] at this; simp at this
    | some q => rw [hb] at this; simp at this; rw [this]
  unfold atV
  rw [if_pos ⟨hpo, ht⟩, if_neg (by omega), e1, e2]
/-- What batches make, as far as some of them. -/
structure Run (bs : List (List Note)) (C : List Change) (m : Nat → Nat) (st : Nat → List Pair) : Prop where
  all : ∀ now, now ≤ bs.length → ∃ ea, allV [] 0 (bs.take now) = (C.take (m now), st (m now), ea, 0)
  le : ∀ now, now ≤ bs.length → m now ≤ C.length
  mono : ∀ a b, a ≤ b → b ≤ bs.length → m a ≤ m b
  top : m bs.length = C.length
  st : ∀ q, q ≤ C.length → doGo [] (C.take q) = some (st q)
  seqs : Consec 0 C
  len : C.length ≤ 8 * bs.length

theorem allV_len1 {bs : List (List Note)} {C : List Change} {L : List Pair} {ends : List Int} (h : allV [] 0 bs = (C, L, ends, 0)) : C.length ≤ 8 * bs.length := by
  have := (allV_len [] 0 bs).1
  rw [h] at this
  exact this
theorem part_of {bs : List (List Note)} {C : List Change} {L : List Pair} {ends : List Int} (h : allV [] 0 bs = (C, L, ends, 0)) (now : Nat) : ∃ ca pa ea cb, allV [] 0 (bs.take now) = (ca, pa, ea, 0) ∧ C = ca ++ cb ∧ ∃ eb, ends = ea ++ eb := by
  have hpt := all_parts [] 0 (bs.take now) (bs.drop now)
  rw [List.take_append_drop, h] at hpt
  simp only at hpt
  obtain ⟨ca, pa, ea, fa, hA⟩ : ∃ x y z u, allV [] 0 (bs.take now) = (x, y, z, u) := ⟨_, _, _, _, rfl⟩
  rw [hA] at hpt
  simp only at hpt
  have hfa : fa = 0 := Classical.byContradiction fun g => hpt.1 g rfl
  subst hfa
  have h2 := hpt.2 rfl
  have h3 := h2.2 (h2.1.symm)
  simp only [Prod.mk.injEq] at h3
  exact ⟨ca, pa, ea, _, hA, h3.1, _, h3.2.2.1⟩
theorem run_of {bs : List (List Note)} {C : List Change} {L : List Pair} {ends : List Int} (h : allV [] 0 bs = (C, L, ends, 0)) :
    ∃ m st, Run bs C m st ∧ ∀ now, 0 < now → now ≤ bs.length → ends[now - 1]? = some (m now : Int) := by
  have hL := allV_lead (by decide) h
  refine ⟨fun now => (allV [] 0 (bs.take now)).1.length, fun q => (doGo [] (C.take q)).getD [], ⟨fun now hn => ?_, fun now hn => ?_, fun a b hab hb => ?_, ?_, fun q hq => ?_, hL.seqs, allV_len1 h⟩, fun now h0 hn => ?_⟩
  · obtain ⟨ca, pa, ea, cb, hA, rfl, _⟩ := part_of h now
    have hLa := allV_lead (by decide) hA
    refine ⟨ea, ?_⟩
    simp only [hA, List.take_left, hLa.does, Option.getD_some]
  · obtain ⟨ca, pa, ea, cb, hA, rfl, _⟩ := part_of h now
    simp only [hA, List.length_append]; omega
  · obtain ⟨cb, pb, eb, _, hB, _, _⟩ := part_of h b
    obtain ⟨ca, pa, ea, cc, hA, hc, _⟩ := part_of hB a
    rw [List.take_take, Nat.min_eq_left hab] at hA
    simp only [hA, hB, hc, List.length_append]; omega
  · simp only [List.take_length, h]
  · have := hL.does
    rw [← List.take_append_drop q C, doGo_app] at this
    cases hx : doGo [] (C.take q) with
    | none => rw [hx] at this; cases this
    | some p => rfl
  · obtain ⟨ca, pa, ea, cb, hA, rfl, eb, rfl⟩ := part_of h now
    have hLa := allV_lead (by decide) hA
    have hea : ea.length = now := by rw [hLa.elen, List.length_take]; omega
    rw [List.getElem?_append_left (by omega)]
    have hl := hLa.last (by intro g; have := congrArg List.length g; rw [List.length_take, List.length_nil] at this; omega)
    rw [List.getLast?_eq_getElem?, hea] at hl
    rw [hl]
    simp [hA]
theorem Run.ok {bs : List (List Note)} {C : List Change} {m : Nat → Nat} {st : Nat → List Pair} (h : Run bs C m st) {q : Nat} (hq : q ≤ C.length) : pairsOk (st q) := (doGo_ok _ (by decide) (h.st q hq)).1
theorem Run.stlen {bs : List (List Note)} {C : List Change} {m : Nat → Nat} {st : Nat → List Pair} (h : Run bs C m st) {q : Nat} (hq : q ≤ C.length) : (st q).length ≤ q := by
  have := doGo_len _ (by decide) (h.st q hq)
  rw [List.length_take] at this
  simp at this; omega
theorem Run.go {bs : List (List Note)} {C : List Change} {m : Nat → Nat} {st : Nat → List Pair} (h : Run bs C m st) {q q2 : Nat} (hq : q ≤ q2) (hq2 : q2 ≤ C.length) : doGo (st q) ((C.take q2).drop q) = some (st q2) := by
  have h1 := h.st q (by omega)
  have h2 := h.st q2 hq2
  have e : C.take q2 = C.take q ++ (C.take q2).drop q := by
    conv => lhs; rw [← List.take_append_drop q (C.take q2), List.take_take, Nat.min_eq_left hq]
  rw [e, doGo_app, h1, Option.bind_some] at h2
  exact h2
theorem Run.at {bs : List (List Note)} {C : List Change} {m : Nat → Nat} {st : Nat → List Pair} (h : Run bs C m st) {q now : Nat} (hn : now ≤ bs.length) (hq : q ≤ m now) : atV (st (m now)) (C.take (m now)) 0 (q : Int) = (st q, 0) := by
  have hm := h.le now hn
  have e : C.take (m now) = C.take q ++ (C.take (m now)).drop q := by
    conv => lhs; rw [← List.take_append_drop q (C.take (m now)), List.take_take, Nat.min_eq_left hq]
  have hlen : (C.take q).length = q := by rw [List.length_take]; omega
  have hok := h.ok (q := q) (by omega)
  have hd : doV (st q) ((C.take (m now)).drop q) = (st (m now), 0) := doV_zero.2 ⟨hok, h.go hq hm⟩
  have hseq : Consec 0 (C.take (m now)) := fun j x hj => h.seqs j x (by
    rw [List.getElem?_take] at hj; split at hj
    · exact hj
    · cases hj)
  have hoks := (doGo_ok _ (by decide) (h.st (m now) hm)).2
  have htr : trailOk (C.take (m now)) := consec_trail (base := 0) _ none 0 (fun s hs => by cases hs) hoks hseq
  rw [e] at htr hseq ⊢
  have := at_part (p := st (m now)) (pa := st q) (h.ok hm) htr hseq hd
  rw [hlen] at this
  exact this
theorem Run.left {bs : List (List Note)} {C : List Change} {m : Nat → Nat} {st : Nat → List Pair} (h : Run bs C m st) {q now : Nat} (hn : now ≤ bs.length) (hq : q ≤ m now) {s : Sub} (hs : s.cur = (q : Int)) : leftV s (st (m now)) (C.take (m now)) 0 = (leftP s (st q), 0) := by
  unfold leftV
  rw [hs, h.at hn hq]
  rfl
theorem Run.since {bs : List (List Note)} {C : List Change} {m : Nat → Nat} {st : Nat → List Pair} (h : Run bs C m st) {q now : Nat} (hn : now ≤ bs.length) (hq : q ≤ m now) {s : Sub} (hs : s.cur = (q : Int)) :
    sinceA (C.take (m now)) s = ((C.take (m now)).drop q).filter fun c => decide (s.r.isIn c.key) := by
  have hm := h.le now hn
  have hseq : Consec 0 (C.take (m now)) := fun j x hj => h.seqs j x (by
    rw [List.getElem?_take] at hj; split at hj
    · exact hj
    · cases hj)
  unfold sinceA
  conv => lhs; rw [← List.take_append_drop q (C.take (m now)), List.filter_append]
  have e1 : ((C.take (m now)).take q).filter (fun c => decide (s.cur < c.seq ∧ s.r.isIn c.key)) = [] := by
    rw [List.filter_eq_nil_iff]
    intro x hx
    obtain ⟨j, hj, rfl⟩ := List.getElem_of_mem hx
    have hjq : j < q := by rw [List.length_take] at hj; omega
    have hj2 := List.getElem?_eq_getElem hj
    rw [List.getElem?_take, if_pos hjq] at hj2
    have := hseq j _ hj2
    simp only [decide_eq_true_eq, not_and]
    intro hlt
    rw [this] at hlt
    omega
  have e2 : ((C.take (m now)).drop q).filter (fun c => decide (s.cur < c.seq ∧ s.r.isIn c.key)) = ((C.take (m now)).drop q).filter (fun c => decide (s.r.isIn c.key)) := by
    apply List.filter_congr
    intro x hx
    have := consec_drop hseq x hx
    have h2 : s.cur < x.seq := by omega
    simp [h2]
  rw [e1, e2]
  rfl
end Go.Proofs.Ytjhjnphcdpjnbaa
set_option linter.unusedVariables false
set_option linter.unusedSimpArgs false
set_option maxRecDepth 8000
namespace Go.Proofs.Ytjhjnphcdpjnbaa
open Go Go.Proofs Go.Proofs.YtjhjnphcdpjnbaaVm

/-- Where the one who follows is. -/
def Step (r : Range) (nb : Nat) (m : Nat → Nat) (st : Nat → List Pair) (k i : Nat) (s : Sub) (got : List Pair) : Prop :=
  s.ok ∧ s.r = r ∧ ∃ q : Nat, s.cur = (q : Int) ∧ q ≤ m (min nb (k + i)) ∧
    ((s.live = false ∧ ∃ j, i ≤ j ∧ j ≤ (pickV r (st q)).length ∧ leftP s (st q) = (pickV r (st q)).drop j ∧ got = (pickV r (st q)).take j) ∨
     (s.live = true ∧ got = pickV r (st q) ∧ i ≤ 91 + q))

theorem Step.lt {r : Range} {bs : List (List Note)} {C : List Change} {m : Nat → Nat} {st : Nat → List Pair} (h : Run bs C m st) (hb : bs.length ≤ 10) {k i : Nat} {s : Sub} {got : List Pair} (hs : Step r bs.length m st k i s got) : i < 200 ∧ got.length ≤ 100 := by
  obtain ⟨_, _, q, _, hq, hc⟩ := hs
  have h1 := h.le (min bs.length (k + i)) (by omega)
  have h2 := h.len
  have h3 := h.stlen (q := q) (by omega)
  have h4 := pickV_len r (st q)
  rcases hc with ⟨_, j, a, b, _, rfl⟩ | ⟨_, rfl, a⟩
  · rw [List.length_take]; omega
  · omega
theorem doV_nil {l : List Pair} (h : pairsOk l) : doV l [] = (l, 0) := doV_zero.2 ⟨h, rfl⟩
theorem applyV_nil {l : List Pair} (h : pairsOk l) : applyV l [] = (l, 0) := by
  unfold applyV
  rw [if_pos ⟨h, fun x hx => by simp at hx⟩]
  rfl
theorem step_A {r : Range} {bs : List (List Note)} {C : List Change} {m : Nat → Nat} {st : Nat → List Pair} (h : Run bs C m st) (hb : bs.length ≤ 10) {k i : Nat} {s : Sub} {got : List Pair} (hs : Step r bs.length m st k i s got) (hlv : s.live = false) {n : Int} (hn : 1 ≤ n) :
    ∃ c s' got', pollV s (st (m (min bs.length (k + i)))) (C.take (m (min bs.length (k + i)))) 0 n = (c, 0) ∧ c.cs = [] ∧ (c.ps.length : Int) ≤ n ∧ (c.more = true → (c.ps.length : Int) = n) ∧ replayV got [c] = (got', 0) ∧ c.ps.length ≤ 100 ∧
      tookV s (st (m (min bs.length (k + i)))) (C.take (m (min bs.length (k + i)))) 0 (c.ps.length : Int) = (s', 0) ∧ Step r bs.length m st k (i + 1) s' got' := by
  obtain ⟨hok, hr, q, hcur, hq, hc⟩ := hs
  subst hr
  have hnow : min bs.length (k + i) ≤ bs.length := by omega
  have hmono := h.mono (min bs.length (k + i)) (min bs.length (k + (i + 1))) (by omega) (by omega)
  have hm1 := h.le _ hnow
  have hlen := h.len
  generalize hN : min bs.length (k + i) = now at *
  generalize hN2 : min bs.length (k + (i + 1)) = now2 at *
  rcases hc with ⟨_, j, hij, hj, hlp, rfl⟩ | ⟨hl, _⟩
  · have hst := h.ok (q := q) (by omega)
    have hql := h.stlen (q := q) (by omega)
    have hpl := pickV_len s.r (st q)
    have hpo := pick_ok hst s.r
    have hP := h.left hnow hq (s := s) hcur
    rw [hlp] at hP
    have hpoll := poll_pairs hok hP hlv hn
    obtain ⟨_, t2⟩ := @took_cases s hok hlv (st (m now)) (C.take (m now)) 0 ((cutM n ((pickV s.r (st q)).drop j).length : Nat) : Int) (by omega)
    obtain ⟨_, b2, _, b4⟩ := t2 _ hP
    have hnext := @left_next s (st (m now)) (C.take (m now)) 0 _ hP
    have hkeys := @leftV_keys s (st (m now)) (C.take (m now)) 0
    rw [hP] at hkeys
    generalize hQ : pickV s.r (st q) = Q at *
    have hput := put_taken hpo j (cutM n (Q.drop j).length)
    have hdl : (Q.drop j).length = Q.length - j := List.length_drop
    have htl : ((Q.drop j).take (cutM n (Q.drop j).length)).length = cutM n (Q.drop j).length := by rw [List.length_take]; unfold cutM; omega
    have hto : pairsOk (Q.take (j + cutM n (Q.drop j).length)) := by
      obtain ⟨g1, g2⟩ := (pairsOk_iff Q).1 hpo
      exact (pairsOk_iff _).2 ⟨List.Pairwise.sublist (List.take_sublist _ _) g1, fun x hx => g2 x (List.mem_of_mem_take hx)⟩
    have hrep : replayV (Q.take j) [⟨(Q.drop j).take (cutM n (Q.drop j).length), [], decide (cutM n (Q.drop j).length < (Q.drop j).length)⟩] = (Q.take (j + cutM n (Q.drop j).length), 0) := by
      unfold replayV replayGo
      simp only [hput, doV_nil hto, if_true, replayGo]
    have hcl : cutM n (Q.drop j).length ≤ (Q.drop j).length := by unfold cutM; omega
    have hcn : (cutM n (Q.drop j).length : Int) ≤ n := by unfold cutM; omega
    by_cases hlt : cutM n (Q.drop j).length < (Q.drop j).length
    · have hcn2 : (cutM n (Q.drop j).length : Int) = n := by unfold cutM at hlt ⊢; omega
      obtain ⟨j', hj'⟩ : ∃ j', cutM n (Q.drop j).length = j' + 1 := ⟨cutM n (Q.drop j).length - 1, by omega⟩
      obtain ⟨kk, hk⟩ : ∃ kk, (Q.drop j)[j']? = some kk := ⟨_, List.getElem?_eq_getElem (by omega)⟩
      have hu := b4 j' kk (by rw [hj']) (by omega) hk
      have hkl := hkeys kk (List.mem_of_getElem? hk)
      have hok2 : Sub.ok { s with next := kk.key ++ [0] } := ⟨hok.1, by show (kk.key ++ [0]).length ≤ 17; rw [List.length_append]; simp; omega, fun h => by simp only at h; rw [hlv] at h; exact Bool.noConfusion h, hok.2.2.2⟩
      have hl2 := hnext hk
      have hl3 := h.left hnow hq (s := { s with next := kk.key ++ [0] }) hcur
      rw [hl2] at hl3
      simp only [Prod.mk.injEq, and_true] at hl3
      refine ⟨_, _, _, hpoll, rfl, by rw [htl]; exact hcn, fun _ => by rw [htl]; exact hcn2, hrep, by rw [htl]; omega, by rw [htl]; exact hu, hok2, rfl, q, hcur, by rw [hN2]; omega, .inl ⟨hlv, j + cutM n (Q.drop j).length, by omega, by show _ ≤ (pickV s.r (st q)).length; rw [hQ]; omega, ?_, ?_⟩⟩
      · show leftP _ (st q) = (pickV s.r (st q)).drop _
        rw [← hl3, hQ, List.drop_drop, hj']
      · show _ = (pickV s.r (st q)).take _
        rw [hQ]
    · have heq : cutM n (Q.drop j).length = (Q.drop j).length := by omega
      have hu := b2 (by rw [heq])
      have hok2 : Sub.ok { s with live := true, next := [] } := ⟨hok.1, by simp, fun _ => rfl, hok.2.2.2⟩
      refine ⟨_, _, _, hpoll, rfl, by rw [htl]; exact hcn, fun hm => by simp only [decide_eq_true_eq] at hm; exact absurd hm hlt, hrep, by rw [htl]; omega, by rw [htl]; exact hu, hok2, rfl, q, hcur, by rw [hN2]; omega, .inr ⟨rfl, ?_, by omega⟩⟩
      show _ = pickV s.r (st q)
      rw [hQ, heq, hdl, List.take_of_length_le (by omega)]
  · rw [hlv] at hl; exact Bool.noConfusion hl
theorem step_B {r : Range} {bs : List (List Note)} {C : List Change} {m : Nat → Nat} {st : Nat → List Pair} (h : Run bs C m st) (hb : bs.length ≤ 10) {k i : Nat} {s : Sub} {got : List Pair} (hs : Step r bs.length m st k i s got) (hlv : s.live = true) {n : Int} (hn : 1 ≤ n) :
    ∃ c got', pollV s (st (m (min bs.length (k + i)))) (C.take (m (min bs.length (k + i)))) 0 n = (c, 0) ∧ c.ps = [] ∧ (c.cs.length : Int) ≤ n ∧ (c.more = true → (c.cs.length : Int) = n) ∧ replayV got [c] = (got', 0) ∧ c.cs.length ≤ 100 ∧
      ((c.cs = [] ∧ got' = got ∧ (min bs.length (k + i) = bs.length → pickV r (st (m (min bs.length (k + i)))) = got) ∧ (min bs.length (k + i) < bs.length → Step r bs.length m st k (i + 1) s got)) ∨
       (0 < c.cs.length ∧ ∃ x0 xl s', c.cs[0]? = some x0 ∧ s.cur < x0.seq ∧ c.cs[c.cs.length - 1]? = some xl ∧ ackV s (m (min bs.length (k + i)) : Nat) xl.seq = (s', 0) ∧ Step r bs.length m st k (i + 1) s' got')) := by
  obtain ⟨hok, hr, q, hcur, hq, hc⟩ := hs
  subst hr
  have hnow : min bs.length (k + i) ≤ bs.length := by omega
  have hmono := h.mono (min bs.length (k + i)) (min bs.length (k + (i + 1))) (by omega) (by omega)
  have hm1 := h.le _ hnow
  have hlen := h.len
  have hidle : min bs.length (k + i) < bs.length → i < 10 := fun g => by omega
  generalize hN : min bs.length (k + i) = now at *
  generalize hN2 : min bs.length (k + (i + 1)) = now2 at *
  rcases hc with ⟨hl, _⟩ | ⟨_, rfl, hiq⟩
  · rw [hlv] at hl; exact Bool.noConfusion hl
  · have hst := h.ok (q := q) (by omega)
    have hpo := pick_ok hst s.r
    have h0 : (leftV s (st (m now)) (C.take (m now)) 0).2 = 0 := by rw [h.left hnow hq hcur]
    have hpoll := poll_live hok h0 hlv hn
    have hsin := h.since hnow hq hcur
    have hslen := sinceA_len (C.take (m now)) s
    rw [List.length_take] at hslen
    have hgo := h.go hq hm1
    generalize hA : (C.take (m now)).drop q = A at *
    rw [hsin] at hpoll hslen
    have hcl : cutM n (A.filter fun c => decide (s.r.isIn c.key)).length ≤ (A.filter fun c => decide (s.r.isIn c.key)).length := by unfold cutM; omega
    have hcn : (cutM n (A.filter fun c => decide (s.r.isIn c.key)).length : Int) ≤ n := by unfold cutM; omega
    have htl : ((A.filter fun c => decide (s.r.isIn c.key)).take (cutM n (A.filter fun c => decide (s.r.isIn c.key)).length)).length = cutM n (A.filter fun c => decide (s.r.isIn c.key)).length := by rw [List.length_take]; omega
    have hmore : decide (cutM n (A.filter fun c => decide (s.r.isIn c.key)).length < (A.filter fun c => decide (s.r.isIn c.key)).length) = true → (cutM n (A.filter fun c => decide (s.r.isIn c.key)).length : Int) = n := fun g => by
      simp only [decide_eq_true_eq] at g
      unfold cutM at g ⊢; omega
    by_cases h0c : cutM n (A.filter fun c => decide (s.r.isIn c.key)).length = 0
    · have hnil : (A.filter fun c => decide (s.r.isIn c.key)) = [] := by
        apply List.eq_nil_of_length_eq_zero
        unfold cutM at h0c; omega
      have hpg := pick_go s.r A hst hgo
      rw [hnil] at hpoll hpg htl hmore hcn
      simp only [doGo, Option.some.injEq] at hpg
      refine ⟨_, pickV s.r (st q), hpoll, rfl, by simp; omega, fun g => by simp at g, ?_, by simp, .inl ⟨by simp, rfl, fun _ => hpg.symm, fun hlt => ⟨hok, rfl, q, hcur, by rw [hN2]; omega, .inr ⟨hlv, rfl, by have := hidle hlt; omega⟩⟩⟩⟩
      unfold replayV replayGo
      simp only [List.map_nil, applyV_nil hpo, List.take_nil, doV_nil hpo, if_true, replayGo]
    · obtain ⟨jj, g1, g2, g3, x, g4, g5⟩ := take_filter (fun c => decide (s.r.isIn c.key)) A _ (by omega) hcl
      have hAl : A.length = m now - q := by rw [← hA, List.length_drop, List.length_take]; omega
      have hAt : A.take jj = (C.take (q + jj)).drop q := by
        rw [← hA, List.take_drop, List.take_take, Nat.min_eq_left (by omega)]
      have hgo2 := h.go (q := q) (q2 := q + jj) (by omega) (by omega)
      rw [← hAt] at hgo2
      have hpg := pick_go s.r _ hst hgo2
      rw [← g3] at hpg
      have hdo : doV (pickV s.r (st q)) ((A.filter fun c => decide (s.r.isIn c.key)).take (cutM n (A.filter fun c => decide (s.r.isIn c.key)).length)) = (pickV s.r (st (q + jj)), 0) := doV_zero.2 ⟨hpo, hpg⟩
      have hxs : x.seq = ((q + jj : Nat) : Int) := by
        have : C[q + (jj - 1)]? = some x := by
          have e := g4
          rw [← hA, List.getElem?_drop, List.getElem?_take] at e
          split at e
          · exact e
          · cases e
        have := h.seqs _ x this
        rw [this]; omega
      obtain ⟨x0, hx0⟩ : ∃ x0, ((A.filter fun c => decide (s.r.isIn c.key)).take (cutM n (A.filter fun c => decide (s.r.isIn c.key)).length))[0]? = some x0 := ⟨_, List.getElem?_eq_getElem (by rw [htl]; omega)⟩
      have hx0s : s.cur < x0.seq := by
        have hm0 : x0 ∈ A := (List.mem_filter.1 (List.mem_of_mem_take (List.mem_of_getElem? hx0))).1
        rw [← hA, List.drop_take] at hm0
        have := consec_drop h.seqs x0 (List.mem_of_mem_take hm0)
        omega
      have hack : ackV s (m now : Nat) x.seq = ({ s with cur := x.seq }, 0) := by
        unfold ackV
        rw [if_pos ⟨hok, hlv, by omega⟩, if_neg (by omega)]
      have hok2 : Sub.ok { s with cur := x.seq } := ⟨hok.1, hok.2.1, hok.2.2.1, by show 0 ≤ x.seq; omega, by show x.seq ≤ 2147483647; omega⟩
      refine ⟨_, pickV s.r (st (q + jj)), hpoll, rfl, by rw [htl]; exact hcn, fun g => by rw [htl]; exact hmore g, ?_, by rw [htl]; omega, .inr ⟨by rw [htl]; omega, x0, x, _, hx0, hx0s, by rw [htl]; exact g5, hack, hok2, rfl, q + jj, hxs, by rw [hN2]; omega, .inr ⟨hlv, rfl, by omega⟩⟩⟩
      unfold replayV replayGo
      simp only [List.map_nil, applyV_nil hpo, hdo, if_true, replayGo]
end Go.Proofs.Ytjhjnphcdpjnbaa
