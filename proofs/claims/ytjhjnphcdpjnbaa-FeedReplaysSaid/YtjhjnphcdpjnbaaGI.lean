/- A part of a proof: functions of the program, walked. -/
import Derived.Test.YtjhjnphcdpjnbaaGH
import Derived.Test.YtjhjnphcdpjnbaaGE
import Derived.Test.YtjhjnphcdpjnbaaGD
set_option linter.unusedVariables false
set_option linter.unusedSimpArgs false
set_option maxRecDepth 8000
namespace Go.Proofs.Ytjhjnphcdpjnbaa
open Go Go.Proofs Go.Proofs.YtjhjnphcdpjnbaaVm Go.Proofs.Ytjhjnphcdpjnbaa.Ty

set_option maxHeartbeats 8000000 in
theorem ref19_Took (s : Sub) (l : List Pair) (t : List Change) (floor n : Int) (hl : l.length ≤ 100000) (ht : t.length ≤ 100000) :
    Ct Try.prog 13 (YtjhjnphcdpjnbaaVm.ops [s.pv, .row (l.map Pair.pv), .row (t.map Change.pv), .int .i64 floor, .int .i64 n]) (.vals [(tookV s l t floor n).1.pv, .int .i64 (tookV s l t floor n).2]) := by
  have hc := ref19_left s l t floor hl ht
  have hlen := leftV_len s l t floor
  have hkeys := @leftV_keys s l t floor
  have hbad : ¬ (s.ok ∧ s.live = false ∧ 0 ≤ n) → tookV s l t floor n = (s, 1) := fun h => by unfold tookV; rw [if_neg h]
  refine Ct.of_V Try.func13 rfl (by simp [YtjhjnphcdpjnbaaVm.ops, Try.f13]) ?_
  refine V.exec 400 ?_
  simp (config := {contextual := true}) only [go_sem, ↓reduceIte, reduceCtorEq, Bool.false_eq_true, Bool.true_eq_false, Nat.reduceAdd, Nat.reduceLT, Nat.reduceEqDiff, Nat.reduceLeDiff, Nat.reduceSub, Nat.reduceMul, Try.f13, Sub.pv]
  refine V.call rfl rfl (by simp [dOK]) ⟨17, [], by simp only [go_sem, ↓reduceIte, reduceCtorEq, Bool.false_eq_true, Bool.true_eq_false, Nat.reduceAdd, Nat.reduceLT, Nat.reduceEqDiff, Nat.reduceLeDiff, Nat.reduceSub, Nat.reduceMul], ⟨_, rfl, rfl, rfl⟩, .inl ⟨[s.pv], _, .inl (by simp only [go_sem, ↓reduceIte, reduceCtorEq, Bool.false_eq_true, Bool.true_eq_false, Nat.reduceAdd, Nat.reduceLT, Nat.reduceEqDiff, Nat.reduceLeDiff, Nat.reduceSub, Nat.reduceMul, Sub.pv]), ref19_Right s, .inl ⟨_, rfl, rfl, rfl, rfl⟩⟩⟩ ?_
  refine V.exec 400 ?_
  by_cases hok : s.ok
  · by_cases hlv : s.live = true
    · have hv := hbad (fun h => by rw [hlv] at h; exact Bool.noConfusion h.2.1)
      simp (config := {contextual := true}) only [go_sem, ↓reduceIte, reduceCtorEq, Bool.false_eq_true, Bool.true_eq_false, Nat.reduceAdd, Nat.reduceLT, Nat.reduceEqDiff, Nat.reduceLeDiff, Nat.reduceSub, Nat.reduceMul, hok, hlv, hv, Sub.pv]
    · have hlf : s.live = false := by simpa using hlv
      by_cases hm : n < 0
      · have hv := hbad (fun h => by omega)
        simp (config := {contextual := true}) only [go_sem, ↓reduceIte, reduceCtorEq, Bool.false_eq_true, Bool.true_eq_false, Nat.reduceAdd, Nat.reduceLT, Nat.reduceEqDiff, Nat.reduceLeDiff, Nat.reduceSub, Nat.reduceMul, hok, hlv, hm, hv, Sub.pv]
      · have hv : tookV s l t floor n = (if (leftV s l t floor).2 = 0 then
            if n > ((leftV s l t floor).1.length : Int) then (s, 9)
            else if n = ((leftV s l t floor).1.length : Int) then ({ s with live := true, next := [] }, 0)
            else match (leftV s l t floor).1[n.toNat - 1]? with
              | some x => if 0 < n then ({ s with next := x.key ++ [0] }, 0) else (s, 0)
              | none => (s, 0)
          else (s, (leftV s l t floor).2) : Sub × Int) := by unfold tookV; rw [if_pos ⟨hok, hlf, by omega⟩]; first | done | rfl
        obtain ⟨p, e, hp⟩ : ∃ p e, leftV s l t floor = (p, e) := ⟨_, _, rfl⟩
        rw [hp] at hc hlen hv hkeys
        simp only at hc hlen hv hkeys
        simp (config := {contextual := true}) only [go_sem, ↓reduceIte, reduceCtorEq, Bool.false_eq_true, Bool.true_eq_false, Nat.reduceAdd, Nat.reduceLT, Nat.reduceEqDiff, Nat.reduceLeDiff, Nat.reduceSub, Nat.reduceMul, hok, hlv, hm]
        refine V.call rfl rfl (by simp [dOK]) ⟨28, [], by simp only [go_sem, ↓reduceIte, reduceCtorEq, Bool.false_eq_true, Bool.true_eq_false, Nat.reduceAdd, Nat.reduceLT, Nat.reduceEqDiff, Nat.reduceLeDiff, Nat.reduceSub, Nat.reduceMul], ⟨_, rfl, rfl, rfl⟩, .inl ⟨[s.pv, .row (l.map Pair.pv), .row (t.map Change.pv), .int .i64 floor], _, .inl (by simp only [go_sem, ↓reduceIte, reduceCtorEq, Bool.false_eq_true, Bool.true_eq_false, Nat.reduceAdd, Nat.reduceLT, Nat.reduceEqDiff, Nat.reduceLeDiff, Nat.reduceSub, Nat.reduceMul, Sub.pv, hlv]), hc, .inr (.inl ⟨_, rfl, rfl, rfl⟩)⟩⟩ ?_
        refine V.exec 400 ?_
        by_cases he : e = 0
        · subst he
          rw [if_pos rfl] at hv
          by_cases h9 : (p.length : Int) < n
          · rw [if_pos h9] at hv
            simp (config := {contextual := true}) only [go_sem, ↓reduceIte, reduceCtorEq, Bool.false_eq_true, Bool.true_eq_false, Nat.reduceAdd, Nat.reduceLT, Nat.reduceEqDiff, Nat.reduceLeDiff, Nat.reduceSub, Nat.reduceMul, hlv, h9, hv, Sub.pv]
          · rw [if_neg h9] at hv
            by_cases hn : n = (p.length : Int)
            · subst hn
              rw [if_pos rfl] at hv
              simp (config := {contextual := true}) only [go_sem, ↓reduceIte, reduceCtorEq, Bool.false_eq_true, Bool.true_eq_false, Nat.reduceAdd, Nat.reduceLT, Nat.reduceEqDiff, Nat.reduceLeDiff, Nat.reduceSub, Nat.reduceMul, hlv, h9, hv, Sub.pv, decide_true]
            · rw [if_neg hn] at hv
              by_cases h0 : 0 < n
              · obtain ⟨x, hx⟩ : ∃ x, p[n.toNat - 1]? = some x := ⟨_, List.getElem?_eq_getElem (by omega)⟩
                have hxk := hkeys x (List.mem_of_getElem? hx)
                rw [hx] at hv
                simp only [h0, if_true] at hv
                have hw : IntKind.i64.wrap (n - 1) = ((n.toNat - 1 : Nat) : Int) := by rw [wrap_small3] <;> omega
                have hlt : ((n.toNat - 1 : Nat) : Int) < (p.length : Int) := by omega
                have hn0 : ¬ n = 0 := by omega
                simp (config := {contextual := true}) only [go_sem, ↓reduceIte, reduceCtorEq, Bool.false_eq_true, Bool.true_eq_false, Nat.reduceAdd, Nat.reduceLT, Nat.reduceEqDiff, Nat.reduceLeDiff, Nat.reduceSub, Nat.reduceMul, hlv, h9, hn, h0, hn0, hw, hlt, hx, hv, Pair.pv, Sub.pv]
                (repeat' (first | (intro _) | (refine ⟨by kernel_rfl, ?_⟩) | (apply And.intro)))
                all_goals first | omega | kernel_rfl
              · have hv2 : tookV s l t floor n = (s, 0) := by
                  rw [hv]; split <;> simp [h0]
                have hn0 : n = 0 := by omega
                subst hn0
                simp (config := {contextual := true}) only [go_sem, ↓reduceIte, reduceCtorEq, Bool.false_eq_true, Bool.true_eq_false, Nat.reduceAdd, Nat.reduceLT, Nat.reduceEqDiff, Nat.reduceLeDiff, Nat.reduceSub, Nat.reduceMul, hlv, h9, hn, h0, hv2, Sub.pv]
        · rw [if_neg he] at hv
          simp (config := {contextual := true}) only [go_sem, ↓reduceIte, reduceCtorEq, Bool.false_eq_true, Bool.true_eq_false, Nat.reduceAdd, Nat.reduceLT, Nat.reduceEqDiff, Nat.reduceLeDiff, Nat.reduceSub, Nat.reduceMul, he, hlv, hv, Sub.pv]
  · have hv := hbad (fun h => hok h.1)
    simp (config := {contextual := true}) only [go_sem, ↓reduceIte, reduceCtorEq, Bool.false_eq_true, Bool.true_eq_false, Nat.reduceAdd, Nat.reduceLT, Nat.reduceEqDiff, Nat.reduceLeDiff, Nat.reduceSub, Nat.reduceMul, hok, hv, Sub.pv]

set_option maxHeartbeats 8000000 in
theorem ref19_Ack (s : Sub) (head seq : Int) :
    Ct Try.prog 15 (YtjhjnphcdpjnbaaVm.ops [s.pv, .int .i64 head, .int .i64 seq]) (.vals [(ackV s head seq).1.pv, .int .i64 (ackV s head seq).2]) := by
  have hbad : ¬ (s.ok ∧ s.live = true ∧ s.cur ≤ seq) → ackV s head seq = (s, 1) := fun h => by unfold ackV; rw [if_neg h]
  refine Ct.of_V Try.func15 rfl (by simp [YtjhjnphcdpjnbaaVm.ops, Try.f15]) ?_
  refine V.exec 400 ?_
  simp (config := {contextual := true}) only [go_sem, ↓reduceIte, reduceCtorEq, Bool.false_eq_true, Bool.true_eq_false, Nat.reduceAdd, Nat.reduceLT, Nat.reduceEqDiff, Nat.reduceLeDiff, Nat.reduceSub, Nat.reduceMul, Try.f15, Sub.pv]
  refine V.call rfl rfl (by simp [dOK]) ⟨17, [], by simp only [go_sem, ↓reduceIte, reduceCtorEq, Bool.false_eq_true, Bool.true_eq_false, Nat.reduceAdd, Nat.reduceLT, Nat.reduceEqDiff, Nat.reduceLeDiff, Nat.reduceSub, Nat.reduceMul], ⟨_, rfl, rfl, rfl⟩, .inl ⟨[s.pv], _, .inl (by simp only [go_sem, ↓reduceIte, reduceCtorEq, Bool.false_eq_true, Bool.true_eq_false, Nat.reduceAdd, Nat.reduceLT, Nat.reduceEqDiff, Nat.reduceLeDiff, Nat.reduceSub, Nat.reduceMul, Sub.pv]), ref19_Right s, .inl ⟨_, rfl, rfl, rfl, rfl⟩⟩⟩ ?_
  refine V.exec 400 ?_
  by_cases hok : s.ok
  · by_cases hlv : s.live = true
    · by_cases hm : seq < s.cur
      · have hv := hbad (fun h => by omega)
        simp (config := {contextual := true}) only [go_sem, ↓reduceIte, reduceCtorEq, Bool.false_eq_true, Bool.true_eq_false, Nat.reduceAdd, Nat.reduceLT, Nat.reduceEqDiff, Nat.reduceLeDiff, Nat.reduceSub, Nat.reduceMul, hok, hlv, hm, hv, Sub.pv]
      · by_cases hh : head < seq
        · have hv : ackV s head seq = (s, 9) := by unfold ackV; rw [if_pos ⟨hok, hlv, by omega⟩, if_pos hh]
          simp (config := {contextual := true}) only [go_sem, ↓reduceIte, reduceCtorEq, Bool.false_eq_true, Bool.true_eq_false, Nat.reduceAdd, Nat.reduceLT, Nat.reduceEqDiff, Nat.reduceLeDiff, Nat.reduceSub, Nat.reduceMul, hok, hlv, hm, hh, hv, Sub.pv]
        · have hv : ackV s head seq = ({ s with cur := seq }, 0) := by unfold ackV; rw [if_pos ⟨hok, hlv, by omega⟩, if_neg hh]
          have hn := hok.2.2.1 hlv
          simp (config := {contextual := true}) only [go_sem, ↓reduceIte, reduceCtorEq, Bool.false_eq_true, Bool.true_eq_false, Nat.reduceAdd, Nat.reduceLT, Nat.reduceEqDiff, Nat.reduceLeDiff, Nat.reduceSub, Nat.reduceMul, hok, hlv, hm, hh, hv, hn, Sub.pv]
    · have hv := hbad (fun h => hlv h.2.1)
      simp (config := {contextual := true}) only [go_sem, ↓reduceIte, reduceCtorEq, Bool.false_eq_true, Bool.true_eq_false, Nat.reduceAdd, Nat.reduceLT, Nat.reduceEqDiff, Nat.reduceLeDiff, Nat.reduceSub, Nat.reduceMul, hok, hlv, hv, Sub.pv]
  · have hv := hbad (fun h => hok h.1)
    simp (config := {contextual := true}) only [go_sem, ↓reduceIte, reduceCtorEq, Bool.false_eq_true, Bool.true_eq_false, Nat.reduceAdd, Nat.reduceLT, Nat.reduceEqDiff, Nat.reduceLeDiff, Nat.reduceSub, Nat.reduceMul, hok, hv, Sub.pv]

/-- The first ones of what one is told, as the document counts them. -/
theorem sinceA_snoc {t : List Change} {i : Nat} {x : Change} (hx : t[i]? = some x) (s : Sub) : sinceA (t.take (i + 1)) s = if s.cur < x.seq ∧ s.r.isIn x.key then sinceA (t.take i) s ++ [x] else sinceA (t.take i) s := by
  unfold sinceA
  rw [List.take_add_one, hx, List.filter_append]
  by_cases h : s.cur < x.seq ∧ s.r.isIn x.key
  · simp [h]
  · rw [if_neg h]; simp [h]
theorem sinceA_pre (t : List Change) (s : Sub) (i : Nat) : (sinceA t s).take (sinceA (t.take i) s).length = sinceA (t.take i) s := by
  have : sinceA t s = sinceA (t.take i) s ++ sinceA (t.drop i) s := by
    unfold sinceA
    rw [← List.filter_append, List.take_append_drop]
  rw [this, List.take_left]

set_option maxHeartbeats 8000000 in
theorem ref16_Since (s : Sub) (t : List Change) (most : Int) (ht : t.length ≤ 100000) (hm : 0 ≤ most) :
    Ct Try.prog 29 (YtjhjnphcdpjnbaaVm.ops [.row (t.map Change.pv), .int .i64 s.cur, .int .i64 most, .row ([s.r].map Range.pv)]) (.vals [.row (((sinceA t s).take (cutM most (sinceA t s).length)).map Change.pv)]) := by
  refine Ct.of_V Try.func29 rfl (by simp [YtjhjnphcdpjnbaaVm.ops, Try.f29]) ?_
  refine V.exec 400 ?_
  simp (config := {contextual := true}) only [go_sem, ↓reduceIte, reduceCtorEq, Bool.false_eq_true, Bool.true_eq_false, Nat.reduceAdd, Nat.reduceLT, Nat.reduceEqDiff, Nat.reduceLeDiff, Nat.reduceSub, Nat.reduceMul, Try.f29]
  refine V.loop (fun m ls os => ∃ (i : Nat), i ≤ t.length ∧ m = t.length - i ∧ ((sinceA (t.take i) s).length : Int) ≤ most ∧
        ls = [(0, .val (.row (t.map Change.pv))), (1, .val (.int .i64 s.cur)), (2, .val (.int .i64 most)), (3, .val (.row ([s.r].map Range.pv))), (9, .ref 0), (10, .val (.int .i64 i))] ∧ os = [.row 70 ((sinceA (t.take i) s).map Change.pv)]) 1 t.length
      [(0, .val (.row (t.map Change.pv))), (1, .val (.int .i64 s.cur)), (2, .val (.int .i64 most)), (3, .val (.row ([s.r].map Range.pv))), (9, .ref 0), (10, .val (.int .i64 0))] [.row 70 []] [none]
      ⟨0, Nat.zero_le _, rfl, hm, rfl, rfl⟩ (by simp only [go_sem, ↓reduceIte, reduceCtorEq, Bool.false_eq_true, Bool.true_eq_false, Nat.reduceAdd, Nat.reduceLT, Nat.reduceEqDiff, Nat.reduceLeDiff, Nat.reduceSub, Nat.reduceMul]; try decide) ?_
  rintro m ls os ⟨i, hi, rfl, him, rfl, rfl⟩
  have hpl : (sinceA (t.take i) s).length ≤ t.length := Nat.le_trans (sinceA_len _ _) (by rw [List.length_take]; omega)
  have hpre := sinceA_pre t s i
  have hle : (sinceA (t.take i) s).length ≤ (sinceA t s).length := by
    have := congrArg List.length hpre
    rw [List.length_take] at this; omega
  have hend : ¬ (i < t.length ∧ ((sinceA (t.take i) s).length : Int) < most) → (sinceA t s).take (cutM most (sinceA t s).length) = sinceA (t.take i) s := fun h => by
    by_cases h2 : ((sinceA (t.take i) s).length : Int) = most
    · have e : cutM most (sinceA t s).length = (sinceA (t.take i) s).length := by unfold cutM; omega
      rw [e, hpre]
    · have h3 : t.take i = t := List.take_of_length_le (by omega)
      rw [h3] at him h2 ⊢
      rw [List.take_of_length_le]
      unfold cutM; omega
  by_cases hlt : i < t.length
  · have hlt' : (i : Int) < (t.length : Int) := by omega
    obtain ⟨x, hx⟩ : ∃ x, t[i]? = some x := ⟨_, List.getElem?_eq_getElem hlt⟩
    have hw : IntKind.i64.wrap ((i : Int) + 1) = ((i + 1 : Nat) : Int) := by rw [wrap_small3] <;> omega
    have hn := sinceA_snoc hx s
    by_cases hmo : ((sinceA (t.take i) s).length : Int) < most
    · generalize sinceA (t.take i) s = L at *
      refine V.exec 400 ?_
      simp (config := {contextual := true}) only [go_sem, ↓reduceIte, reduceCtorEq, Bool.false_eq_true, Bool.true_eq_false, Nat.reduceAdd, Nat.reduceLT, Nat.reduceEqDiff, Nat.reduceLeDiff, Nat.reduceSub, Nat.reduceMul, hlt', hmo, hx, Change.pv]
      refine V.loop (fun m ls os => ∃ (k : Nat) (b : Bool), k ≤ 1 ∧ m = 1 - k ∧ b = (if k = 0 then decide (s.cur < x.seq) else decide (s.cur < x.seq ∧ s.r.isIn x.key)) ∧
          ls = [(0, .val (.row (t.map Change.pv))), (1, .val (.int .i64 s.cur)), (2, .val (.int .i64 most)), (3, .val (.row ([s.r].map Range.pv))), (9, .ref 0), (10, .val (.int .i64 i)), (11, .val (.bool b)), (12, .val (.int .i64 k))] ∧ os = [.row 70 (L.map Change.pv)]) 1 1
        [(0, .val (.row (t.map Change.pv))), (1, .val (.int .i64 s.cur)), (2, .val (.int .i64 most)), (3, .val (.row ([s.r].map Range.pv))), (9, .ref 0), (10, .val (.int .i64 i)), (11, .val (.bool (decide (s.cur < x.seq)))), (12, .val (.int .i64 0))] [.row 70 (L.map Change.pv)] [some 0]
        ⟨0, _, Nat.zero_le _, rfl, rfl, rfl, rfl⟩ (by simp only [go_sem, ↓reduceIte, reduceCtorEq, Bool.false_eq_true, Bool.true_eq_false, Nat.reduceAdd, Nat.reduceLT, Nat.reduceEqDiff, Nat.reduceLeDiff, Nat.reduceSub, Nat.reduceMul, Range.pv, List.map_cons, List.map_nil]; try decide) ?_
      rintro m ls os ⟨k, b, hk, rfl, hb, rfl, rfl⟩
      have hk2 : k = 0 ∨ k = 1 := by omega
      rcases hk2 with rfl | rfl
      · rw [if_pos rfl] at hb
        subst hb
        have n1 : ((1 : Nat) : Int) = 1 := rfl
        have n0 : ((0 : Nat) : Int) = 0 := rfl
        have h01 : (0 : Int) < 1 := by decide
        have t0 : Int.toNat 0 = 0 := rfl
        have hw01 : IntKind.i64.wrap (0 + 1) = 1 := by decide
        refine V.exec 400 ?_
        simp (config := {contextual := true}) only [go_sem, ↓reduceIte, reduceCtorEq, Bool.false_eq_true, Bool.true_eq_false, Nat.reduceAdd, Nat.reduceLT, Nat.reduceEqDiff, Nat.reduceLeDiff, Nat.reduceSub, Nat.reduceMul, hlt', hx, Change.pv, Range.pv, List.map_cons, List.map_nil, List.length_cons, List.length_nil, n1, n0, h01, t0, List.getElem?_cons_zero]
        refine ⟨Int.le_refl 0, ?_⟩
        refine DV.call [] [] (by simp only [go_sem, ↓reduceIte, reduceCtorEq, Bool.false_eq_true, Bool.true_eq_false, Nat.reduceAdd, Nat.reduceLT, Nat.reduceEqDiff, Nat.reduceLeDiff, Nat.reduceSub, Nat.reduceMul, Range.pv]) (by simp [dOK]) ⟨37, [], by simp only [go_sem, ↓reduceIte, reduceCtorEq, Bool.false_eq_true, Bool.true_eq_false, Nat.reduceAdd, Nat.reduceLT, Nat.reduceEqDiff, Nat.reduceLeDiff, Nat.reduceSub, Nat.reduceMul, Range.pv], ⟨_, rfl, rfl, rfl⟩, .inl ⟨[s.r.pv, .str x.key], _, .inl (by simp only [go_sem, ↓reduceIte, reduceCtorEq, Bool.false_eq_true, Bool.true_eq_false, Nat.reduceAdd, Nat.reduceLT, Nat.reduceEqDiff, Nat.reduceLeDiff, Nat.reduceSub, Nat.reduceMul, Range.pv]), ref03_In s.r x.key, .inl ⟨_, rfl, rfl, rfl, rfl⟩⟩⟩ (by simp only [go_sem, ↓reduceIte, reduceCtorEq, Bool.false_eq_true, Bool.true_eq_false, Nat.reduceAdd, Nat.reduceLT, Nat.reduceEqDiff, Nat.reduceLeDiff, Nat.reduceSub, Nat.reduceMul, Range.pv]) (by simp only [go_sem, ↓reduceIte, reduceCtorEq, Bool.false_eq_true, Bool.true_eq_false, Nat.reduceAdd, Nat.reduceLT, Nat.reduceEqDiff, Nat.reduceLeDiff, Nat.reduceSub, Nat.reduceMul, Range.pv]) (by simp only [go_sem, ↓reduceIte, reduceCtorEq, Bool.false_eq_true, Bool.true_eq_false, Nat.reduceAdd, Nat.reduceLT, Nat.reduceEqDiff, Nat.reduceLeDiff, Nat.reduceSub, Nat.reduceMul, Range.pv]) (by simp) ?_
        refine DV.exec 400 ?_
        by_cases h1 : s.cur < x.seq
        · by_cases h2 : s.r.isIn x.key
          · simp (config := {contextual := true}) only [go_sem, ↓reduceIte, reduceCtorEq, Bool.false_eq_true, Bool.true_eq_false, Nat.reduceAdd, Nat.reduceLT, Nat.reduceEqDiff, Nat.reduceLeDiff, Nat.reduceSub, Nat.reduceMul, h1, h2, hw01]
            refine ⟨by kernel_rfl, 0, _, _, [some 0], by omega, ⟨1, true, by omega, rfl, by simp [h1, h2], rfl, rfl⟩, ?_⟩
            simp only [go_sem, ↓reduceIte, reduceCtorEq, Bool.false_eq_true, Bool.true_eq_false, Nat.reduceAdd, Nat.reduceLT, Nat.reduceEqDiff, Nat.reduceLeDiff, Nat.reduceSub, Nat.reduceMul, Range.pv, List.map_cons, List.map_nil, n1]
            try decide
          · simp (config := {contextual := true}) only [go_sem, ↓reduceIte, reduceCtorEq, Bool.false_eq_true, Bool.true_eq_false, Nat.reduceAdd, Nat.reduceLT, Nat.reduceEqDiff, Nat.reduceLeDiff, Nat.reduceSub, Nat.reduceMul, h1, h2, hw01]
            refine ⟨by kernel_rfl, 0, _, _, [some 0], by omega, ⟨1, false, by omega, rfl, by simp [h1, h2], rfl, rfl⟩, ?_⟩
            simp only [go_sem, ↓reduceIte, reduceCtorEq, Bool.false_eq_true, Bool.true_eq_false, Nat.reduceAdd, Nat.reduceLT, Nat.reduceEqDiff, Nat.reduceLeDiff, Nat.reduceSub, Nat.reduceMul, Range.pv, List.map_cons, List.map_nil, n1]
            try decide
        · by_cases h2 : s.r.isIn x.key
          · simp (config := {contextual := true}) only [go_sem, ↓reduceIte, reduceCtorEq, Bool.false_eq_true, Bool.true_eq_false, Nat.reduceAdd, Nat.reduceLT, Nat.reduceEqDiff, Nat.reduceLeDiff, Nat.reduceSub, Nat.reduceMul, h1, h2, hw01]
            refine ⟨by kernel_rfl, 0, _, _, [some 0], by omega, ⟨1, false, by omega, rfl, by simp [h1, h2], rfl, rfl⟩, ?_⟩
            simp only [go_sem, ↓reduceIte, reduceCtorEq, Bool.false_eq_true, Bool.true_eq_false, Nat.reduceAdd, Nat.reduceLT, Nat.reduceEqDiff, Nat.reduceLeDiff, Nat.reduceSub, Nat.reduceMul, Range.pv, List.map_cons, List.map_nil, n1]
            try decide
          · simp (config := {contextual := true}) only [go_sem, ↓reduceIte, reduceCtorEq, Bool.false_eq_true, Bool.true_eq_false, Nat.reduceAdd, Nat.reduceLT, Nat.reduceEqDiff, Nat.reduceLeDiff, Nat.reduceSub, Nat.reduceMul, h1, h2, hw01]
            refine ⟨by kernel_rfl, 0, _, _, [some 0], by omega, ⟨1, false, by omega, rfl, by simp [h1, h2], rfl, rfl⟩, ?_⟩
            simp only [go_sem, ↓reduceIte, reduceCtorEq, Bool.false_eq_true, Bool.true_eq_false, Nat.reduceAdd, Nat.reduceLT, Nat.reduceEqDiff, Nat.reduceLeDiff, Nat.reduceSub, Nat.reduceMul, Range.pv, List.map_cons, List.map_nil, n1]
            try decide
      · have e1 : ¬ ((1 : Nat) = 0) := by decide
        rw [if_neg e1] at hb
        subst hb
        have n1 : ((1 : Nat) : Int) = 1 := rfl
        have h11 : ¬ (1 : Int) < 1 := by decide
        refine V.exec 400 ?_
        by_cases hin : s.cur < x.seq ∧ s.r.isIn x.key
        · rw [if_pos hin] at hn
          simp (config := {contextual := true}) only [go_sem, ↓reduceIte, reduceCtorEq, Bool.false_eq_true, Bool.true_eq_false, Nat.reduceAdd, Nat.reduceLT, Nat.reduceEqDiff, Nat.reduceLeDiff, Nat.reduceSub, Nat.reduceMul, List.map_cons, List.map_nil, List.length_cons, List.length_nil, n1, h11, hin, hx, hlt', hw, Change.pv]
          refine ⟨⟨by omega, by omega⟩, t.length - (i + 1), _, _, [some 12], by omega, ⟨i + 1, by omega, rfl, by rw [hn, List.length_append, List.length_singleton]; omega, rfl, rfl⟩, ?_⟩
          simp only [go_sem, ↓reduceIte, reduceCtorEq, Bool.false_eq_true, Bool.true_eq_false, Nat.reduceAdd, Nat.reduceLT, Nat.reduceEqDiff, Nat.reduceLeDiff, Nat.reduceSub, Nat.reduceMul, hn, List.map_append, List.map_cons, List.map_nil, Change.pv, Range.pv]
          try decide
        · rw [if_neg hin] at hn
          simp (config := {contextual := true}) only [go_sem, ↓reduceIte, reduceCtorEq, Bool.false_eq_true, Bool.true_eq_false, Nat.reduceAdd, Nat.reduceLT, Nat.reduceEqDiff, Nat.reduceLeDiff, Nat.reduceSub, Nat.reduceMul, List.map_cons, List.map_nil, List.length_cons, List.length_nil, n1, h11, hin, hx, hlt', hw, Change.pv]
          refine ⟨t.length - (i + 1), _, _, [some 0], by omega, ⟨i + 1, by omega, rfl, by rw [hn]; exact him, rfl, rfl⟩, ?_⟩
          simp only [go_sem, ↓reduceIte, reduceCtorEq, Bool.false_eq_true, Bool.true_eq_false, Nat.reduceAdd, Nat.reduceLT, Nat.reduceEqDiff, Nat.reduceLeDiff, Nat.reduceSub, Nat.reduceMul, hn, Range.pv, List.map_cons, List.map_nil]
          try decide
    · have hv := hend (fun h => hmo h.2)
      rw [hv]
      generalize sinceA (t.take i) s = L at *
      refine V.exec 400 ?_
      simp (config := {contextual := true}) only [go_sem, ↓reduceIte, reduceCtorEq, Bool.false_eq_true, Bool.true_eq_false, Nat.reduceAdd, Nat.reduceLT, Nat.reduceEqDiff, Nat.reduceLeDiff, Nat.reduceSub, Nat.reduceMul, hlt', hmo]
  · have hlt' : ¬ (i : Int) < (t.length : Int) := by omega
    have hv := hend (fun h => hlt h.1)
    rw [hv]
    refine V.exec 400 ?_
    simp (config := {contextual := true}) only [go_sem, ↓reduceIte, reduceCtorEq, Bool.false_eq_true, Bool.true_eq_false, Nat.reduceAdd, Nat.reduceLT, Nat.reduceEqDiff, Nat.reduceLeDiff, Nat.reduceSub, Nat.reduceMul, hlt']
end Go.Proofs.Ytjhjnphcdpjnbaa
set_option linter.unusedVariables false
set_option linter.unusedSimpArgs false
set_option maxRecDepth 8000
namespace Go.Proofs.Ytjhjnphcdpjnbaa
open Go Go.Proofs Go.Proofs.YtjhjnphcdpjnbaaVm Go.Proofs.Ytjhjnphcdpjnbaa.Ty

set_option maxHeartbeats 8000000 in
theorem ref19_Poll (s : Sub) (l : List Pair) (t : List Change) (floor most : Int) (hl : l.length ≤ 100000) (ht : t.length ≤ 100000) :
    Ct Try.prog 11 (YtjhjnphcdpjnbaaVm.ops [s.pv, .row (l.map Pair.pv), .row (t.map Change.pv), .int .i64 floor, .int .i64 most]) (.vals [(pollV s l t floor most).1.pv, .int .i64 (pollV s l t floor most).2]) := by
  have hc := ref19_left s l t floor hl ht
  have hlen := leftV_len s l t floor
  have hbad : ¬ (s.ok ∧ 1 ≤ most) → pollV s l t floor most = (Chunk.zero, 1) := fun h => by unfold pollV; rw [if_neg h]
  refine Ct.of_V Try.func11 rfl (by simp [YtjhjnphcdpjnbaaVm.ops, Try.f11]) ?_
  refine V.exec 400 ?_
  simp (config := {contextual := true}) only [go_sem, ↓reduceIte, reduceCtorEq, Bool.false_eq_true, Bool.true_eq_false, Nat.reduceAdd, Nat.reduceLT, Nat.reduceEqDiff, Nat.reduceLeDiff, Nat.reduceSub, Nat.reduceMul, Try.f11, Sub.pv]
  refine V.call rfl rfl (by simp [dOK]) ⟨17, [], by simp only [go_sem, ↓reduceIte, reduceCtorEq, Bool.false_eq_true, Bool.true_eq_false, Nat.reduceAdd, Nat.reduceLT, Nat.reduceEqDiff, Nat.reduceLeDiff, Nat.reduceSub, Nat.reduceMul], ⟨_, rfl, rfl, rfl⟩, .inl ⟨[s.pv], _, .inl (by simp only [go_sem, ↓reduceIte, reduceCtorEq, Bool.false_eq_true, Bool.true_eq_false, Nat.reduceAdd, Nat.reduceLT, Nat.reduceEqDiff, Nat.reduceLeDiff, Nat.reduceSub, Nat.reduceMul, Sub.pv]), ref19_Right s, .inl ⟨_, rfl, rfl, rfl, rfl⟩⟩⟩ ?_
  refine V.exec 400 ?_
  by_cases hok : s.ok
  · by_cases hm : most < 1
    · have hv := hbad (fun h => by omega)
      simp (config := {contextual := true}) only [go_sem, ↓reduceIte, reduceCtorEq, Bool.false_eq_true, Bool.true_eq_false, Nat.reduceAdd, Nat.reduceLT, Nat.reduceEqDiff, Nat.reduceLeDiff, Nat.reduceSub, Nat.reduceMul, hok, hm, hv, Chunk.zero, Chunk.pv, List.map_nil]
    · have hv : pollV s l t floor most = (if (leftV s l t floor).2 = 0 then
          if s.live = true then (⟨[], (sinceA t s).take (cutM most (sinceA t s).length), decide (cutM most (sinceA t s).length < (sinceA t s).length)⟩, 0)
          else (⟨(leftV s l t floor).1.take (cutM most (leftV s l t floor).1.length), [], decide (cutM most (leftV s l t floor).1.length < (leftV s l t floor).1.length)⟩, 0)
        else (Chunk.zero, (leftV s l t floor).2) : Chunk × Int) := by unfold pollV; rw [if_pos ⟨hok, by omega⟩]
      obtain ⟨p, e, hp⟩ : ∃ p e, leftV s l t floor = (p, e) := ⟨_, _, rfl⟩
      rw [hp] at hc hlen hv
      simp only at hc hlen hv
      simp (config := {contextual := true}) only [go_sem, ↓reduceIte, reduceCtorEq, Bool.false_eq_true, Bool.true_eq_false, Nat.reduceAdd, Nat.reduceLT, Nat.reduceEqDiff, Nat.reduceLeDiff, Nat.reduceSub, Nat.reduceMul, hok, hm]
      refine V.call rfl rfl (by simp [dOK]) ⟨28, [], by simp only [go_sem, ↓reduceIte, reduceCtorEq, Bool.false_eq_true, Bool.true_eq_false, Nat.reduceAdd, Nat.reduceLT, Nat.reduceEqDiff, Nat.reduceLeDiff, Nat.reduceSub, Nat.reduceMul], ⟨_, rfl, rfl, rfl⟩, .inl ⟨[s.pv, .row (l.map Pair.pv), .row (t.map Change.pv), .int .i64 floor], _, .inl (by simp only [go_sem, ↓reduceIte, reduceCtorEq, Bool.false_eq_true, Bool.true_eq_false, Nat.reduceAdd, Nat.reduceLT, Nat.reduceEqDiff, Nat.reduceLeDiff, Nat.reduceSub, Nat.reduceMul, Sub.pv]), hc, .inr (.inl ⟨_, rfl, rfl, rfl⟩)⟩⟩ ?_
      refine V.execS [7] 400 ?_
      by_cases he : e = 0
      · subst he
        rw [if_pos rfl] at hv
        simp (config := {contextual := true}) only [go_sem, ↓reduceIte, reduceCtorEq, Bool.false_eq_true, Bool.true_eq_false, Nat.reduceAdd, Nat.reduceLT, Nat.reduceEqDiff, Nat.reduceLeDiff, Nat.reduceSub, Nat.reduceMul]
        refine V.sem _ (SemCode.zbox (zs := [.nils, .nils, .val (.bool false)]) (by decide) (by decide) (by decide) rfl rfl rfl rfl rfl rfl (by simp only [go_sem, ↓reduceIte, reduceCtorEq, Bool.false_eq_true, Bool.true_eq_false, Nat.reduceAdd, Nat.reduceLT, Nat.reduceEqDiff, Nat.reduceLeDiff, Nat.reduceSub, Nat.reduceMul])) (fun σ' h => ?_)
        subst h
        refine V.exec 400 ?_
        by_cases hlv : s.live = true
        · rw [if_pos hlv] at hv
          have hsl := sinceA_len t s
          have hk1 := ref16_Since s t t.length ht (by omega)
          have hk2 := ref16_Since s t most ht (by omega)
          have hall : (sinceA t s).take (cutM t.length (sinceA t s).length) = sinceA t s := List.take_of_length_le (by unfold cutM; omega)
          rw [hall] at hk1
          have htl : ((sinceA t s).take (cutM most (sinceA t s).length)).length = cutM most (sinceA t s).length := by rw [List.length_take]; unfold cutM; omega
          simp (config := {contextual := true}) only [go_sem, ↓reduceIte, reduceCtorEq, Bool.false_eq_true, Bool.true_eq_false, Nat.reduceAdd, Nat.reduceLT, Nat.reduceEqDiff, Nat.reduceLeDiff, Nat.reduceSub, Nat.reduceMul, hlv]
          refine V.call rfl rfl (by simp [dOK]) ⟨29, [], by simp only [go_sem, ↓reduceIte, reduceCtorEq, Bool.false_eq_true, Bool.true_eq_false, Nat.reduceAdd, Nat.reduceLT, Nat.reduceEqDiff, Nat.reduceLeDiff, Nat.reduceSub, Nat.reduceMul], ⟨_, rfl, rfl, rfl⟩, .inl ⟨[.row (t.map Change.pv), .int .i64 s.cur, .int .i64 t.length, .row ([s.r].map Range.pv)], _, .inl (by simp only [go_sem, ↓reduceIte, reduceCtorEq, Bool.false_eq_true, Bool.true_eq_false, Nat.reduceAdd, Nat.reduceLT, Nat.reduceEqDiff, Nat.reduceLeDiff, Nat.reduceSub, Nat.reduceMul, Range.pv, List.map_cons, List.map_nil]), hk1, .inr (.inl ⟨_, rfl, rfl, rfl⟩)⟩⟩ ?_
          refine V.exec 400 ?_
          simp (config := {contextual := true}) only [go_sem, ↓reduceIte, reduceCtorEq, Bool.false_eq_true, Bool.true_eq_false, Nat.reduceAdd, Nat.reduceLT, Nat.reduceEqDiff, Nat.reduceLeDiff, Nat.reduceSub, Nat.reduceMul]
          refine V.call rfl rfl (by simp [dOK]) ⟨29, [], by simp only [go_sem, ↓reduceIte, reduceCtorEq, Bool.false_eq_true, Bool.true_eq_false, Nat.reduceAdd, Nat.reduceLT, Nat.reduceEqDiff, Nat.reduceLeDiff, Nat.reduceSub, Nat.reduceMul], ⟨_, rfl, rfl, rfl⟩, .inl ⟨[.row (t.map Change.pv), .int .i64 s.cur, .int .i64 most, .row ([s.r].map Range.pv)], _, .inl (by simp only [go_sem, ↓reduceIte, reduceCtorEq, Bool.false_eq_true, Bool.true_eq_false, Nat.reduceAdd, Nat.reduceLT, Nat.reduceEqDiff, Nat.reduceLeDiff, Nat.reduceSub, Nat.reduceMul, Range.pv, List.map_cons, List.map_nil]), hk2, .inr (.inl ⟨_, rfl, rfl, rfl⟩)⟩⟩ ?_
          refine V.exec 400 ?_
          simp (config := {contextual := true}) only [go_sem, ↓reduceIte, reduceCtorEq, Bool.false_eq_true, Bool.true_eq_false, Nat.reduceAdd, Nat.reduceLT, Nat.reduceEqDiff, Nat.reduceLeDiff, Nat.reduceSub, Nat.reduceMul, htl]
          rw [hv]
          simp [Chunk.pv]
        · rw [if_neg hlv] at hv
          simp (config := {contextual := true}) only [go_sem, ↓reduceIte, reduceCtorEq, Bool.false_eq_true, Bool.true_eq_false, Nat.reduceAdd, Nat.reduceLT, Nat.reduceEqDiff, Nat.reduceLeDiff, Nat.reduceSub, Nat.reduceMul, hlv]
          refine V.loop (fun m ls os => ∃ (i : Nat), i ≤ p.length ∧ m = p.length - i ∧ (i : Int) ≤ max 0 most ∧
              ls = [(4, .val (.int .i64 most)), (10, .adr 0 0), (13, .val (.row (p.map Pair.pv))), (15, .adr 1 0), (17, .val (.int .i64 i))] ∧ os = [.box true [.nils, .nils, .val (.bool false)], .box true [.ref 2, .nils, .val (.bool false)], .row 73 ((p.take i).map Pair.pv)]) 3 p.length
            [(4, .val (.int .i64 most)), (10, .adr 0 0), (13, .val (.row (p.map Pair.pv))), (15, .adr 1 0), (17, .val (.int .i64 0))] [.box true [.nils, .nils, .val (.bool false)], .box true [.ref 2, .nils, .val (.bool false)], .row 73 []] [some 6, some 30, none]
            ⟨0, Nat.zero_le _, rfl, by omega, rfl, rfl⟩ (by simp only [go_sem, ↓reduceIte, reduceCtorEq, Bool.false_eq_true, Bool.true_eq_false, Nat.reduceAdd, Nat.reduceLT, Nat.reduceEqDiff, Nat.reduceLeDiff, Nat.reduceSub, Nat.reduceMul]; try decide) ?_
          rintro m ls os ⟨i, hi, rfl, him, rfl, rfl⟩
          have hend : ¬ ((i : Int) < (p.length : Int) ∧ (i : Int) < most) → cutM most p.length = i := fun h => by unfold cutM; omega
          refine V.exec 400 ?_
          by_cases hlt : i < p.length
          · have hlt' : (i : Int) < (p.length : Int) := by omega
            obtain ⟨x, hx⟩ : ∃ x, p[i]? = some x := ⟨_, List.getElem?_eq_getElem hlt⟩
            have hw : IntKind.i64.wrap ((i : Int) + 1) = ((i + 1 : Nat) : Int) := by rw [wrap_small3] <;> omega
            by_cases hmo : (i : Int) < most
            · have hts := take_snoc hx
              have htl : (p.take i).length = i := by rw [List.length_take]; omega
              generalize hL : p.take i = L at *
              simp (config := {contextual := true}) only [go_sem, ↓reduceIte, reduceCtorEq, Bool.false_eq_true, Bool.true_eq_false, Nat.reduceAdd, Nat.reduceLT, Nat.reduceEqDiff, Nat.reduceLeDiff, Nat.reduceSub, Nat.reduceMul, hlt', hmo, hx, Pair.pv, hw]
              refine ⟨⟨by omega, by omega⟩, by kernel_rfl, p.length - (i + 1), _, _, [some 0, some 1, some 19], by omega, ⟨i + 1, by omega, rfl, by omega, rfl, rfl⟩, ?_⟩
              simp only [go_sem, ↓reduceIte, reduceCtorEq, Bool.false_eq_true, Bool.true_eq_false, Nat.reduceAdd, Nat.reduceLT, Nat.reduceEqDiff, Nat.reduceLeDiff, Nat.reduceSub, Nat.reduceMul, hts, List.map_append, List.map_cons, List.map_nil, Pair.pv]
              try decide
            · have hv1 := hend (fun h => hmo h.2)
              have htl : ((p.take i).length : Int) = (i : Int) := by rw [List.length_take]; omega
              simp (config := {contextual := true}) only [go_sem, ↓reduceIte, reduceCtorEq, Bool.false_eq_true, Bool.true_eq_false, Nat.reduceAdd, Nat.reduceLT, Nat.reduceEqDiff, Nat.reduceLeDiff, Nat.reduceSub, Nat.reduceMul, hlt', hmo, htl]
              rw [hv, hv1]
              simp [Chunk.pv, hlt]
          · have hlt' : ¬ (i : Int) < (p.length : Int) := by omega
            have hv1 := hend (fun h => hlt' h.1)
            have htl : ((p.take i).length : Int) = (i : Int) := by rw [List.length_take]; omega
            simp (config := {contextual := true}) only [go_sem, ↓reduceIte, reduceCtorEq, Bool.false_eq_true, Bool.true_eq_false, Nat.reduceAdd, Nat.reduceLT, Nat.reduceEqDiff, Nat.reduceLeDiff, Nat.reduceSub, Nat.reduceMul, hlt', htl]
            rw [hv, hv1]
            simp [Chunk.pv, hlt]
      · rw [if_neg he] at hv
        simp (config := {contextual := true}) only [go_sem, ↓reduceIte, reduceCtorEq, Bool.false_eq_true, Bool.true_eq_false, Nat.reduceAdd, Nat.reduceLT, Nat.reduceEqDiff, Nat.reduceLeDiff, Nat.reduceSub, Nat.reduceMul, he, hv, Chunk.zero, Chunk.pv, List.map_nil]
  · have hv := hbad (fun h => hok h.1)
    simp (config := {contextual := true}) only [go_sem, ↓reduceIte, reduceCtorEq, Bool.false_eq_true, Bool.true_eq_false, Nat.reduceAdd, Nat.reduceLT, Nat.reduceEqDiff, Nat.reduceLeDiff, Nat.reduceSub, Nat.reduceMul, hok, hv, Chunk.zero, Chunk.pv, List.map_nil]
end Go.Proofs.Ytjhjnphcdpjnbaa
set_option linter.unusedVariables false
set_option linter.unusedSimpArgs false
set_option maxRecDepth 8000
namespace Go.Proofs.Ytjhjnphcdpjnbaa
open Go Go.Proofs Go.Proofs.YtjhjnphcdpjnbaaVm Go.Proofs.Ytjhjnphcdpjnbaa.Ty

def noteP (p : Pair) : Note := ⟨1, p.key, p.value, 0⟩
def Chunk.slim (c : Chunk) : Prop := c.ps.length ≤ 1000 ∧ c.cs.length ≤ 1000
/-- What the chunks make of the pairs. -/
def replayGo (l0 : List Pair) : List Pair → List Chunk → List Pair × Int
  | out, [] => (out, 0)
  | out, c :: r => if (applyV out (c.ps.map noteP)).2 = 0 then (if (doV (applyV out (c.ps.map noteP)).1 c.cs).2 = 0 then replayGo l0 (doV (applyV out (c.ps.map noteP)).1 c.cs).1 r else (l0, (doV (applyV out (c.ps.map noteP)).1 c.cs).2)) else (l0, (applyV out (c.ps.map noteP)).2)
def replayV (l : List Pair) (chunks : List Chunk) : List Pair × Int := replayGo l l chunks

set_option maxHeartbeats 8000000 in
theorem feed_Replay (l : List Pair) (ch : List Chunk) (hl : l.length ≤ 1000) (hn : ch.length ≤ 90) (hs : ∀ c ∈ ch, c.slim) :
    Ct Try.prog 20 (YtjhjnphcdpjnbaaVm.ops [.row (l.map Pair.pv), .row (ch.map Chunk.pv)]) (.vals [.row ((replayV l ch).1.map Pair.pv), .int .i64 (replayV l ch).2]) := by
  obtain ⟨RP, re, hR⟩ : ∃ p e, replayV l ch = (p, e) := ⟨_, _, rfl⟩
  rw [hR]
  unfold replayV at hR
  simp only
  refine Ct.of_V Try.func20 rfl (by simp [YtjhjnphcdpjnbaaVm.ops, Try.f20]) ?_
  refine V.exec 400 ?_
  simp (config := {contextual := true}) only [go_sem, ↓reduceIte, reduceCtorEq, Bool.false_eq_true, Bool.true_eq_false, Nat.reduceAdd, Nat.reduceLT, Nat.reduceEqDiff, Nat.reduceLeDiff, Nat.reduceSub, Nat.reduceMul, Try.f20]
  refine V.loop (fun m ls os => ∃ (i : Nat) (out : List Pair), i ≤ ch.length ∧ m = ch.length - i ∧ out.length ≤ 1000 + 2000 * i ∧ replayGo l out (ch.drop i) = (RP, re) ∧
        ls = [(0, .val (.row (l.map Pair.pv))), (6, .val (.row (out.map Pair.pv))), (15, .val (.row (ch.map Chunk.pv))), (16, .val (.int .i64 ch.length)), (17, .val (.int .i64 i))] ∧ os = []) 0 ch.length
      [(0, .val (.row (l.map Pair.pv))), (6, .val (.row (l.map Pair.pv))), (15, .val (.row (ch.map Chunk.pv))), (16, .val (.int .i64 ch.length)), (17, .val (.int .i64 0))] [] []
      ⟨0, l, Nat.zero_le _, rfl, by omega, hR, rfl, rfl⟩ (by simp only [go_sem, ↓reduceIte, reduceCtorEq, Bool.false_eq_true, Bool.true_eq_false, Nat.reduceAdd, Nat.reduceLT, Nat.reduceEqDiff, Nat.reduceLeDiff, Nat.reduceSub, Nat.reduceMul]) ?_
  rintro m ls os ⟨i, out, hi, rfl, hol, hgo, rfl, rfl⟩
  refine V.exec 400 ?_
  by_cases hlt : i < ch.length
  · have hlt' : (i : Int) < (ch.length : Int) := by omega
    obtain ⟨c, hx⟩ : ∃ x, ch[i]? = some x := ⟨_, List.getElem?_eq_getElem hlt⟩
    have hsl := hs c (List.mem_of_getElem? hx)
    have hw : IntKind.i64.wrap ((i : Int) + 1) = ((i + 1 : Nat) : Int) := by rw [wrap_small3] <;> omega
    rw [drop_of_get hx, replayGo] at hgo
    simp (config := {contextual := true}) only [go_sem, ↓reduceIte, reduceCtorEq, Bool.false_eq_true, Bool.true_eq_false, Nat.reduceAdd, Nat.reduceLT, Nat.reduceEqDiff, Nat.reduceLeDiff, Nat.reduceSub, Nat.reduceMul, hlt', hx, Chunk.pv]
    have hsl1 := hsl.1
    have hsl2 := hsl.2
    have ha := leaf_Apply out (c.ps.map noteP) (by omega) (by simp; omega)
    have hal := applyV_len out (c.ps.map noteP)
    rw [List.length_map] at hal
    obtain ⟨q, e1, hq⟩ : ∃ p e, applyV out (c.ps.map noteP) = (p, e) := ⟨_, _, rfl⟩
    rw [hq] at ha hal hgo
    simp only at ha hal hgo
    have hd := change_Do q c.cs (by omega) (by omega)
    have hdl := doV_len q c.cs
    obtain ⟨q2, e2, hq2⟩ : ∃ p e, doV q c.cs = (p, e) := ⟨_, _, rfl⟩
    rw [hq2] at hd hdl hgo
    simp only at hd hdl hgo
    refine V.loop (fun m ls os => ∃ (j : Nat), j ≤ c.ps.length ∧ m = c.ps.length - j ∧
        ls = [(0, .val (.row (l.map Pair.pv))), (6, .val (.row (out.map Pair.pv))), (8, .adr 0 0), (9, .ref 1), (15, .val (.row (ch.map Chunk.pv))), (16, .val (.int .i64 ch.length)), (17, .val (.int .i64 i)), (22, .val (.row (c.ps.map Pair.pv))), (23, .val (.int .i64 c.ps.length)), (24, .val (.int .i64 j))] ∧ os = [.box true [.val (.row (c.ps.map Pair.pv)), .val (.row (c.cs.map Change.pv)), .val (.bool (decide (c.more = true)))], .row 64 (((c.ps.take j).map noteP).map Note.pv)]) 2 c.ps.length
      [(0, .val (.row (l.map Pair.pv))), (6, .val (.row (out.map Pair.pv))), (8, .adr 0 0), (9, .ref 1), (15, .val (.row (ch.map Chunk.pv))), (16, .val (.int .i64 ch.length)), (17, .val (.int .i64 i)), (22, .val (.row (c.ps.map Pair.pv))), (23, .val (.int .i64 c.ps.length)), (24, .val (.int .i64 0))] [.box true [.val (.row (c.ps.map Pair.pv)), .val (.row (c.cs.map Change.pv)), .val (.bool (decide (c.more = true)))], .row 64 []] [some 3, none]
      ⟨0, Nat.zero_le _, rfl, rfl, rfl⟩ (by simp only [go_sem, ↓reduceIte, reduceCtorEq, Bool.false_eq_true, Bool.true_eq_false, Nat.reduceAdd, Nat.reduceLT, Nat.reduceEqDiff, Nat.reduceLeDiff, Nat.reduceSub, Nat.reduceMul, Chunk.pv]; try decide) ?_
    rintro m ls os ⟨j, hj, rfl, rfl, rfl⟩
    refine V.exec 400 ?_
    by_cases hjt : j < c.ps.length
    · have hjt' : (j : Int) < (c.ps.length : Int) := by omega
      obtain ⟨x, hy⟩ : ∃ x, c.ps[j]? = some x := ⟨_, List.getElem?_eq_getElem hjt⟩
      have hw2 : IntKind.i64.wrap ((j : Int) + 1) = ((j + 1 : Nat) : Int) := by rw [wrap_small3] <;> omega
      have hts : (c.ps.take (j + 1)).map noteP = (c.ps.take j).map noteP ++ [noteP x] := by rw [List.take_add_one, hy, List.map_append]; rfl
      have htl : ((c.ps.take j).map noteP).length ≤ 1000 := by rw [List.length_map, List.length_take]; omega
      generalize (c.ps.take j).map noteP = N at *
      simp (config := {contextual := true}) only [go_sem, ↓reduceIte, reduceCtorEq, Bool.false_eq_true, Bool.true_eq_false, Nat.reduceAdd, Nat.reduceLT, Nat.reduceEqDiff, Nat.reduceLeDiff, Nat.reduceSub, Nat.reduceMul, hjt', hy, Pair.pv, hw2]
      refine ⟨⟨by omega, by omega⟩, c.ps.length - (j + 1), _, _, [some 0, some 14], by omega, ⟨j + 1, by omega, rfl, rfl, rfl⟩, ?_⟩
      simp only [go_sem, ↓reduceIte, reduceCtorEq, Bool.false_eq_true, Bool.true_eq_false, Nat.reduceAdd, Nat.reduceLT, Nat.reduceEqDiff, Nat.reduceLeDiff, Nat.reduceSub, Nat.reduceMul, hts, List.map_append, List.map_cons, List.map_nil, Note.pv, noteP]
      try decide
    · have hjt' : ¬ (j : Int) < (c.ps.length : Int) := by omega
      rw [List.take_of_length_le (by omega)]
      simp (config := {contextual := true}) only [go_sem, ↓reduceIte, reduceCtorEq, Bool.false_eq_true, Bool.true_eq_false, Nat.reduceAdd, Nat.reduceLT, Nat.reduceEqDiff, Nat.reduceLeDiff, Nat.reduceSub, Nat.reduceMul, hjt']
      refine V.call rfl rfl (by simp [dOK]) ⟨32, [], by simp only [go_sem, ↓reduceIte, reduceCtorEq, Bool.false_eq_true, Bool.true_eq_false, Nat.reduceAdd, Nat.reduceLT, Nat.reduceEqDiff, Nat.reduceLeDiff, Nat.reduceSub, Nat.reduceMul], ⟨_, rfl, rfl, rfl⟩, .inl ⟨[.row (out.map Pair.pv), .row ((c.ps.map noteP).map Note.pv)], _, .inl (by simp only [go_sem, ↓reduceIte, reduceCtorEq, Bool.false_eq_true, Bool.true_eq_false, Nat.reduceAdd, Nat.reduceLT, Nat.reduceEqDiff, Nat.reduceLeDiff, Nat.reduceSub, Nat.reduceMul]), ha, .inr (.inl ⟨_, rfl, rfl, rfl⟩)⟩⟩ ?_
      refine V.exec 400 ?_
      by_cases he1 : e1 = 0
      · rw [if_pos he1] at hgo
        subst he1
        simp (config := {contextual := true}) only [go_sem, ↓reduceIte, reduceCtorEq, Bool.false_eq_true, Bool.true_eq_false, Nat.reduceAdd, Nat.reduceLT, Nat.reduceEqDiff, Nat.reduceLeDiff, Nat.reduceSub, Nat.reduceMul]
        refine V.call rfl rfl (by simp [dOK]) ⟨33, [], by simp only [go_sem, ↓reduceIte, reduceCtorEq, Bool.false_eq_true, Bool.true_eq_false, Nat.reduceAdd, Nat.reduceLT, Nat.reduceEqDiff, Nat.reduceLeDiff, Nat.reduceSub, Nat.reduceMul], ⟨_, rfl, rfl, rfl⟩, .inl ⟨[.row (q.map Pair.pv), .row (c.cs.map Change.pv)], _, .inl (by simp only [go_sem, ↓reduceIte, reduceCtorEq, Bool.false_eq_true, Bool.true_eq_false, Nat.reduceAdd, Nat.reduceLT, Nat.reduceEqDiff, Nat.reduceLeDiff, Nat.reduceSub, Nat.reduceMul]), hd, .inr (.inl ⟨_, rfl, rfl, rfl⟩)⟩⟩ ?_
        refine V.exec 400 ?_
        by_cases he2 : e2 = 0
        · rw [if_pos he2] at hgo
          subst he2
          simp (config := {contextual := true}) only [go_sem, ↓reduceIte, reduceCtorEq, Bool.false_eq_true, Bool.true_eq_false, Nat.reduceAdd, Nat.reduceLT, Nat.reduceEqDiff, Nat.reduceLeDiff, Nat.reduceSub, Nat.reduceMul, hw]
          exact ⟨ch.length - (i + 1), _, [], [], by omega, ⟨i + 1, q2, by omega, rfl, by omega, hgo, rfl, rfl⟩, by simp only [go_sem, ↓reduceIte, reduceCtorEq, Bool.false_eq_true, Bool.true_eq_false, Nat.reduceAdd, Nat.reduceLT, Nat.reduceEqDiff, Nat.reduceLeDiff, Nat.reduceSub, Nat.reduceMul]⟩
        · rw [if_neg he2, Prod.mk.injEq] at hgo
          obtain ⟨rfl, rfl⟩ := hgo
          simp (config := {contextual := true}) only [go_sem, ↓reduceIte, reduceCtorEq, Bool.false_eq_true, Bool.true_eq_false, Nat.reduceAdd, Nat.reduceLT, Nat.reduceEqDiff, Nat.reduceLeDiff, Nat.reduceSub, Nat.reduceMul, he2]
      · rw [if_neg he1, Prod.mk.injEq] at hgo
        obtain ⟨rfl, rfl⟩ := hgo
        simp (config := {contextual := true}) only [go_sem, ↓reduceIte, reduceCtorEq, Bool.false_eq_true, Bool.true_eq_false, Nat.reduceAdd, Nat.reduceLT, Nat.reduceEqDiff, Nat.reduceLeDiff, Nat.reduceSub, Nat.reduceMul, he1]
  · have hlt' : ¬ (i : Int) < (ch.length : Int) := by omega
    have hd : ch.drop i = [] := List.drop_eq_nil_of_le (by omega)
    rw [hd, replayGo, Prod.mk.injEq] at hgo
    obtain ⟨rfl, rfl⟩ := hgo
    simp (config := {contextual := true}) only [go_sem, ↓reduceIte, reduceCtorEq, Bool.false_eq_true, Bool.true_eq_false, Nat.reduceAdd, Nat.reduceLT, Nat.reduceEqDiff, Nat.reduceLeDiff, Nat.reduceSub, Nat.reduceMul, hlt']
end Go.Proofs.Ytjhjnphcdpjnbaa
set_option linter.unusedVariables false
set_option linter.unusedSimpArgs false
set_option maxRecDepth 8000
namespace Go.Proofs.Ytjhjnphcdpjnbaa
open Go Go.Proofs Go.Proofs.YtjhjnphcdpjnbaaVm Go.Proofs.Ytjhjnphcdpjnbaa.Ty

set_option maxHeartbeats 8000000 in
theorem law19_small (l : List Pair) (t : List Change) (hl : l.length ≤ 9223372036854775807) (ht : t.length ≤ 9223372036854775807) : Ct Try.prog 8 (YtjhjnphcdpjnbaaVm.ops [.row (l.map Pair.pv), .row (t.map Change.pv)]) (.vals [.bool (decide (smallPC l t))]) := by
  have hno : ¬ smallPC l t → some [PV.bool false] = some [PV.bool (decide (smallPC l t))] := fun h => by simp [h]
  refine Ct.of_V Try.func8 rfl (by simp [YtjhjnphcdpjnbaaVm.ops, Try.f8]) ?_
  refine V.exec 400 ?_
  simp (config := {contextual := true}) only [go_sem, ↓reduceIte, reduceCtorEq, Bool.false_eq_true, Bool.true_eq_false, Nat.reduceAdd, Nat.reduceLT, Nat.reduceEqDiff, Nat.reduceLeDiff, Nat.reduceSub, Nat.reduceMul, Try.f8]
  by_cases h60 : l.length ≤ 60
  · have h60' : ¬ (60 : Int) < (l.length : Int) := by omega
    by_cases h61 : t.length ≤ 60
    · have h61' : ¬ (60 : Int) < (t.length : Int) := by omega
      simp (config := {contextual := true}) only [go_sem, ↓reduceIte, reduceCtorEq, Bool.false_eq_true, Bool.true_eq_false, Nat.reduceAdd, Nat.reduceLT, Nat.reduceEqDiff, Nat.reduceLeDiff, Nat.reduceSub, Nat.reduceMul, h60', h61']
      refine V.loop (fun m ls os => ∃ (i : Nat), i ≤ l.length ∧ m = l.length - i ∧ (∀ s ∈ l.take i, s.fine) ∧
          ls = [(1, .val (.row (t.map Change.pv))), (17, .val (.row (l.map Pair.pv))), (18, .val (.int .i64 l.length)), (19, .val (.int .i64 i))] ∧ os = []) 0 l.length
        [(1, .val (.row (t.map Change.pv))), (17, .val (.row (l.map Pair.pv))), (18, .val (.int .i64 l.length)), (19, .val (.int .i64 0))] [] []
        ⟨0, Nat.zero_le _, rfl, by simp, rfl, rfl⟩ (by simp only [go_sem, ↓reduceIte, reduceCtorEq, Bool.false_eq_true, Bool.true_eq_false, Nat.reduceAdd, Nat.reduceLT, Nat.reduceEqDiff, Nat.reduceLeDiff, Nat.reduceSub, Nat.reduceMul]) ?_
      rintro m ls os ⟨i, hi, rfl, hall, rfl, rfl⟩
      refine V.exec 400 ?_
      by_cases hlt : i < l.length
      · have hlt' : (i : Int) < (l.length : Int) := by omega
        obtain ⟨x, hx⟩ : ∃ x, l[i]? = some x := ⟨_, List.getElem?_eq_getElem hlt⟩
        have hw : IntKind.i64.wrap ((i : Int) + 1) = ((i + 1 : Nat) : Int) := by rw [wrap_small3] <;> omega
        have hxm := List.mem_of_getElem? hx
        simp (config := {contextual := true}) only [go_sem, ↓reduceIte, reduceCtorEq, Bool.false_eq_true, Bool.true_eq_false, Nat.reduceAdd, Nat.reduceLT, Nat.reduceEqDiff, Nat.reduceLeDiff, Nat.reduceSub, Nat.reduceMul, hlt', hx, Pair.pv, hw]
        (repeat' (first | (intro _) | (refine ⟨by kernel_rfl, ?_⟩) | (apply And.intro)))
        all_goals first
          | exact ⟨l.length - (i + 1), _, [], [], by omega, ⟨i + 1, by omega, rfl, take_all hx hall ⟨by omega, by omega⟩, rfl, rfl⟩, by simp only [go_sem, ↓reduceIte, reduceCtorEq, Bool.false_eq_true, Bool.true_eq_false, Nat.reduceAdd, Nat.reduceLT, Nat.reduceEqDiff, Nat.reduceLeDiff, Nat.reduceSub, Nat.reduceMul]⟩
          | exact hno fun h => by have := (h.2.2.1 x hxm).1; have := (h.2.2.1 x hxm).2; omega
      · have hlt' : ¬ (i : Int) < (l.length : Int) := by omega
        rw [List.take_of_length_le (by omega)] at hall
        simp (config := {contextual := true}) only [go_sem, ↓reduceIte, reduceCtorEq, Bool.false_eq_true, Bool.true_eq_false, Nat.reduceAdd, Nat.reduceLT, Nat.reduceEqDiff, Nat.reduceLeDiff, Nat.reduceSub, Nat.reduceMul, hlt']
        refine V.loop (fun m ls os => ∃ (i : Nat), i ≤ t.length ∧ m = t.length - i ∧ (∀ s ∈ t.take i, s.fine) ∧
            ls = [(34, .val (.row (t.map Change.pv))), (35, .val (.int .i64 t.length)), (36, .val (.int .i64 i))] ∧ os = []) 0 t.length
          [(34, .val (.row (t.map Change.pv))), (35, .val (.int .i64 t.length)), (36, .val (.int .i64 0))] [] []
          ⟨0, Nat.zero_le _, rfl, by simp, rfl, rfl⟩ (by simp only [go_sem, ↓reduceIte, reduceCtorEq, Bool.false_eq_true, Bool.true_eq_false, Nat.reduceAdd, Nat.reduceLT, Nat.reduceEqDiff, Nat.reduceLeDiff, Nat.reduceSub, Nat.reduceMul]) ?_
        rintro m ls os ⟨j, hj, rfl, hall2, rfl, rfl⟩
        refine V.exec 400 ?_
        by_cases hjt : j < t.length
        · have hjt' : (j : Int) < (t.length : Int) := by omega
          obtain ⟨x, hx⟩ : ∃ x, t[j]? = some x := ⟨_, List.getElem?_eq_getElem hjt⟩
          have hw : IntKind.i64.wrap ((j : Int) + 1) = ((j + 1 : Nat) : Int) := by rw [wrap_small3] <;> omega
          have hxm := List.mem_of_getElem? hx
          simp (config := {contextual := true}) only [go_sem, ↓reduceIte, reduceCtorEq, Bool.false_eq_true, Bool.true_eq_false, Nat.reduceAdd, Nat.reduceLT, Nat.reduceEqDiff, Nat.reduceLeDiff, Nat.reduceSub, Nat.reduceMul, hjt', hx, Change.pv, hw]
          (repeat' (first | (intro _) | (refine ⟨by kernel_rfl, ?_⟩) | (apply And.intro)))
          all_goals first
            | exact ⟨t.length - (j + 1), _, [], [], by omega, ⟨j + 1, by omega, rfl, take_all hx hall2 ⟨by omega, by omega, by omega⟩, rfl, rfl⟩, by simp only [go_sem, ↓reduceIte, reduceCtorEq, Bool.false_eq_true, Bool.true_eq_false, Nat.reduceAdd, Nat.reduceLT, Nat.reduceEqDiff, Nat.reduceLeDiff, Nat.reduceSub, Nat.reduceMul]⟩
            | exact hno fun h => by have h := h.2.2.2 x hxm; have := h.1; have := h.2.1; have := h.2.2; omega
        · have hjt' : ¬ (j : Int) < (t.length : Int) := by omega
          rw [List.take_of_length_le (by omega)] at hall2
          have hyes : smallPC l t := ⟨h60, h61, hall, hall2⟩
          simp (config := {contextual := true}) only [go_sem, ↓reduceIte, reduceCtorEq, Bool.false_eq_true, Bool.true_eq_false, Nat.reduceAdd, Nat.reduceLT, Nat.reduceEqDiff, Nat.reduceLeDiff, Nat.reduceSub, Nat.reduceMul, hjt']
          simp [hyes]
    · have h61' : (60 : Int) < (t.length : Int) := by omega
      simp (config := {contextual := true}) only [go_sem, ↓reduceIte, reduceCtorEq, Bool.false_eq_true, Bool.true_eq_false, Nat.reduceAdd, Nat.reduceLT, Nat.reduceEqDiff, Nat.reduceLeDiff, Nat.reduceSub, Nat.reduceMul, h60', h61']
      exact hno fun h => h61 h.2.1
  · have h60' : (60 : Int) < (l.length : Int) := by omega
    simp (config := {contextual := true}) only [go_sem, ↓reduceIte, reduceCtorEq, Bool.false_eq_true, Bool.true_eq_false, Nat.reduceAdd, Nat.reduceLT, Nat.reduceEqDiff, Nat.reduceLeDiff, Nat.reduceSub, Nat.reduceMul, h60']
    exact hno fun h => h60 h.1


theorem law19_ref (c : Chunk) : Ct Try.prog 19 (YtjhjnphcdpjnbaaVm.ops [c.pv]) (.vals [c.pv]) := by
  refine Ct.of_V Try.func19 rfl (by simp [YtjhjnphcdpjnbaaVm.ops, Try.f19]) ?_
  refine V.exec 400 ?_
  simp (config := {contextual := true}) only [go_sem, ↓reduceIte, reduceCtorEq, Bool.false_eq_true, Bool.true_eq_false, Nat.reduceAdd, Nat.reduceLT, Nat.reduceEqDiff, Nat.reduceLeDiff, Nat.reduceSub, Nat.reduceMul, Try.f19, Chunk.pv]

set_option maxHeartbeats 4000000 in
theorem law19_same (a b : Chunk) (h1 : b.ps.length ≤ 1000000) (h2 : b.cs.length ≤ 1000000) : Ct Try.prog 18 (YtjhjnphcdpjnbaaVm.ops [a.pv, b.pv]) (.vals [.bool (decide (a = b))]) := by
  have he : a = b ↔ a.more = b.more ∧ a.ps = b.ps ∧ a.cs = b.cs := by
    cases a; cases b; simp only [Chunk.mk.injEq]
    constructor
    · rintro ⟨rfl, rfl, rfl⟩; exact ⟨rfl, rfl, rfl⟩
    · rintro ⟨rfl, rfl, rfl⟩; exact ⟨rfl, rfl, rfl⟩
  refine Ct.of_V Try.func18 rfl (by simp [YtjhjnphcdpjnbaaVm.ops, Try.f18]) ?_
  refine V.exec 400 ?_
  simp (config := {contextual := true}) only [go_sem, ↓reduceIte, reduceCtorEq, Bool.false_eq_true, Bool.true_eq_false, Nat.reduceAdd, Nat.reduceLT, Nat.reduceEqDiff, Nat.reduceLeDiff, Nat.reduceSub, Nat.reduceMul, Try.f18, Chunk.pv]
  by_cases hm : a.more = b.more
  · simp (config := {contextual := true}) only [go_sem, ↓reduceIte, reduceCtorEq, Bool.false_eq_true, Bool.true_eq_false, Nat.reduceAdd, Nat.reduceLT, Nat.reduceEqDiff, Nat.reduceLeDiff, Nat.reduceSub, Nat.reduceMul, hm]
    refine V.call rfl rfl (by simp [dOK]) ⟨22, [], by simp only [go_sem, ↓reduceIte, reduceCtorEq, Bool.false_eq_true, Bool.true_eq_false, Nat.reduceAdd, Nat.reduceLT, Nat.reduceEqDiff, Nat.reduceLeDiff, Nat.reduceSub, Nat.reduceMul], ⟨_, rfl, rfl, rfl⟩, .inl ⟨[.row (a.ps.map Pair.pv), .row (b.ps.map Pair.pv)], _, .inl (by simp only [go_sem, ↓reduceIte, reduceCtorEq, Bool.false_eq_true, Bool.true_eq_false, Nat.reduceAdd, Nat.reduceLT, Nat.reduceEqDiff, Nat.reduceLeDiff, Nat.reduceSub, Nat.reduceMul]), ref03_Same a.ps b.ps h1, .inl ⟨_, rfl, rfl, rfl, rfl⟩⟩⟩ ?_
    refine V.exec 400 ?_
    by_cases hp : a.ps = b.ps
    · simp (config := {contextual := true}) only [go_sem, ↓reduceIte, reduceCtorEq, Bool.false_eq_true, Bool.true_eq_false, Nat.reduceAdd, Nat.reduceLT, Nat.reduceEqDiff, Nat.reduceLeDiff, Nat.reduceSub, Nat.reduceMul, hm, hp]
      refine V.call rfl rfl (by simp [dOK]) ⟨23, [], by simp only [go_sem, ↓reduceIte, reduceCtorEq, Bool.false_eq_true, Bool.true_eq_false, Nat.reduceAdd, Nat.reduceLT, Nat.reduceEqDiff, Nat.reduceLeDiff, Nat.reduceSub, Nat.reduceMul], ⟨_, rfl, rfl, rfl⟩, .inl ⟨[.row (a.cs.map Change.pv), .row (b.cs.map Change.pv)], _, .inl (by simp only [go_sem, ↓reduceIte, reduceCtorEq, Bool.false_eq_true, Bool.true_eq_false, Nat.reduceAdd, Nat.reduceLT, Nat.reduceEqDiff, Nat.reduceLeDiff, Nat.reduceSub, Nat.reduceMul]), ref13_Same a.cs b.cs h2, .inl ⟨_, rfl, rfl, rfl, rfl⟩⟩⟩ ?_
      refine V.exec 400 ?_
      simp (config := {contextual := true}) only [go_sem, ↓reduceIte, reduceCtorEq, Bool.false_eq_true, Bool.true_eq_false, Nat.reduceAdd, Nat.reduceLT, Nat.reduceEqDiff, Nat.reduceLeDiff, Nat.reduceSub, Nat.reduceMul, hm, hp]
      by_cases hc : a.cs = b.cs
      · have : a = b := he.2 ⟨hm, hp, hc⟩
        simp [this]
      · have : a ≠ b := fun h => hc (he.1 h).2.2
        simp [this, hc]
    · have : a ≠ b := fun h => hp (he.1 h).2.1
      simp (config := {contextual := true}) only [go_sem, ↓reduceIte, reduceCtorEq, Bool.false_eq_true, Bool.true_eq_false, Nat.reduceAdd, Nat.reduceLT, Nat.reduceEqDiff, Nat.reduceLeDiff, Nat.reduceSub, Nat.reduceMul, hm, hp]
      simp [this]
  · have : a ≠ b := fun h => hm (he.1 h).1
    have hm2 : (decide (a.more = true) == decide (b.more = true)) = false := by
      cases ha : a.more <;> cases hb : b.more <;> simp_all
    simp (config := {contextual := true}) only [go_sem, ↓reduceIte, reduceCtorEq, Bool.false_eq_true, Bool.true_eq_false, Nat.reduceAdd, Nat.reduceLT, Nat.reduceEqDiff, Nat.reduceLeDiff, Nat.reduceSub, Nat.reduceMul, hm2, this, decide_false]

def gP1 : Pair := ⟨[97], [50]⟩
def gP2 : Pair := ⟨[98], [49]⟩
def gP3 : Pair := ⟨[97], [49]⟩
def gC : Change := ⟨6, [97], true, [49], true, [50]⟩
def gS : Sub := ⟨0, ⟨[], [], true⟩, false, [], 5⟩
def gU : Sub := ⟨0, ⟨[], [], true⟩, false, [97, 0], 5⟩
def gV : Sub := ⟨0, ⟨[], [], true⟩, true, [], 5⟩
def gW : Sub := ⟨0, ⟨[], [], true⟩, true, [], 6⟩
def gK1 : Chunk := ⟨[gP3], [], true⟩
def gK2 : Chunk := ⟨[], [gC], false⟩
theorem gv1 : pollV gS [gP1, gP2] [gC] 0 1 = (gK1, 0) := by kernel_rfl
theorem gv2 : tookV gS [gP1, gP2] [gC] 0 1 = (gU, 0) := by kernel_rfl
theorem gv3 : tookV gU [gP1, gP2] [gC] 0 1 = (gV, 0) := by kernel_rfl
theorem gv4 : pollV gV [gP1, gP2] [gC] 0 9 = (gK2, 0) := by kernel_rfl
theorem gv5 : ackV gV 6 6 = (gW, 0) := by kernel_rfl
theorem gv6 : ackV gV 6 7 = (gV, 9) := by kernel_rfl
theorem gv7 : replayV [] [gK1, gK2] = ([gP1], 0) := by kernel_rfl
theorem gv8 : gS.ok := by decide +kernel

set_option maxRecDepth 10000 in
set_option maxHeartbeats 16000000 in
theorem law19_awake : Ct Try.prog 9 (YtjhjnphcdpjnbaaVm.ops []) (.vals [.bool true]) := by
  have c1 := feed_Poll gS [gP1, gP2] [gC] 0 1 (by decide) (by decide)
  rw [gv1] at c1
  have c2 := feed_Took gS [gP1, gP2] [gC] 0 1 (by decide) (by decide)
  rw [gv2] at c2
  have c3 := feed_Took gU [gP1, gP2] [gC] 0 1 (by decide) (by decide)
  rw [gv3] at c3
  have c4 := feed_Poll gV [gP1, gP2] [gC] 0 9 (by decide) (by decide)
  rw [gv4] at c4
  have c5 := feed_Ack gV 6 6
  rw [gv5] at c5
  have c6 := feed_Ack gV 6 7
  rw [gv6] at c6
  have c7 := feed_Replay [] [gK1, gK2] (by decide) (by decide) (by intro c hc; simp at hc; rcases hc with rfl | rfl <;> exact ⟨by decide, by decide⟩)
  rw [gv7] at c7
  have c8 := feed_Right gS
  rw [decide_eq_true gv8] at c8
  simp only at c1 c2 c3 c4 c5 c6 c7 c8
  refine Ct.of_V Try.func9 rfl (by simp [YtjhjnphcdpjnbaaVm.ops, Try.f9]) ?_
  refine V.exec 400 ?_
  simp (config := {contextual := true}) only [go_sem, ↓reduceIte, reduceCtorEq, Bool.false_eq_true, Bool.true_eq_false, Nat.reduceAdd, Nat.reduceLT, Nat.reduceEqDiff, Nat.reduceLeDiff, Nat.reduceSub, Nat.reduceMul, Try.f9]
  refine V.call rfl rfl (by simp [dOK]) ⟨10, [], by simp only [go_sem, ↓reduceIte, reduceCtorEq, Bool.false_eq_true, Bool.true_eq_false, Nat.reduceAdd, Nat.reduceLT, Nat.reduceEqDiff, Nat.reduceLeDiff, Nat.reduceSub, Nat.reduceMul], ⟨_, rfl, rfl, rfl⟩, .inl ⟨[gS.pv, .row ([gP1, gP2].map Pair.pv), .row ([gC].map Change.pv), .int .i64 0, .int .i64 1], _, .inl (by simp only [go_sem, ↓reduceIte, reduceCtorEq, Bool.false_eq_true, Bool.true_eq_false, Nat.reduceAdd, Nat.reduceLT, Nat.reduceEqDiff, Nat.reduceLeDiff, Nat.reduceSub, Nat.reduceMul, gP1, gP2, gP3, gC, gS, gU, gV, gW, gK1, gK2, Sub.pv, Chunk.pv, Pair.pv, Change.pv, List.map_cons, List.map_nil, decide_true, decide_false]), c1, .inr (.inl ⟨_, rfl, rfl, rfl⟩)⟩⟩ ?_
  refine V.exec 400 ?_
  simp (config := {contextual := true}) only [go_sem, ↓reduceIte, reduceCtorEq, Bool.false_eq_true, Bool.true_eq_false, Nat.reduceAdd, Nat.reduceLT, Nat.reduceEqDiff, Nat.reduceLeDiff, Nat.reduceSub, Nat.reduceMul, gP1, gP2, gP3, gC, gS, gU, gV, gW, gK1, gK2, Sub.pv, Chunk.pv, Pair.pv, Change.pv, List.map_cons, List.map_nil, decide_true, decide_false]
  refine V.call rfl rfl (by simp [dOK]) ⟨12, [], by simp only [go_sem, ↓reduceIte, reduceCtorEq, Bool.false_eq_true, Bool.true_eq_false, Nat.reduceAdd, Nat.reduceLT, Nat.reduceEqDiff, Nat.reduceLeDiff, Nat.reduceSub, Nat.reduceMul], ⟨_, rfl, rfl, rfl⟩, .inl ⟨[gS.pv, .row ([gP1, gP2].map Pair.pv), .row ([gC].map Change.pv), .int .i64 0, .int .i64 1], _, .inl (by simp only [go_sem, ↓reduceIte, reduceCtorEq, Bool.false_eq_true, Bool.true_eq_false, Nat.reduceAdd, Nat.reduceLT, Nat.reduceEqDiff, Nat.reduceLeDiff, Nat.reduceSub, Nat.reduceMul, gP1, gP2, gP3, gC, gS, gU, gV, gW, gK1, gK2, Sub.pv, Chunk.pv, Pair.pv, Change.pv, List.map_cons, List.map_nil, decide_true, decide_false]), c2, .inr (.inl ⟨_, rfl, rfl, rfl⟩)⟩⟩ ?_
  refine V.exec 400 ?_
  simp (config := {contextual := true}) only [go_sem, ↓reduceIte, reduceCtorEq, Bool.false_eq_true, Bool.true_eq_false, Nat.reduceAdd, Nat.reduceLT, Nat.reduceEqDiff, Nat.reduceLeDiff, Nat.reduceSub, Nat.reduceMul, gP1, gP2, gP3, gC, gS, gU, gV, gW, gK1, gK2, Sub.pv, Chunk.pv, Pair.pv, Change.pv, List.map_cons, List.map_nil, decide_true, decide_false]
  refine V.call rfl rfl (by simp [dOK]) ⟨12, [], by simp only [go_sem, ↓reduceIte, reduceCtorEq, Bool.false_eq_true, Bool.true_eq_false, Nat.reduceAdd, Nat.reduceLT, Nat.reduceEqDiff, Nat.reduceLeDiff, Nat.reduceSub, Nat.reduceMul], ⟨_, rfl, rfl, rfl⟩, .inl ⟨[gU.pv, .row ([gP1, gP2].map Pair.pv), .row ([gC].map Change.pv), .int .i64 0, .int .i64 1], _, .inl (by simp only [go_sem, ↓reduceIte, reduceCtorEq, Bool.false_eq_true, Bool.true_eq_false, Nat.reduceAdd, Nat.reduceLT, Nat.reduceEqDiff, Nat.reduceLeDiff, Nat.reduceSub, Nat.reduceMul, gP1, gP2, gP3, gC, gS, gU, gV, gW, gK1, gK2, Sub.pv, Chunk.pv, Pair.pv, Change.pv, List.map_cons, List.map_nil, decide_true, decide_false]), c3, .inr (.inl ⟨_, rfl, rfl, rfl⟩)⟩⟩ ?_
  refine V.exec 400 ?_
  simp (config := {contextual := true}) only [go_sem, ↓reduceIte, reduceCtorEq, Bool.false_eq_true, Bool.true_eq_false, Nat.reduceAdd, Nat.reduceLT, Nat.reduceEqDiff, Nat.reduceLeDiff, Nat.reduceSub, Nat.reduceMul, gP1, gP2, gP3, gC, gS, gU, gV, gW, gK1, gK2, Sub.pv, Chunk.pv, Pair.pv, Change.pv, List.map_cons, List.map_nil, decide_true, decide_false]
  refine V.call rfl rfl (by simp [dOK]) ⟨10, [], by simp only [go_sem, ↓reduceIte, reduceCtorEq, Bool.false_eq_true, Bool.true_eq_false, Nat.reduceAdd, Nat.reduceLT, Nat.reduceEqDiff, Nat.reduceLeDiff, Nat.reduceSub, Nat.reduceMul], ⟨_, rfl, rfl, rfl⟩, .inl ⟨[gV.pv, .row ([gP1, gP2].map Pair.pv), .row ([gC].map Change.pv), .int .i64 0, .int .i64 9], _, .inl (by simp only [go_sem, ↓reduceIte, reduceCtorEq, Bool.false_eq_true, Bool.true_eq_false, Nat.reduceAdd, Nat.reduceLT, Nat.reduceEqDiff, Nat.reduceLeDiff, Nat.reduceSub, Nat.reduceMul, gP1, gP2, gP3, gC, gS, gU, gV, gW, gK1, gK2, Sub.pv, Chunk.pv, Pair.pv, Change.pv, List.map_cons, List.map_nil, decide_true, decide_false]), c4, .inr (.inl ⟨_, rfl, rfl, rfl⟩)⟩⟩ ?_
  refine V.exec 400 ?_
  simp (config := {contextual := true}) only [go_sem, ↓reduceIte, reduceCtorEq, Bool.false_eq_true, Bool.true_eq_false, Nat.reduceAdd, Nat.reduceLT, Nat.reduceEqDiff, Nat.reduceLeDiff, Nat.reduceSub, Nat.reduceMul, gP1, gP2, gP3, gC, gS, gU, gV, gW, gK1, gK2, Sub.pv, Chunk.pv, Pair.pv, Change.pv, List.map_cons, List.map_nil, decide_true, decide_false]
  refine V.call rfl rfl (by simp [dOK]) ⟨14, [], by simp only [go_sem, ↓reduceIte, reduceCtorEq, Bool.false_eq_true, Bool.true_eq_false, Nat.reduceAdd, Nat.reduceLT, Nat.reduceEqDiff, Nat.reduceLeDiff, Nat.reduceSub, Nat.reduceMul], ⟨_, rfl, rfl, rfl⟩, .inl ⟨[gV.pv, .int .i64 6, .int .i64 6], _, .inl (by simp only [go_sem, ↓reduceIte, reduceCtorEq, Bool.false_eq_true, Bool.true_eq_false, Nat.reduceAdd, Nat.reduceLT, Nat.reduceEqDiff, Nat.reduceLeDiff, Nat.reduceSub, Nat.reduceMul, gP1, gP2, gP3, gC, gS, gU, gV, gW, gK1, gK2, Sub.pv, Chunk.pv, Pair.pv, Change.pv, List.map_cons, List.map_nil, decide_true, decide_false]), c5, .inr (.inl ⟨_, rfl, rfl, rfl⟩)⟩⟩ ?_
  refine V.exec 400 ?_
  simp (config := {contextual := true}) only [go_sem, ↓reduceIte, reduceCtorEq, Bool.false_eq_true, Bool.true_eq_false, Nat.reduceAdd, Nat.reduceLT, Nat.reduceEqDiff, Nat.reduceLeDiff, Nat.reduceSub, Nat.reduceMul, gP1, gP2, gP3, gC, gS, gU, gV, gW, gK1, gK2, Sub.pv, Chunk.pv, Pair.pv, Change.pv, List.map_cons, List.map_nil, decide_true, decide_false]
  refine V.call rfl rfl (by simp [dOK]) ⟨14, [], by simp only [go_sem, ↓reduceIte, reduceCtorEq, Bool.false_eq_true, Bool.true_eq_false, Nat.reduceAdd, Nat.reduceLT, Nat.reduceEqDiff, Nat.reduceLeDiff, Nat.reduceSub, Nat.reduceMul], ⟨_, rfl, rfl, rfl⟩, .inl ⟨[gV.pv, .int .i64 6, .int .i64 7], _, .inl (by simp only [go_sem, ↓reduceIte, reduceCtorEq, Bool.false_eq_true, Bool.true_eq_false, Nat.reduceAdd, Nat.reduceLT, Nat.reduceEqDiff, Nat.reduceLeDiff, Nat.reduceSub, Nat.reduceMul, gP1, gP2, gP3, gC, gS, gU, gV, gW, gK1, gK2, Sub.pv, Chunk.pv, Pair.pv, Change.pv, List.map_cons, List.map_nil, decide_true, decide_false]), c6, .inr (.inl ⟨_, rfl, rfl, rfl⟩)⟩⟩ ?_
  refine V.exec 400 ?_
  simp (config := {contextual := true}) only [go_sem, ↓reduceIte, reduceCtorEq, Bool.false_eq_true, Bool.true_eq_false, Nat.reduceAdd, Nat.reduceLT, Nat.reduceEqDiff, Nat.reduceLeDiff, Nat.reduceSub, Nat.reduceMul, gP1, gP2, gP3, gC, gS, gU, gV, gW, gK1, gK2, Sub.pv, Chunk.pv, Pair.pv, Change.pv, List.map_cons, List.map_nil, decide_true, decide_false]
  refine V.call rfl rfl (by simp [dOK]) ⟨20, [], by simp only [go_sem, ↓reduceIte, reduceCtorEq, Bool.false_eq_true, Bool.true_eq_false, Nat.reduceAdd, Nat.reduceLT, Nat.reduceEqDiff, Nat.reduceLeDiff, Nat.reduceSub, Nat.reduceMul], ⟨_, rfl, rfl, rfl⟩, .inl ⟨[.row (([] : List Pair).map Pair.pv), .row ([gK1, gK2].map Chunk.pv)], _, .inl (by simp only [go_sem, ↓reduceIte, reduceCtorEq, Bool.false_eq_true, Bool.true_eq_false, Nat.reduceAdd, Nat.reduceLT, Nat.reduceEqDiff, Nat.reduceLeDiff, Nat.reduceSub, Nat.reduceMul, gP1, gP2, gP3, gC, gS, gU, gV, gW, gK1, gK2, Sub.pv, Chunk.pv, Pair.pv, Change.pv, List.map_cons, List.map_nil, decide_true, decide_false]), c7, .inr (.inl ⟨_, rfl, rfl, rfl⟩)⟩⟩ ?_
  refine V.exec 400 ?_
  have n1 : ((1 : Nat) : Int) = 1 := rfl
  have n0 : ((0 : Nat) : Int) = 0 := rfl
  have r1 : (0 : Int) ≤ 0 ∧ (0 : Int) < 1 := by decide
  have t0 : Int.toNat 0 = 0 := rfl
  simp (config := {contextual := true}) only [go_sem, ↓reduceIte, reduceCtorEq, Bool.false_eq_true, Bool.true_eq_false, Nat.reduceAdd, Nat.reduceLT, Nat.reduceEqDiff, Nat.reduceLeDiff, Nat.reduceSub, Nat.reduceMul, gP1, gP2, gP3, gC, gS, gU, gV, gW, gK1, gK2, Sub.pv, Chunk.pv, Pair.pv, Change.pv, List.map_cons, List.map_nil, decide_true, decide_false, List.length_cons, List.length_nil, n1, n0, r1, t0, List.getElem?_cons_zero, List.append_eq, List.cons_append, List.nil_append]
  refine V.call rfl rfl (by simp [dOK]) ⟨16, [], by simp only [go_sem, ↓reduceIte, reduceCtorEq, Bool.false_eq_true, Bool.true_eq_false, Nat.reduceAdd, Nat.reduceLT, Nat.reduceEqDiff, Nat.reduceLeDiff, Nat.reduceSub, Nat.reduceMul], ⟨_, rfl, rfl, rfl⟩, .inl ⟨[gS.pv], _, .inl (by simp only [go_sem, ↓reduceIte, reduceCtorEq, Bool.false_eq_true, Bool.true_eq_false, Nat.reduceAdd, Nat.reduceLT, Nat.reduceEqDiff, Nat.reduceLeDiff, Nat.reduceSub, Nat.reduceMul, gP1, gP2, gP3, gC, gS, gU, gV, gW, gK1, gK2, Sub.pv, Chunk.pv, Pair.pv, Change.pv, List.map_cons, List.map_nil, decide_true, decide_false]), c8, .inl ⟨_, rfl, rfl, rfl, rfl⟩⟩⟩ ?_
  refine V.exec 400 ?_
  simp (config := {contextual := true}) only [go_sem, ↓reduceIte, reduceCtorEq, Bool.false_eq_true, Bool.true_eq_false, Nat.reduceAdd, Nat.reduceLT, Nat.reduceEqDiff, Nat.reduceLeDiff, Nat.reduceSub, Nat.reduceMul, gP1, gP2, gP3, gC, gS, gU, gV, gW, gK1, gK2, Sub.pv, Chunk.pv, Pair.pv, Change.pv, List.map_cons, List.map_nil, decide_true, decide_false]
end Go.Proofs.Ytjhjnphcdpjnbaa
set_option linter.unusedVariables false
set_option linter.unusedSimpArgs false
set_option maxRecDepth 8000
namespace Go.Proofs.Ytjhjnphcdpjnbaa
open Go Go.Proofs Go.Proofs.YtjhjnphcdpjnbaaVm

theorem n9 : ¬ (9 : Int) = 0 := by decide
theorem n1' : ¬ (1 : Int) = 0 := by decide
theorem ack_two {s : Sub} (hok : s.ok) (hl : s.live = true) {a b : Int} (hab : a ≤ b) :
    ((ackV s 200 a).2 = 0 → (ackV (ackV s 200 a).1 200 b).2 = (ackV s 200 b).2 ∧ ((ackV s 200 b).2 = 0 → (ackV (ackV s 200 a).1 200 b).1 = (ackV s 200 b).1)) ∧ s.cur ≤ (ackV s 200 a).1.cur ∧ ((ackV s 200 b).1.cur ≤ 200 ∨ (ackV s 200 b).1 = s) := by
  by_cases h1 : s.cur ≤ a
  · have h2 : s.cur ≤ b := by omega
    by_cases h3 : 200 < a
    · have h4 : 200 < b := by omega
      have e1 : ackV s 200 a = (s, 9) := by unfold ackV; rw [if_pos ⟨hok, hl, h1⟩, if_pos h3]
      have e2 : ackV s 200 b = (s, 9) := by unfold ackV; rw [if_pos ⟨hok, hl, h2⟩, if_pos h4]
      rw [e1, e2]
      exact ⟨fun h => absurd h n9, Int.le_refl _, .inr rfl⟩
    · have e1 : ackV s 200 a = ({ s with cur := a }, 0) := by unfold ackV; rw [if_pos ⟨hok, hl, h1⟩, if_neg h3]
      have hok2 : Sub.ok { s with cur := a } := ⟨hok.1, hok.2.1, hok.2.2.1, by have := hok.2.2.2.1; show 0 ≤ a; omega, by show a ≤ 2147483647; omega⟩
      by_cases h4 : 200 < b
      · have e2 : ackV s 200 b = (s, 9) := by unfold ackV; rw [if_pos ⟨hok, hl, h2⟩, if_pos h4]
        have e3 : ackV { s with cur := a } 200 b = ({ s with cur := a }, 9) := by unfold ackV; rw [if_pos ⟨hok2, hl, hab⟩, if_pos h4]
        rw [e1, e2]
        simp only [e3]
        exact ⟨fun _ => ⟨trivial, fun h => absurd h n9⟩, h1, .inr trivial⟩
      · have e2 : ackV s 200 b = ({ s with cur := b }, 0) := by unfold ackV; rw [if_pos ⟨hok, hl, h2⟩, if_neg h4]
        have e3 : ackV { s with cur := a } 200 b = ({ s with cur := b }, 0) := by unfold ackV; rw [if_pos ⟨hok2, hl, hab⟩, if_neg h4]
        rw [e1, e2]
        simp only [e3]
        exact ⟨fun _ => ⟨trivial, fun _ => trivial⟩, h1, .inl (by show b ≤ 200; omega)⟩
  · have e1 : ackV s 200 a = (s, 1) := by unfold ackV; rw [if_neg (fun h => h1 h.2.2)]
    rw [e1]
    refine ⟨fun h => absurd h n1', Int.le_refl _, ?_⟩
    by_cases h2 : s.cur ≤ b
    · by_cases h4 : 200 < b
      · right; unfold ackV; rw [if_pos ⟨hok, hl, h2⟩, if_pos h4]
      · left; unfold ackV; rw [if_pos ⟨hok, hl, h2⟩, if_neg h4]; show b ≤ 200; omega
    · right; unfold ackV; rw [if_neg (fun h => h2 h.2.2)]

theorem left_next {s : Sub} {l : List Pair} {t : List Change} {floor : Int} {P : List Pair} (h : leftV s l t floor = (P, 0)) {j : Nat} {k : Pair} (hk : P[j]? = some k) :
    leftV { s with next := k.key ++ [0] } l t floor = (P.drop (j + 1), 0) := by
  have hf := atV_facts l t floor s.cur
  unfold leftV at h ⊢
  simp only at h ⊢
  by_cases h0 : (atV l t floor s.cur).2 = 0
  · rw [if_pos h0] at h ⊢
    rcases hf with ⟨_, hp, _⟩ | ⟨_, hf⟩
    · have hs := ((pairsOk_iff _).1 hp).1
      generalize (atV l t floor s.cur).1 = p at *
      simp only [Prod.mk.injEq, and_true] at h
      subst h
      have hsP : Sorted (leftP s p) := List.Pairwise.sublist List.filter_sublist hs
      have hkm := List.mem_of_getElem? hk
      have hki : s.r.isIn k.key ∧ ¬ slt k.key s.next := by simpa using (List.mem_filter.1 hkm).2
      rw [← sorted_drop hsP hk]
      unfold leftP
      rw [List.filter_filter]
      congr 2
      funext q
      have e : (s.r.isIn q.key ∧ ¬ slt q.key (k.key ++ [0])) ↔ (slt k.key q.key ∧ (s.r.isIn q.key ∧ ¬ slt q.key s.next)) := by
        rw [slt_zero]
        constructor
        · rintro ⟨a, b⟩; exact ⟨b, a, fun c => hki.2 (slt_trans b c)⟩
        · rintro ⟨a, b, _⟩; exact ⟨b, a⟩
      by_cases g : s.r.isIn q.key ∧ ¬ slt q.key (k.key ++ [0])
      · have g2 := e.1 g
        rw [decide_eq_true g, decide_eq_true g2.1, decide_eq_true g2.2]; rfl
      · have g2 : ¬ (slt k.key q.key ∧ (s.r.isIn q.key ∧ ¬ slt q.key s.next)) := fun x => g (e.2 x)
        rw [decide_eq_false g]
        by_cases g3 : slt k.key q.key
        · have g4 : ¬ (s.r.isIn q.key ∧ ¬ slt q.key s.next) := fun x => g2 ⟨g3, x⟩
          rw [decide_eq_false g4, Bool.and_false]
        · rw [decide_eq_false g3, Bool.false_and]
    · omega
  · rw [if_neg h0] at h
    simp only [Prod.mk.injEq] at h
    exact absurd h.2 h0

/-- What is taken, as the cases are. -/
theorem took_cases {s : Sub} (hok : s.ok) (hl : s.live = false) {l : List Pair} {t : List Change} {floor n : Int} (hn : 0 ≤ n) :
    ((leftV s l t floor).2 ≠ 0 → tookV s l t floor n = (s, (leftV s l t floor).2)) ∧ ∀ P, leftV s l t floor = (P, 0) →
      ((P.length : Int) < n → tookV s l t floor n = (s, 9)) ∧ (n = (P.length : Int) → tookV s l t floor n = ({ s with live := true, next := [] }, 0)) ∧
      (n = 0 → n < (P.length : Int) → tookV s l t floor n = (s, 0)) ∧ (∀ j k, n = ((j + 1 : Nat) : Int) → j + 1 < P.length → P[j]? = some k → tookV s l t floor n = ({ s with next := k.key ++ [0] }, 0)) := by
  have hc : s.ok ∧ s.live = false ∧ 0 ≤ n := ⟨hok, hl, hn⟩
  constructor
  · intro h
    unfold tookV
    rw [if_pos hc, if_neg h]
  · intro P hP
    refine ⟨fun h => ?_, fun h => ?_, fun h1 h2 => ?_, fun j k h1 h2 h3 => ?_⟩
    · unfold tookV; rw [if_pos hc, hP]; simp only [↓reduceIte]; rw [if_pos h]
    · unfold tookV; rw [if_pos hc, hP]; simp only [↓reduceIte]; rw [if_neg (by omega), if_pos h]
    · unfold tookV; rw [if_pos hc, hP]; simp only [↓reduceIte]; rw [if_neg (by omega), if_neg (by omega)]
      split
      · rw [if_neg (by omega)]
      · rfl
    · unfold tookV; rw [if_pos hc, hP]; simp only [↓reduceIte]; rw [if_neg (by omega), if_neg (by omega)]
      have e : n.toNat - 1 = j := by omega
      rw [e, h3]
      simp only
      rw [if_pos (by omega)]
theorem took_two {s : Sub} (hok : s.ok) (hl : s.live = false) {l : List Pair} {t : List Change} {floor n m : Int} (hn : 0 ≤ n) (hm : 0 ≤ m) :
    ((tookV s l t floor n).2 ≠ 0 → (tookV s l t floor (n + m)).2 ≠ 0 ∧ (tookV s l t floor n).1 = s) ∧
    ((tookV s l t floor n).2 = 0 → (tookV s l t floor n).1.live = true → (m = 0 ↔ (tookV s l t floor (n + m)).2 = 0)) ∧
    ((tookV s l t floor n).2 = 0 → ¬ (tookV s l t floor n).1.live = true → (tookV (tookV s l t floor n).1 l t floor m).2 = (tookV s l t floor (n + m)).2 ∧ ((tookV s l t floor (n + m)).2 = 0 → (tookV (tookV s l t floor n).1 l t floor m).1 = (tookV s l t floor (n + m)).1)) := by
  have h1 := @took_cases s hok hl l t floor n hn
  have h2 := @took_cases s hok hl l t floor (n + m) (by omega)
  by_cases he : (leftV s l t floor).2 = 0
  · obtain ⟨P, hP⟩ : ∃ P, leftV s l t floor = (P, 0) := ⟨(leftV s l t floor).1, by rw [← he]⟩
    have hkeys := @leftV_keys s l t floor
    rw [hP] at hkeys
    obtain ⟨a1, a2, a3, a4⟩ := h1.2 P hP
    obtain ⟨b1, b2, b3, b4⟩ := h2.2 P hP
    by_cases g1 : (P.length : Int) < n
    · rw [a1 g1, b1 (by omega)]
      exact ⟨fun _ => ⟨n9, rfl⟩, fun h => absurd h n9, fun h => absurd h n9⟩
    · by_cases g2 : n = (P.length : Int)
      · rw [a2 g2]
        refine ⟨fun h => absurd rfl h, fun _ _ => ?_, fun _ h => absurd rfl h⟩
        by_cases g3 : m = 0
        · rw [b2 (by omega)]; simp [g3]
        · rw [b1 (by omega)]; simp [g3]
      · have key : ∀ x : Sub, x.ok → x.live = false → tookV s l t floor n = (x, 0) → (x.r = s.r ∧ x.id = s.id ∧ x.cur = s.cur) → (m = 0 → tookV s l t floor (n + m) = (x, 0)) → leftV x l t floor = (P.drop n.toNat, 0) →
            ((tookV s l t floor n).2 ≠ 0 → (tookV s l t floor (n + m)).2 ≠ 0 ∧ (tookV s l t floor n).1 = s) ∧
            ((tookV s l t floor n).2 = 0 → (tookV s l t floor n).1.live = true → (m = 0 ↔ (tookV s l t floor (n + m)).2 = 0)) ∧
            ((tookV s l t floor n).2 = 0 → ¬ (tookV s l t floor n).1.live = true → (tookV (tookV s l t floor n).1 l t floor m).2 = (tookV s l t floor (n + m)).2 ∧ ((tookV s l t floor (n + m)).2 = 0 → (tookV (tookV s l t floor n).1 l t floor m).1 = (tookV s l t floor (n + m)).1)) := by
          intro x hxo hxl hx hsame hx0 hxP
          rw [hx]
          refine ⟨fun h => absurd rfl h, fun _ h => by rw [hxl] at h; exact Bool.noConfusion h, fun _ _ => ?_⟩
          simp only
          obtain ⟨c1, c2, c3, c4⟩ := (@took_cases x hxo hxl l t floor m hm).2 _ hxP
          rw [List.length_drop] at c1 c2 c3 c4
          by_cases k1 : (P.length : Int) < n + m
          · rw [b1 k1, c1 (by omega)]
            exact ⟨rfl, fun h => absurd h n9⟩
          · by_cases k2 : n + m = (P.length : Int)
            · rw [b2 k2, c2 (by omega)]
              refine ⟨rfl, fun _ => ?_⟩
              cases x; cases s
              simp only at hsame
              obtain ⟨rfl, rfl, rfl⟩ := hsame
              rfl
            · by_cases k3 : m = 0
              · rw [hx0 k3, c3 k3 (by omega)]
                exact ⟨rfl, fun _ => rfl⟩
              · obtain ⟨k, hk⟩ : ∃ k, P[(n + m).toNat - 1]? = some k := ⟨_, List.getElem?_eq_getElem (by omega)⟩
                rw [b4 ((n + m).toNat - 1) k (by omega) (by omega) hk, c4 (m.toNat - 1) k (by omega) (by omega) (by rw [List.getElem?_drop, ← hk]; congr 1; omega)]
                refine ⟨rfl, fun _ => ?_⟩
                cases x; cases s
                simp only at hsame hxl hl
                obtain ⟨rfl, rfl, rfl⟩ := hsame
                rw [hxl, hl]
        by_cases g3 : n = 0
        · subst g3
          exact key s hok hl (a3 rfl (by omega)) ⟨rfl, rfl, rfl⟩ (fun h => by subst h; exact a3 rfl (by omega)) (by simpa using hP)
        · obtain ⟨k, hk⟩ : ∃ k, P[n.toNat - 1]? = some k := ⟨_, List.getElem?_eq_getElem (by omega)⟩
          have hx := a4 (n.toNat - 1) k (by omega) (by omega) hk
          have hkl := hkeys k (List.mem_of_getElem? hk)
          refine key { s with next := k.key ++ [0] } ⟨hok.1, by show (k.key ++ [0]).length ≤ 17; rw [List.length_append]; simp; omega, fun h => by simp only at h; rw [hl] at h; exact Bool.noConfusion h, hok.2.2.2⟩ hl hx ⟨rfl, rfl, rfl⟩ (fun h => by subst h; rw [Int.add_zero]; exact hx) ?_
          rw [left_next hP hk]
          congr 2; omega
  · rw [h1.1 he, h2.1 he]
    exact ⟨fun _ => ⟨he, rfl⟩, fun h => absurd h he, fun h => absurd h he⟩
end Go.Proofs.Ytjhjnphcdpjnbaa
set_option linter.unusedVariables false
set_option linter.unusedSimpArgs false
set_option maxRecDepth 8000
namespace Go.Proofs.Ytjhjnphcdpjnbaa
open Go Go.Proofs Go.Proofs.YtjhjnphcdpjnbaaVm Go.Proofs.Ytjhjnphcdpjnbaa.Ty

theorem sub_one (qs : List PV) (hk : qs.map PV.kd = [.int .i64, .str, .str, .bool, .bool, .str, .int .i64]) : ∃ s : Sub, PV.agg qs = s.pv := by
  match qs, hk with
  | [.int k n, .str a, .str b, .bool c, .bool d, .str e, .int k' m], hk =>
    simp only [List.map_cons, PV.kd, List.cons.injEq, KD.int.injEq] at hk
    obtain ⟨rfl, _, _, _, _, _, rfl, _⟩ := hk
    exact ⟨⟨n, ⟨a, b, c⟩, d, e, m⟩, by simp [Sub.pv]⟩
theorem u8_of {a : Int} (w : (Lit.int .u8 a).wf = true) : 0 ≤ a ∧ a ≤ 255 := by
  simp only [Lit.wf, Bool.and_eq_true, decide_eq_true_eq] at w
  have e1 : IntKind.min .u8 = 0 := by decide
  have e2 : IntKind.max .u8 = 255 := by decide
  rw [e1, e2] at w
  exact w
theorem minI2 (a b : Int) : (if b < a then b else a) = min a b := by simp only [Int.min_def]; split <;> split <;> omega
theorem maxI2 (a b : Int) : (if b > a then b else a) = max a b := by simp only [Int.max_def]; split <;> split <;> omega
end Go.Proofs.Ytjhjnphcdpjnbaa
set_option linter.unusedVariables false
set_option linter.unusedSimpArgs false
set_option maxRecDepth 8000
namespace Go.Proofs.Ytjhjnphcdpjnbaa
open Go Go.Proofs Go.Proofs.YtjhjnphcdpjnbaaVm

theorem poll_bad {s : Sub} {l : List Pair} {t : List Change} {floor : Int} (h : ¬ s.ok ∨ (leftV s l t floor).2 ≠ 0) : ∃ e, e ≠ 0 ∧ ∀ n, 1 ≤ n → pollV s l t floor n = (Chunk.zero, e) := by
  by_cases hok : s.ok
  · have he := h.resolve_left (fun g => g hok)
    refine ⟨_, he, fun n hn => ?_⟩
    unfold pollV
    rw [if_pos ⟨hok, hn⟩, if_neg he]
  · exact ⟨1, by decide, fun n hn => by unfold pollV; rw [if_neg (fun g => hok g.1)]⟩
theorem poll_live {s : Sub} {l : List Pair} {t : List Change} {floor n : Int} (hok : s.ok) (h0 : (leftV s l t floor).2 = 0) (hl : s.live = true) (hn : 1 ≤ n) :
    pollV s l t floor n = (⟨[], (sinceA t s).take (cutM n (sinceA t s).length), decide (cutM n (sinceA t s).length < (sinceA t s).length)⟩, 0) := by
  unfold pollV; rw [if_pos ⟨hok, hn⟩, if_pos h0, if_pos hl]
theorem poll_pairs {s : Sub} {l : List Pair} {t : List Change} {floor n : Int} {P : List Pair} (hok : s.ok) (hP : leftV s l t floor = (P, 0)) (hl : s.live = false) (hn : 1 ≤ n) :
    pollV s l t floor n = (⟨P.take (cutM n P.length), [], decide (cutM n P.length < P.length)⟩, 0) := by
  unfold pollV; rw [if_pos ⟨hok, hn⟩, hP, if_pos rfl, if_neg (by rw [hl]; decide)]
/-- What is told again when what was told was taken. -/
theorem poll_took {s : Sub} (hok : s.ok) (hl : s.live = false) {l : List Pair} {t : List Change} {floor n : Int} (hn : 1 ≤ n) {P : List Pair} (hP : leftV s l t floor = (P, 0)) (hPl : P.length ≤ 1000) :
    ∃ u x y, tookV s l t floor (cutM n P.length : Nat) = (u, 0) ∧ pollV u l t floor 1000 = (x, 0) ∧ pollV s l t floor 1000 = (y, 0) ∧ u.cur = s.cur ∧ (u.live = true ↔ ¬ cutM n P.length < P.length) ∧
      (¬ u.live = true → P.take (cutM n P.length) ++ x.ps = y.ps) ∧ y.ps.length ≤ P.length ∧ x.ps.length ≤ P.length := by
  have hy := @poll_pairs s l t floor 1000 P hok hP hl (by decide)
  have hc1 : cutM 1000 P.length = P.length := by unfold cutM; simp; omega
  rw [hc1, List.take_length] at hy
  obtain ⟨a1, a2, a3, a4⟩ := (@took_cases s hok hl l t floor ((cutM n P.length : Nat) : Int) (by omega)).2 P hP
  by_cases hlt : cutM n P.length < P.length
  · have hpos : 0 < cutM n P.length := by unfold cutM at *; omega
    obtain ⟨j, hj⟩ : ∃ j, cutM n P.length = j + 1 := ⟨cutM n P.length - 1, by omega⟩
    rw [hj] at a4 hlt ⊢
    obtain ⟨k, hk⟩ : ∃ k, P[j]? = some k := ⟨_, List.getElem?_eq_getElem (by omega)⟩
    have hu := a4 j k rfl hlt hk
    have hkeys := @leftV_keys s l t floor
    rw [hP] at hkeys
    have hkl := hkeys k (List.mem_of_getElem? hk)
    have hok2 : Sub.ok { s with next := k.key ++ [0] } := ⟨hok.1, by show (k.key ++ [0]).length ≤ 17; rw [List.length_append]; simp; omega, fun h => by simp only at h; rw [hl] at h; exact Bool.noConfusion h, hok.2.2.2⟩
    have hx := @poll_pairs { s with next := k.key ++ [0] } l t floor 1000 _ hok2 (left_next hP hk) hl (by decide)
    have hc2 : cutM 1000 (P.drop (j + 1)).length = (P.drop (j + 1)).length := by unfold cutM; rw [List.length_drop]; simp; omega
    rw [hc2, List.take_length] at hx
    refine ⟨_, _, _, hu, hx, hy, rfl, ⟨fun h => by simp only at h; rw [hl] at h; exact Bool.noConfusion h, fun h => absurd hlt h⟩, fun _ => List.take_append_drop _ _, Nat.le_refl _, by simp⟩
  · have hle : cutM n P.length = P.length := by unfold cutM at *; omega
    have hu := a2 (by rw [hle])
    have hok2 : Sub.ok { s with live := true, next := [] } := ⟨hok.1, by simp, fun _ => rfl, hok.2.2.2⟩
    have h0 : (leftV { s with live := true, next := [] } l t floor).2 = 0 := by
      have : (leftV s l t floor).2 = 0 := by rw [hP]
      unfold leftV at this ⊢
      simp only
      by_cases g : (atV l t floor s.cur).2 = 0
      · rw [if_pos g]
      · rw [if_neg g] at this; exact absurd this g
    have hx := @poll_live { s with live := true, next := [] } l t floor 1000 hok2 h0 rfl (by decide)
    exact ⟨_, _, _, hu, hx, hy, rfl, ⟨fun _ => hlt, fun _ => rfl⟩, fun h => absurd rfl h, Nat.le_refl _, by simp⟩
end Go.Proofs.Ytjhjnphcdpjnbaa
set_option linter.unusedVariables false
set_option linter.unusedSimpArgs false
set_option maxRecDepth 8000
namespace Go.Proofs.Ytjhjnphcdpjnbaa
open Go Go.Proofs Go.Proofs.YtjhjnphcdpjnbaaVm Go.Proofs.Ytjhjnphcdpjnbaa.Ty

set_option maxHeartbeats 8000000 in
theorem ref19_Replay (l : List Pair) (ch : List Chunk) (hl : l.length ≤ 1000) (hn : ch.length ≤ 90) (hs : ∀ c ∈ ch, c.slim) :
    Ct Try.prog 21 (YtjhjnphcdpjnbaaVm.ops [.row (l.map Pair.pv), .row (ch.map Chunk.pv)]) (.vals [.row ((replayV l ch).1.map Pair.pv), .bool (decide ((replayV l ch).2 = 0))]) := by
  obtain ⟨RP, re, hR⟩ : ∃ p e, replayV l ch = (p, e) := ⟨_, _, rfl⟩
  rw [hR]
  unfold replayV at hR
  simp only
  refine Ct.of_V Try.func21 rfl (by simp [YtjhjnphcdpjnbaaVm.ops, Try.f21]) ?_
  refine V.exec 400 ?_
  simp (config := {contextual := true}) only [go_sem, ↓reduceIte, reduceCtorEq, Bool.false_eq_true, Bool.true_eq_false, Nat.reduceAdd, Nat.reduceLT, Nat.reduceEqDiff, Nat.reduceLeDiff, Nat.reduceSub, Nat.reduceMul, Try.f21]
  refine V.loop (fun m ls os => ∃ (i : Nat) (out : List Pair), i ≤ ch.length ∧ m = ch.length - i ∧ out.length ≤ 1000 + 2000 * i ∧ replayGo l out (ch.drop i) = (RP, re) ∧
        ls = [(0, .val (.row (l.map Pair.pv))), (1, .val (.row (ch.map Chunk.pv))), (6, .val (.row (out.map Pair.pv))), (7, .val (.int .i64 i))] ∧ os = []) 0 ch.length
      [(0, .val (.row (l.map Pair.pv))), (1, .val (.row (ch.map Chunk.pv))), (6, .val (.row (l.map Pair.pv))), (7, .val (.int .i64 0))] [] []
      ⟨0, l, Nat.zero_le _, rfl, by omega, hR, rfl, rfl⟩ (by simp only [go_sem, ↓reduceIte, reduceCtorEq, Bool.false_eq_true, Bool.true_eq_false, Nat.reduceAdd, Nat.reduceLT, Nat.reduceEqDiff, Nat.reduceLeDiff, Nat.reduceSub, Nat.reduceMul]) ?_
  rintro m ls os ⟨i, out, hi, rfl, hol, hgo, rfl, rfl⟩
  refine V.exec 400 ?_
  by_cases hlt : i < ch.length
  · have hlt' : (i : Int) < (ch.length : Int) := by omega
    obtain ⟨c, hx⟩ : ∃ x, ch[i]? = some x := ⟨_, List.getElem?_eq_getElem hlt⟩
    have hsl := hs c (List.mem_of_getElem? hx)
    have hw : IntKind.i64.wrap ((i : Int) + 1) = ((i + 1 : Nat) : Int) := by rw [wrap_small3] <;> omega
    rw [drop_of_get hx, replayGo] at hgo
    have hsl1 := hsl.1
    have hsl2 := hsl.2
    have ha := ref10_Apply out (c.ps.map noteP) (by omega) (by simp; omega)
    have hal := applyV_len out (c.ps.map noteP)
    rw [List.length_map] at hal
    obtain ⟨q, e1, hq⟩ : ∃ p e, applyV out (c.ps.map noteP) = (p, e) := ⟨_, _, rfl⟩
    rw [hq] at ha hal hgo
    simp only at ha hal hgo
    have hd := ref15_Do q c.cs (by omega) (by omega)
    have hdl := doV_len q c.cs
    obtain ⟨q2, e2, hq2⟩ : ∃ p e, doV q c.cs = (p, e) := ⟨_, _, rfl⟩
    rw [hq2] at hd hdl hgo
    simp only at hd hdl hgo
    simp (config := {contextual := true}) only [go_sem, ↓reduceIte, reduceCtorEq, Bool.false_eq_true, Bool.true_eq_false, Nat.reduceAdd, Nat.reduceLT, Nat.reduceEqDiff, Nat.reduceLeDiff, Nat.reduceSub, Nat.reduceMul, hlt', hx, Chunk.pv]
    refine V.loop (fun m ls os => ∃ (j : Nat), j ≤ c.ps.length ∧ m = c.ps.length - j ∧
        ls = [(0, .val (.row (l.map Pair.pv))), (1, .val (.row (ch.map Chunk.pv))), (6, .val (.row (out.map Pair.pv))), (7, .val (.int .i64 i)), (8, .ref 0), (9, .val (.int .i64 j))] ∧ os = [.row 64 (((c.ps.take j).map noteP).map Note.pv)]) 1 c.ps.length
      [(0, .val (.row (l.map Pair.pv))), (1, .val (.row (ch.map Chunk.pv))), (6, .val (.row (out.map Pair.pv))), (7, .val (.int .i64 i)), (8, .ref 0), (9, .val (.int .i64 0))] [.row 64 []] [none]
      ⟨0, Nat.zero_le _, rfl, rfl, rfl⟩ (by simp only [go_sem, ↓reduceIte, reduceCtorEq, Bool.false_eq_true, Bool.true_eq_false, Nat.reduceAdd, Nat.reduceLT, Nat.reduceEqDiff, Nat.reduceLeDiff, Nat.reduceSub, Nat.reduceMul, Chunk.pv]; try decide) ?_
    rintro m ls os ⟨j, hj, rfl, rfl, rfl⟩
    refine V.exec 400 ?_
    by_cases hjt : j < c.ps.length
    · have hjt' : (j : Int) < (c.ps.length : Int) := by omega
      obtain ⟨x, hy⟩ : ∃ x, c.ps[j]? = some x := ⟨_, List.getElem?_eq_getElem hjt⟩
      have hw2 : IntKind.i64.wrap ((j : Int) + 1) = ((j + 1 : Nat) : Int) := by rw [wrap_small3] <;> omega
      have hts : (c.ps.take (j + 1)).map noteP = (c.ps.take j).map noteP ++ [noteP x] := by rw [List.take_add_one, hy, List.map_append]; rfl
      have htl : ((c.ps.take j).map noteP).length ≤ 1000 := by rw [List.length_map, List.length_take]; omega
      generalize (c.ps.take j).map noteP = N at *
      simp (config := {contextual := true}) only [go_sem, ↓reduceIte, reduceCtorEq, Bool.false_eq_true, Bool.true_eq_false, Nat.reduceAdd, Nat.reduceLT, Nat.reduceEqDiff, Nat.reduceLeDiff, Nat.reduceSub, Nat.reduceMul, hlt', hx, Chunk.pv, hjt', hy, Pair.pv, hw2]
      refine ⟨⟨by omega, by omega⟩, by kernel_rfl, c.ps.length - (j + 1), _, _, [some 30], by omega, ⟨j + 1, by omega, rfl, rfl, rfl⟩, ?_⟩
      simp only [go_sem, ↓reduceIte, reduceCtorEq, Bool.false_eq_true, Bool.true_eq_false, Nat.reduceAdd, Nat.reduceLT, Nat.reduceEqDiff, Nat.reduceLeDiff, Nat.reduceSub, Nat.reduceMul, hts, List.map_append, List.map_cons, List.map_nil, Note.pv, noteP]
      try decide
    · have hjt' : ¬ (j : Int) < (c.ps.length : Int) := by omega
      rw [List.take_of_length_le (by omega)]
      simp (config := {contextual := true}) only [go_sem, ↓reduceIte, reduceCtorEq, Bool.false_eq_true, Bool.true_eq_false, Nat.reduceAdd, Nat.reduceLT, Nat.reduceEqDiff, Nat.reduceLeDiff, Nat.reduceSub, Nat.reduceMul, hlt', hx, Chunk.pv, hjt']
      refine V.call rfl rfl (by simp [dOK]) ⟨34, [], by simp only [go_sem, ↓reduceIte, reduceCtorEq, Bool.false_eq_true, Bool.true_eq_false, Nat.reduceAdd, Nat.reduceLT, Nat.reduceEqDiff, Nat.reduceLeDiff, Nat.reduceSub, Nat.reduceMul], ⟨_, rfl, rfl, rfl⟩, .inl ⟨[.row (out.map Pair.pv), .row ((c.ps.map noteP).map Note.pv)], _, .inl (by simp only [go_sem, ↓reduceIte, reduceCtorEq, Bool.false_eq_true, Bool.true_eq_false, Nat.reduceAdd, Nat.reduceLT, Nat.reduceEqDiff, Nat.reduceLeDiff, Nat.reduceSub, Nat.reduceMul]), ha, .inr (.inl ⟨_, rfl, rfl, rfl⟩)⟩⟩ ?_
      refine V.exec 400 ?_
      simp (config := {contextual := true}) only [go_sem, ↓reduceIte, reduceCtorEq, Bool.false_eq_true, Bool.true_eq_false, Nat.reduceAdd, Nat.reduceLT, Nat.reduceEqDiff, Nat.reduceLeDiff, Nat.reduceSub, Nat.reduceMul, hlt', hx, Chunk.pv]
      refine V.call rfl rfl (by simp [dOK]) ⟨35, [], by simp only [go_sem, ↓reduceIte, reduceCtorEq, Bool.false_eq_true, Bool.true_eq_false, Nat.reduceAdd, Nat.reduceLT, Nat.reduceEqDiff, Nat.reduceLeDiff, Nat.reduceSub, Nat.reduceMul], ⟨_, rfl, rfl, rfl⟩, .inl ⟨[.row (q.map Pair.pv), .row (c.cs.map Change.pv)], _, .inl (by simp only [go_sem, ↓reduceIte, reduceCtorEq, Bool.false_eq_true, Bool.true_eq_false, Nat.reduceAdd, Nat.reduceLT, Nat.reduceEqDiff, Nat.reduceLeDiff, Nat.reduceSub, Nat.reduceMul]), hd, .inr (.inl ⟨_, rfl, rfl, rfl⟩)⟩⟩ ?_
      refine V.exec 400 ?_
      by_cases he1 : e1 = 0
      · rw [if_pos he1] at hgo
        by_cases he2 : e2 = 0
        · rw [if_pos he2] at hgo
          simp (config := {contextual := true}) only [go_sem, ↓reduceIte, reduceCtorEq, Bool.false_eq_true, Bool.true_eq_false, Nat.reduceAdd, Nat.reduceLT, Nat.reduceEqDiff, Nat.reduceLeDiff, Nat.reduceSub, Nat.reduceMul, he1, he2, hw, decide_true]
          exact ⟨ch.length - (i + 1), _, [], [], by omega, ⟨i + 1, q2, by omega, rfl, by omega, hgo, rfl, rfl⟩, by simp only [go_sem, ↓reduceIte, reduceCtorEq, Bool.false_eq_true, Bool.true_eq_false, Nat.reduceAdd, Nat.reduceLT, Nat.reduceEqDiff, Nat.reduceLeDiff, Nat.reduceSub, Nat.reduceMul]⟩
        · rw [if_neg he2, Prod.mk.injEq] at hgo
          obtain ⟨rfl, rfl⟩ := hgo
          simp (config := {contextual := true}) only [go_sem, ↓reduceIte, reduceCtorEq, Bool.false_eq_true, Bool.true_eq_false, Nat.reduceAdd, Nat.reduceLT, Nat.reduceEqDiff, Nat.reduceLeDiff, Nat.reduceSub, Nat.reduceMul, he1, he2, decide_false]
      · rw [if_neg he1, Prod.mk.injEq] at hgo
        obtain ⟨rfl, rfl⟩ := hgo
        simp (config := {contextual := true}) only [go_sem, ↓reduceIte, reduceCtorEq, Bool.false_eq_true, Bool.true_eq_false, Nat.reduceAdd, Nat.reduceLT, Nat.reduceEqDiff, Nat.reduceLeDiff, Nat.reduceSub, Nat.reduceMul, he1, decide_false]
  · have hlt' : ¬ (i : Int) < (ch.length : Int) := by omega
    have hd : ch.drop i = [] := List.drop_eq_nil_of_le (by omega)
    rw [hd, replayGo, Prod.mk.injEq] at hgo
    obtain ⟨rfl, rfl⟩ := hgo
    simp (config := {contextual := true}) only [go_sem, ↓reduceIte, reduceCtorEq, Bool.false_eq_true, Bool.true_eq_false, Nat.reduceAdd, Nat.reduceLT, Nat.reduceEqDiff, Nat.reduceLeDiff, Nat.reduceSub, Nat.reduceMul, hlt', decide_true]
end Go.Proofs.Ytjhjnphcdpjnbaa
set_option linter.unusedVariables false
set_option linter.unusedSimpArgs false
set_option maxRecDepth 8000
namespace Go.Proofs.YtjhjnphcdpjnbaaVm
open Go Go.Proofs
/-- A row of structs of one kind. -/
def RowOf (ks : List KD) (xs : List PV) : Prop := xs.length ≤ maxLen ∧ ∀ x ∈ xs, ∃ qs, x = .agg qs ∧ qs.map PV.kd = ks ∧ ∀ q ∈ qs, q.wfv
theorem PTy.rowOf {P : Program} {d d' : Nat} {t e : TypeId} {ps : List PV} {ks : List KD} (h : PTy P (d + 1) t ps) (hs : P.underlying t = some (.slice e)) (hk : eqK P d' e = some ks) (hag : aggOf P e = some true) : ∃ xs, ps = [.row xs] ∧ RowOf ks xs := by
  unfold PTy at h
  simp only [hs] at h
  obtain ⟨ys, hc, hyl, hy⟩ := h
  refine ⟨ys, hc, hyl, fun y hym => ?_⟩
  obtain ⟨k1, k2⟩ := hy y hym
  rw [hag] at k2
  obtain ⟨m1, m2⟩ := PTy.kinds d e _ k1 d' ks hk
  cases y with
  | agg qs => exact ⟨qs, rfl, m1, m2⟩
  | _ => cases k2
def packC (x : List PV × List PV × Bool) : PV := .agg [.row x.1, .row x.2.1, .bool x.2.2]
theorem Opens.packs {P : Program} {w : World} {d : Nat} {t s e1 e2 : TypeId} {cs : List Value} {ks1 ks2 : List KD} {d' : Nat} {fs : Array Field} {f1 f2 f3 : Field} (h : Opens P w (d + 3) t cs) (hu : P.underlying t = some (.slice s)) (hs : P.underlying s = some (.struct fs)) (hfs : fs.toList = [f1, f2, f3]) (has : aggOf P s = some true)
    (u1 : P.underlying f1.type = some (.slice e1)) (u2 : P.underlying f2.type = some (.slice e2)) (u3 : P.underlying f3.type = some .bool) (c1 : P.cellsOf f1.type = 1) (c2 : P.cellsOf f2.type = 1) (c3 : P.cellsOf f3.type = 1)
    (hk1 : eqK P d' e1 = some ks1) (hg1 : aggOf P e1 = some true) (hk2 : eqK P d' e2 = some ks2) (hg2 : aggOf P e2 = some true) :
    ∃ xs : List (List PV × List PV × Bool), Reps w (Fw w) [.row (xs.map packC)] cs ∧ xs.length ≤ maxLen ∧ ∀ x ∈ xs, RowOf ks1 x.1 ∧ RowOf ks2 x.2.1 := by
  obtain ⟨ps, h1, h2, h3, h4⟩ := h
  unfold PTy at h2
  simp only [hu] at h2
  obtain ⟨xs, rfl, hl, hx⟩ := h2
  have key : ∀ xs : List PV, (∀ x ∈ xs, ∃ y, x = packC y ∧ RowOf ks1 y.1 ∧ RowOf ks2 y.2.1) → ∃ ys : List (List PV × List PV × Bool), xs = ys.map packC ∧ ∀ y ∈ ys, RowOf ks1 y.1 ∧ RowOf ks2 y.2.1 := by
    intro xs
    induction xs with
    | nil => intro _; exact ⟨[], rfl, by simp⟩
    | cons x r ih =>
      intro h
      obtain ⟨t, rfl, ht⟩ := ih fun y hy => h y (List.mem_cons_of_mem _ hy)
      obtain ⟨y, rfl, hy⟩ := h x List.mem_cons_self
      refine ⟨y :: t, rfl, fun z hz => ?_⟩
      rcases List.mem_cons.1 hz with rfl | hz
      · exact hy
      · exact ht z hz
  obtain ⟨ys, rfl, hys⟩ := key xs fun x hxm => by
    obtain ⟨g1, g2⟩ := hx x hxm
    rw [has] at g2
    cases x with
    | agg qs =>
      unfold PTy at g1
      simp only [hs, hfs, PFs, c1, c2, c3, PV.cells] at g1
      obtain ⟨k1, k2, k3, k4⟩ := g1
      obtain ⟨a, ha, ha'⟩ := PTy.rowOf k1 u1 hk1 hg1
      obtain ⟨b, hb, hb'⟩ := PTy.rowOf k2 u2 hk2 hg2
      unfold PTy at k3
      simp only [u3] at k3
      obtain ⟨m, hm⟩ := k3
      match qs, ha, hb, hm, k4 with
      | [p1, p2, p3], ha, hb, hm, k4 =>
        simp at ha hb hm
        subst ha hb hm
        exact ⟨(a, b, m), rfl, ha', hb'⟩
    | _ => cases g2
  exact ⟨ys, h1, by simpa using hl, hys⟩
end Go.Proofs.YtjhjnphcdpjnbaaVm
