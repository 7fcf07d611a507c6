/- A part of a proof: functions of the program, walked. -/
import Derived.Test.YtnhkknaplkjigaaGH
set_option linter.unusedVariables false
set_option linter.unusedSimpArgs false
namespace Go.Proofs.Ytnhkknaplkjigaa
open Go Go.Proofs Go.Proofs.YtnhkknaplkjigaaVm Go.Proofs.Ytnhkknaplkjigaa.Ty

set_option maxRecDepth 10000 in
set_option maxHeartbeats 16000000 in
theorem law_PagesP (l : List Pair) (t : List Change) (seq most : Int) (r : Range) (hl : l.length ≤ maxLen) (ht : t.length ≤ maxLen) (hm0 : 0 ≤ most) (hm1 : most ≤ 255) :
    Ct Try.prog 4 (YtnhkknaplkjigaaVm.ops [.row (l.map Pair.pv), .row (t.map Change.pv), .int .i64 seq, .int .u8 most, r.pv]) (.vals [.bool true]) := by
  have aw := law18_awake
  simp only [maxLen] at hl ht
  refine Ct.of_V Try.func4 rfl (by simp [YtnhkknaplkjigaaVm.ops, Try.f4]) ?_
  refine V.exec 400 ?_
  simp (config := {contextual := true}) only [go_sem, ↓reduceIte, reduceCtorEq, Bool.false_eq_true, Bool.true_eq_false, Nat.reduceAdd, Nat.reduceLT, Nat.reduceEqDiff, Nat.reduceLeDiff, Nat.reduceSub, Nat.reduceMul, Try.f4, Range.pv]
  refine V.call rfl rfl (by simp [dOK]) ⟨8, [], by simp only [go_sem, ↓reduceIte, reduceCtorEq, Bool.false_eq_true, Bool.true_eq_false, Nat.reduceAdd, Nat.reduceLT, Nat.reduceEqDiff, Nat.reduceLeDiff, Nat.reduceSub, Nat.reduceMul], ⟨_, rfl, rfl, rfl⟩, .inl ⟨[.row (l.map Pair.pv), .row (t.map Change.pv)], _, .inl (by simp only [go_sem, ↓reduceIte, reduceCtorEq, Bool.false_eq_true, Bool.true_eq_false, Nat.reduceAdd, Nat.reduceLT, Nat.reduceEqDiff, Nat.reduceLeDiff, Nat.reduceSub, Nat.reduceMul]), law18_small l t (by omega) (by omega), .inl ⟨_, rfl, rfl, rfl, rfl⟩⟩⟩ ?_
  refine V.exec 400 ?_
  by_cases h1 : smallPC l t
  · have hl60 := h1.1
    have ht60 := h1.2.1
    by_cases h2 : r.lo.length ≤ 300
    · have h2' : ¬ (300 : Int) < (r.lo.length : Int) := by omega
      by_cases h3 : r.hi.length ≤ 300
      · have h3' : ¬ (300 : Int) < (r.hi.length : Int) := by omega
        have hm2 : 0 ≤ most.tmod 9 := Int.tmod_nonneg 9 hm0
        have hm3 : most.tmod 9 < 9 := Int.tmod_lt_of_pos most (by decide)
        obtain ⟨n, hn⟩ : ∃ n : Nat, (n : Int) = 1 + most.tmod 9 := ⟨(1 + most.tmod 9).toNat, by omega⟩
        have hwa : IntKind.i64.wrap (most.tmod 9) = most.tmod 9 := by rw [wrap_small3] <;> omega
        have hwb : IntKind.i64.wrap (1 + most.tmod 9) = (n : Int) := by rw [wrap_small3] <;> omega
        have h90 : ¬ (9 : Int) = 0 := by decide
        have d1 := past_Pages l t seq seq 1000 r (by omega) (by omega)
        have dn : ∀ r', _ := fun r' => past_Pages l t seq seq n r' (by omega) (by omega)
        have hal := atV_len l t seq seq
        have hf := atV_facts l t seq seq
        have hpv : ∀ m r', pageV l t seq seq m r' = if (atV l t seq seq).2 = 0 then ((pickV r' (atV l t seq seq).1).take (cutN m (pickV r' (atV l t seq seq).1).length), decide (cutN m (pickV r' (atV l t seq seq).1).length < (pickV r' (atV l t seq seq).1).length), 0) else ([], false, (atV l t seq seq).2) := fun m r' => rfl
        obtain ⟨p, e, hp⟩ : ∃ p e, atV l t seq seq = (p, e) := ⟨_, _, rfl⟩
        simp only [hpv, hp] at d1 dn hal hf
        simp (config := {contextual := true}) only [go_sem, ↓reduceIte, reduceCtorEq, Bool.false_eq_true, Bool.true_eq_false, Nat.reduceAdd, Nat.reduceLT, Nat.reduceEqDiff, Nat.reduceLeDiff, Nat.reduceSub, Nat.reduceMul, h1, h2', h3', hwa, hwb]
        refine ⟨h90, ?_⟩
        refine V.call rfl rfl (by simp [dOK]) ⟨13, [], by simp only [go_sem, ↓reduceIte, reduceCtorEq, Bool.false_eq_true, Bool.true_eq_false, Nat.reduceAdd, Nat.reduceLT, Nat.reduceEqDiff, Nat.reduceLeDiff, Nat.reduceSub, Nat.reduceMul], ⟨_, rfl, rfl, rfl⟩, .inl ⟨[.row (l.map Pair.pv), .row (t.map Change.pv), .int .i64 seq, .int .i64 seq, .int .i64 1000, r.pv], _, .inl (by simp only [go_sem, ↓reduceIte, reduceCtorEq, Bool.false_eq_true, Bool.true_eq_false, Nat.reduceAdd, Nat.reduceLT, Nat.reduceEqDiff, Nat.reduceLeDiff, Nat.reduceSub, Nat.reduceMul, Range.pv]), d1, .inr (.inl ⟨_, rfl, rfl, rfl⟩)⟩⟩ ?_
        refine V.exec 400 ?_
        by_cases he : e = 0
        · subst he
          rcases hf with ⟨_, hpo, _⟩ | ⟨_, h⟩
          · have hsp := ((pairsOk_iff p).1 hpo).1
            have hPl := pickV_len r p
            generalize hP : pickV r p = P at *
            have hc1 : cutN 1000 P.length = P.length := by unfold cutN; omega
            have hc2 : P.take P.length = P := List.take_length
            simp only [↓reduceIte] at dn
            obtain ⟨N, hN⟩ : ∃ N : Nat, N = l.length + t.length + 1 := ⟨_, rfl⟩
            have hwN : IntKind.i64.wrap ((l.length : Int) + (t.length : Int)) = (l.length : Int) + (t.length : Int) := by rw [wrap_small3] <;> omega
            have hwN2 : IntKind.i64.wrap ((l.length : Int) + (t.length : Int) + 1) = (N : Int) := by rw [wrap_small3] <;> omega
            simp (config := {contextual := true}) only [go_sem, ↓reduceIte, reduceCtorEq, Bool.false_eq_true, Bool.true_eq_false, Nat.reduceAdd, Nat.reduceLT, Nat.reduceEqDiff, Nat.reduceLeDiff, Nat.reduceSub, Nat.reduceMul, hc1, hc2, hwN, hwN2, Nat.lt_irrefl, decide_true, decide_false]
            refine V.loop (fun m ls os => ∃ (i k : Nat) (lo : List UInt8), i ≤ k ∧ m = N - i ∧ (k < P.length ∨ k = 0) ∧ pickV ⟨lo, r.hi, r.op⟩ p = P.drop k ∧
                ls = [(0, .val (.row (l.map Pair.pv))), (1, .val (.row (t.map Change.pv))), (2, .val (.int .i64 seq)), (9, .adr 0 0), (11, .val (.int .i64 n)), (12, .val (.row (P.map Pair.pv))), (13, .val (.bool false)), (15, .ref 1), (16, .adr 2 0), (17, .val (.bool true)), (68, .val (.int .i64 N)), (69, .val (.int .i64 i))] ∧ os = [.box true [.val (.str r.lo), .val (.str r.hi), .val (.bool (decide (r.op = true)))], .row 41 ((P.take k).map Pair.pv), .box true [.val (.str lo), .val (.str r.hi), .val (.bool (decide (r.op = true)))]]) 3 N
              [(0, .val (.row (l.map Pair.pv))), (1, .val (.row (t.map Change.pv))), (2, .val (.int .i64 seq)), (9, .adr 0 0), (11, .val (.int .i64 n)), (12, .val (.row (P.map Pair.pv))), (13, .val (.bool false)), (15, .ref 1), (16, .adr 2 0), (17, .val (.bool true)), (68, .val (.int .i64 N)), (69, .val (.int .i64 0))] [.box true [.val (.str r.lo), .val (.str r.hi), .val (.bool (decide (r.op = true)))], .row 41 [], .box true [.val (.str r.lo), .val (.str r.hi), .val (.bool (decide (r.op = true)))]] [some 5, none, some 45]
              ⟨0, 0, r.lo, Nat.le_refl _, rfl, .inr rfl, hP, rfl, rfl⟩ (by simp only [go_sem, ↓reduceIte, reduceCtorEq, Bool.false_eq_true, Bool.true_eq_false, Nat.reduceAdd, Nat.reduceLT, Nat.reduceEqDiff, Nat.reduceLeDiff, Nat.reduceSub, Nat.reduceMul]; try decide) ?_
            rintro m ls os ⟨i, k, lo, hik, rfl, hk, hpk, rfl, rfl⟩
            have hiN : (i : Int) < (N : Int) := by omega
            have hdk := dn ⟨lo, r.hi, r.op⟩
            rw [hpk] at hdk
            have hkl : k ≤ P.length := by omega
            have hdl : (P.drop k).length = P.length - k := List.length_drop
            by_cases hmore : n < (P.drop k).length
            · have hcut : cutN n (P.drop k).length = n := by unfold cutN; omega
              have hpl : ((P.drop k).take n).length = n := by rw [List.length_take]; omega
              obtain ⟨x, hx⟩ : ∃ x, P[k + (n - 1)]? = some x := ⟨_, List.getElem?_eq_getElem (by omega)⟩
              have hpx : ((P.drop k).take n)[n - 1]? = some x := by rw [List.getElem?_take_of_lt (by omega), List.getElem?_drop, hx]
              have htk : P.take (k + n) = P.take k ++ (P.drop k).take n := List.take_add
              have hpk2 : pickV ⟨x.key ++ [0], r.hi, r.op⟩ p = P.drop (k + n) := by
                rw [pick_behind hsp r (j := k + (n - 1)) (by rw [hP]; exact hx), hP]
                congr 1; omega
              have htl : (P.take k).length = k := by rw [List.length_take]; omega
              rw [hcut, decide_eq_true hmore] at hdk
              have hw1 : IntKind.i64.wrap ((n : Int) - 1) = ((n - 1 : Nat) : Int) := by rw [wrap_small3] <;> omega
              have hw2 : IntKind.i64.wrap ((i : Int) + 1) = ((i + 1 : Nat) : Int) := by rw [wrap_small3] <;> omega
              have hlt1 : ((n - 1 : Nat) : Int) < (n : Int) := by omega
              have hnn : ¬ (n : Int) < (n : Int) := by omega
              generalize hG : (P.drop k).take n = G at *
              generalize hT : P.take k = T at *
              refine V.exec 400 ?_
              simp (config := {contextual := true}) only [go_sem, ↓reduceIte, reduceCtorEq, Bool.false_eq_true, Bool.true_eq_false, Nat.reduceAdd, Nat.reduceLT, Nat.reduceEqDiff, Nat.reduceLeDiff, Nat.reduceSub, Nat.reduceMul, hiN]
              refine V.call rfl rfl (by simp [dOK]) ⟨13, [], by simp only [go_sem, ↓reduceIte, reduceCtorEq, Bool.false_eq_true, Bool.true_eq_false, Nat.reduceAdd, Nat.reduceLT, Nat.reduceEqDiff, Nat.reduceLeDiff, Nat.reduceSub, Nat.reduceMul], ⟨_, rfl, rfl, rfl⟩, .inl ⟨[.row (l.map Pair.pv), .row (t.map Change.pv), .int .i64 seq, .int .i64 seq, .int .i64 n, Range.pv ⟨lo, r.hi, r.op⟩], _, .inl (by simp only [go_sem, ↓reduceIte, reduceCtorEq, Bool.false_eq_true, Bool.true_eq_false, Nat.reduceAdd, Nat.reduceLT, Nat.reduceEqDiff, Nat.reduceLeDiff, Nat.reduceSub, Nat.reduceMul, Range.pv]), hdk, .inr (.inl ⟨_, rfl, rfl, rfl⟩)⟩⟩ ?_
              refine V.exec 400 ?_
              have hxs : x.key.length ≤ 16 := by
                have hxm : x ∈ pickV r p := by rw [hP]; exact List.mem_of_getElem? hx
                exact (short_of p none hpo x (List.mem_filter.1 hxm).1).1
              simp (config := {contextual := true}) only [go_sem, ↓reduceIte, reduceCtorEq, Bool.false_eq_true, Bool.true_eq_false, Nat.reduceAdd, Nat.reduceLT, Nat.reduceEqDiff, Nat.reduceLeDiff, Nat.reduceSub, Nat.reduceMul, hpl, hnn, hw1, hw2, hlt1, hpx, Pair.pv, decide_true, decide_false]
              refine ⟨⟨by omega, by omega⟩, by omega, by kernel_rfl, N - (i + 1), _, _, [some 0, some 38, some 2], by omega, ⟨i + 1, k + n, _, by omega, rfl, .inl (by omega), hpk2, rfl, rfl⟩, ?_⟩
              simp only [go_sem, ↓reduceIte, reduceCtorEq, Bool.false_eq_true, Bool.true_eq_false, Nat.reduceAdd, Nat.reduceLT, Nat.reduceEqDiff, Nat.reduceLeDiff, Nat.reduceSub, Nat.reduceMul, htk, List.map_append]
              try decide
            · have hcut : cutN n (P.drop k).length = (P.drop k).length := by unfold cutN; omega
              have hpl : ¬ (n : Int) < ((P.drop k).length : Int) := by omega
              have hall : P.take k ++ P.drop k = P := List.take_append_drop k P
              have htl : (P.take k).length = k := by rw [List.length_take]; omega
              rw [hcut, List.take_length] at hdk
              simp only [Nat.lt_irrefl, decide_false, Bool.false_eq_true] at hdk
              generalize hG : P.drop k = G at *
              generalize hT : P.take k = T at *
              refine V.exec 400 ?_
              simp (config := {contextual := true}) only [go_sem, ↓reduceIte, reduceCtorEq, Bool.false_eq_true, Bool.true_eq_false, Nat.reduceAdd, Nat.reduceLT, Nat.reduceEqDiff, Nat.reduceLeDiff, Nat.reduceSub, Nat.reduceMul, hiN]
              refine V.call rfl rfl (by simp [dOK]) ⟨13, [], by simp only [go_sem, ↓reduceIte, reduceCtorEq, Bool.false_eq_true, Bool.true_eq_false, Nat.reduceAdd, Nat.reduceLT, Nat.reduceEqDiff, Nat.reduceLeDiff, Nat.reduceSub, Nat.reduceMul], ⟨_, rfl, rfl, rfl⟩, .inl ⟨[.row (l.map Pair.pv), .row (t.map Change.pv), .int .i64 seq, .int .i64 seq, .int .i64 n, Range.pv ⟨lo, r.hi, r.op⟩], _, .inl (by simp only [go_sem, ↓reduceIte, reduceCtorEq, Bool.false_eq_true, Bool.true_eq_false, Nat.reduceAdd, Nat.reduceLT, Nat.reduceEqDiff, Nat.reduceLeDiff, Nat.reduceSub, Nat.reduceMul, Range.pv]), hdk, .inr (.inl ⟨_, rfl, rfl, rfl⟩)⟩⟩ ?_
              refine V.exec 400 ?_
              simp (config := {contextual := true}) only [go_sem, ↓reduceIte, reduceCtorEq, Bool.false_eq_true, Bool.true_eq_false, Nat.reduceAdd, Nat.reduceLT, Nat.reduceEqDiff, Nat.reduceLeDiff, Nat.reduceSub, Nat.reduceMul, hpl, decide_true, decide_false]
              refine ⟨fun _ _ => rfl, ⟨by omega, by omega⟩, ?_⟩
              refine V.call rfl rfl (by simp [dOK]) ⟨16, [], by simp only [go_sem, ↓reduceIte, reduceCtorEq, Bool.false_eq_true, Bool.true_eq_false, Nat.reduceAdd, Nat.reduceLT, Nat.reduceEqDiff, Nat.reduceLeDiff, Nat.reduceSub, Nat.reduceMul], ⟨_, rfl, rfl, rfl⟩, .inl ⟨[.row ((T ++ G).map Pair.pv), .row (P.map Pair.pv)], _, .inl (by simp only [go_sem, ↓reduceIte, reduceCtorEq, Bool.false_eq_true, Bool.true_eq_false, Nat.reduceAdd, Nat.reduceLT, Nat.reduceEqDiff, Nat.reduceLeDiff, Nat.reduceSub, Nat.reduceMul, List.map_append]), ref03_Same (T ++ G) P (by omega), .inl ⟨_, rfl, rfl, rfl, rfl⟩⟩⟩ ?_
              refine V.exec 400 ?_
              simp (config := {contextual := true}) only [go_sem, ↓reduceIte, reduceCtorEq, Bool.false_eq_true, Bool.true_eq_false, Nat.reduceAdd, Nat.reduceLT, Nat.reduceEqDiff, Nat.reduceLeDiff, Nat.reduceSub, Nat.reduceMul, hall, decide_true]
              refine V.call rfl rfl (by simp [dOK]) ⟨9, [], by simp only [go_sem, ↓reduceIte, reduceCtorEq, Bool.false_eq_true, Bool.true_eq_false, Nat.reduceAdd, Nat.reduceLT, Nat.reduceEqDiff, Nat.reduceLeDiff, Nat.reduceSub, Nat.reduceMul], ⟨_, rfl, rfl, rfl⟩, .inl ⟨[], _, .inl (by simp only [go_sem, ↓reduceIte, reduceCtorEq, Bool.false_eq_true, Bool.true_eq_false, Nat.reduceAdd, Nat.reduceLT, Nat.reduceEqDiff, Nat.reduceLeDiff, Nat.reduceSub, Nat.reduceMul]), aw, .inl ⟨_, rfl, rfl, rfl, rfl⟩⟩⟩ ?_
              refine V.exec 400 ?_
              simp (config := {contextual := true}) only [go_sem, ↓reduceIte, reduceCtorEq, Bool.false_eq_true, Bool.true_eq_false, Nat.reduceAdd, Nat.reduceLT, Nat.reduceEqDiff, Nat.reduceLeDiff, Nat.reduceSub, Nat.reduceMul]
          · exact absurd h (by omega)
        · rcases hf with ⟨h, _⟩ | ⟨rfl, hf⟩
          · exact absurd h he
          · have he1 : e = 1 := by omega
            have n0 : ((0 : Nat) : Int) = 0 := rfl
            subst he1
            simp (config := {contextual := true}) only [go_sem, ↓reduceIte, reduceCtorEq, Bool.false_eq_true, Bool.true_eq_false, Nat.reduceAdd, Nat.reduceLT, Nat.reduceEqDiff, Nat.reduceLeDiff, Nat.reduceSub, Nat.reduceMul, he, n0, List.map_nil, List.length_nil, decide_true]
            refine V.call rfl rfl (by simp [dOK]) ⟨9, [], by simp only [go_sem, ↓reduceIte, reduceCtorEq, Bool.false_eq_true, Bool.true_eq_false, Nat.reduceAdd, Nat.reduceLT, Nat.reduceEqDiff, Nat.reduceLeDiff, Nat.reduceSub, Nat.reduceMul], ⟨_, rfl, rfl, rfl⟩, .inl ⟨[], _, .inl (by simp only [go_sem, ↓reduceIte, reduceCtorEq, Bool.false_eq_true, Bool.true_eq_false, Nat.reduceAdd, Nat.reduceLT, Nat.reduceEqDiff, Nat.reduceLeDiff, Nat.reduceSub, Nat.reduceMul]), aw, .inl ⟨_, rfl, rfl, rfl, rfl⟩⟩⟩ ?_
            refine V.exec 400 ?_
            simp (config := {contextual := true}) only [go_sem, ↓reduceIte, reduceCtorEq, Bool.false_eq_true, Bool.true_eq_false, Nat.reduceAdd, Nat.reduceLT, Nat.reduceEqDiff, Nat.reduceLeDiff, Nat.reduceSub, Nat.reduceMul]
      · have h3' : (300 : Int) < (r.hi.length : Int) := by omega
        simp (config := {contextual := true}) only [go_sem, ↓reduceIte, reduceCtorEq, Bool.false_eq_true, Bool.true_eq_false, Nat.reduceAdd, Nat.reduceLT, Nat.reduceEqDiff, Nat.reduceLeDiff, Nat.reduceSub, Nat.reduceMul, h1, h2', h3']
        refine V.call rfl rfl (by simp [dOK]) ⟨9, [], by simp only [go_sem, ↓reduceIte, reduceCtorEq, Bool.false_eq_true, Bool.true_eq_false, Nat.reduceAdd, Nat.reduceLT, Nat.reduceEqDiff, Nat.reduceLeDiff, Nat.reduceSub, Nat.reduceMul], ⟨_, rfl, rfl, rfl⟩, .inl ⟨[], _, .inl (by simp only [go_sem, ↓reduceIte, reduceCtorEq, Bool.false_eq_true, Bool.true_eq_false, Nat.reduceAdd, Nat.reduceLT, Nat.reduceEqDiff, Nat.reduceLeDiff, Nat.reduceSub, Nat.reduceMul]), aw, .inl ⟨_, rfl, rfl, rfl, rfl⟩⟩⟩ ?_
        refine V.exec 400 ?_
        simp (config := {contextual := true}) only [go_sem, ↓reduceIte, reduceCtorEq, Bool.false_eq_true, Bool.true_eq_false, Nat.reduceAdd, Nat.reduceLT, Nat.reduceEqDiff, Nat.reduceLeDiff, Nat.reduceSub, Nat.reduceMul]
    · have h2' : (300 : Int) < (r.lo.length : Int) := by omega
      simp (config := {contextual := true}) only [go_sem, ↓reduceIte, reduceCtorEq, Bool.false_eq_true, Bool.true_eq_false, Nat.reduceAdd, Nat.reduceLT, Nat.reduceEqDiff, Nat.reduceLeDiff, Nat.reduceSub, Nat.reduceMul, h1, h2']
      refine V.call rfl rfl (by simp [dOK]) ⟨9, [], by simp only [go_sem, ↓reduceIte, reduceCtorEq, Bool.false_eq_true, Bool.true_eq_false, Nat.reduceAdd, Nat.reduceLT, Nat.reduceEqDiff, Nat.reduceLeDiff, Nat.reduceSub, Nat.reduceMul], ⟨_, rfl, rfl, rfl⟩, .inl ⟨[], _, .inl (by simp only [go_sem, ↓reduceIte, reduceCtorEq, Bool.false_eq_true, Bool.true_eq_false, Nat.reduceAdd, Nat.reduceLT, Nat.reduceEqDiff, Nat.reduceLeDiff, Nat.reduceSub, Nat.reduceMul]), aw, .inl ⟨_, rfl, rfl, rfl, rfl⟩⟩⟩ ?_
      refine V.exec 400 ?_
      simp (config := {contextual := true}) only [go_sem, ↓reduceIte, reduceCtorEq, Bool.false_eq_true, Bool.true_eq_false, Nat.reduceAdd, Nat.reduceLT, Nat.reduceEqDiff, Nat.reduceLeDiff, Nat.reduceSub, Nat.reduceMul]
  · simp (config := {contextual := true}) only [go_sem, ↓reduceIte, reduceCtorEq, Bool.false_eq_true, Bool.true_eq_false, Nat.reduceAdd, Nat.reduceLT, Nat.reduceEqDiff, Nat.reduceLeDiff, Nat.reduceSub, Nat.reduceMul, h1]
    refine V.call rfl rfl (by simp [dOK]) ⟨9, [], by simp only [go_sem, ↓reduceIte, reduceCtorEq, Bool.false_eq_true, Bool.true_eq_false, Nat.reduceAdd, Nat.reduceLT, Nat.reduceEqDiff, Nat.reduceLeDiff, Nat.reduceSub, Nat.reduceMul], ⟨_, rfl, rfl, rfl⟩, .inl ⟨[], _, .inl (by simp only [go_sem, ↓reduceIte, reduceCtorEq, Bool.false_eq_true, Bool.true_eq_false, Nat.reduceAdd, Nat.reduceLT, Nat.reduceEqDiff, Nat.reduceLeDiff, Nat.reduceSub, Nat.reduceMul]), aw, .inl ⟨_, rfl, rfl, rfl, rfl⟩⟩⟩ ?_
    refine V.exec 400 ?_
    simp (config := {contextual := true}) only [go_sem, ↓reduceIte, reduceCtorEq, Bool.false_eq_true, Bool.true_eq_false, Nat.reduceAdd, Nat.reduceLT, Nat.reduceEqDiff, Nat.reduceLeDiff, Nat.reduceSub, Nat.reduceMul]
theorem ctPagesP (xs0 : List PV) (l0 : xs0.length ≤ maxLen) (h0 : ∀ x ∈ xs0, ∃ qs, x = .agg qs ∧ qs.map PV.kd = [.str, .str] ∧ ∀ q ∈ qs, q.wfv)
    (xs1 : List PV) (l1 : xs1.length ≤ maxLen) (h1 : ∀ x ∈ xs1, ∃ qs, x = .agg qs ∧ qs.map PV.kd = [.int .i64, .str, .bool, .str, .bool, .str] ∧ ∀ q ∈ qs, q.wfv)
    (a2 : Int) (w2 : (Lit.int .i64 a2).wf = true) (a3 : Int) (w3 : (Lit.int .u8 a3).wf = true)
    (xs4 : List PV) (h4 : xs4.map PV.kd = [.str, .str, .bool]) (w4 : ∀ q ∈ xs4, q.wfv) :
    Ct Try.prog 4 (YtnhkknaplkjigaaVm.ops [.row xs0, .row xs1, .int .i64 a2, .int .u8 a3, .agg xs4]) (.vals [.bool true]) := by
  obtain ⟨l, rfl⟩ := pair_of xs0 h0
  obtain ⟨t, rfl⟩ := change_of' xs1 h1
  obtain ⟨r, hr⟩ := range_one xs4 h4
  rw [hr]
  have hw : 0 ≤ a3 ∧ a3 ≤ 255 := by
    simp only [Lit.wf, Bool.and_eq_true, decide_eq_true_eq] at w3
    have e1 : IntKind.min .u8 = 0 := by decide
    have e2 : IntKind.max .u8 = 255 := by decide
    rw [e1, e2] at w3
    exact w3
  exact law_PagesP l t a2 a3 r (by simpa using l0) (by simpa using l1) hw.1 hw.2
end Go.Proofs.Ytnhkknaplkjigaa
