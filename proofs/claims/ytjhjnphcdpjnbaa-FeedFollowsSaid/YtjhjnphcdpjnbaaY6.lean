/- A part of a proof: functions of the program, walked. -/
import Derived.Test.YtjhjnphcdpjnbaaGI
set_option linter.unusedVariables false
set_option linter.unusedSimpArgs false
set_option maxRecDepth 8000
namespace Go.Proofs.Ytjhjnphcdpjnbaa
open Go Go.Proofs Go.Proofs.YtjhjnphcdpjnbaaVm Go.Proofs.Ytjhjnphcdpjnbaa.Ty

set_option maxRecDepth 10000 in
set_option maxHeartbeats 16000000 in
/-- The loop of the one who follows. -/
theorem law_FollowsF (r : Range) (bs : List (List Note)) (start most : Int) (hn : bs.length ≤ maxLen) (hb : ∀ b ∈ bs, b.length ≤ maxLen) (hst : 0 ≤ start ∧ start ≤ 255) (hmo : 0 ≤ most ∧ most ≤ 255) :
    Ct Try.prog 7 (YtjhjnphcdpjnbaaVm.ops [r.pv, .row (bs.map rowN), .int .u8 start, .int .u8 most]) (.vals [.bool true]) := by
  have aw := law19_awake
  simp only [maxLen] at hn hb
  refine Ct.of_V Try.func7 rfl (by simp [YtjhjnphcdpjnbaaVm.ops, Try.f7]) ?_
  refine V.exec 400 ?_
  simp (config := {contextual := true}) only [go_sem, ↓reduceIte, reduceCtorEq, Bool.false_eq_true, Bool.true_eq_false, Nat.reduceAdd, Nat.reduceLT, Nat.reduceEqDiff, Nat.reduceLeDiff, Nat.reduceSub, Nat.reduceMul, Try.f7, Range.pv]
  by_cases h10 : bs.length ≤ 10
  · have h10' : ¬ (10 : Int) < (bs.length : Int) := by omega
    simp (config := {contextual := true}) only [go_sem, ↓reduceIte, reduceCtorEq, Bool.false_eq_true, Bool.true_eq_false, Nat.reduceAdd, Nat.reduceLT, Nat.reduceEqDiff, Nat.reduceLeDiff, Nat.reduceSub, Nat.reduceMul, h10']
    refine V.loop (fun m ls os => ∃ (i : Nat), i ≤ bs.length ∧ m = bs.length - i ∧
        ls = [(1, .val (.row (bs.map rowN))), (2, .val (.int .u8 start)), (3, .val (.int .u8 most)), (4, .adr 0 0), (36, .val (.row (bs.map rowN))), (37, .val (.int .i64 bs.length)), (38, .val (.int .i64 i))] ∧ os = [.box true [.val (.str r.lo), .val (.str r.hi), .val (.bool (decide (r.op = true)))]]) 1 bs.length
      [(1, .val (.row (bs.map rowN))), (2, .val (.int .u8 start)), (3, .val (.int .u8 most)), (4, .adr 0 0), (36, .val (.row (bs.map rowN))), (37, .val (.int .i64 bs.length)), (38, .val (.int .i64 0))] [.box true [.val (.str r.lo), .val (.str r.hi), .val (.bool (decide (r.op = true)))]] [some 4]
      ⟨0, Nat.zero_le _, rfl, rfl, rfl⟩ (by simp only [go_sem, ↓reduceIte, reduceCtorEq, Bool.false_eq_true, Bool.true_eq_false, Nat.reduceAdd, Nat.reduceLT, Nat.reduceEqDiff, Nat.reduceLeDiff, Nat.reduceSub, Nat.reduceMul]; try decide) ?_
    rintro m ls os ⟨i, hi, rfl, rfl, rfl⟩
    refine V.exec 400 ?_
    by_cases hlt : i < bs.length
    · have hlt' : (i : Int) < (bs.length : Int) := by omega
      obtain ⟨b, hx⟩ : ∃ x, bs[i]? = some x := ⟨_, List.getElem?_eq_getElem hlt⟩
      have hbl := hb b (List.mem_of_getElem? hx)
      have hw : IntKind.i64.wrap ((i : Int) + 1) = ((i + 1 : Nat) : Int) := by rw [wrap_small3] <;> omega
      simp (config := {contextual := true}) only [go_sem, ↓reduceIte, reduceCtorEq, Bool.false_eq_true, Bool.true_eq_false, Nat.reduceAdd, Nat.reduceLT, Nat.reduceEqDiff, Nat.reduceLeDiff, Nat.reduceSub, Nat.reduceMul, hlt', hx, rowN]
      refine V.loop (fun m ls os => ∃ (j : Nat), j ≤ b.length ∧ m = b.length - j ∧
          ls = [(1, .val (.row (bs.map rowN))), (2, .val (.int .u8 start)), (3, .val (.int .u8 most)), (4, .adr 0 0), (36, .val (.row (bs.map rowN))), (37, .val (.int .i64 bs.length)), (38, .val (.int .i64 i)), (42, .val (.row (b.map Note.pv))), (43, .val (.int .i64 b.length)), (44, .val (.int .i64 j))] ∧ os = [.box true [.val (.str r.lo), .val (.str r.hi), .val (.bool (decide (r.op = true)))]]) 1 b.length
        [(1, .val (.row (bs.map rowN))), (2, .val (.int .u8 start)), (3, .val (.int .u8 most)), (4, .adr 0 0), (36, .val (.row (bs.map rowN))), (37, .val (.int .i64 bs.length)), (38, .val (.int .i64 i)), (42, .val (.row (b.map Note.pv))), (43, .val (.int .i64 b.length)), (44, .val (.int .i64 0))] [.box true [.val (.str r.lo), .val (.str r.hi), .val (.bool (decide (r.op = true)))]] [some 0]
        ⟨0, Nat.zero_le _, rfl, rfl, rfl⟩ (by simp only [go_sem, ↓reduceIte, reduceCtorEq, Bool.false_eq_true, Bool.true_eq_false, Nat.reduceAdd, Nat.reduceLT, Nat.reduceEqDiff, Nat.reduceLeDiff, Nat.reduceSub, Nat.reduceMul, rowN]; try decide) ?_
      rintro m ls os ⟨j, hj, rfl, rfl, rfl⟩
      refine V.exec 400 ?_
      by_cases hjt : j < b.length
      · have hjt' : (j : Int) < (b.length : Int) := by omega
        obtain ⟨x, hy⟩ : ∃ x, b[j]? = some x := ⟨_, List.getElem?_eq_getElem hjt⟩
        have hw2 : IntKind.i64.wrap ((j : Int) + 1) = ((j + 1 : Nat) : Int) := by rw [wrap_small3] <;> omega
        by_cases hk : (300 : Int) < (x.key.length : Int)
        · simp (config := {contextual := true}) only [go_sem, ↓reduceIte, reduceCtorEq, Bool.false_eq_true, Bool.true_eq_false, Nat.reduceAdd, Nat.reduceLT, Nat.reduceEqDiff, Nat.reduceLeDiff, Nat.reduceSub, Nat.reduceMul, hjt', hy, Note.pv, hk]
          refine V.call rfl rfl (by simp [dOK]) ⟨9, [], by simp only [go_sem, ↓reduceIte, reduceCtorEq, Bool.false_eq_true, Bool.true_eq_false, Nat.reduceAdd, Nat.reduceLT, Nat.reduceEqDiff, Nat.reduceLeDiff, Nat.reduceSub, Nat.reduceMul], ⟨_, rfl, rfl, rfl⟩, .inl ⟨[], _, .inl (by simp only [go_sem, ↓reduceIte, reduceCtorEq, Bool.false_eq_true, Bool.true_eq_false, Nat.reduceAdd, Nat.reduceLT, Nat.reduceEqDiff, Nat.reduceLeDiff, Nat.reduceSub, Nat.reduceMul]), aw, .inl ⟨_, rfl, rfl, rfl, rfl⟩⟩⟩ ?_
          refine V.exec 400 ?_
          simp (config := {contextual := true}) only [go_sem, ↓reduceIte, reduceCtorEq, Bool.false_eq_true, Bool.true_eq_false, Nat.reduceAdd, Nat.reduceLT, Nat.reduceEqDiff, Nat.reduceLeDiff, Nat.reduceSub, Nat.reduceMul]
        · by_cases hv : (300 : Int) < (x.value.length : Int)
          · simp (config := {contextual := true}) only [go_sem, ↓reduceIte, reduceCtorEq, Bool.false_eq_true, Bool.true_eq_false, Nat.reduceAdd, Nat.reduceLT, Nat.reduceEqDiff, Nat.reduceLeDiff, Nat.reduceSub, Nat.reduceMul, hjt', hy, Note.pv, hk, hv]
            refine V.call rfl rfl (by simp [dOK]) ⟨9, [], by simp only [go_sem, ↓reduceIte, reduceCtorEq, Bool.false_eq_true, Bool.true_eq_false, Nat.reduceAdd, Nat.reduceLT, Nat.reduceEqDiff, Nat.reduceLeDiff, Nat.reduceSub, Nat.reduceMul], ⟨_, rfl, rfl, rfl⟩, .inl ⟨[], _, .inl (by simp only [go_sem, ↓reduceIte, reduceCtorEq, Bool.false_eq_true, Bool.true_eq_false, Nat.reduceAdd, Nat.reduceLT, Nat.reduceEqDiff, Nat.reduceLeDiff, Nat.reduceSub, Nat.reduceMul]), aw, .inl ⟨_, rfl, rfl, rfl, rfl⟩⟩⟩ ?_
            refine V.exec 400 ?_
            simp (config := {contextual := true}) only [go_sem, ↓reduceIte, reduceCtorEq, Bool.false_eq_true, Bool.true_eq_false, Nat.reduceAdd, Nat.reduceLT, Nat.reduceEqDiff, Nat.reduceLeDiff, Nat.reduceSub, Nat.reduceMul]
          · simp (config := {contextual := true}) only [go_sem, ↓reduceIte, reduceCtorEq, Bool.false_eq_true, Bool.true_eq_false, Nat.reduceAdd, Nat.reduceLT, Nat.reduceEqDiff, Nat.reduceLeDiff, Nat.reduceSub, Nat.reduceMul, hjt', hy, Note.pv, hk, hv, hw2]
            refine ⟨b.length - (j + 1), _, _, [some 0], by omega, ⟨j + 1, by omega, rfl, rfl, rfl⟩, ?_⟩
            simp only [go_sem, ↓reduceIte, reduceCtorEq, Bool.false_eq_true, Bool.true_eq_false, Nat.reduceAdd, Nat.reduceLT, Nat.reduceEqDiff, Nat.reduceLeDiff, Nat.reduceSub, Nat.reduceMul]
            try decide
      · have hjt' : ¬ (j : Int) < (b.length : Int) := by omega
        simp (config := {contextual := true}) only [go_sem, ↓reduceIte, reduceCtorEq, Bool.false_eq_true, Bool.true_eq_false, Nat.reduceAdd, Nat.reduceLT, Nat.reduceEqDiff, Nat.reduceLeDiff, Nat.reduceSub, Nat.reduceMul, hjt', hw]
        refine ⟨bs.length - (i + 1), _, _, [some 0], by omega, ⟨i + 1, by omega, rfl, rfl, rfl⟩, ?_⟩
        simp only [go_sem, ↓reduceIte, reduceCtorEq, Bool.false_eq_true, Bool.true_eq_false, Nat.reduceAdd, Nat.reduceLT, Nat.reduceEqDiff, Nat.reduceLeDiff, Nat.reduceSub, Nat.reduceMul]
        try decide
    · have hlt' : ¬ (i : Int) < (bs.length : Int) := by omega
      have c1 := batch_All [] 0 bs (by simp) (by omega) hb (by decide)
      have hrun := @run_of bs
      have hlead := @allV_lead [] 0 bs (by decide)
      obtain ⟨C, L, ends, e, hR⟩ : ∃ x y z u, allV [] 0 bs = (x, y, z, u) := ⟨_, _, _, _, rfl⟩
      rw [hR] at c1 hrun hlead
      simp only at c1
      simp (config := {contextual := true}) only [go_sem, ↓reduceIte, reduceCtorEq, Bool.false_eq_true, Bool.true_eq_false, Nat.reduceAdd, Nat.reduceLT, Nat.reduceEqDiff, Nat.reduceLeDiff, Nat.reduceSub, Nat.reduceMul, hlt']
      refine V.call rfl rfl (by simp [dOK]) ⟨24, [], by simp only [go_sem, ↓reduceIte, reduceCtorEq, Bool.false_eq_true, Bool.true_eq_false, Nat.reduceAdd, Nat.reduceLT, Nat.reduceEqDiff, Nat.reduceLeDiff, Nat.reduceSub, Nat.reduceMul], ⟨_, rfl, rfl, rfl⟩, .inl ⟨[.row (([] : List Pair).map Pair.pv), .int .i64 0, .row (bs.map rowN)], _, .inl (by simp only [go_sem, ↓reduceIte, reduceCtorEq, Bool.false_eq_true, Bool.true_eq_false, Nat.reduceAdd, Nat.reduceLT, Nat.reduceEqDiff, Nat.reduceLeDiff, Nat.reduceSub, Nat.reduceMul, List.map_nil]), c1, .inr (.inl ⟨_, rfl, rfl, rfl⟩)⟩⟩ ?_
      refine V.exec 400 ?_
      by_cases he : e = 0
      · subst he
        have hel := (hlead rfl).elen
        obtain ⟨mm, st, hrn, hends⟩ := hrun rfl
        have hsok := feed_Right ⟨0, r, false, [], 0⟩
        simp (config := {contextual := true}) only [go_sem, ↓reduceIte, reduceCtorEq, Bool.false_eq_true, Bool.true_eq_false, Nat.reduceAdd, Nat.reduceLT, Nat.reduceEqDiff, Nat.reduceLeDiff, Nat.reduceSub, Nat.reduceMul]
        refine V.call rfl rfl (by simp [dOK]) ⟨16, [], by simp only [go_sem, ↓reduceIte, reduceCtorEq, Bool.false_eq_true, Bool.true_eq_false, Nat.reduceAdd, Nat.reduceLT, Nat.reduceEqDiff, Nat.reduceLeDiff, Nat.reduceSub, Nat.reduceMul], ⟨_, rfl, rfl, rfl⟩, .inl ⟨[Sub.pv ⟨0, r, false, [], 0⟩], _, .inl (by simp only [go_sem, ↓reduceIte, reduceCtorEq, Bool.false_eq_true, Bool.true_eq_false, Nat.reduceAdd, Nat.reduceLT, Nat.reduceEqDiff, Nat.reduceLeDiff, Nat.reduceSub, Nat.reduceMul, Sub.pv, decide_false]), hsok, .inl ⟨_, rfl, rfl, rfl, rfl⟩⟩⟩ ?_
        refine V.exec 400 ?_
        by_cases hok : Sub.ok ⟨0, r, false, [], 0⟩
        · have hl1 : (0 : Int) ≤ start.tmod ((bs.length : Int) + 1) := Int.tmod_nonneg _ hst.1
          have hl2 : start.tmod ((bs.length : Int) + 1) < (bs.length : Int) + 1 := Int.tmod_lt_of_pos _ (by omega)
          have hw0 : IntKind.i64.wrap start = start := by rw [wrap_small3] <;> omega
          have hw1 : IntKind.i64.wrap ((bs.length : Int) + 1) = (bs.length : Int) + 1 := by rw [wrap_small3] <;> omega
          obtain ⟨k, hk⟩ : ∃ k : Nat, (k : Int) = start.tmod ((bs.length : Int) + 1) := ⟨(start.tmod ((bs.length : Int) + 1)).toNat, by omega⟩
          have hm2 : 0 ≤ most.tmod 5 := Int.tmod_nonneg 5 hmo.1
          have hm3 : most.tmod 5 < 5 := Int.tmod_lt_of_pos most (by decide)
          obtain ⟨n, hnn⟩ : ∃ n : Int, n = 1 + most.tmod 5 := ⟨_, rfl⟩
          have hwk : IntKind.i64.wrap (start.tmod ((bs.length : Int) + 1)) = (k : Int) := by rw [wrap_small3] <;> omega
          have hwa : IntKind.i64.wrap (most.tmod 5) = most.tmod 5 := by rw [wrap_small3] <;> omega
          have hwb : IntKind.i64.wrap (1 + most.tmod 5) = n := by rw [wrap_small3] <;> omega
          have h50 : ¬ (5 : Int) = 0 := by decide
          have hl10 : ¬ (bs.length : Int) + 1 = 0 := by omega
          have hel' : (ends.length : Int) = (bs.length : Int) := by omega
          have hn1 : 1 ≤ n := by omega
          have hk1 : k ≤ bs.length := by omega
          have hstep0 : ∀ q0 : Nat, q0 ≤ mm k → Step r bs.length mm st k 0 ⟨0, r, false, [], (q0 : Int)⟩ [] := fun q0 hq0 => by
            have h1 := hrn.le k hk1
            have h2 := hrn.len
            refine ⟨⟨hok.1, hok.2.1, hok.2.2.1, by show (0 : Int) ≤ q0; omega, by show (q0 : Int) ≤ 2147483647; omega⟩, rfl, q0, rfl, by rw [Nat.add_zero, Nat.min_eq_right hk1]; exact hq0, .inl ⟨rfl, 0, Nat.le_refl _, Nat.zero_le _, ?_, by simp⟩⟩
            rw [List.drop_zero]
            unfold leftP pickV
            congr 1; funext x
            have : ¬ slt x.key [] := slt_nil _
            simp [this]
          rcases Nat.eq_zero_or_pos k with hk0 | hk0
          · have hkp : ¬ (0 : Int) < (k : Int) := by omega
            simp (config := {contextual := true}) only [go_sem, ↓reduceIte, reduceCtorEq, Bool.false_eq_true, Bool.true_eq_false, Nat.reduceAdd, Nat.reduceLT, Nat.reduceEqDiff, Nat.reduceLeDiff, Nat.reduceSub, Nat.reduceMul, hok, hw0, hw1, hwa, hwb, hl10, h50, hk.symm, hel', hkp]
            refine V.loop (fun m ls os => ∃ (i : Nat) (s : Sub) (got : List Pair), m = 200 - i ∧ Step r bs.length mm st k i s got ∧ ls = [(1, .val (.row (bs.map rowN))), (4, .adr 0 0), (17, .adr 1 0), (18, .val (.int .i64 k)), (19, .val (.int .i64 n)), (20, .val (.row (got.map Pair.pv))), (103, .val (.int .i64 i))] ∧ os = [.box true [.val (.str r.lo), .val (.str r.hi), .val (.bool (decide (r.op = true)))], .box true [.val (.int .i64 s.id), .val (.str s.r.lo), .val (.str s.r.hi), .val (.bool (decide (s.r.op = true))), .val (.bool (decide (s.live = true))), .val (.str s.next), .val (.int .i64 s.cur)]]) 2 200
              [(1, .val (.row (bs.map rowN))), (4, .adr 0 0), (17, .adr 1 0), (18, .val (.int .i64 k)), (19, .val (.int .i64 n)), (20, .val (.row ([]))), (103, .val (.int .i64 0))] [.box true [.val (.str r.lo), .val (.str r.hi), .val (.bool (decide (r.op = true)))], .box true [.val (.int .i64 0), .val (.str r.lo), .val (.str r.hi), .val (.bool (decide (r.op = true))), .val (.bool (decide (false = true))), .val (.str []), .val (.int .i64 ((0 : Nat) : Int))]] [some 0, some 15]
              ⟨0, ⟨0, r, false, [], ((0 : Nat) : Int)⟩, [], rfl, hstep0 0 (Nat.zero_le _), rfl, rfl⟩ (by simp only [go_sem, ↓reduceIte, reduceCtorEq, Bool.false_eq_true, Bool.true_eq_false, Nat.reduceAdd, Nat.reduceLT, Nat.reduceEqDiff, Nat.reduceLeDiff, Nat.reduceSub, Nat.reduceMul, decide_false, show ((0 : Nat) : Int) = 0 from rfl]; try decide) ?_
            rintro m ls os ⟨i, s, got, rfl, hs, rfl, rfl⟩
            obtain ⟨hi200, hgl⟩ := hs.lt hrn h10
            have hi' : (i : Int) < 200 := by omega
            have hwki : IntKind.i64.wrap ((k : Int) + (i : Int)) = (k : Int) + (i : Int) := by rw [wrap_small3] <;> omega
            have hmin : (if (k : Int) + (i : Int) < (bs.length : Int) then (k : Int) + (i : Int) else (bs.length : Int)) = ((min bs.length (k + i) : Nat) : Int) := by split <;> omega
            have hwi : IntKind.i64.wrap ((i : Int) + 1) = ((i + 1 : Nat) : Int) := by rw [wrap_small3] <;> omega
            have hnl : min bs.length (k + i) ≤ bs.length := by omega
            obtain ⟨ea, hall⟩ := hrn.all _ hnl
            have c2 := batch_All [] 0 (bs.take (min bs.length (k + i))) (by simp) (by rw [List.length_take]; omega) (fun b hbm => hb b (List.mem_of_mem_take hbm)) (by decide)
            rw [hall] at c2
            simp only at c2
            have hm1 := hrn.le _ hnl
            have hClen := hrn.len
            have hstl := hrn.stlen hm1
            have htkl : (C.take (mm (min bs.length (k + i)))).length = mm (min bs.length (k + i)) := by rw [List.length_take]; omega
            have hz0 : ((0 : Nat) : Int) = 0 := rfl
            refine V.exec 400 ?_
            simp (config := {contextual := true}) only [go_sem, ↓reduceIte, reduceCtorEq, Bool.false_eq_true, Bool.true_eq_false, Nat.reduceAdd, Nat.reduceLT, Nat.reduceEqDiff, Nat.reduceLeDiff, Nat.reduceSub, Nat.reduceMul, hi', hwki, hmin]
            refine ⟨by omega, ?_⟩
            refine V.call rfl rfl (by simp [dOK]) ⟨24, [], by simp only [go_sem, ↓reduceIte, reduceCtorEq, Bool.false_eq_true, Bool.true_eq_false, Nat.reduceAdd, Nat.reduceLT, Nat.reduceEqDiff, Nat.reduceLeDiff, Nat.reduceSub, Nat.reduceMul], ⟨_, rfl, rfl, rfl⟩, .inl ⟨[.row (([] : List Pair).map Pair.pv), .int .i64 0, .row ((bs.take (min bs.length (k + i))).map rowN)], _, .inl (by simp only [go_sem, ↓reduceIte, reduceCtorEq, Bool.false_eq_true, Bool.true_eq_false, Nat.reduceAdd, Nat.reduceLT, Nat.reduceEqDiff, Nat.reduceLeDiff, Nat.reduceSub, Nat.reduceMul, List.map_nil, List.map_take]), c2, .inr (.inl ⟨_, rfl, rfl, rfl⟩)⟩⟩ ?_
            refine V.exec 400 ?_
            by_cases hlv : s.live = true
            · obtain ⟨⟨ps, cs, more⟩, got', e1, hps, e2, e3, e4, e5, hcase⟩ := step_B hrn h10 hs hlv hn1
              simp only at hps e2 e3 e5 hcase
              subst hps
              have d1 := feed_Poll s (st (mm (min bs.length (k + i)))) (C.take (mm (min bs.length (k + i)))) 0 n (by omega) (by omega)
              rw [e1] at d1
              have d2 := feed_Replay got [⟨[], cs, more⟩] (by omega) (by simp) (by intro c hc; simp at hc; subst hc; exact ⟨by simp, by show cs.length ≤ 1000; omega⟩)
              rw [e4] at d2
              simp only at d1 d2
              have hwc : IntKind.i64.wrap (0 + (cs.length : Int)) = (cs.length : Int) := by rw [wrap_small3] <;> omega
              have hgn : ¬ n < (cs.length : Int) := by omega
              simp (config := {contextual := true}) only [go_sem, ↓reduceIte, reduceCtorEq, Bool.false_eq_true, Bool.true_eq_false, Nat.reduceAdd, Nat.reduceLT, Nat.reduceEqDiff, Nat.reduceLeDiff, Nat.reduceSub, Nat.reduceMul]
              refine V.call rfl rfl (by simp [dOK]) ⟨10, [], by simp only [go_sem, ↓reduceIte, reduceCtorEq, Bool.false_eq_true, Bool.true_eq_false, Nat.reduceAdd, Nat.reduceLT, Nat.reduceEqDiff, Nat.reduceLeDiff, Nat.reduceSub, Nat.reduceMul], ⟨_, rfl, rfl, rfl⟩, .inl ⟨[s.pv, .row ((st (mm (min bs.length (k + i)))).map Pair.pv), .row ((C.take (mm (min bs.length (k + i)))).map Change.pv), .int .i64 0, .int .i64 n], _, .inl (by simp only [go_sem, ↓reduceIte, reduceCtorEq, Bool.false_eq_true, Bool.true_eq_false, Nat.reduceAdd, Nat.reduceLT, Nat.reduceEqDiff, Nat.reduceLeDiff, Nat.reduceSub, Nat.reduceMul, Sub.pv]), d1, .inr (.inl ⟨_, rfl, rfl, rfl⟩)⟩⟩ ?_
              refine V.exec 400 ?_
              by_cases hmore : more = true
              · have hpn2 : ((cs.length : Int) = n) = True := by simp [e3 hmore]
                simp (config := {contextual := true}) only [go_sem, ↓reduceIte, reduceCtorEq, Bool.false_eq_true, Bool.true_eq_false, Nat.reduceAdd, Nat.reduceLT, Nat.reduceEqDiff, Nat.reduceLeDiff, Nat.reduceSub, Nat.reduceMul, Chunk.pv, hmore, hpn2, hwc, hgn, hz0, List.map_nil, List.length_nil]
                refine V.call rfl rfl (by simp [dOK]) ⟨20, [], by simp only [go_sem, ↓reduceIte, reduceCtorEq, Bool.false_eq_true, Bool.true_eq_false, Nat.reduceAdd, Nat.reduceLT, Nat.reduceEqDiff, Nat.reduceLeDiff, Nat.reduceSub, Nat.reduceMul], ⟨_, rfl, rfl, rfl⟩, .inl ⟨[.row (got.map Pair.pv), .row ([(⟨[], cs, more⟩ : Chunk)].map Chunk.pv)], _, .inl (by simp only [go_sem, ↓reduceIte, reduceCtorEq, Bool.false_eq_true, Bool.true_eq_false, Nat.reduceAdd, Nat.reduceLT, Nat.reduceEqDiff, Nat.reduceLeDiff, Nat.reduceSub, Nat.reduceMul, Chunk.pv, hmore, List.map_cons, List.map_nil, decide_true, decide_false]), d2, .inr (.inl ⟨_, rfl, rfl, rfl⟩)⟩⟩ ?_
                refine V.exec 400 ?_
                rcases hcase with ⟨rfl, rfl, hend, hidle⟩ | ⟨hpos, x0, xl, s', hx0, hx0s, hxl, hack, hs'⟩
                · by_cases hnow : min bs.length (k + i) = bs.length
                  · have hnow' : ((min bs.length (k + i) : Nat) : Int) = (bs.length : Int) := by rw [hnow]
                    have d5 := ref03_Pick r (st (mm (min bs.length (k + i)))) (by omega)
                    rw [hend hnow] at d5
                    simp (config := {contextual := true}) only [go_sem, ↓reduceIte, reduceCtorEq, Bool.false_eq_true, Bool.true_eq_false, Nat.reduceAdd, Nat.reduceLT, Nat.reduceEqDiff, Nat.reduceLeDiff, Nat.reduceSub, Nat.reduceMul, hlv, hnow', hz0, List.map_nil, List.length_nil]
                    refine V.call rfl rfl (by simp [dOK]) ⟨25, [], by simp only [go_sem, ↓reduceIte, reduceCtorEq, Bool.false_eq_true, Bool.true_eq_false, Nat.reduceAdd, Nat.reduceLT, Nat.reduceEqDiff, Nat.reduceLeDiff, Nat.reduceSub, Nat.reduceMul], ⟨_, rfl, rfl, rfl⟩, .inl ⟨[r.pv, .row ((st (mm (min bs.length (k + i)))).map Pair.pv)], _, .inl (by simp only [go_sem, ↓reduceIte, reduceCtorEq, Bool.false_eq_true, Bool.true_eq_false, Nat.reduceAdd, Nat.reduceLT, Nat.reduceEqDiff, Nat.reduceLeDiff, Nat.reduceSub, Nat.reduceMul, Range.pv]), d5, .inr (.inl ⟨_, rfl, rfl, rfl⟩)⟩⟩ ?_
                    refine V.exec 400 ?_
                    simp (config := {contextual := true}) only [go_sem, ↓reduceIte, reduceCtorEq, Bool.false_eq_true, Bool.true_eq_false, Nat.reduceAdd, Nat.reduceLT, Nat.reduceEqDiff, Nat.reduceLeDiff, Nat.reduceSub, Nat.reduceMul]
                    refine V.call rfl rfl (by simp [dOK]) ⟨22, [], by simp only [go_sem, ↓reduceIte, reduceCtorEq, Bool.false_eq_true, Bool.true_eq_false, Nat.reduceAdd, Nat.reduceLT, Nat.reduceEqDiff, Nat.reduceLeDiff, Nat.reduceSub, Nat.reduceMul], ⟨_, rfl, rfl, rfl⟩, .inl ⟨[.row (got'.map Pair.pv), .row (got'.map Pair.pv)], _, .inl (by simp only [go_sem, ↓reduceIte, reduceCtorEq, Bool.false_eq_true, Bool.true_eq_false, Nat.reduceAdd, Nat.reduceLT, Nat.reduceEqDiff, Nat.reduceLeDiff, Nat.reduceSub, Nat.reduceMul]), ref03_Same got' got' (by omega), .inl ⟨_, rfl, rfl, rfl, rfl⟩⟩⟩ ?_
                    refine V.exec 400 ?_
                    simp (config := {contextual := true}) only [go_sem, ↓reduceIte, reduceCtorEq, Bool.false_eq_true, Bool.true_eq_false, Nat.reduceAdd, Nat.reduceLT, Nat.reduceEqDiff, Nat.reduceLeDiff, Nat.reduceSub, Nat.reduceMul, decide_true]
                    refine V.call rfl rfl (by simp [dOK]) ⟨9, [], by simp only [go_sem, ↓reduceIte, reduceCtorEq, Bool.false_eq_true, Bool.true_eq_false, Nat.reduceAdd, Nat.reduceLT, Nat.reduceEqDiff, Nat.reduceLeDiff, Nat.reduceSub, Nat.reduceMul], ⟨_, rfl, rfl, rfl⟩, .inl ⟨[], _, .inl (by simp only [go_sem, ↓reduceIte, reduceCtorEq, Bool.false_eq_true, Bool.true_eq_false, Nat.reduceAdd, Nat.reduceLT, Nat.reduceEqDiff, Nat.reduceLeDiff, Nat.reduceSub, Nat.reduceMul]), aw, .inl ⟨_, rfl, rfl, rfl, rfl⟩⟩⟩ ?_
                    refine V.exec 400 ?_
                    simp (config := {contextual := true}) only [go_sem, ↓reduceIte, reduceCtorEq, Bool.false_eq_true, Bool.true_eq_false, Nat.reduceAdd, Nat.reduceLT, Nat.reduceEqDiff, Nat.reduceLeDiff, Nat.reduceSub, Nat.reduceMul]
                  · have hnow' : ¬ ((min bs.length (k + i) : Nat) : Int) = (bs.length : Int) := by omega
                    have hz1 : ¬ (0 : Int) < 0 := by decide
                    simp (config := {contextual := true}) only [go_sem, ↓reduceIte, reduceCtorEq, Bool.false_eq_true, Bool.true_eq_false, Nat.reduceAdd, Nat.reduceLT, Nat.reduceEqDiff, Nat.reduceLeDiff, Nat.reduceSub, Nat.reduceMul, hlv, hnow', hz0, hz1, hwi, List.map_nil, List.length_nil]
                    refine ⟨200 - (i + 1), _, _, [some 0, some 1], by omega, ⟨i + 1, s, got', rfl, hidle (by omega), rfl, rfl⟩, ?_⟩
                    simp only [go_sem, ↓reduceIte, reduceCtorEq, Bool.false_eq_true, Bool.true_eq_false, Nat.reduceAdd, Nat.reduceLT, Nat.reduceEqDiff, Nat.reduceLeDiff, Nat.reduceSub, Nat.reduceMul, Sub.pv, hlv, decide_true]
                    try decide
                · have hc0 : ¬ (cs.length : Int) = 0 := by omega
                  have hc1 : (0 : Int) < (cs.length : Int) := by omega
                  have hle : ¬ x0.seq ≤ s.cur := by omega
                  have hwm : IntKind.i64.wrap ((cs.length : Int) - 1) = ((cs.length - 1 : Nat) : Int) := by rw [wrap_small3] <;> omega
                  have hlm : ((cs.length - 1 : Nat) : Int) < (cs.length : Int) := by omega
                  have d3 := feed_Ack s (mm (min bs.length (k + i)) : Nat) xl.seq
                  rw [hack] at d3
                  simp only at d3
                  have hz1 : (0 : Int) ≤ 0 := by decide
                  have t0 : Int.toNat 0 = 0 := rfl
                  by_cases hnow' : ((min bs.length (k + i) : Nat) : Int) = (bs.length : Int)
                  · simp (config := {contextual := true}) only [go_sem, ↓reduceIte, reduceCtorEq, Bool.false_eq_true, Bool.true_eq_false, Nat.reduceAdd, Nat.reduceLT, Nat.reduceEqDiff, Nat.reduceLeDiff, Nat.reduceSub, Nat.reduceMul, hlv, hnow', hc0, hc1, hx0, hle, hz1, t0, hwm, hlm, hxl, Change.pv, htkl]
                    refine ⟨by kernel_rfl, ?_⟩
                    refine DV.call [] [] (by simp only [go_sem, ↓reduceIte, reduceCtorEq, Bool.false_eq_true, Bool.true_eq_false, Nat.reduceAdd, Nat.reduceLT, Nat.reduceEqDiff, Nat.reduceLeDiff, Nat.reduceSub, Nat.reduceMul, Sub.pv, hlv, decide_true]) (by simp [dOK]) ⟨14, [], by simp only [go_sem, ↓reduceIte, reduceCtorEq, Bool.false_eq_true, Bool.true_eq_false, Nat.reduceAdd, Nat.reduceLT, Nat.reduceEqDiff, Nat.reduceLeDiff, Nat.reduceSub, Nat.reduceMul, Sub.pv, hlv, decide_true], ⟨_, rfl, rfl, rfl⟩, .inl ⟨[s.pv, .int .i64 (mm (min bs.length (k + i)) : Nat), .int .i64 xl.seq], _, .inl (by simp only [go_sem, ↓reduceIte, reduceCtorEq, Bool.false_eq_true, Bool.true_eq_false, Nat.reduceAdd, Nat.reduceLT, Nat.reduceEqDiff, Nat.reduceLeDiff, Nat.reduceSub, Nat.reduceMul, Sub.pv, hlv, decide_true]), d3, .inr (.inl ⟨_, rfl, rfl, rfl⟩)⟩⟩ (by simp only [go_sem, ↓reduceIte, reduceCtorEq, Bool.false_eq_true, Bool.true_eq_false, Nat.reduceAdd, Nat.reduceLT, Nat.reduceEqDiff, Nat.reduceLeDiff, Nat.reduceSub, Nat.reduceMul, Sub.pv, hlv, decide_true]) (by simp only [go_sem, ↓reduceIte, reduceCtorEq, Bool.false_eq_true, Bool.true_eq_false, Nat.reduceAdd, Nat.reduceLT, Nat.reduceEqDiff, Nat.reduceLeDiff, Nat.reduceSub, Nat.reduceMul, Sub.pv, hlv, decide_true]) (by simp only [go_sem, ↓reduceIte, reduceCtorEq, Bool.false_eq_true, Bool.true_eq_false, Nat.reduceAdd, Nat.reduceLT, Nat.reduceEqDiff, Nat.reduceLeDiff, Nat.reduceSub, Nat.reduceMul, Sub.pv, hlv, decide_true]) (by simp) ?_
                    refine DV.exec 400 ?_
                    simp (config := {contextual := true}) only [go_sem, ↓reduceIte, reduceCtorEq, Bool.false_eq_true, Bool.true_eq_false, Nat.reduceAdd, Nat.reduceLT, Nat.reduceEqDiff, Nat.reduceLeDiff, Nat.reduceSub, Nat.reduceMul, hwi, Sub.pv]
                    refine ⟨by kernel_rfl, 200 - (i + 1), _, _, [some 0, some 1], by omega, ⟨i + 1, s', got', rfl, hs', rfl, rfl⟩, ?_⟩
                    simp only [go_sem, ↓reduceIte, reduceCtorEq, Bool.false_eq_true, Bool.true_eq_false, Nat.reduceAdd, Nat.reduceLT, Nat.reduceEqDiff, Nat.reduceLeDiff, Nat.reduceSub, Nat.reduceMul, Sub.pv]
                    try decide
                  · simp (config := {contextual := true}) only [go_sem, ↓reduceIte, reduceCtorEq, Bool.false_eq_true, Bool.true_eq_false, Nat.reduceAdd, Nat.reduceLT, Nat.reduceEqDiff, Nat.reduceLeDiff, Nat.reduceSub, Nat.reduceMul, hlv, hnow', hc0, hc1, hx0, hle, hz1, t0, hwm, hlm, hxl, Change.pv, htkl]
                    refine ⟨by kernel_rfl, ?_⟩
                    refine DV.call [] [] (by simp only [go_sem, ↓reduceIte, reduceCtorEq, Bool.false_eq_true, Bool.true_eq_false, Nat.reduceAdd, Nat.reduceLT, Nat.reduceEqDiff, Nat.reduceLeDiff, Nat.reduceSub, Nat.reduceMul, Sub.pv, hlv, decide_true]) (by simp [dOK]) ⟨14, [], by simp only [go_sem, ↓reduceIte, reduceCtorEq, Bool.false_eq_true, Bool.true_eq_false, Nat.reduceAdd, Nat.reduceLT, Nat.reduceEqDiff, Nat.reduceLeDiff, Nat.reduceSub, Nat.reduceMul, Sub.pv, hlv, decide_true], ⟨_, rfl, rfl, rfl⟩, .inl ⟨[s.pv, .int .i64 (mm (min bs.length (k + i)) : Nat), .int .i64 xl.seq], _, .inl (by simp only [go_sem, ↓reduceIte, reduceCtorEq, Bool.false_eq_true, Bool.true_eq_false, Nat.reduceAdd, Nat.reduceLT, Nat.reduceEqDiff, Nat.reduceLeDiff, Nat.reduceSub, Nat.reduceMul, Sub.pv, hlv, decide_true]), d3, .inr (.inl ⟨_, rfl, rfl, rfl⟩)⟩⟩ (by simp only [go_sem, ↓reduceIte, reduceCtorEq, Bool.false_eq_true, Bool.true_eq_false, Nat.reduceAdd, Nat.reduceLT, Nat.reduceEqDiff, Nat.reduceLeDiff, Nat.reduceSub, Nat.reduceMul, Sub.pv, hlv, decide_true]) (by simp only [go_sem, ↓reduceIte, reduceCtorEq, Bool.false_eq_true, Bool.true_eq_false, Nat.reduceAdd, Nat.reduceLT, Nat.reduceEqDiff, Nat.reduceLeDiff, Nat.reduceSub, Nat.reduceMul, Sub.pv, hlv, decide_true]) (by simp only [go_sem, ↓reduceIte, reduceCtorEq, Bool.false_eq_true, Bool.true_eq_false, Nat.reduceAdd, Nat.reduceLT, Nat.reduceEqDiff, Nat.reduceLeDiff, Nat.reduceSub, Nat.reduceMul, Sub.pv, hlv, decide_true]) (by simp) ?_
                    refine DV.exec 400 ?_
                    simp (config := {contextual := true}) only [go_sem, ↓reduceIte, reduceCtorEq, Bool.false_eq_true, Bool.true_eq_false, Nat.reduceAdd, Nat.reduceLT, Nat.reduceEqDiff, Nat.reduceLeDiff, Nat.reduceSub, Nat.reduceMul, hwi, Sub.pv]
                    refine ⟨by kernel_rfl, 200 - (i + 1), _, _, [some 0, some 1], by omega, ⟨i + 1, s', got', rfl, hs', rfl, rfl⟩, ?_⟩
                    simp only [go_sem, ↓reduceIte, reduceCtorEq, Bool.false_eq_true, Bool.true_eq_false, Nat.reduceAdd, Nat.reduceLT, Nat.reduceEqDiff, Nat.reduceLeDiff, Nat.reduceSub, Nat.reduceMul, Sub.pv]
                    try decide
              · simp (config := {contextual := true}) only [go_sem, ↓reduceIte, reduceCtorEq, Bool.false_eq_true, Bool.true_eq_false, Nat.reduceAdd, Nat.reduceLT, Nat.reduceEqDiff, Nat.reduceLeDiff, Nat.reduceSub, Nat.reduceMul, Chunk.pv, hmore, hwc, hgn, hz0, List.map_nil, List.length_nil]
                refine V.call rfl rfl (by simp [dOK]) ⟨20, [], by simp only [go_sem, ↓reduceIte, reduceCtorEq, Bool.false_eq_true, Bool.true_eq_false, Nat.reduceAdd, Nat.reduceLT, Nat.reduceEqDiff, Nat.reduceLeDiff, Nat.reduceSub, Nat.reduceMul], ⟨_, rfl, rfl, rfl⟩, .inl ⟨[.row (got.map Pair.pv), .row ([(⟨[], cs, more⟩ : Chunk)].map Chunk.pv)], _, .inl (by simp only [go_sem, ↓reduceIte, reduceCtorEq, Bool.false_eq_true, Bool.true_eq_false, Nat.reduceAdd, Nat.reduceLT, Nat.reduceEqDiff, Nat.reduceLeDiff, Nat.reduceSub, Nat.reduceMul, Chunk.pv, hmore, List.map_cons, List.map_nil, decide_true, decide_false]), d2, .inr (.inl ⟨_, rfl, rfl, rfl⟩)⟩⟩ ?_
                refine V.exec 400 ?_
                rcases hcase with ⟨rfl, rfl, hend, hidle⟩ | ⟨hpos, x0, xl, s', hx0, hx0s, hxl, hack, hs'⟩
                · by_cases hnow : min bs.length (k + i) = bs.length
                  · have hnow' : ((min bs.length (k + i) : Nat) : Int) = (bs.length : Int) := by rw [hnow]
                    have d5 := ref03_Pick r (st (mm (min bs.length (k + i)))) (by omega)
                    rw [hend hnow] at d5
                    simp (config := {contextual := true}) only [go_sem, ↓reduceIte, reduceCtorEq, Bool.false_eq_true, Bool.true_eq_false, Nat.reduceAdd, Nat.reduceLT, Nat.reduceEqDiff, Nat.reduceLeDiff, Nat.reduceSub, Nat.reduceMul, hlv, hnow', hz0, List.map_nil, List.length_nil]
                    refine V.call rfl rfl (by simp [dOK]) ⟨25, [], by simp only [go_sem, ↓reduceIte, reduceCtorEq, Bool.false_eq_true, Bool.true_eq_false, Nat.reduceAdd, Nat.reduceLT, Nat.reduceEqDiff, Nat.reduceLeDiff, Nat.reduceSub, Nat.reduceMul], ⟨_, rfl, rfl, rfl⟩, .inl ⟨[r.pv, .row ((st (mm (min bs.length (k + i)))).map Pair.pv)], _, .inl (by simp only [go_sem, ↓reduceIte, reduceCtorEq, Bool.false_eq_true, Bool.true_eq_false, Nat.reduceAdd, Nat.reduceLT, Nat.reduceEqDiff, Nat.reduceLeDiff, Nat.reduceSub, Nat.reduceMul, Range.pv]), d5, .inr (.inl ⟨_, rfl, rfl, rfl⟩)⟩⟩ ?_
                    refine V.exec 400 ?_
                    simp (config := {contextual := true}) only [go_sem, ↓reduceIte, reduceCtorEq, Bool.false_eq_true, Bool.true_eq_false, Nat.reduceAdd, Nat.reduceLT, Nat.reduceEqDiff, Nat.reduceLeDiff, Nat.reduceSub, Nat.reduceMul]
                    refine V.call rfl rfl (by simp [dOK]) ⟨22, [], by simp only [go_sem, ↓reduceIte, reduceCtorEq, Bool.false_eq_true, Bool.true_eq_false, Nat.reduceAdd, Nat.reduceLT, Nat.reduceEqDiff, Nat.reduceLeDiff, Nat.reduceSub, Nat.reduceMul], ⟨_, rfl, rfl, rfl⟩, .inl ⟨[.row (got'.map Pair.pv), .row (got'.map Pair.pv)], _, .inl (by simp only [go_sem, ↓reduceIte, reduceCtorEq, Bool.false_eq_true, Bool.true_eq_false, Nat.reduceAdd, Nat.reduceLT, Nat.reduceEqDiff, Nat.reduceLeDiff, Nat.reduceSub, Nat.reduceMul]), ref03_Same got' got' (by omega), .inl ⟨_, rfl, rfl, rfl, rfl⟩⟩⟩ ?_
                    refine V.exec 400 ?_
                    simp (config := {contextual := true}) only [go_sem, ↓reduceIte, reduceCtorEq, Bool.false_eq_true, Bool.true_eq_false, Nat.reduceAdd, Nat.reduceLT, Nat.reduceEqDiff, Nat.reduceLeDiff, Nat.reduceSub, Nat.reduceMul, decide_true]
                    refine V.call rfl rfl (by simp [dOK]) ⟨9, [], by simp only [go_sem, ↓reduceIte, reduceCtorEq, Bool.false_eq_true, Bool.true_eq_false, Nat.reduceAdd, Nat.reduceLT, Nat.reduceEqDiff, Nat.reduceLeDiff, Nat.reduceSub, Nat.reduceMul], ⟨_, rfl, rfl, rfl⟩, .inl ⟨[], _, .inl (by simp only [go_sem, ↓reduceIte, reduceCtorEq, Bool.false_eq_true, Bool.true_eq_false, Nat.reduceAdd, Nat.reduceLT, Nat.reduceEqDiff, Nat.reduceLeDiff, Nat.reduceSub, Nat.reduceMul]), aw, .inl ⟨_, rfl, rfl, rfl, rfl⟩⟩⟩ ?_
                    refine V.exec 400 ?_
                    simp (config := {contextual := true}) only [go_sem, ↓reduceIte, reduceCtorEq, Bool.false_eq_true, Bool.true_eq_false, Nat.reduceAdd, Nat.reduceLT, Nat.reduceEqDiff, Nat.reduceLeDiff, Nat.reduceSub, Nat.reduceMul]
                  · have hnow' : ¬ ((min bs.length (k + i) : Nat) : Int) = (bs.length : Int) := by omega
                    have hz1 : ¬ (0 : Int) < 0 := by decide
                    simp (config := {contextual := true}) only [go_sem, ↓reduceIte, reduceCtorEq, Bool.false_eq_true, Bool.true_eq_false, Nat.reduceAdd, Nat.reduceLT, Nat.reduceEqDiff, Nat.reduceLeDiff, Nat.reduceSub, Nat.reduceMul, hlv, hnow', hz0, hz1, hwi, List.map_nil, List.length_nil]
                    refine ⟨200 - (i + 1), _, _, [some 0, some 1], by omega, ⟨i + 1, s, got', rfl, hidle (by omega), rfl, rfl⟩, ?_⟩
                    simp only [go_sem, ↓reduceIte, reduceCtorEq, Bool.false_eq_true, Bool.true_eq_false, Nat.reduceAdd, Nat.reduceLT, Nat.reduceEqDiff, Nat.reduceLeDiff, Nat.reduceSub, Nat.reduceMul, Sub.pv, hlv, decide_true]
                    try decide
                · have hc0 : ¬ (cs.length : Int) = 0 := by omega
                  have hc1 : (0 : Int) < (cs.length : Int) := by omega
                  have hle : ¬ x0.seq ≤ s.cur := by omega
                  have hwm : IntKind.i64.wrap ((cs.length : Int) - 1) = ((cs.length - 1 : Nat) : Int) := by rw [wrap_small3] <;> omega
                  have hlm : ((cs.length - 1 : Nat) : Int) < (cs.length : Int) := by omega
                  have d3 := feed_Ack s (mm (min bs.length (k + i)) : Nat) xl.seq
                  rw [hack] at d3
                  simp only at d3
                  have hz1 : (0 : Int) ≤ 0 := by decide
                  have t0 : Int.toNat 0 = 0 := rfl
                  by_cases hnow' : ((min bs.length (k + i) : Nat) : Int) = (bs.length : Int)
                  · simp (config := {contextual := true}) only [go_sem, ↓reduceIte, reduceCtorEq, Bool.false_eq_true, Bool.true_eq_false, Nat.reduceAdd, Nat.reduceLT, Nat.reduceEqDiff, Nat.reduceLeDiff, Nat.reduceSub, Nat.reduceMul, hlv, hnow', hc0, hc1, hx0, hle, hz1, t0, hwm, hlm, hxl, Change.pv, htkl]
                    refine ⟨by kernel_rfl, ?_⟩
                    refine DV.call [] [] (by simp only [go_sem, ↓reduceIte, reduceCtorEq, Bool.false_eq_true, Bool.true_eq_false, Nat.reduceAdd, Nat.reduceLT, Nat.reduceEqDiff, Nat.reduceLeDiff, Nat.reduceSub, Nat.reduceMul, Sub.pv, hlv, decide_true]) (by simp [dOK]) ⟨14, [], by simp only [go_sem, ↓reduceIte, reduceCtorEq, Bool.false_eq_true, Bool.true_eq_false, Nat.reduceAdd, Nat.reduceLT, Nat.reduceEqDiff, Nat.reduceLeDiff, Nat.reduceSub, Nat.reduceMul, Sub.pv, hlv, decide_true], ⟨_, rfl, rfl, rfl⟩, .inl ⟨[s.pv, .int .i64 (mm (min bs.length (k + i)) : Nat), .int .i64 xl.seq], _, .inl (by simp only [go_sem, ↓reduceIte, reduceCtorEq, Bool.false_eq_true, Bool.true_eq_false, Nat.reduceAdd, Nat.reduceLT, Nat.reduceEqDiff, Nat.reduceLeDiff, Nat.reduceSub, Nat.reduceMul, Sub.pv, hlv, decide_true]), d3, .inr (.inl ⟨_, rfl, rfl, rfl⟩)⟩⟩ (by simp only [go_sem, ↓reduceIte, reduceCtorEq, Bool.false_eq_true, Bool.true_eq_false, Nat.reduceAdd, Nat.reduceLT, Nat.reduceEqDiff, Nat.reduceLeDiff, Nat.reduceSub, Nat.reduceMul, Sub.pv, hlv, decide_true]) (by simp only [go_sem, ↓reduceIte, reduceCtorEq, Bool.false_eq_true, Bool.true_eq_false, Nat.reduceAdd, Nat.reduceLT, Nat.reduceEqDiff, Nat.reduceLeDiff, Nat.reduceSub, Nat.reduceMul, Sub.pv, hlv, decide_true]) (by simp only [go_sem, ↓reduceIte, reduceCtorEq, Bool.false_eq_true, Bool.true_eq_false, Nat.reduceAdd, Nat.reduceLT, Nat.reduceEqDiff, Nat.reduceLeDiff, Nat.reduceSub, Nat.reduceMul, Sub.pv, hlv, decide_true]) (by simp) ?_
                    refine DV.exec 400 ?_
                    simp (config := {contextual := true}) only [go_sem, ↓reduceIte, reduceCtorEq, Bool.false_eq_true, Bool.true_eq_false, Nat.reduceAdd, Nat.reduceLT, Nat.reduceEqDiff, Nat.reduceLeDiff, Nat.reduceSub, Nat.reduceMul, hwi, Sub.pv]
                    refine ⟨by kernel_rfl, 200 - (i + 1), _, _, [some 0, some 1], by omega, ⟨i + 1, s', got', rfl, hs', rfl, rfl⟩, ?_⟩
                    simp only [go_sem, ↓reduceIte, reduceCtorEq, Bool.false_eq_true, Bool.true_eq_false, Nat.reduceAdd, Nat.reduceLT, Nat.reduceEqDiff, Nat.reduceLeDiff, Nat.reduceSub, Nat.reduceMul, Sub.pv]
                    try decide
                  · simp (config := {contextual := true}) only [go_sem, ↓reduceIte, reduceCtorEq, Bool.false_eq_true, Bool.true_eq_false, Nat.reduceAdd, Nat.reduceLT, Nat.reduceEqDiff, Nat.reduceLeDiff, Nat.reduceSub, Nat.reduceMul, hlv, hnow', hc0, hc1, hx0, hle, hz1, t0, hwm, hlm, hxl, Change.pv, htkl]
                    refine ⟨by kernel_rfl, ?_⟩
                    refine DV.call [] [] (by simp only [go_sem, ↓reduceIte, reduceCtorEq, Bool.false_eq_true, Bool.true_eq_false, Nat.reduceAdd, Nat.reduceLT, Nat.reduceEqDiff, Nat.reduceLeDiff, Nat.reduceSub, Nat.reduceMul, Sub.pv, hlv, decide_true]) (by simp [dOK]) ⟨14, [], by simp only [go_sem, ↓reduceIte, reduceCtorEq, Bool.false_eq_true, Bool.true_eq_false, Nat.reduceAdd, Nat.reduceLT, Nat.reduceEqDiff, Nat.reduceLeDiff, Nat.reduceSub, Nat.reduceMul, Sub.pv, hlv, decide_true], ⟨_, rfl, rfl, rfl⟩, .inl ⟨[s.pv, .int .i64 (mm (min bs.length (k + i)) : Nat), .int .i64 xl.seq], _, .inl (by simp only [go_sem, ↓reduceIte, reduceCtorEq, Bool.false_eq_true, Bool.true_eq_false, Nat.reduceAdd, Nat.reduceLT, Nat.reduceEqDiff, Nat.reduceLeDiff, Nat.reduceSub, Nat.reduceMul, Sub.pv, hlv, decide_true]), d3, .inr (.inl ⟨_, rfl, rfl, rfl⟩)⟩⟩ (by simp only [go_sem, ↓reduceIte, reduceCtorEq, Bool.false_eq_true, Bool.true_eq_false, Nat.reduceAdd, Nat.reduceLT, Nat.reduceEqDiff, Nat.reduceLeDiff, Nat.reduceSub, Nat.reduceMul, Sub.pv, hlv, decide_true]) (by simp only [go_sem, ↓reduceIte, reduceCtorEq, Bool.false_eq_true, Bool.true_eq_false, Nat.reduceAdd, Nat.reduceLT, Nat.reduceEqDiff, Nat.reduceLeDiff, Nat.reduceSub, Nat.reduceMul, Sub.pv, hlv, decide_true]) (by simp only [go_sem, ↓reduceIte, reduceCtorEq, Bool.false_eq_true, Bool.true_eq_false, Nat.reduceAdd, Nat.reduceLT, Nat.reduceEqDiff, Nat.reduceLeDiff, Nat.reduceSub, Nat.reduceMul, Sub.pv, hlv, decide_true]) (by simp) ?_
                    refine DV.exec 400 ?_
                    simp (config := {contextual := true}) only [go_sem, ↓reduceIte, reduceCtorEq, Bool.false_eq_true, Bool.true_eq_false, Nat.reduceAdd, Nat.reduceLT, Nat.reduceEqDiff, Nat.reduceLeDiff, Nat.reduceSub, Nat.reduceMul, hwi, Sub.pv]
                    refine ⟨by kernel_rfl, 200 - (i + 1), _, _, [some 0, some 1], by omega, ⟨i + 1, s', got', rfl, hs', rfl, rfl⟩, ?_⟩
                    simp only [go_sem, ↓reduceIte, reduceCtorEq, Bool.false_eq_true, Bool.true_eq_false, Nat.reduceAdd, Nat.reduceLT, Nat.reduceEqDiff, Nat.reduceLeDiff, Nat.reduceSub, Nat.reduceMul, Sub.pv]
                    try decide
            · have hlf : s.live = false := by simpa using hlv
              obtain ⟨⟨ps, cs, more⟩, s', got', e1, hcs, e2, e3, e4, e5, e6, hs'⟩ := step_A hrn h10 hs hlf hn1
              simp only at hcs e2 e3 e5 e6
              subst hcs
              have hff : decide ((false : Bool) = true) = false := rfl
              have d1 := feed_Poll s (st (mm (min bs.length (k + i)))) (C.take (mm (min bs.length (k + i)))) 0 n (by omega) (by omega)
              rw [e1] at d1
              have d2 := feed_Replay got [⟨ps, [], more⟩] (by omega) (by simp) (by intro c hc; simp at hc; subst hc; exact ⟨by show ps.length ≤ 1000; omega, by simp⟩)
              rw [e4] at d2
              have d3 := feed_Took s (st (mm (min bs.length (k + i)))) (C.take (mm (min bs.length (k + i)))) 0 (ps.length : Int) (by omega) (by omega)
              rw [e6] at d3
              simp only at d1 d2 d3
              have hwp : IntKind.i64.wrap ((ps.length : Int) + 0) = (ps.length : Int) := by rw [wrap_small3] <;> omega
              have hgn : ¬ n < (ps.length : Int) := by omega
              simp (config := {contextual := true}) only [go_sem, ↓reduceIte, reduceCtorEq, Bool.false_eq_true, Bool.true_eq_false, Nat.reduceAdd, Nat.reduceLT, Nat.reduceEqDiff, Nat.reduceLeDiff, Nat.reduceSub, Nat.reduceMul]
              refine V.call rfl rfl (by simp [dOK]) ⟨10, [], by simp only [go_sem, ↓reduceIte, reduceCtorEq, Bool.false_eq_true, Bool.true_eq_false, Nat.reduceAdd, Nat.reduceLT, Nat.reduceEqDiff, Nat.reduceLeDiff, Nat.reduceSub, Nat.reduceMul], ⟨_, rfl, rfl, rfl⟩, .inl ⟨[s.pv, .row ((st (mm (min bs.length (k + i)))).map Pair.pv), .row ((C.take (mm (min bs.length (k + i)))).map Change.pv), .int .i64 0, .int .i64 n], _, .inl (by simp only [go_sem, ↓reduceIte, reduceCtorEq, Bool.false_eq_true, Bool.true_eq_false, Nat.reduceAdd, Nat.reduceLT, Nat.reduceEqDiff, Nat.reduceLeDiff, Nat.reduceSub, Nat.reduceMul, Sub.pv, List.map_take]), d1, .inr (.inl ⟨_, rfl, rfl, rfl⟩)⟩⟩ ?_
              refine V.exec 400 ?_
              by_cases hmore : more = true
              · have hpn := e3 hmore
                have hwn : IntKind.i64.wrap (n + 0) = n := by rw [wrap_small3] <;> omega
                have hnn2 : ¬ n < n := by omega
                simp (config := {contextual := true}) only [go_sem, ↓reduceIte, reduceCtorEq, Bool.false_eq_true, Bool.true_eq_false, Nat.reduceAdd, Nat.reduceLT, Nat.reduceEqDiff, Nat.reduceLeDiff, Nat.reduceSub, Nat.reduceMul, Chunk.pv, hmore, hpn, hwn, hnn2, hz0, List.map_nil, List.length_nil]
                refine V.call rfl rfl (by simp [dOK]) ⟨20, [], by simp only [go_sem, ↓reduceIte, reduceCtorEq, Bool.false_eq_true, Bool.true_eq_false, Nat.reduceAdd, Nat.reduceLT, Nat.reduceEqDiff, Nat.reduceLeDiff, Nat.reduceSub, Nat.reduceMul], ⟨_, rfl, rfl, rfl⟩, .inl ⟨[.row (got.map Pair.pv), .row ([(⟨ps, [], more⟩ : Chunk)].map Chunk.pv)], _, .inl (by simp only [go_sem, ↓reduceIte, reduceCtorEq, Bool.false_eq_true, Bool.true_eq_false, Nat.reduceAdd, Nat.reduceLT, Nat.reduceEqDiff, Nat.reduceLeDiff, Nat.reduceSub, Nat.reduceMul, Chunk.pv, hmore, List.map_cons, List.map_nil, decide_true, decide_false]), d2, .inr (.inl ⟨_, rfl, rfl, rfl⟩)⟩⟩ ?_
                refine V.exec 400 ?_
                simp (config := {contextual := true}) only [go_sem, ↓reduceIte, reduceCtorEq, Bool.false_eq_true, Bool.true_eq_false, Nat.reduceAdd, Nat.reduceLT, Nat.reduceEqDiff, Nat.reduceLeDiff, Nat.reduceSub, Nat.reduceMul, hlv, hlf, hff, Sub.pv]
                refine V.call rfl rfl (by simp [dOK]) ⟨12, [], by simp only [go_sem, ↓reduceIte, reduceCtorEq, Bool.false_eq_true, Bool.true_eq_false, Nat.reduceAdd, Nat.reduceLT, Nat.reduceEqDiff, Nat.reduceLeDiff, Nat.reduceSub, Nat.reduceMul], ⟨_, rfl, rfl, rfl⟩, .inl ⟨[s.pv, .row ((st (mm (min bs.length (k + i)))).map Pair.pv), .row ((C.take (mm (min bs.length (k + i)))).map Change.pv), .int .i64 0, .int .i64 ps.length], _, .inl (by simp only [go_sem, ↓reduceIte, reduceCtorEq, Bool.false_eq_true, Bool.true_eq_false, Nat.reduceAdd, Nat.reduceLT, Nat.reduceEqDiff, Nat.reduceLeDiff, Nat.reduceSub, Nat.reduceMul, hpn, Sub.pv, hlf, hff, hlv]), d3, .inr (.inl ⟨_, rfl, rfl, rfl⟩)⟩⟩ ?_
                refine V.exec 400 ?_
                simp (config := {contextual := true}) only [go_sem, ↓reduceIte, reduceCtorEq, Bool.false_eq_true, Bool.true_eq_false, Nat.reduceAdd, Nat.reduceLT, Nat.reduceEqDiff, Nat.reduceLeDiff, Nat.reduceSub, Nat.reduceMul, hwi, Sub.pv]
                refine ⟨200 - (i + 1), _, _, [some 0, some 1], by omega, ⟨i + 1, s', got', rfl, hs', rfl, rfl⟩, ?_⟩
                simp only [go_sem, ↓reduceIte, reduceCtorEq, Bool.false_eq_true, Bool.true_eq_false, Nat.reduceAdd, Nat.reduceLT, Nat.reduceEqDiff, Nat.reduceLeDiff, Nat.reduceSub, Nat.reduceMul, Sub.pv]
                try decide
              · simp (config := {contextual := true}) only [go_sem, ↓reduceIte, reduceCtorEq, Bool.false_eq_true, Bool.true_eq_false, Nat.reduceAdd, Nat.reduceLT, Nat.reduceEqDiff, Nat.reduceLeDiff, Nat.reduceSub, Nat.reduceMul, Chunk.pv, hmore, hwp, hgn, hz0, List.map_nil, List.length_nil]
                refine V.call rfl rfl (by simp [dOK]) ⟨20, [], by simp only [go_sem, ↓reduceIte, reduceCtorEq, Bool.false_eq_true, Bool.true_eq_false, Nat.reduceAdd, Nat.reduceLT, Nat.reduceEqDiff, Nat.reduceLeDiff, Nat.reduceSub, Nat.reduceMul], ⟨_, rfl, rfl, rfl⟩, .inl ⟨[.row (got.map Pair.pv), .row ([(⟨ps, [], more⟩ : Chunk)].map Chunk.pv)], _, .inl (by simp only [go_sem, ↓reduceIte, reduceCtorEq, Bool.false_eq_true, Bool.true_eq_false, Nat.reduceAdd, Nat.reduceLT, Nat.reduceEqDiff, Nat.reduceLeDiff, Nat.reduceSub, Nat.reduceMul, Chunk.pv, hmore, List.map_cons, List.map_nil, decide_true, decide_false]), d2, .inr (.inl ⟨_, rfl, rfl, rfl⟩)⟩⟩ ?_
                refine V.exec 400 ?_
                simp (config := {contextual := true}) only [go_sem, ↓reduceIte, reduceCtorEq, Bool.false_eq_true, Bool.true_eq_false, Nat.reduceAdd, Nat.reduceLT, Nat.reduceEqDiff, Nat.reduceLeDiff, Nat.reduceSub, Nat.reduceMul, hlv, hlf, hff, Sub.pv]
                refine V.call rfl rfl (by simp [dOK]) ⟨12, [], by simp only [go_sem, ↓reduceIte, reduceCtorEq, Bool.false_eq_true, Bool.true_eq_false, Nat.reduceAdd, Nat.reduceLT, Nat.reduceEqDiff, Nat.reduceLeDiff, Nat.reduceSub, Nat.reduceMul], ⟨_, rfl, rfl, rfl⟩, .inl ⟨[s.pv, .row ((st (mm (min bs.length (k + i)))).map Pair.pv), .row ((C.take (mm (min bs.length (k + i)))).map Change.pv), .int .i64 0, .int .i64 ps.length], _, .inl (by simp only [go_sem, ↓reduceIte, reduceCtorEq, Bool.false_eq_true, Bool.true_eq_false, Nat.reduceAdd, Nat.reduceLT, Nat.reduceEqDiff, Nat.reduceLeDiff, Nat.reduceSub, Nat.reduceMul, Sub.pv, hlf, hff, hlv]), d3, .inr (.inl ⟨_, rfl, rfl, rfl⟩)⟩⟩ ?_
                refine V.exec 400 ?_
                simp (config := {contextual := true}) only [go_sem, ↓reduceIte, reduceCtorEq, Bool.false_eq_true, Bool.true_eq_false, Nat.reduceAdd, Nat.reduceLT, Nat.reduceEqDiff, Nat.reduceLeDiff, Nat.reduceSub, Nat.reduceMul, hwi, Sub.pv]
                refine ⟨200 - (i + 1), _, _, [some 0, some 1], by omega, ⟨i + 1, s', got', rfl, hs', rfl, rfl⟩, ?_⟩
                simp only [go_sem, ↓reduceIte, reduceCtorEq, Bool.false_eq_true, Bool.true_eq_false, Nat.reduceAdd, Nat.reduceLT, Nat.reduceEqDiff, Nat.reduceLeDiff, Nat.reduceSub, Nat.reduceMul, Sub.pv]
                try decide
          · have hkp : (0 : Int) < (k : Int) := by omega
            have hek := hends k hk0 hk1
            have hwk1 : IntKind.i64.wrap ((k : Int) - 1) = ((k - 1 : Nat) : Int) := by rw [wrap_small3] <;> omega
            have hkl : ((k - 1 : Nat) : Int) < (bs.length : Int) := by omega
            simp (config := {contextual := true}) only [go_sem, ↓reduceIte, reduceCtorEq, Bool.false_eq_true, Bool.true_eq_false, Nat.reduceAdd, Nat.reduceLT, Nat.reduceEqDiff, Nat.reduceLeDiff, Nat.reduceSub, Nat.reduceMul, hok, hw0, hw1, hwa, hwb, hl10, h50, hk.symm, hel', hkp, hwk1, hek, hkl, pvZ]
            refine V.loop (fun m ls os => ∃ (i : Nat) (s : Sub) (got : List Pair), m = 200 - i ∧ Step r bs.length mm st k i s got ∧ ls = [(1, .val (.row (bs.map rowN))), (4, .adr 0 0), (17, .adr 1 0), (18, .val (.int .i64 k)), (19, .val (.int .i64 n)), (20, .val (.row (got.map Pair.pv))), (103, .val (.int .i64 i))] ∧ os = [.box true [.val (.str r.lo), .val (.str r.hi), .val (.bool (decide (r.op = true)))], .box true [.val (.int .i64 s.id), .val (.str s.r.lo), .val (.str s.r.hi), .val (.bool (decide (s.r.op = true))), .val (.bool (decide (s.live = true))), .val (.str s.next), .val (.int .i64 s.cur)]]) 2 200
              [(1, .val (.row (bs.map rowN))), (4, .adr 0 0), (17, .adr 1 0), (18, .val (.int .i64 k)), (19, .val (.int .i64 n)), (20, .val (.row ([]))), (103, .val (.int .i64 0))] [.box true [.val (.str r.lo), .val (.str r.hi), .val (.bool (decide (r.op = true)))], .box true [.val (.int .i64 0), .val (.str r.lo), .val (.str r.hi), .val (.bool (decide (r.op = true))), .val (.bool (decide (false = true))), .val (.str []), .val (.int .i64 (mm k : Int))]] [some 0, some 15]
              ⟨0, ⟨0, r, false, [], (mm k : Int)⟩, [], rfl, hstep0 (mm k) (Nat.le_refl _), rfl, rfl⟩ (by simp only [go_sem, ↓reduceIte, reduceCtorEq, Bool.false_eq_true, Bool.true_eq_false, Nat.reduceAdd, Nat.reduceLT, Nat.reduceEqDiff, Nat.reduceLeDiff, Nat.reduceSub, Nat.reduceMul, decide_false, show ((0 : Nat) : Int) = 0 from rfl]; try decide) ?_
            rintro m ls os ⟨i, s, got, rfl, hs, rfl, rfl⟩
            obtain ⟨hi200, hgl⟩ := hs.lt hrn h10
            have hi' : (i : Int) < 200 := by omega
            have hwki : IntKind.i64.wrap ((k : Int) + (i : Int)) = (k : Int) + (i : Int) := by rw [wrap_small3] <;> omega
            have hmin : (if (k : Int) + (i : Int) < (bs.length : Int) then (k : Int) + (i : Int) else (bs.length : Int)) = ((min bs.length (k + i) : Nat) : Int) := by split <;> omega
            have hwi : IntKind.i64.wrap ((i : Int) + 1) = ((i + 1 : Nat) : Int) := by rw [wrap_small3] <;> omega
            have hnl : min bs.length (k + i) ≤ bs.length := by omega
            obtain ⟨ea, hall⟩ := hrn.all _ hnl
            have c2 := batch_All [] 0 (bs.take (min bs.length (k + i))) (by simp) (by rw [List.length_take]; omega) (fun b hbm => hb b (List.mem_of_mem_take hbm)) (by decide)
            rw [hall] at c2
            simp only at c2
            have hm1 := hrn.le _ hnl
            have hClen := hrn.len
            have hstl := hrn.stlen hm1
            have htkl : (C.take (mm (min bs.length (k + i)))).length = mm (min bs.length (k + i)) := by rw [List.length_take]; omega
            have hz0 : ((0 : Nat) : Int) = 0 := rfl
            refine V.exec 400 ?_
            simp (config := {contextual := true}) only [go_sem, ↓reduceIte, reduceCtorEq, Bool.false_eq_true, Bool.true_eq_false, Nat.reduceAdd, Nat.reduceLT, Nat.reduceEqDiff, Nat.reduceLeDiff, Nat.reduceSub, Nat.reduceMul, hi', hwki, hmin]
            refine ⟨by omega, ?_⟩
            refine V.call rfl rfl (by simp [dOK]) ⟨24, [], by simp only [go_sem, ↓reduceIte, reduceCtorEq, Bool.false_eq_true, Bool.true_eq_false, Nat.reduceAdd, Nat.reduceLT, Nat.reduceEqDiff, Nat.reduceLeDiff, Nat.reduceSub, Nat.reduceMul], ⟨_, rfl, rfl, rfl⟩, .inl ⟨[.row (([] : List Pair).map Pair.pv), .int .i64 0, .row ((bs.take (min bs.length (k + i))).map rowN)], _, .inl (by simp only [go_sem, ↓reduceIte, reduceCtorEq, Bool.false_eq_true, Bool.true_eq_false, Nat.reduceAdd, Nat.reduceLT, Nat.reduceEqDiff, Nat.reduceLeDiff, Nat.reduceSub, Nat.reduceMul, List.map_nil, List.map_take]), c2, .inr (.inl ⟨_, rfl, rfl, rfl⟩)⟩⟩ ?_
            refine V.exec 400 ?_
            by_cases hlv : s.live = true
            · obtain ⟨⟨ps, cs, more⟩, got', e1, hps, e2, e3, e4, e5, hcase⟩ := step_B hrn h10 hs hlv hn1
              simp only at hps e2 e3 e5 hcase
              subst hps
              have d1 := feed_Poll s (st (mm (min bs.length (k + i)))) (C.take (mm (min bs.length (k + i)))) 0 n (by omega) (by omega)
              rw [e1] at d1
              have d2 := feed_Replay got [⟨[], cs, more⟩] (by omega) (by simp) (by intro c hc; simp at hc; subst hc; exact ⟨by simp, by show cs.length ≤ 1000; omega⟩)
              rw [e4] at d2
              simp only at d1 d2
              have hwc : IntKind.i64.wrap (0 + (cs.length : Int)) = (cs.length : Int) := by rw [wrap_small3] <;> omega
              have hgn : ¬ n < (cs.length : Int) := by omega
              simp (config := {contextual := true}) only [go_sem, ↓reduceIte, reduceCtorEq, Bool.false_eq_true, Bool.true_eq_false, Nat.reduceAdd, Nat.reduceLT, Nat.reduceEqDiff, Nat.reduceLeDiff, Nat.reduceSub, Nat.reduceMul]
              refine V.call rfl rfl (by simp [dOK]) ⟨10, [], by simp only [go_sem, ↓reduceIte, reduceCtorEq, Bool.false_eq_true, Bool.true_eq_false, Nat.reduceAdd, Nat.reduceLT, Nat.reduceEqDiff, Nat.reduceLeDiff, Nat.reduceSub, Nat.reduceMul], ⟨_, rfl, rfl, rfl⟩, .inl ⟨[s.pv, .row ((st (mm (min bs.length (k + i)))).map Pair.pv), .row ((C.take (mm (min bs.length (k + i)))).map Change.pv), .int .i64 0, .int .i64 n], _, .inl (by simp only [go_sem, ↓reduceIte, reduceCtorEq, Bool.false_eq_true, Bool.true_eq_false, Nat.reduceAdd, Nat.reduceLT, Nat.reduceEqDiff, Nat.reduceLeDiff, Nat.reduceSub, Nat.reduceMul, Sub.pv]), d1, .inr (.inl ⟨_, rfl, rfl, rfl⟩)⟩⟩ ?_
              refine V.exec 400 ?_
              by_cases hmore : more = true
              · have hpn2 : ((cs.length : Int) = n) = True := by simp [e3 hmore]
                simp (config := {contextual := true}) only [go_sem, ↓reduceIte, reduceCtorEq, Bool.false_eq_true, Bool.true_eq_false, Nat.reduceAdd, Nat.reduceLT, Nat.reduceEqDiff, Nat.reduceLeDiff, Nat.reduceSub, Nat.reduceMul, Chunk.pv, hmore, hpn2, hwc, hgn, hz0, List.map_nil, List.length_nil]
                refine V.call rfl rfl (by simp [dOK]) ⟨20, [], by simp only [go_sem, ↓reduceIte, reduceCtorEq, Bool.false_eq_true, Bool.true_eq_false, Nat.reduceAdd, Nat.reduceLT, Nat.reduceEqDiff, Nat.reduceLeDiff, Nat.reduceSub, Nat.reduceMul], ⟨_, rfl, rfl, rfl⟩, .inl ⟨[.row (got.map Pair.pv), .row ([(⟨[], cs, more⟩ : Chunk)].map Chunk.pv)], _, .inl (by simp only [go_sem, ↓reduceIte, reduceCtorEq, Bool.false_eq_true, Bool.true_eq_false, Nat.reduceAdd, Nat.reduceLT, Nat.reduceEqDiff, Nat.reduceLeDiff, Nat.reduceSub, Nat.reduceMul, Chunk.pv, hmore, List.map_cons, List.map_nil, decide_true, decide_false]), d2, .inr (.inl ⟨_, rfl, rfl, rfl⟩)⟩⟩ ?_
                refine V.exec 400 ?_
                rcases hcase with ⟨rfl, rfl, hend, hidle⟩ | ⟨hpos, x0, xl, s', hx0, hx0s, hxl, hack, hs'⟩
                · by_cases hnow : min bs.length (k + i) = bs.length
                  · have hnow' : ((min bs.length (k + i) : Nat) : Int) = (bs.length : Int) := by rw [hnow]
                    have d5 := ref03_Pick r (st (mm (min bs.length (k + i)))) (by omega)
                    rw [hend hnow] at d5
                    simp (config := {contextual := true}) only [go_sem, ↓reduceIte, reduceCtorEq, Bool.false_eq_true, Bool.true_eq_false, Nat.reduceAdd, Nat.reduceLT, Nat.reduceEqDiff, Nat.reduceLeDiff, Nat.reduceSub, Nat.reduceMul, hlv, hnow', hz0, List.map_nil, List.length_nil]
                    refine V.call rfl rfl (by simp [dOK]) ⟨25, [], by simp only [go_sem, ↓reduceIte, reduceCtorEq, Bool.false_eq_true, Bool.true_eq_false, Nat.reduceAdd, Nat.reduceLT, Nat.reduceEqDiff, Nat.reduceLeDiff, Nat.reduceSub, Nat.reduceMul], ⟨_, rfl, rfl, rfl⟩, .inl ⟨[r.pv, .row ((st (mm (min bs.length (k + i)))).map Pair.pv)], _, .inl (by simp only [go_sem, ↓reduceIte, reduceCtorEq, Bool.false_eq_true, Bool.true_eq_false, Nat.reduceAdd, Nat.reduceLT, Nat.reduceEqDiff, Nat.reduceLeDiff, Nat.reduceSub, Nat.reduceMul, Range.pv]), d5, .inr (.inl ⟨_, rfl, rfl, rfl⟩)⟩⟩ ?_
                    refine V.exec 400 ?_
                    simp (config := {contextual := true}) only [go_sem, ↓reduceIte, reduceCtorEq, Bool.false_eq_true, Bool.true_eq_false, Nat.reduceAdd, Nat.reduceLT, Nat.reduceEqDiff, Nat.reduceLeDiff, Nat.reduceSub, Nat.reduceMul]
                    refine V.call rfl rfl (by simp [dOK]) ⟨22, [], by simp only [go_sem, ↓reduceIte, reduceCtorEq, Bool.false_eq_true, Bool.true_eq_false, Nat.reduceAdd, Nat.reduceLT, Nat.reduceEqDiff, Nat.reduceLeDiff, Nat.reduceSub, Nat.reduceMul], ⟨_, rfl, rfl, rfl⟩, .inl ⟨[.row (got'.map Pair.pv), .row (got'.map Pair.pv)], _, .inl (by simp only [go_sem, ↓reduceIte, reduceCtorEq, Bool.false_eq_true, Bool.true_eq_false, Nat.reduceAdd, Nat.reduceLT, Nat.reduceEqDiff, Nat.reduceLeDiff, Nat.reduceSub, Nat.reduceMul]), ref03_Same got' got' (by omega), .inl ⟨_, rfl, rfl, rfl, rfl⟩⟩⟩ ?_
                    refine V.exec 400 ?_
                    simp (config := {contextual := true}) only [go_sem, ↓reduceIte, reduceCtorEq, Bool.false_eq_true, Bool.true_eq_false, Nat.reduceAdd, Nat.reduceLT, Nat.reduceEqDiff, Nat.reduceLeDiff, Nat.reduceSub, Nat.reduceMul, decide_true]
                    refine V.call rfl rfl (by simp [dOK]) ⟨9, [], by simp only [go_sem, ↓reduceIte, reduceCtorEq, Bool.false_eq_true, Bool.true_eq_false, Nat.reduceAdd, Nat.reduceLT, Nat.reduceEqDiff, Nat.reduceLeDiff, Nat.reduceSub, Nat.reduceMul], ⟨_, rfl, rfl, rfl⟩, .inl ⟨[], _, .inl (by simp only [go_sem, ↓reduceIte, reduceCtorEq, Bool.false_eq_true, Bool.true_eq_false, Nat.reduceAdd, Nat.reduceLT, Nat.reduceEqDiff, Nat.reduceLeDiff, Nat.reduceSub, Nat.reduceMul]), aw, .inl ⟨_, rfl, rfl, rfl, rfl⟩⟩⟩ ?_
                    refine V.exec 400 ?_
                    simp (config := {contextual := true}) only [go_sem, ↓reduceIte, reduceCtorEq, Bool.false_eq_true, Bool.true_eq_false, Nat.reduceAdd, Nat.reduceLT, Nat.reduceEqDiff, Nat.reduceLeDiff, Nat.reduceSub, Nat.reduceMul]
                  · have hnow' : ¬ ((min bs.length (k + i) : Nat) : Int) = (bs.length : Int) := by omega
                    have hz1 : ¬ (0 : Int) < 0 := by decide
                    simp (config := {contextual := true}) only [go_sem, ↓reduceIte, reduceCtorEq, Bool.false_eq_true, Bool.true_eq_false, Nat.reduceAdd, Nat.reduceLT, Nat.reduceEqDiff, Nat.reduceLeDiff, Nat.reduceSub, Nat.reduceMul, hlv, hnow', hz0, hz1, hwi, List.map_nil, List.length_nil]
                    refine ⟨200 - (i + 1), _, _, [some 0, some 1], by omega, ⟨i + 1, s, got', rfl, hidle (by omega), rfl, rfl⟩, ?_⟩
                    simp only [go_sem, ↓reduceIte, reduceCtorEq, Bool.false_eq_true, Bool.true_eq_false, Nat.reduceAdd, Nat.reduceLT, Nat.reduceEqDiff, Nat.reduceLeDiff, Nat.reduceSub, Nat.reduceMul, Sub.pv, hlv, decide_true]
                    try decide
                · have hc0 : ¬ (cs.length : Int) = 0 := by omega
                  have hc1 : (0 : Int) < (cs.length : Int) := by omega
                  have hle : ¬ x0.seq ≤ s.cur := by omega
                  have hwm : IntKind.i64.wrap ((cs.length : Int) - 1) = ((cs.length - 1 : Nat) : Int) := by rw [wrap_small3] <;> omega
                  have hlm : ((cs.length - 1 : Nat) : Int) < (cs.length : Int) := by omega
                  have d3 := feed_Ack s (mm (min bs.length (k + i)) : Nat) xl.seq
                  rw [hack] at d3
                  simp only at d3
                  have hz1 : (0 : Int) ≤ 0 := by decide
                  have t0 : Int.toNat 0 = 0 := rfl
                  by_cases hnow' : ((min bs.length (k + i) : Nat) : Int) = (bs.length : Int)
                  · simp (config := {contextual := true}) only [go_sem, ↓reduceIte, reduceCtorEq, Bool.false_eq_true, Bool.true_eq_false, Nat.reduceAdd, Nat.reduceLT, Nat.reduceEqDiff, Nat.reduceLeDiff, Nat.reduceSub, Nat.reduceMul, hlv, hnow', hc0, hc1, hx0, hle, hz1, t0, hwm, hlm, hxl, Change.pv, htkl]
                    refine ⟨by kernel_rfl, ?_⟩
                    refine DV.call [] [] (by simp only [go_sem, ↓reduceIte, reduceCtorEq, Bool.false_eq_true, Bool.true_eq_false, Nat.reduceAdd, Nat.reduceLT, Nat.reduceEqDiff, Nat.reduceLeDiff, Nat.reduceSub, Nat.reduceMul, Sub.pv, hlv, decide_true]) (by simp [dOK]) ⟨14, [], by simp only [go_sem, ↓reduceIte, reduceCtorEq, Bool.false_eq_true, Bool.true_eq_false, Nat.reduceAdd, Nat.reduceLT, Nat.reduceEqDiff, Nat.reduceLeDiff, Nat.reduceSub, Nat.reduceMul, Sub.pv, hlv, decide_true], ⟨_, rfl, rfl, rfl⟩, .inl ⟨[s.pv, .int .i64 (mm (min bs.length (k + i)) : Nat), .int .i64 xl.seq], _, .inl (by simp only [go_sem, ↓reduceIte, reduceCtorEq, Bool.false_eq_true, Bool.true_eq_false, Nat.reduceAdd, Nat.reduceLT, Nat.reduceEqDiff, Nat.reduceLeDiff, Nat.reduceSub, Nat.reduceMul, Sub.pv, hlv, decide_true]), d3, .inr (.inl ⟨_, rfl, rfl, rfl⟩)⟩⟩ (by simp only [go_sem, ↓reduceIte, reduceCtorEq, Bool.false_eq_true, Bool.true_eq_false, Nat.reduceAdd, Nat.reduceLT, Nat.reduceEqDiff, Nat.reduceLeDiff, Nat.reduceSub, Nat.reduceMul, Sub.pv, hlv, decide_true]) (by simp only [go_sem, ↓reduceIte, reduceCtorEq, Bool.false_eq_true, Bool.true_eq_false, Nat.reduceAdd, Nat.reduceLT, Nat.reduceEqDiff, Nat.reduceLeDiff, Nat.reduceSub, Nat.reduceMul, Sub.pv, hlv, decide_true]) (by simp only [go_sem, ↓reduceIte, reduceCtorEq, Bool.false_eq_true, Bool.true_eq_false, Nat.reduceAdd, Nat.reduceLT, Nat.reduceEqDiff, Nat.reduceLeDiff, Nat.reduceSub, Nat.reduceMul, Sub.pv, hlv, decide_true]) (by simp) ?_
                    refine DV.exec 400 ?_
                    simp (config := {contextual := true}) only [go_sem, ↓reduceIte, reduceCtorEq, Bool.false_eq_true, Bool.true_eq_false, Nat.reduceAdd, Nat.reduceLT, Nat.reduceEqDiff, Nat.reduceLeDiff, Nat.reduceSub, Nat.reduceMul, hwi, Sub.pv]
                    refine ⟨by kernel_rfl, 200 - (i + 1), _, _, [some 0, some 1], by omega, ⟨i + 1, s', got', rfl, hs', rfl, rfl⟩, ?_⟩
                    simp only [go_sem, ↓reduceIte, reduceCtorEq, Bool.false_eq_true, Bool.true_eq_false, Nat.reduceAdd, Nat.reduceLT, Nat.reduceEqDiff, Nat.reduceLeDiff, Nat.reduceSub, Nat.reduceMul, Sub.pv]
                    try decide
                  · simp (config := {contextual := true}) only [go_sem, ↓reduceIte, reduceCtorEq, Bool.false_eq_true, Bool.true_eq_false, Nat.reduceAdd, Nat.reduceLT, Nat.reduceEqDiff, Nat.reduceLeDiff, Nat.reduceSub, Nat.reduceMul, hlv, hnow', hc0, hc1, hx0, hle, hz1, t0, hwm, hlm, hxl, Change.pv, htkl]
                    refine ⟨by kernel_rfl, ?_⟩
                    refine DV.call [] [] (by simp only [go_sem, ↓reduceIte, reduceCtorEq, Bool.false_eq_true, Bool.true_eq_false, Nat.reduceAdd, Nat.reduceLT, Nat.reduceEqDiff, Nat.reduceLeDiff, Nat.reduceSub, Nat.reduceMul, Sub.pv, hlv, decide_true]) (by simp [dOK]) ⟨14, [], by simp only [go_sem, ↓reduceIte, reduceCtorEq, Bool.false_eq_true, Bool.true_eq_false, Nat.reduceAdd, Nat.reduceLT, Nat.reduceEqDiff, Nat.reduceLeDiff, Nat.reduceSub, Nat.reduceMul, Sub.pv, hlv, decide_true], ⟨_, rfl, rfl, rfl⟩, .inl ⟨[s.pv, .int .i64 (mm (min bs.length (k + i)) : Nat), .int .i64 xl.seq], _, .inl (by simp only [go_sem, ↓reduceIte, reduceCtorEq, Bool.false_eq_true, Bool.true_eq_false, Nat.reduceAdd, Nat.reduceLT, Nat.reduceEqDiff, Nat.reduceLeDiff, Nat.reduceSub, Nat.reduceMul, Sub.pv, hlv, decide_true]), d3, .inr (.inl ⟨_, rfl, rfl, rfl⟩)⟩⟩ (by simp only [go_sem, ↓reduceIte, reduceCtorEq, Bool.false_eq_true, Bool.true_eq_false, Nat.reduceAdd, Nat.reduceLT, Nat.reduceEqDiff, Nat.reduceLeDiff, Nat.reduceSub, Nat.reduceMul, Sub.pv, hlv, decide_true]) (by simp only [go_sem, ↓reduceIte, reduceCtorEq, Bool.false_eq_true, Bool.true_eq_false, Nat.reduceAdd, Nat.reduceLT, Nat.reduceEqDiff, Nat.reduceLeDiff, Nat.reduceSub, Nat.reduceMul, Sub.pv, hlv, decide_true]) (by simp only [go_sem, ↓reduceIte, reduceCtorEq, Bool.false_eq_true, Bool.true_eq_false, Nat.reduceAdd, Nat.reduceLT, Nat.reduceEqDiff, Nat.reduceLeDiff, Nat.reduceSub, Nat.reduceMul, Sub.pv, hlv, decide_true]) (by simp) ?_
                    refine DV.exec 400 ?_
                    simp (config := {contextual := true}) only [go_sem, ↓reduceIte, reduceCtorEq, Bool.false_eq_true, Bool.true_eq_false, Nat.reduceAdd, Nat.reduceLT, Nat.reduceEqDiff, Nat.reduceLeDiff, Nat.reduceSub, Nat.reduceMul, hwi, Sub.pv]
                    refine ⟨by kernel_rfl, 200 - (i + 1), _, _, [some 0, some 1], by omega, ⟨i + 1, s', got', rfl, hs', rfl, rfl⟩, ?_⟩
                    simp only [go_sem, ↓reduceIte, reduceCtorEq, Bool.false_eq_true, Bool.true_eq_false, Nat.reduceAdd, Nat.reduceLT, Nat.reduceEqDiff, Nat.reduceLeDiff, Nat.reduceSub, Nat.reduceMul, Sub.pv]
                    try decide
              · simp (config := {contextual := true}) only [go_sem, ↓reduceIte, reduceCtorEq, Bool.false_eq_true, Bool.true_eq_false, Nat.reduceAdd, Nat.reduceLT, Nat.reduceEqDiff, Nat.reduceLeDiff, Nat.reduceSub, Nat.reduceMul, Chunk.pv, hmore, hwc, hgn, hz0, List.map_nil, List.length_nil]
                refine V.call rfl rfl (by simp [dOK]) ⟨20, [], by simp only [go_sem, ↓reduceIte, reduceCtorEq, Bool.false_eq_true, Bool.true_eq_false, Nat.reduceAdd, Nat.reduceLT, Nat.reduceEqDiff, Nat.reduceLeDiff, Nat.reduceSub, Nat.reduceMul], ⟨_, rfl, rfl, rfl⟩, .inl ⟨[.row (got.map Pair.pv), .row ([(⟨[], cs, more⟩ : Chunk)].map Chunk.pv)], _, .inl (by simp only [go_sem, ↓reduceIte, reduceCtorEq, Bool.false_eq_true, Bool.true_eq_false, Nat.reduceAdd, Nat.reduceLT, Nat.reduceEqDiff, Nat.reduceLeDiff, Nat.reduceSub, Nat.reduceMul, Chunk.pv, hmore, List.map_cons, List.map_nil, decide_true, decide_false]), d2, .inr (.inl ⟨_, rfl, rfl, rfl⟩)⟩⟩ ?_
                refine V.exec 400 ?_
                rcases hcase with ⟨rfl, rfl, hend, hidle⟩ | ⟨hpos, x0, xl, s', hx0, hx0s, hxl, hack, hs'⟩
                · by_cases hnow : min bs.length (k + i) = bs.length
                  · have hnow' : ((min bs.length (k + i) : Nat) : Int) = (bs.length : Int) := by rw [hnow]
                    have d5 := ref03_Pick r (st (mm (min bs.length (k + i)))) (by omega)
                    rw [hend hnow] at d5
                    simp (config := {contextual := true}) only [go_sem, ↓reduceIte, reduceCtorEq, Bool.false_eq_true, Bool.true_eq_false, Nat.reduceAdd, Nat.reduceLT, Nat.reduceEqDiff, Nat.reduceLeDiff, Nat.reduceSub, Nat.reduceMul, hlv, hnow', hz0, List.map_nil, List.length_nil]
                    refine V.call rfl rfl (by simp [dOK]) ⟨25, [], by simp only [go_sem, ↓reduceIte, reduceCtorEq, Bool.false_eq_true, Bool.true_eq_false, Nat.reduceAdd, Nat.reduceLT, Nat.reduceEqDiff, Nat.reduceLeDiff, Nat.reduceSub, Nat.reduceMul], ⟨_, rfl, rfl, rfl⟩, .inl ⟨[r.pv, .row ((st (mm (min bs.length (k + i)))).map Pair.pv)], _, .inl (by simp only [go_sem, ↓reduceIte, reduceCtorEq, Bool.false_eq_true, Bool.true_eq_false, Nat.reduceAdd, Nat.reduceLT, Nat.reduceEqDiff, Nat.reduceLeDiff, Nat.reduceSub, Nat.reduceMul, Range.pv]), d5, .inr (.inl ⟨_, rfl, rfl, rfl⟩)⟩⟩ ?_
                    refine V.exec 400 ?_
                    simp (config := {contextual := true}) only [go_sem, ↓reduceIte, reduceCtorEq, Bool.false_eq_true, Bool.true_eq_false, Nat.reduceAdd, Nat.reduceLT, Nat.reduceEqDiff, Nat.reduceLeDiff, Nat.reduceSub, Nat.reduceMul]
                    refine V.call rfl rfl (by simp [dOK]) ⟨22, [], by simp only [go_sem, ↓reduceIte, reduceCtorEq, Bool.false_eq_true, Bool.true_eq_false, Nat.reduceAdd, Nat.reduceLT, Nat.reduceEqDiff, Nat.reduceLeDiff, Nat.reduceSub, Nat.reduceMul], ⟨_, rfl, rfl, rfl⟩, .inl ⟨[.row (got'.map Pair.pv), .row (got'.map Pair.pv)], _, .inl (by simp only [go_sem, ↓reduceIte, reduceCtorEq, Bool.false_eq_true, Bool.true_eq_false, Nat.reduceAdd, Nat.reduceLT, Nat.reduceEqDiff, Nat.reduceLeDiff, Nat.reduceSub, Nat.reduceMul]), ref03_Same got' got' (by omega), .inl ⟨_, rfl, rfl, rfl, rfl⟩⟩⟩ ?_
                    refine V.exec 400 ?_
                    simp (config := {contextual := true}) only [go_sem, ↓reduceIte, reduceCtorEq, Bool.false_eq_true, Bool.true_eq_false, Nat.reduceAdd, Nat.reduceLT, Nat.reduceEqDiff, Nat.reduceLeDiff, Nat.reduceSub, Nat.reduceMul, decide_true]
                    refine V.call rfl rfl (by simp [dOK]) ⟨9, [], by simp only [go_sem, ↓reduceIte, reduceCtorEq, Bool.false_eq_true, Bool.true_eq_false, Nat.reduceAdd, Nat.reduceLT, Nat.reduceEqDiff, Nat.reduceLeDiff, Nat.reduceSub, Nat.reduceMul], ⟨_, rfl, rfl, rfl⟩, .inl ⟨[], _, .inl (by simp only [go_sem, ↓reduceIte, reduceCtorEq, Bool.false_eq_true, Bool.true_eq_false, Nat.reduceAdd, Nat.reduceLT, Nat.reduceEqDiff, Nat.reduceLeDiff, Nat.reduceSub, Nat.reduceMul]), aw, .inl ⟨_, rfl, rfl, rfl, rfl⟩⟩⟩ ?_
                    refine V.exec 400 ?_
                    simp (config := {contextual := true}) only [go_sem, ↓reduceIte, reduceCtorEq, Bool.false_eq_true, Bool.true_eq_false, Nat.reduceAdd, Nat.reduceLT, Nat.reduceEqDiff, Nat.reduceLeDiff, Nat.reduceSub, Nat.reduceMul]
                  · have hnow' : ¬ ((min bs.length (k + i) : Nat) : Int) = (bs.length : Int) := by omega
                    have hz1 : ¬ (0 : Int) < 0 := by decide
                    simp (config := {contextual := true}) only [go_sem, ↓reduceIte, reduceCtorEq, Bool.false_eq_true, Bool.true_eq_false, Nat.reduceAdd, Nat.reduceLT, Nat.reduceEqDiff, Nat.reduceLeDiff, Nat.reduceSub, Nat.reduceMul, hlv, hnow', hz0, hz1, hwi, List.map_nil, List.length_nil]
                    refine ⟨200 - (i + 1), _, _, [some 0, some 1], by omega, ⟨i + 1, s, got', rfl, hidle (by omega), rfl, rfl⟩, ?_⟩
                    simp only [go_sem, ↓reduceIte, reduceCtorEq, Bool.false_eq_true, Bool.true_eq_false, Nat.reduceAdd, Nat.reduceLT, Nat.reduceEqDiff, Nat.reduceLeDiff, Nat.reduceSub, Nat.reduceMul, Sub.pv, hlv, decide_true]
                    try decide
                · have hc0 : ¬ (cs.length : Int) = 0 := by omega
                  have hc1 : (0 : Int) < (cs.length : Int) := by omega
                  have hle : ¬ x0.seq ≤ s.cur := by omega
                  have hwm : IntKind.i64.wrap ((cs.length : Int) - 1) = ((cs.length - 1 : Nat) : Int) := by rw [wrap_small3] <;> omega
                  have hlm : ((cs.length - 1 : Nat) : Int) < (cs.length : Int) := by omega
                  have d3 := feed_Ack s (mm (min bs.length (k + i)) : Nat) xl.seq
                  rw [hack] at d3
                  simp only at d3
                  have hz1 : (0 : Int) ≤ 0 := by decide
                  have t0 : Int.toNat 0 = 0 := rfl
                  by_cases hnow' : ((min bs.length (k + i) : Nat) : Int) = (bs.length : Int)
                  · simp (config := {contextual := true}) only [go_sem, ↓reduceIte, reduceCtorEq, Bool.false_eq_true, Bool.true_eq_false, Nat.reduceAdd, Nat.reduceLT, Nat.reduceEqDiff, Nat.reduceLeDiff, Nat.reduceSub, Nat.reduceMul, hlv, hnow', hc0, hc1, hx0, hle, hz1, t0, hwm, hlm, hxl, Change.pv, htkl]
                    refine ⟨by kernel_rfl, ?_⟩
                    refine DV.call [] [] (by simp only [go_sem, ↓reduceIte, reduceCtorEq, Bool.false_eq_true, Bool.true_eq_false, Nat.reduceAdd, Nat.reduceLT, Nat.reduceEqDiff, Nat.reduceLeDiff, Nat.reduceSub, Nat.reduceMul, Sub.pv, hlv, decide_true]) (by simp [dOK]) ⟨14, [], by simp only [go_sem, ↓reduceIte, reduceCtorEq, Bool.false_eq_true, Bool.true_eq_false, Nat.reduceAdd, Nat.reduceLT, Nat.reduceEqDiff, Nat.reduceLeDiff, Nat.reduceSub, Nat.reduceMul, Sub.pv, hlv, decide_true], ⟨_, rfl, rfl, rfl⟩, .inl ⟨[s.pv, .int .i64 (mm (min bs.length (k + i)) : Nat), .int .i64 xl.seq], _, .inl (by simp only [go_sem, ↓reduceIte, reduceCtorEq, Bool.false_eq_true, Bool.true_eq_false, Nat.reduceAdd, Nat.reduceLT, Nat.reduceEqDiff, Nat.reduceLeDiff, Nat.reduceSub, Nat.reduceMul, Sub.pv, hlv, decide_true]), d3, .inr (.inl ⟨_, rfl, rfl, rfl⟩)⟩⟩ (by simp only [go_sem, ↓reduceIte, reduceCtorEq, Bool.false_eq_true, Bool.true_eq_false, Nat.reduceAdd, Nat.reduceLT, Nat.reduceEqDiff, Nat.reduceLeDiff, Nat.reduceSub, Nat.reduceMul, Sub.pv, hlv, decide_true]) (by simp only [go_sem, ↓reduceIte, reduceCtorEq, Bool.false_eq_true, Bool.true_eq_false, Nat.reduceAdd, Nat.reduceLT, Nat.reduceEqDiff, Nat.reduceLeDiff, Nat.reduceSub, Nat.reduceMul, Sub.pv, hlv, decide_true]) (by simp only [go_sem, ↓reduceIte, reduceCtorEq, Bool.false_eq_true, Bool.true_eq_false, Nat.reduceAdd, Nat.reduceLT, Nat.reduceEqDiff, Nat.reduceLeDiff, Nat.reduceSub, Nat.reduceMul, Sub.pv, hlv, decide_true]) (by simp) ?_
                    refine DV.exec 400 ?_
                    simp (config := {contextual := true}) only [go_sem, ↓reduceIte, reduceCtorEq, Bool.false_eq_true, Bool.true_eq_false, Nat.reduceAdd, Nat.reduceLT, Nat.reduceEqDiff, Nat.reduceLeDiff, Nat.reduceSub, Nat.reduceMul, hwi, Sub.pv]
                    refine ⟨by kernel_rfl, 200 - (i + 1), _, _, [some 0, some 1], by omega, ⟨i + 1, s', got', rfl, hs', rfl, rfl⟩, ?_⟩
                    simp only [go_sem, ↓reduceIte, reduceCtorEq, Bool.false_eq_true, Bool.true_eq_false, Nat.reduceAdd, Nat.reduceLT, Nat.reduceEqDiff, Nat.reduceLeDiff, Nat.reduceSub, Nat.reduceMul, Sub.pv]
                    try decide
                  · simp (config := {contextual := true}) only [go_sem, ↓reduceIte, reduceCtorEq, Bool.false_eq_true, Bool.true_eq_false, Nat.reduceAdd, Nat.reduceLT, Nat.reduceEqDiff, Nat.reduceLeDiff, Nat.reduceSub, Nat.reduceMul, hlv, hnow', hc0, hc1, hx0, hle, hz1, t0, hwm, hlm, hxl, Change.pv, htkl]
                    refine ⟨by kernel_rfl, ?_⟩
                    refine DV.call [] [] (by simp only [go_sem, ↓reduceIte, reduceCtorEq, Bool.false_eq_true, Bool.true_eq_false, Nat.reduceAdd, Nat.reduceLT, Nat.reduceEqDiff, Nat.reduceLeDiff, Nat.reduceSub, Nat.reduceMul, Sub.pv, hlv, decide_true]) (by simp [dOK]) ⟨14, [], by simp only [go_sem, ↓reduceIte, reduceCtorEq, Bool.false_eq_true, Bool.true_eq_false, Nat.reduceAdd, Nat.reduceLT, Nat.reduceEqDiff, Nat.reduceLeDiff, Nat.reduceSub, Nat.reduceMul, Sub.pv, hlv, decide_true], ⟨_, rfl, rfl, rfl⟩, .inl ⟨[s.pv, .int .i64 (mm (min bs.length (k + i)) : Nat), .int .i64 xl.seq], _, .inl (by simp only [go_sem, ↓reduceIte, reduceCtorEq, Bool.false_eq_true, Bool.true_eq_false, Nat.reduceAdd, Nat.reduceLT, Nat.reduceEqDiff, Nat.reduceLeDiff, Nat.reduceSub, Nat.reduceMul, Sub.pv, hlv, decide_true]), d3, .inr (.inl ⟨_, rfl, rfl, rfl⟩)⟩⟩ (by simp only [go_sem, ↓reduceIte, reduceCtorEq, Bool.false_eq_true, Bool.true_eq_false, Nat.reduceAdd, Nat.reduceLT, Nat.reduceEqDiff, Nat.reduceLeDiff, Nat.reduceSub, Nat.reduceMul, Sub.pv, hlv, decide_true]) (by simp only [go_sem, ↓reduceIte, reduceCtorEq, Bool.false_eq_true, Bool.true_eq_false, Nat.reduceAdd, Nat.reduceLT, Nat.reduceEqDiff, Nat.reduceLeDiff, Nat.reduceSub, Nat.reduceMul, Sub.pv, hlv, decide_true]) (by simp only [go_sem, ↓reduceIte, reduceCtorEq, Bool.false_eq_true, Bool.true_eq_false, Nat.reduceAdd, Nat.reduceLT, Nat.reduceEqDiff, Nat.reduceLeDiff, Nat.reduceSub, Nat.reduceMul, Sub.pv, hlv, decide_true]) (by simp) ?_
                    refine DV.exec 400 ?_
                    simp (config := {contextual := true}) only [go_sem, ↓reduceIte, reduceCtorEq, Bool.false_eq_true, Bool.true_eq_false, Nat.reduceAdd, Nat.reduceLT, Nat.reduceEqDiff, Nat.reduceLeDiff, Nat.reduceSub, Nat.reduceMul, hwi, Sub.pv]
                    refine ⟨by kernel_rfl, 200 - (i + 1), _, _, [some 0, some 1], by omega, ⟨i + 1, s', got', rfl, hs', rfl, rfl⟩, ?_⟩
                    simp only [go_sem, ↓reduceIte, reduceCtorEq, Bool.false_eq_true, Bool.true_eq_false, Nat.reduceAdd, Nat.reduceLT, Nat.reduceEqDiff, Nat.reduceLeDiff, Nat.reduceSub, Nat.reduceMul, Sub.pv]
                    try decide
            · have hlf : s.live = false := by simpa using hlv
              obtain ⟨⟨ps, cs, more⟩, s', got', e1, hcs, e2, e3, e4, e5, e6, hs'⟩ := step_A hrn h10 hs hlf hn1
              simp only at hcs e2 e3 e5 e6
              subst hcs
              have hff : decide ((false : Bool) = true) = false := rfl
              have d1 := feed_Poll s (st (mm (min bs.length (k + i)))) (C.take (mm (min bs.length (k + i)))) 0 n (by omega) (by omega)
              rw [e1] at d1
              have d2 := feed_Replay got [⟨ps, [], more⟩] (by omega) (by simp) (by intro c hc; simp at hc; subst hc; exact ⟨by show ps.length ≤ 1000; omega, by simp⟩)
              rw [e4] at d2
              have d3 := feed_Took s (st (mm (min bs.length (k + i)))) (C.take (mm (min bs.length (k + i)))) 0 (ps.length : Int) (by omega) (by omega)
              rw [e6] at d3
              simp only at d1 d2 d3
              have hwp : IntKind.i64.wrap ((ps.length : Int) + 0) = (ps.length : Int) := by rw [wrap_small3] <;> omega
              have hgn : ¬ n < (ps.length : Int) := by omega
              simp (config := {contextual := true}) only [go_sem, ↓reduceIte, reduceCtorEq, Bool.false_eq_true, Bool.true_eq_false, Nat.reduceAdd, Nat.reduceLT, Nat.reduceEqDiff, Nat.reduceLeDiff, Nat.reduceSub, Nat.reduceMul]
              refine V.call rfl rfl (by simp [dOK]) ⟨10, [], by simp only [go_sem, ↓reduceIte, reduceCtorEq, Bool.false_eq_true, Bool.true_eq_false, Nat.reduceAdd, Nat.reduceLT, Nat.reduceEqDiff, Nat.reduceLeDiff, Nat.reduceSub, Nat.reduceMul], ⟨_, rfl, rfl, rfl⟩, .inl ⟨[s.pv, .row ((st (mm (min bs.length (k + i)))).map Pair.pv), .row ((C.take (mm (min bs.length (k + i)))).map Change.pv), .int .i64 0, .int .i64 n], _, .inl (by simp only [go_sem, ↓reduceIte, reduceCtorEq, Bool.false_eq_true, Bool.true_eq_false, Nat.reduceAdd, Nat.reduceLT, Nat.reduceEqDiff, Nat.reduceLeDiff, Nat.reduceSub, Nat.reduceMul, Sub.pv, List.map_take]), d1, .inr (.inl ⟨_, rfl, rfl, rfl⟩)⟩⟩ ?_
              refine V.exec 400 ?_
              by_cases hmore : more = true
              · have hpn := e3 hmore
                have hwn : IntKind.i64.wrap (n + 0) = n := by rw [wrap_small3] <;> omega
                have hnn2 : ¬ n < n := by omega
                simp (config := {contextual := true}) only [go_sem, ↓reduceIte, reduceCtorEq, Bool.false_eq_true, Bool.true_eq_false, Nat.reduceAdd, Nat.reduceLT, Nat.reduceEqDiff, Nat.reduceLeDiff, Nat.reduceSub, Nat.reduceMul, Chunk.pv, hmore, hpn, hwn, hnn2, hz0, List.map_nil, List.length_nil]
                refine V.call rfl rfl (by simp [dOK]) ⟨20, [], by simp only [go_sem, ↓reduceIte, reduceCtorEq, Bool.false_eq_true, Bool.true_eq_false, Nat.reduceAdd, Nat.reduceLT, Nat.reduceEqDiff, Nat.reduceLeDiff, Nat.reduceSub, Nat.reduceMul], ⟨_, rfl, rfl, rfl⟩, .inl ⟨[.row (got.map Pair.pv), .row ([(⟨ps, [], more⟩ : Chunk)].map Chunk.pv)], _, .inl (by simp only [go_sem, ↓reduceIte, reduceCtorEq, Bool.false_eq_true, Bool.true_eq_false, Nat.reduceAdd, Nat.reduceLT, Nat.reduceEqDiff, Nat.reduceLeDiff, Nat.reduceSub, Nat.reduceMul, Chunk.pv, hmore, List.map_cons, List.map_nil, decide_true, decide_false]), d2, .inr (.inl ⟨_, rfl, rfl, rfl⟩)⟩⟩ ?_
                refine V.exec 400 ?_
                simp (config := {contextual := true}) only [go_sem, ↓reduceIte, reduceCtorEq, Bool.false_eq_true, Bool.true_eq_false, Nat.reduceAdd, Nat.reduceLT, Nat.reduceEqDiff, Nat.reduceLeDiff, Nat.reduceSub, Nat.reduceMul, hlv, hlf, hff, Sub.pv]
                refine V.call rfl rfl (by simp [dOK]) ⟨12, [], by simp only [go_sem, ↓reduceIte, reduceCtorEq, Bool.false_eq_true, Bool.true_eq_false, Nat.reduceAdd, Nat.reduceLT, Nat.reduceEqDiff, Nat.reduceLeDiff, Nat.reduceSub, Nat.reduceMul], ⟨_, rfl, rfl, rfl⟩, .inl ⟨[s.pv, .row ((st (mm (min bs.length (k + i)))).map Pair.pv), .row ((C.take (mm (min bs.length (k + i)))).map Change.pv), .int .i64 0, .int .i64 ps.length], _, .inl (by simp only [go_sem, ↓reduceIte, reduceCtorEq, Bool.false_eq_true, Bool.true_eq_false, Nat.reduceAdd, Nat.reduceLT, Nat.reduceEqDiff, Nat.reduceLeDiff, Nat.reduceSub, Nat.reduceMul, hpn, Sub.pv, hlf, hff, hlv]), d3, .inr (.inl ⟨_, rfl, rfl, rfl⟩)⟩⟩ ?_
                refine V.exec 400 ?_
                simp (config := {contextual := true}) only [go_sem, ↓reduceIte, reduceCtorEq, Bool.false_eq_true, Bool.true_eq_false, Nat.reduceAdd, Nat.reduceLT, Nat.reduceEqDiff, Nat.reduceLeDiff, Nat.reduceSub, Nat.reduceMul, hwi, Sub.pv]
                refine ⟨200 - (i + 1), _, _, [some 0, some 1], by omega, ⟨i + 1, s', got', rfl, hs', rfl, rfl⟩, ?_⟩
                simp only [go_sem, ↓reduceIte, reduceCtorEq, Bool.false_eq_true, Bool.true_eq_false, Nat.reduceAdd, Nat.reduceLT, Nat.reduceEqDiff, Nat.reduceLeDiff, Nat.reduceSub, Nat.reduceMul, Sub.pv]
                try decide
              · simp (config := {contextual := true}) only [go_sem, ↓reduceIte, reduceCtorEq, Bool.false_eq_true, Bool.true_eq_false, Nat.reduceAdd, Nat.reduceLT, Nat.reduceEqDiff, Nat.reduceLeDiff, Nat.reduceSub, Nat.reduceMul, Chunk.pv, hmore, hwp, hgn, hz0, List.map_nil, List.length_nil]
                refine V.call rfl rfl (by simp [dOK]) ⟨20, [], by simp only [go_sem, ↓reduceIte, reduceCtorEq, Bool.false_eq_true, Bool.true_eq_false, Nat.reduceAdd, Nat.reduceLT, Nat.reduceEqDiff, Nat.reduceLeDiff, Nat.reduceSub, Nat.reduceMul], ⟨_, rfl, rfl, rfl⟩, .inl ⟨[.row (got.map Pair.pv), .row ([(⟨ps, [], more⟩ : Chunk)].map Chunk.pv)], _, .inl (by simp only [go_sem, ↓reduceIte, reduceCtorEq, Bool.false_eq_true, Bool.true_eq_false, Nat.reduceAdd, Nat.reduceLT, Nat.reduceEqDiff, Nat.reduceLeDiff, Nat.reduceSub, Nat.reduceMul, Chunk.pv, hmore, List.map_cons, List.map_nil, decide_true, decide_false]), d2, .inr (.inl ⟨_, rfl, rfl, rfl⟩)⟩⟩ ?_
                refine V.exec 400 ?_
                simp (config := {contextual := true}) only [go_sem, ↓reduceIte, reduceCtorEq, Bool.false_eq_true, Bool.true_eq_false, Nat.reduceAdd, Nat.reduceLT, Nat.reduceEqDiff, Nat.reduceLeDiff, Nat.reduceSub, Nat.reduceMul, hlv, hlf, hff, Sub.pv]
                refine V.call rfl rfl (by simp [dOK]) ⟨12, [], by simp only [go_sem, ↓reduceIte, reduceCtorEq, Bool.false_eq_true, Bool.true_eq_false, Nat.reduceAdd, Nat.reduceLT, Nat.reduceEqDiff, Nat.reduceLeDiff, Nat.reduceSub, Nat.reduceMul], ⟨_, rfl, rfl, rfl⟩, .inl ⟨[s.pv, .row ((st (mm (min bs.length (k + i)))).map Pair.pv), .row ((C.take (mm (min bs.length (k + i)))).map Change.pv), .int .i64 0, .int .i64 ps.length], _, .inl (by simp only [go_sem, ↓reduceIte, reduceCtorEq, Bool.false_eq_true, Bool.true_eq_false, Nat.reduceAdd, Nat.reduceLT, Nat.reduceEqDiff, Nat.reduceLeDiff, Nat.reduceSub, Nat.reduceMul, Sub.pv, hlf, hff, hlv]), d3, .inr (.inl ⟨_, rfl, rfl, rfl⟩)⟩⟩ ?_
                refine V.exec 400 ?_
                simp (config := {contextual := true}) only [go_sem, ↓reduceIte, reduceCtorEq, Bool.false_eq_true, Bool.true_eq_false, Nat.reduceAdd, Nat.reduceLT, Nat.reduceEqDiff, Nat.reduceLeDiff, Nat.reduceSub, Nat.reduceMul, hwi, Sub.pv]
                refine ⟨200 - (i + 1), _, _, [some 0, some 1], by omega, ⟨i + 1, s', got', rfl, hs', rfl, rfl⟩, ?_⟩
                simp only [go_sem, ↓reduceIte, reduceCtorEq, Bool.false_eq_true, Bool.true_eq_false, Nat.reduceAdd, Nat.reduceLT, Nat.reduceEqDiff, Nat.reduceLeDiff, Nat.reduceSub, Nat.reduceMul, Sub.pv]
                try decide
        · simp (config := {contextual := true}) only [go_sem, ↓reduceIte, reduceCtorEq, Bool.false_eq_true, Bool.true_eq_false, Nat.reduceAdd, Nat.reduceLT, Nat.reduceEqDiff, Nat.reduceLeDiff, Nat.reduceSub, Nat.reduceMul, hok]
          refine V.call rfl rfl (by simp [dOK]) ⟨9, [], by simp only [go_sem, ↓reduceIte, reduceCtorEq, Bool.false_eq_true, Bool.true_eq_false, Nat.reduceAdd, Nat.reduceLT, Nat.reduceEqDiff, Nat.reduceLeDiff, Nat.reduceSub, Nat.reduceMul], ⟨_, rfl, rfl, rfl⟩, .inl ⟨[], _, .inl (by simp only [go_sem, ↓reduceIte, reduceCtorEq, Bool.false_eq_true, Bool.true_eq_false, Nat.reduceAdd, Nat.reduceLT, Nat.reduceEqDiff, Nat.reduceLeDiff, Nat.reduceSub, Nat.reduceMul]), aw, .inl ⟨_, rfl, rfl, rfl, rfl⟩⟩⟩ ?_
          refine V.exec 400 ?_
          simp (config := {contextual := true}) only [go_sem, ↓reduceIte, reduceCtorEq, Bool.false_eq_true, Bool.true_eq_false, Nat.reduceAdd, Nat.reduceLT, Nat.reduceEqDiff, Nat.reduceLeDiff, Nat.reduceSub, Nat.reduceMul]
      · simp (config := {contextual := true}) only [go_sem, ↓reduceIte, reduceCtorEq, Bool.false_eq_true, Bool.true_eq_false, Nat.reduceAdd, Nat.reduceLT, Nat.reduceEqDiff, Nat.reduceLeDiff, Nat.reduceSub, Nat.reduceMul, he]
        refine V.call rfl rfl (by simp [dOK]) ⟨9, [], by simp only [go_sem, ↓reduceIte, reduceCtorEq, Bool.false_eq_true, Bool.true_eq_false, Nat.reduceAdd, Nat.reduceLT, Nat.reduceEqDiff, Nat.reduceLeDiff, Nat.reduceSub, Nat.reduceMul], ⟨_, rfl, rfl, rfl⟩, .inl ⟨[], _, .inl (by simp only [go_sem, ↓reduceIte, reduceCtorEq, Bool.false_eq_true, Bool.true_eq_false, Nat.reduceAdd, Nat.reduceLT, Nat.reduceEqDiff, Nat.reduceLeDiff, Nat.reduceSub, Nat.reduceMul]), aw, .inl ⟨_, rfl, rfl, rfl, rfl⟩⟩⟩ ?_
        refine V.exec 400 ?_
        simp (config := {contextual := true}) only [go_sem, ↓reduceIte, reduceCtorEq, Bool.false_eq_true, Bool.true_eq_false, Nat.reduceAdd, Nat.reduceLT, Nat.reduceEqDiff, Nat.reduceLeDiff, Nat.reduceSub, Nat.reduceMul]
  · have h10' : (10 : Int) < (bs.length : Int) := by omega
    simp (config := {contextual := true}) only [go_sem, ↓reduceIte, reduceCtorEq, Bool.false_eq_true, Bool.true_eq_false, Nat.reduceAdd, Nat.reduceLT, Nat.reduceEqDiff, Nat.reduceLeDiff, Nat.reduceSub, Nat.reduceMul, h10']
    refine V.call rfl rfl (by simp [dOK]) ⟨9, [], by simp only [go_sem, ↓reduceIte, reduceCtorEq, Bool.false_eq_true, Bool.true_eq_false, Nat.reduceAdd, Nat.reduceLT, Nat.reduceEqDiff, Nat.reduceLeDiff, Nat.reduceSub, Nat.reduceMul], ⟨_, rfl, rfl, rfl⟩, .inl ⟨[], _, .inl (by simp only [go_sem, ↓reduceIte, reduceCtorEq, Bool.false_eq_true, Bool.true_eq_false, Nat.reduceAdd, Nat.reduceLT, Nat.reduceEqDiff, Nat.reduceLeDiff, Nat.reduceSub, Nat.reduceMul]), aw, .inl ⟨_, rfl, rfl, rfl, rfl⟩⟩⟩ ?_
    refine V.exec 400 ?_
    simp (config := {contextual := true}) only [go_sem, ↓reduceIte, reduceCtorEq, Bool.false_eq_true, Bool.true_eq_false, Nat.reduceAdd, Nat.reduceLT, Nat.reduceEqDiff, Nat.reduceLeDiff, Nat.reduceSub, Nat.reduceMul]
theorem ctFollowsF (xs0 : List PV) (h0 : xs0.map PV.kd = [.str, .str, .bool]) (w0 : ∀ q ∈ xs0, q.wfv)
    (xs1 : List (List PV)) (l1 : xs1.length ≤ maxLen) (h1 : ∀ xs ∈ xs1, xs.length ≤ maxLen ∧ ∀ x ∈ xs, ∃ qs, x = .agg qs ∧ qs.map PV.kd = [.int .i64, .str, .str, .int .u64] ∧ ∀ q ∈ qs, q.wfv)
    (a2 : Int) (w2 : (Lit.int .u8 a2).wf = true) (a3 : Int) (w3 : (Lit.int .u8 a3).wf = true) :
    Ct Try.prog 7 (YtjhjnphcdpjnbaaVm.ops [.agg xs0, .row (xs1.map PV.row), .int .u8 a2, .int .u8 a3]) (.vals [.bool true]) := by
  obtain ⟨r, hr⟩ := range_one xs0 h0
  obtain ⟨bs, hbs, hbl, hb⟩ := notes_rows xs1 h1
  rw [hr, hbs]
  exact law_FollowsF r bs a2 a3 (by rw [hbl]; exact l1) hb (u8_of w2) (u8_of w3)
end Go.Proofs.Ytjhjnphcdpjnbaa
