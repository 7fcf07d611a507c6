/- A part of a proof: functions of the program, walked. -/
import Derived.Test.YtjbfcmaiejlnbaaH4
set_option linter.unusedVariables false
set_option linter.unusedSimpArgs false
namespace Go.Proofs.Ytjbfcmaiejlnbaa
open Go Go.Proofs Go.Proofs.YtjbfcmaiejlnbaaVm Go.Proofs.Ytjbfcmaiejlnbaa.Ty

set_option maxRecDepth 10000 in
set_option maxHeartbeats 8000000 in
theorem ref20_Add (l : List Sub) (s : Sub) (hl : l.length ≤ 1000000) : Ct Try.prog 21 (YtjbfcmaiejlnbaaVm.ops [.row (l.map Sub.pv), s.pv])
    (.vals [.row ((addV l s).1.map Sub.pv), .int .i64 (addV l s).2.1, .int .i64 (addV l s).2.2]) := by
  refine Ct.of_V Try.func21 rfl (by simp [YtjbfcmaiejlnbaaVm.ops, Try.f21]) ?_
  refine V.exec 400 ?_
  simp (config := {contextual := true}) only [go_sem, ↓reduceIte, reduceCtorEq, Bool.false_eq_true, Bool.true_eq_false, Nat.reduceAdd, Nat.reduceLT, Nat.reduceEqDiff, Nat.reduceLeDiff, Nat.reduceSub, Nat.reduceMul, Try.f21, Sub.pv]
  refine DV.call [] [] (by simp only [go_sem, ↓reduceIte, reduceCtorEq, Bool.false_eq_true, Bool.true_eq_false, Nat.reduceAdd, Nat.reduceLT, Nat.reduceEqDiff, Nat.reduceLeDiff, Nat.reduceSub, Nat.reduceMul]) (by simp [dOK]) ⟨20, [], by simp only [go_sem, ↓reduceIte, reduceCtorEq, Bool.false_eq_true, Bool.true_eq_false, Nat.reduceAdd, Nat.reduceLT, Nat.reduceEqDiff, Nat.reduceLeDiff, Nat.reduceSub, Nat.reduceMul], ⟨_, rfl, rfl, rfl⟩, .inl ⟨[.row (l.map Sub.pv)], _, .inl (by simp only [go_sem, ↓reduceIte, reduceCtorEq, Bool.false_eq_true, Bool.true_eq_false, Nat.reduceAdd, Nat.reduceLT, Nat.reduceEqDiff, Nat.reduceLeDiff, Nat.reduceSub, Nat.reduceMul]), ref20_Right l hl, .inl ⟨_, rfl, rfl, rfl, rfl⟩⟩⟩ (by simp only [go_sem, ↓reduceIte, reduceCtorEq, Bool.false_eq_true, Bool.true_eq_false, Nat.reduceAdd, Nat.reduceLT, Nat.reduceEqDiff, Nat.reduceLeDiff, Nat.reduceSub, Nat.reduceMul]) (by simp only [go_sem, ↓reduceIte, reduceCtorEq, Bool.false_eq_true, Bool.true_eq_false, Nat.reduceAdd, Nat.reduceLT, Nat.reduceEqDiff, Nat.reduceLeDiff, Nat.reduceSub, Nat.reduceMul]) (by simp only [go_sem, ↓reduceIte, reduceCtorEq, Bool.false_eq_true, Bool.true_eq_false, Nat.reduceAdd, Nat.reduceLT, Nat.reduceEqDiff, Nat.reduceLeDiff, Nat.reduceSub, Nat.reduceMul]) (by simp) ?_
  refine DV.exec 400 ?_
  simp (config := {contextual := true}) only [go_sem, ↓reduceIte, reduceCtorEq, Bool.false_eq_true, Bool.true_eq_false, Nat.reduceAdd, Nat.reduceLT, Nat.reduceEqDiff, Nat.reduceLeDiff, Nat.reduceSub, Nat.reduceMul]
  refine DV.call [] [] (by simp only [go_sem, ↓reduceIte, reduceCtorEq, Bool.false_eq_true, Bool.true_eq_false, Nat.reduceAdd, Nat.reduceLT, Nat.reduceEqDiff, Nat.reduceLeDiff, Nat.reduceSub, Nat.reduceMul, Sub.pv]) (by simp [dOK]) ⟨37, [], by simp only [go_sem, ↓reduceIte, reduceCtorEq, Bool.false_eq_true, Bool.true_eq_false, Nat.reduceAdd, Nat.reduceLT, Nat.reduceEqDiff, Nat.reduceLeDiff, Nat.reduceSub, Nat.reduceMul, Sub.pv], ⟨_, rfl, rfl, rfl⟩, .inl ⟨[s.pv], _, .inl (by simp only [go_sem, ↓reduceIte, reduceCtorEq, Bool.false_eq_true, Bool.true_eq_false, Nat.reduceAdd, Nat.reduceLT, Nat.reduceEqDiff, Nat.reduceLeDiff, Nat.reduceSub, Nat.reduceMul, Sub.pv]), ref19_Right s, .inl ⟨_, rfl, rfl, rfl, rfl⟩⟩⟩ (by simp only [go_sem, ↓reduceIte, reduceCtorEq, Bool.false_eq_true, Bool.true_eq_false, Nat.reduceAdd, Nat.reduceLT, Nat.reduceEqDiff, Nat.reduceLeDiff, Nat.reduceSub, Nat.reduceMul, Sub.pv]) (by simp only [go_sem, ↓reduceIte, reduceCtorEq, Bool.false_eq_true, Bool.true_eq_false, Nat.reduceAdd, Nat.reduceLT, Nat.reduceEqDiff, Nat.reduceLeDiff, Nat.reduceSub, Nat.reduceMul, Sub.pv]) (by simp only [go_sem, ↓reduceIte, reduceCtorEq, Bool.false_eq_true, Bool.true_eq_false, Nat.reduceAdd, Nat.reduceLT, Nat.reduceEqDiff, Nat.reduceLeDiff, Nat.reduceSub, Nat.reduceMul, Sub.pv]) (by simp) ?_
  refine DV.exec 400 ?_
  by_cases hs : subsOk l
  · by_cases hk : s.ok
    · by_cases h4 : l.length = 4
      · have h4' : (l.length : Int) = 4 := by omega
        have hv : addV l s = (l, 0, 7) := by simp [addV, hs, hk, h4]
        simp (config := {contextual := true}) only [go_sem, ↓reduceIte, reduceCtorEq, Bool.false_eq_true, Bool.true_eq_false, Nat.reduceAdd, Nat.reduceLT, Nat.reduceEqDiff, Nat.reduceLeDiff, Nat.reduceSub, Nat.reduceMul, hs, hk, h4', hv]
        kernel_rfl
      · have h4' : ¬ (l.length : Int) = 4 := by omega
        have hl4 : ¬ 4 ≤ l.length := by have := hs.2; omega
        have hv : addV l s = (l.take (gapAt 0 l) ++ [{ s with id := (gapAt 0 l : Int) + 1 }] ++ l.drop (gapAt 0 l), (gapAt 0 l : Int) + 1, 0) := by simp [addV, hs, hk, hl4]
        obtain ⟨hp1, hp2⟩ := gap_parts l 0 hs.1
        rw [Nat.sub_zero] at hp1 hp2
        have hgl := gapAt_le l 0
        rw [← hp1, ← hp2] at hv
        rw [hv]
        have hrf := fun j hj => refFind_gap hs.1 j hj
        generalize hG : gapAt 0 l = G at *
        simp (config := {contextual := true}) only [go_sem, ↓reduceIte, reduceCtorEq, Bool.false_eq_true, Bool.true_eq_false, Nat.reduceAdd, Nat.reduceLT, Nat.reduceEqDiff, Nat.reduceLeDiff, Nat.reduceSub, Nat.reduceMul, hs, hk, h4']
        refine ⟨by kernel_rfl, ?_⟩
        refine V.loop (fun m ls os => ∃ j : Nat, j ≤ G ∧ m = G - j ∧
            ls = [(0, .val (.row (l.map Sub.pv))), (3, .adr 0 0), (9, .val (.int .i64 (j + 1 : Nat)))] ∧
            os = [.box true [.val (.int .i64 s.id), .val (.str s.r.lo), .val (.str s.r.hi), .val (.bool (decide (s.r.op = true))), .val (.bool (decide (s.live = true))), .val (.str s.next), .val (.int .i64 s.cur)]]) 1 G
          [(0, .val (.row (l.map Sub.pv))), (3, .adr 0 0), (9, .val (.int .i64 1))] [.box true [.val (.int .i64 s.id), .val (.str s.r.lo), .val (.str s.r.hi), .val (.bool (decide (s.r.op = true))), .val (.bool (decide (s.live = true))), .val (.str s.next), .val (.int .i64 s.cur)]] [some 2]
          ⟨0, Nat.zero_le _, rfl, rfl, rfl⟩ (by simp only [go_sem, ↓reduceIte, reduceCtorEq, Bool.false_eq_true, Bool.true_eq_false, Nat.reduceAdd, Nat.reduceLT, Nat.reduceEqDiff, Nat.reduceLeDiff, Nat.reduceSub, Nat.reduceMul]; try decide) ?_
        rintro m ls os ⟨j, hj, rfl, rfl, rfl⟩
        refine V.exec 400 ?_
        simp (config := {contextual := true}) only [go_sem, ↓reduceIte, reduceCtorEq, Bool.false_eq_true, Bool.true_eq_false, Nat.reduceAdd, Nat.reduceLT, Nat.reduceEqDiff, Nat.reduceLeDiff, Nat.reduceSub, Nat.reduceMul]
        refine V.call rfl rfl (by simp [dOK]) ⟨25, [], by simp only [go_sem, ↓reduceIte, reduceCtorEq, Bool.false_eq_true, Bool.true_eq_false, Nat.reduceAdd, Nat.reduceLT, Nat.reduceEqDiff, Nat.reduceLeDiff, Nat.reduceSub, Nat.reduceMul], ⟨_, rfl, rfl, rfl⟩, .inl ⟨[.row (l.map Sub.pv), .int .i64 (j + 1 : Nat)], _, .inl (by simp only [go_sem, ↓reduceIte, reduceCtorEq, Bool.false_eq_true, Bool.true_eq_false, Nat.reduceAdd, Nat.reduceLT, Nat.reduceEqDiff, Nat.reduceLeDiff, Nat.reduceSub, Nat.reduceMul]), ref20_Find l (j + 1 : Nat) hl, .inl ⟨_, rfl, rfl, rfl, rfl⟩⟩⟩ ?_
        refine V.exec 400 ?_
        have hr := hrf j hj
        have hw : IntKind.i64.wrap (((j + 1 : Nat) : Int) + 1) = ((j + 1 + 1 : Nat) : Int) := by rw [wrap_small3] <;> omega
        by_cases hlt : j < G
        · have hc := hr.2 hlt
          simp (config := {contextual := true}) only [go_sem, ↓reduceIte, reduceCtorEq, Bool.false_eq_true, Bool.true_eq_false, Nat.reduceAdd, Nat.reduceLT, Nat.reduceEqDiff, Nat.reduceLeDiff, Nat.reduceSub, Nat.reduceMul, hc, hw]
          exact ⟨G - (j + 1), _, _, [some 0], by omega, ⟨j + 1, by omega, rfl, rfl, rfl⟩, by simp only [go_sem, ↓reduceIte, reduceCtorEq, Bool.false_eq_true, Bool.true_eq_false, Nat.reduceAdd, Nat.reduceLT, Nat.reduceEqDiff, Nat.reduceLeDiff, Nat.reduceSub, Nat.reduceMul]⟩
        · have hc : ¬ 0 ≤ refFind l ((j + 1 : Nat) : Int) := fun h => hlt (hr.1 h)
          obtain rfl : j = G := by omega
          have hgi : (j : Int) + 1 = ((j + 1 : Nat) : Int) := by omega
          rw [hgi]
          simp (config := {contextual := true}) only [go_sem, ↓reduceIte, reduceCtorEq, Bool.false_eq_true, Bool.true_eq_false, Nat.reduceAdd, Nat.reduceLT, Nat.reduceEqDiff, Nat.reduceLeDiff, Nat.reduceSub, Nat.reduceMul, hc]
          generalize hg : ((j + 1 : Nat) : Int) = g at *
          refine V.loop (fun m ls os => ∃ i : Nat, i ≤ l.length ∧ m = l.length - i ∧
              ls = [(0, .val (.row (l.map Sub.pv))), (3, .adr 0 0), (9, .val (.int .i64 g)), (10, .ref 1), (11, .val (.int .i64 i))] ∧
              os = [.box true [.val (.int .i64 g), .val (.str s.r.lo), .val (.str s.r.hi), .val (.bool (decide (s.r.op = true))), .val (.bool (decide (s.live = true))), .val (.str s.next), .val (.int .i64 s.cur)], .row 56 ((lowL (l.take i) g).map Sub.pv)]) 2 l.length
            [(0, .val (.row (l.map Sub.pv))), (3, .adr 0 0), (9, .val (.int .i64 g)), (10, .ref 1), (11, .val (.int .i64 0))] [.box true [.val (.int .i64 g), .val (.str s.r.lo), .val (.str s.r.hi), .val (.bool (decide (s.r.op = true))), .val (.bool (decide (s.live = true))), .val (.str s.next), .val (.int .i64 s.cur)], .row 56 []] [some 0, none]
            ⟨0, Nat.zero_le _, rfl, rfl, rfl⟩ (by simp only [go_sem, ↓reduceIte, reduceCtorEq, Bool.false_eq_true, Bool.true_eq_false, Nat.reduceAdd, Nat.reduceLT, Nat.reduceEqDiff, Nat.reduceLeDiff, Nat.reduceSub, Nat.reduceMul]; try decide) ?_
          rintro m ls os ⟨i, hi, rfl, rfl, rfl⟩
          refine V.exec 400 ?_
          by_cases hlt : i < l.length
          · have hlt' : (i : Int) < (l.length : Int) := by omega
            obtain ⟨x, hx⟩ : ∃ x, l[i]? = some x := ⟨_, List.getElem?_eq_getElem hlt⟩
            have hw : IntKind.i64.wrap ((i : Int) + 1) = ((i + 1 : Nat) : Int) := by rw [wrap_small3] <;> omega
            have hti : (lowL (l.take i) g).length ≤ i := Nat.le_trans (lowL_len _ _) (by simp; omega)
            have hft := lowL_snoc (l.take i) x g
            rw [← map_take_succ hx] at hft
            by_cases he : x.id < g
            · rw [if_pos he] at hft
              simp (config := {contextual := true}) only [go_sem, ↓reduceIte, reduceCtorEq, Bool.false_eq_true, Bool.true_eq_false, Nat.reduceAdd, Nat.reduceLT, Nat.reduceEqDiff, Nat.reduceLeDiff, Nat.reduceSub, Nat.reduceMul, hlt', hx, Sub.pv, hw, he]
              refine ⟨⟨by omega, by omega⟩, l.length - (i + 1), _, _, [some 0, some 19], by omega, ⟨i + 1, by omega, rfl, rfl, rfl⟩, ?_⟩
              simp only [go_sem, ↓reduceIte, reduceCtorEq, Bool.false_eq_true, Bool.true_eq_false, Nat.reduceAdd, Nat.reduceLT, Nat.reduceEqDiff, Nat.reduceLeDiff, Nat.reduceSub, Nat.reduceMul, hft, List.map_append, List.map_cons, List.map_nil, Sub.pv]
              try decide
            · rw [if_neg he] at hft
              simp (config := {contextual := true}) only [go_sem, ↓reduceIte, reduceCtorEq, Bool.false_eq_true, Bool.true_eq_false, Nat.reduceAdd, Nat.reduceLT, Nat.reduceEqDiff, Nat.reduceLeDiff, Nat.reduceSub, Nat.reduceMul, hlt', hx, Sub.pv, hw, he]
              refine ⟨l.length - (i + 1), _, _, [some 0, some 1], by omega, ⟨i + 1, by omega, rfl, rfl, rfl⟩, ?_⟩
              simp only [go_sem, ↓reduceIte, reduceCtorEq, Bool.false_eq_true, Bool.true_eq_false, Nat.reduceAdd, Nat.reduceLT, Nat.reduceEqDiff, Nat.reduceLeDiff, Nat.reduceSub, Nat.reduceMul, hft]
              try decide
          · have hlt' : ¬ (i : Int) < (l.length : Int) := by omega
            have hti : (lowL l g).length ≤ l.length := lowL_len _ _
            simp (config := {contextual := true}) only [go_sem, ↓reduceIte, reduceCtorEq, Bool.false_eq_true, Bool.true_eq_false, Nat.reduceAdd, Nat.reduceLT, Nat.reduceEqDiff, Nat.reduceLeDiff, Nat.reduceSub, Nat.reduceMul, hlt']
            rw [List.take_of_length_le (Nat.le_of_not_lt hlt)]
            refine ⟨⟨by omega, by omega⟩, ?_⟩
            refine V.loop (fun m ls os => ∃ i : Nat, i ≤ l.length ∧ m = l.length - i ∧
                ls = [(0, .val (.row (l.map Sub.pv))), (9, .val (.int .i64 g)), (10, .ref 0), (12, .val (.int .i64 i))] ∧
                os = [.row 56 ((lowL l g ++ [{ s with id := g }] ++ highL (l.take i) g).map Sub.pv)]) 1 l.length
              [(0, .val (.row (l.map Sub.pv))), (9, .val (.int .i64 g)), (10, .ref 0), (12, .val (.int .i64 0))] [.row 56 ((lowL l g ++ [{ s with id := g }]).map Sub.pv)] [some 9]
              ⟨0, Nat.zero_le _, rfl, rfl, by simp [highL]⟩ (by simp only [go_sem, ↓reduceIte, reduceCtorEq, Bool.false_eq_true, Bool.true_eq_false, Nat.reduceAdd, Nat.reduceLT, Nat.reduceEqDiff, Nat.reduceLeDiff, Nat.reduceSub, Nat.reduceMul, List.map_append, List.map_cons, List.map_nil, Sub.pv]; try decide) ?_
            rintro m ls os ⟨i, hi, rfl, rfl, rfl⟩
            refine V.exec 400 ?_
            by_cases hlt : i < l.length
            · have hlt' : (i : Int) < (l.length : Int) := by omega
              obtain ⟨x, hx⟩ : ∃ x, l[i]? = some x := ⟨_, List.getElem?_eq_getElem hlt⟩
              have hw : IntKind.i64.wrap ((i : Int) + 1) = ((i + 1 : Nat) : Int) := by rw [wrap_small3] <;> omega
              have hti : (lowL l g ++ [{ s with id := g }] ++ highL (l.take i) g).length ≤ l.length + 1 + i := by
                have := highL_len (l.take i) g
                simp at this ⊢; omega
              have hft := highL_snoc (l.take i) x g
              rw [← map_take_succ hx] at hft
              by_cases he : g < x.id
              · rw [if_pos he] at hft
                have hft2 : lowL l g ++ [{ s with id := g }] ++ highL (l.take (i + 1)) g = (lowL l g ++ [{ s with id := g }] ++ highL (l.take i) g) ++ [x] := by rw [hft]; simp
                generalize lowL l g ++ [{ s with id := g }] ++ highL (l.take i) g = Y at *
                simp (config := {contextual := true}) only [go_sem, ↓reduceIte, reduceCtorEq, Bool.false_eq_true, Bool.true_eq_false, Nat.reduceAdd, Nat.reduceLT, Nat.reduceEqDiff, Nat.reduceLeDiff, Nat.reduceSub, Nat.reduceMul, hlt', hx, Sub.pv, hw, he]
                refine ⟨⟨by omega, by omega⟩, l.length - (i + 1), _, _, [some 18], by omega, ⟨i + 1, by omega, rfl, rfl, rfl⟩, ?_⟩
                rw [hft2]
                simp only [go_sem, ↓reduceIte, reduceCtorEq, Bool.false_eq_true, Bool.true_eq_false, Nat.reduceAdd, Nat.reduceLT, Nat.reduceEqDiff, Nat.reduceLeDiff, Nat.reduceSub, Nat.reduceMul, List.map_append, List.map_cons, List.map_nil, Sub.pv]
                try decide
              · rw [if_neg he] at hft
                simp (config := {contextual := true}) only [go_sem, ↓reduceIte, reduceCtorEq, Bool.false_eq_true, Bool.true_eq_false, Nat.reduceAdd, Nat.reduceLT, Nat.reduceEqDiff, Nat.reduceLeDiff, Nat.reduceSub, Nat.reduceMul, hlt', hx, Sub.pv, hw, he]
                refine ⟨l.length - (i + 1), _, _, [some 0], by omega, ⟨i + 1, by omega, rfl, rfl, rfl⟩, ?_⟩
                rw [hft]
                simp only [go_sem, ↓reduceIte, reduceCtorEq, Bool.false_eq_true, Bool.true_eq_false, Nat.reduceAdd, Nat.reduceLT, Nat.reduceEqDiff, Nat.reduceLeDiff, Nat.reduceSub, Nat.reduceMul]
                try decide
            · have hlt' : ¬ (i : Int) < (l.length : Int) := by omega
              simp (config := {contextual := true}) only [go_sem, ↓reduceIte, reduceCtorEq, Bool.false_eq_true, Bool.true_eq_false, Nat.reduceAdd, Nat.reduceLT, Nat.reduceEqDiff, Nat.reduceLeDiff, Nat.reduceSub, Nat.reduceMul, hlt']
              rw [List.take_of_length_le (Nat.le_of_not_lt hlt)]
    · have hv : addV l s = (l, 0, 1) := by simp [addV, hk]
      simp (config := {contextual := true}) only [go_sem, ↓reduceIte, reduceCtorEq, Bool.false_eq_true, Bool.true_eq_false, Nat.reduceAdd, Nat.reduceLT, Nat.reduceEqDiff, Nat.reduceLeDiff, Nat.reduceSub, Nat.reduceMul, hs, hk, hv]
      kernel_rfl
  · have hv : addV l s = (l, 0, 1) := by simp [addV, hs]
    simp (config := {contextual := true}) only [go_sem, ↓reduceIte, reduceCtorEq, Bool.false_eq_true, Bool.true_eq_false, Nat.reduceAdd, Nat.reduceLT, Nat.reduceEqDiff, Nat.reduceLeDiff, Nat.reduceSub, Nat.reduceMul, hs, hv]
    kernel_rfl
end Go.Proofs.Ytjbfcmaiejlnbaa
