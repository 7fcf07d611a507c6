/- A part of a proof: functions of the program, walked. -/
import Derived.Test.YtofmiaecjnfeaaaZ30
set_option linter.unusedVariables false
set_option linter.unusedSimpArgs false
set_option maxRecDepth 8000
namespace Go.Proofs.Ytofmiaecjnfeaaa
open Go Go.Proofs Go.Proofs.YtofmiaecjnfeaaaVm Go.Proofs.Ytofmiaecjnfeaaa.Ty

set_option maxRecDepth 20000 in
set_option maxHeartbeats 32000000 in
theorem law_ApartT (ns : List Note) (hnl : ns.length ≤ maxLen) (by0 : Int) (hby : 0 ≤ by0 ∧ by0 ≤ 255) :
    Ct Try.prog 8 (YtofmiaecjnfeaaaVm.ops [.row (ns.map Note.pv), .int .u8 by0]) (.vals [.bool true]) := by
  have hmax : maxLen = 9223372036854775807 := rfl
  rw [hmax] at hnl
  have aw := awake
  have cf := ref12_Few ns 60 hnl
  rw [show ((60 : Nat) : Int) = 60 from rfl] at cf
  refine Ct.of_V Try.func8 rfl (by simp [YtofmiaecjnfeaaaVm.ops, Try.f8]) ?_
  refine V.exec 400 ?_
  simp (config := {contextual := true, maxSteps := 1000000}) only [go_sem, ↓reduceIte, reduceCtorEq, Bool.false_eq_true, Bool.true_eq_false, Nat.reduceAdd, Nat.reduceLT, Nat.reduceEqDiff, Nat.reduceLeDiff, Nat.reduceSub, Nat.reduceMul, Try.f8]
  refine V.call rfl rfl (by simp [dOK]) ⟨10, [], by simp only [go_sem, ↓reduceIte, reduceCtorEq, Bool.false_eq_true, Bool.true_eq_false, Nat.reduceAdd, Nat.reduceLT, Nat.reduceEqDiff, Nat.reduceLeDiff, Nat.reduceSub, Nat.reduceMul], ⟨_, rfl, rfl, rfl⟩, .inl ⟨[.row (ns.map Note.pv), .int .i64 60], _, .inl (by simp only [go_sem, ↓reduceIte, reduceCtorEq, Bool.false_eq_true, Bool.true_eq_false, Nat.reduceAdd, Nat.reduceLT, Nat.reduceEqDiff, Nat.reduceLeDiff, Nat.reduceSub, Nat.reduceMul]), cf, .inl ⟨_, rfl, rfl, rfl, rfl⟩⟩⟩ ?_
  refine V.exec 400 ?_
  by_cases hf : fewT ns 60
  · have hnl60 : ns.length ≤ 60 := hf.1
    have call := ref09_All ns (by omega)
    simp (config := {contextual := true, maxSteps := 1000000}) only [go_sem, ↓reduceIte, reduceCtorEq, Bool.false_eq_true, Bool.true_eq_false, Nat.reduceAdd, Nat.reduceLT, Nat.reduceEqDiff, Nat.reduceLeDiff, Nat.reduceSub, Nat.reduceMul, hf]
    refine V.call rfl rfl (by simp [dOK]) ⟨19, [], by simp only [go_sem, ↓reduceIte, reduceCtorEq, Bool.false_eq_true, Bool.true_eq_false, Nat.reduceAdd, Nat.reduceLT, Nat.reduceEqDiff, Nat.reduceLeDiff, Nat.reduceSub, Nat.reduceMul], ⟨_, rfl, rfl, rfl⟩, .inl ⟨[.row (ns.map Note.pv)], _, .inl (by simp only [go_sem, ↓reduceIte, reduceCtorEq, Bool.false_eq_true, Bool.true_eq_false, Nat.reduceAdd, Nat.reduceLT, Nat.reduceEqDiff, Nat.reduceLeDiff, Nat.reduceSub, Nat.reduceMul]), call, .inl ⟨_, rfl, rfl, rfl, rfl⟩⟩⟩ ?_
    refine V.exec 400 ?_
    by_cases hn' : notesOk' ns
    · have hn : notesOk ns := hn'
      by_cases h0 : ns.length = 0
      · have h0' : (ns.length : Int) = 0 := by omega
        simp (config := {contextual := true, maxSteps := 1000000}) only [go_sem, ↓reduceIte, reduceCtorEq, Bool.false_eq_true, Bool.true_eq_false, Nat.reduceAdd, Nat.reduceLT, Nat.reduceEqDiff, Nat.reduceLeDiff, Nat.reduceSub, Nat.reduceMul, hn', h0']
        refine V.call rfl rfl (by simp [dOK]) ⟨9, [], by simp only [go_sem, ↓reduceIte, reduceCtorEq, Bool.false_eq_true, Bool.true_eq_false, Nat.reduceAdd, Nat.reduceLT, Nat.reduceEqDiff, Nat.reduceLeDiff, Nat.reduceSub, Nat.reduceMul], ⟨_, rfl, rfl, rfl⟩, .inl ⟨[], _, .inl (by simp only [go_sem, ↓reduceIte, reduceCtorEq, Bool.false_eq_true, Bool.true_eq_false, Nat.reduceAdd, Nat.reduceLT, Nat.reduceEqDiff, Nat.reduceLeDiff, Nat.reduceSub, Nat.reduceMul]), aw, .inl ⟨_, rfl, rfl, rfl, rfl⟩⟩⟩ ?_
        refine V.exec 400 ?_
        simp (config := {contextual := true, maxSteps := 1000000}) only [go_sem, ↓reduceIte, reduceCtorEq, Bool.false_eq_true, Bool.true_eq_false, Nat.reduceAdd, Nat.reduceLT, Nat.reduceEqDiff, Nat.reduceLeDiff, Nat.reduceSub, Nat.reduceMul]
      · have h0' : ¬ (ns.length : Int) = 0 := by omega
        obtain ⟨b, hb⟩ : ∃ b : Nat, (b : Int) = by0 := ⟨by0.toNat, by omega⟩
        obtain ⟨c, hc⟩ : ∃ c, c = b % ns.length := ⟨_, rfl⟩
        have hcl : c < ns.length := by rw [hc]; exact Nat.mod_lt _ (by omega)
        have hTl := turnT_len ns c
        simp (config := {contextual := true, maxSteps := 1000000}) only [go_sem, ↓reduceIte, reduceCtorEq, Bool.false_eq_true, Bool.true_eq_false, Nat.reduceAdd, Nat.reduceLT, Nat.reduceEqDiff, Nat.reduceLeDiff, Nat.reduceSub, Nat.reduceMul, hn', h0']
        refine V.loop (fun m sl os => ∃ (i : Nat), i ≤ ns.length ∧ m = ns.length - i ∧ (∀ (p q : Nat) (x y : Note), ns[p]? = some x → ns[q]? = some y → p < q → q < i → x.key ≠ y.key) ∧
            sl = [(0, .val (.row (ns.map Note.pv))), (1, .val (.int .u8 by0)), (5, .ref 0), (28, .val (.row (ns.map Note.pv))), (29, .val (.int .i64 ns.length)), (30, .val (.int .i64 i))] ∧ os = [.row 50 (((turnT ns c).take i).map Note.pv)]) 1 ns.length
          [(0, .val (.row (ns.map Note.pv))), (1, .val (.int .u8 by0)), (5, .ref 0), (28, .val (.row (ns.map Note.pv))), (29, .val (.int .i64 ns.length)), (30, .val (.int .i64 0))] [.row 50 []] [none]
          ⟨0, Nat.zero_le _, rfl, fun p q x y _ _ _ h => absurd h (Nat.not_lt_zero _), rfl, rfl⟩ (by simp only [go_sem, ↓reduceIte, reduceCtorEq, Bool.false_eq_true, Bool.true_eq_false, Nat.reduceAdd, Nat.reduceLT, Nat.reduceEqDiff, Nat.reduceLeDiff, Nat.reduceSub, Nat.reduceMul]; try decide) ?_
        rintro m sl os ⟨i, hi, rfl, hd, rfl, rfl⟩
        refine V.exec 400 ?_
        by_cases hlt : i < ns.length
        · have hlt' : (i : Int) < (ns.length : Int) := by omega
          have hi0' : (0 : Int) ≤ (i : Int) := by omega
          have hi1' : (i : Int) ≤ (ns.length : Int) := by omega
          obtain ⟨z, hz⟩ : ∃ z, ns[i]? = some z := ⟨_, List.getElem?_eq_getElem hlt⟩
          have hwi : IntKind.i64.wrap ((i : Int) + 1) = ((i + 1 : Nat) : Int) := by rw [wrap_small3] <;> omega
          have htl : (ns.take i).length = i := by rw [List.length_take]; omega
          have hmin : min i ns.length = i := by omega
          have hmin2 : min (i : Int) (ns.length : Int) = (i : Int) := by omega
          have hTt : ((turnT ns c).take i).length = i := by rw [List.length_take]; omega
          simp (config := {contextual := true, maxSteps := 1000000}) only [go_sem, ↓reduceIte, reduceCtorEq, Bool.false_eq_true, Bool.true_eq_false, Nat.reduceAdd, Nat.reduceLT, Nat.reduceEqDiff, Nat.reduceLeDiff, Nat.reduceSub, Nat.reduceMul, hlt', hi0', hi1']
          refine V.loop (fun m sl os => ∃ (j : Nat), j ≤ i ∧ m = i - j ∧ (∀ (p : Nat) (x : Note), ns[p]? = some x → p < j → x.key ≠ z.key) ∧
              sl = [(0, .val (.row (ns.map Note.pv))), (1, .val (.int .u8 by0)), (5, .ref 0), (6, .val (.int .i64 i)), (28, .val (.row (ns.map Note.pv))), (29, .val (.int .i64 ns.length)), (30, .val (.int .i64 i)), (35, .val (.row ((ns.take i).map Note.pv))), (36, .val (.int .i64 i)), (37, .val (.int .i64 j))] ∧ os = [.row 50 (((turnT ns c).take i).map Note.pv)]) 1 i
            [(0, .val (.row (ns.map Note.pv))), (1, .val (.int .u8 by0)), (5, .ref 0), (6, .val (.int .i64 i)), (28, .val (.row (ns.map Note.pv))), (29, .val (.int .i64 ns.length)), (30, .val (.int .i64 i)), (35, .val (.row ((ns.take i).map Note.pv))), (36, .val (.int .i64 i)), (37, .val (.int .i64 0))] [.row 50 (((turnT ns c).take i).map Note.pv)] [some 0]
            ⟨0, Nat.zero_le _, rfl, fun p x _ h => absurd h (Nat.not_lt_zero _), rfl, rfl⟩ (by simp only [go_sem, ↓reduceIte, reduceCtorEq, Bool.false_eq_true, Bool.true_eq_false, Nat.reduceAdd, Nat.reduceLT, Nat.reduceEqDiff, Nat.reduceLeDiff, Nat.reduceSub, Nat.reduceMul, List.map_take, List.length_take, List.length_map, hmin]; try decide) ?_
          rintro m sl os ⟨j, hj, rfl, hdj, rfl, rfl⟩
          refine V.exec 400 ?_
          by_cases hjl : j < i
          · have hjl' : (j : Int) < (i : Int) := by omega
            obtain ⟨x, hx⟩ : ∃ x, ns[j]? = some x := ⟨_, List.getElem?_eq_getElem (by omega)⟩
            have hx2 : (ns.take i)[j]? = some x := by rw [List.getElem?_take, if_pos hjl, hx]
            have hwj : IntKind.i64.wrap ((j : Int) + 1) = ((j + 1 : Nat) : Int) := by rw [wrap_small3] <;> omega
            have hjt' : (j : Int) < ((ns.take i).length : Int) := by omega
            by_cases hke : x.key = z.key
            · simp (config := {contextual := true, maxSteps := 1000000}) only [go_sem, ↓reduceIte, reduceCtorEq, Bool.false_eq_true, Bool.true_eq_false, Nat.reduceAdd, Nat.reduceLT, Nat.reduceEqDiff, Nat.reduceLeDiff, Nat.reduceSub, Nat.reduceMul, hjl', hjt', hlt', hx2, hz, Note.pv, hke]
              refine ⟨by kernel_rfl, ?_⟩
              refine V.call rfl rfl (by simp [dOK]) ⟨9, [], by simp only [go_sem, ↓reduceIte, reduceCtorEq, Bool.false_eq_true, Bool.true_eq_false, Nat.reduceAdd, Nat.reduceLT, Nat.reduceEqDiff, Nat.reduceLeDiff, Nat.reduceSub, Nat.reduceMul], ⟨_, rfl, rfl, rfl⟩, .inl ⟨[], _, .inl (by simp only [go_sem, ↓reduceIte, reduceCtorEq, Bool.false_eq_true, Bool.true_eq_false, Nat.reduceAdd, Nat.reduceLT, Nat.reduceEqDiff, Nat.reduceLeDiff, Nat.reduceSub, Nat.reduceMul]), aw, .inl ⟨_, rfl, rfl, rfl, rfl⟩⟩⟩ ?_
              refine V.exec 400 ?_
              simp (config := {contextual := true, maxSteps := 1000000}) only [go_sem, ↓reduceIte, reduceCtorEq, Bool.false_eq_true, Bool.true_eq_false, Nat.reduceAdd, Nat.reduceLT, Nat.reduceEqDiff, Nat.reduceLeDiff, Nat.reduceSub, Nat.reduceMul]
            · simp (config := {contextual := true, maxSteps := 1000000}) only [go_sem, ↓reduceIte, reduceCtorEq, Bool.false_eq_true, Bool.true_eq_false, Nat.reduceAdd, Nat.reduceLT, Nat.reduceEqDiff, Nat.reduceLeDiff, Nat.reduceSub, Nat.reduceMul, hjl', hjt', hlt', hx2, hz, Note.pv, hke, hwj]
              exact ⟨by kernel_rfl, i - (j + 1), _, _, [some 0], by omega, ⟨j + 1, by omega, rfl, fun p x' hp hpj => by
                rcases Nat.lt_succ_iff_lt_or_eq.1 hpj with h | h
                · exact hdj p x' hp h
                · subst h
                  rw [hx] at hp
                  cases hp
                  exact hke, rfl, rfl⟩, by simp only [go_sem, ↓reduceIte, reduceCtorEq, Bool.false_eq_true, Bool.true_eq_false, Nat.reduceAdd, Nat.reduceLT, Nat.reduceEqDiff, Nat.reduceLeDiff, Nat.reduceSub, Nat.reduceMul]; try decide⟩
          · have hjl' : ¬ (j : Int) < (i : Int) := by omega
            obtain rfl : j = i := by omega
            have hcj := turn_idx (b := b) hlt
            rw [← hc] at hcj
            have hgt := turnT_get ns c j hcl hlt
            rw [← hcj] at hgt
            obtain ⟨r, hr⟩ : ∃ r, r = (ns.length - j + b) % ns.length := ⟨_, rfl⟩
            have hrl : r < ns.length := by rw [hr]; exact Nat.mod_lt _ (by omega)
            rw [← hr] at hgt
            obtain ⟨y, hy⟩ : ∃ y, ns[r]? = some y := ⟨_, List.getElem?_eq_getElem hrl⟩
            rw [hy] at hgt
            have hT1 : (turnT ns c).take (j + 1) = (turnT ns c).take j ++ [y] := by rw [List.take_add_one, hgt]; rfl
            have w1 : IntKind.i64.wrap ((ns.length : Int) - (j : Int)) = (ns.length : Int) - (j : Int) := by rw [wrap_small3] <;> omega
            have w2 : IntKind.i64.wrap by0 = by0 := by rw [wrap_small3] <;> omega
            have w3 : IntKind.i64.wrap ((ns.length : Int) - (j : Int) + by0) = ((ns.length - j + b : Nat) : Int) := by rw [wrap_small3] <;> omega
            have w4 : ((ns.length - j + b : Nat) : Int).tmod (ns.length : Int) = (r : Int) := by rw [hr]; rfl
            have w5 : IntKind.i64.wrap (r : Int) = (r : Int) := by rw [wrap_small3] <;> omega
            have hr1 : (r : Int) < (ns.length : Int) := by omega
            generalize turnT ns c = T at *
            generalize hQ : T.take j = Q at *
            simp (config := {contextual := true, maxSteps := 1000000}) only [go_sem, ↓reduceIte, reduceCtorEq, Bool.false_eq_true, Bool.true_eq_false, Nat.reduceAdd, Nat.reduceLT, Nat.reduceEqDiff, Nat.reduceLeDiff, Nat.reduceSub, Nat.reduceMul, hjl', w1, w2, w3, w4, w5, h0', hr1, hy, Note.pv, hwi]
            refine ⟨⟨by omega, by omega⟩, ns.length - (j + 1), _, _, [some 17], by omega, ⟨j + 1, by omega, rfl, fun p q x' y' hp hq hpq hqj => ?_, rfl, rfl⟩, by simp only [go_sem, ↓reduceIte, reduceCtorEq, Bool.false_eq_true, Bool.true_eq_false, Nat.reduceAdd, Nat.reduceLT, Nat.reduceEqDiff, Nat.reduceLeDiff, Nat.reduceSub, Nat.reduceMul, hT1, List.map_append, List.map_cons, List.map_nil, Note.pv]; try decide⟩
            rcases Nat.lt_succ_iff_lt_or_eq.1 hqj with h | h
            · exact hd p q x' y' hp hq hpq h
            · subst h
              rw [hz] at hq
              cases hq
              exact hdj p x' hp hpq
        · have hlt' : ¬ (i : Int) < (ns.length : Int) := by omega
          obtain rfl : i = ns.length := by omega
          have hpm := turnT_perm ns c
          have hTk : (turnT ns c).take ns.length = turnT ns c := List.take_of_length_le (by omega)
          rw [hTk]
          have hap := appV_perm hpm (fun p q x y hp hq hpq => hd p q x y hp hq hpq (List.getElem?_eq_some_iff.1 hq).1)
          have hnT : notesOk (turnT ns c) := fun y hy => hn y (hpm.mem_iff.2 hy)
          generalize turnT ns c = T at *
          obtain ⟨u, ca, gu⟩ := tree_ApplyK GoodT.empty ns hn (by omega)
          obtain ⟨v, cv, gv⟩ := tree_ApplyK GoodT.empty T hnT (by omega)
          rw [← hap] at gv
          have e0 : trX none = .nilp := rfl
          rw [e0] at ca cv
          have u1 := trX_cells u
          have u2 := trX_agg u
          have v1 := trX_cells v
          have v2 := trX_agg v
          have su := tree_ScanA gu (by omega)
          have sv := tree_ScanA gv (by omega)
          have hLl := gu.len
          have ss := same_self (appV [] ns) (by omega)
          simp (config := {contextual := true, maxSteps := 1000000}) only [go_sem, ↓reduceIte, reduceCtorEq, Bool.false_eq_true, Bool.true_eq_false, Nat.reduceAdd, Nat.reduceLT, Nat.reduceEqDiff, Nat.reduceLeDiff, Nat.reduceSub, Nat.reduceMul, hlt']
          refine V.call rfl rfl (by simp [dOK]) ⟨11, [], by simp only [go_sem, ↓reduceIte, reduceCtorEq, Bool.false_eq_true, Bool.true_eq_false, Nat.reduceAdd, Nat.reduceLT, Nat.reduceEqDiff, Nat.reduceLeDiff, Nat.reduceSub, Nat.reduceMul], ⟨_, rfl, rfl, rfl⟩, .inl ⟨[.agg [.nilp], .row (ns.map Note.pv)], _, .inl (by simp only [go_sem, ↓reduceIte, reduceCtorEq, Bool.false_eq_true, Bool.true_eq_false, Nat.reduceAdd, Nat.reduceLT, Nat.reduceEqDiff, Nat.reduceLeDiff, Nat.reduceSub, Nat.reduceMul]), ca, .inr (.inl ⟨_, rfl, rfl, rfl⟩)⟩⟩ ?_
          refine V.exec 400 ?_
          simp (config := {contextual := true, maxSteps := 1000000}) only [go_sem, ↓reduceIte, reduceCtorEq, Bool.false_eq_true, Bool.true_eq_false, Nat.reduceAdd, Nat.reduceLT, Nat.reduceEqDiff, Nat.reduceLeDiff, Nat.reduceSub, Nat.reduceMul, u1, u2]
          refine V.call rfl rfl (by simp [dOK]) ⟨11, [], by simp only [go_sem, ↓reduceIte, reduceCtorEq, Bool.false_eq_true, Bool.true_eq_false, Nat.reduceAdd, Nat.reduceLT, Nat.reduceEqDiff, Nat.reduceLeDiff, Nat.reduceSub, Nat.reduceMul], ⟨_, rfl, rfl, rfl⟩, .inl ⟨[.agg [.nilp], .row (T.map Note.pv)], _, .inl (by simp only [go_sem, ↓reduceIte, reduceCtorEq, Bool.false_eq_true, Bool.true_eq_false, Nat.reduceAdd, Nat.reduceLT, Nat.reduceEqDiff, Nat.reduceLeDiff, Nat.reduceSub, Nat.reduceMul]), cv, .inr (.inl ⟨_, rfl, rfl, rfl⟩)⟩⟩ ?_
          refine V.exec 400 ?_
          simp (config := {contextual := true, maxSteps := 1000000}) only [go_sem, ↓reduceIte, reduceCtorEq, Bool.false_eq_true, Bool.true_eq_false, Nat.reduceAdd, Nat.reduceLT, Nat.reduceEqDiff, Nat.reduceLeDiff, Nat.reduceSub, Nat.reduceMul, u1, u2, v1, v2]
          refine DV.call [] [] (by simp only [go_sem, ↓reduceIte, reduceCtorEq, Bool.false_eq_true, Bool.true_eq_false, Nat.reduceAdd, Nat.reduceLT, Nat.reduceEqDiff, Nat.reduceLeDiff, Nat.reduceSub, Nat.reduceMul, Range.pv, allR]) (by simp [dOK]) ⟨17, [], by simp only [go_sem, ↓reduceIte, reduceCtorEq, Bool.false_eq_true, Bool.true_eq_false, Nat.reduceAdd, Nat.reduceLT, Nat.reduceEqDiff, Nat.reduceLeDiff, Nat.reduceSub, Nat.reduceMul, Range.pv, allR], ⟨_, rfl, rfl, rfl⟩, .inl ⟨[.agg [trX u], allR.pv], _, .inl (by simp only [go_sem, ↓reduceIte, reduceCtorEq, Bool.false_eq_true, Bool.true_eq_false, Nat.reduceAdd, Nat.reduceLT, Nat.reduceEqDiff, Nat.reduceLeDiff, Nat.reduceSub, Nat.reduceMul, Range.pv, allR]), su, .inr (.inl ⟨_, rfl, rfl, rfl⟩)⟩⟩ (by simp only [go_sem, ↓reduceIte, reduceCtorEq, Bool.false_eq_true, Bool.true_eq_false, Nat.reduceAdd, Nat.reduceLT, Nat.reduceEqDiff, Nat.reduceLeDiff, Nat.reduceSub, Nat.reduceMul, Range.pv, allR]) (by simp only [go_sem, ↓reduceIte, reduceCtorEq, Bool.false_eq_true, Bool.true_eq_false, Nat.reduceAdd, Nat.reduceLT, Nat.reduceEqDiff, Nat.reduceLeDiff, Nat.reduceSub, Nat.reduceMul, Range.pv, allR]) (by simp only [go_sem, ↓reduceIte, reduceCtorEq, Bool.false_eq_true, Bool.true_eq_false, Nat.reduceAdd, Nat.reduceLT, Nat.reduceEqDiff, Nat.reduceLeDiff, Nat.reduceSub, Nat.reduceMul, Range.pv, allR]) (by simp) ?_
          refine DV.exec 400 ?_
          simp (config := {contextual := true, maxSteps := 1000000}) only [go_sem, ↓reduceIte, reduceCtorEq, Bool.false_eq_true, Bool.true_eq_false, Nat.reduceAdd, Nat.reduceLT, Nat.reduceEqDiff, Nat.reduceLeDiff, Nat.reduceSub, Nat.reduceMul, u1, u2, v1, v2]
          refine DV.call [] [] (by simp only [go_sem, ↓reduceIte, reduceCtorEq, Bool.false_eq_true, Bool.true_eq_false, Nat.reduceAdd, Nat.reduceLT, Nat.reduceEqDiff, Nat.reduceLeDiff, Nat.reduceSub, Nat.reduceMul, Range.pv, allR]) (by simp [dOK]) ⟨17, [], by simp only [go_sem, ↓reduceIte, reduceCtorEq, Bool.false_eq_true, Bool.true_eq_false, Nat.reduceAdd, Nat.reduceLT, Nat.reduceEqDiff, Nat.reduceLeDiff, Nat.reduceSub, Nat.reduceMul, Range.pv, allR], ⟨_, rfl, rfl, rfl⟩, .inl ⟨[.agg [trX v], allR.pv], _, .inl (by simp only [go_sem, ↓reduceIte, reduceCtorEq, Bool.false_eq_true, Bool.true_eq_false, Nat.reduceAdd, Nat.reduceLT, Nat.reduceEqDiff, Nat.reduceLeDiff, Nat.reduceSub, Nat.reduceMul, Range.pv, allR]), sv, .inr (.inl ⟨_, rfl, rfl, rfl⟩)⟩⟩ (by simp only [go_sem, ↓reduceIte, reduceCtorEq, Bool.false_eq_true, Bool.true_eq_false, Nat.reduceAdd, Nat.reduceLT, Nat.reduceEqDiff, Nat.reduceLeDiff, Nat.reduceSub, Nat.reduceMul, Range.pv, allR]) (by simp only [go_sem, ↓reduceIte, reduceCtorEq, Bool.false_eq_true, Bool.true_eq_false, Nat.reduceAdd, Nat.reduceLT, Nat.reduceEqDiff, Nat.reduceLeDiff, Nat.reduceSub, Nat.reduceMul, Range.pv, allR]) (by simp only [go_sem, ↓reduceIte, reduceCtorEq, Bool.false_eq_true, Bool.true_eq_false, Nat.reduceAdd, Nat.reduceLT, Nat.reduceEqDiff, Nat.reduceLeDiff, Nat.reduceSub, Nat.reduceMul, Range.pv, allR]) (by simp) ?_
          refine DV.exec 400 ?_
          simp (config := {contextual := true, maxSteps := 1000000}) only [go_sem, ↓reduceIte, reduceCtorEq, Bool.false_eq_true, Bool.true_eq_false, Nat.reduceAdd, Nat.reduceLT, Nat.reduceEqDiff, Nat.reduceLeDiff, Nat.reduceSub, Nat.reduceMul, u1, u2, v1, v2]
          refine DV.call [] [] (by simp only [go_sem, ↓reduceIte, reduceCtorEq, Bool.false_eq_true, Bool.true_eq_false, Nat.reduceAdd, Nat.reduceLT, Nat.reduceEqDiff, Nat.reduceLeDiff, Nat.reduceSub, Nat.reduceMul]) (by simp [dOK]) ⟨16, [], by simp only [go_sem, ↓reduceIte, reduceCtorEq, Bool.false_eq_true, Bool.true_eq_false, Nat.reduceAdd, Nat.reduceLT, Nat.reduceEqDiff, Nat.reduceLeDiff, Nat.reduceSub, Nat.reduceMul], ⟨_, rfl, rfl, rfl⟩, .inl ⟨[.row ((appV [] ns).map Pair.pv), .row ((appV [] ns).map Pair.pv)], _, .inl (by simp only [go_sem, ↓reduceIte, reduceCtorEq, Bool.false_eq_true, Bool.true_eq_false, Nat.reduceAdd, Nat.reduceLT, Nat.reduceEqDiff, Nat.reduceLeDiff, Nat.reduceSub, Nat.reduceMul]), ss, .inl ⟨_, rfl, rfl, rfl, rfl⟩⟩⟩ (by simp only [go_sem, ↓reduceIte, reduceCtorEq, Bool.false_eq_true, Bool.true_eq_false, Nat.reduceAdd, Nat.reduceLT, Nat.reduceEqDiff, Nat.reduceLeDiff, Nat.reduceSub, Nat.reduceMul]) (by simp only [go_sem, ↓reduceIte, reduceCtorEq, Bool.false_eq_true, Bool.true_eq_false, Nat.reduceAdd, Nat.reduceLT, Nat.reduceEqDiff, Nat.reduceLeDiff, Nat.reduceSub, Nat.reduceMul]) (by simp only [go_sem, ↓reduceIte, reduceCtorEq, Bool.false_eq_true, Bool.true_eq_false, Nat.reduceAdd, Nat.reduceLT, Nat.reduceEqDiff, Nat.reduceLeDiff, Nat.reduceSub, Nat.reduceMul]) (by simp) ?_
          refine DV.exec 400 ?_
          simp (config := {contextual := true, maxSteps := 1000000}) only [go_sem, ↓reduceIte, reduceCtorEq, Bool.false_eq_true, Bool.true_eq_false, Nat.reduceAdd, Nat.reduceLT, Nat.reduceEqDiff, Nat.reduceLeDiff, Nat.reduceSub, Nat.reduceMul, u1, u2, v1, v2]
          refine DV.call [] [] (by simp only [go_sem, ↓reduceIte, reduceCtorEq, Bool.false_eq_true, Bool.true_eq_false, Nat.reduceAdd, Nat.reduceLT, Nat.reduceEqDiff, Nat.reduceLeDiff, Nat.reduceSub, Nat.reduceMul]) (by simp [dOK]) ⟨9, [], by simp only [go_sem, ↓reduceIte, reduceCtorEq, Bool.false_eq_true, Bool.true_eq_false, Nat.reduceAdd, Nat.reduceLT, Nat.reduceEqDiff, Nat.reduceLeDiff, Nat.reduceSub, Nat.reduceMul], ⟨_, rfl, rfl, rfl⟩, .inl ⟨[], _, .inl (by simp only [go_sem, ↓reduceIte, reduceCtorEq, Bool.false_eq_true, Bool.true_eq_false, Nat.reduceAdd, Nat.reduceLT, Nat.reduceEqDiff, Nat.reduceLeDiff, Nat.reduceSub, Nat.reduceMul]), aw, .inl ⟨_, rfl, rfl, rfl, rfl⟩⟩⟩ (by simp only [go_sem, ↓reduceIte, reduceCtorEq, Bool.false_eq_true, Bool.true_eq_false, Nat.reduceAdd, Nat.reduceLT, Nat.reduceEqDiff, Nat.reduceLeDiff, Nat.reduceSub, Nat.reduceMul]) (by simp only [go_sem, ↓reduceIte, reduceCtorEq, Bool.false_eq_true, Bool.true_eq_false, Nat.reduceAdd, Nat.reduceLT, Nat.reduceEqDiff, Nat.reduceLeDiff, Nat.reduceSub, Nat.reduceMul]) (by simp only [go_sem, ↓reduceIte, reduceCtorEq, Bool.false_eq_true, Bool.true_eq_false, Nat.reduceAdd, Nat.reduceLT, Nat.reduceEqDiff, Nat.reduceLeDiff, Nat.reduceSub, Nat.reduceMul]) (by simp) ?_
          refine DV.exec 400 ?_
          simp (config := {contextual := true, maxSteps := 1000000}) only [go_sem, ↓reduceIte, reduceCtorEq, Bool.false_eq_true, Bool.true_eq_false, Nat.reduceAdd, Nat.reduceLT, Nat.reduceEqDiff, Nat.reduceLeDiff, Nat.reduceSub, Nat.reduceMul, u1, u2, v1, v2]
          kernel_rfl
    · simp (config := {contextual := true, maxSteps := 1000000}) only [go_sem, ↓reduceIte, reduceCtorEq, Bool.false_eq_true, Bool.true_eq_false, Nat.reduceAdd, Nat.reduceLT, Nat.reduceEqDiff, Nat.reduceLeDiff, Nat.reduceSub, Nat.reduceMul, hn']
      refine V.call rfl rfl (by simp [dOK]) ⟨9, [], by simp only [go_sem, ↓reduceIte, reduceCtorEq, Bool.false_eq_true, Bool.true_eq_false, Nat.reduceAdd, Nat.reduceLT, Nat.reduceEqDiff, Nat.reduceLeDiff, Nat.reduceSub, Nat.reduceMul], ⟨_, rfl, rfl, rfl⟩, .inl ⟨[], _, .inl (by simp only [go_sem, ↓reduceIte, reduceCtorEq, Bool.false_eq_true, Bool.true_eq_false, Nat.reduceAdd, Nat.reduceLT, Nat.reduceEqDiff, Nat.reduceLeDiff, Nat.reduceSub, Nat.reduceMul]), aw, .inl ⟨_, rfl, rfl, rfl, rfl⟩⟩⟩ ?_
      refine V.exec 400 ?_
      simp (config := {contextual := true, maxSteps := 1000000}) only [go_sem, ↓reduceIte, reduceCtorEq, Bool.false_eq_true, Bool.true_eq_false, Nat.reduceAdd, Nat.reduceLT, Nat.reduceEqDiff, Nat.reduceLeDiff, Nat.reduceSub, Nat.reduceMul]
  · simp (config := {contextual := true, maxSteps := 1000000}) only [go_sem, ↓reduceIte, reduceCtorEq, Bool.false_eq_true, Bool.true_eq_false, Nat.reduceAdd, Nat.reduceLT, Nat.reduceEqDiff, Nat.reduceLeDiff, Nat.reduceSub, Nat.reduceMul, hf]
    refine V.call rfl rfl (by simp [dOK]) ⟨9, [], by simp only [go_sem, ↓reduceIte, reduceCtorEq, Bool.false_eq_true, Bool.true_eq_false, Nat.reduceAdd, Nat.reduceLT, Nat.reduceEqDiff, Nat.reduceLeDiff, Nat.reduceSub, Nat.reduceMul], ⟨_, rfl, rfl, rfl⟩, .inl ⟨[], _, .inl (by simp only [go_sem, ↓reduceIte, reduceCtorEq, Bool.false_eq_true, Bool.true_eq_false, Nat.reduceAdd, Nat.reduceLT, Nat.reduceEqDiff, Nat.reduceLeDiff, Nat.reduceSub, Nat.reduceMul]), aw, .inl ⟨_, rfl, rfl, rfl, rfl⟩⟩⟩ ?_
    refine V.exec 400 ?_
    simp (config := {contextual := true, maxSteps := 1000000}) only [go_sem, ↓reduceIte, reduceCtorEq, Bool.false_eq_true, Bool.true_eq_false, Nat.reduceAdd, Nat.reduceLT, Nat.reduceEqDiff, Nat.reduceLeDiff, Nat.reduceSub, Nat.reduceMul]
theorem ctApartT (xs0 : List PV) (l0 : xs0.length ≤ maxLen) (h0 : ∀ x ∈ xs0, ∃ qs, x = .agg qs ∧ qs.map PV.kd = [.int .i64, .str, .str, .int .u64] ∧ ∀ q ∈ qs, q.wfv)
    (a1 : Int) (w1 : (Lit.int .u8 a1).wf = true) :
    Ct Try.prog 8 (YtofmiaecjnfeaaaVm.ops [.row xs0, .int .u8 a1]) (.vals [.bool true]) := by
  obtain ⟨a, rfl⟩ := note_of xs0 h0
  exact law_ApartT a (by simpa using l0) a1 (u8_of w1)
end Go.Proofs.Ytofmiaecjnfeaaa
