/- A part of a proof: functions of the program, walked. -/
import Derived.Test.YtofmiaecjnfeaaaGJ
set_option linter.unusedVariables false
set_option linter.unusedSimpArgs false
set_option maxRecDepth 8000
namespace Go.Proofs.Ytofmiaecjnfeaaa
open Nat renaming reduceAdd → uA, reduceLT → uB, reduceEqDiff → uC, reduceLeDiff → uD, reduceSub → uE, reduceMul → uF
open Bool renaming false_eq_true → yA, true_eq_false → yB
open Go Go.Proofs Go.Proofs.YtofmiaecjnfeaaaVm Go.Proofs.Ytofmiaecjnfeaaa.Ty

theorem u8_of {a : Int} (w : (Lit.int .u8 a).wf = true) : 0 ≤ a ∧ a ≤ 255 := by
  simp only [Lit.wf, Bool.and_eq_true, decide_eq_true_eq] at w
  have e1 : IntKind.min .u8 = 0 := by decide
  have e2 : IntKind.max .u8 = 255 := by decide
  rw [e1, e2] at w
  exact w
theorem tree_ApplyK {t : Tr} {L : List Pair} {H M : Nat} (g : GoodT t L H M) (ns : List Note) (hn : notesOk ns) (hM : M + ns.length ≤ 10000) : ∃ t', Ct Try.prog 11 (YtofmiaecjnfeaaaVm.ops [.agg [trX t], .row (ns.map Note.pv)]) (.vals [.agg [trX t'], .int .i64 0]) ∧ GoodT t' (appV L ns) (H + M + ns.length) (M + ns.length) := by
  obtain ⟨t', c, g'⟩ := tree_Apply g ns hM
  rw [if_pos hn, trX_pv t, trX_pv t'] at c
  rw [if_pos hn] at g'
  exact ⟨t', c, g'⟩
theorem tree_ScanA {t : Tr} {L : List Pair} {H M : Nat} (g : GoodT t L H M) (hM : M ≤ 10000) : Ct Try.prog 17 (YtofmiaecjnfeaaaVm.ops [.agg [trX t], allR.pv]) (.vals [.row (L.map Pair.pv)]) := by
  have c := tree_Scan t L _ _ allR g hM
  rw [pickV_all, trX_pv t] at c
  exact c
theorem same_self (L : List Pair) (h : L.length ≤ 1000000) : Ct Try.prog 16 (YtofmiaecjnfeaaaVm.ops [.row (L.map Pair.pv), .row (L.map Pair.pv)]) (.vals [.bool true]) := by
  have c := ref03_Same L L h
  rw [show decide (L = L) = true from decide_eq_true rfl] at c
  exact c
set_option maxRecDepth 20000 in
set_option maxHeartbeats 32000000 in
theorem law_OneT (ns : List Note) (hnl : ns.length ≤ maxLen) (cut : Int) (hcut : 0 ≤ cut ∧ cut ≤ 255) :
    Ct Try.prog 4 (YtofmiaecjnfeaaaVm.ops [.row (ns.map Note.pv), .int .u8 cut]) (.vals [.bool true]) := by
  have hmax : maxLen = 9223372036854775807 := rfl
  rw [hmax] at hnl
  have aw := awake
  have cf := ref12_Few ns 60 hnl
  rw [show ((60 : Nat) : Int) = 60 from rfl] at cf
  refine Ct.of_V Try.func4 rfl (by simp [YtofmiaecjnfeaaaVm.ops, Try.f4]) ?_
  refine V.exec 400 ?_
  simp +contextual (maxSteps := 1000000) only [go_sem, ↓reduceIte, reduceCtorEq, yA, yB, uA, uB, uC, uD, uE, uF, Try.f4]
  refine V.call rfl rfl (by simp [dOK]) ⟨10, [], by simp only [go_sem, ↓reduceIte, reduceCtorEq, yA, yB, uA, uB, uC, uD, uE, uF], ⟨_, rfl, rfl, rfl⟩, .inl ⟨[.row (ns.map Note.pv), .int .i64 60], _, .inl (by simp only [go_sem, ↓reduceIte, reduceCtorEq, yA, yB, uA, uB, uC, uD, uE, uF]), cf, .inl ⟨_, rfl, rfl, rfl, rfl⟩⟩⟩ ?_
  refine V.exec 400 ?_
  by_cases hf : fewT ns 60
  · have hnl60 : ns.length ≤ 60 := hf.1
    have call := ref09_All ns (by omega)
    simp +contextual (maxSteps := 1000000) only [go_sem, ↓reduceIte, reduceCtorEq, yA, yB, uA, uB, uC, uD, uE, uF, hf]
    refine V.call rfl rfl (by simp [dOK]) ⟨19, [], by simp only [go_sem, ↓reduceIte, reduceCtorEq, yA, yB, uA, uB, uC, uD, uE, uF], ⟨_, rfl, rfl, rfl⟩, .inl ⟨[.row (ns.map Note.pv)], _, .inl (by simp only [go_sem, ↓reduceIte, reduceCtorEq, yA, yB, uA, uB, uC, uD, uE, uF]), call, .inl ⟨_, rfl, rfl, rfl, rfl⟩⟩⟩ ?_
    refine V.exec 400 ?_
    by_cases hn' : notesOk' ns
    · have hn : notesOk ns := hn'
      obtain ⟨u, ca, gu⟩ := tree_ApplyK GoodT.empty ns hn (by omega)
      have u1 := trX_cells u
      have u2 := trX_agg u
      have sa := tree_ScanA gu (by omega)
      have hLl := gu.len
      have ss := same_self (appV [] ns) (by omega)
      have e0 : trX none = .nilp := rfl
      rw [e0] at ca
      simp +contextual (maxSteps := 1000000) only [go_sem, ↓reduceIte, reduceCtorEq, yA, yB, uA, uB, uC, uD, uE, uF, hn']
      refine V.call rfl rfl (by simp [dOK]) ⟨11, [], by simp only [go_sem, ↓reduceIte, reduceCtorEq, yA, yB, uA, uB, uC, uD, uE, uF], ⟨_, rfl, rfl, rfl⟩, .inl ⟨[.agg [.nilp], .row (ns.map Note.pv)], _, .inl (by simp only [go_sem, ↓reduceIte, reduceCtorEq, yA, yB, uA, uB, uC, uD, uE, uF]), ca, .inr (.inl ⟨_, rfl, rfl, rfl⟩)⟩⟩ ?_
      refine V.exec 400 ?_
      simp +contextual (maxSteps := 1000000) only [go_sem, ↓reduceIte, reduceCtorEq, yA, yB, uA, uB, uC, uD, uE, uF, u1, u2]
      refine V.loop (fun m sl os => ∃ (i : Nat) (b : Tr), i ≤ ns.length ∧ m = ns.length - i ∧ GoodT b (appV [] (ns.take i)) (100 * i) (1 + i) ∧
          sl = [(0, .val (.row (ns.map Note.pv))), (1, .val (.int .u8 cut)), (5, .adr 0 0), (6, .val (.int .i64 0)), (7, .adr 1 0), (32, .val (.row (ns.map Note.pv))), (33, .val (.int .i64 ns.length)), (34, .val (.int .i64 i))] ∧ os = [.box true [.val (trX u)], .box true [.val (trX b)]]) 1 ns.length
        [(0, .val (.row (ns.map Note.pv))), (1, .val (.int .u8 cut)), (5, .adr 0 0), (6, .val (.int .i64 0)), (7, .adr 1 0), (32, .val (.row (ns.map Note.pv))), (33, .val (.int .i64 ns.length)), (34, .val (.int .i64 0))] [.box true [.val (trX u)], .box true [.val .nilp]] [some 17, some 20]
        ⟨0, none, Nat.zero_le _, rfl, GoodT.empty, rfl, rfl⟩ (by simp only [go_sem, ↓reduceIte, reduceCtorEq, yA, yB, uA, uB, uC, uD, uE, uF]; try decide) ?_
      rintro m sl os ⟨i, b, hi, rfl, gb, rfl, rfl⟩
      have b1 := trX_cells b
      have b2 := trX_agg b
      refine V.exec 400 ?_
      by_cases hlt : i < ns.length
      · have hlt' : (i : Int) < (ns.length : Int) := by omega
        obtain ⟨x, hx⟩ : ∃ x, ns[i]? = some x := ⟨_, List.getElem?_eq_getElem hlt⟩
        have hwi : IntKind.i64.wrap ((i : Int) + 1) = ((i + 1 : Nat) : Int) := by rw [wrap_small3] <;> omega
        have hx1 : notesOk [x] := fun y hy => by
          rw [List.mem_singleton] at hy
          rw [hy]; exact hn x (List.mem_of_getElem? hx)
        obtain ⟨b', cb, gb'⟩ := tree_ApplyK gb [x] hx1 (by simp; omega)
        have hap : appV (appV [] (ns.take i)) [x] = appV [] (ns.take (i + 1)) := by
          rw [← appV_app, List.take_add_one, hx]; rfl
        rw [hap] at gb'
        have gb'' := gb'.mono (H' := 100 * (i + 1)) (M' := 1 + (i + 1)) (by simp; omega) (by simp; omega)
        have b1' := trX_cells b'
        have b2' := trX_agg b'
        simp +contextual (maxSteps := 1000000) only [go_sem, ↓reduceIte, reduceCtorEq, yA, yB, uA, uB, uC, uD, uE, uF, hlt', hx, Note.pv, b1, b2]
        refine V.call rfl rfl (by simp [dOK]) ⟨11, [], by simp only [go_sem, ↓reduceIte, reduceCtorEq, yA, yB, uA, uB, uC, uD, uE, uF], ⟨_, rfl, rfl, rfl⟩, .inl ⟨[.agg [trX b], .row ([x].map Note.pv)], _, .inl (by simp only [go_sem, ↓reduceIte, reduceCtorEq, yA, yB, uA, uB, uC, uD, uE, uF, List.map_cons, List.map_nil, Note.pv]), cb, .inr (.inl ⟨_, rfl, rfl, rfl⟩)⟩⟩ ?_
        refine V.exec 400 ?_
        simp +contextual (maxSteps := 1000000) only [go_sem, ↓reduceIte, reduceCtorEq, yA, yB, uA, uB, uC, uD, uE, uF, b1, b2, b1', b2', hwi]
        exact ⟨ns.length - (i + 1), _, _, [some 0, some 1], by omega, ⟨i + 1, b', by omega, rfl, gb'', rfl, rfl⟩, by simp only [go_sem, ↓reduceIte, reduceCtorEq, yA, yB, uA, uB, uC, uD, uE, uF]; try decide⟩
      · have hlt' : ¬ (i : Int) < (ns.length : Int) := by omega
        obtain rfl : i = ns.length := by omega
        rw [List.take_length] at gb
        have sb := tree_ScanA gb (by omega)
        have hl1 : (0 : Int) ≤ cut.tmod ((ns.length : Int) + 1) := Int.tmod_nonneg _ hcut.1
        have hl2 : cut.tmod ((ns.length : Int) + 1) < (ns.length : Int) + 1 := Int.tmod_lt_of_pos _ (by omega)
        have hw0 : IntKind.i64.wrap cut = cut := by rw [wrap_small3] <;> omega
        have hw1 : IntKind.i64.wrap ((ns.length : Int) + 1) = (ns.length : Int) + 1 := by rw [wrap_small3] <;> omega
        obtain ⟨k, hk⟩ : ∃ k : Nat, (k : Int) = cut.tmod ((ns.length : Int) + 1) := ⟨(cut.tmod ((ns.length : Int) + 1)).toNat, by omega⟩
        have hwk : IntKind.i64.wrap (cut.tmod ((ns.length : Int) + 1)) = (k : Int) := by rw [wrap_small3] <;> omega
        have hl10 : ¬ (ns.length : Int) + 1 = 0 := by omega
        have hk1 : k ≤ ns.length := by omega
        have hk1' : (k : Int) ≤ (ns.length : Int) := by omega
        have hk0' : (0 : Int) ≤ (k : Int) := by omega
        have hnt : notesOk (ns.take k) := fun y hy => hn y (List.mem_of_mem_take hy)
        have hnd : notesOk (ns.drop k) := fun y hy => hn y (List.mem_of_mem_drop hy)
        have htl : (ns.take k).length = k := by rw [List.length_take]; omega
        have hdl : (ns.drop k).length = ns.length - k := List.length_drop
        obtain ⟨c, cc, gc⟩ := tree_ApplyK GoodT.empty (ns.take k) hnt (by omega)
        obtain ⟨d, cd, gd⟩ := tree_ApplyK gc (ns.drop k) hnd (by omega)
        rw [e0] at cc
        rw [← appV_app, List.take_append_drop] at gd
        have sd := tree_ScanA gd (by omega)
        have c1 := trX_cells c
        have c2 := trX_agg c
        have d1 := trX_cells d
        have d2 := trX_agg d
        simp +contextual (maxSteps := 1000000) only [go_sem, ↓reduceIte, reduceCtorEq, yA, yB, uA, uB, uC, uD, uE, uF, hlt', hw0, hw1, hwk, hl10, hk1', hk0', b1, b2, hk.symm]
        rw [List.map_take] at cc
        rw [List.map_drop] at cd
        refine V.call rfl rfl (by simp [dOK]) ⟨11, [], by simp only [go_sem, ↓reduceIte, reduceCtorEq, yA, yB, uA, uB, uC, uD, uE, uF], ⟨_, rfl, rfl, rfl⟩, .inl ⟨[.agg [.nilp], .row ((ns.map Note.pv).take k)], _, .inl (by simp only [go_sem, ↓reduceIte, reduceCtorEq, yA, yB, uA, uB, uC, uD, uE, uF]), cc, .inr (.inl ⟨_, rfl, rfl, rfl⟩)⟩⟩ ?_
        refine V.exec 400 ?_
        simp +contextual (maxSteps := 1000000) only [go_sem, ↓reduceIte, reduceCtorEq, yA, yB, uA, uB, uC, uD, uE, uF, c1, c2]
        refine ⟨⟨hk1', fun j _ => rfl⟩, ?_⟩
        refine DV.call [] [] (by simp only [go_sem, ↓reduceIte, reduceCtorEq, yA, yB, uA, uB, uC, uD, uE, uF]) (by simp [dOK]) ⟨11, [], by simp only [go_sem, ↓reduceIte, reduceCtorEq, yA, yB, uA, uB, uC, uD, uE, uF], ⟨_, rfl, rfl, rfl⟩, .inl ⟨[.agg [trX c], .row ((ns.map Note.pv).drop k)], _, .inl (by simp only [go_sem, ↓reduceIte, reduceCtorEq, yA, yB, uA, uB, uC, uD, uE, uF]), cd, .inr (.inl ⟨_, rfl, rfl, rfl⟩)⟩⟩ (by simp only [go_sem, ↓reduceIte, reduceCtorEq, yA, yB, uA, uB, uC, uD, uE, uF]) (by simp only [go_sem, ↓reduceIte, reduceCtorEq, yA, yB, uA, uB, uC, uD, uE, uF]) (by simp only [go_sem, ↓reduceIte, reduceCtorEq, yA, yB, uA, uB, uC, uD, uE, uF]) (by simp) ?_
        refine DV.exec 400 ?_
        simp +contextual (maxSteps := 1000000) only [go_sem, ↓reduceIte, reduceCtorEq, yA, yB, uA, uB, uC, uD, uE, uF, c1, c2, d1, d2]
        refine ⟨by kernel_rfl, u2, ?_⟩
        refine V.call rfl rfl (by simp [dOK]) ⟨17, [], by simp only [go_sem, ↓reduceIte, reduceCtorEq, yA, yB, uA, uB, uC, uD, uE, uF], ⟨_, rfl, rfl, rfl⟩, .inl ⟨[.agg [trX u], allR.pv], _, .inl (by simp only [go_sem, ↓reduceIte, reduceCtorEq, yA, yB, uA, uB, uC, uD, uE, uF, Range.pv, allR]), sa, .inr (.inl ⟨_, rfl, rfl, rfl⟩)⟩⟩ ?_
        refine V.exec 400 ?_
        simp +contextual (maxSteps := 1000000) only [go_sem, ↓reduceIte, reduceCtorEq, yA, yB, uA, uB, uC, uD, uE, uF, u1, u2, b1, b2, d1, d2]
        refine V.call rfl rfl (by simp [dOK]) ⟨17, [], by simp only [go_sem, ↓reduceIte, reduceCtorEq, yA, yB, uA, uB, uC, uD, uE, uF], ⟨_, rfl, rfl, rfl⟩, .inl ⟨[.agg [trX b], allR.pv], _, .inl (by simp only [go_sem, ↓reduceIte, reduceCtorEq, yA, yB, uA, uB, uC, uD, uE, uF, Range.pv, allR]), sb, .inr (.inl ⟨_, rfl, rfl, rfl⟩)⟩⟩ ?_
        refine V.exec 400 ?_
        simp +contextual (maxSteps := 1000000) only [go_sem, ↓reduceIte, reduceCtorEq, yA, yB, uA, uB, uC, uD, uE, uF, u1, u2, b1, b2, d1, d2]
        refine V.call rfl rfl (by simp [dOK]) ⟨16, [], by simp only [go_sem, ↓reduceIte, reduceCtorEq, yA, yB, uA, uB, uC, uD, uE, uF], ⟨_, rfl, rfl, rfl⟩, .inl ⟨[.row ((appV [] ns).map Pair.pv), .row ((appV [] ns).map Pair.pv)], _, .inl (by simp only [go_sem, ↓reduceIte, reduceCtorEq, yA, yB, uA, uB, uC, uD, uE, uF]), ss, .inl ⟨_, rfl, rfl, rfl, rfl⟩⟩⟩ ?_
        refine V.exec 400 ?_
        simp +contextual (maxSteps := 1000000) only [go_sem, ↓reduceIte, reduceCtorEq, yA, yB, uA, uB, uC, uD, uE, uF, u1, u2, b1, b2, d1, d2]
        refine V.call rfl rfl (by simp [dOK]) ⟨17, [], by simp only [go_sem, ↓reduceIte, reduceCtorEq, yA, yB, uA, uB, uC, uD, uE, uF], ⟨_, rfl, rfl, rfl⟩, .inl ⟨[.agg [trX d], allR.pv], _, .inl (by simp only [go_sem, ↓reduceIte, reduceCtorEq, yA, yB, uA, uB, uC, uD, uE, uF, Range.pv, allR]), sd, .inr (.inl ⟨_, rfl, rfl, rfl⟩)⟩⟩ ?_
        refine V.exec 400 ?_
        simp +contextual (maxSteps := 1000000) only [go_sem, ↓reduceIte, reduceCtorEq, yA, yB, uA, uB, uC, uD, uE, uF, u1, u2, b1, b2, d1, d2]
        refine V.call rfl rfl (by simp [dOK]) ⟨16, [], by simp only [go_sem, ↓reduceIte, reduceCtorEq, yA, yB, uA, uB, uC, uD, uE, uF], ⟨_, rfl, rfl, rfl⟩, .inl ⟨[.row ((appV [] ns).map Pair.pv), .row ((appV [] ns).map Pair.pv)], _, .inl (by simp only [go_sem, ↓reduceIte, reduceCtorEq, yA, yB, uA, uB, uC, uD, uE, uF]), ss, .inl ⟨_, rfl, rfl, rfl, rfl⟩⟩⟩ ?_
        refine V.exec 400 ?_
        simp +contextual (maxSteps := 1000000) only [go_sem, ↓reduceIte, reduceCtorEq, yA, yB, uA, uB, uC, uD, uE, uF, u1, u2, b1, b2, d1, d2]
        refine V.call rfl rfl (by simp [dOK]) ⟨9, [], by simp only [go_sem, ↓reduceIte, reduceCtorEq, yA, yB, uA, uB, uC, uD, uE, uF], ⟨_, rfl, rfl, rfl⟩, .inl ⟨[], _, .inl (by simp only [go_sem, ↓reduceIte, reduceCtorEq, yA, yB, uA, uB, uC, uD, uE, uF]), aw, .inl ⟨_, rfl, rfl, rfl, rfl⟩⟩⟩ ?_
        refine V.exec 400 ?_
        simp +contextual (maxSteps := 1000000) only [go_sem, ↓reduceIte, reduceCtorEq, yA, yB, uA, uB, uC, uD, uE, uF, u1, u2, b1, b2, d1, d2]
    · simp +contextual (maxSteps := 1000000) only [go_sem, ↓reduceIte, reduceCtorEq, yA, yB, uA, uB, uC, uD, uE, uF, hn']
      refine V.call rfl rfl (by simp [dOK]) ⟨9, [], by simp only [go_sem, ↓reduceIte, reduceCtorEq, yA, yB, uA, uB, uC, uD, uE, uF], ⟨_, rfl, rfl, rfl⟩, .inl ⟨[], _, .inl (by simp only [go_sem, ↓reduceIte, reduceCtorEq, yA, yB, uA, uB, uC, uD, uE, uF]), aw, .inl ⟨_, rfl, rfl, rfl, rfl⟩⟩⟩ ?_
      refine V.exec 400 ?_
      simp +contextual (maxSteps := 1000000) only [go_sem, ↓reduceIte, reduceCtorEq, yA, yB, uA, uB, uC, uD, uE, uF]
  · simp +contextual (maxSteps := 1000000) only [go_sem, ↓reduceIte, reduceCtorEq, yA, yB, uA, uB, uC, uD, uE, uF, hf]
    refine V.call rfl rfl (by simp [dOK]) ⟨9, [], by simp only [go_sem, ↓reduceIte, reduceCtorEq, yA, yB, uA, uB, uC, uD, uE, uF], ⟨_, rfl, rfl, rfl⟩, .inl ⟨[], _, .inl (by simp only [go_sem, ↓reduceIte, reduceCtorEq, yA, yB, uA, uB, uC, uD, uE, uF]), aw, .inl ⟨_, rfl, rfl, rfl, rfl⟩⟩⟩ ?_
    refine V.exec 400 ?_
    simp +contextual (maxSteps := 1000000) only [go_sem, ↓reduceIte, reduceCtorEq, yA, yB, uA, uB, uC, uD, uE, uF]
theorem ctOneT (xs0 : List PV) (l0 : xs0.length ≤ maxLen) (h0 : ∀ x ∈ xs0, ∃ qs, x = .agg qs ∧ qs.map PV.kd = [.int .i64, .str, .str, .int .u64] ∧ ∀ q ∈ qs, q.wfv)
    (a1 : Int) (w1 : (Lit.int .u8 a1).wf = true) :
    Ct Try.prog 4 (YtofmiaecjnfeaaaVm.ops [.row xs0, .int .u8 a1]) (.vals [.bool true]) := by
  obtain ⟨a, rfl⟩ := note_of xs0 h0
  exact law_OneT a (by simpa using l0) a1 (u8_of w1)
end Go.Proofs.Ytofmiaecjnfeaaa
