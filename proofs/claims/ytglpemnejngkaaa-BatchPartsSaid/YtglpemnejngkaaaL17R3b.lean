/- A part of a proof: functions of the program, walked. -/
import Derived.Test.YtglpemnejngkaaaL17R2b
set_option linter.unusedVariables false
set_option linter.unusedSimpArgs false
namespace Go.Proofs.Ytglpemnejngkaaa
open Go Go.Proofs Go.Proofs.YtglpemnejngkaaaVm Go.Proofs.Ytglpemnejngkaaa.Ty

set_option maxRecDepth 10000 in
set_option maxHeartbeats 16000000 in
theorem ref10_one (l : List Pair) (x : Note) (hl : l.length ≤ 400000) (hs : Sorted l) : Ct Try.prog 49 (YtglpemnejngkaaaVm.ops [.row (l.map Pair.pv), x.pv]) (.vals [.row ((oneV l x).map Pair.pv)]) := by
  refine Ct.of_V Try.func49 rfl (by simp [YtglpemnejngkaaaVm.ops, Try.f49]) ?_
  refine V.exec 400 ?_
  simp (config := {contextual := true}) only [go_sem, ↓reduceIte, reduceCtorEq, Bool.false_eq_true, Bool.true_eq_false, Nat.reduceAdd, Nat.reduceLT, Nat.reduceEqDiff, Nat.reduceLeDiff, Nat.reduceSub, Nat.reduceMul, Try.f49, Note.pv]
  refine V.loop (fun m ls os => ∃ (i : Nat), i ≤ l.length ∧ m = l.length - i ∧
        ls = [(0, .val (.row (l.map Pair.pv))), (3, .adr 0 0), (5, .val (.str (lastV (l.take i) x.key).1)), (6, .val (.bool (decide ((lastV (l.take i) x.key).2 = true)))), (7, .ref 1), (8, .ref 2), (9, .val (.int .i64 i))] ∧
        os = [.box true [.val (.int .i64 x.kind), .val (.str x.key), .val (.str x.value), .val (.int .u64 x.n)], .row 61 ((lowP (l.take i) x.key).map Pair.pv), .row 61 ((highP (l.take i) x.key).map Pair.pv)]) 3 l.length
      [(0, .val (.row (l.map Pair.pv))), (3, .adr 0 0), (5, .val (.str [])), (6, .val (.bool (decide (false = true)))), (7, .ref 1), (8, .ref 2), (9, .val (.int .i64 0))]
      [.box true [.val (.int .i64 x.kind), .val (.str x.key), .val (.str x.value), .val (.int .u64 x.n)], .row 61 [], .row 61 []] [some 2, none, none]
      ⟨0, Nat.zero_le _, rfl, rfl, rfl⟩ (by simp only [go_sem, ↓reduceIte, reduceCtorEq, Bool.false_eq_true, Bool.true_eq_false, Nat.reduceAdd, Nat.reduceLT, Nat.reduceEqDiff, Nat.reduceLeDiff, Nat.reduceSub, Nat.reduceMul, decide_false]; try decide) ?_
  rintro m ls os ⟨i, hi, rfl, rfl, rfl⟩
  refine V.exec 400 ?_
  by_cases hlt : i < l.length
  · have hlt' : (i : Int) < (l.length : Int) := by omega
    obtain ⟨p, hp⟩ : ∃ x, l[i]? = some x := ⟨_, List.getElem?_eq_getElem hlt⟩
    have hw : IntKind.i64.wrap ((i : Int) + 1) = ((i + 1 : Nat) : Int) := by rw [wrap_small3] <;> omega
    have h1 := lowP_snoc (l.take i) p x.key
    have h2 := highP_snoc (l.take i) p x.key
    have h3 := lastV_snoc (l.take i) p x.key
    rw [← take_snoc hp] at h1 h2 h3
    have hl1 : (lowP (l.take i) x.key).length ≤ i := Nat.le_trans (lowP_len _ _) (by simp; omega)
    have hl2 : (highP (l.take i) x.key).length ≤ i := Nat.le_trans (highP_len _ _) (by simp; omega)
    by_cases ha : slt p.key x.key
    · have hb : ¬ p.key = x.key := fun e => slt_irrefl x.key (by rw [e] at ha; exact ha)
      have hc : ¬ slt x.key p.key := slt_asymm ha
      rw [if_pos ha] at h1
      rw [if_neg hc] at h2
      rw [if_neg hb] at h3
      have hd : ¬ (slt p.key x.key ∨ p.key = x.key) ↔ False := by simp [ha]
      simp (config := {contextual := true}) only [go_sem, ↓reduceIte, reduceCtorEq, Bool.false_eq_true, Bool.true_eq_false, Nat.reduceAdd, Nat.reduceLT, Nat.reduceEqDiff, Nat.reduceLeDiff, Nat.reduceSub, Nat.reduceMul, hlt', hp, Pair.pv, hw, ha, hb, true_or]
      (repeat' (first | (intro _) | (refine ⟨by kernel_rfl, ?_⟩) | (apply And.intro)))
      all_goals first
        | omega
        | (refine ⟨l.length - (i + 1), _, _, [some 0, some 21, some 2], by omega, ⟨i + 1, by omega, rfl, rfl, rfl⟩, ?_⟩
           simp only [go_sem, ↓reduceIte, reduceCtorEq, Bool.false_eq_true, Bool.true_eq_false, Nat.reduceAdd, Nat.reduceLT, Nat.reduceEqDiff, Nat.reduceLeDiff, Nat.reduceSub, Nat.reduceMul, h1, h2, h3, List.map_append, List.map_cons, List.map_nil, Pair.pv, decide_true]
           try decide)
    · by_cases hb : p.key = x.key
      · have hc : ¬ slt x.key p.key := by rw [hb]; exact slt_irrefl _
        rw [if_neg ha] at h1
        rw [if_neg hc] at h2
        rw [if_pos hb] at h3
        have hsi := slt_irrefl x.key
        simp (config := {contextual := true}) only [go_sem, ↓reduceIte, reduceCtorEq, Bool.false_eq_true, Bool.true_eq_false, Nat.reduceAdd, Nat.reduceLT, Nat.reduceEqDiff, Nat.reduceLeDiff, Nat.reduceSub, Nat.reduceMul, hlt', hp, Pair.pv, hw, hb, hsi, or_true]
        (repeat' (first | (intro _) | (refine ⟨by kernel_rfl, ?_⟩) | (apply And.intro)))
        all_goals first
          | omega
          | (refine ⟨l.length - (i + 1), _, _, [some 0, some 1, some 2], by omega, ⟨i + 1, by omega, rfl, rfl, rfl⟩, ?_⟩
             simp only [go_sem, ↓reduceIte, reduceCtorEq, Bool.false_eq_true, Bool.true_eq_false, Nat.reduceAdd, Nat.reduceLT, Nat.reduceEqDiff, Nat.reduceLeDiff, Nat.reduceSub, Nat.reduceMul, h1, h2, h3, List.map_append, List.map_cons, List.map_nil, Pair.pv, decide_true]
             try decide)
      · have hc : slt x.key p.key := by
          rcases slt_total p.key x.key with h | h | h
          · exact absurd h ha
          · exact absurd h hb
          · exact h
        rw [if_neg ha] at h1
        rw [if_pos hc] at h2
        rw [if_neg hb] at h3
        simp (config := {contextual := true}) only [go_sem, ↓reduceIte, reduceCtorEq, Bool.false_eq_true, Bool.true_eq_false, Nat.reduceAdd, Nat.reduceLT, Nat.reduceEqDiff, Nat.reduceLeDiff, Nat.reduceSub, Nat.reduceMul, hlt', hp, Pair.pv, hw, ha, hb, or_self]
        (repeat' (first | (intro _) | (refine ⟨by kernel_rfl, ?_⟩) | (apply And.intro)))
        all_goals first
          | omega
          | (refine ⟨l.length - (i + 1), _, _, [some 0, some 1, some 37], by omega, ⟨i + 1, by omega, rfl, rfl, rfl⟩, ?_⟩
             simp only [go_sem, ↓reduceIte, reduceCtorEq, Bool.false_eq_true, Bool.true_eq_false, Nat.reduceAdd, Nat.reduceLT, Nat.reduceEqDiff, Nat.reduceLeDiff, Nat.reduceSub, Nat.reduceMul, h1, h2, h3, List.map_append, List.map_cons, List.map_nil, Pair.pv, decide_true]
             try decide)
  · have hlt' : ¬ (i : Int) < (l.length : Int) := by omega
    simp (config := {contextual := true}) only [go_sem, ↓reduceIte, reduceCtorEq, Bool.false_eq_true, Bool.true_eq_false, Nat.reduceAdd, Nat.reduceLT, Nat.reduceEqDiff, Nat.reduceLeDiff, Nat.reduceSub, Nat.reduceMul, hlt']
    rw [List.take_of_length_le (by omega)]
    have ho := oneV_last hs x
    have hl1 := lowP_len l x.key
    have hl2 := highP_len l x.key
    generalize lowP l x.key = low at *
    generalize highP l x.key = high at *
    obtain ⟨v, has, hlv⟩ : ∃ a b, lastV l x.key = (a, b) := ⟨_, _, rfl⟩
    rw [hlv] at ho ⊢
    simp only at ho ⊢
    have hfe : v = (if has = true then v else []) ∨ True := .inr trivial
    have hv0 : has = false → v = [] := fun h => by
      have := lastV_val hs x.key
      rw [hlv] at this
      cases hv : val l x.key with
      | none => rw [hv] at this; cases this; rfl
      | some w => rw [hv] at this; cases this; cases h
    have hdo := ref09_Done v has [x] (by simp)
    have hdv : doneV v has [x] = doneOne (v, has) x := by
      unfold doneV
      simp only [List.foldl_cons, List.foldl_nil]
      cases has with
      | true => rfl
      | false => rw [hv0 rfl]; rfl
    rw [hdv] at hdo
    obtain ⟨now, is', hdd⟩ : ∃ a b, doneOne (v, has) x = (a, b) := ⟨_, _, rfl⟩
    rw [hdd] at hdo ho
    simp only at hdo ho
    refine V.call rfl rfl (by simp [dOK]) ⟨48, [], by simp only [go_sem, ↓reduceIte, reduceCtorEq, Bool.false_eq_true, Bool.true_eq_false, Nat.reduceAdd, Nat.reduceLT, Nat.reduceEqDiff, Nat.reduceLeDiff, Nat.reduceSub, Nat.reduceMul], ⟨_, rfl, rfl, rfl⟩, .inl ⟨[.str v, .bool (decide (has = true)), .row ([x].map Note.pv)], _, .inl (by simp only [go_sem, ↓reduceIte, reduceCtorEq, Bool.false_eq_true, Bool.true_eq_false, Nat.reduceAdd, Nat.reduceLT, Nat.reduceEqDiff, Nat.reduceLeDiff, Nat.reduceSub, Nat.reduceMul, Note.pv, List.map_cons, List.map_nil]), hdo, .inr (.inl ⟨_, rfl, rfl, rfl⟩)⟩⟩ ?_
    refine V.exec 400 ?_
    cases is' with
    | true =>
      rw [if_pos rfl] at ho
      rw [ho]
      simp (config := {contextual := true}) only [go_sem, ↓reduceIte, reduceCtorEq, Bool.false_eq_true, Bool.true_eq_false, Nat.reduceAdd, Nat.reduceLT, Nat.reduceEqDiff, Nat.reduceLeDiff, Nat.reduceSub, Nat.reduceMul, decide_true]
      refine ⟨⟨by omega, by omega⟩, fun j _ => rfl, ⟨by simp; omega, by simp; omega⟩, by simp [Pair.pv]⟩
    | false =>
      rw [if_neg (by simp)] at ho
      rw [ho]
      simp (config := {contextual := true}) only [go_sem, ↓reduceIte, reduceCtorEq, Bool.false_eq_true, Bool.true_eq_false, Nat.reduceAdd, Nat.reduceLT, Nat.reduceEqDiff, Nat.reduceLeDiff, Nat.reduceSub, Nat.reduceMul, decide_false]
      refine ⟨fun j _ => rfl, ⟨by omega, by omega⟩, by simp⟩

set_option maxRecDepth 10000 in
set_option maxHeartbeats 16000000 in
theorem ref10_Apply (l : List Pair) (ns : List Note) (hl : l.length ≤ 200000) (hn : ns.length ≤ 200000) : Ct Try.prog 31 (YtglpemnejngkaaaVm.ops [.row (l.map Pair.pv), .row (ns.map Note.pv)]) (.vals [.row ((applyV l ns).1.map Pair.pv), .int .i64 (applyV l ns).2]) := by
  refine Ct.of_V Try.func31 rfl (by simp [YtglpemnejngkaaaVm.ops, Try.f31]) ?_
  refine V.exec 400 ?_
  simp (config := {contextual := true}) only [go_sem, ↓reduceIte, reduceCtorEq, Bool.false_eq_true, Bool.true_eq_false, Nat.reduceAdd, Nat.reduceLT, Nat.reduceEqDiff, Nat.reduceLeDiff, Nat.reduceSub, Nat.reduceMul, Try.f31]
  refine V.call rfl rfl (by simp [dOK]) ⟨29, [], by simp only [go_sem, ↓reduceIte, reduceCtorEq, Bool.false_eq_true, Bool.true_eq_false, Nat.reduceAdd, Nat.reduceLT, Nat.reduceEqDiff, Nat.reduceLeDiff, Nat.reduceSub, Nat.reduceMul], ⟨_, rfl, rfl, rfl⟩, .inl ⟨[.row (l.map Pair.pv)], _, .inl (by simp only [go_sem, ↓reduceIte, reduceCtorEq, Bool.false_eq_true, Bool.true_eq_false, Nat.reduceAdd, Nat.reduceLT, Nat.reduceEqDiff, Nat.reduceLeDiff, Nat.reduceSub, Nat.reduceMul]), ref10_Right l (by omega), .inl ⟨_, rfl, rfl, rfl, rfl⟩⟩⟩ ?_
  refine V.exec 400 ?_
  simp (config := {contextual := true}) only [go_sem, ↓reduceIte, reduceCtorEq, Bool.false_eq_true, Bool.true_eq_false, Nat.reduceAdd, Nat.reduceLT, Nat.reduceEqDiff, Nat.reduceLeDiff, Nat.reduceSub, Nat.reduceMul]
  refine V.call rfl rfl (by simp [dOK]) ⟨15, [], by simp only [go_sem, ↓reduceIte, reduceCtorEq, Bool.false_eq_true, Bool.true_eq_false, Nat.reduceAdd, Nat.reduceLT, Nat.reduceEqDiff, Nat.reduceLeDiff, Nat.reduceSub, Nat.reduceMul], ⟨_, rfl, rfl, rfl⟩, .inl ⟨[.row (ns.map Note.pv)], _, .inl (by simp only [go_sem, ↓reduceIte, reduceCtorEq, Bool.false_eq_true, Bool.true_eq_false, Nat.reduceAdd, Nat.reduceLT, Nat.reduceEqDiff, Nat.reduceLeDiff, Nat.reduceSub, Nat.reduceMul]), ref09_All ns (by omega), .inl ⟨_, rfl, rfl, rfl, rfl⟩⟩⟩ ?_
  refine V.exec 400 ?_
  by_cases hok : pairsOk l
  · by_cases hall : notesOk' ns
    · have hv : applyV l ns = (appV l ns, 0) := applyV_ok hok hall
      simp (config := {contextual := true}) only [go_sem, ↓reduceIte, reduceCtorEq, Bool.false_eq_true, Bool.true_eq_false, Nat.reduceAdd, Nat.reduceLT, Nat.reduceEqDiff, Nat.reduceLeDiff, Nat.reduceSub, Nat.reduceMul, hok, hall, hv]
      refine V.loop (fun m ls os => ∃ (i : Nat) (cur : List Pair), i ≤ ns.length ∧ m = ns.length - i ∧ Sorted cur ∧ cur.length ≤ l.length + i ∧ appV cur (ns.drop i) = appV l ns ∧
          ls = [(0, .val (.row (cur.map Pair.pv))), (1, .val (.row (ns.map Note.pv))), (8, .val (.int .i64 i))] ∧ os = []) 0 ns.length
        [(0, .val (.row (l.map Pair.pv))), (1, .val (.row (ns.map Note.pv))), (8, .val (.int .i64 0))] [] []
        ⟨0, l, Nat.zero_le _, rfl, ((pairsOk_iff l).1 hok).1, Nat.le_refl _, rfl, rfl, rfl⟩ (by simp only [go_sem, ↓reduceIte, reduceCtorEq, Bool.false_eq_true, Bool.true_eq_false, Nat.reduceAdd, Nat.reduceLT, Nat.reduceEqDiff, Nat.reduceLeDiff, Nat.reduceSub, Nat.reduceMul]) ?_
      rintro m ls os ⟨i, cur, hi, rfl, hcs, hcl, hca, rfl, rfl⟩
      refine V.exec 400 ?_
      by_cases hlt : i < ns.length
      · have hlt' : (i : Int) < (ns.length : Int) := by omega
        obtain ⟨x, hx⟩ : ∃ x, ns[i]? = some x := ⟨_, List.getElem?_eq_getElem hlt⟩
        have hw : IntKind.i64.wrap ((i : Int) + 1) = ((i + 1 : Nat) : Int) := by rw [wrap_small3] <;> omega
        rw [drop_of_get hx, appV, List.foldl_cons] at hca
        have hol := oneV_len hcs x
        simp (config := {contextual := true}) only [go_sem, ↓reduceIte, reduceCtorEq, Bool.false_eq_true, Bool.true_eq_false, Nat.reduceAdd, Nat.reduceLT, Nat.reduceEqDiff, Nat.reduceLeDiff, Nat.reduceSub, Nat.reduceMul, hlt', hx, Note.pv]
        refine V.call rfl rfl (by simp [dOK]) ⟨49, [], by simp only [go_sem, ↓reduceIte, reduceCtorEq, Bool.false_eq_true, Bool.true_eq_false, Nat.reduceAdd, Nat.reduceLT, Nat.reduceEqDiff, Nat.reduceLeDiff, Nat.reduceSub, Nat.reduceMul], ⟨_, rfl, rfl, rfl⟩, .inl ⟨[.row (cur.map Pair.pv), x.pv], _, .inl (by simp only [go_sem, ↓reduceIte, reduceCtorEq, Bool.false_eq_true, Bool.true_eq_false, Nat.reduceAdd, Nat.reduceLT, Nat.reduceEqDiff, Nat.reduceLeDiff, Nat.reduceSub, Nat.reduceMul, Note.pv]), ref10_one cur x (by omega) hcs, .inr (.inl ⟨_, rfl, rfl, rfl⟩)⟩⟩ ?_
        refine V.exec 400 ?_
        simp (config := {contextual := true}) only [go_sem, ↓reduceIte, reduceCtorEq, Bool.false_eq_true, Bool.true_eq_false, Nat.reduceAdd, Nat.reduceLT, Nat.reduceEqDiff, Nat.reduceLeDiff, Nat.reduceSub, Nat.reduceMul, hw]
        exact ⟨ns.length - (i + 1), _, [], [], by omega, ⟨i + 1, oneV cur x, by omega, rfl, oneV_sorted hcs x, by omega, hca, rfl, rfl⟩, by simp only [go_sem, ↓reduceIte, reduceCtorEq, Bool.false_eq_true, Bool.true_eq_false, Nat.reduceAdd, Nat.reduceLT, Nat.reduceEqDiff, Nat.reduceLeDiff, Nat.reduceSub, Nat.reduceMul]⟩
      · have hlt' : ¬ (i : Int) < (ns.length : Int) := by omega
        have hd : ns.drop i = [] := List.drop_eq_nil_of_le (by omega)
        rw [hd] at hca
        simp (config := {contextual := true}) only [go_sem, ↓reduceIte, reduceCtorEq, Bool.false_eq_true, Bool.true_eq_false, Nat.reduceAdd, Nat.reduceLT, Nat.reduceEqDiff, Nat.reduceLeDiff, Nat.reduceSub, Nat.reduceMul, hlt', ← hca]
        rfl
    · have hv : applyV l ns = (l, 1) := applyV_bad (fun h => hall h.2)
      simp (config := {contextual := true}) only [go_sem, ↓reduceIte, reduceCtorEq, Bool.false_eq_true, Bool.true_eq_false, Nat.reduceAdd, Nat.reduceLT, Nat.reduceEqDiff, Nat.reduceLeDiff, Nat.reduceSub, Nat.reduceMul, hok, hall, hv]
  · have hv : applyV l ns = (l, 1) := applyV_bad (fun h => hok h.1)
    simp (config := {contextual := true}) only [go_sem, ↓reduceIte, reduceCtorEq, Bool.false_eq_true, Bool.true_eq_false, Nat.reduceAdd, Nat.reduceLT, Nat.reduceEqDiff, Nat.reduceLeDiff, Nat.reduceSub, Nat.reduceMul, hok, hv]
end Go.Proofs.Ytglpemnejngkaaa
