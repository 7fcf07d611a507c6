/- A part of a proof: functions of the program, walked. -/
import Derived.Test.YtnofkhghgjdblaaL10M2
set_option linter.unusedVariables false
set_option linter.unusedSimpArgs false
namespace Go.Proofs.Ytnofkhghgjdblaa
open Go Go.Proofs Go.Proofs.YtnofkhghgjdblaaVm Go.Proofs.Ytnofkhghgjdblaa.Ty

theorem comm_law {l : List Pair} (h : pairsOk l) {a b : List Note} (hd : ∀ n ∈ a, ∀ m ∈ b, n.key ≠ m.key) : appV l (b ++ a) = appV l (a ++ b) := by
  have hs := ((pairsOk_iff l).1 h).1
  refine val_ext (appV_sorted _ hs) (appV_sorted _ hs) fun k => ?_
  rw [appV_val _ hs, appV_val _ hs, List.foldl_append, List.foldl_append]
  by_cases hk : ∃ m ∈ b, m.key = k
  · obtain ⟨m, hm, rfl⟩ := hk
    have ha : ∀ n ∈ a, n.key ≠ m.key := fun n hn => hd n hn m hm
    rw [fold_none a _ ha, fold_none a _ ha]
  · have hb : ∀ m ∈ b, m.key ≠ k := fun m hm e => hk ⟨m, hm, e⟩
    rw [fold_none b _ hb, fold_none b _ hb]
theorem parts_law {l : List Pair} {a b : List Note} (hg : (applyV l (a ++ b)).2 = 0) :
    pairsOk l ∧ notesOk a ∧ notesOk b ∧ (applyV l a).2 = 0 ∧ (applyV (applyV l a).1 b).2 = 0 ∧ (applyV (applyV l a).1 b).1 = (applyV l (a ++ b)).1 ∧ (applyV l (b ++ a)).2 = 0 := by
  have hok : pairsOk l ∧ notesOk (a ++ b) := Classical.byContradiction fun h => by rw [applyV_bad h] at hg; cases hg
  obtain ⟨h, hn⟩ := hok
  obtain ⟨ha, hb⟩ := (notesOk_app a b).1 hn
  have hba : notesOk (b ++ a) := (notesOk_app b a).2 ⟨hb, ha⟩
  rw [applyV_ok h ha, applyV_ok h hn, applyV_ok h hba]
  rw [applyV_ok (appV_ok a h ha) hb]
  exact ⟨h, ha, hb, rfl, rfl, (appV_app l a b).symm, rfl⟩
theorem parts_err {l : List Pair} {a b : List Note} (hg : (applyV l (a ++ b)).2 ≠ 0) : (applyV l a).2 ≠ 0 ∨ (applyV (applyV l a).1 b).2 ≠ 0 := by
  by_cases h1 : pairsOk l ∧ notesOk a
  · by_cases h2 : notesOk b
    · exact absurd (by rw [applyV_ok h1.1 ((notesOk_app a b).2 ⟨h1.2, h2⟩)]) hg
    · refine .inr ?_
      rw [applyV_bad (fun g => h2 g.2)]; simp
  · refine .inl ?_
    rw [applyV_bad h1]; simp

set_option maxRecDepth 10000 in
set_option maxHeartbeats 32000000 in
theorem law_Parts (l : List Pair) (a b : List Note) (hl : l.length ≤ maxLen) (hna : a.length ≤ maxLen) (hnb : b.length ≤ maxLen) :
    Ct Try.prog 6 (YtnofkhghgjdblaaVm.ops [.row (l.map Pair.pv), .row (a.map Note.pv), .row (b.map Note.pv)]) (.vals [.bool true]) := by
  have aw := law10_awake
  refine Ct.of_V Try.func6 rfl (by simp [YtnofkhghgjdblaaVm.ops, Try.f6]) ?_
  refine V.exec 400 ?_
  simp (config := {contextual := true}) only [go_sem, ↓reduceIte, reduceCtorEq, Bool.false_eq_true, Bool.true_eq_false, Nat.reduceAdd, Nat.reduceLT, Nat.reduceEqDiff, Nat.reduceLeDiff, Nat.reduceSub, Nat.reduceMul, Try.f6]
  refine V.call rfl rfl (by simp [dOK]) ⟨9, [], by simp only [go_sem, ↓reduceIte, reduceCtorEq, Bool.false_eq_true, Bool.true_eq_false, Nat.reduceAdd, Nat.reduceLT, Nat.reduceEqDiff, Nat.reduceLeDiff, Nat.reduceSub, Nat.reduceMul], ⟨_, rfl, rfl, rfl⟩, .inl ⟨[.row (l.map Pair.pv)], _, .inl (by simp only [go_sem, ↓reduceIte, reduceCtorEq, Bool.false_eq_true, Bool.true_eq_false, Nat.reduceAdd, Nat.reduceLT, Nat.reduceEqDiff, Nat.reduceLeDiff, Nat.reduceSub, Nat.reduceMul]), law10_small l (by simp only [maxLen] at hl; omega), .inl ⟨_, rfl, rfl, rfl, rfl⟩⟩⟩ ?_
  refine V.exec 400 ?_
  by_cases h1 : smallP l
  · simp (config := {contextual := true}) only [go_sem, ↓reduceIte, reduceCtorEq, Bool.false_eq_true, Bool.true_eq_false, Nat.reduceAdd, Nat.reduceLT, Nat.reduceEqDiff, Nat.reduceLeDiff, Nat.reduceSub, Nat.reduceMul, h1]
    have hl60 := h1.1
    refine V.call rfl rfl (by simp [dOK]) ⟨10, [], by simp only [go_sem, ↓reduceIte, reduceCtorEq, Bool.false_eq_true, Bool.true_eq_false, Nat.reduceAdd, Nat.reduceLT, Nat.reduceEqDiff, Nat.reduceLeDiff, Nat.reduceSub, Nat.reduceMul], ⟨_, rfl, rfl, rfl⟩, .inl ⟨[.row (a.map Note.pv)], _, .inl (by simp only [go_sem, ↓reduceIte, reduceCtorEq, Bool.false_eq_true, Bool.true_eq_false, Nat.reduceAdd, Nat.reduceLT, Nat.reduceEqDiff, Nat.reduceLeDiff, Nat.reduceSub, Nat.reduceMul]), law10_few a (by simp only [maxLen] at hna; omega), .inl ⟨_, rfl, rfl, rfl, rfl⟩⟩⟩ ?_
    refine V.exec 400 ?_
    by_cases h2 : fewN a
    · simp (config := {contextual := true}) only [go_sem, ↓reduceIte, reduceCtorEq, Bool.false_eq_true, Bool.true_eq_false, Nat.reduceAdd, Nat.reduceLT, Nat.reduceEqDiff, Nat.reduceLeDiff, Nat.reduceSub, Nat.reduceMul, h2]
      refine V.call rfl rfl (by simp [dOK]) ⟨10, [], by simp only [go_sem, ↓reduceIte, reduceCtorEq, Bool.false_eq_true, Bool.true_eq_false, Nat.reduceAdd, Nat.reduceLT, Nat.reduceEqDiff, Nat.reduceLeDiff, Nat.reduceSub, Nat.reduceMul], ⟨_, rfl, rfl, rfl⟩, .inl ⟨[.row (b.map Note.pv)], _, .inl (by simp only [go_sem, ↓reduceIte, reduceCtorEq, Bool.false_eq_true, Bool.true_eq_false, Nat.reduceAdd, Nat.reduceLT, Nat.reduceEqDiff, Nat.reduceLeDiff, Nat.reduceSub, Nat.reduceMul]), law10_few b (by simp only [maxLen] at hnb; omega), .inl ⟨_, rfl, rfl, rfl, rfl⟩⟩⟩ ?_
      refine V.exec 400 ?_
      by_cases h3 : fewN b
      · by_cases h4 : a.length ≤ 30
        · have h4' : ¬ (30 : Int) < (a.length : Int) := by omega
          by_cases h5 : b.length ≤ 30
          · have h5' : ¬ (30 : Int) < (b.length : Int) := by omega
            simp (config := {contextual := true}) only [go_sem, ↓reduceIte, reduceCtorEq, Bool.false_eq_true, Bool.true_eq_false, Nat.reduceAdd, Nat.reduceLT, Nat.reduceEqDiff, Nat.reduceLeDiff, Nat.reduceSub, Nat.reduceMul, h3, h4', h5']
            have pe := fun hg => parts_err (l := l) (a := a) (b := b) hg
            have pl := fun hg => parts_law (l := l) (a := a) (b := b) hg
            have cm := fun h hd => comm_law (l := l) (a := a) (b := b) h hd
            have c1 := leaf_Apply l a (by omega) (by omega)
            have n1 := applyV_len l a
            have n2 := applyV_len (applyV l a).1 b
            have n3 := applyV_len l (a ++ b)
            have c2 := leaf_Apply (applyV l a).1 b (by omega) (by omega)
            have c3 := leaf_Apply l (a ++ b) (by omega) (by simp; omega)
            have c4 := leaf_Apply l (b ++ a) (by omega) (by simp; omega)
            rw [List.length_append] at n3
            have zy : pairsOk l → notesOk a → notesOk b → (∀ n ∈ a, ∀ m ∈ b, n.key ≠ m.key) → (applyV l (b ++ a)).1 = (applyV l (a ++ b)).1 := fun h ha hb hd => by
              rw [applyV_ok h ((notesOk_app a b).2 ⟨ha, hb⟩), applyV_ok h ((notesOk_app b a).2 ⟨hb, ha⟩)]
              exact cm h hd
            obtain ⟨x1, e, hA⟩ : ∃ a' e, applyV l a = (a', e) := ⟨_, _, rfl⟩
            obtain ⟨y, g, hG⟩ : ∃ a' e, applyV l (a ++ b) = (a', e) := ⟨_, _, rfl⟩
            obtain ⟨z, h, hH⟩ : ∃ a' e, applyV l (b ++ a) = (a', e) := ⟨_, _, rfl⟩
            rw [hA] at c1 c2 pe pl n1 n2
            rw [hG] at c3 pe pl n3 zy
            rw [hH] at c4 zy pl
            simp only at c1 c2 pe pl n1 n2 c3 n3 zy c4
            obtain ⟨x2, f, hF⟩ : ∃ a' e, applyV x1 b = (a', e) := ⟨_, _, rfl⟩
            rw [hF] at c2 pe pl n2
            simp only at c2 pe pl n2
            refine V.call rfl rfl (by simp [dOK]) ⟨12, [], by simp only [go_sem, ↓reduceIte, reduceCtorEq, Bool.false_eq_true, Bool.true_eq_false, Nat.reduceAdd, Nat.reduceLT, Nat.reduceEqDiff, Nat.reduceLeDiff, Nat.reduceSub, Nat.reduceMul], ⟨_, rfl, rfl, rfl⟩, .inl ⟨[.row (l.map Pair.pv), .row (a.map Note.pv)], _, .inl (by simp only [go_sem, ↓reduceIte, reduceCtorEq, Bool.false_eq_true, Bool.true_eq_false, Nat.reduceAdd, Nat.reduceLT, Nat.reduceEqDiff, Nat.reduceLeDiff, Nat.reduceSub, Nat.reduceMul]), c1, .inr (.inl ⟨_, rfl, rfl, rfl⟩)⟩⟩ ?_
            refine V.exec 400 ?_
            simp (config := {contextual := true}) only [go_sem, ↓reduceIte, reduceCtorEq, Bool.false_eq_true, Bool.true_eq_false, Nat.reduceAdd, Nat.reduceLT, Nat.reduceEqDiff, Nat.reduceLeDiff, Nat.reduceSub, Nat.reduceMul]
            refine V.call rfl rfl (by simp [dOK]) ⟨12, [], by simp only [go_sem, ↓reduceIte, reduceCtorEq, Bool.false_eq_true, Bool.true_eq_false, Nat.reduceAdd, Nat.reduceLT, Nat.reduceEqDiff, Nat.reduceLeDiff, Nat.reduceSub, Nat.reduceMul], ⟨_, rfl, rfl, rfl⟩, .inl ⟨[.row (x1.map Pair.pv), .row (b.map Note.pv)], _, .inl (by simp only [go_sem, ↓reduceIte, reduceCtorEq, Bool.false_eq_true, Bool.true_eq_false, Nat.reduceAdd, Nat.reduceLT, Nat.reduceEqDiff, Nat.reduceLeDiff, Nat.reduceSub, Nat.reduceMul]), c2, .inr (.inl ⟨_, rfl, rfl, rfl⟩)⟩⟩ ?_
            refine V.exec 400 ?_
            simp (config := {contextual := true}) only [go_sem, ↓reduceIte, reduceCtorEq, Bool.false_eq_true, Bool.true_eq_false, Nat.reduceAdd, Nat.reduceLT, Nat.reduceEqDiff, Nat.reduceLeDiff, Nat.reduceSub, Nat.reduceMul]
            refine ⟨fun j _ => rfl, ⟨by omega, by omega⟩, fun j _ => rfl, ⟨by omega, by omega⟩, ?_⟩
            refine V.call rfl rfl (by simp [dOK]) ⟨12, [], by simp only [go_sem, ↓reduceIte, reduceCtorEq, Bool.false_eq_true, Bool.true_eq_false, Nat.reduceAdd, Nat.reduceLT, Nat.reduceEqDiff, Nat.reduceLeDiff, Nat.reduceSub, Nat.reduceMul], ⟨_, rfl, rfl, rfl⟩, .inl ⟨[.row (l.map Pair.pv), .row ((a ++ b).map Note.pv)], _, .inl (by simp only [go_sem, ↓reduceIte, reduceCtorEq, Bool.false_eq_true, Bool.true_eq_false, Nat.reduceAdd, Nat.reduceLT, Nat.reduceEqDiff, Nat.reduceLeDiff, Nat.reduceSub, Nat.reduceMul, List.map_append]), c3, .inr (.inl ⟨_, rfl, rfl, rfl⟩)⟩⟩ ?_
            refine V.exec 400 ?_
            by_cases hg : g = 0
            · obtain ⟨hok, ha, hb, he, hf, hxy, hh⟩ := pl hg
              subst hg he hf hxy hh
              have zy := zy hok ha hb
              simp (config := {contextual := true}) only [go_sem, ↓reduceIte, reduceCtorEq, Bool.false_eq_true, Bool.true_eq_false, Nat.reduceAdd, Nat.reduceLT, Nat.reduceEqDiff, Nat.reduceLeDiff, Nat.reduceSub, Nat.reduceMul]
              refine V.loop (fun m ls os => ∃ i : Nat, i ≤ a.length ∧ m = a.length - i ∧ (∀ n ∈ a.take i, ∀ m ∈ b, n.key ≠ m.key) ∧ ls = [(0, .val (.row (l.map Pair.pv))), (1, .val (.row (a.map Note.pv))), (2, .val (.row (b.map Note.pv))), (7, .val (.row (x2.map Pair.pv))), (8, .val (.int .i64 0)), (9, .val (.int .i64 0)), (10, .val (.row (x2.map Pair.pv))), (75, .val (.row (a.map Note.pv))), (76, .val (.int .i64 a.length)), (77, .val (.int .i64 i))] ∧ os = []) 0 a.length
                [(0, .val (.row (l.map Pair.pv))), (1, .val (.row (a.map Note.pv))), (2, .val (.row (b.map Note.pv))), (7, .val (.row (x2.map Pair.pv))), (8, .val (.int .i64 0)), (9, .val (.int .i64 0)), (10, .val (.row (x2.map Pair.pv))), (75, .val (.row (a.map Note.pv))), (76, .val (.int .i64 a.length)), (77, .val (.int .i64 0))] [] []
                ⟨0, Nat.zero_le _, rfl, by simp, rfl, rfl⟩ (by simp only [go_sem, ↓reduceIte, reduceCtorEq, Bool.false_eq_true, Bool.true_eq_false, Nat.reduceAdd, Nat.reduceLT, Nat.reduceEqDiff, Nat.reduceLeDiff, Nat.reduceSub, Nat.reduceMul]) ?_
              rintro m ls os ⟨i, hi, rfl, hno, rfl, rfl⟩
              refine V.exec 400 ?_
              by_cases hlt : i < a.length
              · have hlt' : (i : Int) < (a.length : Int) := by omega
                obtain ⟨p, hp⟩ : ∃ x, a[i]? = some x := ⟨_, List.getElem?_eq_getElem hlt⟩
                have hw : IntKind.i64.wrap ((i : Int) + 1) = ((i + 1 : Nat) : Int) := by rw [wrap_small3] <;> omega
                simp (config := {contextual := true}) only [go_sem, ↓reduceIte, reduceCtorEq, Bool.false_eq_true, Bool.true_eq_false, Nat.reduceAdd, Nat.reduceLT, Nat.reduceEqDiff, Nat.reduceLeDiff, Nat.reduceSub, Nat.reduceMul, hlt', hp, Note.pv]
                refine V.loop (fun m ls os => ∃ j : Nat, j ≤ b.length ∧ m = b.length - j ∧ (∀ m ∈ b.take j, p.key ≠ m.key) ∧ ls = [(0, .val (.row (l.map Pair.pv))), (1, .val (.row (a.map Note.pv))), (2, .val (.row (b.map Note.pv))), (7, .val (.row (x2.map Pair.pv))), (8, .val (.int .i64 0)), (9, .val (.int .i64 0)), (10, .val (.row (x2.map Pair.pv))), (75, .val (.row (a.map Note.pv))), (76, .val (.int .i64 a.length)), (77, .val (.int .i64 i)), (13, .adr 0 0), (81, .val (.row (b.map Note.pv))), (82, .val (.int .i64 b.length)), (83, .val (.int .i64 j))] ∧ os = [.box true [.val (.int .i64 p.kind), .val (.str p.key), .val (.str p.value), .val (.int .u64 p.n)]]) 1 b.length
                  [(0, .val (.row (l.map Pair.pv))), (1, .val (.row (a.map Note.pv))), (2, .val (.row (b.map Note.pv))), (7, .val (.row (x2.map Pair.pv))), (8, .val (.int .i64 0)), (9, .val (.int .i64 0)), (10, .val (.row (x2.map Pair.pv))), (75, .val (.row (a.map Note.pv))), (76, .val (.int .i64 a.length)), (77, .val (.int .i64 i)), (13, .adr 0 0), (81, .val (.row (b.map Note.pv))), (82, .val (.int .i64 b.length)), (83, .val (.int .i64 0))] [.box true [.val (.int .i64 p.kind), .val (.str p.key), .val (.str p.value), .val (.int .u64 p.n)]] [some 3]
                  ⟨0, Nat.zero_le _, rfl, by simp, rfl, rfl⟩ (by simp only [go_sem, ↓reduceIte, reduceCtorEq, Bool.false_eq_true, Bool.true_eq_false, Nat.reduceAdd, Nat.reduceLT, Nat.reduceEqDiff, Nat.reduceLeDiff, Nat.reduceSub, Nat.reduceMul]; try decide) ?_
                rintro m ls os ⟨j, hj, rfl, hnj, rfl, rfl⟩
                refine V.exec 400 ?_
                by_cases hlj : j < b.length
                · have hlj' : (j : Int) < (b.length : Int) := by omega
                  obtain ⟨q, hq⟩ : ∃ x, b[j]? = some x := ⟨_, List.getElem?_eq_getElem hlj⟩
                  have hwj : IntKind.i64.wrap ((j : Int) + 1) = ((j + 1 : Nat) : Int) := by rw [wrap_small3] <;> omega
                  by_cases hk : p.key = q.key
                  · simp (config := {contextual := true}) only [go_sem, ↓reduceIte, reduceCtorEq, Bool.false_eq_true, Bool.true_eq_false, Nat.reduceAdd, Nat.reduceLT, Nat.reduceEqDiff, Nat.reduceLeDiff, Nat.reduceSub, Nat.reduceMul, hlj', hq, Note.pv, hk]
                    refine V.call rfl rfl (by simp [dOK]) ⟨19, [], by simp only [go_sem, ↓reduceIte, reduceCtorEq, Bool.false_eq_true, Bool.true_eq_false, Nat.reduceAdd, Nat.reduceLT, Nat.reduceEqDiff, Nat.reduceLeDiff, Nat.reduceSub, Nat.reduceMul], ⟨_, rfl, rfl, rfl⟩, .inl ⟨[.row (x2.map Pair.pv), .row (x2.map Pair.pv)], _, .inl (by simp only [go_sem, ↓reduceIte, reduceCtorEq, Bool.false_eq_true, Bool.true_eq_false, Nat.reduceAdd, Nat.reduceLT, Nat.reduceEqDiff, Nat.reduceLeDiff, Nat.reduceSub, Nat.reduceMul]), ref03_Same x2 x2 (by omega), .inl ⟨_, rfl, rfl, rfl, rfl⟩⟩⟩ ?_
                    refine V.exec 400 ?_
                    simp (config := {contextual := true}) only [go_sem, ↓reduceIte, reduceCtorEq, Bool.false_eq_true, Bool.true_eq_false, Nat.reduceAdd, Nat.reduceLT, Nat.reduceEqDiff, Nat.reduceLeDiff, Nat.reduceSub, Nat.reduceMul, decide_true]
                    refine V.call rfl rfl (by simp [dOK]) ⟨11, [], by simp only [go_sem, ↓reduceIte, reduceCtorEq, Bool.false_eq_true, Bool.true_eq_false, Nat.reduceAdd, Nat.reduceLT, Nat.reduceEqDiff, Nat.reduceLeDiff, Nat.reduceSub, Nat.reduceMul], ⟨_, rfl, rfl, rfl⟩, .inl ⟨[], _, .inl (by simp only [go_sem, ↓reduceIte, reduceCtorEq, Bool.false_eq_true, Bool.true_eq_false, Nat.reduceAdd, Nat.reduceLT, Nat.reduceEqDiff, Nat.reduceLeDiff, Nat.reduceSub, Nat.reduceMul]), aw, .inl ⟨_, rfl, rfl, rfl, rfl⟩⟩⟩ ?_
                    refine V.exec 400 ?_
                    simp (config := {contextual := true}) only [go_sem, ↓reduceIte, reduceCtorEq, Bool.false_eq_true, Bool.true_eq_false, Nat.reduceAdd, Nat.reduceLT, Nat.reduceEqDiff, Nat.reduceLeDiff, Nat.reduceSub, Nat.reduceMul]
                  · simp (config := {contextual := true}) only [go_sem, ↓reduceIte, reduceCtorEq, Bool.false_eq_true, Bool.true_eq_false, Nat.reduceAdd, Nat.reduceLT, Nat.reduceEqDiff, Nat.reduceLeDiff, Nat.reduceSub, Nat.reduceMul, hlj', hq, Note.pv, hk, hwj]
                    refine ⟨b.length - (j + 1), _, _, [some 0], by omega, ⟨j + 1, by omega, rfl, fun s hs => ?_, rfl, rfl⟩, by simp only [go_sem, ↓reduceIte, reduceCtorEq, Bool.false_eq_true, Bool.true_eq_false, Nat.reduceAdd, Nat.reduceLT, Nat.reduceEqDiff, Nat.reduceLeDiff, Nat.reduceSub, Nat.reduceMul]⟩
                    rw [List.take_add_one, hq] at hs
                    rcases List.mem_append.1 hs with hs | hs
                    · exact hnj s hs
                    · simp at hs; rw [hs]; exact hk
                · have hlj' : ¬ (j : Int) < (b.length : Int) := by omega
                  rw [List.take_of_length_le (by omega)] at hnj
                  simp (config := {contextual := true}) only [go_sem, ↓reduceIte, reduceCtorEq, Bool.false_eq_true, Bool.true_eq_false, Nat.reduceAdd, Nat.reduceLT, Nat.reduceEqDiff, Nat.reduceLeDiff, Nat.reduceSub, Nat.reduceMul, hlj', hw]
                  refine ⟨a.length - (i + 1), _, _, [], by omega, ⟨i + 1, by omega, rfl, fun s hs => ?_, rfl, rfl⟩, by simp only [go_sem, ↓reduceIte, reduceCtorEq, Bool.false_eq_true, Bool.true_eq_false, Nat.reduceAdd, Nat.reduceLT, Nat.reduceEqDiff, Nat.reduceLeDiff, Nat.reduceSub, Nat.reduceMul]⟩
                  rw [List.take_add_one, hp] at hs
                  rcases List.mem_append.1 hs with hs | hs
                  · exact hno s hs
                  · simp at hs; rw [hs]; exact hnj
              · have hlt' : ¬ (i : Int) < (a.length : Int) := by omega
                rw [List.take_of_length_le (by omega)] at hno
                have hz := zy hno
                subst hz
                simp (config := {contextual := true}) only [go_sem, ↓reduceIte, reduceCtorEq, Bool.false_eq_true, Bool.true_eq_false, Nat.reduceAdd, Nat.reduceLT, Nat.reduceEqDiff, Nat.reduceLeDiff, Nat.reduceSub, Nat.reduceMul, hlt']
                refine ⟨fun j _ => rfl, ⟨by omega, by omega⟩, fun j _ => rfl, ⟨by omega, by omega⟩, ?_⟩
                refine V.call rfl rfl (by simp [dOK]) ⟨12, [], by simp only [go_sem, ↓reduceIte, reduceCtorEq, Bool.false_eq_true, Bool.true_eq_false, Nat.reduceAdd, Nat.reduceLT, Nat.reduceEqDiff, Nat.reduceLeDiff, Nat.reduceSub, Nat.reduceMul], ⟨_, rfl, rfl, rfl⟩, .inl ⟨[.row (l.map Pair.pv), .row ((b ++ a).map Note.pv)], _, .inl (by simp only [go_sem, ↓reduceIte, reduceCtorEq, Bool.false_eq_true, Bool.true_eq_false, Nat.reduceAdd, Nat.reduceLT, Nat.reduceEqDiff, Nat.reduceLeDiff, Nat.reduceSub, Nat.reduceMul, List.map_append]), c4, .inr (.inl ⟨_, rfl, rfl, rfl⟩)⟩⟩ ?_
                refine V.exec 400 ?_
                simp (config := {contextual := true}) only [go_sem, ↓reduceIte, reduceCtorEq, Bool.false_eq_true, Bool.true_eq_false, Nat.reduceAdd, Nat.reduceLT, Nat.reduceEqDiff, Nat.reduceLeDiff, Nat.reduceSub, Nat.reduceMul]
                refine V.call rfl rfl (by simp [dOK]) ⟨19, [], by simp only [go_sem, ↓reduceIte, reduceCtorEq, Bool.false_eq_true, Bool.true_eq_false, Nat.reduceAdd, Nat.reduceLT, Nat.reduceEqDiff, Nat.reduceLeDiff, Nat.reduceSub, Nat.reduceMul], ⟨_, rfl, rfl, rfl⟩, .inl ⟨[.row (z.map Pair.pv), .row (z.map Pair.pv)], _, .inl (by simp only [go_sem, ↓reduceIte, reduceCtorEq, Bool.false_eq_true, Bool.true_eq_false, Nat.reduceAdd, Nat.reduceLT, Nat.reduceEqDiff, Nat.reduceLeDiff, Nat.reduceSub, Nat.reduceMul]), ref03_Same z z (by omega), .inl ⟨_, rfl, rfl, rfl, rfl⟩⟩⟩ ?_
                refine V.exec 400 ?_
                simp (config := {contextual := true}) only [go_sem, ↓reduceIte, reduceCtorEq, Bool.false_eq_true, Bool.true_eq_false, Nat.reduceAdd, Nat.reduceLT, Nat.reduceEqDiff, Nat.reduceLeDiff, Nat.reduceSub, Nat.reduceMul, decide_true]
                refine V.call rfl rfl (by simp [dOK]) ⟨19, [], by simp only [go_sem, ↓reduceIte, reduceCtorEq, Bool.false_eq_true, Bool.true_eq_false, Nat.reduceAdd, Nat.reduceLT, Nat.reduceEqDiff, Nat.reduceLeDiff, Nat.reduceSub, Nat.reduceMul], ⟨_, rfl, rfl, rfl⟩, .inl ⟨[.row (z.map Pair.pv), .row (z.map Pair.pv)], _, .inl (by simp only [go_sem, ↓reduceIte, reduceCtorEq, Bool.false_eq_true, Bool.true_eq_false, Nat.reduceAdd, Nat.reduceLT, Nat.reduceEqDiff, Nat.reduceLeDiff, Nat.reduceSub, Nat.reduceMul]), ref03_Same z z (by omega), .inl ⟨_, rfl, rfl, rfl, rfl⟩⟩⟩ ?_
                refine V.exec 400 ?_
                simp (config := {contextual := true}) only [go_sem, ↓reduceIte, reduceCtorEq, Bool.false_eq_true, Bool.true_eq_false, Nat.reduceAdd, Nat.reduceLT, Nat.reduceEqDiff, Nat.reduceLeDiff, Nat.reduceSub, Nat.reduceMul, decide_true]
                refine V.call rfl rfl (by simp [dOK]) ⟨11, [], by simp only [go_sem, ↓reduceIte, reduceCtorEq, Bool.false_eq_true, Bool.true_eq_false, Nat.reduceAdd, Nat.reduceLT, Nat.reduceEqDiff, Nat.reduceLeDiff, Nat.reduceSub, Nat.reduceMul], ⟨_, rfl, rfl, rfl⟩, .inl ⟨[], _, .inl (by simp only [go_sem, ↓reduceIte, reduceCtorEq, Bool.false_eq_true, Bool.true_eq_false, Nat.reduceAdd, Nat.reduceLT, Nat.reduceEqDiff, Nat.reduceLeDiff, Nat.reduceSub, Nat.reduceMul]), aw, .inl ⟨_, rfl, rfl, rfl, rfl⟩⟩⟩ ?_
                refine V.exec 400 ?_
                simp (config := {contextual := true}) only [go_sem, ↓reduceIte, reduceCtorEq, Bool.false_eq_true, Bool.true_eq_false, Nat.reduceAdd, Nat.reduceLT, Nat.reduceEqDiff, Nat.reduceLeDiff, Nat.reduceSub, Nat.reduceMul]
            · have hor := pe hg
              by_cases he : e = 0
              · have hf : ¬ f = 0 := hor.resolve_left (fun h => h he)
                simp (config := {contextual := true}) only [go_sem, ↓reduceIte, reduceCtorEq, Bool.false_eq_true, Bool.true_eq_false, Nat.reduceAdd, Nat.reduceLT, Nat.reduceEqDiff, Nat.reduceLeDiff, Nat.reduceSub, Nat.reduceMul, hg, he, hf]
                refine V.call rfl rfl (by simp [dOK]) ⟨11, [], by simp only [go_sem, ↓reduceIte, reduceCtorEq, Bool.false_eq_true, Bool.true_eq_false, Nat.reduceAdd, Nat.reduceLT, Nat.reduceEqDiff, Nat.reduceLeDiff, Nat.reduceSub, Nat.reduceMul], ⟨_, rfl, rfl, rfl⟩, .inl ⟨[], _, .inl (by simp only [go_sem, ↓reduceIte, reduceCtorEq, Bool.false_eq_true, Bool.true_eq_false, Nat.reduceAdd, Nat.reduceLT, Nat.reduceEqDiff, Nat.reduceLeDiff, Nat.reduceSub, Nat.reduceMul]), aw, .inl ⟨_, rfl, rfl, rfl, rfl⟩⟩⟩ ?_
                refine V.exec 400 ?_
                simp (config := {contextual := true}) only [go_sem, ↓reduceIte, reduceCtorEq, Bool.false_eq_true, Bool.true_eq_false, Nat.reduceAdd, Nat.reduceLT, Nat.reduceEqDiff, Nat.reduceLeDiff, Nat.reduceSub, Nat.reduceMul]
              · simp (config := {contextual := true}) only [go_sem, ↓reduceIte, reduceCtorEq, Bool.false_eq_true, Bool.true_eq_false, Nat.reduceAdd, Nat.reduceLT, Nat.reduceEqDiff, Nat.reduceLeDiff, Nat.reduceSub, Nat.reduceMul, hg, he]
                refine V.call rfl rfl (by simp [dOK]) ⟨11, [], by simp only [go_sem, ↓reduceIte, reduceCtorEq, Bool.false_eq_true, Bool.true_eq_false, Nat.reduceAdd, Nat.reduceLT, Nat.reduceEqDiff, Nat.reduceLeDiff, Nat.reduceSub, Nat.reduceMul], ⟨_, rfl, rfl, rfl⟩, .inl ⟨[], _, .inl (by simp only [go_sem, ↓reduceIte, reduceCtorEq, Bool.false_eq_true, Bool.true_eq_false, Nat.reduceAdd, Nat.reduceLT, Nat.reduceEqDiff, Nat.reduceLeDiff, Nat.reduceSub, Nat.reduceMul]), aw, .inl ⟨_, rfl, rfl, rfl, rfl⟩⟩⟩ ?_
                refine V.exec 400 ?_
                simp (config := {contextual := true}) only [go_sem, ↓reduceIte, reduceCtorEq, Bool.false_eq_true, Bool.true_eq_false, Nat.reduceAdd, Nat.reduceLT, Nat.reduceEqDiff, Nat.reduceLeDiff, Nat.reduceSub, Nat.reduceMul]
          · have h5' : (30 : Int) < (b.length : Int) := by omega
            simp (config := {contextual := true}) only [go_sem, ↓reduceIte, reduceCtorEq, Bool.false_eq_true, Bool.true_eq_false, Nat.reduceAdd, Nat.reduceLT, Nat.reduceEqDiff, Nat.reduceLeDiff, Nat.reduceSub, Nat.reduceMul, h3, h4', h5']
            refine V.call rfl rfl (by simp [dOK]) ⟨11, [], by simp only [go_sem, ↓reduceIte, reduceCtorEq, Bool.false_eq_true, Bool.true_eq_false, Nat.reduceAdd, Nat.reduceLT, Nat.reduceEqDiff, Nat.reduceLeDiff, Nat.reduceSub, Nat.reduceMul], ⟨_, rfl, rfl, rfl⟩, .inl ⟨[], _, .inl (by simp only [go_sem, ↓reduceIte, reduceCtorEq, Bool.false_eq_true, Bool.true_eq_false, Nat.reduceAdd, Nat.reduceLT, Nat.reduceEqDiff, Nat.reduceLeDiff, Nat.reduceSub, Nat.reduceMul]), aw, .inl ⟨_, rfl, rfl, rfl, rfl⟩⟩⟩ ?_
            refine V.exec 400 ?_
            simp (config := {contextual := true}) only [go_sem, ↓reduceIte, reduceCtorEq, Bool.false_eq_true, Bool.true_eq_false, Nat.reduceAdd, Nat.reduceLT, Nat.reduceEqDiff, Nat.reduceLeDiff, Nat.reduceSub, Nat.reduceMul]
        · have h4' : (30 : Int) < (a.length : Int) := by omega
          simp (config := {contextual := true}) only [go_sem, ↓reduceIte, reduceCtorEq, Bool.false_eq_true, Bool.true_eq_false, Nat.reduceAdd, Nat.reduceLT, Nat.reduceEqDiff, Nat.reduceLeDiff, Nat.reduceSub, Nat.reduceMul, h3, h4']
          refine V.call rfl rfl (by simp [dOK]) ⟨11, [], by simp only [go_sem, ↓reduceIte, reduceCtorEq, Bool.false_eq_true, Bool.true_eq_false, Nat.reduceAdd, Nat.reduceLT, Nat.reduceEqDiff, Nat.reduceLeDiff, Nat.reduceSub, Nat.reduceMul], ⟨_, rfl, rfl, rfl⟩, .inl ⟨[], _, .inl (by simp only [go_sem, ↓reduceIte, reduceCtorEq, Bool.false_eq_true, Bool.true_eq_false, Nat.reduceAdd, Nat.reduceLT, Nat.reduceEqDiff, Nat.reduceLeDiff, Nat.reduceSub, Nat.reduceMul]), aw, .inl ⟨_, rfl, rfl, rfl, rfl⟩⟩⟩ ?_
          refine V.exec 400 ?_
          simp (config := {contextual := true}) only [go_sem, ↓reduceIte, reduceCtorEq, Bool.false_eq_true, Bool.true_eq_false, Nat.reduceAdd, Nat.reduceLT, Nat.reduceEqDiff, Nat.reduceLeDiff, Nat.reduceSub, Nat.reduceMul]
      · simp (config := {contextual := true}) only [go_sem, ↓reduceIte, reduceCtorEq, Bool.false_eq_true, Bool.true_eq_false, Nat.reduceAdd, Nat.reduceLT, Nat.reduceEqDiff, Nat.reduceLeDiff, Nat.reduceSub, Nat.reduceMul, h3]
        refine V.call rfl rfl (by simp [dOK]) ⟨11, [], by simp only [go_sem, ↓reduceIte, reduceCtorEq, Bool.false_eq_true, Bool.true_eq_false, Nat.reduceAdd, Nat.reduceLT, Nat.reduceEqDiff, Nat.reduceLeDiff, Nat.reduceSub, Nat.reduceMul], ⟨_, rfl, rfl, rfl⟩, .inl ⟨[], _, .inl (by simp only [go_sem, ↓reduceIte, reduceCtorEq, Bool.false_eq_true, Bool.true_eq_false, Nat.reduceAdd, Nat.reduceLT, Nat.reduceEqDiff, Nat.reduceLeDiff, Nat.reduceSub, Nat.reduceMul]), aw, .inl ⟨_, rfl, rfl, rfl, rfl⟩⟩⟩ ?_
        refine V.exec 400 ?_
        simp (config := {contextual := true}) only [go_sem, ↓reduceIte, reduceCtorEq, Bool.false_eq_true, Bool.true_eq_false, Nat.reduceAdd, Nat.reduceLT, Nat.reduceEqDiff, Nat.reduceLeDiff, Nat.reduceSub, Nat.reduceMul]
    · simp (config := {contextual := true}) only [go_sem, ↓reduceIte, reduceCtorEq, Bool.false_eq_true, Bool.true_eq_false, Nat.reduceAdd, Nat.reduceLT, Nat.reduceEqDiff, Nat.reduceLeDiff, Nat.reduceSub, Nat.reduceMul, h2]
      refine V.call rfl rfl (by simp [dOK]) ⟨11, [], by simp only [go_sem, ↓reduceIte, reduceCtorEq, Bool.false_eq_true, Bool.true_eq_false, Nat.reduceAdd, Nat.reduceLT, Nat.reduceEqDiff, Nat.reduceLeDiff, Nat.reduceSub, Nat.reduceMul], ⟨_, rfl, rfl, rfl⟩, .inl ⟨[], _, .inl (by simp only [go_sem, ↓reduceIte, reduceCtorEq, Bool.false_eq_true, Bool.true_eq_false, Nat.reduceAdd, Nat.reduceLT, Nat.reduceEqDiff, Nat.reduceLeDiff, Nat.reduceSub, Nat.reduceMul]), aw, .inl ⟨_, rfl, rfl, rfl, rfl⟩⟩⟩ ?_
      refine V.exec 400 ?_
      simp (config := {contextual := true}) only [go_sem, ↓reduceIte, reduceCtorEq, Bool.false_eq_true, Bool.true_eq_false, Nat.reduceAdd, Nat.reduceLT, Nat.reduceEqDiff, Nat.reduceLeDiff, Nat.reduceSub, Nat.reduceMul]
  · simp (config := {contextual := true}) only [go_sem, ↓reduceIte, reduceCtorEq, Bool.false_eq_true, Bool.true_eq_false, Nat.reduceAdd, Nat.reduceLT, Nat.reduceEqDiff, Nat.reduceLeDiff, Nat.reduceSub, Nat.reduceMul, h1]
    refine V.call rfl rfl (by simp [dOK]) ⟨11, [], by simp only [go_sem, ↓reduceIte, reduceCtorEq, Bool.false_eq_true, Bool.true_eq_false, Nat.reduceAdd, Nat.reduceLT, Nat.reduceEqDiff, Nat.reduceLeDiff, Nat.reduceSub, Nat.reduceMul], ⟨_, rfl, rfl, rfl⟩, .inl ⟨[], _, .inl (by simp only [go_sem, ↓reduceIte, reduceCtorEq, Bool.false_eq_true, Bool.true_eq_false, Nat.reduceAdd, Nat.reduceLT, Nat.reduceEqDiff, Nat.reduceLeDiff, Nat.reduceSub, Nat.reduceMul]), aw, .inl ⟨_, rfl, rfl, rfl, rfl⟩⟩⟩ ?_
    refine V.exec 400 ?_
    simp (config := {contextual := true}) only [go_sem, ↓reduceIte, reduceCtorEq, Bool.false_eq_true, Bool.true_eq_false, Nat.reduceAdd, Nat.reduceLT, Nat.reduceEqDiff, Nat.reduceLeDiff, Nat.reduceSub, Nat.reduceMul]

theorem ctParts (xs0 : List PV) (l0 : xs0.length ≤ maxLen) (h0 : ∀ x ∈ xs0, ∃ qs, x = .agg qs ∧ qs.map PV.kd = [.str, .str] ∧ ∀ q ∈ qs, q.wfv)
    (xs1 : List PV) (l1 : xs1.length ≤ maxLen) (h1 : ∀ x ∈ xs1, ∃ qs, x = .agg qs ∧ qs.map PV.kd = [.int .i64, .str, .str, .int .u64] ∧ ∀ q ∈ qs, q.wfv)
    (xs2 : List PV) (l2 : xs2.length ≤ maxLen) (h2 : ∀ x ∈ xs2, ∃ qs, x = .agg qs ∧ qs.map PV.kd = [.int .i64, .str, .str, .int .u64] ∧ ∀ q ∈ qs, q.wfv) :
    Ct Try.prog 6 (YtnofkhghgjdblaaVm.ops [.row xs0, .row xs1, .row xs2]) (.vals [.bool true]) := by
  obtain ⟨l, rfl⟩ := pair_of xs0 h0
  obtain ⟨a, rfl⟩ := note_of xs1 h1
  obtain ⟨b, rfl⟩ := note_of xs2 h2
  exact law_Parts l a b (by simpa using l0) (by simpa using l1) (by simpa using l2)
end Go.Proofs.Ytnofkhghgjdblaa
