/- A part of a proof: functions of the program, walked. -/
import Derived.Test.YtglpemnejngkaaaL17W1
set_option linter.unusedVariables false
set_option linter.unusedSimpArgs false
namespace Go.Proofs.Ytglpemnejngkaaa
open Go Go.Proofs Go.Proofs.YtglpemnejngkaaaVm Go.Proofs.Ytglpemnejngkaaa.Ty

theorem runV_err {l : List Pair} {seq : Int} {ns : List Note} (h : (runV l seq ns).2.2 ≠ 0) : (runV l seq ns).1 = [] ∧ (runV l seq ns).2.1 = l := by
  unfold runV at *
  split
  · rename_i hc
    rw [if_pos hc] at h
    split
    · exact ⟨rfl, rfl⟩
    · rename_i h3
      rw [if_neg h3] at h
      exact absurd rfl h
  · exact ⟨rfl, rfl⟩
theorem runGo_keys : ∀ (ns : List Note) (p : List Pair) (seq : Int) (out : List Change), ∃ cs, (runGo p seq out ns).1 = out ++ cs ∧ List.Sublist (cs.map Change.key) (ns.map Note.key) ∧ ∀ (j : Nat) (c : Change), cs[j]? = some c → c.seq = seq + out.length + j + 1
  | [], p, seq, out => ⟨[], by simp [runGo], List.Sublist.refl _, fun j c h => by simp at h⟩
  | n :: r, p, seq, out => by
    unfold runGo
    split
    · rename_i h
      obtain ⟨_, _, _, _, hk, hsq⟩ := ofV_does h
      obtain ⟨cs, h1, h2, h3⟩ := runGo_keys r (oneV p n) seq (out ++ [(ofV p (seq + out.length + 1) n).1])
      refine ⟨(ofV p (seq + out.length + 1) n).1 :: cs, by rw [h1]; simp, ?_, fun j c hc => ?_⟩
      · rw [List.map_cons, List.map_cons, hk]; exact h2.cons_cons _
      · cases j with
        | zero => simp at hc; subst hc; rw [hsq]; simp
        | succ j =>
          have := h3 j c (by simpa using hc)
          rw [this, List.length_append, List.length_singleton]
          omega
    · obtain ⟨cs, h1, h2, h3⟩ := runGo_keys r p seq out
      exact ⟨cs, h1, by rw [List.map_cons]; exact h2.cons _, h3⟩
theorem runV_keys {l : List Pair} {seq : Int} {ns : List Note} (h : (runV l seq ns).2.2 = 0) : List.Sublist ((runV l seq ns).1.map Change.key) (ns.map Note.key) ∧ ∀ (j : Nat) (c : Change), (runV l seq ns).1[j]? = some c → c.seq = seq + j + 1 := by
  have e := (runV_facts h).2.2.2.2.2.2.2
  rw [e]
  obtain ⟨cs, h1, h2, h3⟩ := runGo_keys ns l seq []
  rw [List.nil_append] at h1
  rw [h1]
  exact ⟨h2, fun j c hc => by have := h3 j c hc; simpa using this⟩
theorem sub_skip {α : Type} {a b : α} {l₁ l₂ : List α} (h : List.Sublist (a :: l₁) (b :: l₂)) (hne : ¬ b = a) : List.Sublist (a :: l₁) l₂ := by
  cases h with
  | cons _ h => exact h
  | cons_cons _ h => exact absurd rfl hne
def cb (c : Change) : Ob := .box true [.val (.int .i64 c.seq), .val (.str c.key), .val (.bool (decide (c.had = true))), .val (.str c.bef), .val (.bool (decide (c.has = true))), .val (.str c.aft)]

set_option maxRecDepth 10000 in
set_option maxHeartbeats 16000000 in
theorem law_Seqs (l : List Pair) (seq : Int) (ns : List Note) (hl : l.length ≤ maxLen) (hn : ns.length ≤ maxLen) (hseq : seq ≤ 9223372036854775807) :
    Ct Try.prog 7 (YtglpemnejngkaaaVm.ops [.row (l.map Pair.pv), .int .i64 seq, .row (ns.map Note.pv)]) (.vals [.bool true]) := by
  have aw := law17_awake
  simp only [maxLen] at hl hn
  refine Ct.of_V Try.func7 rfl (by simp [YtglpemnejngkaaaVm.ops, Try.f7]) ?_
  refine V.exec 400 ?_
  simp (config := {contextual := true}) only [go_sem, ↓reduceIte, reduceCtorEq, Bool.false_eq_true, Bool.true_eq_false, Nat.reduceAdd, Nat.reduceLT, Nat.reduceEqDiff, Nat.reduceLeDiff, Nat.reduceSub, Nat.reduceMul, Try.f7]
  refine V.call rfl rfl (by simp [dOK]) ⟨9, [], by simp only [go_sem, ↓reduceIte, reduceCtorEq, Bool.false_eq_true, Bool.true_eq_false, Nat.reduceAdd, Nat.reduceLT, Nat.reduceEqDiff, Nat.reduceLeDiff, Nat.reduceSub, Nat.reduceMul], ⟨_, rfl, rfl, rfl⟩, .inl ⟨[.row (l.map Pair.pv)], _, .inl (by simp only [go_sem, ↓reduceIte, reduceCtorEq, Bool.false_eq_true, Bool.true_eq_false, Nat.reduceAdd, Nat.reduceLT, Nat.reduceEqDiff, Nat.reduceLeDiff, Nat.reduceSub, Nat.reduceMul]), law17_small l (by omega), .inl ⟨_, rfl, rfl, rfl, rfl⟩⟩⟩ ?_
  refine V.exec 400 ?_
  by_cases h1 : smallP l
  · have hl60 := h1.1
    simp (config := {contextual := true}) only [go_sem, ↓reduceIte, reduceCtorEq, Bool.false_eq_true, Bool.true_eq_false, Nat.reduceAdd, Nat.reduceLT, Nat.reduceEqDiff, Nat.reduceLeDiff, Nat.reduceSub, Nat.reduceMul, h1]
    refine V.call rfl rfl (by simp [dOK]) ⟨10, [], by simp only [go_sem, ↓reduceIte, reduceCtorEq, Bool.false_eq_true, Bool.true_eq_false, Nat.reduceAdd, Nat.reduceLT, Nat.reduceEqDiff, Nat.reduceLeDiff, Nat.reduceSub, Nat.reduceMul], ⟨_, rfl, rfl, rfl⟩, .inl ⟨[.row (ns.map Note.pv)], _, .inl (by simp only [go_sem, ↓reduceIte, reduceCtorEq, Bool.false_eq_true, Bool.true_eq_false, Nat.reduceAdd, Nat.reduceLT, Nat.reduceEqDiff, Nat.reduceLeDiff, Nat.reduceSub, Nat.reduceMul]), law17_few ns (by omega), .inl ⟨_, rfl, rfl, rfl, rfl⟩⟩⟩ ?_
    refine V.exec 400 ?_
    by_cases h2 : fewN ns
    · have hn20 := h2.1
      have c1 := batch_Run l seq ns (by omega) (by omega) hseq
      have hlen := runV_len l seq ns
      have her := @runV_err l seq ns
      have hfa := @runV_facts l seq ns
      have hke := @runV_keys l seq ns
      obtain ⟨a, p, e, hR⟩ : ∃ x y z, runV l seq ns = (x, y, z) := ⟨_, _, _, rfl⟩
      rw [hR] at c1 hlen her hfa hke
      simp only at c1 hlen her hfa hke
      simp (config := {contextual := true}) only [go_sem, ↓reduceIte, reduceCtorEq, Bool.false_eq_true, Bool.true_eq_false, Nat.reduceAdd, Nat.reduceLT, Nat.reduceEqDiff, Nat.reduceLeDiff, Nat.reduceSub, Nat.reduceMul, h2]
      refine V.call rfl rfl (by simp [dOK]) ⟨12, [], by simp only [go_sem, ↓reduceIte, reduceCtorEq, Bool.false_eq_true, Bool.true_eq_false, Nat.reduceAdd, Nat.reduceLT, Nat.reduceEqDiff, Nat.reduceLeDiff, Nat.reduceSub, Nat.reduceMul], ⟨_, rfl, rfl, rfl⟩, .inl ⟨[.row (l.map Pair.pv), .int .i64 seq, .row (ns.map Note.pv)], _, .inl (by simp only [go_sem, ↓reduceIte, reduceCtorEq, Bool.false_eq_true, Bool.true_eq_false, Nat.reduceAdd, Nat.reduceLT, Nat.reduceEqDiff, Nat.reduceLeDiff, Nat.reduceSub, Nat.reduceMul]), c1, .inr (.inl ⟨_, rfl, rfl, rfl⟩)⟩⟩ ?_
      refine V.exec 400 ?_
      by_cases he : e = 0
      · obtain ⟨_, _, f3, f4, _, _, _, _⟩ := hfa he
        obtain ⟨k1, k2⟩ := hke he
        have hal := hlen.1
        subst he
        simp (config := {contextual := true}) only [go_sem, ↓reduceIte, reduceCtorEq, Bool.false_eq_true, Bool.true_eq_false, Nat.reduceAdd, Nat.reduceLT, Nat.reduceEqDiff, Nat.reduceLeDiff, Nat.reduceSub, Nat.reduceMul]
        refine V.loop (fun m ls os => ∃ (i at' : Nat), i ≤ a.length ∧ m = a.length - i ∧ at' ≤ ns.length ∧ List.Sublist ((a.drop i).map Change.key) ((ns.drop at').map Note.key) ∧
            ls = [(1, .val (.int .i64 seq)), (2, .val (.row (ns.map Note.pv))), (7, .val (.row (a.map Change.pv))), (10, .val (.int .i64 at')), (43, .val (.row (a.map Change.pv))), (44, .val (.int .i64 a.length)), (45, .val (.int .i64 i))] ∧ os = []) 0 a.length
          [(1, .val (.int .i64 seq)), (2, .val (.row (ns.map Note.pv))), (7, .val (.row (a.map Change.pv))), (10, .val (.int .i64 0)), (43, .val (.row (a.map Change.pv))), (44, .val (.int .i64 a.length)), (45, .val (.int .i64 0))] [] []
          ⟨0, 0, Nat.zero_le _, rfl, Nat.zero_le _, k1, rfl, rfl⟩ (by simp only [go_sem, ↓reduceIte, reduceCtorEq, Bool.false_eq_true, Bool.true_eq_false, Nat.reduceAdd, Nat.reduceLT, Nat.reduceEqDiff, Nat.reduceLeDiff, Nat.reduceSub, Nat.reduceMul]) ?_
        rintro m ls os ⟨i, at', hi, rfl, hat, hsub, rfl, rfl⟩
        refine V.exec 400 ?_
        by_cases hlt : i < a.length
        · have hlt' : (i : Int) < (a.length : Int) := by omega
          obtain ⟨x, hx⟩ : ∃ x, a[i]? = some x := ⟨_, List.getElem?_eq_getElem hlt⟩
          have hxs := k2 i x hx
          have hw : IntKind.i64.wrap ((i : Int) + 1) = ((i + 1 : Nat) : Int) := by rw [wrap_small3] <;> omega
          rw [drop_of_get hx, List.map_cons] at hsub
          simp (config := {contextual := true}) only [go_sem, ↓reduceIte, reduceCtorEq, Bool.false_eq_true, Bool.true_eq_false, Nat.reduceAdd, Nat.reduceLT, Nat.reduceEqDiff, Nat.reduceLeDiff, Nat.reduceSub, Nat.reduceMul, hlt', hx, Change.pv]
          refine V.loop (fun m ls os => ∃ (at' : Nat), m = ns.length - at' ∧ at' ≤ ns.length ∧ List.Sublist (x.key :: (a.drop (i + 1)).map Change.key) ((ns.drop at').map Note.key) ∧
              ls = [(1, .val (.int .i64 seq)), (2, .val (.row (ns.map Note.pv))), (7, .val (.row (a.map Change.pv))), (10, .val (.int .i64 at')), (11, .val (.int .i64 i)), (12, .adr 0 0), (43, .val (.row (a.map Change.pv))), (44, .val (.int .i64 a.length)), (45, .val (.int .i64 i))] ∧ os = [cb x]) 1 (ns.length - at')
            [(1, .val (.int .i64 seq)), (2, .val (.row (ns.map Note.pv))), (7, .val (.row (a.map Change.pv))), (10, .val (.int .i64 at')), (11, .val (.int .i64 i)), (12, .adr 0 0), (43, .val (.row (a.map Change.pv))), (44, .val (.int .i64 a.length)), (45, .val (.int .i64 i))] [cb x] [some 4]
            ⟨at', rfl, hat, hsub, rfl, rfl⟩ (by simp only [go_sem, ↓reduceIte, reduceCtorEq, Bool.false_eq_true, Bool.true_eq_false, Nat.reduceAdd, Nat.reduceLT, Nat.reduceEqDiff, Nat.reduceLeDiff, Nat.reduceSub, Nat.reduceMul, cb]; try decide) ?_
          rintro m ls os ⟨at2, rfl, hat2, hsub2, rfl, rfl⟩
          refine V.exec 400 ?_
          have hal2 : at2 < ns.length := by
            have := hsub2.length_le
            simp at this; omega
          have hal2' : (at2 : Int) < (ns.length : Int) := by omega
          obtain ⟨n, hnx⟩ : ∃ x, ns[at2]? = some x := ⟨_, List.getElem?_eq_getElem hal2⟩
          have hw3 : IntKind.i64.wrap ((at2 : Int) + 1) = ((at2 + 1 : Nat) : Int) := by rw [wrap_small3] <;> omega
          rw [drop_of_get hnx, List.map_cons] at hsub2
          by_cases hk : n.key = x.key
          · rw [hk, List.cons_sublist_cons] at hsub2
            have hne : ¬ (at2 : Int) = (ns.length : Int) := by omega
            have hw4 : IntKind.i64.wrap (seq + (i : Int)) = seq + (i : Int) := by rw [wrap_small3] <;> omega
            have hw5 : IntKind.i64.wrap (seq + (i : Int) + 1) = seq + (i : Int) + 1 := by rw [wrap_small3] <;> omega
            simp (config := {contextual := true}) only [go_sem, ↓reduceIte, reduceCtorEq, Bool.false_eq_true, Bool.true_eq_false, Nat.reduceAdd, Nat.reduceLT, Nat.reduceEqDiff, Nat.reduceLeDiff, Nat.reduceSub, Nat.reduceMul, hal2', hnx, Note.pv, hk, cb, hne, hw4, hw5, hxs, hw3, hw]
            exact ⟨by kernel_rfl, a.length - (i + 1), _, [], [], by omega, ⟨i + 1, at2 + 1, by omega, rfl, by omega, hsub2, rfl, rfl⟩, by simp only [go_sem, ↓reduceIte, reduceCtorEq, Bool.false_eq_true, Bool.true_eq_false, Nat.reduceAdd, Nat.reduceLT, Nat.reduceEqDiff, Nat.reduceLeDiff, Nat.reduceSub, Nat.reduceMul]⟩
          · have hsub3 := sub_skip hsub2 hk
            simp (config := {contextual := true}) only [go_sem, ↓reduceIte, reduceCtorEq, Bool.false_eq_true, Bool.true_eq_false, Nat.reduceAdd, Nat.reduceLT, Nat.reduceEqDiff, Nat.reduceLeDiff, Nat.reduceSub, Nat.reduceMul, hal2', hnx, Note.pv, hk, cb, hw3]
            refine ⟨by kernel_rfl, ns.length - (at2 + 1), _, _, [some 0], by omega, ⟨at2 + 1, rfl, by omega, hsub3, rfl, rfl⟩, ?_⟩
            simp only [go_sem, ↓reduceIte, reduceCtorEq, Bool.false_eq_true, Bool.true_eq_false, Nat.reduceAdd, Nat.reduceLT, Nat.reduceEqDiff, Nat.reduceLeDiff, Nat.reduceSub, Nat.reduceMul, cb]
            try decide
        · have hlt' : ¬ (i : Int) < (a.length : Int) := by omega
          have hle : (a.length : Int) ≤ (ns.length : Int) := by omega
          simp (config := {contextual := true}) only [go_sem, ↓reduceIte, reduceCtorEq, Bool.false_eq_true, Bool.true_eq_false, Nat.reduceAdd, Nat.reduceLT, Nat.reduceEqDiff, Nat.reduceLeDiff, Nat.reduceSub, Nat.reduceMul, hlt', hle]
          refine V.call rfl rfl (by simp [dOK]) ⟨11, [], by simp only [go_sem, ↓reduceIte, reduceCtorEq, Bool.false_eq_true, Bool.true_eq_false, Nat.reduceAdd, Nat.reduceLT, Nat.reduceEqDiff, Nat.reduceLeDiff, Nat.reduceSub, Nat.reduceMul], ⟨_, rfl, rfl, rfl⟩, .inl ⟨[], _, .inl (by simp only [go_sem, ↓reduceIte, reduceCtorEq, Bool.false_eq_true, Bool.true_eq_false, Nat.reduceAdd, Nat.reduceLT, Nat.reduceEqDiff, Nat.reduceLeDiff, Nat.reduceSub, Nat.reduceMul]), aw, .inl ⟨_, rfl, rfl, rfl, rfl⟩⟩⟩ ?_
          refine V.exec 400 ?_
          simp (config := {contextual := true}) only [go_sem, ↓reduceIte, reduceCtorEq, Bool.false_eq_true, Bool.true_eq_false, Nat.reduceAdd, Nat.reduceLT, Nat.reduceEqDiff, Nat.reduceLeDiff, Nat.reduceSub, Nat.reduceMul]
      · obtain ⟨rfl, rfl⟩ := her he
        have z00 : ((0 : Nat) : Int) = 0 := rfl
        simp (config := {contextual := true}) only [go_sem, ↓reduceIte, reduceCtorEq, Bool.false_eq_true, Bool.true_eq_false, Nat.reduceAdd, Nat.reduceLT, Nat.reduceEqDiff, Nat.reduceLeDiff, Nat.reduceSub, Nat.reduceMul, he, List.map_nil, List.length_nil, z00, decide_true]
        refine V.call rfl rfl (by simp [dOK]) ⟨17, [], by simp only [go_sem, ↓reduceIte, reduceCtorEq, Bool.false_eq_true, Bool.true_eq_false, Nat.reduceAdd, Nat.reduceLT, Nat.reduceEqDiff, Nat.reduceLeDiff, Nat.reduceSub, Nat.reduceMul], ⟨_, rfl, rfl, rfl⟩, .inl ⟨[.row (p.map Pair.pv), .row (p.map Pair.pv)], _, .inl (by simp only [go_sem, ↓reduceIte, reduceCtorEq, Bool.false_eq_true, Bool.true_eq_false, Nat.reduceAdd, Nat.reduceLT, Nat.reduceEqDiff, Nat.reduceLeDiff, Nat.reduceSub, Nat.reduceMul]), ref03_Same p p (by omega), .inl ⟨_, rfl, rfl, rfl, rfl⟩⟩⟩ ?_
        refine V.exec 400 ?_
        simp (config := {contextual := true}) only [go_sem, ↓reduceIte, reduceCtorEq, Bool.false_eq_true, Bool.true_eq_false, Nat.reduceAdd, Nat.reduceLT, Nat.reduceEqDiff, Nat.reduceLeDiff, Nat.reduceSub, Nat.reduceMul, decide_true]
        refine V.call rfl rfl (by simp [dOK]) ⟨11, [], by simp only [go_sem, ↓reduceIte, reduceCtorEq, Bool.false_eq_true, Bool.true_eq_false, Nat.reduceAdd, Nat.reduceLT, Nat.reduceEqDiff, Nat.reduceLeDiff, Nat.reduceSub, Nat.reduceMul], ⟨_, rfl, rfl, rfl⟩, .inl ⟨[], _, .inl (by simp only [go_sem, ↓reduceIte, reduceCtorEq, Bool.false_eq_true, Bool.true_eq_false, Nat.reduceAdd, Nat.reduceLT, Nat.reduceEqDiff, Nat.reduceLeDiff, Nat.reduceSub, Nat.reduceMul]), aw, .inl ⟨_, rfl, rfl, rfl, rfl⟩⟩⟩ ?_
        refine V.exec 400 ?_
        simp (config := {contextual := true}) only [go_sem, ↓reduceIte, reduceCtorEq, Bool.false_eq_true, Bool.true_eq_false, Nat.reduceAdd, Nat.reduceLT, Nat.reduceEqDiff, Nat.reduceLeDiff, Nat.reduceSub, Nat.reduceMul]
    · simp (config := {contextual := true}) only [go_sem, ↓reduceIte, reduceCtorEq, Bool.false_eq_true, Bool.true_eq_false, Nat.reduceAdd, Nat.reduceLT, Nat.reduceEqDiff, Nat.reduceLeDiff, Nat.reduceSub, Nat.reduceMul, h2]
      refine V.call rfl rfl (by simp [dOK]) ⟨11, [], by simp only [go_sem, ↓reduceIte, reduceCtorEq, Bool.false_eq_true, Bool.true_eq_false, Nat.reduceAdd, Nat.reduceLT, Nat.reduceEqDiff, Nat.reduceLeDiff, Nat.reduceSub, Nat.reduceMul], ⟨_, rfl, rfl, rfl⟩, .inl ⟨[], _, .inl (by simp only [go_sem, ↓reduceIte, reduceCtorEq, Bool.false_eq_true, Bool.true_eq_false, Nat.reduceAdd, Nat.reduceLT, Nat.reduceEqDiff, Nat.reduceLeDiff, Nat.reduceSub, Nat.reduceMul]), aw, .inl ⟨_, rfl, rfl, rfl, rfl⟩⟩⟩ ?_
      refine V.exec 400 ?_
      simp (config := {contextual := true}) only [go_sem, ↓reduceIte, reduceCtorEq, Bool.false_eq_true, Bool.true_eq_false, Nat.reduceAdd, Nat.reduceLT, Nat.reduceEqDiff, Nat.reduceLeDiff, Nat.reduceSub, Nat.reduceMul]
  · simp (config := {contextual := true}) only [go_sem, ↓reduceIte, reduceCtorEq, Bool.false_eq_true, Bool.true_eq_false, Nat.reduceAdd, Nat.reduceLT, Nat.reduceEqDiff, Nat.reduceLeDiff, Nat.reduceSub, Nat.reduceMul, h1]
    refine V.call rfl rfl (by simp [dOK]) ⟨11, [], by simp only [go_sem, ↓reduceIte, reduceCtorEq, Bool.false_eq_true, Bool.true_eq_false, Nat.reduceAdd, Nat.reduceLT, Nat.reduceEqDiff, Nat.reduceLeDiff, Nat.reduceSub, Nat.reduceMul], ⟨_, rfl, rfl, rfl⟩, .inl ⟨[], _, .inl (by simp only [go_sem, ↓reduceIte, reduceCtorEq, Bool.false_eq_true, Bool.true_eq_false, Nat.reduceAdd, Nat.reduceLT, Nat.reduceEqDiff, Nat.reduceLeDiff, Nat.reduceSub, Nat.reduceMul]), aw, .inl ⟨_, rfl, rfl, rfl, rfl⟩⟩⟩ ?_
    refine V.exec 400 ?_
    simp (config := {contextual := true}) only [go_sem, ↓reduceIte, reduceCtorEq, Bool.false_eq_true, Bool.true_eq_false, Nat.reduceAdd, Nat.reduceLT, Nat.reduceEqDiff, Nat.reduceLeDiff, Nat.reduceSub, Nat.reduceMul]
theorem ctSeqs (xs0 : List PV) (l0 : xs0.length ≤ maxLen) (h0 : ∀ x ∈ xs0, ∃ qs, x = .agg qs ∧ qs.map PV.kd = [.str, .str] ∧ ∀ q ∈ qs, q.wfv) (a1 : Int) (w1 : (Lit.int .i64 a1).wf = true)
    (xs2 : List PV) (l2 : xs2.length ≤ maxLen) (h2 : ∀ x ∈ xs2, ∃ qs, x = .agg qs ∧ qs.map PV.kd = [.int .i64, .str, .str, .int .u64] ∧ ∀ q ∈ qs, q.wfv) :
    Ct Try.prog 7 (YtglpemnejngkaaaVm.ops [.row xs0, .int .i64 a1, .row xs2]) (.vals [.bool true]) := by
  obtain ⟨l, rfl⟩ := pair_of xs0 h0
  obtain ⟨b, rfl⟩ := note_of xs2 h2
  exact law_Seqs l a1 b (by simpa using l0) (by simpa using l2) (int_top w1)
end Go.Proofs.Ytglpemnejngkaaa
