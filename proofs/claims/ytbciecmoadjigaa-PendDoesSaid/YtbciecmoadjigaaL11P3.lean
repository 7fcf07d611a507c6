/- A part of a proof: functions of the program, walked. -/
import Derived.Test.YtbciecmoadjigaaL11P2
import Derived.Test.YtbciecmoadjigaaL11B2
set_option linter.unusedVariables false
set_option linter.unusedSimpArgs false
namespace Go.Proofs.Ytbciecmoadjigaa
open Go Go.Proofs Go.Proofs.YtbciecmoadjigaaVm Go.Proofs.Ytbciecmoadjigaa.Ty

def keyStep (k : List UInt8) (o : Option Note) (x : Note) : Option Note := if k = x.key then some (match o with | some w => bothV w x | none => x) else o
theorem pushV_get : ∀ (ns : List Note) {l : List Note}, gSorted Note.key l → ∀ k, gGet Note.key (pushV l ns) k = ns.foldl (keyStep k) (gGet Note.key l k)
  | [], _, _, _ => rfl
  | x :: r, l, h, k => by
    show gGet Note.key (pushV (pushOne l x) r) k = _
    rw [pushV_get r (pushOne_sorted h x) k, pushOne_get h, List.foldl_cons]
    rfl
theorem waitOk_nil : waitOk [] := trivial
theorem pushR_nil {ns : List Note} (h : allOk ns) : pushR [] ns = (pushV [] ns, 0) := by unfold pushR; rw [if_pos ⟨waitOk_nil, h⟩]
theorem pushR_bad {l ns : List Note} (h : ¬ (waitOk l ∧ allOk ns)) : pushR l ns = (l, 1) := by unfold pushR; rw [if_neg h]
theorem pushR_ok {l ns : List Note} (hl : waitOk l) (h : allOk ns) : pushR l ns = (pushV l ns, 0) := by unfold pushR; rw [if_pos ⟨hl, h⟩]
def nb (w : Note) : Ob := .box true [.val (.int .i64 w.kind), .val (.str w.key), .val (.str w.value), .val (.int .u64 w.n)]

set_option maxRecDepth 10000 in
set_option maxHeartbeats 16000000 in
theorem law_Keys (l : List Note) (k : List UInt8) (hl : l.length ≤ maxLen) :
    Ct Try.prog 6 (YtbciecmoadjigaaVm.ops [.row (l.map Note.pv), .str k]) (.vals [.bool true]) := by
  have aw := law11_awake
  refine Ct.of_V Try.func6 rfl (by simp [YtbciecmoadjigaaVm.ops, Try.f6]) ?_
  refine V.exec 400 ?_
  simp (config := {contextual := true}) only [go_sem, ↓reduceIte, reduceCtorEq, Bool.false_eq_true, Bool.true_eq_false, Nat.reduceAdd, Nat.reduceLT, Nat.reduceEqDiff, Nat.reduceLeDiff, Nat.reduceSub, Nat.reduceMul, Try.f6]
  refine V.call rfl rfl (by simp [dOK]) ⟨9, [], by simp only [go_sem, ↓reduceIte, reduceCtorEq, Bool.false_eq_true, Bool.true_eq_false, Nat.reduceAdd, Nat.reduceLT, Nat.reduceEqDiff, Nat.reduceLeDiff, Nat.reduceSub, Nat.reduceMul], ⟨_, rfl, rfl, rfl⟩, .inl ⟨[.row (l.map Note.pv)], _, .inl (by simp only [go_sem, ↓reduceIte, reduceCtorEq, Bool.false_eq_true, Bool.true_eq_false, Nat.reduceAdd, Nat.reduceLT, Nat.reduceEqDiff, Nat.reduceLeDiff, Nat.reduceSub, Nat.reduceMul]), law11_few l (by simp only [maxLen] at hl; omega), .inl ⟨_, rfl, rfl, rfl, rfl⟩⟩⟩ ?_
  refine V.exec 400 ?_
  by_cases h1 : fewN l
  · have hl60 := h1.1
    by_cases h300 : k.length ≤ 300
    · have h300' : ¬ (300 : Int) < (k.length : Int) := by omega
      simp (config := {contextual := true}) only [go_sem, ↓reduceIte, reduceCtorEq, Bool.false_eq_true, Bool.true_eq_false, Nat.reduceAdd, Nat.reduceLT, Nat.reduceEqDiff, Nat.reduceLeDiff, Nat.reduceSub, Nat.reduceMul, h1, h300']
      by_cases hall : allOk l
      · have c1 := pend_Push [] l (by simp) (by omega)
        rw [pushR_nil hall] at c1
        have hps := pushV_sorted l (l := []) List.Pairwise.nil
        have hpo := pushV_ok l waitOk_nil hall
        have hpl := pushV_len l (l := []) List.Pairwise.nil
        have hg := pushV_get l (l := []) List.Pairwise.nil k
        have hg0 : gGet Note.key [] k = none := rfl
        rw [hg0] at hg
        have hfi : findN (pushV [] l) k = match l.foldl (keyStep k) none with | some p => (p, true) | none => (Note.zero, false) := by
          unfold findN; rw [if_pos hpo, hg]; generalize l.foldl (keyStep k) none = z; cases z <;> rfl
        simp only at c1
        simp only [List.length_nil] at hpl
        generalize pushV [] l = P at *
        have c2 := pend_Find P k (by omega)
        obtain ⟨w, fnd, hF⟩ : ∃ a b, findN P k = (a, b) := ⟨_, _, rfl⟩
        rw [hF] at c2 hfi
        simp only at c2
        refine V.call rfl rfl (by simp [dOK]) ⟨11, [], by simp only [go_sem, ↓reduceIte, reduceCtorEq, Bool.false_eq_true, Bool.true_eq_false, Nat.reduceAdd, Nat.reduceLT, Nat.reduceEqDiff, Nat.reduceLeDiff, Nat.reduceSub, Nat.reduceMul], ⟨_, rfl, rfl, rfl⟩, .inl ⟨[.row [], .row (l.map Note.pv)], _, .inl (by simp only [go_sem, ↓reduceIte, reduceCtorEq, Bool.false_eq_true, Bool.true_eq_false, Nat.reduceAdd, Nat.reduceLT, Nat.reduceEqDiff, Nat.reduceLeDiff, Nat.reduceSub, Nat.reduceMul]), c1, .inr (.inl ⟨_, rfl, rfl, rfl⟩)⟩⟩ ?_
        refine V.exec 400 ?_
        simp (config := {contextual := true}) only [go_sem, ↓reduceIte, reduceCtorEq, Bool.false_eq_true, Bool.true_eq_false, Nat.reduceAdd, Nat.reduceLT, Nat.reduceEqDiff, Nat.reduceLeDiff, Nat.reduceSub, Nat.reduceMul]
        refine V.call rfl rfl (by simp [dOK]) ⟨13, [], by simp only [go_sem, ↓reduceIte, reduceCtorEq, Bool.false_eq_true, Bool.true_eq_false, Nat.reduceAdd, Nat.reduceLT, Nat.reduceEqDiff, Nat.reduceLeDiff, Nat.reduceSub, Nat.reduceMul], ⟨_, rfl, rfl, rfl⟩, .inl ⟨[.row (P.map Note.pv), .str k], _, .inl (by simp only [go_sem, ↓reduceIte, reduceCtorEq, Bool.false_eq_true, Bool.true_eq_false, Nat.reduceAdd, Nat.reduceLT, Nat.reduceEqDiff, Nat.reduceLeDiff, Nat.reduceSub, Nat.reduceMul, Note.pv]), c2, .inr (.inl ⟨_, rfl, rfl, rfl⟩)⟩⟩ ?_
        refine V.exec 400 ?_
        simp (config := {contextual := true}) only [go_sem, ↓reduceIte, reduceCtorEq, Bool.false_eq_true, Bool.true_eq_false, Nat.reduceAdd, Nat.reduceLT, Nat.reduceEqDiff, Nat.reduceLeDiff, Nat.reduceSub, Nat.reduceMul, Note.pv]
        refine V.loop (fun m ls os => ∃ (i : Nat) (o : Note) (is : Bool), i ≤ l.length ∧ m = l.length - i ∧ (l.take i).foldl (keyStep k) none = (if is = true then some o else none) ∧ (is = false → o = Note.zero) ∧ (is = true → o.ok) ∧
            ls = [(1, .val (.str k)), (5, .val (.row (P.map Note.pv))), (7, .adr 0 0), (8, .val (.bool (decide (fnd = true)))), (9, .adr 1 0), (10, .val (.bool is)), (42, .val (.row (l.map Note.pv))), (43, .val (.int .i64 l.length)), (44, .val (.int .i64 i))] ∧
            os = [nb w, nb o]) 2 l.length
          [(1, .val (.str k)), (5, .val (.row (P.map Note.pv))), (7, .adr 0 0), (8, .val (.bool (decide (fnd = true)))), (9, .adr 1 0), (10, .val (.bool false)), (42, .val (.row (l.map Note.pv))), (43, .val (.int .i64 l.length)), (44, .val (.int .i64 0))]
          [nb w, nb Note.zero] [some 26, some 30]
          ⟨0, Note.zero, false, Nat.zero_le _, rfl, rfl, fun _ => rfl, (fun h => absurd h (by decide)), rfl, rfl⟩ (by simp only [go_sem, ↓reduceIte, reduceCtorEq, Bool.false_eq_true, Bool.true_eq_false, Nat.reduceAdd, Nat.reduceLT, Nat.reduceEqDiff, Nat.reduceLeDiff, Nat.reduceSub, Nat.reduceMul, nb, Note.zero]; try decide) ?_
        rintro m ls os ⟨i, o, is, hi, rfl, hfo, hz, hok, rfl, rfl⟩
        refine V.exec 400 ?_
        by_cases hlt : i < l.length
        · have hlt' : (i : Int) < (l.length : Int) := by omega
          obtain ⟨x, hx⟩ : ∃ x, l[i]? = some x := ⟨_, List.getElem?_eq_getElem hlt⟩
          have hw : IntKind.i64.wrap ((i : Int) + 1) = ((i + 1 : Nat) : Int) := by rw [wrap_small3] <;> omega
          have hxo : x.ok := hall x (List.mem_of_getElem? hx)
          have hst : (l.take (i + 1)).foldl (keyStep k) none = keyStep k (if is = true then some o else none) x := by
            rw [List.take_add_one, hx, List.foldl_append, hfo]; rfl
          by_cases hk : x.key = k
          · cases is with
            | false =>
              have hst' : (l.take (i + 1)).foldl (keyStep k) none = if true = true then some x else none := by
                rw [hst]; simp [keyStep, hk]
              simp (config := {contextual := true}) only [go_sem, ↓reduceIte, reduceCtorEq, Bool.false_eq_true, Bool.true_eq_false, Nat.reduceAdd, Nat.reduceLT, Nat.reduceEqDiff, Nat.reduceLeDiff, Nat.reduceSub, Nat.reduceMul, hlt', hx, Note.pv, hk, hw, nb]
              refine ⟨l.length - (i + 1), _, _, [some 0, some 1], by omega, ⟨i + 1, x, true, by omega, rfl, hst', (fun h => absurd h (by decide)), (fun _ => hxo), rfl, rfl⟩, ?_⟩
              simp only [go_sem, ↓reduceIte, reduceCtorEq, Bool.false_eq_true, Bool.true_eq_false, Nat.reduceAdd, Nat.reduceLT, Nat.reduceEqDiff, Nat.reduceLeDiff, Nat.reduceSub, Nat.reduceMul, nb, Note.pv, hk]
              try decide
            | true =>
              have hst' : (l.take (i + 1)).foldl (keyStep k) none = if true = true then some (bothV o x) else none := by
                rw [hst]; simp [keyStep, hk]
              have cb := ref09_Both o x
              rw [refBoth_eq (hok rfl) hxo] at cb
              have hbo := bothV_ok (hok rfl) hxo
              simp (config := {contextual := true}) only [go_sem, ↓reduceIte, reduceCtorEq, Bool.false_eq_true, Bool.true_eq_false, Nat.reduceAdd, Nat.reduceLT, Nat.reduceEqDiff, Nat.reduceLeDiff, Nat.reduceSub, Nat.reduceMul, hlt', hx, Note.pv, hk, hw, nb]
              refine V.call rfl rfl (by simp [dOK]) ⟨21, [], by simp only [go_sem, ↓reduceIte, reduceCtorEq, Bool.false_eq_true, Bool.true_eq_false, Nat.reduceAdd, Nat.reduceLT, Nat.reduceEqDiff, Nat.reduceLeDiff, Nat.reduceSub, Nat.reduceMul], ⟨_, rfl, rfl, rfl⟩, .inl ⟨[o.pv, x.pv], _, .inl (by simp only [go_sem, ↓reduceIte, reduceCtorEq, Bool.false_eq_true, Bool.true_eq_false, Nat.reduceAdd, Nat.reduceLT, Nat.reduceEqDiff, Nat.reduceLeDiff, Nat.reduceSub, Nat.reduceMul, Note.pv, hk]), cb, .inr (.inl ⟨_, rfl, rfl, rfl⟩)⟩⟩ ?_
              refine V.exec 400 ?_
              simp (config := {contextual := true}) only [go_sem, ↓reduceIte, reduceCtorEq, Bool.false_eq_true, Bool.true_eq_false, Nat.reduceAdd, Nat.reduceLT, Nat.reduceEqDiff, Nat.reduceLeDiff, Nat.reduceSub, Nat.reduceMul, Note.pv, hw]
              refine ⟨l.length - (i + 1), _, _, [some 0, some 1], by omega, ⟨i + 1, bothV o x, true, by omega, rfl, hst', (fun h => absurd h (by decide)), (fun _ => hbo), rfl, rfl⟩, ?_⟩
              simp only [go_sem, ↓reduceIte, reduceCtorEq, Bool.false_eq_true, Bool.true_eq_false, Nat.reduceAdd, Nat.reduceLT, Nat.reduceEqDiff, Nat.reduceLeDiff, Nat.reduceSub, Nat.reduceMul, nb, Note.pv, hk]
              try decide
          · have hst' : (l.take (i + 1)).foldl (keyStep k) none = if is = true then some o else none := by
              rw [hst]; unfold keyStep; rw [if_neg (fun h => hk h.symm)]
            simp (config := {contextual := true}) only [go_sem, ↓reduceIte, reduceCtorEq, Bool.false_eq_true, Bool.true_eq_false, Nat.reduceAdd, Nat.reduceLT, Nat.reduceEqDiff, Nat.reduceLeDiff, Nat.reduceSub, Nat.reduceMul, hlt', hx, Note.pv, hk, hw, nb]
            refine ⟨l.length - (i + 1), _, _, [some 0, some 1], by omega, ⟨i + 1, o, is, by omega, rfl, hst', hz, hok, rfl, rfl⟩, ?_⟩
            simp only [go_sem, ↓reduceIte, reduceCtorEq, Bool.false_eq_true, Bool.true_eq_false, Nat.reduceAdd, Nat.reduceLT, Nat.reduceEqDiff, Nat.reduceLeDiff, Nat.reduceSub, Nat.reduceMul, nb, Note.pv, hk]
            try decide
        · have hlt' : ¬ (i : Int) < (l.length : Int) := by omega
          rw [List.take_of_length_le (by omega)] at hfo
          rw [hfo] at hfi
          cases is with
          | true =>
            simp only [if_true, Prod.mk.injEq] at hfi
            obtain ⟨rfl, rfl⟩ := hfi
            simp (config := {contextual := true}) only [go_sem, ↓reduceIte, reduceCtorEq, Bool.false_eq_true, Bool.true_eq_false, Nat.reduceAdd, Nat.reduceLT, Nat.reduceEqDiff, Nat.reduceLeDiff, Nat.reduceSub, Nat.reduceMul, hlt', decide_true, nb, eqNote, beq_self_eq_true]
            refine V.call rfl rfl (by simp [dOK]) ⟨15, [], by simp only [go_sem, ↓reduceIte, reduceCtorEq, Bool.false_eq_true, Bool.true_eq_false, Nat.reduceAdd, Nat.reduceLT, Nat.reduceEqDiff, Nat.reduceLeDiff, Nat.reduceSub, Nat.reduceMul], ⟨_, rfl, rfl, rfl⟩, .inl ⟨[.row (P.map Note.pv)], _, .inl (by simp only [go_sem, ↓reduceIte, reduceCtorEq, Bool.false_eq_true, Bool.true_eq_false, Nat.reduceAdd, Nat.reduceLT, Nat.reduceEqDiff, Nat.reduceLeDiff, Nat.reduceSub, Nat.reduceMul]), pend_Right P (by omega), .inl ⟨_, rfl, rfl, rfl, rfl⟩⟩⟩ ?_
            refine V.exec 400 ?_
            simp (config := {contextual := true}) only [go_sem, ↓reduceIte, reduceCtorEq, Bool.false_eq_true, Bool.true_eq_false, Nat.reduceAdd, Nat.reduceLT, Nat.reduceEqDiff, Nat.reduceLeDiff, Nat.reduceSub, Nat.reduceMul, hpo, decide_true]
            refine V.call rfl rfl (by simp [dOK]) ⟨10, [], by simp only [go_sem, ↓reduceIte, reduceCtorEq, Bool.false_eq_true, Bool.true_eq_false, Nat.reduceAdd, Nat.reduceLT, Nat.reduceEqDiff, Nat.reduceLeDiff, Nat.reduceSub, Nat.reduceMul], ⟨_, rfl, rfl, rfl⟩, .inl ⟨[], _, .inl (by simp only [go_sem, ↓reduceIte, reduceCtorEq, Bool.false_eq_true, Bool.true_eq_false, Nat.reduceAdd, Nat.reduceLT, Nat.reduceEqDiff, Nat.reduceLeDiff, Nat.reduceSub, Nat.reduceMul]), aw, .inl ⟨_, rfl, rfl, rfl, rfl⟩⟩⟩ ?_
            refine V.exec 400 ?_
            simp (config := {contextual := true}) only [go_sem, ↓reduceIte, reduceCtorEq, Bool.false_eq_true, Bool.true_eq_false, Nat.reduceAdd, Nat.reduceLT, Nat.reduceEqDiff, Nat.reduceLeDiff, Nat.reduceSub, Nat.reduceMul]
          | false =>
            simp only [Bool.false_eq_true, if_false, Prod.mk.injEq] at hfi
            obtain ⟨rfl, rfl⟩ := hfi
            obtain rfl := hz rfl
            simp (config := {contextual := true}) only [go_sem, ↓reduceIte, reduceCtorEq, Bool.false_eq_true, Bool.true_eq_false, Nat.reduceAdd, Nat.reduceLT, Nat.reduceEqDiff, Nat.reduceLeDiff, Nat.reduceSub, Nat.reduceMul, hlt', decide_false, nb, eqNote, beq_self_eq_true]
            refine V.call rfl rfl (by simp [dOK]) ⟨15, [], by simp only [go_sem, ↓reduceIte, reduceCtorEq, Bool.false_eq_true, Bool.true_eq_false, Nat.reduceAdd, Nat.reduceLT, Nat.reduceEqDiff, Nat.reduceLeDiff, Nat.reduceSub, Nat.reduceMul], ⟨_, rfl, rfl, rfl⟩, .inl ⟨[.row (P.map Note.pv)], _, .inl (by simp only [go_sem, ↓reduceIte, reduceCtorEq, Bool.false_eq_true, Bool.true_eq_false, Nat.reduceAdd, Nat.reduceLT, Nat.reduceEqDiff, Nat.reduceLeDiff, Nat.reduceSub, Nat.reduceMul]), pend_Right P (by omega), .inl ⟨_, rfl, rfl, rfl, rfl⟩⟩⟩ ?_
            refine V.exec 400 ?_
            simp (config := {contextual := true}) only [go_sem, ↓reduceIte, reduceCtorEq, Bool.false_eq_true, Bool.true_eq_false, Nat.reduceAdd, Nat.reduceLT, Nat.reduceEqDiff, Nat.reduceLeDiff, Nat.reduceSub, Nat.reduceMul, hpo, decide_true]
            refine V.call rfl rfl (by simp [dOK]) ⟨10, [], by simp only [go_sem, ↓reduceIte, reduceCtorEq, Bool.false_eq_true, Bool.true_eq_false, Nat.reduceAdd, Nat.reduceLT, Nat.reduceEqDiff, Nat.reduceLeDiff, Nat.reduceSub, Nat.reduceMul], ⟨_, rfl, rfl, rfl⟩, .inl ⟨[], _, .inl (by simp only [go_sem, ↓reduceIte, reduceCtorEq, Bool.false_eq_true, Bool.true_eq_false, Nat.reduceAdd, Nat.reduceLT, Nat.reduceEqDiff, Nat.reduceLeDiff, Nat.reduceSub, Nat.reduceMul]), aw, .inl ⟨_, rfl, rfl, rfl, rfl⟩⟩⟩ ?_
            refine V.exec 400 ?_
            simp (config := {contextual := true}) only [go_sem, ↓reduceIte, reduceCtorEq, Bool.false_eq_true, Bool.true_eq_false, Nat.reduceAdd, Nat.reduceLT, Nat.reduceEqDiff, Nat.reduceLeDiff, Nat.reduceSub, Nat.reduceMul]
      · have c1 := pend_Push [] l (by simp) (by omega)
        rw [pushR_bad (fun h => hall h.2)] at c1
        refine V.call rfl rfl (by simp [dOK]) ⟨11, [], by simp only [go_sem, ↓reduceIte, reduceCtorEq, Bool.false_eq_true, Bool.true_eq_false, Nat.reduceAdd, Nat.reduceLT, Nat.reduceEqDiff, Nat.reduceLeDiff, Nat.reduceSub, Nat.reduceMul], ⟨_, rfl, rfl, rfl⟩, .inl ⟨[.row [], .row (l.map Note.pv)], _, .inl (by simp only [go_sem, ↓reduceIte, reduceCtorEq, Bool.false_eq_true, Bool.true_eq_false, Nat.reduceAdd, Nat.reduceLT, Nat.reduceEqDiff, Nat.reduceLeDiff, Nat.reduceSub, Nat.reduceMul]), c1, .inr (.inl ⟨_, rfl, rfl, rfl⟩)⟩⟩ ?_
        refine V.exec 400 ?_
        have z10 : ¬ (1 : Int) = 0 := by decide
        have z00 : ((0 : Nat) : Int) = 0 := rfl
        simp (config := {contextual := true}) only [go_sem, ↓reduceIte, reduceCtorEq, Bool.false_eq_true, Bool.true_eq_false, Nat.reduceAdd, Nat.reduceLT, Nat.reduceEqDiff, Nat.reduceLeDiff, Nat.reduceSub, Nat.reduceMul, List.map_nil, List.length_nil, decide_true, z10, z00]
        refine V.call rfl rfl (by simp [dOK]) ⟨10, [], by simp only [go_sem, ↓reduceIte, reduceCtorEq, Bool.false_eq_true, Bool.true_eq_false, Nat.reduceAdd, Nat.reduceLT, Nat.reduceEqDiff, Nat.reduceLeDiff, Nat.reduceSub, Nat.reduceMul], ⟨_, rfl, rfl, rfl⟩, .inl ⟨[], _, .inl (by simp only [go_sem, ↓reduceIte, reduceCtorEq, Bool.false_eq_true, Bool.true_eq_false, Nat.reduceAdd, Nat.reduceLT, Nat.reduceEqDiff, Nat.reduceLeDiff, Nat.reduceSub, Nat.reduceMul]), aw, .inl ⟨_, rfl, rfl, rfl, rfl⟩⟩⟩ ?_
        refine V.exec 400 ?_
        simp (config := {contextual := true}) only [go_sem, ↓reduceIte, reduceCtorEq, Bool.false_eq_true, Bool.true_eq_false, Nat.reduceAdd, Nat.reduceLT, Nat.reduceEqDiff, Nat.reduceLeDiff, Nat.reduceSub, Nat.reduceMul]
    · have h300' : (300 : Int) < (k.length : Int) := by omega
      simp (config := {contextual := true}) only [go_sem, ↓reduceIte, reduceCtorEq, Bool.false_eq_true, Bool.true_eq_false, Nat.reduceAdd, Nat.reduceLT, Nat.reduceEqDiff, Nat.reduceLeDiff, Nat.reduceSub, Nat.reduceMul, h1, h300']
      refine V.call rfl rfl (by simp [dOK]) ⟨10, [], by simp only [go_sem, ↓reduceIte, reduceCtorEq, Bool.false_eq_true, Bool.true_eq_false, Nat.reduceAdd, Nat.reduceLT, Nat.reduceEqDiff, Nat.reduceLeDiff, Nat.reduceSub, Nat.reduceMul], ⟨_, rfl, rfl, rfl⟩, .inl ⟨[], _, .inl (by simp only [go_sem, ↓reduceIte, reduceCtorEq, Bool.false_eq_true, Bool.true_eq_false, Nat.reduceAdd, Nat.reduceLT, Nat.reduceEqDiff, Nat.reduceLeDiff, Nat.reduceSub, Nat.reduceMul]), aw, .inl ⟨_, rfl, rfl, rfl, rfl⟩⟩⟩ ?_
      refine V.exec 400 ?_
      simp (config := {contextual := true}) only [go_sem, ↓reduceIte, reduceCtorEq, Bool.false_eq_true, Bool.true_eq_false, Nat.reduceAdd, Nat.reduceLT, Nat.reduceEqDiff, Nat.reduceLeDiff, Nat.reduceSub, Nat.reduceMul]
  · simp (config := {contextual := true}) only [go_sem, ↓reduceIte, reduceCtorEq, Bool.false_eq_true, Bool.true_eq_false, Nat.reduceAdd, Nat.reduceLT, Nat.reduceEqDiff, Nat.reduceLeDiff, Nat.reduceSub, Nat.reduceMul, h1]
    refine V.call rfl rfl (by simp [dOK]) ⟨10, [], by simp only [go_sem, ↓reduceIte, reduceCtorEq, Bool.false_eq_true, Bool.true_eq_false, Nat.reduceAdd, Nat.reduceLT, Nat.reduceEqDiff, Nat.reduceLeDiff, Nat.reduceSub, Nat.reduceMul], ⟨_, rfl, rfl, rfl⟩, .inl ⟨[], _, .inl (by simp only [go_sem, ↓reduceIte, reduceCtorEq, Bool.false_eq_true, Bool.true_eq_false, Nat.reduceAdd, Nat.reduceLT, Nat.reduceEqDiff, Nat.reduceLeDiff, Nat.reduceSub, Nat.reduceMul]), aw, .inl ⟨_, rfl, rfl, rfl, rfl⟩⟩⟩ ?_
    refine V.exec 400 ?_
    simp (config := {contextual := true}) only [go_sem, ↓reduceIte, reduceCtorEq, Bool.false_eq_true, Bool.true_eq_false, Nat.reduceAdd, Nat.reduceLT, Nat.reduceEqDiff, Nat.reduceLeDiff, Nat.reduceSub, Nat.reduceMul]
theorem ctKeys (xs0 : List PV) (l0 : xs0.length ≤ maxLen) (h0 : ∀ x ∈ xs0, ∃ qs, x = .agg qs ∧ qs.map PV.kd = [.int .i64, .str, .str, .int .u64] ∧ ∀ q ∈ qs, q.wfv) (k : List UInt8) :
    Ct Try.prog 6 (YtbciecmoadjigaaVm.ops [.row xs0, .str k]) (.vals [.bool true]) := by
  obtain ⟨l, rfl⟩ := note_of xs0 h0
  exact law_Keys l k (by simpa using l0)
end Go.Proofs.Ytbciecmoadjigaa
