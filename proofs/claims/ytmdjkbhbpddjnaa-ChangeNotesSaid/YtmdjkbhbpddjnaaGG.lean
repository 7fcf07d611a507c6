/- A part of a proof: functions of the program, walked. -/
import Derived.Test.YtmdjkbhbpddjnaaGF
import Derived.Test.YtmdjkbhbpddjnaaGE
import Derived.Test.YtmdjkbhbpddjnaaGD
set_option linter.unusedVariables false
set_option linter.unusedSimpArgs false
namespace Go.Proofs.Ytmdjkbhbpddjnaa
open Go Go.Proofs Go.Proofs.YtmdjkbhbpddjnaaVm

def Change.zero : Change := ⟨0, [], false, [], false, []⟩
/-- What a note is to pairs. -/
def ofV (l : List Pair) (seq : Int) (n : Note) : Change × Int :=
  if pairsOk l ∧ n.ok ∧ 1 ≤ seq ∧ seq ≤ 2147483647 then
    (if (getV l n.key).2 = false ∧ (doneV (getV l n.key).1 (getV l n.key).2 [n]).2 = false then (Change.zero, 3)
     else (⟨seq, n.key, (getV l n.key).2, (getV l n.key).1, (doneV (getV l n.key).1 (getV l n.key).2 [n]).2, (doneV (getV l n.key).1 (getV l n.key).2 [n]).1⟩, 0))
  else (Change.zero, 1)
def noteC (c : Change) : Note := if c.has = true then ⟨1, c.key, c.aft, 0⟩ else ⟨2, c.key, [], 0⟩
def fitC (l : List Pair) (c : Change) : Prop := getV l c.key = (c.bef, c.had)
instance instFitC (l : List Pair) (c : Change) : Decidable (fitC l c) := by unfold fitC; infer_instance
def doGo : List Pair → List Change → Option (List Pair)
  | l, [] => some l
  | l, c :: r => if c.ok ∧ fitC l c then doGo (oneV l (noteC c)) r else none
def doV (l : List Pair) (cs : List Change) : List Pair × Int := if pairsOk l then (match doGo l cs with | some q => (q, 0) | none => (l, 1)) else (l, 1)
theorem noteC_key (c : Change) : (noteC c).key = c.key := by unfold noteC; split <;> rfl
theorem noteC_ok {c : Change} (h : c.ok) : (noteC c).ok := by
  unfold noteC
  split
  · exact ⟨h.1, h.2.2.1, .inl ⟨rfl, rfl⟩⟩
  · exact ⟨h.1, by simp, .inr (.inl ⟨rfl, rfl, rfl⟩)⟩
theorem oneV_congr {l : List Pair} (hs : Sorted l) {a b : Note} (hk : a.key = b.key) (hst : stepO (val l b.key) a = stepO (val l b.key) b) : oneV l a = oneV l b := by
  refine val_ext (oneV_sorted hs a) (oneV_sorted hs b) fun k => ?_
  rw [oneV_val hs, oneV_val hs, hk]
  by_cases h : k = b.key
  · subst h; rw [if_pos rfl, if_pos rfl, hst]
  · rw [if_neg h, if_neg h]
theorem oneV_same {l : List Pair} (hs : Sorted l) {a : Note} (hst : stepO (val l a.key) a = val l a.key) : oneV l a = l := by
  refine val_ext (oneV_sorted hs a) hs fun k => ?_
  rw [oneV_val hs]
  by_cases h : k = a.key
  · subst h; rw [if_pos rfl, hst]
  · rw [if_neg h]
/-- What is done to what there is, as a step. -/
theorem done_step {l : List Pair} (h : pairsOk l) (n : Note) :
    stepO (val l n.key) n = if (doneV (getV l n.key).1 (getV l n.key).2 [n]).2 = true then some (doneV (getV l n.key).1 (getV l n.key).2 [n]).1 else none := by
  rw [getV_val h]
  unfold stepO
  cases val l n.key <;> rfl
theorem done_none (n : Note) {v : List UInt8} {w : Bool} (h : (doneV v w [n]).2 = false) (hw : w = false → v = []) : (doneV v w [n]).1 = [] := by
  unfold doneV at *
  simp only [List.foldl_cons, List.foldl_nil] at *
  unfold doneOne at *
  split at h
  · cases h
  · rename_i h1
    split at h
    · rename_i h2; rw [if_neg h1, if_pos h2]
    · rename_i h2
      split at h
      · cases h
      · rename_i h3
        rw [if_neg h1, if_neg h2, if_neg h3]
        cases w with
        | true => cases h
        | false => rfl
theorem getV_none {l : List Pair} (h : pairsOk l) (k : List UInt8) (hw : (getV l k).2 = false) : (getV l k).1 = [] := by
  rw [getV_val h] at *
  cases hv : val l k with
  | none => rfl
  | some v => rw [hv] at hw; cases hw
theorem getV_short {l : List Pair} (h : pairsOk l) (k : List UInt8) : (getV l k).1.length ≤ 32 := by
  rw [getV_val h]
  cases hv : val l k with
  | none => simp
  | some v =>
    have hp := (pairsOk_iff l).1 h
    have := (val_iff hp.1).1 hv
    exact (hp.2 _ this).2
theorem done_short (v : List UInt8) (w : Bool) {n : Note} (hn : n.ok) : (doneV v w [n]).1.length ≤ 32 := by
  unfold doneV
  simp only [List.foldl_cons, List.foldl_nil]
  unfold doneOne
  have := hn.2.1
  rcases hn.2.2 with h | h | h <;> simp [h.1]
  · exact this
  · rw [beB_len]; decide
/-- A change that is made of a note is one that may be, fits, and does what the note does. -/
theorem ofV_does {l : List Pair} {seq : Int} {n : Note} (h : (ofV l seq n).2 = 0) :
    (ofV l seq n).1.ok ∧ fitC l (ofV l seq n).1 ∧ oneV l (noteC (ofV l seq n).1) = oneV l n ∧ doV l [(ofV l seq n).1] = (oneV l n, 0) ∧ (ofV l seq n).1.key = n.key ∧ (ofV l seq n).1.seq = seq := by
  unfold ofV at *
  split at h
  · rename_i hc
    rw [if_pos hc]
    split at h
    · cases h
    · rename_i hb
      rw [if_neg hb]
      obtain ⟨h1, h2, h3, h4⟩ := hc
      have hs := ((pairsOk_iff l).1 h1).1
      have e1 : (⟨seq, n.key, (getV l n.key).2, (getV l n.key).1, (doneV (getV l n.key).1 (getV l n.key).2 [n]).2, (doneV (getV l n.key).1 (getV l n.key).2 [n]).1⟩ : Change).ok := by
        refine ⟨h2.1, getV_short h1 _, done_short _ _ h2, h3, h4, ?_, ?_, ?_⟩
        · show (getV l n.key).2 = true ∨ (getV l n.key).1 = []
          cases hw : (getV l n.key).2 with
          | true => exact .inl rfl
          | false => exact .inr (getV_none h1 _ hw)
        · show (doneV (getV l n.key).1 (getV l n.key).2 [n]).2 = true ∨ (doneV (getV l n.key).1 (getV l n.key).2 [n]).1 = []
          cases hw : (doneV (getV l n.key).1 (getV l n.key).2 [n]).2 with
          | true => exact .inl rfl
          | false => exact .inr (done_none n hw (getV_none h1 _))
        · show (getV l n.key).2 = true ∨ (doneV (getV l n.key).1 (getV l n.key).2 [n]).2 = true
          cases hw : (getV l n.key).2 with
          | true => exact .inl rfl
          | false => cases hv : (doneV (getV l n.key).1 (getV l n.key).2 [n]).2 with
            | true => exact .inr (by rw [hw] at hv; exact hv)
            | false => rw [hw] at hv hb; exact absurd ⟨rfl, hv⟩ hb
      have e2 : fitC l ⟨seq, n.key, (getV l n.key).2, (getV l n.key).1, (doneV (getV l n.key).1 (getV l n.key).2 [n]).2, (doneV (getV l n.key).1 (getV l n.key).2 [n]).1⟩ := rfl
      have e3 : oneV l (noteC ⟨seq, n.key, (getV l n.key).2, (getV l n.key).1, (doneV (getV l n.key).1 (getV l n.key).2 [n]).2, (doneV (getV l n.key).1 (getV l n.key).2 [n]).1⟩) = oneV l n := by
        refine oneV_congr hs (noteC_key _) ?_
        rw [done_step h1 n]
        unfold noteC
        split
        · exact stepO_put _ rfl
        · exact stepO_del _ rfl
      refine ⟨e1, e2, e3, ?_, rfl, rfl⟩
      unfold doV doGo doGo
      rw [if_pos h1, if_pos ⟨e1, e2⟩, e3]
  · cases h
/-- No change: the pairs stay. -/
theorem ofV_none {l : List Pair} {seq : Int} {n : Note} (h1 : pairsOk l) (h2 : n.ok) (h3 : 1 ≤ seq) (h4 : seq ≤ 2147483647) (h : (ofV l seq n).2 ≠ 0) : oneV l n = l ∧ ofV l seq n = (Change.zero, 3) := by
  unfold ofV at *
  rw [if_pos ⟨h1, h2, h3, h4⟩] at *
  split at h
  · rename_i hb
    rw [if_pos hb]
    refine ⟨oneV_same ((pairsOk_iff l).1 h1).1 ?_, rfl⟩
    rw [done_step h1 n, hb.2, if_neg (by decide)]
    have := hb.1
    rw [getV_val h1] at this
    cases hv : val l n.key with
    | none => rfl
    | some v => rw [hv] at this; cases this
  · exact absurd rfl h
theorem oneV_pairsOk {l : List Pair} (h : pairsOk l) {x : Note} (hx : x.ok) : pairsOk (oneV l x) := oneV_ok h hx
/-- A batch, note by note. -/
def runGo : List Pair → Int → List Change → List Note → List Change × List Pair
  | p, _, out, [] => (out, p)
  | p, seq, out, n :: r => if (ofV p (seq + out.length + 1) n).2 = 0 then runGo (oneV p n) seq (out ++ [(ofV p (seq + out.length + 1) n).1]) r else runGo p seq out r
def notesAll (ns : List Note) : Prop := ∀ x ∈ ns, x.ok
def batchOk (ns : List Note) : Prop := ns.length ≤ 8 ∧ notesAll ns
instance instNotesAll (ns : List Note) : Decidable (notesAll ns) := by unfold notesAll; infer_instance
instance instBatchOk (ns : List Note) : Decidable (batchOk ns) := by unfold batchOk; infer_instance
def runV (l : List Pair) (seq : Int) (ns : List Note) : List Change × List Pair × Int :=
  if batchOk ns ∧ pairsOk l ∧ 0 ≤ seq ∧ seq ≤ 2147483647 then (if 2147483647 - (ns.length : Int) < seq then ([], l, 5) else ((runGo l seq [] ns).1, (runGo l seq [] ns).2, 0)) else ([], l, 1)
end Go.Proofs.Ytmdjkbhbpddjnaa
set_option linter.unusedVariables false
set_option linter.unusedSimpArgs false
namespace Go.Proofs.Ytmdjkbhbpddjnaa
open Go Go.Proofs Go.Proofs.YtmdjkbhbpddjnaaVm Go.Proofs.Ytmdjkbhbpddjnaa.Ty

def sideV (st : List UInt8 × Bool) : PV := .agg [.bool (decide (st.2 = true)), .str st.1]

theorem change_of (l : List Pair) (k : List UInt8) (hl : l.length ≤ 1000000) : Ct Try.prog 25 (YtmdjkbhbpddjnaaVm.ops [.row (l.map Pair.pv), .str k]) (.vals [sideV (getV l k)]) := by
  refine Ct.of_V Try.func25 rfl (by simp [YtmdjkbhbpddjnaaVm.ops, Try.f25]) ?_
  refine V.exec 400 ?_
  simp (config := {contextual := true}) only [go_sem, ↓reduceIte, reduceCtorEq, Bool.false_eq_true, Bool.true_eq_false, Nat.reduceAdd, Nat.reduceLT, Nat.reduceEqDiff, Nat.reduceLeDiff, Nat.reduceSub, Nat.reduceMul, Try.f25]
  refine V.call rfl rfl (by simp [dOK]) ⟨23, [], by simp only [go_sem, ↓reduceIte, reduceCtorEq, Bool.false_eq_true, Bool.true_eq_false, Nat.reduceAdd, Nat.reduceLT, Nat.reduceEqDiff, Nat.reduceLeDiff, Nat.reduceSub, Nat.reduceMul], ⟨_, rfl, rfl, rfl⟩, .inl ⟨[.row (l.map Pair.pv), .str k], _, .inl (by simp only [go_sem, ↓reduceIte, reduceCtorEq, Bool.false_eq_true, Bool.true_eq_false, Nat.reduceAdd, Nat.reduceLT, Nat.reduceEqDiff, Nat.reduceLeDiff, Nat.reduceSub, Nat.reduceMul]), leaf_Get l k hl, .inr (.inl ⟨_, rfl, rfl, rfl⟩)⟩⟩ ?_
  refine V.exec 400 ?_
  simp (config := {contextual := true}) only [go_sem, ↓reduceIte, reduceCtorEq, Bool.false_eq_true, Bool.true_eq_false, Nat.reduceAdd, Nat.reduceLT, Nat.reduceEqDiff, Nat.reduceLeDiff, Nat.reduceSub, Nat.reduceMul, sideV]

theorem change_ahead (c : Change) : Ct Try.prog 34 (YtmdjkbhbpddjnaaVm.ops [c.pv]) (.vals [sideV (c.bef, c.had)]) := by
  refine Ct.of_V Try.func34 rfl (by simp [YtmdjkbhbpddjnaaVm.ops, Try.f34]) ?_
  refine V.exec 400 ?_
  simp (config := {contextual := true}) only [go_sem, ↓reduceIte, reduceCtorEq, Bool.false_eq_true, Bool.true_eq_false, Nat.reduceAdd, Nat.reduceLT, Nat.reduceEqDiff, Nat.reduceLeDiff, Nat.reduceSub, Nat.reduceMul, Try.f34, Change.pv, sideV]

def madeV (seq : Int) (key : List UInt8) (a b : List UInt8 × Bool) : Change × Int :=
  if a.2 = false ∧ b.2 = false then (Change.zero, 3) else (⟨seq, key, a.2, a.1, b.2, b.1⟩, 0)

set_option maxHeartbeats 4000000 in
theorem change_made (seq : Int) (key : List UInt8) (a b : List UInt8 × Bool) : Ct Try.prog 27 (YtmdjkbhbpddjnaaVm.ops [.int .i64 seq, .str key, sideV a, sideV b]) (.vals [(madeV seq key a b).1.pv, .int .i64 (madeV seq key a b).2]) := by
  obtain ⟨av, ah⟩ := a
  obtain ⟨bv, bh⟩ := b
  cases ah with
  | true =>
    have e : madeV seq key (av, true) (bv, bh) = (⟨seq, key, true, av, bh, bv⟩, 0) := rfl
    rw [e]
    refine Ct.of_V Try.func27 rfl (by simp [YtmdjkbhbpddjnaaVm.ops, Try.f27]) ?_
    refine V.exec 400 ?_
    simp (config := {contextual := true}) only [go_sem, ↓reduceIte, reduceCtorEq, Bool.false_eq_true, Bool.true_eq_false, Nat.reduceAdd, Nat.reduceLT, Nat.reduceEqDiff, Nat.reduceLeDiff, Nat.reduceSub, Nat.reduceMul, Try.f27, sideV, Change.pv, decide_true]
  | false =>
    cases bh with
    | true =>
      have e : madeV seq key (av, false) (bv, true) = (⟨seq, key, false, av, true, bv⟩, 0) := rfl
      rw [e]
      refine Ct.of_V Try.func27 rfl (by simp [YtmdjkbhbpddjnaaVm.ops, Try.f27]) ?_
      refine V.exec 400 ?_
      simp (config := {contextual := true}) only [go_sem, ↓reduceIte, reduceCtorEq, Bool.false_eq_true, Bool.true_eq_false, Nat.reduceAdd, Nat.reduceLT, Nat.reduceEqDiff, Nat.reduceLeDiff, Nat.reduceSub, Nat.reduceMul, Try.f27, sideV, Change.pv, decide_true, decide_false]
    | false =>
      have e : madeV seq key (av, false) (bv, false) = (Change.zero, 3) := rfl
      rw [e]
      refine Ct.of_V Try.func27 rfl (by simp [YtmdjkbhbpddjnaaVm.ops, Try.f27]) ?_
      refine V.exec 400 ?_
      simp (config := {contextual := true}) only [go_sem, ↓reduceIte, reduceCtorEq, Bool.false_eq_true, Bool.true_eq_false, Nat.reduceAdd, Nat.reduceLT, Nat.reduceEqDiff, Nat.reduceLeDiff, Nat.reduceSub, Nat.reduceMul, Try.f27, sideV, Change.pv, Change.zero, decide_true, decide_false]

set_option maxRecDepth 4000 in
set_option maxHeartbeats 8000000 in
theorem change_Of (l : List Pair) (seq : Int) (n : Note) (hl : l.length ≤ 1000000) : Ct Try.prog 12 (YtmdjkbhbpddjnaaVm.ops [.row (l.map Pair.pv), .int .i64 seq, n.pv]) (.vals [(ofV l seq n).1.pv, .int .i64 (ofV l seq n).2]) := by
  have hbad : ¬ (pairsOk l ∧ n.ok ∧ 1 ≤ seq ∧ seq ≤ 2147483647) → ofV l seq n = (Change.zero, 1) := fun h => by unfold ofV; rw [if_neg h]
  refine Ct.of_V Try.func12 rfl (by simp [YtmdjkbhbpddjnaaVm.ops, Try.f12]) ?_
  refine V.exec 400 ?_
  simp (config := {contextual := true}) only [go_sem, ↓reduceIte, reduceCtorEq, Bool.false_eq_true, Bool.true_eq_false, Nat.reduceAdd, Nat.reduceLT, Nat.reduceEqDiff, Nat.reduceLeDiff, Nat.reduceSub, Nat.reduceMul, Try.f12, Note.pv]
  refine V.call rfl rfl (by simp [dOK]) ⟨21, [], by simp only [go_sem, ↓reduceIte, reduceCtorEq, Bool.false_eq_true, Bool.true_eq_false, Nat.reduceAdd, Nat.reduceLT, Nat.reduceEqDiff, Nat.reduceLeDiff, Nat.reduceSub, Nat.reduceMul], ⟨_, rfl, rfl, rfl⟩, .inl ⟨[.row (l.map Pair.pv)], _, .inl (by simp only [go_sem, ↓reduceIte, reduceCtorEq, Bool.false_eq_true, Bool.true_eq_false, Nat.reduceAdd, Nat.reduceLT, Nat.reduceEqDiff, Nat.reduceLeDiff, Nat.reduceSub, Nat.reduceMul]), leaf_Right l hl, .inl ⟨_, rfl, rfl, rfl, rfl⟩⟩⟩ ?_
  refine V.exec 400 ?_
  by_cases hok : pairsOk l
  · simp (config := {contextual := true}) only [go_sem, ↓reduceIte, reduceCtorEq, Bool.false_eq_true, Bool.true_eq_false, Nat.reduceAdd, Nat.reduceLT, Nat.reduceEqDiff, Nat.reduceLeDiff, Nat.reduceSub, Nat.reduceMul, hok]
    refine V.call rfl rfl (by simp [dOK]) ⟨24, [], by simp only [go_sem, ↓reduceIte, reduceCtorEq, Bool.false_eq_true, Bool.true_eq_false, Nat.reduceAdd, Nat.reduceLT, Nat.reduceEqDiff, Nat.reduceLeDiff, Nat.reduceSub, Nat.reduceMul], ⟨_, rfl, rfl, rfl⟩, .inl ⟨[n.pv], _, .inl (by simp only [go_sem, ↓reduceIte, reduceCtorEq, Bool.false_eq_true, Bool.true_eq_false, Nat.reduceAdd, Nat.reduceLT, Nat.reduceEqDiff, Nat.reduceLeDiff, Nat.reduceSub, Nat.reduceMul, Note.pv]), note_Right n, .inl ⟨_, rfl, rfl, rfl, rfl⟩⟩⟩ ?_
    refine V.exec 400 ?_
    by_cases hn : n.ok
    · by_cases h1 : seq < 1
      · have hv := hbad fun h => by omega
        simp (config := {contextual := true}) only [go_sem, ↓reduceIte, reduceCtorEq, Bool.false_eq_true, Bool.true_eq_false, Nat.reduceAdd, Nat.reduceLT, Nat.reduceEqDiff, Nat.reduceLeDiff, Nat.reduceSub, Nat.reduceMul, hn, h1, hv, Change.zero, Change.pv, decide_false]
      · by_cases h2 : 2147483647 < seq
        · have hv := hbad fun h => by omega
          simp (config := {contextual := true}) only [go_sem, ↓reduceIte, reduceCtorEq, Bool.false_eq_true, Bool.true_eq_false, Nat.reduceAdd, Nat.reduceLT, Nat.reduceEqDiff, Nat.reduceLeDiff, Nat.reduceSub, Nat.reduceMul, hn, h1, h2, hv, Change.zero, Change.pv, decide_false]
        · have hv : ofV l seq n = madeV seq n.key (getV l n.key) (doneV (getV l n.key).1 (getV l n.key).2 [n]) := by
            unfold ofV madeV; rw [if_pos ⟨hok, hn, by omega, by omega⟩]
          have cd := note_Done (getV l n.key).1 (getV l n.key).2 [n] (by simp)
          have cm := change_made seq n.key (getV l n.key) (doneV (getV l n.key).1 (getV l n.key).2 [n])
          have co := change_of l n.key hl
          rw [hv]
          obtain ⟨gv, gh, hG⟩ : ∃ a b, getV l n.key = (a, b) := ⟨_, _, rfl⟩
          rw [hG] at cd cm co ⊢
          simp only at cd cm co ⊢
          obtain ⟨dv, dh, hD⟩ : ∃ a b, doneV gv gh [n] = (a, b) := ⟨_, _, rfl⟩
          rw [hD] at cd cm ⊢
          simp only at cd cm
          generalize madeV seq n.key (gv, gh) (dv, dh) = M at *
          simp (config := {contextual := true}) only [go_sem, ↓reduceIte, reduceCtorEq, Bool.false_eq_true, Bool.true_eq_false, Nat.reduceAdd, Nat.reduceLT, Nat.reduceEqDiff, Nat.reduceLeDiff, Nat.reduceSub, Nat.reduceMul, hn, h1, h2]
          refine V.call rfl rfl (by simp [dOK]) ⟨25, [], by simp only [go_sem, ↓reduceIte, reduceCtorEq, Bool.false_eq_true, Bool.true_eq_false, Nat.reduceAdd, Nat.reduceLT, Nat.reduceEqDiff, Nat.reduceLeDiff, Nat.reduceSub, Nat.reduceMul], ⟨_, rfl, rfl, rfl⟩, .inl ⟨[.row (l.map Pair.pv), .str n.key], _, .inl (by simp only [go_sem, ↓reduceIte, reduceCtorEq, Bool.false_eq_true, Bool.true_eq_false, Nat.reduceAdd, Nat.reduceLT, Nat.reduceEqDiff, Nat.reduceLeDiff, Nat.reduceSub, Nat.reduceMul, sideV]), co, .inr (.inl ⟨_, rfl, rfl, rfl⟩)⟩⟩ ?_
          refine V.exec 400 ?_
          simp (config := {contextual := true}) only [go_sem, ↓reduceIte, reduceCtorEq, Bool.false_eq_true, Bool.true_eq_false, Nat.reduceAdd, Nat.reduceLT, Nat.reduceEqDiff, Nat.reduceLeDiff, Nat.reduceSub, Nat.reduceMul, sideV, Note.pv]
          refine V.call rfl rfl (by simp [dOK]) ⟨26, [], by simp only [go_sem, ↓reduceIte, reduceCtorEq, Bool.false_eq_true, Bool.true_eq_false, Nat.reduceAdd, Nat.reduceLT, Nat.reduceEqDiff, Nat.reduceLeDiff, Nat.reduceSub, Nat.reduceMul], ⟨_, rfl, rfl, rfl⟩, .inl ⟨[.str gv, .bool (decide (gh = true)), .row ([n].map Note.pv)], _, .inl (by simp only [go_sem, ↓reduceIte, reduceCtorEq, Bool.false_eq_true, Bool.true_eq_false, Nat.reduceAdd, Nat.reduceLT, Nat.reduceEqDiff, Nat.reduceLeDiff, Nat.reduceSub, Nat.reduceMul, Note.pv, List.map_cons, List.map_nil]), cd, .inr (.inl ⟨_, rfl, rfl, rfl⟩)⟩⟩ ?_
          refine V.exec 400 ?_
          simp (config := {contextual := true}) only [go_sem, ↓reduceIte, reduceCtorEq, Bool.false_eq_true, Bool.true_eq_false, Nat.reduceAdd, Nat.reduceLT, Nat.reduceEqDiff, Nat.reduceLeDiff, Nat.reduceSub, Nat.reduceMul, sideV, Note.pv]
          refine V.call rfl rfl (by simp [dOK]) ⟨27, [], by simp only [go_sem, ↓reduceIte, reduceCtorEq, Bool.false_eq_true, Bool.true_eq_false, Nat.reduceAdd, Nat.reduceLT, Nat.reduceEqDiff, Nat.reduceLeDiff, Nat.reduceSub, Nat.reduceMul], ⟨_, rfl, rfl, rfl⟩, .inl ⟨[.int .i64 seq, .str n.key, sideV (gv, gh), sideV (dv, dh)], _, .inl (by simp only [go_sem, ↓reduceIte, reduceCtorEq, Bool.false_eq_true, Bool.true_eq_false, Nat.reduceAdd, Nat.reduceLT, Nat.reduceEqDiff, Nat.reduceLeDiff, Nat.reduceSub, Nat.reduceMul, sideV]), cm, .inr (.inl ⟨_, rfl, rfl, rfl⟩)⟩⟩ ?_
          refine V.exec 400 ?_
          simp (config := {contextual := true}) only [go_sem, ↓reduceIte, reduceCtorEq, Bool.false_eq_true, Bool.true_eq_false, Nat.reduceAdd, Nat.reduceLT, Nat.reduceEqDiff, Nat.reduceLeDiff, Nat.reduceSub, Nat.reduceMul, Change.pv]
    · have hv := hbad fun h => hn h.2.1
      simp (config := {contextual := true}) only [go_sem, ↓reduceIte, reduceCtorEq, Bool.false_eq_true, Bool.true_eq_false, Nat.reduceAdd, Nat.reduceLT, Nat.reduceEqDiff, Nat.reduceLeDiff, Nat.reduceSub, Nat.reduceMul, hn, hv, Change.zero, Change.pv, decide_false]
  · have hv := hbad fun h => hok h.1
    simp (config := {contextual := true}) only [go_sem, ↓reduceIte, reduceCtorEq, Bool.false_eq_true, Bool.true_eq_false, Nat.reduceAdd, Nat.reduceLT, Nat.reduceEqDiff, Nat.reduceLeDiff, Nat.reduceSub, Nat.reduceMul, hok, hv, Change.zero, Change.pv, decide_false]
end Go.Proofs.Ytmdjkbhbpddjnaa
set_option linter.unusedVariables false
set_option linter.unusedSimpArgs false
namespace Go.Proofs.Ytmdjkbhbpddjnaa
open Go Go.Proofs Go.Proofs.YtmdjkbhbpddjnaaVm Go.Proofs.Ytmdjkbhbpddjnaa.Ty

theorem eqSide : EqT Try.prog 57 [.bool, .str] := EqT.of (by kernel_rfl) (by kernel_rfl) (by kernel_rfl)
theorem side_inj (a b : List UInt8) (p q : Bool) : (PV.agg [.bool (decide (p = true)), .str a] = PV.agg [.bool (decide (q = true)), .str b]) = (a = b ∧ p = q) := by
  cases p <;> cases q <;> simp

set_option maxRecDepth 10000 in
set_option maxHeartbeats 16000000 in
theorem change_Do (l : List Pair) (cs : List Change) (hl : l.length ≤ 200000) (hn : cs.length ≤ 200000) : Ct Try.prog 16 (YtmdjkbhbpddjnaaVm.ops [.row (l.map Pair.pv), .row (cs.map Change.pv)]) (.vals [.row ((doV l cs).1.map Pair.pv), .int .i64 (doV l cs).2]) := by
  have h2 : ∀ (l : List Pair), ∀ x ∈ l.map Pair.pv, x.cells.length = 2 := fun l x hx => by
    obtain ⟨s, _, rfl⟩ := List.mem_map.1 hx
    rfl
  have ccl := (ClonePair (l.map Pair.pv) (h2 l) (by simp; omega)).forget
  refine Ct.of_V Try.func16 rfl (by simp [YtmdjkbhbpddjnaaVm.ops, Try.f16]) ?_
  refine V.exec 400 ?_
  simp (config := {contextual := true}) only [go_sem, ↓reduceIte, reduceCtorEq, Bool.false_eq_true, Bool.true_eq_false, Nat.reduceAdd, Nat.reduceLT, Nat.reduceEqDiff, Nat.reduceLeDiff, Nat.reduceSub, Nat.reduceMul, Try.f16]
  refine V.call rfl rfl (by simp [dOK]) ⟨36, [], by simp only [go_sem, ↓reduceIte, reduceCtorEq, Bool.false_eq_true, Bool.true_eq_false, Nat.reduceAdd, Nat.reduceLT, Nat.reduceEqDiff, Nat.reduceLeDiff, Nat.reduceSub, Nat.reduceMul], ⟨_, rfl, rfl, rfl⟩, .inl ⟨[.row (l.map Pair.pv)], _, .inl (by simp only [go_sem, ↓reduceIte, reduceCtorEq, Bool.false_eq_true, Bool.true_eq_false, Nat.reduceAdd, Nat.reduceLT, Nat.reduceEqDiff, Nat.reduceLeDiff, Nat.reduceSub, Nat.reduceMul]), ccl, .inr (.inl ⟨_, rfl, rfl, rfl⟩)⟩⟩ ?_
  refine V.exec 400 ?_
  simp (config := {contextual := true}) only [go_sem, ↓reduceIte, reduceCtorEq, Bool.false_eq_true, Bool.true_eq_false, Nat.reduceAdd, Nat.reduceLT, Nat.reduceEqDiff, Nat.reduceLeDiff, Nat.reduceSub, Nat.reduceMul]
  refine V.call rfl rfl (by simp [dOK]) ⟨21, [], by simp only [go_sem, ↓reduceIte, reduceCtorEq, Bool.false_eq_true, Bool.true_eq_false, Nat.reduceAdd, Nat.reduceLT, Nat.reduceEqDiff, Nat.reduceLeDiff, Nat.reduceSub, Nat.reduceMul], ⟨_, rfl, rfl, rfl⟩, .inl ⟨[.row (l.map Pair.pv)], _, .inl (by simp only [go_sem, ↓reduceIte, reduceCtorEq, Bool.false_eq_true, Bool.true_eq_false, Nat.reduceAdd, Nat.reduceLT, Nat.reduceEqDiff, Nat.reduceLeDiff, Nat.reduceSub, Nat.reduceMul]), leaf_Right l (by omega), .inl ⟨_, rfl, rfl, rfl, rfl⟩⟩⟩ ?_
  refine V.exec 400 ?_
  by_cases hok : pairsOk l
  · simp (config := {contextual := true}) only [go_sem, ↓reduceIte, reduceCtorEq, Bool.false_eq_true, Bool.true_eq_false, Nat.reduceAdd, Nat.reduceLT, Nat.reduceEqDiff, Nat.reduceLeDiff, Nat.reduceSub, Nat.reduceMul, hok]
    refine V.loop (fun m ls os => ∃ (i : Nat) (cur : List Pair), i ≤ cs.length ∧ m = cs.length - i ∧ pairsOk cur ∧ cur.length ≤ l.length + i ∧ doGo cur (cs.drop i) = doGo l cs ∧
        ls = [(0, .val (.row (l.map Pair.pv))), (6, .val (.row (cur.map Pair.pv))), (16, .val (.row (cs.map Change.pv))), (17, .val (.int .i64 cs.length)), (18, .val (.int .i64 i))] ∧ os = []) 0 cs.length
      [(0, .val (.row (l.map Pair.pv))), (6, .val (.row (l.map Pair.pv))), (16, .val (.row (cs.map Change.pv))), (17, .val (.int .i64 cs.length)), (18, .val (.int .i64 0))] [] []
      ⟨0, l, Nat.zero_le _, rfl, hok, Nat.le_refl _, rfl, rfl, rfl⟩ (by simp only [go_sem, ↓reduceIte, reduceCtorEq, Bool.false_eq_true, Bool.true_eq_false, Nat.reduceAdd, Nat.reduceLT, Nat.reduceEqDiff, Nat.reduceLeDiff, Nat.reduceSub, Nat.reduceMul]) ?_
    rintro m ls os ⟨i, cur, hi, rfl, hco, hcl, hca, rfl, rfl⟩
    refine V.exec 400 ?_
    by_cases hlt : i < cs.length
    · have hlt' : (i : Int) < (cs.length : Int) := by omega
      obtain ⟨x, hx⟩ : ∃ x, cs[i]? = some x := ⟨_, List.getElem?_eq_getElem hlt⟩
      have hw : IntKind.i64.wrap ((i : Int) + 1) = ((i + 1 : Nat) : Int) := by rw [wrap_small3] <;> omega
      rw [drop_of_get hx, doGo] at hca
      have hbad : ¬ (x.ok ∧ fitC cur x) → doV l cs = (l, 1) := fun h => by
        rw [if_neg h] at hca
        unfold doV; rw [if_pos hok, ← hca]
      have hgood := fun h : x.ok ∧ fitC cur x => if_pos h ▸ hca
      simp (config := {contextual := true}) only [go_sem, ↓reduceIte, reduceCtorEq, Bool.false_eq_true, Bool.true_eq_false, Nat.reduceAdd, Nat.reduceLT, Nat.reduceEqDiff, Nat.reduceLeDiff, Nat.reduceSub, Nat.reduceMul, hlt', hx, Change.pv]
      refine DV.call [] [] (by simp only [go_sem, ↓reduceIte, reduceCtorEq, Bool.false_eq_true, Bool.true_eq_false, Nat.reduceAdd, Nat.reduceLT, Nat.reduceEqDiff, Nat.reduceLeDiff, Nat.reduceSub, Nat.reduceMul, Change.pv]) (by simp [dOK]) ⟨32, [], by simp only [go_sem, ↓reduceIte, reduceCtorEq, Bool.false_eq_true, Bool.true_eq_false, Nat.reduceAdd, Nat.reduceLT, Nat.reduceEqDiff, Nat.reduceLeDiff, Nat.reduceSub, Nat.reduceMul, Change.pv], ⟨_, rfl, rfl, rfl⟩, .inl ⟨[x.pv], _, .inl (by simp only [go_sem, ↓reduceIte, reduceCtorEq, Bool.false_eq_true, Bool.true_eq_false, Nat.reduceAdd, Nat.reduceLT, Nat.reduceEqDiff, Nat.reduceLeDiff, Nat.reduceSub, Nat.reduceMul, Change.pv]), flat_May x, .inl ⟨_, rfl, rfl, rfl, rfl⟩⟩⟩ (by simp only [go_sem, ↓reduceIte, reduceCtorEq, Bool.false_eq_true, Bool.true_eq_false, Nat.reduceAdd, Nat.reduceLT, Nat.reduceEqDiff, Nat.reduceLeDiff, Nat.reduceSub, Nat.reduceMul, Change.pv]) (by simp only [go_sem, ↓reduceIte, reduceCtorEq, Bool.false_eq_true, Bool.true_eq_false, Nat.reduceAdd, Nat.reduceLT, Nat.reduceEqDiff, Nat.reduceLeDiff, Nat.reduceSub, Nat.reduceMul, Change.pv]) (by simp only [go_sem, ↓reduceIte, reduceCtorEq, Bool.false_eq_true, Bool.true_eq_false, Nat.reduceAdd, Nat.reduceLT, Nat.reduceEqDiff, Nat.reduceLeDiff, Nat.reduceSub, Nat.reduceMul, Change.pv]) (by simp) ?_
      refine DV.exec 400 ?_
      by_cases hm : x.ok
      · have co := change_of cur x.key (by omega)
        obtain ⟨gv, gh, hG⟩ : ∃ a b, getV cur x.key = (a, b) := ⟨_, _, rfl⟩
        rw [hG] at co
        simp (config := {contextual := true}) only [go_sem, ↓reduceIte, reduceCtorEq, Bool.false_eq_true, Bool.true_eq_false, Nat.reduceAdd, Nat.reduceLT, Nat.reduceEqDiff, Nat.reduceLeDiff, Nat.reduceSub, Nat.reduceMul, hm, Change.pv]
        refine DV.call [] [] (by simp only [go_sem, ↓reduceIte, reduceCtorEq, Bool.false_eq_true, Bool.true_eq_false, Nat.reduceAdd, Nat.reduceLT, Nat.reduceEqDiff, Nat.reduceLeDiff, Nat.reduceSub, Nat.reduceMul, sideV]) (by simp [dOK]) ⟨25, [], by simp only [go_sem, ↓reduceIte, reduceCtorEq, Bool.false_eq_true, Bool.true_eq_false, Nat.reduceAdd, Nat.reduceLT, Nat.reduceEqDiff, Nat.reduceLeDiff, Nat.reduceSub, Nat.reduceMul, sideV], ⟨_, rfl, rfl, rfl⟩, .inl ⟨[.row (cur.map Pair.pv), .str x.key], _, .inl (by simp only [go_sem, ↓reduceIte, reduceCtorEq, Bool.false_eq_true, Bool.true_eq_false, Nat.reduceAdd, Nat.reduceLT, Nat.reduceEqDiff, Nat.reduceLeDiff, Nat.reduceSub, Nat.reduceMul, sideV]), co, .inr (.inl ⟨_, rfl, rfl, rfl⟩)⟩⟩ (by simp only [go_sem, ↓reduceIte, reduceCtorEq, Bool.false_eq_true, Bool.true_eq_false, Nat.reduceAdd, Nat.reduceLT, Nat.reduceEqDiff, Nat.reduceLeDiff, Nat.reduceSub, Nat.reduceMul, sideV]) (by simp only [go_sem, ↓reduceIte, reduceCtorEq, Bool.false_eq_true, Bool.true_eq_false, Nat.reduceAdd, Nat.reduceLT, Nat.reduceEqDiff, Nat.reduceLeDiff, Nat.reduceSub, Nat.reduceMul, sideV]) (by simp only [go_sem, ↓reduceIte, reduceCtorEq, Bool.false_eq_true, Bool.true_eq_false, Nat.reduceAdd, Nat.reduceLT, Nat.reduceEqDiff, Nat.reduceLeDiff, Nat.reduceSub, Nat.reduceMul, sideV]) (by simp) ?_
        refine DV.exec 400 ?_
        simp (config := {contextual := true}) only [go_sem, ↓reduceIte, reduceCtorEq, Bool.false_eq_true, Bool.true_eq_false, Nat.reduceAdd, Nat.reduceLT, Nat.reduceEqDiff, Nat.reduceLeDiff, Nat.reduceSub, Nat.reduceMul, hm, Change.pv]
        refine DV.call [] [] (by simp only [go_sem, ↓reduceIte, reduceCtorEq, Bool.false_eq_true, Bool.true_eq_false, Nat.reduceAdd, Nat.reduceLT, Nat.reduceEqDiff, Nat.reduceLeDiff, Nat.reduceSub, Nat.reduceMul, sideV, Change.pv]) (by simp [dOK]) ⟨34, [], by simp only [go_sem, ↓reduceIte, reduceCtorEq, Bool.false_eq_true, Bool.true_eq_false, Nat.reduceAdd, Nat.reduceLT, Nat.reduceEqDiff, Nat.reduceLeDiff, Nat.reduceSub, Nat.reduceMul, sideV, Change.pv], ⟨_, rfl, rfl, rfl⟩, .inl ⟨[x.pv], _, .inl (by simp only [go_sem, ↓reduceIte, reduceCtorEq, Bool.false_eq_true, Bool.true_eq_false, Nat.reduceAdd, Nat.reduceLT, Nat.reduceEqDiff, Nat.reduceLeDiff, Nat.reduceSub, Nat.reduceMul, sideV, Change.pv]), change_ahead x, .inr (.inl ⟨_, rfl, rfl, rfl⟩)⟩⟩ (by simp only [go_sem, ↓reduceIte, reduceCtorEq, Bool.false_eq_true, Bool.true_eq_false, Nat.reduceAdd, Nat.reduceLT, Nat.reduceEqDiff, Nat.reduceLeDiff, Nat.reduceSub, Nat.reduceMul, sideV, Change.pv]) (by simp only [go_sem, ↓reduceIte, reduceCtorEq, Bool.false_eq_true, Bool.true_eq_false, Nat.reduceAdd, Nat.reduceLT, Nat.reduceEqDiff, Nat.reduceLeDiff, Nat.reduceSub, Nat.reduceMul, sideV, Change.pv]) (by simp only [go_sem, ↓reduceIte, reduceCtorEq, Bool.false_eq_true, Bool.true_eq_false, Nat.reduceAdd, Nat.reduceLT, Nat.reduceEqDiff, Nat.reduceLeDiff, Nat.reduceSub, Nat.reduceMul, sideV, Change.pv]) (by simp) ?_
        refine DV.exec 400 ?_
        by_cases hf : gv = x.bef ∧ gh = x.had
        · have hfit : fitC cur x := by unfold fitC; rw [hG, hf.1, hf.2]
          have hgo := hgood ⟨hm, hfit⟩
          have hnc := noteC_ok hm
          have ca := leaf_Apply cur [noteC x] (by omega) (by simp)
          rw [applyV_ok hco ((notesOk_one _).2 hnc)] at ca
          have e1 : appV cur [noteC x] = oneV cur (noteC x) := rfl
          rw [e1] at ca
          simp only at ca
          have hoo := oneV_pairsOk hco hnc
          have hol := oneV_len ((pairsOk_iff cur).1 hco).1 (noteC x)
          generalize oneV cur (noteC x) = nxt at *
          cases hh : x.has with
          | true =>
            have e2 : noteC x = ⟨1, x.key, x.aft, 0⟩ := by unfold noteC; rw [if_pos hh]
            rw [e2] at ca
            simp (config := {contextual := true}) only [go_sem, ↓reduceIte, reduceCtorEq, Bool.false_eq_true, Bool.true_eq_false, Nat.reduceAdd, Nat.reduceLT, Nat.reduceEqDiff, Nat.reduceLeDiff, Nat.reduceSub, Nat.reduceMul, hm, Change.pv, sideV, eqSide, side_inj, hf, hh, decide_true]
            refine ⟨by kernel_rfl, ?_⟩
            refine V.call rfl rfl (by simp [dOK]) ⟨22, [], by simp only [go_sem, ↓reduceIte, reduceCtorEq, Bool.false_eq_true, Bool.true_eq_false, Nat.reduceAdd, Nat.reduceLT, Nat.reduceEqDiff, Nat.reduceLeDiff, Nat.reduceSub, Nat.reduceMul], ⟨_, rfl, rfl, rfl⟩, .inl ⟨[.row (cur.map Pair.pv), .row ([(⟨1, x.key, x.aft, 0⟩ : Note)].map Note.pv)], _, .inl (by simp only [go_sem, ↓reduceIte, reduceCtorEq, Bool.false_eq_true, Bool.true_eq_false, Nat.reduceAdd, Nat.reduceLT, Nat.reduceEqDiff, Nat.reduceLeDiff, Nat.reduceSub, Nat.reduceMul, Note.pv, List.map_cons, List.map_nil]), ca, .inr (.inl ⟨_, rfl, rfl, rfl⟩)⟩⟩ ?_
            refine V.exec 400 ?_
            simp (config := {contextual := true}) only [go_sem, ↓reduceIte, reduceCtorEq, Bool.false_eq_true, Bool.true_eq_false, Nat.reduceAdd, Nat.reduceLT, Nat.reduceEqDiff, Nat.reduceLeDiff, Nat.reduceSub, Nat.reduceMul, hw]
            exact ⟨cs.length - (i + 1), _, [], [], by omega, ⟨i + 1, nxt, by omega, rfl, hoo, by omega, hgo, rfl, rfl⟩, by simp only [go_sem, ↓reduceIte, reduceCtorEq, Bool.false_eq_true, Bool.true_eq_false, Nat.reduceAdd, Nat.reduceLT, Nat.reduceEqDiff, Nat.reduceLeDiff, Nat.reduceSub, Nat.reduceMul]⟩
          | false =>
            have e2 : noteC x = ⟨2, x.key, [], 0⟩ := by unfold noteC; rw [if_neg (by rw [hh]; decide)]
            rw [e2] at ca
            simp (config := {contextual := true}) only [go_sem, ↓reduceIte, reduceCtorEq, Bool.false_eq_true, Bool.true_eq_false, Nat.reduceAdd, Nat.reduceLT, Nat.reduceEqDiff, Nat.reduceLeDiff, Nat.reduceSub, Nat.reduceMul, hm, Change.pv, sideV, eqSide, side_inj, hf, hh, decide_false]
            refine ⟨by kernel_rfl, ?_⟩
            refine V.call rfl rfl (by simp [dOK]) ⟨22, [], by simp only [go_sem, ↓reduceIte, reduceCtorEq, Bool.false_eq_true, Bool.true_eq_false, Nat.reduceAdd, Nat.reduceLT, Nat.reduceEqDiff, Nat.reduceLeDiff, Nat.reduceSub, Nat.reduceMul], ⟨_, rfl, rfl, rfl⟩, .inl ⟨[.row (cur.map Pair.pv), .row ([(⟨2, x.key, [], 0⟩ : Note)].map Note.pv)], _, .inl (by simp only [go_sem, ↓reduceIte, reduceCtorEq, Bool.false_eq_true, Bool.true_eq_false, Nat.reduceAdd, Nat.reduceLT, Nat.reduceEqDiff, Nat.reduceLeDiff, Nat.reduceSub, Nat.reduceMul, Note.pv, List.map_cons, List.map_nil]), ca, .inr (.inl ⟨_, rfl, rfl, rfl⟩)⟩⟩ ?_
            refine V.exec 400 ?_
            simp (config := {contextual := true}) only [go_sem, ↓reduceIte, reduceCtorEq, Bool.false_eq_true, Bool.true_eq_false, Nat.reduceAdd, Nat.reduceLT, Nat.reduceEqDiff, Nat.reduceLeDiff, Nat.reduceSub, Nat.reduceMul, hw]
            exact ⟨cs.length - (i + 1), _, [], [], by omega, ⟨i + 1, nxt, by omega, rfl, hoo, by omega, hgo, rfl, rfl⟩, by simp only [go_sem, ↓reduceIte, reduceCtorEq, Bool.false_eq_true, Bool.true_eq_false, Nat.reduceAdd, Nat.reduceLT, Nat.reduceEqDiff, Nat.reduceLeDiff, Nat.reduceSub, Nat.reduceMul]⟩
        · have hv := hbad fun h => hf (by have := h.2; unfold fitC at this; rw [hG, Prod.mk.injEq] at this; exact this)
          simp (config := {contextual := true}) only [go_sem, ↓reduceIte, reduceCtorEq, Bool.false_eq_true, Bool.true_eq_false, Nat.reduceAdd, Nat.reduceLT, Nat.reduceEqDiff, Nat.reduceLeDiff, Nat.reduceSub, Nat.reduceMul, hm, Change.pv, sideV, eqSide, side_inj, hf, hv]
          refine ⟨by kernel_rfl, ?_⟩
          refine V.call rfl rfl (by simp [dOK]) ⟨36, [], by simp only [go_sem, ↓reduceIte, reduceCtorEq, Bool.false_eq_true, Bool.true_eq_false, Nat.reduceAdd, Nat.reduceLT, Nat.reduceEqDiff, Nat.reduceLeDiff, Nat.reduceSub, Nat.reduceMul], ⟨_, rfl, rfl, rfl⟩, .inl ⟨[.row (l.map Pair.pv)], _, .inl (by simp only [go_sem, ↓reduceIte, reduceCtorEq, Bool.false_eq_true, Bool.true_eq_false, Nat.reduceAdd, Nat.reduceLT, Nat.reduceEqDiff, Nat.reduceLeDiff, Nat.reduceSub, Nat.reduceMul]), ccl, .inr (.inl ⟨_, rfl, rfl, rfl⟩)⟩⟩ ?_
          refine V.exec 400 ?_
          simp (config := {contextual := true}) only [go_sem, ↓reduceIte, reduceCtorEq, Bool.false_eq_true, Bool.true_eq_false, Nat.reduceAdd, Nat.reduceLT, Nat.reduceEqDiff, Nat.reduceLeDiff, Nat.reduceSub, Nat.reduceMul, hv]
      · have hv := hbad fun h => hm h.1
        simp (config := {contextual := true}) only [go_sem, ↓reduceIte, reduceCtorEq, Bool.false_eq_true, Bool.true_eq_false, Nat.reduceAdd, Nat.reduceLT, Nat.reduceEqDiff, Nat.reduceLeDiff, Nat.reduceSub, Nat.reduceMul, hm, Change.pv, hv]
        refine ⟨by kernel_rfl, ?_⟩
        refine V.call rfl rfl (by simp [dOK]) ⟨36, [], by simp only [go_sem, ↓reduceIte, reduceCtorEq, Bool.false_eq_true, Bool.true_eq_false, Nat.reduceAdd, Nat.reduceLT, Nat.reduceEqDiff, Nat.reduceLeDiff, Nat.reduceSub, Nat.reduceMul], ⟨_, rfl, rfl, rfl⟩, .inl ⟨[.row (l.map Pair.pv)], _, .inl (by simp only [go_sem, ↓reduceIte, reduceCtorEq, Bool.false_eq_true, Bool.true_eq_false, Nat.reduceAdd, Nat.reduceLT, Nat.reduceEqDiff, Nat.reduceLeDiff, Nat.reduceSub, Nat.reduceMul]), ccl, .inr (.inl ⟨_, rfl, rfl, rfl⟩)⟩⟩ ?_
        refine V.exec 400 ?_
        simp (config := {contextual := true}) only [go_sem, ↓reduceIte, reduceCtorEq, Bool.false_eq_true, Bool.true_eq_false, Nat.reduceAdd, Nat.reduceLT, Nat.reduceEqDiff, Nat.reduceLeDiff, Nat.reduceSub, Nat.reduceMul, hv]
    · have hlt' : ¬ (i : Int) < (cs.length : Int) := by omega
      have hd : cs.drop i = [] := List.drop_eq_nil_of_le (by omega)
      rw [hd, doGo] at hca
      have hv : doV l cs = (cur, 0) := by unfold doV; rw [if_pos hok, ← hca]
      simp (config := {contextual := true}) only [go_sem, ↓reduceIte, reduceCtorEq, Bool.false_eq_true, Bool.true_eq_false, Nat.reduceAdd, Nat.reduceLT, Nat.reduceEqDiff, Nat.reduceLeDiff, Nat.reduceSub, Nat.reduceMul, hlt', hv]
  · have hv : doV l cs = (l, 1) := by unfold doV; rw [if_neg hok]
    simp (config := {contextual := true}) only [go_sem, ↓reduceIte, reduceCtorEq, Bool.false_eq_true, Bool.true_eq_false, Nat.reduceAdd, Nat.reduceLT, Nat.reduceEqDiff, Nat.reduceLeDiff, Nat.reduceSub, Nat.reduceMul, hok, hv]

end Go.Proofs.Ytmdjkbhbpddjnaa
set_option linter.unusedVariables false
set_option linter.unusedSimpArgs false
namespace Go.Proofs.Ytmdjkbhbpddjnaa
open Go Go.Proofs Go.Proofs.YtmdjkbhbpddjnaaVm Go.Proofs.Ytmdjkbhbpddjnaa.Ty

theorem Change.inj (s t : Change) : (s.pv = t.pv) = (s = t) := by
  obtain ⟨s1, s2, s3, s4, s5, s6⟩ := s
  obtain ⟨t1, t2, t3, t4, t5, t6⟩ := t
  cases s3 <;> cases s5 <;> cases t3 <;> cases t5 <;> simp [Change.pv]

theorem eqChange : EqT Try.prog 27 [.int .i64, .str, .bool, .str, .bool, .str] := EqT.of (by kernel_rfl) (by kernel_rfl) (by kernel_rfl)

theorem ofV_err {l : List Pair} {seq : Int} {n : Note} : (ofV l seq n).2 = 0 ∨ (ofV l seq n).2 = 1 ∨ (ofV l seq n).2 = 3 := by
  unfold ofV
  split
  · split
    · exact .inr (.inr rfl)
    · exact .inl rfl
  · exact .inr (.inl rfl)

end Go.Proofs.Ytmdjkbhbpddjnaa
set_option linter.unusedVariables false
set_option linter.unusedSimpArgs false
namespace Go.Proofs.Ytmdjkbhbpddjnaa
open Go Go.Proofs Go.Proofs.YtmdjkbhbpddjnaaVm Go.Proofs.Ytmdjkbhbpddjnaa.Ty

theorem refFindP_neg {l : List Pair} {k : List UInt8} (h : getL l k = none) : refFindP l k = -1 := by
  unfold refFindP
  have : l.findIdx? (fun s => decide (s.key = k)) = none := by
    rw [List.findIdx?_eq_none_iff]
    intro x hx
    unfold getL at h
    rw [List.find?_eq_none] at h
    simpa using h x hx
  rw [this]
theorem refFindP_some {l : List Pair} (hs : Sorted l) {k : List UInt8} {p : Pair} (h : getL l k = some p) : ∃ i : Nat, refFindP l k = (i : Int) ∧ l[i]? = some p ∧ i < l.length := by
  have hm := getL_mem h
  unfold refFindP
  cases hf : l.findIdx? (fun s => decide (s.key = k)) with
  | none =>
    rw [List.findIdx?_eq_none_iff] at hf
    have := hf p hm.1
    simp [hm.2] at this
  | some i =>
    rw [List.findIdx?_eq_some_iff_getElem] at hf
    obtain ⟨hi, hk, _⟩ := hf
    refine ⟨i, rfl, ?_, hi⟩
    have hk' : l[i].key = k := by simpa using hk
    have := getL_of_mem hs (List.getElem_mem hi)
    rw [hk', h] at this
    rw [List.getElem?_eq_getElem hi, this]

set_option maxRecDepth 4000 in
set_option maxHeartbeats 8000000 in
theorem ref15_Of (l : List Pair) (seq : Int) (n : Note) (hl : l.length ≤ 1000000) : Ct Try.prog 13 (YtmdjkbhbpddjnaaVm.ops [.row (l.map Pair.pv), .int .i64 seq, n.pv]) (.vals [(ofV l seq n).1.pv, .int .i64 (ofV l seq n).2]) := by
  have hbad : ¬ (pairsOk l ∧ n.ok ∧ 1 ≤ seq ∧ seq ≤ 2147483647) → ofV l seq n = (Change.zero, 1) := fun h => by unfold ofV; rw [if_neg h]
  refine Ct.of_V Try.func13 rfl (by simp [YtmdjkbhbpddjnaaVm.ops, Try.f13]) ?_
  refine V.exec 400 ?_
  simp (config := {contextual := true}) only [go_sem, ↓reduceIte, reduceCtorEq, Bool.false_eq_true, Bool.true_eq_false, Nat.reduceAdd, Nat.reduceLT, Nat.reduceEqDiff, Nat.reduceLeDiff, Nat.reduceSub, Nat.reduceMul, Try.f13, Note.pv]
  refine DV.call [] [] (by simp only [go_sem, ↓reduceIte, reduceCtorEq, Bool.false_eq_true, Bool.true_eq_false, Nat.reduceAdd, Nat.reduceLT, Nat.reduceEqDiff, Nat.reduceLeDiff, Nat.reduceSub, Nat.reduceMul]) (by simp [dOK]) ⟨28, [], by simp only [go_sem, ↓reduceIte, reduceCtorEq, Bool.false_eq_true, Bool.true_eq_false, Nat.reduceAdd, Nat.reduceLT, Nat.reduceEqDiff, Nat.reduceLeDiff, Nat.reduceSub, Nat.reduceMul], ⟨_, rfl, rfl, rfl⟩, .inl ⟨[.row (l.map Pair.pv)], _, .inl (by simp only [go_sem, ↓reduceIte, reduceCtorEq, Bool.false_eq_true, Bool.true_eq_false, Nat.reduceAdd, Nat.reduceLT, Nat.reduceEqDiff, Nat.reduceLeDiff, Nat.reduceSub, Nat.reduceMul]), ref10_Right l hl, .inl ⟨_, rfl, rfl, rfl, rfl⟩⟩⟩ (by simp only [go_sem, ↓reduceIte, reduceCtorEq, Bool.false_eq_true, Bool.true_eq_false, Nat.reduceAdd, Nat.reduceLT, Nat.reduceEqDiff, Nat.reduceLeDiff, Nat.reduceSub, Nat.reduceMul]) (by simp only [go_sem, ↓reduceIte, reduceCtorEq, Bool.false_eq_true, Bool.true_eq_false, Nat.reduceAdd, Nat.reduceLT, Nat.reduceEqDiff, Nat.reduceLeDiff, Nat.reduceSub, Nat.reduceMul]) (by simp only [go_sem, ↓reduceIte, reduceCtorEq, Bool.false_eq_true, Bool.true_eq_false, Nat.reduceAdd, Nat.reduceLT, Nat.reduceEqDiff, Nat.reduceLeDiff, Nat.reduceSub, Nat.reduceMul]) (by simp) ?_
  refine DV.exec 400 ?_
  simp (config := {contextual := true}) only [go_sem, ↓reduceIte, reduceCtorEq, Bool.false_eq_true, Bool.true_eq_false, Nat.reduceAdd, Nat.reduceLT, Nat.reduceEqDiff, Nat.reduceLeDiff, Nat.reduceSub, Nat.reduceMul, Note.pv]
  refine DV.call [] [] (by simp only [go_sem, ↓reduceIte, reduceCtorEq, Bool.false_eq_true, Bool.true_eq_false, Nat.reduceAdd, Nat.reduceLT, Nat.reduceEqDiff, Nat.reduceLeDiff, Nat.reduceSub, Nat.reduceMul, Note.pv]) (by simp [dOK]) ⟨29, [], by simp only [go_sem, ↓reduceIte, reduceCtorEq, Bool.false_eq_true, Bool.true_eq_false, Nat.reduceAdd, Nat.reduceLT, Nat.reduceEqDiff, Nat.reduceLeDiff, Nat.reduceSub, Nat.reduceMul, Note.pv], ⟨_, rfl, rfl, rfl⟩, .inl ⟨[n.pv], _, .inl (by simp only [go_sem, ↓reduceIte, reduceCtorEq, Bool.false_eq_true, Bool.true_eq_false, Nat.reduceAdd, Nat.reduceLT, Nat.reduceEqDiff, Nat.reduceLeDiff, Nat.reduceSub, Nat.reduceMul, Note.pv]), ref09_Right n, .inl ⟨_, rfl, rfl, rfl, rfl⟩⟩⟩ (by simp only [go_sem, ↓reduceIte, reduceCtorEq, Bool.false_eq_true, Bool.true_eq_false, Nat.reduceAdd, Nat.reduceLT, Nat.reduceEqDiff, Nat.reduceLeDiff, Nat.reduceSub, Nat.reduceMul, Note.pv]) (by simp only [go_sem, ↓reduceIte, reduceCtorEq, Bool.false_eq_true, Bool.true_eq_false, Nat.reduceAdd, Nat.reduceLT, Nat.reduceEqDiff, Nat.reduceLeDiff, Nat.reduceSub, Nat.reduceMul, Note.pv]) (by simp only [go_sem, ↓reduceIte, reduceCtorEq, Bool.false_eq_true, Bool.true_eq_false, Nat.reduceAdd, Nat.reduceLT, Nat.reduceEqDiff, Nat.reduceLeDiff, Nat.reduceSub, Nat.reduceMul, Note.pv]) (by simp) ?_
  refine DV.exec 400 ?_
  by_cases hok : pairsOk l
  · by_cases hn : n.ok
    · by_cases h1 : seq < 1
      · have hv := hbad fun h => by omega
        simp (config := {contextual := true}) only [go_sem, ↓reduceIte, reduceCtorEq, Bool.false_eq_true, Bool.true_eq_false, Nat.reduceAdd, Nat.reduceLT, Nat.reduceEqDiff, Nat.reduceLeDiff, Nat.reduceSub, Nat.reduceMul, hok, hn, h1, hv, Change.zero, Change.pv, decide_false, decide_true]
        kernel_rfl
      · by_cases h2 : 2147483647 < seq
        · have hv := hbad fun h => by omega
          simp (config := {contextual := true}) only [go_sem, ↓reduceIte, reduceCtorEq, Bool.false_eq_true, Bool.true_eq_false, Nat.reduceAdd, Nat.reduceLT, Nat.reduceEqDiff, Nat.reduceLeDiff, Nat.reduceSub, Nat.reduceMul, hok, hn, h1, h2, hv, Change.zero, Change.pv, decide_false, decide_true]
          kernel_rfl
        · have hs := ((pairsOk_iff l).1 hok).1
          have hv : ofV l seq n = madeV seq n.key (getV l n.key) (doneV (getV l n.key).1 (getV l n.key).2 [n]) := by
            unfold ofV madeV; rw [if_pos ⟨hok, hn, by omega, by omega⟩]
          simp (config := {contextual := true}) only [go_sem, ↓reduceIte, reduceCtorEq, Bool.false_eq_true, Bool.true_eq_false, Nat.reduceAdd, Nat.reduceLT, Nat.reduceEqDiff, Nat.reduceLeDiff, Nat.reduceSub, Nat.reduceMul, hok, hn, h1, h2, decide_true]
          refine ⟨by kernel_rfl, ?_⟩
          cases hg : getL l n.key with
          | none =>
            have hgv : getV l n.key = ([], false) := by unfold getV; rw [if_pos hok, hg]
            have cf := ref10_Find l n.key hl
            rw [refFindP_neg hg] at cf
            have cd := ref09_Done [] false [n] (by simp)
            rw [hgv] at hv
            simp only at hv
            obtain ⟨dv, dh, hD⟩ : ∃ a b, doneV [] false [n] = (a, b) := ⟨_, _, rfl⟩
            rw [hD] at cd hv
            simp only at cd hv
            have hm1 : ¬ (0 : Int) ≤ -1 := by decide
            refine V.call rfl rfl (by simp [dOK]) ⟨30, [], by simp only [go_sem, ↓reduceIte, reduceCtorEq, Bool.false_eq_true, Bool.true_eq_false, Nat.reduceAdd, Nat.reduceLT, Nat.reduceEqDiff, Nat.reduceLeDiff, Nat.reduceSub, Nat.reduceMul], ⟨_, rfl, rfl, rfl⟩, .inl ⟨[.row (l.map Pair.pv), .str n.key], _, .inl (by simp only [go_sem, ↓reduceIte, reduceCtorEq, Bool.false_eq_true, Bool.true_eq_false, Nat.reduceAdd, Nat.reduceLT, Nat.reduceEqDiff, Nat.reduceLeDiff, Nat.reduceSub, Nat.reduceMul]), cf, .inl ⟨_, rfl, rfl, rfl, rfl⟩⟩⟩ ?_
            refine V.exec 400 ?_
            simp (config := {contextual := true}) only [go_sem, ↓reduceIte, reduceCtorEq, Bool.false_eq_true, Bool.true_eq_false, Nat.reduceAdd, Nat.reduceLT, Nat.reduceEqDiff, Nat.reduceLeDiff, Nat.reduceSub, Nat.reduceMul, hm1, Note.pv]
            refine V.call rfl rfl (by simp [dOK]) ⟨31, [], by simp only [go_sem, ↓reduceIte, reduceCtorEq, Bool.false_eq_true, Bool.true_eq_false, Nat.reduceAdd, Nat.reduceLT, Nat.reduceEqDiff, Nat.reduceLeDiff, Nat.reduceSub, Nat.reduceMul], ⟨_, rfl, rfl, rfl⟩, .inl ⟨[.str [], .bool (decide (false = true)), .row ([n].map Note.pv)], _, .inl (by simp only [go_sem, ↓reduceIte, reduceCtorEq, Bool.false_eq_true, Bool.true_eq_false, Nat.reduceAdd, Nat.reduceLT, Nat.reduceEqDiff, Nat.reduceLeDiff, Nat.reduceSub, Nat.reduceMul, Note.pv, List.map_cons, List.map_nil, decide_false]), cd, .inr (.inl ⟨_, rfl, rfl, rfl⟩)⟩⟩ ?_
            refine V.exec 400 ?_
            cases dh with
            | true =>
              have e : madeV seq n.key ([], false) (dv, true) = (⟨seq, n.key, false, [], true, dv⟩, 0) := rfl
              rw [hv, e]
              simp (config := {contextual := true}) only [go_sem, ↓reduceIte, reduceCtorEq, Bool.false_eq_true, Bool.true_eq_false, Nat.reduceAdd, Nat.reduceLT, Nat.reduceEqDiff, Nat.reduceLeDiff, Nat.reduceSub, Nat.reduceMul, decide_true, decide_false, Change.pv]
            | false =>
              have e : madeV seq n.key ([], false) (dv, false) = (Change.zero, 3) := rfl
              rw [hv, e]
              simp (config := {contextual := true}) only [go_sem, ↓reduceIte, reduceCtorEq, Bool.false_eq_true, Bool.true_eq_false, Nat.reduceAdd, Nat.reduceLT, Nat.reduceEqDiff, Nat.reduceLeDiff, Nat.reduceSub, Nat.reduceMul, decide_true, decide_false, Change.pv, Change.zero]
          | some p =>
            have hgv : getV l n.key = (p.value, true) := by unfold getV; rw [if_pos hok, hg]
            obtain ⟨i, hfi, hpi, hil⟩ := refFindP_some hs hg
            have cf := ref10_Find l n.key hl
            rw [hfi] at cf
            have cd := ref09_Done p.value true [n] (by simp)
            rw [hgv] at hv
            simp only at hv
            obtain ⟨dv, dh, hD⟩ : ∃ a b, doneV p.value true [n] = (a, b) := ⟨_, _, rfl⟩
            rw [hD] at cd hv
            simp only at cd hv
            have hil' : (i : Int) < (l.length : Int) := by omega
            refine V.call rfl rfl (by simp [dOK]) ⟨30, [], by simp only [go_sem, ↓reduceIte, reduceCtorEq, Bool.false_eq_true, Bool.true_eq_false, Nat.reduceAdd, Nat.reduceLT, Nat.reduceEqDiff, Nat.reduceLeDiff, Nat.reduceSub, Nat.reduceMul], ⟨_, rfl, rfl, rfl⟩, .inl ⟨[.row (l.map Pair.pv), .str n.key], _, .inl (by simp only [go_sem, ↓reduceIte, reduceCtorEq, Bool.false_eq_true, Bool.true_eq_false, Nat.reduceAdd, Nat.reduceLT, Nat.reduceEqDiff, Nat.reduceLeDiff, Nat.reduceSub, Nat.reduceMul]), cf, .inl ⟨_, rfl, rfl, rfl, rfl⟩⟩⟩ ?_
            refine V.exec 400 ?_
            simp (config := {contextual := true}) only [go_sem, ↓reduceIte, reduceCtorEq, Bool.false_eq_true, Bool.true_eq_false, Nat.reduceAdd, Nat.reduceLT, Nat.reduceEqDiff, Nat.reduceLeDiff, Nat.reduceSub, Nat.reduceMul, hpi, hil', Note.pv, Pair.pv]
            refine V.call rfl rfl (by simp [dOK]) ⟨31, [], by simp only [go_sem, ↓reduceIte, reduceCtorEq, Bool.false_eq_true, Bool.true_eq_false, Nat.reduceAdd, Nat.reduceLT, Nat.reduceEqDiff, Nat.reduceLeDiff, Nat.reduceSub, Nat.reduceMul], ⟨_, rfl, rfl, rfl⟩, .inl ⟨[.str p.value, .bool (decide (true = true)), .row ([n].map Note.pv)], _, .inl (by simp only [go_sem, ↓reduceIte, reduceCtorEq, Bool.false_eq_true, Bool.true_eq_false, Nat.reduceAdd, Nat.reduceLT, Nat.reduceEqDiff, Nat.reduceLeDiff, Nat.reduceSub, Nat.reduceMul, Note.pv, List.map_cons, List.map_nil, decide_true]), cd, .inr (.inl ⟨_, rfl, rfl, rfl⟩)⟩⟩ ?_
            refine V.exec 400 ?_
            have e : madeV seq n.key (p.value, true) (dv, dh) = (⟨seq, n.key, true, p.value, dh, dv⟩, 0) := rfl
            rw [hv, e]
            simp (config := {contextual := true}) only [go_sem, ↓reduceIte, reduceCtorEq, Bool.false_eq_true, Bool.true_eq_false, Nat.reduceAdd, Nat.reduceLT, Nat.reduceEqDiff, Nat.reduceLeDiff, Nat.reduceSub, Nat.reduceMul, decide_true, decide_false, Change.pv]
    · have hv := hbad fun h => hn h.2.1
      simp (config := {contextual := true}) only [go_sem, ↓reduceIte, reduceCtorEq, Bool.false_eq_true, Bool.true_eq_false, Nat.reduceAdd, Nat.reduceLT, Nat.reduceEqDiff, Nat.reduceLeDiff, Nat.reduceSub, Nat.reduceMul, hok, hn, hv, Change.zero, Change.pv, decide_false, decide_true]
      kernel_rfl
  · have hv := hbad fun h => hok h.1
    simp (config := {contextual := true}) only [go_sem, ↓reduceIte, reduceCtorEq, Bool.false_eq_true, Bool.true_eq_false, Nat.reduceAdd, Nat.reduceLT, Nat.reduceEqDiff, Nat.reduceLeDiff, Nat.reduceSub, Nat.reduceMul, hok, hv, Change.zero, Change.pv, decide_false]
    kernel_rfl
end Go.Proofs.Ytmdjkbhbpddjnaa
set_option linter.unusedVariables false
set_option linter.unusedSimpArgs false
namespace Go.Proofs.Ytmdjkbhbpddjnaa
open Go Go.Proofs Go.Proofs.YtmdjkbhbpddjnaaVm Go.Proofs.Ytmdjkbhbpddjnaa.Ty

def turnC (c : Change) : Change := ⟨c.seq, c.key, c.has, c.aft, c.had, c.bef⟩

set_option maxHeartbeats 4000000 in
theorem change_turned (c : Change) : Ct Try.prog 40 (YtmdjkbhbpddjnaaVm.ops [c.pv]) (.vals [(turnC c).pv]) := by
  refine Ct.of_V Try.func40 rfl (by simp [YtmdjkbhbpddjnaaVm.ops, Try.f40]) ?_
  refine V.exec 400 ?_
  simp (config := {contextual := true}) only [go_sem, ↓reduceIte, reduceCtorEq, Bool.false_eq_true, Bool.true_eq_false, Nat.reduceAdd, Nat.reduceLT, Nat.reduceEqDiff, Nat.reduceLeDiff, Nat.reduceSub, Nat.reduceMul, Try.f40, Change.pv, turnC]
  rfl

theorem change_behind (c : Change) : Ct Try.prog 33 (YtmdjkbhbpddjnaaVm.ops [c.pv]) (.vals [sideV (c.aft, c.has)]) := by
  refine Ct.of_V Try.func33 rfl (by simp [YtmdjkbhbpddjnaaVm.ops, Try.f33]) ?_
  refine V.exec 400 ?_
  simp (config := {contextual := true}) only [go_sem, ↓reduceIte, reduceCtorEq, Bool.false_eq_true, Bool.true_eq_false, Nat.reduceAdd, Nat.reduceLT, Nat.reduceEqDiff, Nat.reduceLeDiff, Nat.reduceSub, Nat.reduceMul, Try.f33, Change.pv, sideV]

theorem Backward (xs : List PV) : Ct Try.prog 39 (YtmdjkbhbpddjnaaVm.ops [.row xs]) (.vals [.fn 50 [.ptr (.row xs)]]) := by
  refine Ct.of_V Try.func39 rfl (by simp [YtmdjkbhbpddjnaaVm.ops, Try.f39]) ?_
  refine V.exec 400 ?_
  simp (config := {contextual := true}) only [go_sem, ↓reduceIte, reduceCtorEq, Bool.false_eq_true, Bool.true_eq_false, Nat.reduceAdd, Nat.reduceLT, Nat.reduceEqDiff, Nat.reduceLeDiff, Nat.reduceSub, Nat.reduceMul, Try.f39]

def undoV (l : List Pair) (cs : List Change) : List Pair × Int := doV l (cs.reverse.map turnC)

/-- What has been put behind, when k rounds are over. -/
def backs (cs : List Change) (k : Nat) : List Change := (cs.reverse.take k).map turnC
theorem backs_succ (cs : List Change) (k : Nat) {x : Change} (h : cs[cs.length - 1 - k]? = some x) (hk : k < cs.length) : backs cs (k + 1) = backs cs k ++ [turnC x] := by
  unfold backs
  have : cs.reverse[k]? = some x := by rw [List.getElem?_reverse hk]; exact h
  rw [List.take_add_one, this]; simp
theorem backs_all (cs : List Change) : backs cs cs.length = cs.reverse.map turnC := by unfold backs; rw [List.take_of_length_le (by simp)]

theorem backs_zero (cs : List Change) : backs cs 0 = [] := rfl

def undoOs (cs : List Change) (k : Nat) : List Ob := [.box false [.ref 1], .row 27 ((backs cs k).map Change.pv)]

set_option maxRecDepth 10000 in
set_option maxHeartbeats 16000000 in
theorem change_Undo (l : List Pair) (cs : List Change) (hl : l.length ≤ 200000) (hn : cs.length ≤ 200000) : Ct Try.prog 18 (YtmdjkbhbpddjnaaVm.ops [.row (l.map Pair.pv), .row (cs.map Change.pv)]) (.vals [.row ((undoV l cs).1.map Pair.pv), .int .i64 (undoV l cs).2]) := by
  refine Ct.of_V Try.func18 rfl (by simp [YtmdjkbhbpddjnaaVm.ops, Try.f18]) ?_
  refine V.exec 400 ?_
  simp (config := {contextual := true}) only [go_sem, ↓reduceIte, reduceCtorEq, Bool.false_eq_true, Bool.true_eq_false, Nat.reduceAdd, Nat.reduceLT, Nat.reduceEqDiff, Nat.reduceLeDiff, Nat.reduceSub, Nat.reduceMul, Try.f18]
  refine V.call rfl rfl (by simp [dOK]) ⟨39, [], by simp only [go_sem, ↓reduceIte, reduceCtorEq, Bool.false_eq_true, Bool.true_eq_false, Nat.reduceAdd, Nat.reduceLT, Nat.reduceEqDiff, Nat.reduceLeDiff, Nat.reduceSub, Nat.reduceMul], ⟨_, rfl, rfl, rfl⟩, .inl ⟨[.row (cs.map Change.pv)], _, .inl (by simp only [go_sem, ↓reduceIte, reduceCtorEq, Bool.false_eq_true, Bool.true_eq_false, Nat.reduceAdd, Nat.reduceLT, Nat.reduceEqDiff, Nat.reduceLeDiff, Nat.reduceSub, Nat.reduceMul]), Backward (cs.map Change.pv), .inr (.inl ⟨_, rfl, rfl, rfl⟩)⟩⟩ ?_
  refine V.exec 400 ?_
  simp (config := {contextual := true}) only [go_sem, ↓reduceIte, reduceCtorEq, Bool.false_eq_true, Bool.true_eq_false, Nat.reduceAdd, Nat.reduceLT, Nat.reduceEqDiff, Nat.reduceLeDiff, Nat.reduceSub, Nat.reduceMul]
  refine V.cut 0 [(0, .val (.row (l.map Pair.pv))), (6, .adr 0 0), (10, .val (.fn 50 [.ptr (.row (cs.map Change.pv))]))] (undoOs cs 0) [some 4, none] (by simp only [go_sem, ↓reduceIte, reduceCtorEq, Bool.false_eq_true, Bool.true_eq_false, Nat.reduceAdd, Nat.reduceLT, Nat.reduceEqDiff, Nat.reduceLeDiff, Nat.reduceSub, Nat.reduceMul, undoOs, backs_zero, List.map_nil]; exact ⟨_, rfl, by decide⟩) ?_
  refine V.sem _ (SemCode.rangeL (x0 := .ptr (.row (cs.map Change.pv))) (fun i => i = 0) (fun ob => ob = (litSt [] (undoOs cs cs.length) 0).ob) (by simp only [go_sem, ↓reduceIte, reduceCtorEq, Bool.false_eq_true, Bool.true_eq_false, Nat.reduceAdd, Nat.reduceLT, Nat.reduceEqDiff, Nat.reduceLeDiff, Nat.reduceSub, Nat.reduceMul]) ⟨_, rfl, rfl, rfl⟩ Try.func50 rfl rfl (by simp [Try.f50]) (by decide) (by decide) ?_ ?_ 0 ?_) ?_
  · intro x hx i hi
    simp only [List.mem_cons, List.not_mem_nil, or_false] at hx
    rcases hx with rfl | rfl | rfl
    · exact hi.elim
    · exact hi.symm
    · exact hi.elim
  · rintro i rfl
    simp [litSt, undoOs]
  · intro rl rec md h1 h2 h3 h4 h5 h6 h7 h8 hYK
    refine V.exec 400 ?_
    have hw0 : IntKind.i64.wrap ((cs.length : Int) - 1) = (cs.length : Int) - 1 := by rw [wrap_small3] <;> omega
    simp (config := {contextual := true}) only [go_sem, ↓reduceIte, reduceCtorEq, Bool.false_eq_true, Bool.true_eq_false, Nat.reduceAdd, Nat.reduceLT, Nat.reduceEqDiff, Nat.reduceLeDiff, Nat.reduceSub, Nat.reduceMul, Try.f50, exec_retg, h8, hw0]
    refine V.lp (fun m σ => ∃ k, k ≤ cs.length ∧ m = cs.length - k ∧ σ.sl 0 = .val (.yld rl) ∧ σ.sl 1 = .val (.ptr (.row (cs.map Change.pv))) ∧ σ.sl 3 = .val (.int .i64 ((cs.length : Int) - 1 - k)) ∧ σ.ob = (litSt [] (undoOs cs k) 0).ob) cs.length ⟨0, Nat.zero_le _, rfl, by simp only [go_sem, ↓reduceIte, reduceCtorEq, Bool.false_eq_true, Bool.true_eq_false, Nat.reduceAdd, Nat.reduceLT, Nat.reduceEqDiff, Nat.reduceLeDiff, Nat.reduceSub, Nat.reduceMul], by simp only [go_sem, ↓reduceIte, reduceCtorEq, Bool.false_eq_true, Bool.true_eq_false, Nat.reduceAdd, Nat.reduceLT, Nat.reduceEqDiff, Nat.reduceLeDiff, Nat.reduceSub, Nat.reduceMul], by simp only [go_sem, ↓reduceIte, reduceCtorEq, Bool.false_eq_true, Bool.true_eq_false, Nat.reduceAdd, Nat.reduceLT, Nat.reduceEqDiff, Nat.reduceLeDiff, Nat.reduceSub, Nat.reduceMul, Int.sub_zero, Int.natCast_zero], rfl⟩ ?_
    rintro m σ ⟨k, hk, rfl, s0, s1, s3, so⟩
    refine V.exec 400 ?_
    by_cases hlt : k < cs.length
    · have hge : (0 : Int) ≤ (cs.length : Int) - 1 - k := by omega
      have hnat : ((cs.length : Int) - 1 - k).toNat = cs.length - 1 - k := by omega
      obtain ⟨x, hx⟩ : ∃ x, cs[cs.length - 1 - k]? = some x := ⟨_, List.getElem?_eq_getElem (by omega)⟩
      have hbs : (backs cs (k + 1)).map Change.pv = (backs cs k).map Change.pv ++ [(turnC x).pv] := by rw [backs_succ cs k hx hlt]; simp
      have hround : V .rnd Try.prog 23 (fun _ => False) [.code rec.assign, .stop (fun τ1 => V .rnd Try.prog 23 (fun τ => τ.ob 0 = .box false [.ref 106] ∧ τ.ob 106 = .row 27 ((backs cs (k + 1)).map Change.pv)) [.code rec.body] τ1)]
          (roundSt (litSt [(0, .val (.row (l.map Pair.pv))), (6, .adr 0 0), (10, .val (.fn 50 [.ptr (.row (cs.map Change.pv))]))] (undoOs cs 0) 0) 11 12 (.int .i64 ((cs.length : Int) - 1 - k)) x.pv σ.ob 100) := by
        rw [roundSt_lit _ _ _ _ _ _ _ _ (undoOs cs k) so, h5, h6]
        refine V.exec 400 ?_
        simp (config := {contextual := true}) only [go_sem, ↓reduceIte, reduceCtorEq, Bool.false_eq_true, Bool.true_eq_false, Nat.reduceAdd, Nat.reduceLT, Nat.reduceEqDiff, Nat.reduceLeDiff, Nat.reduceSub, Nat.reduceMul, undoOs, Change.pv]
        refine V.exec 400 ?_
        simp (config := {contextual := true}) only [go_sem, ↓reduceIte, reduceCtorEq, Bool.false_eq_true, Bool.true_eq_false, Nat.reduceAdd, Nat.reduceLT, Nat.reduceEqDiff, Nat.reduceLeDiff, Nat.reduceSub, Nat.reduceMul, Change.pv]
        refine DV.call [] [] (by simp only [go_sem, ↓reduceIte, reduceCtorEq, Bool.false_eq_true, Bool.true_eq_false, Nat.reduceAdd, Nat.reduceLT, Nat.reduceEqDiff, Nat.reduceLeDiff, Nat.reduceSub, Nat.reduceMul, Change.pv]) (by simp [dOK]) ⟨40, [], by simp only [go_sem, ↓reduceIte, reduceCtorEq, Bool.false_eq_true, Bool.true_eq_false, Nat.reduceAdd, Nat.reduceLT, Nat.reduceEqDiff, Nat.reduceLeDiff, Nat.reduceSub, Nat.reduceMul, Change.pv], ⟨_, rfl, rfl, rfl⟩, .inl ⟨[x.pv], _, .inl (by simp only [go_sem, ↓reduceIte, reduceCtorEq, Bool.false_eq_true, Bool.true_eq_false, Nat.reduceAdd, Nat.reduceLT, Nat.reduceEqDiff, Nat.reduceLeDiff, Nat.reduceSub, Nat.reduceMul, Change.pv]), change_turned x, .inr (.inl ⟨_, rfl, rfl, rfl⟩)⟩⟩ (by simp only [go_sem, ↓reduceIte, reduceCtorEq, Bool.false_eq_true, Bool.true_eq_false, Nat.reduceAdd, Nat.reduceLT, Nat.reduceEqDiff, Nat.reduceLeDiff, Nat.reduceSub, Nat.reduceMul, Change.pv]) (by simp only [go_sem, ↓reduceIte, reduceCtorEq, Bool.false_eq_true, Bool.true_eq_false, Nat.reduceAdd, Nat.reduceLT, Nat.reduceEqDiff, Nat.reduceLeDiff, Nat.reduceSub, Nat.reduceMul, Change.pv]) (by simp only [go_sem, ↓reduceIte, reduceCtorEq, Bool.false_eq_true, Bool.true_eq_false, Nat.reduceAdd, Nat.reduceLT, Nat.reduceEqDiff, Nat.reduceLeDiff, Nat.reduceSub, Nat.reduceMul, Change.pv]) (by simp) ?_
        refine DV.exec 400 ?_
        simp (config := {contextual := true}) only [go_sem, ↓reduceIte, reduceCtorEq, Bool.false_eq_true, Bool.true_eq_false, Nat.reduceAdd, Nat.reduceLT, Nat.reduceEqDiff, Nat.reduceLeDiff, Nat.reduceSub, Nat.reduceMul, Change.pv, turnC, hbs]
        have hbl : (backs cs k).length ≤ 200000 := by unfold backs; simp; omega
        exact ⟨⟨by omega, by omega⟩, by kernel_rfl⟩
      have hw1 : IntKind.i64.wrap ((cs.length : Int) - 1 - k - 1) = (cs.length : Int) - 1 - ((k + 1 : Nat) : Int) := by rw [wrap_small3] <;> omega
      simp (config := {contextual := true}) only [go_sem, ↓reduceIte, reduceCtorEq, Bool.false_eq_true, Bool.true_eq_false, Nat.reduceAdd, Nat.reduceLT, Nat.reduceEqDiff, Nat.reduceLeDiff, Nat.reduceSub, Nat.reduceMul, s0, s1, s3, hge, hnat, hx, Change.pv]
      simp only [Change.pv] at hround
      refine V.sop (J := fun σ' => V md _ _ _ _ σ') (SemOp.yield hYK h1 h2 h3 h4 (by decide) (by decide) rfl rfl (by simp only [go_sem, ↓reduceIte, reduceCtorEq, Bool.false_eq_true, Bool.true_eq_false, Nat.reduceAdd, Nat.reduceLT, Nat.reduceEqDiff, Nat.reduceLeDiff, Nat.reduceSub, Nat.reduceMul]) (by simp only [go_sem, ↓reduceIte, reduceCtorEq, Bool.false_eq_true, Bool.true_eq_false, Nat.reduceAdd, Nat.reduceLT, Nat.reduceEqDiff, Nat.reduceLeDiff, Nat.reduceSub, Nat.reduceMul]) (by simp only [go_sem, ↓reduceIte, reduceCtorEq, Bool.false_eq_true, Bool.true_eq_false, Nat.reduceAdd, Nat.reduceLT, Nat.reduceEqDiff, Nat.reduceLeDiff, Nat.reduceSub, Nat.reduceMul]) (by simp [dOK]) 100 hround (fun _ h => h) 0 ?_) (fun _ h => h)
      rintro ⟨sl2, ob2, ck2⟩ ⟨o1, o2⟩
      have o1 : ob2 0 = _ := o1
      have o2 : ob2 106 = _ := o2
      refine ⟨[(0, .val (.yld rl)), (1, .val (.ptr (.row (cs.map Change.pv)))), (3, .val (.int .i64 ((cs.length : Int) - 1 - k))), (17, .val (.bool true))], undoOs cs (k + 1), [some 0, some 106], 0, ?_, ?_, ?_⟩
      · simp only [go_sem, ↓reduceIte, reduceCtorEq, Bool.false_eq_true, Bool.true_eq_false, Nat.reduceAdd, Nat.reduceLT, Nat.reduceEqDiff, Nat.reduceLeDiff, Nat.reduceSub, Nat.reduceMul, s0, s1, s3, o1, o2, undoOs]
        decide
      · rintro i rfl; rfl
      · refine V.exec 400 ?_
        simp (config := {contextual := true}) only [go_sem, ↓reduceIte, reduceCtorEq, Bool.false_eq_true, Bool.true_eq_false, Nat.reduceAdd, Nat.reduceLT, Nat.reduceEqDiff, Nat.reduceLeDiff, Nat.reduceSub, Nat.reduceMul, hw1]
        exact ⟨cs.length - (k + 1), by omega, k + 1, by omega, rfl, rfl, rfl⟩
    · have hge : ¬ (0 : Int) ≤ (cs.length : Int) - 1 - k := by omega
      obtain rfl : k = cs.length := by omega
      simp (config := {contextual := true}) only [go_sem, ↓reduceIte, reduceCtorEq, Bool.false_eq_true, Bool.true_eq_false, Nat.reduceAdd, Nat.reduceLT, Nat.reduceEqDiff, Nat.reduceLeDiff, Nat.reduceSub, Nat.reduceMul, s0, s1, s3, hge]
      exact so
  · rintro ⟨sl, ob, ck⟩ ⟨hs, ho⟩
    have hs : sl = _ := hs
    have ho : ob = _ := ho
    subst hs ho
    show V _ _ _ _ _ (litSt [(0, .val (.row (l.map Pair.pv))), (6, .adr 0 0), (10, .val (.fn 50 [.ptr (.row (cs.map Change.pv))]))] (undoOs cs cs.length) ck)
    refine V.cut 10 [(0, .val (.row (l.map Pair.pv))), (6, .adr 0 0)] [.box false [.ref 1], .row 27 ((cs.reverse.map turnC).map Change.pv)] [some 0, some 1] (by simp only [go_sem, ↓reduceIte, reduceCtorEq, Bool.false_eq_true, Bool.true_eq_false, Nat.reduceAdd, Nat.reduceLT, Nat.reduceEqDiff, Nat.reduceLeDiff, Nat.reduceSub, Nat.reduceMul, undoOs, backs_all]; decide) ?_
    refine V.exec 400 ?_
    simp (config := {contextual := true}) only [go_sem, ↓reduceIte, reduceCtorEq, Bool.false_eq_true, Bool.true_eq_false, Nat.reduceAdd, Nat.reduceLT, Nat.reduceEqDiff, Nat.reduceLeDiff, Nat.reduceSub, Nat.reduceMul]
    refine V.call rfl rfl (by simp [dOK]) ⟨16, [], by simp only [go_sem, ↓reduceIte, reduceCtorEq, Bool.false_eq_true, Bool.true_eq_false, Nat.reduceAdd, Nat.reduceLT, Nat.reduceEqDiff, Nat.reduceLeDiff, Nat.reduceSub, Nat.reduceMul], ⟨_, rfl, rfl, rfl⟩, .inl ⟨[.row (l.map Pair.pv), .row ((cs.reverse.map turnC).map Change.pv)], _, .inl (by simp only [go_sem, ↓reduceIte, reduceCtorEq, Bool.false_eq_true, Bool.true_eq_false, Nat.reduceAdd, Nat.reduceLT, Nat.reduceEqDiff, Nat.reduceLeDiff, Nat.reduceSub, Nat.reduceMul]), change_Do l (cs.reverse.map turnC) hl (by simpa using hn), .inr (.inl ⟨_, rfl, rfl, rfl⟩)⟩⟩ ?_
    refine V.exec 400 ?_
    simp (config := {contextual := true}) only [go_sem, ↓reduceIte, reduceCtorEq, Bool.false_eq_true, Bool.true_eq_false, Nat.reduceAdd, Nat.reduceLT, Nat.reduceEqDiff, Nat.reduceLeDiff, Nat.reduceSub, Nat.reduceMul, undoV]
end Go.Proofs.Ytmdjkbhbpddjnaa
set_option linter.unusedVariables false
set_option linter.unusedSimpArgs false
namespace Go.Proofs.Ytmdjkbhbpddjnaa
open Go Go.Proofs Go.Proofs.YtmdjkbhbpddjnaaVm Go.Proofs.Ytmdjkbhbpddjnaa.Ty

def joinOk (a b : Change) : Prop := a.ok ∧ b.ok ∧ a.key = b.key ∧ a.seq < b.seq ∧ a.aft = b.bef ∧ a.has = b.had
instance instJoinOk (a b : Change) : Decidable (joinOk a b) := by unfold joinOk; infer_instance
def joinV (a b : Change) : Change × Int := if joinOk a b then madeV b.seq b.key (a.bef, a.had) (b.aft, b.has) else (Change.zero, 1)

set_option maxRecDepth 10000 in
set_option maxHeartbeats 16000000 in
theorem change_Join (a b : Change) : Ct Try.prog 14 (YtmdjkbhbpddjnaaVm.ops [a.pv, b.pv]) (.vals [(joinV a b).1.pv, .int .i64 (joinV a b).2]) := by
  have hbad : ¬ joinOk a b → joinV a b = (Change.zero, 1) := fun h => by unfold joinV; rw [if_neg h]
  have cm := change_made b.seq b.key (a.bef, a.had) (b.aft, b.has)
  refine Ct.of_V Try.func14 rfl (by simp [YtmdjkbhbpddjnaaVm.ops, Try.f14]) ?_
  refine V.exec 400 ?_
  simp (config := {contextual := true}) only [go_sem, ↓reduceIte, reduceCtorEq, Bool.false_eq_true, Bool.true_eq_false, Nat.reduceAdd, Nat.reduceLT, Nat.reduceEqDiff, Nat.reduceLeDiff, Nat.reduceSub, Nat.reduceMul, Try.f14, Change.pv]
  refine DV.call [] [] (by simp only [go_sem, ↓reduceIte, reduceCtorEq, Bool.false_eq_true, Bool.true_eq_false, Nat.reduceAdd, Nat.reduceLT, Nat.reduceEqDiff, Nat.reduceLeDiff, Nat.reduceSub, Nat.reduceMul, Change.pv]) (by simp [dOK]) ⟨32, [], by simp only [go_sem, ↓reduceIte, reduceCtorEq, Bool.false_eq_true, Bool.true_eq_false, Nat.reduceAdd, Nat.reduceLT, Nat.reduceEqDiff, Nat.reduceLeDiff, Nat.reduceSub, Nat.reduceMul, Change.pv], ⟨_, rfl, rfl, rfl⟩, .inl ⟨[a.pv], _, .inl (by simp only [go_sem, ↓reduceIte, reduceCtorEq, Bool.false_eq_true, Bool.true_eq_false, Nat.reduceAdd, Nat.reduceLT, Nat.reduceEqDiff, Nat.reduceLeDiff, Nat.reduceSub, Nat.reduceMul, Change.pv]), flat_May a, .inl ⟨_, rfl, rfl, rfl, rfl⟩⟩⟩ (by simp only [go_sem, ↓reduceIte, reduceCtorEq, Bool.false_eq_true, Bool.true_eq_false, Nat.reduceAdd, Nat.reduceLT, Nat.reduceEqDiff, Nat.reduceLeDiff, Nat.reduceSub, Nat.reduceMul, Change.pv]) (by simp only [go_sem, ↓reduceIte, reduceCtorEq, Bool.false_eq_true, Bool.true_eq_false, Nat.reduceAdd, Nat.reduceLT, Nat.reduceEqDiff, Nat.reduceLeDiff, Nat.reduceSub, Nat.reduceMul, Change.pv]) (by simp only [go_sem, ↓reduceIte, reduceCtorEq, Bool.false_eq_true, Bool.true_eq_false, Nat.reduceAdd, Nat.reduceLT, Nat.reduceEqDiff, Nat.reduceLeDiff, Nat.reduceSub, Nat.reduceMul, Change.pv]) (by simp) ?_
  refine DV.exec 400 ?_
  by_cases h1 : a.ok
  · simp (config := {contextual := true}) only [go_sem, ↓reduceIte, reduceCtorEq, Bool.false_eq_true, Bool.true_eq_false, Nat.reduceAdd, Nat.reduceLT, Nat.reduceEqDiff, Nat.reduceLeDiff, Nat.reduceSub, Nat.reduceMul, h1, Change.pv]
    refine DV.call [] [] (by simp only [go_sem, ↓reduceIte, reduceCtorEq, Bool.false_eq_true, Bool.true_eq_false, Nat.reduceAdd, Nat.reduceLT, Nat.reduceEqDiff, Nat.reduceLeDiff, Nat.reduceSub, Nat.reduceMul, Change.pv]) (by simp [dOK]) ⟨32, [], by simp only [go_sem, ↓reduceIte, reduceCtorEq, Bool.false_eq_true, Bool.true_eq_false, Nat.reduceAdd, Nat.reduceLT, Nat.reduceEqDiff, Nat.reduceLeDiff, Nat.reduceSub, Nat.reduceMul, Change.pv], ⟨_, rfl, rfl, rfl⟩, .inl ⟨[b.pv], _, .inl (by simp only [go_sem, ↓reduceIte, reduceCtorEq, Bool.false_eq_true, Bool.true_eq_false, Nat.reduceAdd, Nat.reduceLT, Nat.reduceEqDiff, Nat.reduceLeDiff, Nat.reduceSub, Nat.reduceMul, Change.pv]), flat_May b, .inl ⟨_, rfl, rfl, rfl, rfl⟩⟩⟩ (by simp only [go_sem, ↓reduceIte, reduceCtorEq, Bool.false_eq_true, Bool.true_eq_false, Nat.reduceAdd, Nat.reduceLT, Nat.reduceEqDiff, Nat.reduceLeDiff, Nat.reduceSub, Nat.reduceMul, Change.pv]) (by simp only [go_sem, ↓reduceIte, reduceCtorEq, Bool.false_eq_true, Bool.true_eq_false, Nat.reduceAdd, Nat.reduceLT, Nat.reduceEqDiff, Nat.reduceLeDiff, Nat.reduceSub, Nat.reduceMul, Change.pv]) (by simp only [go_sem, ↓reduceIte, reduceCtorEq, Bool.false_eq_true, Bool.true_eq_false, Nat.reduceAdd, Nat.reduceLT, Nat.reduceEqDiff, Nat.reduceLeDiff, Nat.reduceSub, Nat.reduceMul, Change.pv]) (by simp) ?_
    refine DV.exec 400 ?_
    by_cases h2 : b.ok
    · by_cases h3 : a.key = b.key
      · by_cases h4 : b.seq ≤ a.seq
        · have hv := hbad fun h => by have := h.2.2.2.1; omega
          simp (config := {contextual := true}) only [go_sem, ↓reduceIte, reduceCtorEq, Bool.false_eq_true, Bool.true_eq_false, Nat.reduceAdd, Nat.reduceLT, Nat.reduceEqDiff, Nat.reduceLeDiff, Nat.reduceSub, Nat.reduceMul, h1, h2, h3, h4, hv, Change.zero, Change.pv, decide_false]
          kernel_rfl
        · simp (config := {contextual := true}) only [go_sem, ↓reduceIte, reduceCtorEq, Bool.false_eq_true, Bool.true_eq_false, Nat.reduceAdd, Nat.reduceLT, Nat.reduceEqDiff, Nat.reduceLeDiff, Nat.reduceSub, Nat.reduceMul, h1, h2, h3, h4, Change.pv]
          refine DV.call [] [] (by simp only [go_sem, ↓reduceIte, reduceCtorEq, Bool.false_eq_true, Bool.true_eq_false, Nat.reduceAdd, Nat.reduceLT, Nat.reduceEqDiff, Nat.reduceLeDiff, Nat.reduceSub, Nat.reduceMul, sideV, Change.pv, h3]) (by simp [dOK]) ⟨33, [], by simp only [go_sem, ↓reduceIte, reduceCtorEq, Bool.false_eq_true, Bool.true_eq_false, Nat.reduceAdd, Nat.reduceLT, Nat.reduceEqDiff, Nat.reduceLeDiff, Nat.reduceSub, Nat.reduceMul, sideV, Change.pv, h3], ⟨_, rfl, rfl, rfl⟩, .inl ⟨[a.pv], _, .inl (by simp only [go_sem, ↓reduceIte, reduceCtorEq, Bool.false_eq_true, Bool.true_eq_false, Nat.reduceAdd, Nat.reduceLT, Nat.reduceEqDiff, Nat.reduceLeDiff, Nat.reduceSub, Nat.reduceMul, sideV, Change.pv, h3]), change_behind a, .inr (.inl ⟨_, rfl, rfl, rfl⟩)⟩⟩ (by simp only [go_sem, ↓reduceIte, reduceCtorEq, Bool.false_eq_true, Bool.true_eq_false, Nat.reduceAdd, Nat.reduceLT, Nat.reduceEqDiff, Nat.reduceLeDiff, Nat.reduceSub, Nat.reduceMul, sideV, Change.pv, h3]) (by simp only [go_sem, ↓reduceIte, reduceCtorEq, Bool.false_eq_true, Bool.true_eq_false, Nat.reduceAdd, Nat.reduceLT, Nat.reduceEqDiff, Nat.reduceLeDiff, Nat.reduceSub, Nat.reduceMul, sideV, Change.pv, h3]) (by simp only [go_sem, ↓reduceIte, reduceCtorEq, Bool.false_eq_true, Bool.true_eq_false, Nat.reduceAdd, Nat.reduceLT, Nat.reduceEqDiff, Nat.reduceLeDiff, Nat.reduceSub, Nat.reduceMul, sideV, Change.pv, h3]) (by simp) ?_
          refine DV.exec 400 ?_
          simp (config := {contextual := true}) only [go_sem, ↓reduceIte, reduceCtorEq, Bool.false_eq_true, Bool.true_eq_false, Nat.reduceAdd, Nat.reduceLT, Nat.reduceEqDiff, Nat.reduceLeDiff, Nat.reduceSub, Nat.reduceMul, h1, h2, h3, h4, Change.pv]
          refine DV.call [] [] (by simp only [go_sem, ↓reduceIte, reduceCtorEq, Bool.false_eq_true, Bool.true_eq_false, Nat.reduceAdd, Nat.reduceLT, Nat.reduceEqDiff, Nat.reduceLeDiff, Nat.reduceSub, Nat.reduceMul, sideV, Change.pv]) (by simp [dOK]) ⟨34, [], by simp only [go_sem, ↓reduceIte, reduceCtorEq, Bool.false_eq_true, Bool.true_eq_false, Nat.reduceAdd, Nat.reduceLT, Nat.reduceEqDiff, Nat.reduceLeDiff, Nat.reduceSub, Nat.reduceMul, sideV, Change.pv], ⟨_, rfl, rfl, rfl⟩, .inl ⟨[b.pv], _, .inl (by simp only [go_sem, ↓reduceIte, reduceCtorEq, Bool.false_eq_true, Bool.true_eq_false, Nat.reduceAdd, Nat.reduceLT, Nat.reduceEqDiff, Nat.reduceLeDiff, Nat.reduceSub, Nat.reduceMul, sideV, Change.pv]), change_ahead b, .inr (.inl ⟨_, rfl, rfl, rfl⟩)⟩⟩ (by simp only [go_sem, ↓reduceIte, reduceCtorEq, Bool.false_eq_true, Bool.true_eq_false, Nat.reduceAdd, Nat.reduceLT, Nat.reduceEqDiff, Nat.reduceLeDiff, Nat.reduceSub, Nat.reduceMul, sideV, Change.pv]) (by simp only [go_sem, ↓reduceIte, reduceCtorEq, Bool.false_eq_true, Bool.true_eq_false, Nat.reduceAdd, Nat.reduceLT, Nat.reduceEqDiff, Nat.reduceLeDiff, Nat.reduceSub, Nat.reduceMul, sideV, Change.pv]) (by simp only [go_sem, ↓reduceIte, reduceCtorEq, Bool.false_eq_true, Bool.true_eq_false, Nat.reduceAdd, Nat.reduceLT, Nat.reduceEqDiff, Nat.reduceLeDiff, Nat.reduceSub, Nat.reduceMul, sideV, Change.pv]) (by simp) ?_
          refine DV.exec 400 ?_
          by_cases h5 : a.aft = b.bef ∧ a.has = b.had
          · have hv : joinV a b = madeV b.seq b.key (a.bef, a.had) (b.aft, b.has) := by unfold joinV; rw [if_pos ⟨h1, h2, h3, by omega, h5.1, h5.2⟩]
            rw [hv]
            generalize madeV b.seq b.key (a.bef, a.had) (b.aft, b.has) = M at *
            simp (config := {contextual := true}) only [go_sem, ↓reduceIte, reduceCtorEq, Bool.false_eq_true, Bool.true_eq_false, Nat.reduceAdd, Nat.reduceLT, Nat.reduceEqDiff, Nat.reduceLeDiff, Nat.reduceSub, Nat.reduceMul, h1, h2, h3, h4, Change.pv, sideV, eqSide, side_inj, h5]
            refine ⟨by kernel_rfl, ?_⟩
            refine DV.call [] [] (by simp only [go_sem, ↓reduceIte, reduceCtorEq, Bool.false_eq_true, Bool.true_eq_false, Nat.reduceAdd, Nat.reduceLT, Nat.reduceEqDiff, Nat.reduceLeDiff, Nat.reduceSub, Nat.reduceMul, sideV, Change.pv, h3, h5]) (by simp [dOK]) ⟨34, [], by simp only [go_sem, ↓reduceIte, reduceCtorEq, Bool.false_eq_true, Bool.true_eq_false, Nat.reduceAdd, Nat.reduceLT, Nat.reduceEqDiff, Nat.reduceLeDiff, Nat.reduceSub, Nat.reduceMul, sideV, Change.pv, h3, h5], ⟨_, rfl, rfl, rfl⟩, .inl ⟨[a.pv], _, .inl (by simp only [go_sem, ↓reduceIte, reduceCtorEq, Bool.false_eq_true, Bool.true_eq_false, Nat.reduceAdd, Nat.reduceLT, Nat.reduceEqDiff, Nat.reduceLeDiff, Nat.reduceSub, Nat.reduceMul, sideV, Change.pv, h3, h5]), change_ahead a, .inr (.inl ⟨_, rfl, rfl, rfl⟩)⟩⟩ (by simp only [go_sem, ↓reduceIte, reduceCtorEq, Bool.false_eq_true, Bool.true_eq_false, Nat.reduceAdd, Nat.reduceLT, Nat.reduceEqDiff, Nat.reduceLeDiff, Nat.reduceSub, Nat.reduceMul, sideV, Change.pv, h3, h5]) (by simp only [go_sem, ↓reduceIte, reduceCtorEq, Bool.false_eq_true, Bool.true_eq_false, Nat.reduceAdd, Nat.reduceLT, Nat.reduceEqDiff, Nat.reduceLeDiff, Nat.reduceSub, Nat.reduceMul, sideV, Change.pv, h3, h5]) (by simp only [go_sem, ↓reduceIte, reduceCtorEq, Bool.false_eq_true, Bool.true_eq_false, Nat.reduceAdd, Nat.reduceLT, Nat.reduceEqDiff, Nat.reduceLeDiff, Nat.reduceSub, Nat.reduceMul, sideV, Change.pv, h3, h5]) (by simp) ?_
            refine DV.exec 400 ?_
            simp (config := {contextual := true}) only [go_sem, ↓reduceIte, reduceCtorEq, Bool.false_eq_true, Bool.true_eq_false, Nat.reduceAdd, Nat.reduceLT, Nat.reduceEqDiff, Nat.reduceLeDiff, Nat.reduceSub, Nat.reduceMul, sideV, Change.pv]
            refine DV.call [] [] (by simp only [go_sem, ↓reduceIte, reduceCtorEq, Bool.false_eq_true, Bool.true_eq_false, Nat.reduceAdd, Nat.reduceLT, Nat.reduceEqDiff, Nat.reduceLeDiff, Nat.reduceSub, Nat.reduceMul, sideV, Change.pv]) (by simp [dOK]) ⟨33, [], by simp only [go_sem, ↓reduceIte, reduceCtorEq, Bool.false_eq_true, Bool.true_eq_false, Nat.reduceAdd, Nat.reduceLT, Nat.reduceEqDiff, Nat.reduceLeDiff, Nat.reduceSub, Nat.reduceMul, sideV, Change.pv], ⟨_, rfl, rfl, rfl⟩, .inl ⟨[b.pv], _, .inl (by simp only [go_sem, ↓reduceIte, reduceCtorEq, Bool.false_eq_true, Bool.true_eq_false, Nat.reduceAdd, Nat.reduceLT, Nat.reduceEqDiff, Nat.reduceLeDiff, Nat.reduceSub, Nat.reduceMul, sideV, Change.pv]), change_behind b, .inr (.inl ⟨_, rfl, rfl, rfl⟩)⟩⟩ (by simp only [go_sem, ↓reduceIte, reduceCtorEq, Bool.false_eq_true, Bool.true_eq_false, Nat.reduceAdd, Nat.reduceLT, Nat.reduceEqDiff, Nat.reduceLeDiff, Nat.reduceSub, Nat.reduceMul, sideV, Change.pv]) (by simp only [go_sem, ↓reduceIte, reduceCtorEq, Bool.false_eq_true, Bool.true_eq_false, Nat.reduceAdd, Nat.reduceLT, Nat.reduceEqDiff, Nat.reduceLeDiff, Nat.reduceSub, Nat.reduceMul, sideV, Change.pv]) (by simp only [go_sem, ↓reduceIte, reduceCtorEq, Bool.false_eq_true, Bool.true_eq_false, Nat.reduceAdd, Nat.reduceLT, Nat.reduceEqDiff, Nat.reduceLeDiff, Nat.reduceSub, Nat.reduceMul, sideV, Change.pv]) (by simp) ?_
            refine DV.exec 400 ?_
            simp (config := {contextual := true}) only [go_sem, ↓reduceIte, reduceCtorEq, Bool.false_eq_true, Bool.true_eq_false, Nat.reduceAdd, Nat.reduceLT, Nat.reduceEqDiff, Nat.reduceLeDiff, Nat.reduceSub, Nat.reduceMul, sideV, Change.pv]
            refine DV.call [] [] (by simp only [go_sem, ↓reduceIte, reduceCtorEq, Bool.false_eq_true, Bool.true_eq_false, Nat.reduceAdd, Nat.reduceLT, Nat.reduceEqDiff, Nat.reduceLeDiff, Nat.reduceSub, Nat.reduceMul, sideV, Change.pv]) (by simp [dOK]) ⟨27, [], by simp only [go_sem, ↓reduceIte, reduceCtorEq, Bool.false_eq_true, Bool.true_eq_false, Nat.reduceAdd, Nat.reduceLT, Nat.reduceEqDiff, Nat.reduceLeDiff, Nat.reduceSub, Nat.reduceMul, sideV, Change.pv], ⟨_, rfl, rfl, rfl⟩, .inl ⟨[.int .i64 b.seq, .str b.key, sideV (a.bef, a.had), sideV (b.aft, b.has)], _, .inl (by simp only [go_sem, ↓reduceIte, reduceCtorEq, Bool.false_eq_true, Bool.true_eq_false, Nat.reduceAdd, Nat.reduceLT, Nat.reduceEqDiff, Nat.reduceLeDiff, Nat.reduceSub, Nat.reduceMul, sideV, Change.pv]), cm, .inr (.inl ⟨_, rfl, rfl, rfl⟩)⟩⟩ (by simp only [go_sem, ↓reduceIte, reduceCtorEq, Bool.false_eq_true, Bool.true_eq_false, Nat.reduceAdd, Nat.reduceLT, Nat.reduceEqDiff, Nat.reduceLeDiff, Nat.reduceSub, Nat.reduceMul, sideV, Change.pv]) (by simp only [go_sem, ↓reduceIte, reduceCtorEq, Bool.false_eq_true, Bool.true_eq_false, Nat.reduceAdd, Nat.reduceLT, Nat.reduceEqDiff, Nat.reduceLeDiff, Nat.reduceSub, Nat.reduceMul, sideV, Change.pv]) (by simp only [go_sem, ↓reduceIte, reduceCtorEq, Bool.false_eq_true, Bool.true_eq_false, Nat.reduceAdd, Nat.reduceLT, Nat.reduceEqDiff, Nat.reduceLeDiff, Nat.reduceSub, Nat.reduceMul, sideV, Change.pv]) (by simp) ?_
            refine DV.exec 400 ?_
            simp (config := {contextual := true}) only [go_sem, ↓reduceIte, reduceCtorEq, Bool.false_eq_true, Bool.true_eq_false, Nat.reduceAdd, Nat.reduceLT, Nat.reduceEqDiff, Nat.reduceLeDiff, Nat.reduceSub, Nat.reduceMul, sideV, Change.pv]
            kernel_rfl
          · have hv := hbad fun h => h5 ⟨h.2.2.2.2.1, h.2.2.2.2.2⟩
            simp (config := {contextual := true}) only [go_sem, ↓reduceIte, reduceCtorEq, Bool.false_eq_true, Bool.true_eq_false, Nat.reduceAdd, Nat.reduceLT, Nat.reduceEqDiff, Nat.reduceLeDiff, Nat.reduceSub, Nat.reduceMul, h1, h2, h3, h4, Change.pv, sideV, eqSide, side_inj, h5, hv, Change.zero, decide_false]
            kernel_rfl
      · have hv := hbad fun h => h3 h.2.2.1
        simp (config := {contextual := true}) only [go_sem, ↓reduceIte, reduceCtorEq, Bool.false_eq_true, Bool.true_eq_false, Nat.reduceAdd, Nat.reduceLT, Nat.reduceEqDiff, Nat.reduceLeDiff, Nat.reduceSub, Nat.reduceMul, h1, h2, h3, hv, Change.zero, Change.pv, decide_false]
        kernel_rfl
    · have hv := hbad fun h => h2 h.2.1
      simp (config := {contextual := true}) only [go_sem, ↓reduceIte, reduceCtorEq, Bool.false_eq_true, Bool.true_eq_false, Nat.reduceAdd, Nat.reduceLT, Nat.reduceEqDiff, Nat.reduceLeDiff, Nat.reduceSub, Nat.reduceMul, h1, h2, hv, Change.zero, Change.pv, decide_false]
      kernel_rfl
  · have hv := hbad fun h => h1 h.1
    simp (config := {contextual := true}) only [go_sem, ↓reduceIte, reduceCtorEq, Bool.false_eq_true, Bool.true_eq_false, Nat.reduceAdd, Nat.reduceLT, Nat.reduceEqDiff, Nat.reduceLeDiff, Nat.reduceSub, Nat.reduceMul, h1, hv, Change.zero, Change.pv, decide_false]
    kernel_rfl
end Go.Proofs.Ytmdjkbhbpddjnaa
set_option linter.unusedVariables false
set_option linter.unusedSimpArgs false
namespace Go.Proofs.Ytmdjkbhbpddjnaa
open Go Go.Proofs Go.Proofs.YtmdjkbhbpddjnaaVm Go.Proofs.Ytmdjkbhbpddjnaa.Ty

set_option maxRecDepth 4000 in
set_option maxHeartbeats 8000000 in
theorem ref13_May (c : Change) : Ct Try.prog 35 (YtmdjkbhbpddjnaaVm.ops [c.pv]) (.vals [.bool (decide c.ok)]) := by
  refine Ct.of_V Try.func35 rfl (by simp [YtmdjkbhbpddjnaaVm.ops, Try.f35]) ?_
  refine V.exec 400 ?_
  simp (config := {contextual := true}) only [go_sem, ↓reduceIte, reduceCtorEq, Bool.false_eq_true, Bool.true_eq_false, Nat.reduceAdd, Nat.reduceLT, Nat.reduceEqDiff, Nat.reduceLeDiff, Nat.reduceSub, Nat.reduceMul, Try.f35, Change.pv]
  simp only [Option.some.injEq, List.cons.injEq, PV.bool.injEq, and_true]
  (repeat' (first | (intro _) | (refine ⟨by kernel_rfl, ?_⟩) | (apply And.intro)))
  all_goals grind [Change.ok]

/-- Do pairs have a key just so? -/
def fitsP (l : List Pair) (k : List UInt8) (has : Bool) (v : List UInt8) : Prop := match getL l k with
  | some p => has = true ∧ p.value = v
  | none => has = false
instance instFitsP (l : List Pair) (k : List UInt8) (has : Bool) (v : List UInt8) : Decidable (fitsP l k has v) := by unfold fitsP; split <;> infer_instance

set_option maxHeartbeats 4000000 in
theorem ref15_fits (l : List Pair) (k : List UInt8) (has : Bool) (v : List UInt8) (hl : l.length ≤ 1000000) (hs : Sorted l) : Ct Try.prog 37 (YtmdjkbhbpddjnaaVm.ops [.row (l.map Pair.pv), .str k, .bool (decide (has = true)), .str v]) (.vals [.bool (decide (fitsP l k has v))]) := by
  have cf := ref10_Find l k hl
  cases hg : getL l k with
  | none =>
    rw [refFindP_neg hg] at cf
    have hm1 : (-1 : Int) < 0 := by decide
    have e : fitsP l k has v ↔ has = false := by unfold fitsP; rw [hg]
    refine Ct.of_V Try.func37 rfl (by simp [YtmdjkbhbpddjnaaVm.ops, Try.f37]) ?_
    refine V.exec 400 ?_
    simp (config := {contextual := true}) only [go_sem, ↓reduceIte, reduceCtorEq, Bool.false_eq_true, Bool.true_eq_false, Nat.reduceAdd, Nat.reduceLT, Nat.reduceEqDiff, Nat.reduceLeDiff, Nat.reduceSub, Nat.reduceMul, Try.f37]
    refine V.call rfl rfl (by simp [dOK]) ⟨30, [], by simp only [go_sem, ↓reduceIte, reduceCtorEq, Bool.false_eq_true, Bool.true_eq_false, Nat.reduceAdd, Nat.reduceLT, Nat.reduceEqDiff, Nat.reduceLeDiff, Nat.reduceSub, Nat.reduceMul], ⟨_, rfl, rfl, rfl⟩, .inl ⟨[.row (l.map Pair.pv), .str k], _, .inl (by simp only [go_sem, ↓reduceIte, reduceCtorEq, Bool.false_eq_true, Bool.true_eq_false, Nat.reduceAdd, Nat.reduceLT, Nat.reduceEqDiff, Nat.reduceLeDiff, Nat.reduceSub, Nat.reduceMul]), cf, .inl ⟨_, rfl, rfl, rfl, rfl⟩⟩⟩ ?_
    refine V.exec 400 ?_
    simp (config := {contextual := true}) only [go_sem, ↓reduceIte, reduceCtorEq, Bool.false_eq_true, Bool.true_eq_false, Nat.reduceAdd, Nat.reduceLT, Nat.reduceEqDiff, Nat.reduceLeDiff, Nat.reduceSub, Nat.reduceMul, hm1]
    cases has <;> simp [e]
  | some p =>
    obtain ⟨i, hfi, hpi, hil⟩ := refFindP_some hs hg
    rw [hfi] at cf
    have hil' : (i : Int) < (l.length : Int) := by omega
    have h0 : ¬ (i : Int) < 0 := by omega
    have e : ∀ b, fitsP l k b v ↔ b = true ∧ p.value = v := fun b => by unfold fitsP; rw [hg]
    refine Ct.of_V Try.func37 rfl (by simp [YtmdjkbhbpddjnaaVm.ops, Try.f37]) ?_
    refine V.exec 400 ?_
    simp (config := {contextual := true}) only [go_sem, ↓reduceIte, reduceCtorEq, Bool.false_eq_true, Bool.true_eq_false, Nat.reduceAdd, Nat.reduceLT, Nat.reduceEqDiff, Nat.reduceLeDiff, Nat.reduceSub, Nat.reduceMul, Try.f37]
    refine V.call rfl rfl (by simp [dOK]) ⟨30, [], by simp only [go_sem, ↓reduceIte, reduceCtorEq, Bool.false_eq_true, Bool.true_eq_false, Nat.reduceAdd, Nat.reduceLT, Nat.reduceEqDiff, Nat.reduceLeDiff, Nat.reduceSub, Nat.reduceMul], ⟨_, rfl, rfl, rfl⟩, .inl ⟨[.row (l.map Pair.pv), .str k], _, .inl (by simp only [go_sem, ↓reduceIte, reduceCtorEq, Bool.false_eq_true, Bool.true_eq_false, Nat.reduceAdd, Nat.reduceLT, Nat.reduceEqDiff, Nat.reduceLeDiff, Nat.reduceSub, Nat.reduceMul]), cf, .inl ⟨_, rfl, rfl, rfl, rfl⟩⟩⟩ ?_
    refine V.exec 400 ?_
    simp (config := {contextual := true}) only [go_sem, ↓reduceIte, reduceCtorEq, Bool.false_eq_true, Bool.true_eq_false, Nat.reduceAdd, Nat.reduceLT, Nat.reduceEqDiff, Nat.reduceLeDiff, Nat.reduceSub, Nat.reduceMul, h0, hpi, hil', Pair.pv]
    cases has <;> simp [e]

/-- Pairs with a key just so. -/
def insR (k v : List UInt8) : List Pair → List Pair
  | [] => [⟨k, v⟩]
  | p :: r => if slt p.key k then p :: insR k v r else ⟨k, v⟩ :: (p :: r).filter (fun p => decide (¬ p.key = k))
def setR (l : List Pair) (k : List UInt8) (has : Bool) (v : List UInt8) : List Pair := if has = true then insR k v l else l.filter (fun p => decide (¬ p.key = k))
def restR (d : Bool) (k v : List UInt8) (l : List Pair) : List Pair := if d = true then l.filter (fun p => decide (¬ p.key = k)) else insR k v l

theorem restR_len (d : Bool) (k v : List UInt8) : ∀ l : List Pair, (restR d k v l).length ≤ l.length + 1
  | [] => by cases d <;> simp [restR, insR]
  | p :: r => by
    have ih := restR_len d k v r
    unfold restR at *
    cases d with
    | true =>
      have h := List.length_filter_le (fun p => decide (¬ p.key = k)) (p :: r)
      rw [if_pos rfl]; omega
    | false =>
      rw [if_neg (by decide)] at *
      unfold insR
      split
      · simp only [List.length_cons]; omega
      · have h := List.length_filter_le (fun p => decide (¬ p.key = k)) (p :: r)
        simp only [List.length_cons] at *; omega

set_option maxRecDepth 10000 in
set_option maxHeartbeats 16000000 in
theorem ref15_set (l : List Pair) (k : List UInt8) (has : Bool) (v : List UInt8) (hl : l.length ≤ 1000000) : Ct Try.prog 38 (YtmdjkbhbpddjnaaVm.ops [.row (l.map Pair.pv), .str k, .bool (decide (has = true)), .str v]) (.vals [.row ((setR l k has v).map Pair.pv)]) := by
  have h0 : setR l k has v = restR (!has) k v l := by cases has <;> rfl
  have hd0 : (!decide (has = true)) = decide ((!has) = true) := by cases has <;> rfl
  rw [h0]
  have hca0 : [] ++ restR (!has) k v (l.drop 0) = restR (!has) k v l := by simp
  have hlen := restR_len (!has) k v l
  generalize restR (!has) k v l = RES at *
  refine Ct.of_V Try.func38 rfl (by simp [YtmdjkbhbpddjnaaVm.ops, Try.f38]) ?_
  refine V.exec 400 ?_
  simp (config := {contextual := true}) only [go_sem, ↓reduceIte, reduceCtorEq, Bool.false_eq_true, Bool.true_eq_false, Nat.reduceAdd, Nat.reduceLT, Nat.reduceEqDiff, Nat.reduceLeDiff, Nat.reduceSub, Nat.reduceMul, Try.f38, hd0]
  refine V.loop (fun m ls os => ∃ (i : Nat) (d : Bool) (out : List Pair), i ≤ l.length ∧ m = l.length - i ∧ out ++ restR d k v (l.drop i) = RES ∧
        ls = [(0, .val (.row (l.map Pair.pv))), (1, .val (.str k)), (3, .val (.str v)), (9, .ref 0), (10, .val (.bool (decide (d = true)))), (11, .val (.int .i64 i))] ∧ os = [.row 54 (out.map Pair.pv)]) 1 l.length
      [(0, .val (.row (l.map Pair.pv))), (1, .val (.str k)), (3, .val (.str v)), (9, .ref 0), (10, .val (.bool (decide ((!has) = true)))), (11, .val (.int .i64 0))] [.row 54 []] [none]
      ⟨0, !has, [], Nat.zero_le _, rfl, hca0, rfl, rfl⟩ (by simp only [go_sem, ↓reduceIte, reduceCtorEq, Bool.false_eq_true, Bool.true_eq_false, Nat.reduceAdd, Nat.reduceLT, Nat.reduceEqDiff, Nat.reduceLeDiff, Nat.reduceSub, Nat.reduceMul]; try decide) ?_
  rintro m ls os ⟨i, d, out, hi, rfl, hca, rfl, rfl⟩
  refine V.exec 400 ?_
  have hol : out.length ≤ l.length + 1 := by have := congrArg List.length hca; rw [List.length_append] at this; omega
  by_cases hlt : i < l.length
  · have hlt' : (i : Int) < (l.length : Int) := by omega
    obtain ⟨p, hp⟩ : ∃ x, l[i]? = some x := ⟨_, List.getElem?_eq_getElem hlt⟩
    have hw : IntKind.i64.wrap ((i : Int) + 1) = ((i + 1 : Nat) : Int) := by rw [wrap_small3] <;> omega
    rw [drop_of_get hp] at hca
    cases d with
    | true =>
      by_cases hk : p.key = k
      · have hn : out ++ restR true k v (l.drop (i + 1)) = RES := by rw [← hca]; simp [restR, hk]
        simp (config := {contextual := true}) only [go_sem, ↓reduceIte, reduceCtorEq, Bool.false_eq_true, Bool.true_eq_false, Nat.reduceAdd, Nat.reduceLT, Nat.reduceEqDiff, Nat.reduceLeDiff, Nat.reduceSub, Nat.reduceMul, hlt', hp, hw, hk, Pair.pv, decide_true]
        refine ⟨l.length - (i + 1), _, _, [some 0], by omega, ⟨i + 1, true, out, by omega, rfl, hn, rfl, rfl⟩, ?_⟩
        simp only [go_sem, ↓reduceIte, reduceCtorEq, Bool.false_eq_true, Bool.true_eq_false, Nat.reduceAdd, Nat.reduceLT, Nat.reduceEqDiff, Nat.reduceLeDiff, Nat.reduceSub, Nat.reduceMul, decide_true]
      · have hn : (out ++ [p]) ++ restR true k v (l.drop (i + 1)) = RES := by rw [← hca]; simp [restR, hk]
        simp (config := {contextual := true}) only [go_sem, ↓reduceIte, reduceCtorEq, Bool.false_eq_true, Bool.true_eq_false, Nat.reduceAdd, Nat.reduceLT, Nat.reduceEqDiff, Nat.reduceLeDiff, Nat.reduceSub, Nat.reduceMul, hlt', hp, hw, hk, Pair.pv, decide_true]
        refine ⟨⟨by omega, by omega⟩, l.length - (i + 1), _, _, [some 29], by omega, ⟨i + 1, true, _, by omega, rfl, hn, rfl, rfl⟩, ?_⟩
        simp only [go_sem, ↓reduceIte, reduceCtorEq, Bool.false_eq_true, Bool.true_eq_false, Nat.reduceAdd, Nat.reduceLT, Nat.reduceEqDiff, Nat.reduceLeDiff, Nat.reduceSub, Nat.reduceMul, List.map_append, List.map_cons, List.map_nil, Pair.pv, decide_true, decide_false]
    | false =>
      by_cases hs : slt p.key k
      · have hk : ¬ p.key = k := fun e => slt_irrefl k (by rw [e] at hs; exact hs)
        have hn : (out ++ [p]) ++ restR false k v (l.drop (i + 1)) = RES := by rw [← hca]; simp [restR, insR, hs]
        simp (config := {contextual := true}) only [go_sem, ↓reduceIte, reduceCtorEq, Bool.false_eq_true, Bool.true_eq_false, Nat.reduceAdd, Nat.reduceLT, Nat.reduceEqDiff, Nat.reduceLeDiff, Nat.reduceSub, Nat.reduceMul, hlt', hp, hw, hk, hs, Pair.pv, decide_true, decide_false]
        refine ⟨⟨by omega, by omega⟩, l.length - (i + 1), _, _, [some 29], by omega, ⟨i + 1, false, _, by omega, rfl, hn, rfl, rfl⟩, ?_⟩
        simp only [go_sem, ↓reduceIte, reduceCtorEq, Bool.false_eq_true, Bool.true_eq_false, Nat.reduceAdd, Nat.reduceLT, Nat.reduceEqDiff, Nat.reduceLeDiff, Nat.reduceSub, Nat.reduceMul, List.map_append, List.map_cons, List.map_nil, Pair.pv, decide_true, decide_false]
      · by_cases hk : p.key = k
        · have hn : (out ++ [⟨k, v⟩]) ++ restR true k v (l.drop (i + 1)) = RES := by rw [← hca]; rw [hk] at hs; simp [restR, insR, hs, hk]
          have hsi := slt_irrefl k
          simp (config := {contextual := true}) only [go_sem, ↓reduceIte, reduceCtorEq, Bool.false_eq_true, Bool.true_eq_false, Nat.reduceAdd, Nat.reduceLT, Nat.reduceEqDiff, Nat.reduceLeDiff, Nat.reduceSub, Nat.reduceMul, hlt', hp, hw, hk, hsi, Pair.pv, decide_true, decide_false]
          refine ⟨⟨by omega, by omega⟩, l.length - (i + 1), _, _, [some 21], by omega, ⟨i + 1, true, _, by omega, rfl, hn, rfl, rfl⟩, ?_⟩
          simp only [go_sem, ↓reduceIte, reduceCtorEq, Bool.false_eq_true, Bool.true_eq_false, Nat.reduceAdd, Nat.reduceLT, Nat.reduceEqDiff, Nat.reduceLeDiff, Nat.reduceSub, Nat.reduceMul, List.map_append, List.map_cons, List.map_nil, Pair.pv, decide_true, decide_false]
        · have hn : (out ++ [⟨k, v⟩, p]) ++ restR true k v (l.drop (i + 1)) = RES := by rw [← hca]; simp [restR, insR, hs, hk]
          simp (config := {contextual := true}) only [go_sem, ↓reduceIte, reduceCtorEq, Bool.false_eq_true, Bool.true_eq_false, Nat.reduceAdd, Nat.reduceLT, Nat.reduceEqDiff, Nat.reduceLeDiff, Nat.reduceSub, Nat.reduceMul, hlt', hp, hw, hk, hs, Pair.pv, decide_true, decide_false]
          refine ⟨⟨by omega, by omega⟩, ⟨by simp; omega, by simp; omega⟩, l.length - (i + 1), _, _, [some 37], by omega, ⟨i + 1, true, _, by omega, rfl, hn, rfl, rfl⟩, ?_⟩
          simp only [go_sem, ↓reduceIte, reduceCtorEq, Bool.false_eq_true, Bool.true_eq_false, Nat.reduceAdd, Nat.reduceLT, Nat.reduceEqDiff, Nat.reduceLeDiff, Nat.reduceSub, Nat.reduceMul, List.map_append, List.map_cons, List.map_nil, Pair.pv, decide_true, decide_false, List.append_assoc, List.cons_append, List.nil_append]
  · have hlt' : ¬ (i : Int) < (l.length : Int) := by omega
    have hd : l.drop i = [] := List.drop_eq_nil_of_le (by omega)
    rw [hd] at hca
    cases d with
    | true =>
      have : out = RES := by rw [← hca]; simp [restR]
      simp (config := {contextual := true}) only [go_sem, ↓reduceIte, reduceCtorEq, Bool.false_eq_true, Bool.true_eq_false, Nat.reduceAdd, Nat.reduceLT, Nat.reduceEqDiff, Nat.reduceLeDiff, Nat.reduceSub, Nat.reduceMul, hlt', this, decide_true]
    | false =>
      have hn : out ++ [⟨k, v⟩] = RES := by rw [← hca]; simp [restR, insR]
      simp (config := {contextual := true}) only [go_sem, ↓reduceIte, reduceCtorEq, Bool.false_eq_true, Bool.true_eq_false, Nat.reduceAdd, Nat.reduceLT, Nat.reduceEqDiff, Nat.reduceLeDiff, Nat.reduceSub, Nat.reduceMul, hlt', decide_false]
      refine ⟨⟨by omega, by omega⟩, ?_⟩
      rw [← hn]; simp [Pair.pv]
end Go.Proofs.Ytmdjkbhbpddjnaa
set_option linter.unusedVariables false
set_option linter.unusedSimpArgs false
namespace Go.Proofs.Ytmdjkbhbpddjnaa
open Go Go.Proofs Go.Proofs.YtmdjkbhbpddjnaaVm Go.Proofs.Ytmdjkbhbpddjnaa.Ty

theorem insR_mem {k v : List UInt8} : ∀ (l : List Pair), Sorted l → ∀ p, p ∈ insR k v l ↔ p = ⟨k, v⟩ ∨ (p ∈ l ∧ p.key ≠ k)
  | [], _, p => by simp [insR]
  | q :: r, hs, p => by
    have hs' := hs
    cases hs with
    | cons h1 h2 =>
      have ih := insR_mem (k := k) (v := v) r h2 p
      unfold insR
      split
      · rename_i hq
        have hne : q.key ≠ k := fun e => slt_irrefl k (by rw [e] at hq; exact hq)
        rw [List.mem_cons, ih, List.mem_cons]
        constructor
        · rintro (rfl | h | h)
          · exact .inr ⟨.inl rfl, hne⟩
          · exact .inl h
          · exact .inr ⟨.inr h.1, h.2⟩
        · rintro (h | ⟨rfl | h, h3⟩)
          · exact .inr (.inl h)
          · exact .inl rfl
          · exact .inr (.inr ⟨h, h3⟩)
      · rw [List.mem_cons, List.mem_filter]
        simp
theorem insR_sorted {k v : List UInt8} : ∀ (l : List Pair), Sorted l → Sorted (insR k v l)
  | [], _ => List.pairwise_singleton _ _
  | q :: r, hs => by
    have hs' := hs
    cases hs with
    | cons h1 h2 =>
      have ih := insR_sorted (k := k) (v := v) r h2
      unfold insR
      split
      · rename_i hq
        refine List.pairwise_cons.2 ⟨fun p hp => ?_, ih⟩
        rcases (insR_mem r h2 p).1 hp with rfl | hp
        · exact hq
        · exact h1 p hp.1
      · rename_i hq
        refine List.pairwise_cons.2 ⟨fun p hp => ?_, hs'.filter _⟩
        rw [List.mem_filter] at hp
        have hne : p.key ≠ k := by simpa using hp.2
        rcases slt_total k p.key with h | h | h
        · exact h
        · exact absurd h.symm hne
        · exfalso
          rcases List.mem_cons.1 hp.1 with rfl | hm
          · exact hq h
          · exact hq (slt_trans (h1 p hm) h)
theorem setR_sorted {l : List Pair} (hs : Sorted l) (k : List UInt8) (has : Bool) (v : List UInt8) : Sorted (setR l k has v) := by
  unfold setR; split
  · exact insR_sorted l hs
  · exact hs.filter _
theorem setR_val {l : List Pair} (hs : Sorted l) (k : List UInt8) (has : Bool) (v : List UInt8) (k' : List UInt8) : val (setR l k has v) k' = if k' = k then (if has = true then some v else none) else val l k' := by
  apply Option.ext
  intro w
  rw [val_iff (setR_sorted hs k has v)]
  unfold setR
  cases has with
  | true =>
    rw [if_pos rfl, insR_mem l hs]
    by_cases hk : k' = k
    · subst hk; simp [eq_comm]
    · rw [if_neg hk, val_iff hs]; simp [hk]
  | false =>
    rw [if_neg (by decide), List.mem_filter]
    by_cases hk : k' = k
    · subst hk; simp
    · rw [if_neg hk, val_iff hs]; simp [hk]
/-- What a change makes of pairs. -/
theorem setR_note {l : List Pair} (hs : Sorted l) (c : Change) : setR l c.key c.has c.aft = oneV l (noteC c) := by
  refine val_ext (setR_sorted hs _ _ _) (oneV_sorted hs _) fun k => ?_
  rw [setR_val hs, oneV_val hs, noteC_key]
  split
  · unfold noteC
    split
    · rw [stepO_put _ rfl]
    · rw [stepO_del _ rfl]
  · rfl
theorem setR_len (l : List Pair) (k : List UInt8) (has : Bool) (v : List UInt8) : (setR l k has v).length ≤ l.length + 1 := by
  have := restR_len (!has) k v l
  cases has <;> exact this
theorem fits_iff {l : List Pair} (h : pairsOk l) {c : Change} (hc : c.ok) : fitsP l c.key c.had c.bef ↔ fitC l c := by
  unfold fitsP fitC getV
  rw [if_pos h]
  cases getL l c.key with
  | none =>
    simp only [Prod.mk.injEq]
    constructor
    · intro h1
      rcases hc.2.2.2.2.2.1 with h2 | h2
      · rw [h1] at h2; cases h2
      · exact ⟨h2.symm, h1.symm⟩
    · rintro ⟨_, h2⟩; exact h2.symm
  | some p =>
    simp only [Prod.mk.injEq]
    constructor
    · rintro ⟨h1, h2⟩; exact ⟨h2, h1.symm⟩
    · rintro ⟨h1, h2⟩; exact ⟨h2.symm, h1⟩
theorem turn_ok (c : Change) : (turnC c).ok ↔ c.ok := by
  unfold Change.ok turnC
  simp only
  grind

set_option maxRecDepth 10000 in
set_option maxHeartbeats 16000000 in
theorem ref15_Do (l : List Pair) (cs : List Change) (hl : l.length ≤ 200000) (hn : cs.length ≤ 200000) : Ct Try.prog 17 (YtmdjkbhbpddjnaaVm.ops [.row (l.map Pair.pv), .row (cs.map Change.pv)]) (.vals [.row ((doV l cs).1.map Pair.pv), .bool (decide ((doV l cs).2 = 0))]) := by
  refine Ct.of_V Try.func17 rfl (by simp [YtmdjkbhbpddjnaaVm.ops, Try.f17]) ?_
  refine V.exec 400 ?_
  simp (config := {contextual := true}) only [go_sem, ↓reduceIte, reduceCtorEq, Bool.false_eq_true, Bool.true_eq_false, Nat.reduceAdd, Nat.reduceLT, Nat.reduceEqDiff, Nat.reduceLeDiff, Nat.reduceSub, Nat.reduceMul, Try.f17]
  refine V.call rfl rfl (by simp [dOK]) ⟨28, [], by simp only [go_sem, ↓reduceIte, reduceCtorEq, Bool.false_eq_true, Bool.true_eq_false, Nat.reduceAdd, Nat.reduceLT, Nat.reduceEqDiff, Nat.reduceLeDiff, Nat.reduceSub, Nat.reduceMul], ⟨_, rfl, rfl, rfl⟩, .inl ⟨[.row (l.map Pair.pv)], _, .inl (by simp only [go_sem, ↓reduceIte, reduceCtorEq, Bool.false_eq_true, Bool.true_eq_false, Nat.reduceAdd, Nat.reduceLT, Nat.reduceEqDiff, Nat.reduceLeDiff, Nat.reduceSub, Nat.reduceMul]), ref10_Right l (by omega), .inl ⟨_, rfl, rfl, rfl, rfl⟩⟩⟩ ?_
  refine V.exec 400 ?_
  simp (config := {contextual := true}) only [go_sem, ↓reduceIte, reduceCtorEq, Bool.false_eq_true, Bool.true_eq_false, Nat.reduceAdd, Nat.reduceLT, Nat.reduceEqDiff, Nat.reduceLeDiff, Nat.reduceSub, Nat.reduceMul]
  refine V.loop (fun m ls os => ∃ (i : Nat) (ok : Bool) (cur : List Pair), i ≤ cs.length ∧ m = cs.length - i ∧ (ok = true → pairsOk cur ∧ cur.length ≤ l.length + i ∧ pairsOk l ∧ doGo cur (cs.drop i) = doGo l cs) ∧ (ok = false → doV l cs = (l, 1)) ∧
        ls = [(0, .val (.row (l.map Pair.pv))), (1, .val (.row (cs.map Change.pv))), (6, .val (.bool (decide (ok = true)))), (7, .val (.row (cur.map Pair.pv))), (8, .val (.int .i64 i))] ∧ os = []) 0 cs.length
      [(0, .val (.row (l.map Pair.pv))), (1, .val (.row (cs.map Change.pv))), (6, .val (.bool (decide (decide (pairsOk l) = true)))), (7, .val (.row (l.map Pair.pv))), (8, .val (.int .i64 0))] [] []
      ⟨0, decide (pairsOk l), l, Nat.zero_le _, rfl, fun h => ⟨by simpa using h, Nat.le_refl _, by simpa using h, rfl⟩, fun h => by unfold doV; rw [if_neg (by simpa using h)], rfl, rfl⟩ (by simp only [go_sem, ↓reduceIte, reduceCtorEq, Bool.false_eq_true, Bool.true_eq_false, Nat.reduceAdd, Nat.reduceLT, Nat.reduceEqDiff, Nat.reduceLeDiff, Nat.reduceSub, Nat.reduceMul, decide_eq_true_eq]) ?_
  rintro m ls os ⟨i, ok, cur, hi, rfl, hgood, hbad, rfl, rfl⟩
  refine V.exec 400 ?_
  cases ok with
  | false =>
    have hv := hbad rfl
    by_cases hlt : (i : Int) < (cs.length : Int)
    · simp (config := {contextual := true}) only [go_sem, ↓reduceIte, reduceCtorEq, Bool.false_eq_true, Bool.true_eq_false, Nat.reduceAdd, Nat.reduceLT, Nat.reduceEqDiff, Nat.reduceLeDiff, Nat.reduceSub, Nat.reduceMul, hlt, hv, decide_false]
      rfl
    · simp (config := {contextual := true}) only [go_sem, ↓reduceIte, reduceCtorEq, Bool.false_eq_true, Bool.true_eq_false, Nat.reduceAdd, Nat.reduceLT, Nat.reduceEqDiff, Nat.reduceLeDiff, Nat.reduceSub, Nat.reduceMul, hlt, hv, decide_false]
      rfl
  | true =>
    obtain ⟨hco, hcl, hok, hca⟩ := hgood rfl
    by_cases hlt : i < cs.length
    · have hlt' : (i : Int) < (cs.length : Int) := by omega
      obtain ⟨x, hx⟩ : ∃ x, cs[i]? = some x := ⟨_, List.getElem?_eq_getElem hlt⟩
      have hw : IntKind.i64.wrap ((i : Int) + 1) = ((i + 1 : Nat) : Int) := by rw [wrap_small3] <;> omega
      have hsc := ((pairsOk_iff cur).1 hco).1
      rw [drop_of_get hx, doGo] at hca
      simp (config := {contextual := true}) only [go_sem, ↓reduceIte, reduceCtorEq, Bool.false_eq_true, Bool.true_eq_false, Nat.reduceAdd, Nat.reduceLT, Nat.reduceEqDiff, Nat.reduceLeDiff, Nat.reduceSub, Nat.reduceMul, hlt', hx, Change.pv, decide_true]
      refine DV.call [] [] (by simp only [go_sem, ↓reduceIte, reduceCtorEq, Bool.false_eq_true, Bool.true_eq_false, Nat.reduceAdd, Nat.reduceLT, Nat.reduceEqDiff, Nat.reduceLeDiff, Nat.reduceSub, Nat.reduceMul, Change.pv]) (by simp [dOK]) ⟨35, [], by simp only [go_sem, ↓reduceIte, reduceCtorEq, Bool.false_eq_true, Bool.true_eq_false, Nat.reduceAdd, Nat.reduceLT, Nat.reduceEqDiff, Nat.reduceLeDiff, Nat.reduceSub, Nat.reduceMul, Change.pv], ⟨_, rfl, rfl, rfl⟩, .inl ⟨[x.pv], _, .inl (by simp only [go_sem, ↓reduceIte, reduceCtorEq, Bool.false_eq_true, Bool.true_eq_false, Nat.reduceAdd, Nat.reduceLT, Nat.reduceEqDiff, Nat.reduceLeDiff, Nat.reduceSub, Nat.reduceMul, Change.pv]), ref13_May x, .inl ⟨_, rfl, rfl, rfl, rfl⟩⟩⟩ (by simp only [go_sem, ↓reduceIte, reduceCtorEq, Bool.false_eq_true, Bool.true_eq_false, Nat.reduceAdd, Nat.reduceLT, Nat.reduceEqDiff, Nat.reduceLeDiff, Nat.reduceSub, Nat.reduceMul, Change.pv]) (by simp only [go_sem, ↓reduceIte, reduceCtorEq, Bool.false_eq_true, Bool.true_eq_false, Nat.reduceAdd, Nat.reduceLT, Nat.reduceEqDiff, Nat.reduceLeDiff, Nat.reduceSub, Nat.reduceMul, Change.pv]) (by simp only [go_sem, ↓reduceIte, reduceCtorEq, Bool.false_eq_true, Bool.true_eq_false, Nat.reduceAdd, Nat.reduceLT, Nat.reduceEqDiff, Nat.reduceLeDiff, Nat.reduceSub, Nat.reduceMul, Change.pv]) (by simp) ?_
      refine DV.exec 400 ?_
      simp (config := {contextual := true}) only [go_sem, ↓reduceIte, reduceCtorEq, Bool.false_eq_true, Bool.true_eq_false, Nat.reduceAdd, Nat.reduceLT, Nat.reduceEqDiff, Nat.reduceLeDiff, Nat.reduceSub, Nat.reduceMul, hx, Change.pv]
      refine DV.call [] [] (by simp only [go_sem, ↓reduceIte, reduceCtorEq, Bool.false_eq_true, Bool.true_eq_false, Nat.reduceAdd, Nat.reduceLT, Nat.reduceEqDiff, Nat.reduceLeDiff, Nat.reduceSub, Nat.reduceMul]) (by simp [dOK]) ⟨37, [], by simp only [go_sem, ↓reduceIte, reduceCtorEq, Bool.false_eq_true, Bool.true_eq_false, Nat.reduceAdd, Nat.reduceLT, Nat.reduceEqDiff, Nat.reduceLeDiff, Nat.reduceSub, Nat.reduceMul], ⟨_, rfl, rfl, rfl⟩, .inl ⟨[.row (cur.map Pair.pv), .str x.key, .bool (decide (x.had = true)), .str x.bef], _, .inl (by simp only [go_sem, ↓reduceIte, reduceCtorEq, Bool.false_eq_true, Bool.true_eq_false, Nat.reduceAdd, Nat.reduceLT, Nat.reduceEqDiff, Nat.reduceLeDiff, Nat.reduceSub, Nat.reduceMul]), ref15_fits cur x.key x.had x.bef (by omega) hsc, .inl ⟨_, rfl, rfl, rfl, rfl⟩⟩⟩ (by simp only [go_sem, ↓reduceIte, reduceCtorEq, Bool.false_eq_true, Bool.true_eq_false, Nat.reduceAdd, Nat.reduceLT, Nat.reduceEqDiff, Nat.reduceLeDiff, Nat.reduceSub, Nat.reduceMul]) (by simp only [go_sem, ↓reduceIte, reduceCtorEq, Bool.false_eq_true, Bool.true_eq_false, Nat.reduceAdd, Nat.reduceLT, Nat.reduceEqDiff, Nat.reduceLeDiff, Nat.reduceSub, Nat.reduceMul]) (by simp only [go_sem, ↓reduceIte, reduceCtorEq, Bool.false_eq_true, Bool.true_eq_false, Nat.reduceAdd, Nat.reduceLT, Nat.reduceEqDiff, Nat.reduceLeDiff, Nat.reduceSub, Nat.reduceMul]) (by simp) ?_
      refine DV.exec 400 ?_
      have cs0 := ref15_set cur x.key x.has x.aft (by omega)
      have hsl := setR_len cur x.key x.has x.aft
      by_cases hm : x.ok
      · by_cases hf : fitsP cur x.key x.had x.bef
        · have hgo := if_pos (c := x.ok ∧ fitC cur x) ⟨hm, (fits_iff hco hm).1 hf⟩ ▸ hca
          rw [setR_note hsc x] at cs0 hsl
          have hoo := oneV_pairsOk hco (noteC_ok hm)
          simp (config := {contextual := true}) only [go_sem, ↓reduceIte, reduceCtorEq, Bool.false_eq_true, Bool.true_eq_false, Nat.reduceAdd, Nat.reduceLT, Nat.reduceEqDiff, Nat.reduceLeDiff, Nat.reduceSub, Nat.reduceMul, hx, hm, hf, Change.pv]
          refine ⟨by kernel_rfl, ?_⟩
          refine DV.call [] [] (by simp only [go_sem, ↓reduceIte, reduceCtorEq, Bool.false_eq_true, Bool.true_eq_false, Nat.reduceAdd, Nat.reduceLT, Nat.reduceEqDiff, Nat.reduceLeDiff, Nat.reduceSub, Nat.reduceMul]) (by simp [dOK]) ⟨38, [], by simp only [go_sem, ↓reduceIte, reduceCtorEq, Bool.false_eq_true, Bool.true_eq_false, Nat.reduceAdd, Nat.reduceLT, Nat.reduceEqDiff, Nat.reduceLeDiff, Nat.reduceSub, Nat.reduceMul], ⟨_, rfl, rfl, rfl⟩, .inl ⟨[.row (cur.map Pair.pv), .str x.key, .bool (decide (x.has = true)), .str x.aft], _, .inl (by simp only [go_sem, ↓reduceIte, reduceCtorEq, Bool.false_eq_true, Bool.true_eq_false, Nat.reduceAdd, Nat.reduceLT, Nat.reduceEqDiff, Nat.reduceLeDiff, Nat.reduceSub, Nat.reduceMul]), cs0, .inr (.inl ⟨_, rfl, rfl, rfl⟩)⟩⟩ (by simp only [go_sem, ↓reduceIte, reduceCtorEq, Bool.false_eq_true, Bool.true_eq_false, Nat.reduceAdd, Nat.reduceLT, Nat.reduceEqDiff, Nat.reduceLeDiff, Nat.reduceSub, Nat.reduceMul]) (by simp only [go_sem, ↓reduceIte, reduceCtorEq, Bool.false_eq_true, Bool.true_eq_false, Nat.reduceAdd, Nat.reduceLT, Nat.reduceEqDiff, Nat.reduceLeDiff, Nat.reduceSub, Nat.reduceMul]) (by simp only [go_sem, ↓reduceIte, reduceCtorEq, Bool.false_eq_true, Bool.true_eq_false, Nat.reduceAdd, Nat.reduceLT, Nat.reduceEqDiff, Nat.reduceLeDiff, Nat.reduceSub, Nat.reduceMul]) (by simp) ?_
          refine DV.exec 400 ?_
          simp (config := {contextual := true}) only [go_sem, ↓reduceIte, reduceCtorEq, Bool.false_eq_true, Bool.true_eq_false, Nat.reduceAdd, Nat.reduceLT, Nat.reduceEqDiff, Nat.reduceLeDiff, Nat.reduceSub, Nat.reduceMul, hw]
          refine ⟨by kernel_rfl, cs.length - (i + 1), _, [], [], by omega, ⟨i + 1, true, _, by omega, rfl, fun _ => ⟨hoo, by omega, hok, hgo⟩, fun h => (by cases h), rfl, rfl⟩, ?_⟩
          simp only [go_sem, ↓reduceIte, reduceCtorEq, Bool.false_eq_true, Bool.true_eq_false, Nat.reduceAdd, Nat.reduceLT, Nat.reduceEqDiff, Nat.reduceLeDiff, Nat.reduceSub, Nat.reduceMul, decide_true]
        · have hv : doV l cs = (l, 1) := by
            rw [if_neg (fun h => hf ((fits_iff hco h.1).2 h.2))] at hca
            unfold doV; rw [if_pos hok, ← hca]
          simp (config := {contextual := true}) only [go_sem, ↓reduceIte, reduceCtorEq, Bool.false_eq_true, Bool.true_eq_false, Nat.reduceAdd, Nat.reduceLT, Nat.reduceEqDiff, Nat.reduceLeDiff, Nat.reduceSub, Nat.reduceMul, hx, hm, hf, Change.pv]
          refine ⟨by kernel_rfl, ?_⟩
          refine DV.call [] [] (by simp only [go_sem, ↓reduceIte, reduceCtorEq, Bool.false_eq_true, Bool.true_eq_false, Nat.reduceAdd, Nat.reduceLT, Nat.reduceEqDiff, Nat.reduceLeDiff, Nat.reduceSub, Nat.reduceMul]) (by simp [dOK]) ⟨38, [], by simp only [go_sem, ↓reduceIte, reduceCtorEq, Bool.false_eq_true, Bool.true_eq_false, Nat.reduceAdd, Nat.reduceLT, Nat.reduceEqDiff, Nat.reduceLeDiff, Nat.reduceSub, Nat.reduceMul], ⟨_, rfl, rfl, rfl⟩, .inl ⟨[.row (cur.map Pair.pv), .str x.key, .bool (decide (x.has = true)), .str x.aft], _, .inl (by simp only [go_sem, ↓reduceIte, reduceCtorEq, Bool.false_eq_true, Bool.true_eq_false, Nat.reduceAdd, Nat.reduceLT, Nat.reduceEqDiff, Nat.reduceLeDiff, Nat.reduceSub, Nat.reduceMul]), cs0, .inr (.inl ⟨_, rfl, rfl, rfl⟩)⟩⟩ (by simp only [go_sem, ↓reduceIte, reduceCtorEq, Bool.false_eq_true, Bool.true_eq_false, Nat.reduceAdd, Nat.reduceLT, Nat.reduceEqDiff, Nat.reduceLeDiff, Nat.reduceSub, Nat.reduceMul]) (by simp only [go_sem, ↓reduceIte, reduceCtorEq, Bool.false_eq_true, Bool.true_eq_false, Nat.reduceAdd, Nat.reduceLT, Nat.reduceEqDiff, Nat.reduceLeDiff, Nat.reduceSub, Nat.reduceMul]) (by simp only [go_sem, ↓reduceIte, reduceCtorEq, Bool.false_eq_true, Bool.true_eq_false, Nat.reduceAdd, Nat.reduceLT, Nat.reduceEqDiff, Nat.reduceLeDiff, Nat.reduceSub, Nat.reduceMul]) (by simp) ?_
          refine DV.exec 400 ?_
          simp (config := {contextual := true}) only [go_sem, ↓reduceIte, reduceCtorEq, Bool.false_eq_true, Bool.true_eq_false, Nat.reduceAdd, Nat.reduceLT, Nat.reduceEqDiff, Nat.reduceLeDiff, Nat.reduceSub, Nat.reduceMul, hw]
          refine ⟨by kernel_rfl, cs.length - (i + 1), _, [], [], by omega, ⟨i + 1, false, setR cur x.key x.has x.aft, by omega, rfl, fun h => (by cases h), fun _ => hv, rfl, rfl⟩, ?_⟩
          simp only [go_sem, ↓reduceIte, reduceCtorEq, Bool.false_eq_true, Bool.true_eq_false, Nat.reduceAdd, Nat.reduceLT, Nat.reduceEqDiff, Nat.reduceLeDiff, Nat.reduceSub, Nat.reduceMul, decide_false]
      · have hv : doV l cs = (l, 1) := by
          rw [if_neg (fun h => hm h.1)] at hca
          unfold doV; rw [if_pos hok, ← hca]
        simp (config := {contextual := true}) only [go_sem, ↓reduceIte, reduceCtorEq, Bool.false_eq_true, Bool.true_eq_false, Nat.reduceAdd, Nat.reduceLT, Nat.reduceEqDiff, Nat.reduceLeDiff, Nat.reduceSub, Nat.reduceMul, hx, hm, Change.pv]
        refine ⟨by kernel_rfl, ?_⟩
        refine DV.call [] [] (by simp only [go_sem, ↓reduceIte, reduceCtorEq, Bool.false_eq_true, Bool.true_eq_false, Nat.reduceAdd, Nat.reduceLT, Nat.reduceEqDiff, Nat.reduceLeDiff, Nat.reduceSub, Nat.reduceMul]) (by simp [dOK]) ⟨38, [], by simp only [go_sem, ↓reduceIte, reduceCtorEq, Bool.false_eq_true, Bool.true_eq_false, Nat.reduceAdd, Nat.reduceLT, Nat.reduceEqDiff, Nat.reduceLeDiff, Nat.reduceSub, Nat.reduceMul], ⟨_, rfl, rfl, rfl⟩, .inl ⟨[.row (cur.map Pair.pv), .str x.key, .bool (decide (x.has = true)), .str x.aft], _, .inl (by simp only [go_sem, ↓reduceIte, reduceCtorEq, Bool.false_eq_true, Bool.true_eq_false, Nat.reduceAdd, Nat.reduceLT, Nat.reduceEqDiff, Nat.reduceLeDiff, Nat.reduceSub, Nat.reduceMul]), cs0, .inr (.inl ⟨_, rfl, rfl, rfl⟩)⟩⟩ (by simp only [go_sem, ↓reduceIte, reduceCtorEq, Bool.false_eq_true, Bool.true_eq_false, Nat.reduceAdd, Nat.reduceLT, Nat.reduceEqDiff, Nat.reduceLeDiff, Nat.reduceSub, Nat.reduceMul]) (by simp only [go_sem, ↓reduceIte, reduceCtorEq, Bool.false_eq_true, Bool.true_eq_false, Nat.reduceAdd, Nat.reduceLT, Nat.reduceEqDiff, Nat.reduceLeDiff, Nat.reduceSub, Nat.reduceMul]) (by simp only [go_sem, ↓reduceIte, reduceCtorEq, Bool.false_eq_true, Bool.true_eq_false, Nat.reduceAdd, Nat.reduceLT, Nat.reduceEqDiff, Nat.reduceLeDiff, Nat.reduceSub, Nat.reduceMul]) (by simp) ?_
        refine DV.exec 400 ?_
        simp (config := {contextual := true}) only [go_sem, ↓reduceIte, reduceCtorEq, Bool.false_eq_true, Bool.true_eq_false, Nat.reduceAdd, Nat.reduceLT, Nat.reduceEqDiff, Nat.reduceLeDiff, Nat.reduceSub, Nat.reduceMul, hw]
        refine ⟨by kernel_rfl, cs.length - (i + 1), _, [], [], by omega, ⟨i + 1, false, setR cur x.key x.has x.aft, by omega, rfl, fun h => (by cases h), fun _ => hv, rfl, rfl⟩, ?_⟩
        simp only [go_sem, ↓reduceIte, reduceCtorEq, Bool.false_eq_true, Bool.true_eq_false, Nat.reduceAdd, Nat.reduceLT, Nat.reduceEqDiff, Nat.reduceLeDiff, Nat.reduceSub, Nat.reduceMul, decide_false]
    · have hlt' : ¬ (i : Int) < (cs.length : Int) := by omega
      have hd : cs.drop i = [] := List.drop_eq_nil_of_le (by omega)
      rw [hd, doGo] at hca
      have hv : doV l cs = (cur, 0) := by unfold doV; rw [if_pos hok, ← hca]
      simp (config := {contextual := true}) only [go_sem, ↓reduceIte, reduceCtorEq, Bool.false_eq_true, Bool.true_eq_false, Nat.reduceAdd, Nat.reduceLT, Nat.reduceEqDiff, Nat.reduceLeDiff, Nat.reduceSub, Nat.reduceMul, hlt', hv, decide_true]
set_option maxRecDepth 10000 in
set_option maxHeartbeats 16000000 in
theorem ref15_Undo (l : List Pair) (cs : List Change) (hl : l.length ≤ 200000) (hn : cs.length ≤ 200000) : Ct Try.prog 19 (YtmdjkbhbpddjnaaVm.ops [.row (l.map Pair.pv), .row (cs.map Change.pv)]) (.vals [.row ((undoV l cs).1.map Pair.pv), .bool (decide ((undoV l cs).2 = 0))]) := by
  unfold undoV
  obtain ⟨ds, hds⟩ : ∃ ds, ds = cs.reverse.map turnC := ⟨_, rfl⟩
  have hdl : ds.length = cs.length := by rw [hds]; simp
  rw [← hds]
  have hwn : IntKind.i64.wrap ((cs.length : Int) - 1) = (cs.length : Int) - 1 := by rw [wrap_small3] <;> omega
  refine Ct.of_V Try.func19 rfl (by simp [YtmdjkbhbpddjnaaVm.ops, Try.f19]) ?_
  refine V.exec 400 ?_
  simp (config := {contextual := true}) only [go_sem, ↓reduceIte, reduceCtorEq, Bool.false_eq_true, Bool.true_eq_false, Nat.reduceAdd, Nat.reduceLT, Nat.reduceEqDiff, Nat.reduceLeDiff, Nat.reduceSub, Nat.reduceMul, Try.f19]
  refine V.call rfl rfl (by simp [dOK]) ⟨28, [], by simp only [go_sem, ↓reduceIte, reduceCtorEq, Bool.false_eq_true, Bool.true_eq_false, Nat.reduceAdd, Nat.reduceLT, Nat.reduceEqDiff, Nat.reduceLeDiff, Nat.reduceSub, Nat.reduceMul], ⟨_, rfl, rfl, rfl⟩, .inl ⟨[.row (l.map Pair.pv)], _, .inl (by simp only [go_sem, ↓reduceIte, reduceCtorEq, Bool.false_eq_true, Bool.true_eq_false, Nat.reduceAdd, Nat.reduceLT, Nat.reduceEqDiff, Nat.reduceLeDiff, Nat.reduceSub, Nat.reduceMul]), ref10_Right l (by omega), .inl ⟨_, rfl, rfl, rfl, rfl⟩⟩⟩ ?_
  refine V.exec 400 ?_
  simp (config := {contextual := true}) only [go_sem, ↓reduceIte, reduceCtorEq, Bool.false_eq_true, Bool.true_eq_false, Nat.reduceAdd, Nat.reduceLT, Nat.reduceEqDiff, Nat.reduceLeDiff, Nat.reduceSub, Nat.reduceMul, hwn]
  refine V.loop (fun m ls os => ∃ (i : Nat) (ok : Bool) (cur : List Pair), i ≤ cs.length ∧ m = cs.length - i ∧ (ok = true → pairsOk cur ∧ cur.length ≤ l.length + i ∧ pairsOk l ∧ doGo cur (ds.drop i) = doGo l ds) ∧ (ok = false → doV l ds = (l, 1)) ∧
        ls = [(0, .val (.row (l.map Pair.pv))), (1, .val (.row (cs.map Change.pv))), (6, .val (.bool (decide (ok = true)))), (7, .val (.row (cur.map Pair.pv))), (8, .val (.int .i64 ((cs.length : Int) - 1 - i)))] ∧ os = []) 0 cs.length
      [(0, .val (.row (l.map Pair.pv))), (1, .val (.row (cs.map Change.pv))), (6, .val (.bool (decide (decide (pairsOk l) = true)))), (7, .val (.row (l.map Pair.pv))), (8, .val (.int .i64 ((cs.length : Int) - 1)))] [] []
      ⟨0, decide (pairsOk l), l, Nat.zero_le _, rfl, fun h => ⟨by simpa using h, Nat.le_refl _, by simpa using h, rfl⟩, fun h => by unfold doV; rw [if_neg (by simpa using h)], by simp, rfl⟩ (by simp only [go_sem, ↓reduceIte, reduceCtorEq, Bool.false_eq_true, Bool.true_eq_false, Nat.reduceAdd, Nat.reduceLT, Nat.reduceEqDiff, Nat.reduceLeDiff, Nat.reduceSub, Nat.reduceMul, decide_eq_true_eq, Int.sub_zero, Int.natCast_zero]) ?_
  rintro m ls os ⟨i, ok, cur, hi, rfl, hgood, hbad, rfl, rfl⟩
  refine V.exec 400 ?_
  cases ok with
  | false =>
    have hv := hbad rfl
    by_cases hlt : (0 : Int) ≤ (cs.length : Int) - 1 - i
    · simp (config := {contextual := true}) only [go_sem, ↓reduceIte, reduceCtorEq, Bool.false_eq_true, Bool.true_eq_false, Nat.reduceAdd, Nat.reduceLT, Nat.reduceEqDiff, Nat.reduceLeDiff, Nat.reduceSub, Nat.reduceMul, hlt, hv, decide_false]
      rfl
    · simp (config := {contextual := true}) only [go_sem, ↓reduceIte, reduceCtorEq, Bool.false_eq_true, Bool.true_eq_false, Nat.reduceAdd, Nat.reduceLT, Nat.reduceEqDiff, Nat.reduceLeDiff, Nat.reduceSub, Nat.reduceMul, hlt, hv, decide_false]
      rfl
  | true =>
    obtain ⟨hco, hcl, hok, hca⟩ := hgood rfl
    by_cases hlt : i < cs.length
    · have hlt' : (0 : Int) ≤ (cs.length : Int) - 1 - i := by omega
      have hnat : ((cs.length : Int) - 1 - i).toNat = cs.length - 1 - i := by omega
      obtain ⟨z, hx⟩ : ∃ x, cs[cs.length - 1 - i]? = some x := ⟨_, List.getElem?_eq_getElem (by omega)⟩
      obtain ⟨x, hxz⟩ : ∃ x, x = turnC z := ⟨_, rfl⟩
      have hdx : ds[i]? = some x := by rw [hds, List.getElem?_map, List.getElem?_reverse hlt, hx, hxz]; rfl
      have hzo : z.ok ↔ x.ok := by rw [hxz]; exact (turn_ok z).symm
      have z1 : z.key = x.key := by rw [hxz]; rfl
      have z2 : z.had = x.has := by rw [hxz]; rfl
      have z3 : z.bef = x.aft := by rw [hxz]; rfl
      have z4 : z.has = x.had := by rw [hxz]; rfl
      have z5 : z.aft = x.bef := by rw [hxz]; rfl
      have hw : IntKind.i64.wrap ((cs.length : Int) - 1 - i - 1) = (cs.length : Int) - 1 - ((i + 1 : Nat) : Int) := by rw [wrap_small3] <;> omega
      have hsc := ((pairsOk_iff cur).1 hco).1
      rw [drop_of_get hdx, doGo] at hca
      simp (config := {contextual := true}) only [go_sem, ↓reduceIte, reduceCtorEq, Bool.false_eq_true, Bool.true_eq_false, Nat.reduceAdd, Nat.reduceLT, Nat.reduceEqDiff, Nat.reduceLeDiff, Nat.reduceSub, Nat.reduceMul, hlt', hnat, hx, Change.pv, decide_true]
      refine DV.call [] [] (by simp only [go_sem, ↓reduceIte, reduceCtorEq, Bool.false_eq_true, Bool.true_eq_false, Nat.reduceAdd, Nat.reduceLT, Nat.reduceEqDiff, Nat.reduceLeDiff, Nat.reduceSub, Nat.reduceMul, Change.pv]) (by simp [dOK]) ⟨35, [], by simp only [go_sem, ↓reduceIte, reduceCtorEq, Bool.false_eq_true, Bool.true_eq_false, Nat.reduceAdd, Nat.reduceLT, Nat.reduceEqDiff, Nat.reduceLeDiff, Nat.reduceSub, Nat.reduceMul, Change.pv], ⟨_, rfl, rfl, rfl⟩, .inl ⟨[z.pv], _, .inl (by simp only [go_sem, ↓reduceIte, reduceCtorEq, Bool.false_eq_true, Bool.true_eq_false, Nat.reduceAdd, Nat.reduceLT, Nat.reduceEqDiff, Nat.reduceLeDiff, Nat.reduceSub, Nat.reduceMul, Change.pv]), ref13_May z, .inl ⟨_, rfl, rfl, rfl, rfl⟩⟩⟩ (by simp only [go_sem, ↓reduceIte, reduceCtorEq, Bool.false_eq_true, Bool.true_eq_false, Nat.reduceAdd, Nat.reduceLT, Nat.reduceEqDiff, Nat.reduceLeDiff, Nat.reduceSub, Nat.reduceMul, Change.pv]) (by simp only [go_sem, ↓reduceIte, reduceCtorEq, Bool.false_eq_true, Bool.true_eq_false, Nat.reduceAdd, Nat.reduceLT, Nat.reduceEqDiff, Nat.reduceLeDiff, Nat.reduceSub, Nat.reduceMul, Change.pv]) (by simp only [go_sem, ↓reduceIte, reduceCtorEq, Bool.false_eq_true, Bool.true_eq_false, Nat.reduceAdd, Nat.reduceLT, Nat.reduceEqDiff, Nat.reduceLeDiff, Nat.reduceSub, Nat.reduceMul, Change.pv]) (by simp) ?_
      refine DV.exec 400 ?_
      rw [show decide z.ok = decide x.ok from decide_eq_decide.2 hzo]
      simp (config := {contextual := true}) only [go_sem, ↓reduceIte, reduceCtorEq, Bool.false_eq_true, Bool.true_eq_false, Nat.reduceAdd, Nat.reduceLT, Nat.reduceEqDiff, Nat.reduceLeDiff, Nat.reduceSub, Nat.reduceMul, hlt', hnat, hx, Change.pv, z1, z2, z3, z4, z5]
      refine DV.call [] [] (by simp only [go_sem, ↓reduceIte, reduceCtorEq, Bool.false_eq_true, Bool.true_eq_false, Nat.reduceAdd, Nat.reduceLT, Nat.reduceEqDiff, Nat.reduceLeDiff, Nat.reduceSub, Nat.reduceMul]) (by simp [dOK]) ⟨37, [], by simp only [go_sem, ↓reduceIte, reduceCtorEq, Bool.false_eq_true, Bool.true_eq_false, Nat.reduceAdd, Nat.reduceLT, Nat.reduceEqDiff, Nat.reduceLeDiff, Nat.reduceSub, Nat.reduceMul], ⟨_, rfl, rfl, rfl⟩, .inl ⟨[.row (cur.map Pair.pv), .str x.key, .bool (decide (x.had = true)), .str x.bef], _, .inl (by simp only [go_sem, ↓reduceIte, reduceCtorEq, Bool.false_eq_true, Bool.true_eq_false, Nat.reduceAdd, Nat.reduceLT, Nat.reduceEqDiff, Nat.reduceLeDiff, Nat.reduceSub, Nat.reduceMul]), ref15_fits cur x.key x.had x.bef (by omega) hsc, .inl ⟨_, rfl, rfl, rfl, rfl⟩⟩⟩ (by simp only [go_sem, ↓reduceIte, reduceCtorEq, Bool.false_eq_true, Bool.true_eq_false, Nat.reduceAdd, Nat.reduceLT, Nat.reduceEqDiff, Nat.reduceLeDiff, Nat.reduceSub, Nat.reduceMul]) (by simp only [go_sem, ↓reduceIte, reduceCtorEq, Bool.false_eq_true, Bool.true_eq_false, Nat.reduceAdd, Nat.reduceLT, Nat.reduceEqDiff, Nat.reduceLeDiff, Nat.reduceSub, Nat.reduceMul]) (by simp only [go_sem, ↓reduceIte, reduceCtorEq, Bool.false_eq_true, Bool.true_eq_false, Nat.reduceAdd, Nat.reduceLT, Nat.reduceEqDiff, Nat.reduceLeDiff, Nat.reduceSub, Nat.reduceMul]) (by simp) ?_
      refine DV.exec 400 ?_
      have cs0 := ref15_set cur x.key x.has x.aft (by omega)
      have hsl := setR_len cur x.key x.has x.aft
      by_cases hm : x.ok
      · by_cases hf : fitsP cur x.key x.had x.bef
        · have hgo := if_pos (c := x.ok ∧ fitC cur x) ⟨hm, (fits_iff hco hm).1 hf⟩ ▸ hca
          rw [setR_note hsc x] at cs0 hsl
          have hoo := oneV_pairsOk hco (noteC_ok hm)
          simp (config := {contextual := true}) only [go_sem, ↓reduceIte, reduceCtorEq, Bool.false_eq_true, Bool.true_eq_false, Nat.reduceAdd, Nat.reduceLT, Nat.reduceEqDiff, Nat.reduceLeDiff, Nat.reduceSub, Nat.reduceMul, hlt', hnat, hx, hm, hf, Change.pv, z1, z2, z3, z4, z5]
          refine ⟨by kernel_rfl, ?_⟩
          refine DV.call [] [] (by simp only [go_sem, ↓reduceIte, reduceCtorEq, Bool.false_eq_true, Bool.true_eq_false, Nat.reduceAdd, Nat.reduceLT, Nat.reduceEqDiff, Nat.reduceLeDiff, Nat.reduceSub, Nat.reduceMul]) (by simp [dOK]) ⟨38, [], by simp only [go_sem, ↓reduceIte, reduceCtorEq, Bool.false_eq_true, Bool.true_eq_false, Nat.reduceAdd, Nat.reduceLT, Nat.reduceEqDiff, Nat.reduceLeDiff, Nat.reduceSub, Nat.reduceMul], ⟨_, rfl, rfl, rfl⟩, .inl ⟨[.row (cur.map Pair.pv), .str x.key, .bool (decide (x.has = true)), .str x.aft], _, .inl (by simp only [go_sem, ↓reduceIte, reduceCtorEq, Bool.false_eq_true, Bool.true_eq_false, Nat.reduceAdd, Nat.reduceLT, Nat.reduceEqDiff, Nat.reduceLeDiff, Nat.reduceSub, Nat.reduceMul]), cs0, .inr (.inl ⟨_, rfl, rfl, rfl⟩)⟩⟩ (by simp only [go_sem, ↓reduceIte, reduceCtorEq, Bool.false_eq_true, Bool.true_eq_false, Nat.reduceAdd, Nat.reduceLT, Nat.reduceEqDiff, Nat.reduceLeDiff, Nat.reduceSub, Nat.reduceMul]) (by simp only [go_sem, ↓reduceIte, reduceCtorEq, Bool.false_eq_true, Bool.true_eq_false, Nat.reduceAdd, Nat.reduceLT, Nat.reduceEqDiff, Nat.reduceLeDiff, Nat.reduceSub, Nat.reduceMul]) (by simp only [go_sem, ↓reduceIte, reduceCtorEq, Bool.false_eq_true, Bool.true_eq_false, Nat.reduceAdd, Nat.reduceLT, Nat.reduceEqDiff, Nat.reduceLeDiff, Nat.reduceSub, Nat.reduceMul]) (by simp) ?_
          refine DV.exec 400 ?_
          simp (config := {contextual := true}) only [go_sem, ↓reduceIte, reduceCtorEq, Bool.false_eq_true, Bool.true_eq_false, Nat.reduceAdd, Nat.reduceLT, Nat.reduceEqDiff, Nat.reduceLeDiff, Nat.reduceSub, Nat.reduceMul, hw]
          refine ⟨by kernel_rfl, cs.length - (i + 1), _, [], [], by omega, ⟨i + 1, true, _, by omega, rfl, fun _ => ⟨hoo, by omega, hok, hgo⟩, fun h => (by cases h), rfl, rfl⟩, ?_⟩
          simp only [go_sem, ↓reduceIte, reduceCtorEq, Bool.false_eq_true, Bool.true_eq_false, Nat.reduceAdd, Nat.reduceLT, Nat.reduceEqDiff, Nat.reduceLeDiff, Nat.reduceSub, Nat.reduceMul, decide_true]
        · have hv : doV l ds = (l, 1) := by
            rw [if_neg (fun h => hf ((fits_iff hco h.1).2 h.2))] at hca
            unfold doV; rw [if_pos hok, ← hca]
          simp (config := {contextual := true}) only [go_sem, ↓reduceIte, reduceCtorEq, Bool.false_eq_true, Bool.true_eq_false, Nat.reduceAdd, Nat.reduceLT, Nat.reduceEqDiff, Nat.reduceLeDiff, Nat.reduceSub, Nat.reduceMul, hlt', hnat, hx, hm, hf, Change.pv, z1, z2, z3, z4, z5]
          refine ⟨by kernel_rfl, ?_⟩
          refine DV.call [] [] (by simp only [go_sem, ↓reduceIte, reduceCtorEq, Bool.false_eq_true, Bool.true_eq_false, Nat.reduceAdd, Nat.reduceLT, Nat.reduceEqDiff, Nat.reduceLeDiff, Nat.reduceSub, Nat.reduceMul]) (by simp [dOK]) ⟨38, [], by simp only [go_sem, ↓reduceIte, reduceCtorEq, Bool.false_eq_true, Bool.true_eq_false, Nat.reduceAdd, Nat.reduceLT, Nat.reduceEqDiff, Nat.reduceLeDiff, Nat.reduceSub, Nat.reduceMul], ⟨_, rfl, rfl, rfl⟩, .inl ⟨[.row (cur.map Pair.pv), .str x.key, .bool (decide (x.has = true)), .str x.aft], _, .inl (by simp only [go_sem, ↓reduceIte, reduceCtorEq, Bool.false_eq_true, Bool.true_eq_false, Nat.reduceAdd, Nat.reduceLT, Nat.reduceEqDiff, Nat.reduceLeDiff, Nat.reduceSub, Nat.reduceMul]), cs0, .inr (.inl ⟨_, rfl, rfl, rfl⟩)⟩⟩ (by simp only [go_sem, ↓reduceIte, reduceCtorEq, Bool.false_eq_true, Bool.true_eq_false, Nat.reduceAdd, Nat.reduceLT, Nat.reduceEqDiff, Nat.reduceLeDiff, Nat.reduceSub, Nat.reduceMul]) (by simp only [go_sem, ↓reduceIte, reduceCtorEq, Bool.false_eq_true, Bool.true_eq_false, Nat.reduceAdd, Nat.reduceLT, Nat.reduceEqDiff, Nat.reduceLeDiff, Nat.reduceSub, Nat.reduceMul]) (by simp only [go_sem, ↓reduceIte, reduceCtorEq, Bool.false_eq_true, Bool.true_eq_false, Nat.reduceAdd, Nat.reduceLT, Nat.reduceEqDiff, Nat.reduceLeDiff, Nat.reduceSub, Nat.reduceMul]) (by simp) ?_
          refine DV.exec 400 ?_
          simp (config := {contextual := true}) only [go_sem, ↓reduceIte, reduceCtorEq, Bool.false_eq_true, Bool.true_eq_false, Nat.reduceAdd, Nat.reduceLT, Nat.reduceEqDiff, Nat.reduceLeDiff, Nat.reduceSub, Nat.reduceMul, hw]
          refine ⟨by kernel_rfl, cs.length - (i + 1), _, [], [], by omega, ⟨i + 1, false, setR cur x.key x.has x.aft, by omega, rfl, fun h => (by cases h), fun _ => hv, rfl, rfl⟩, ?_⟩
          simp only [go_sem, ↓reduceIte, reduceCtorEq, Bool.false_eq_true, Bool.true_eq_false, Nat.reduceAdd, Nat.reduceLT, Nat.reduceEqDiff, Nat.reduceLeDiff, Nat.reduceSub, Nat.reduceMul, decide_false]
      · have hv : doV l ds = (l, 1) := by
          rw [if_neg (fun h => hm h.1)] at hca
          unfold doV; rw [if_pos hok, ← hca]
        simp (config := {contextual := true}) only [go_sem, ↓reduceIte, reduceCtorEq, Bool.false_eq_true, Bool.true_eq_false, Nat.reduceAdd, Nat.reduceLT, Nat.reduceEqDiff, Nat.reduceLeDiff, Nat.reduceSub, Nat.reduceMul, hlt', hnat, hx, hm, Change.pv, z1, z2, z3, z4, z5]
        refine ⟨by kernel_rfl, ?_⟩
        refine DV.call [] [] (by simp only [go_sem, ↓reduceIte, reduceCtorEq, Bool.false_eq_true, Bool.true_eq_false, Nat.reduceAdd, Nat.reduceLT, Nat.reduceEqDiff, Nat.reduceLeDiff, Nat.reduceSub, Nat.reduceMul]) (by simp [dOK]) ⟨38, [], by simp only [go_sem, ↓reduceIte, reduceCtorEq, Bool.false_eq_true, Bool.true_eq_false, Nat.reduceAdd, Nat.reduceLT, Nat.reduceEqDiff, Nat.reduceLeDiff, Nat.reduceSub, Nat.reduceMul], ⟨_, rfl, rfl, rfl⟩, .inl ⟨[.row (cur.map Pair.pv), .str x.key, .bool (decide (x.has = true)), .str x.aft], _, .inl (by simp only [go_sem, ↓reduceIte, reduceCtorEq, Bool.false_eq_true, Bool.true_eq_false, Nat.reduceAdd, Nat.reduceLT, Nat.reduceEqDiff, Nat.reduceLeDiff, Nat.reduceSub, Nat.reduceMul]), cs0, .inr (.inl ⟨_, rfl, rfl, rfl⟩)⟩⟩ (by simp only [go_sem, ↓reduceIte, reduceCtorEq, Bool.false_eq_true, Bool.true_eq_false, Nat.reduceAdd, Nat.reduceLT, Nat.reduceEqDiff, Nat.reduceLeDiff, Nat.reduceSub, Nat.reduceMul]) (by simp only [go_sem, ↓reduceIte, reduceCtorEq, Bool.false_eq_true, Bool.true_eq_false, Nat.reduceAdd, Nat.reduceLT, Nat.reduceEqDiff, Nat.reduceLeDiff, Nat.reduceSub, Nat.reduceMul]) (by simp only [go_sem, ↓reduceIte, reduceCtorEq, Bool.false_eq_true, Bool.true_eq_false, Nat.reduceAdd, Nat.reduceLT, Nat.reduceEqDiff, Nat.reduceLeDiff, Nat.reduceSub, Nat.reduceMul]) (by simp) ?_
        refine DV.exec 400 ?_
        simp (config := {contextual := true}) only [go_sem, ↓reduceIte, reduceCtorEq, Bool.false_eq_true, Bool.true_eq_false, Nat.reduceAdd, Nat.reduceLT, Nat.reduceEqDiff, Nat.reduceLeDiff, Nat.reduceSub, Nat.reduceMul, hw]
        refine ⟨by kernel_rfl, cs.length - (i + 1), _, [], [], by omega, ⟨i + 1, false, setR cur x.key x.has x.aft, by omega, rfl, fun h => (by cases h), fun _ => hv, rfl, rfl⟩, ?_⟩
        simp only [go_sem, ↓reduceIte, reduceCtorEq, Bool.false_eq_true, Bool.true_eq_false, Nat.reduceAdd, Nat.reduceLT, Nat.reduceEqDiff, Nat.reduceLeDiff, Nat.reduceSub, Nat.reduceMul, decide_false]
    · have hlt' : ¬ (0 : Int) ≤ (cs.length : Int) - 1 - i := by omega
      have hd : ds.drop i = [] := List.drop_eq_nil_of_le (by rw [hdl]; omega)
      rw [hd, doGo] at hca
      have hv : doV l ds = (cur, 0) := by unfold doV; rw [if_pos hok, ← hca]
      simp (config := {contextual := true}) only [go_sem, ↓reduceIte, reduceCtorEq, Bool.false_eq_true, Bool.true_eq_false, Nat.reduceAdd, Nat.reduceLT, Nat.reduceEqDiff, Nat.reduceLeDiff, Nat.reduceSub, Nat.reduceMul, hlt', hv, decide_true]
end Go.Proofs.Ytmdjkbhbpddjnaa
set_option linter.unusedVariables false
set_option linter.unusedSimpArgs false
namespace Go.Proofs.Ytmdjkbhbpddjnaa
open Go Go.Proofs Go.Proofs.YtmdjkbhbpddjnaaVm Go.Proofs.Ytmdjkbhbpddjnaa.Ty

set_option maxRecDepth 10000 in
set_option maxHeartbeats 16000000 in
theorem ref15_Join (a b : Change) : Ct Try.prog 15 (YtmdjkbhbpddjnaaVm.ops [a.pv, b.pv]) (.vals [(joinV a b).1.pv, .int .i64 (joinV a b).2]) := by
  have hbad : ¬ joinOk a b → joinV a b = (Change.zero, 1) := fun h => by unfold joinV; rw [if_neg h]
  refine Ct.of_V Try.func15 rfl (by simp [YtmdjkbhbpddjnaaVm.ops, Try.f15]) ?_
  refine V.exec 400 ?_
  simp (config := {contextual := true}) only [go_sem, ↓reduceIte, reduceCtorEq, Bool.false_eq_true, Bool.true_eq_false, Nat.reduceAdd, Nat.reduceLT, Nat.reduceEqDiff, Nat.reduceLeDiff, Nat.reduceSub, Nat.reduceMul, Try.f15, Change.pv]
  refine DV.call [] [] (by simp only [go_sem, ↓reduceIte, reduceCtorEq, Bool.false_eq_true, Bool.true_eq_false, Nat.reduceAdd, Nat.reduceLT, Nat.reduceEqDiff, Nat.reduceLeDiff, Nat.reduceSub, Nat.reduceMul, Change.pv]) (by simp [dOK]) ⟨35, [], by simp only [go_sem, ↓reduceIte, reduceCtorEq, Bool.false_eq_true, Bool.true_eq_false, Nat.reduceAdd, Nat.reduceLT, Nat.reduceEqDiff, Nat.reduceLeDiff, Nat.reduceSub, Nat.reduceMul, Change.pv], ⟨_, rfl, rfl, rfl⟩, .inl ⟨[a.pv], _, .inl (by simp only [go_sem, ↓reduceIte, reduceCtorEq, Bool.false_eq_true, Bool.true_eq_false, Nat.reduceAdd, Nat.reduceLT, Nat.reduceEqDiff, Nat.reduceLeDiff, Nat.reduceSub, Nat.reduceMul, Change.pv]), ref13_May a, .inl ⟨_, rfl, rfl, rfl, rfl⟩⟩⟩ (by simp only [go_sem, ↓reduceIte, reduceCtorEq, Bool.false_eq_true, Bool.true_eq_false, Nat.reduceAdd, Nat.reduceLT, Nat.reduceEqDiff, Nat.reduceLeDiff, Nat.reduceSub, Nat.reduceMul, Change.pv]) (by simp only [go_sem, ↓reduceIte, reduceCtorEq, Bool.false_eq_true, Bool.true_eq_false, Nat.reduceAdd, Nat.reduceLT, Nat.reduceEqDiff, Nat.reduceLeDiff, Nat.reduceSub, Nat.reduceMul, Change.pv]) (by simp only [go_sem, ↓reduceIte, reduceCtorEq, Bool.false_eq_true, Bool.true_eq_false, Nat.reduceAdd, Nat.reduceLT, Nat.reduceEqDiff, Nat.reduceLeDiff, Nat.reduceSub, Nat.reduceMul, Change.pv]) (by simp) ?_
  refine DV.exec 400 ?_
  simp (config := {contextual := true}) only [go_sem, ↓reduceIte, reduceCtorEq, Bool.false_eq_true, Bool.true_eq_false, Nat.reduceAdd, Nat.reduceLT, Nat.reduceEqDiff, Nat.reduceLeDiff, Nat.reduceSub, Nat.reduceMul, Change.pv]
  refine DV.call [] [] (by simp only [go_sem, ↓reduceIte, reduceCtorEq, Bool.false_eq_true, Bool.true_eq_false, Nat.reduceAdd, Nat.reduceLT, Nat.reduceEqDiff, Nat.reduceLeDiff, Nat.reduceSub, Nat.reduceMul, Change.pv]) (by simp [dOK]) ⟨35, [], by simp only [go_sem, ↓reduceIte, reduceCtorEq, Bool.false_eq_true, Bool.true_eq_false, Nat.reduceAdd, Nat.reduceLT, Nat.reduceEqDiff, Nat.reduceLeDiff, Nat.reduceSub, Nat.reduceMul, Change.pv], ⟨_, rfl, rfl, rfl⟩, .inl ⟨[b.pv], _, .inl (by simp only [go_sem, ↓reduceIte, reduceCtorEq, Bool.false_eq_true, Bool.true_eq_false, Nat.reduceAdd, Nat.reduceLT, Nat.reduceEqDiff, Nat.reduceLeDiff, Nat.reduceSub, Nat.reduceMul, Change.pv]), ref13_May b, .inl ⟨_, rfl, rfl, rfl, rfl⟩⟩⟩ (by simp only [go_sem, ↓reduceIte, reduceCtorEq, Bool.false_eq_true, Bool.true_eq_false, Nat.reduceAdd, Nat.reduceLT, Nat.reduceEqDiff, Nat.reduceLeDiff, Nat.reduceSub, Nat.reduceMul, Change.pv]) (by simp only [go_sem, ↓reduceIte, reduceCtorEq, Bool.false_eq_true, Bool.true_eq_false, Nat.reduceAdd, Nat.reduceLT, Nat.reduceEqDiff, Nat.reduceLeDiff, Nat.reduceSub, Nat.reduceMul, Change.pv]) (by simp only [go_sem, ↓reduceIte, reduceCtorEq, Bool.false_eq_true, Bool.true_eq_false, Nat.reduceAdd, Nat.reduceLT, Nat.reduceEqDiff, Nat.reduceLeDiff, Nat.reduceSub, Nat.reduceMul, Change.pv]) (by simp) ?_
  refine DV.exec 400 ?_
  by_cases h1 : a.ok
  · by_cases h2 : b.ok
    · by_cases h3 : a.key = b.key
      · by_cases h4 : b.seq ≤ a.seq
        · have hv := hbad fun h => by have := h.2.2.2.1; omega
          simp (config := {contextual := true}) only [go_sem, ↓reduceIte, reduceCtorEq, Bool.false_eq_true, Bool.true_eq_false, Nat.reduceAdd, Nat.reduceLT, Nat.reduceEqDiff, Nat.reduceLeDiff, Nat.reduceSub, Nat.reduceMul, h1, h2, h3, h4, hv, Change.zero, Change.pv, decide_false, decide_true]
          kernel_rfl
        · obtain ⟨s1, k1, p1, b1, q1, a1⟩ := a
          obtain ⟨s2, k2, p2, b2, q2, a2⟩ := b
          simp only at h3 h4
          subst h3
          by_cases h5 : q1 = p2
          · subst h5
            by_cases h6 : a1 = b2
            · subst h6
              have hv : joinV ⟨s1, k1, p1, b1, q1, a1⟩ ⟨s2, k1, q1, a1, q2, a2⟩ = madeV s2 k1 (b1, p1) (a2, q2) := by unfold joinV; rw [if_pos ⟨h1, h2, rfl, by simp only; omega, rfl, rfl⟩]
              rw [hv]
              cases p1 with
              | true =>
                have e : madeV s2 k1 (b1, true) (a2, q2) = (⟨s2, k1, true, b1, q2, a2⟩, 0) := rfl
                rw [e]
                simp (config := {contextual := true}) only [go_sem, ↓reduceIte, reduceCtorEq, Bool.false_eq_true, Bool.true_eq_false, Nat.reduceAdd, Nat.reduceLT, Nat.reduceEqDiff, Nat.reduceLeDiff, Nat.reduceSub, Nat.reduceMul, h1, h2, h4, Change.pv, decide_true, not_true_eq_false, beq_self_eq_true]
                kernel_rfl
              | false =>
                cases q2 with
                | true =>
                  have e : madeV s2 k1 (b1, false) (a2, true) = (⟨s2, k1, false, b1, true, a2⟩, 0) := rfl
                  rw [e]
                  simp (config := {contextual := true}) only [go_sem, ↓reduceIte, reduceCtorEq, Bool.false_eq_true, Bool.true_eq_false, Nat.reduceAdd, Nat.reduceLT, Nat.reduceEqDiff, Nat.reduceLeDiff, Nat.reduceSub, Nat.reduceMul, h1, h2, h4, Change.pv, decide_true, decide_false, not_true_eq_false, beq_self_eq_true]
                  kernel_rfl
                | false =>
                  have e : madeV s2 k1 (b1, false) (a2, false) = (Change.zero, 3) := rfl
                  rw [e]
                  simp (config := {contextual := true}) only [go_sem, ↓reduceIte, reduceCtorEq, Bool.false_eq_true, Bool.true_eq_false, Nat.reduceAdd, Nat.reduceLT, Nat.reduceEqDiff, Nat.reduceLeDiff, Nat.reduceSub, Nat.reduceMul, h1, h2, h4, Change.pv, Change.zero, decide_true, decide_false, not_true_eq_false, beq_self_eq_true]
                  kernel_rfl
            · have hv := hbad fun h => h6 h.2.2.2.2.1
              simp (config := {contextual := true}) only [go_sem, ↓reduceIte, reduceCtorEq, Bool.false_eq_true, Bool.true_eq_false, Nat.reduceAdd, Nat.reduceLT, Nat.reduceEqDiff, Nat.reduceLeDiff, Nat.reduceSub, Nat.reduceMul, h1, h2, h4, h6, hv, Change.zero, Change.pv, decide_false, decide_true, beq_self_eq_true, not_true_eq_false]
              kernel_rfl
          · have hv := hbad fun h => h5 h.2.2.2.2.2
            have h5' : ¬ (decide (q1 = true) == decide (p2 = true)) = true := by cases q1 <;> cases p2 <;> simp at h5 ⊢
            simp (config := {contextual := true}) only [go_sem, ↓reduceIte, reduceCtorEq, Bool.false_eq_true, Bool.true_eq_false, Nat.reduceAdd, Nat.reduceLT, Nat.reduceEqDiff, Nat.reduceLeDiff, Nat.reduceSub, Nat.reduceMul, h1, h2, h4, h5', hv, Change.zero, Change.pv, decide_false, decide_true]
            kernel_rfl
      · have hv := hbad fun h => h3 h.2.2.1
        simp (config := {contextual := true}) only [go_sem, ↓reduceIte, reduceCtorEq, Bool.false_eq_true, Bool.true_eq_false, Nat.reduceAdd, Nat.reduceLT, Nat.reduceEqDiff, Nat.reduceLeDiff, Nat.reduceSub, Nat.reduceMul, h1, h2, h3, hv, Change.zero, Change.pv, decide_false, decide_true]
        kernel_rfl
    · have hv := hbad fun h => h2 h.2.1
      simp (config := {contextual := true}) only [go_sem, ↓reduceIte, reduceCtorEq, Bool.false_eq_true, Bool.true_eq_false, Nat.reduceAdd, Nat.reduceLT, Nat.reduceEqDiff, Nat.reduceLeDiff, Nat.reduceSub, Nat.reduceMul, h1, h2, hv, Change.zero, Change.pv, decide_false, decide_true]
      kernel_rfl
  · have hv := hbad fun h => h1 h.1
    simp (config := {contextual := true}) only [go_sem, ↓reduceIte, reduceCtorEq, Bool.false_eq_true, Bool.true_eq_false, Nat.reduceAdd, Nat.reduceLT, Nat.reduceEqDiff, Nat.reduceLeDiff, Nat.reduceSub, Nat.reduceMul, h1, hv, Change.zero, Change.pv, decide_false]
    kernel_rfl

def smallP (l : List Pair) : Prop := l.length ≤ 60 ∧ ∀ p ∈ l, p.key.length ≤ 300 ∧ p.value.length ≤ 300
instance instSmallP (l : List Pair) : Decidable (smallP l) := by unfold smallP; infer_instance
set_option maxHeartbeats 8000000 in
theorem law15_small (l : List Pair) (hl : l.length ≤ 9223372036854775807) : Ct Try.prog 9 (YtmdjkbhbpddjnaaVm.ops [.row (l.map Pair.pv)]) (.vals [.bool (decide (smallP l))]) := by
  refine Ct.of_V Try.func9 rfl (by simp [YtmdjkbhbpddjnaaVm.ops, Try.f9]) ?_
  refine V.exec 400 ?_
  by_cases h60 : l.length ≤ 60
  · have h60' : ¬ (60 : Int) < (l.length : Int) := by omega
    simp (config := {contextual := true}) only [go_sem, ↓reduceIte, reduceCtorEq, Bool.false_eq_true, Bool.true_eq_false, Nat.reduceAdd, Nat.reduceLT, Nat.reduceEqDiff, Nat.reduceLeDiff, Nat.reduceSub, Nat.reduceMul, Try.f9, h60']
    refine V.loop (fun m ls os => ∃ (i : Nat), i ≤ l.length ∧ m = l.length - i ∧ (∀ s ∈ l.take i, s.key.length ≤ 300 ∧ s.value.length ≤ 300) ∧
        ls = [(8, .val (.row (l.map Pair.pv))), (9, .val (.int .i64 l.length)), (10, .val (.int .i64 i))] ∧ os = []) 0 l.length
      [(8, .val (.row (l.map Pair.pv))), (9, .val (.int .i64 l.length)), (10, .val (.int .i64 0))] [] []
      ⟨0, Nat.zero_le _, rfl, by simp, rfl, rfl⟩ (by simp only [go_sem, ↓reduceIte, reduceCtorEq, Bool.false_eq_true, Bool.true_eq_false, Nat.reduceAdd, Nat.reduceLT, Nat.reduceEqDiff, Nat.reduceLeDiff, Nat.reduceSub, Nat.reduceMul]) ?_
    rintro m ls os ⟨i, hi, rfl, hiff, rfl, rfl⟩
    refine V.exec 400 ?_
    by_cases hlt : i < l.length
    · have hlt' : (i : Int) < (l.length : Int) := by omega
      obtain ⟨x, hx⟩ : ∃ x, l[i]? = some x := ⟨_, List.getElem?_eq_getElem hlt⟩
      have hw : IntKind.i64.wrap ((i : Int) + 1) = ((i + 1 : Nat) : Int) := by rw [wrap_small3] <;> omega
      have hxm := List.mem_of_getElem? hx
      have hfalse : ¬ (x.key.length ≤ 300 ∧ x.value.length ≤ 300) → some [PV.bool false] = some [PV.bool (decide (smallP l))] := fun h => by
        have : ¬ smallP l := fun g => h (g.2 x hxm)
        simp [this]
      have hnext : x.key.length ≤ 300 ∧ x.value.length ≤ 300 → ∀ s ∈ l.take (i + 1), s.key.length ≤ 300 ∧ s.value.length ≤ 300 := fun h s hs => by
        rw [List.take_add_one, hx] at hs
        rcases List.mem_append.1 hs with hs | hs
        · exact hiff s hs
        · simp at hs; rw [hs]; exact h
      simp (config := {contextual := true}) only [go_sem, ↓reduceIte, reduceCtorEq, Bool.false_eq_true, Bool.true_eq_false, Nat.reduceAdd, Nat.reduceLT, Nat.reduceEqDiff, Nat.reduceLeDiff, Nat.reduceSub, Nat.reduceMul, hlt', hx, Pair.pv, hw]
      (repeat' (first | (intro _) | (refine ⟨by kernel_rfl, ?_⟩) | (apply And.intro)))
      all_goals first
        | exact ⟨l.length - (i + 1), _, [], [], by omega, ⟨i + 1, by omega, rfl, hnext ⟨by omega, by omega⟩, rfl, rfl⟩, by simp only [go_sem, ↓reduceIte, reduceCtorEq, Bool.false_eq_true, Bool.true_eq_false, Nat.reduceAdd, Nat.reduceLT, Nat.reduceEqDiff, Nat.reduceLeDiff, Nat.reduceSub, Nat.reduceMul]⟩
        | exact hfalse fun h => by have := h.1; have := h.2; omega
    · have hlt' : ¬ (i : Int) < (l.length : Int) := by omega
      simp (config := {contextual := true}) only [go_sem, ↓reduceIte, reduceCtorEq, Bool.false_eq_true, Bool.true_eq_false, Nat.reduceAdd, Nat.reduceLT, Nat.reduceEqDiff, Nat.reduceLeDiff, Nat.reduceSub, Nat.reduceMul, hlt']
      rw [List.take_of_length_le (by omega)] at hiff
      have : smallP l := ⟨h60, hiff⟩
      simp [this]
  · have h60' : (60 : Int) < (l.length : Int) := by omega
    have : ¬ smallP l := fun h => h60 h.1
    simp (config := {contextual := true}) only [go_sem, ↓reduceIte, reduceCtorEq, Bool.false_eq_true, Bool.true_eq_false, Nat.reduceAdd, Nat.reduceLT, Nat.reduceEqDiff, Nat.reduceLeDiff, Nat.reduceSub, Nat.reduceMul, Try.f9, h60']
    simp [this]
def fewC (l : List Change) : Prop := l.length ≤ 60 ∧ ∀ p ∈ l, p.key.length ≤ 300 ∧ p.bef.length ≤ 300 ∧ p.aft.length ≤ 300
instance instFewC (l : List Change) : Decidable (fewC l) := by unfold fewC; infer_instance

set_option maxHeartbeats 8000000 in
theorem law15_few (l : List Change) (hl : l.length ≤ 9223372036854775807) : Ct Try.prog 10 (YtmdjkbhbpddjnaaVm.ops [.row (l.map Change.pv)]) (.vals [.bool (decide (fewC l))]) := by
  refine Ct.of_V Try.func10 rfl (by simp [YtmdjkbhbpddjnaaVm.ops, Try.f10]) ?_
  refine V.exec 400 ?_
  by_cases h60 : l.length ≤ 60
  · have h60' : ¬ (60 : Int) < (l.length : Int) := by omega
    simp (config := {contextual := true}) only [go_sem, ↓reduceIte, reduceCtorEq, Bool.false_eq_true, Bool.true_eq_false, Nat.reduceAdd, Nat.reduceLT, Nat.reduceEqDiff, Nat.reduceLeDiff, Nat.reduceSub, Nat.reduceMul, Try.f10, h60']
    refine V.loop (fun m ls os => ∃ (i : Nat), i ≤ l.length ∧ m = l.length - i ∧ (∀ s ∈ l.take i, s.key.length ≤ 300 ∧ s.bef.length ≤ 300 ∧ s.aft.length ≤ 300) ∧
        ls = [(8, .val (.row (l.map Change.pv))), (9, .val (.int .i64 l.length)), (10, .val (.int .i64 i))] ∧ os = []) 0 l.length
      [(8, .val (.row (l.map Change.pv))), (9, .val (.int .i64 l.length)), (10, .val (.int .i64 0))] [] []
      ⟨0, Nat.zero_le _, rfl, by simp, rfl, rfl⟩ (by simp only [go_sem, ↓reduceIte, reduceCtorEq, Bool.false_eq_true, Bool.true_eq_false, Nat.reduceAdd, Nat.reduceLT, Nat.reduceEqDiff, Nat.reduceLeDiff, Nat.reduceSub, Nat.reduceMul]) ?_
    rintro m ls os ⟨i, hi, rfl, hiff, rfl, rfl⟩
    refine V.exec 400 ?_
    by_cases hlt : i < l.length
    · have hlt' : (i : Int) < (l.length : Int) := by omega
      obtain ⟨x, hx⟩ : ∃ x, l[i]? = some x := ⟨_, List.getElem?_eq_getElem hlt⟩
      have hw : IntKind.i64.wrap ((i : Int) + 1) = ((i + 1 : Nat) : Int) := by rw [wrap_small3] <;> omega
      have hxm := List.mem_of_getElem? hx
      have hfalse : ¬ (x.key.length ≤ 300 ∧ x.bef.length ≤ 300 ∧ x.aft.length ≤ 300) → some [PV.bool false] = some [PV.bool (decide (fewC l))] := fun h => by
        have : ¬ fewC l := fun g => h (g.2 x hxm)
        simp [this]
      have hnext : x.key.length ≤ 300 ∧ x.bef.length ≤ 300 ∧ x.aft.length ≤ 300 → ∀ s ∈ l.take (i + 1), s.key.length ≤ 300 ∧ s.bef.length ≤ 300 ∧ s.aft.length ≤ 300 := fun h s hs => by
        rw [List.take_add_one, hx] at hs
        rcases List.mem_append.1 hs with hs | hs
        · exact hiff s hs
        · simp at hs; rw [hs]; exact h
      simp (config := {contextual := true}) only [go_sem, ↓reduceIte, reduceCtorEq, Bool.false_eq_true, Bool.true_eq_false, Nat.reduceAdd, Nat.reduceLT, Nat.reduceEqDiff, Nat.reduceLeDiff, Nat.reduceSub, Nat.reduceMul, hlt', hx, Change.pv, hw]
      (repeat' (first | (intro _) | (refine ⟨by kernel_rfl, ?_⟩) | (apply And.intro)))
      all_goals first
        | exact ⟨l.length - (i + 1), _, [], [], by omega, ⟨i + 1, by omega, rfl, hnext ⟨by omega, by omega, by omega⟩, rfl, rfl⟩, by simp only [go_sem, ↓reduceIte, reduceCtorEq, Bool.false_eq_true, Bool.true_eq_false, Nat.reduceAdd, Nat.reduceLT, Nat.reduceEqDiff, Nat.reduceLeDiff, Nat.reduceSub, Nat.reduceMul]⟩
        | exact hfalse fun h => by have := h.1; have := h.2.1; have := h.2.2; omega
    · have hlt' : ¬ (i : Int) < (l.length : Int) := by omega
      simp (config := {contextual := true}) only [go_sem, ↓reduceIte, reduceCtorEq, Bool.false_eq_true, Bool.true_eq_false, Nat.reduceAdd, Nat.reduceLT, Nat.reduceEqDiff, Nat.reduceLeDiff, Nat.reduceSub, Nat.reduceMul, hlt']
      rw [List.take_of_length_le (by omega)] at hiff
      have : fewC l := ⟨h60, hiff⟩
      simp [this]
  · have h60' : (60 : Int) < (l.length : Int) := by omega
    have : ¬ fewC l := fun h => h60 h.1
    simp (config := {contextual := true}) only [go_sem, ↓reduceIte, reduceCtorEq, Bool.false_eq_true, Bool.true_eq_false, Nat.reduceAdd, Nat.reduceLT, Nat.reduceEqDiff, Nat.reduceLeDiff, Nat.reduceSub, Nat.reduceMul, Try.f10, h60']
    simp [this]
end Go.Proofs.Ytmdjkbhbpddjnaa
set_option linter.unusedVariables false
set_option linter.unusedSimpArgs false
namespace Go.Proofs.Ytmdjkbhbpddjnaa
open Go Go.Proofs Go.Proofs.YtmdjkbhbpddjnaaVm Go.Proofs.Ytmdjkbhbpddjnaa.Ty

def wP1 : Pair := ⟨[97], [49]⟩
def wP2 : Pair := ⟨[97], [50]⟩
def wN1 : Note := ⟨1, [97], [50], 0⟩
def wN2 : Note := ⟨2, [98], [], 0⟩
def wN3 : Note := ⟨2, [97], [], 0⟩
def wC1 : Change := ⟨4, [97], true, [49], true, [50]⟩
def wC2 : Change := ⟨5, [97], true, [50], false, []⟩
def wC3 : Change := ⟨5, [97], true, [49], false, []⟩
theorem wv1 : ofV [wP1] 4 wN1 = (wC1, 0) := by kernel_rfl
theorem wv2 : doV [wP1] [wC1] = ([wP2], 0) := by kernel_rfl
theorem wv3 : undoV [wP2] [wC1] = ([wP1], 0) := by kernel_rfl
theorem wv4 : doV [wP2] [wC1] = ([wP2], 1) := by kernel_rfl
theorem wv5 : ofV [wP1] 4 wN2 = (Change.zero, 3) := by kernel_rfl
theorem wv6 : ofV [wP2] 5 wN3 = (wC2, 0) := by kernel_rfl
theorem wv7 : joinV wC1 wC2 = (wC3, 0) := by kernel_rfl

set_option maxRecDepth 10000 in
set_option maxHeartbeats 8000000 in
theorem law15_awake : Ct Try.prog 11 (YtmdjkbhbpddjnaaVm.ops []) (.vals [.bool true]) := by
  have c1 := change_Of [wP1] 4 wN1 (by decide)
  rw [wv1] at c1
  have c2 := change_Do [wP1] [wC1] (by decide) (by decide)
  rw [wv2] at c2
  have c3 := change_Undo [wP2] [wC1] (by decide) (by decide)
  rw [wv3] at c3
  have c4 := change_Do [wP2] [wC1] (by decide) (by decide)
  rw [wv4] at c4
  have c5 := change_Of [wP1] 4 wN2 (by decide)
  rw [wv5] at c5
  have c6 := change_Of [wP2] 5 wN3 (by decide)
  rw [wv6] at c6
  have c7 := change_Join wC1 wC2
  rw [wv7] at c7
  simp only at c1 c2 c3 c4 c5 c6 c7
  refine Ct.of_V Try.func11 rfl (by simp [YtmdjkbhbpddjnaaVm.ops, Try.f11]) ?_
  refine V.exec 400 ?_
  simp (config := {contextual := true}) only [go_sem, ↓reduceIte, reduceCtorEq, Bool.false_eq_true, Bool.true_eq_false, Nat.reduceAdd, Nat.reduceLT, Nat.reduceEqDiff, Nat.reduceLeDiff, Nat.reduceSub, Nat.reduceMul, Try.f11]
  refine V.call rfl rfl (by simp [dOK]) ⟨12, [], by simp only [go_sem, ↓reduceIte, reduceCtorEq, Bool.false_eq_true, Bool.true_eq_false, Nat.reduceAdd, Nat.reduceLT, Nat.reduceEqDiff, Nat.reduceLeDiff, Nat.reduceSub, Nat.reduceMul], ⟨_, rfl, rfl, rfl⟩, .inl ⟨[.row ([wP1].map Pair.pv), .int .i64 4, wN1.pv], _, .inl (by simp only [go_sem, ↓reduceIte, reduceCtorEq, Bool.false_eq_true, Bool.true_eq_false, Nat.reduceAdd, Nat.reduceLT, Nat.reduceEqDiff, Nat.reduceLeDiff, Nat.reduceSub, Nat.reduceMul, Note.pv, wN1, wP1, Pair.pv, List.map_cons, List.map_nil]), c1, .inr (.inl ⟨_, rfl, rfl, rfl⟩)⟩⟩ ?_
  refine V.exec 400 ?_
  simp (config := {contextual := true}) only [go_sem, ↓reduceIte, reduceCtorEq, Bool.false_eq_true, Bool.true_eq_false, Nat.reduceAdd, Nat.reduceLT, Nat.reduceEqDiff, Nat.reduceLeDiff, Nat.reduceSub, Nat.reduceMul, wC1, wC2, wC3, wP1, wP2, Change.zero, Change.pv, Pair.pv, List.map_cons, List.map_nil, decide_true, decide_false]
  refine V.call rfl rfl (by simp [dOK]) ⟨16, [], by simp only [go_sem, ↓reduceIte, reduceCtorEq, Bool.false_eq_true, Bool.true_eq_false, Nat.reduceAdd, Nat.reduceLT, Nat.reduceEqDiff, Nat.reduceLeDiff, Nat.reduceSub, Nat.reduceMul], ⟨_, rfl, rfl, rfl⟩, .inl ⟨[.row ([wP1].map Pair.pv), .row ([wC1].map Change.pv)], _, .inl (by simp only [go_sem, ↓reduceIte, reduceCtorEq, Bool.false_eq_true, Bool.true_eq_false, Nat.reduceAdd, Nat.reduceLT, Nat.reduceEqDiff, Nat.reduceLeDiff, Nat.reduceSub, Nat.reduceMul, wC1, wP1, Pair.pv, Change.pv, List.map_cons, List.map_nil, decide_true, decide_false]), c2, .inr (.inl ⟨_, rfl, rfl, rfl⟩)⟩⟩ ?_
  refine V.exec 400 ?_
  simp (config := {contextual := true}) only [go_sem, ↓reduceIte, reduceCtorEq, Bool.false_eq_true, Bool.true_eq_false, Nat.reduceAdd, Nat.reduceLT, Nat.reduceEqDiff, Nat.reduceLeDiff, Nat.reduceSub, Nat.reduceMul, wC1, wC2, wC3, wP1, wP2, Change.zero, Change.pv, Pair.pv, List.map_cons, List.map_nil, decide_true, decide_false]
  refine V.call rfl rfl (by simp [dOK]) ⟨18, [], by simp only [go_sem, ↓reduceIte, reduceCtorEq, Bool.false_eq_true, Bool.true_eq_false, Nat.reduceAdd, Nat.reduceLT, Nat.reduceEqDiff, Nat.reduceLeDiff, Nat.reduceSub, Nat.reduceMul], ⟨_, rfl, rfl, rfl⟩, .inl ⟨[.row ([wP2].map Pair.pv), .row ([wC1].map Change.pv)], _, .inl (by simp only [go_sem, ↓reduceIte, reduceCtorEq, Bool.false_eq_true, Bool.true_eq_false, Nat.reduceAdd, Nat.reduceLT, Nat.reduceEqDiff, Nat.reduceLeDiff, Nat.reduceSub, Nat.reduceMul, wC1, wP2, Pair.pv, Change.pv, List.map_cons, List.map_nil, decide_true, decide_false]), c3, .inr (.inl ⟨_, rfl, rfl, rfl⟩)⟩⟩ ?_
  refine V.exec 400 ?_
  simp (config := {contextual := true}) only [go_sem, ↓reduceIte, reduceCtorEq, Bool.false_eq_true, Bool.true_eq_false, Nat.reduceAdd, Nat.reduceLT, Nat.reduceEqDiff, Nat.reduceLeDiff, Nat.reduceSub, Nat.reduceMul, wC1, wC2, wC3, wP1, wP2, Change.zero, Change.pv, Pair.pv, List.map_cons, List.map_nil, decide_true, decide_false]
  refine V.call rfl rfl (by simp [dOK]) ⟨16, [], by simp only [go_sem, ↓reduceIte, reduceCtorEq, Bool.false_eq_true, Bool.true_eq_false, Nat.reduceAdd, Nat.reduceLT, Nat.reduceEqDiff, Nat.reduceLeDiff, Nat.reduceSub, Nat.reduceMul], ⟨_, rfl, rfl, rfl⟩, .inl ⟨[.row ([wP2].map Pair.pv), .row ([wC1].map Change.pv)], _, .inl (by simp only [go_sem, ↓reduceIte, reduceCtorEq, Bool.false_eq_true, Bool.true_eq_false, Nat.reduceAdd, Nat.reduceLT, Nat.reduceEqDiff, Nat.reduceLeDiff, Nat.reduceSub, Nat.reduceMul, wC1, wP2, Pair.pv, Change.pv, List.map_cons, List.map_nil, decide_true, decide_false]), c4, .inr (.inl ⟨_, rfl, rfl, rfl⟩)⟩⟩ ?_
  refine V.exec 400 ?_
  simp (config := {contextual := true}) only [go_sem, ↓reduceIte, reduceCtorEq, Bool.false_eq_true, Bool.true_eq_false, Nat.reduceAdd, Nat.reduceLT, Nat.reduceEqDiff, Nat.reduceLeDiff, Nat.reduceSub, Nat.reduceMul, wC1, wC2, wC3, wP1, wP2, Change.zero, Change.pv, Pair.pv, List.map_cons, List.map_nil, decide_true, decide_false]
  refine V.call rfl rfl (by simp [dOK]) ⟨12, [], by simp only [go_sem, ↓reduceIte, reduceCtorEq, Bool.false_eq_true, Bool.true_eq_false, Nat.reduceAdd, Nat.reduceLT, Nat.reduceEqDiff, Nat.reduceLeDiff, Nat.reduceSub, Nat.reduceMul], ⟨_, rfl, rfl, rfl⟩, .inl ⟨[.row ([wP1].map Pair.pv), .int .i64 4, wN2.pv], _, .inl (by simp only [go_sem, ↓reduceIte, reduceCtorEq, Bool.false_eq_true, Bool.true_eq_false, Nat.reduceAdd, Nat.reduceLT, Nat.reduceEqDiff, Nat.reduceLeDiff, Nat.reduceSub, Nat.reduceMul, Note.pv, wN2, wP1, Pair.pv, List.map_cons, List.map_nil]), c5, .inr (.inl ⟨_, rfl, rfl, rfl⟩)⟩⟩ ?_
  refine V.exec 400 ?_
  simp (config := {contextual := true}) only [go_sem, ↓reduceIte, reduceCtorEq, Bool.false_eq_true, Bool.true_eq_false, Nat.reduceAdd, Nat.reduceLT, Nat.reduceEqDiff, Nat.reduceLeDiff, Nat.reduceSub, Nat.reduceMul, wC1, wC2, wC3, wP1, wP2, Change.zero, Change.pv, Pair.pv, List.map_cons, List.map_nil, decide_true, decide_false]
  refine V.call rfl rfl (by simp [dOK]) ⟨12, [], by simp only [go_sem, ↓reduceIte, reduceCtorEq, Bool.false_eq_true, Bool.true_eq_false, Nat.reduceAdd, Nat.reduceLT, Nat.reduceEqDiff, Nat.reduceLeDiff, Nat.reduceSub, Nat.reduceMul], ⟨_, rfl, rfl, rfl⟩, .inl ⟨[.row ([wP2].map Pair.pv), .int .i64 5, wN3.pv], _, .inl (by simp only [go_sem, ↓reduceIte, reduceCtorEq, Bool.false_eq_true, Bool.true_eq_false, Nat.reduceAdd, Nat.reduceLT, Nat.reduceEqDiff, Nat.reduceLeDiff, Nat.reduceSub, Nat.reduceMul, Note.pv, wN3, wP2, Pair.pv, List.map_cons, List.map_nil]), c6, .inr (.inl ⟨_, rfl, rfl, rfl⟩)⟩⟩ ?_
  refine V.exec 400 ?_
  simp (config := {contextual := true}) only [go_sem, ↓reduceIte, reduceCtorEq, Bool.false_eq_true, Bool.true_eq_false, Nat.reduceAdd, Nat.reduceLT, Nat.reduceEqDiff, Nat.reduceLeDiff, Nat.reduceSub, Nat.reduceMul, wC1, wC2, wC3, wP1, wP2, Change.zero, Change.pv, Pair.pv, List.map_cons, List.map_nil, decide_true, decide_false]
  refine V.call rfl rfl (by simp [dOK]) ⟨14, [], by simp only [go_sem, ↓reduceIte, reduceCtorEq, Bool.false_eq_true, Bool.true_eq_false, Nat.reduceAdd, Nat.reduceLT, Nat.reduceEqDiff, Nat.reduceLeDiff, Nat.reduceSub, Nat.reduceMul], ⟨_, rfl, rfl, rfl⟩, .inl ⟨[wC1.pv, wC2.pv], _, .inl (by simp only [go_sem, ↓reduceIte, reduceCtorEq, Bool.false_eq_true, Bool.true_eq_false, Nat.reduceAdd, Nat.reduceLT, Nat.reduceEqDiff, Nat.reduceLeDiff, Nat.reduceSub, Nat.reduceMul, wC1, wC2, Change.pv, decide_true, decide_false]), c7, .inr (.inl ⟨_, rfl, rfl, rfl⟩)⟩⟩ ?_
  refine V.exec 400 ?_
  have n1 : ((1 : Nat) : Int) = 1 := rfl
  have r1 : (0 : Int) ≤ 0 ∧ (0 : Int) < 1 := by decide
  have t0 : Int.toNat 0 = 0 := rfl
  simp (config := {contextual := true}) only [go_sem, ↓reduceIte, reduceCtorEq, Bool.false_eq_true, Bool.true_eq_false, Nat.reduceAdd, Nat.reduceLT, Nat.reduceEqDiff, Nat.reduceLeDiff, Nat.reduceSub, Nat.reduceMul, wC1, wC2, wC3, wP1, wP2, Change.zero, Change.pv, Pair.pv, List.map_cons, List.map_nil, decide_true, decide_false, n1, r1, t0, eqChange, List.getElem?_cons_zero]
end Go.Proofs.Ytmdjkbhbpddjnaa
set_option linter.unusedVariables false
set_option linter.unusedSimpArgs false
namespace Go.Proofs.Ytmdjkbhbpddjnaa
open Go Go.Proofs Go.Proofs.YtmdjkbhbpddjnaaVm Go.Proofs.Ytmdjkbhbpddjnaa.Ty

theorem int_bot {a : Int} (w : (Lit.int .i64 a).wf = true) : -9223372036854775808 ≤ a := by
  simp only [Lit.wf, Bool.and_eq_true, decide_eq_true_eq] at w
  have e2 : IntKind.min .i64 = -9223372036854775808 := by decide
  rw [e2] at w
  exact w.1
theorem int_top {a : Int} (w : (Lit.int .i64 a).wf = true) : a ≤ 9223372036854775807 := by
  simp only [Lit.wf, Bool.and_eq_true, decide_eq_true_eq] at w
  have e2 : IntKind.max .i64 = 9223372036854775807 := by decide
  rw [e2] at w
  exact w.2
theorem note_one (qs : List PV) (hk : qs.map PV.kd = [.int .i64, .str, .str, .int .u64]) : ∃ s : Note, PV.agg qs = s.pv := by
  match qs, hk with
  | [.int k n, .str a, .str b, .int k' m], hk =>
    simp only [List.map_cons, PV.kd, List.cons.injEq, KD.int.injEq] at hk
    obtain ⟨rfl, _, _, rfl, _⟩ := hk
    exact ⟨⟨n, a, b, m⟩, by simp [Note.pv]⟩
theorem note_of (xs : List PV) (h : ∀ x ∈ xs, ∃ qs, x = .agg qs ∧ qs.map PV.kd = [.int .i64, .str, .str, .int .u64] ∧ ∀ q ∈ qs, q.wfv) : ∃ t : List Note, xs = t.map Note.pv := by
  induction xs with
  | nil => exact ⟨[], rfl⟩
  | cons x r ih =>
    obtain ⟨t, rfl⟩ := ih (fun y hy => h y (List.mem_cons_of_mem _ hy))
    obtain ⟨qs, rfl, hk, hw⟩ := h x List.mem_cons_self
    obtain ⟨s, hs⟩ := note_one qs hk
    exact ⟨s :: t, by rw [hs]; rfl⟩
theorem change_one (qs : List PV) (hk : qs.map PV.kd = [.int .i64, .str, .bool, .str, .bool, .str]) : ∃ s : Change, PV.agg qs = s.pv := by
  match qs, hk with
  | [.int k n, .str a, .bool b, .str c, .bool d, .str e], hk =>
    simp only [List.map_cons, PV.kd, List.cons.injEq, KD.int.injEq] at hk
    obtain ⟨rfl, _⟩ := hk
    exact ⟨⟨n, a, b, c, d, e⟩, by simp [Change.pv]⟩
theorem change_of_ (xs : List PV) (h : ∀ x ∈ xs, ∃ qs, x = .agg qs ∧ qs.map PV.kd = [.int .i64, .str, .bool, .str, .bool, .str] ∧ ∀ q ∈ qs, q.wfv) : ∃ t : List Change, xs = t.map Change.pv := by
  induction xs with
  | nil => exact ⟨[], rfl⟩
  | cons x r ih =>
    obtain ⟨t, rfl⟩ := ih (fun y hy => h y (List.mem_cons_of_mem _ hy))
    obtain ⟨qs, rfl, hk, hw⟩ := h x List.mem_cons_self
    obtain ⟨s, hs⟩ := change_one qs hk
    exact ⟨s :: t, by rw [hs]; rfl⟩
theorem note_ofV (t : Note) : ∃ qs, t.pv = .agg qs ∧ qs.map PV.kd = [.int .i64, .str, .str, .int .u64] := ⟨_, rfl, rfl⟩
theorem notes_rows (xs : List (List PV)) (h : ∀ ys ∈ xs, ys.length ≤ maxLen ∧ ∀ x ∈ ys, ∃ qs, x = .agg qs ∧ qs.map PV.kd = [.int .i64, .str, .str, .int .u64] ∧ ∀ q ∈ qs, q.wfv) :
    ∃ t : List (List Note), xs.map PV.row = t.map (fun l => PV.row (l.map Note.pv)) ∧ t.length = xs.length ∧ ∀ l ∈ t, l.length ≤ maxLen := by
  induction xs with
  | nil => exact ⟨[], rfl, rfl, by simp⟩
  | cons x r ih =>
    obtain ⟨t, ht, hl, hb⟩ := ih (fun y hy => h y (List.mem_cons_of_mem _ hy))
    obtain ⟨h1, h2⟩ := h x List.mem_cons_self
    obtain ⟨s, rfl⟩ := note_of x h2
    refine ⟨s :: t, by simp [ht], by simp [hl], fun l hl => ?_⟩
    rcases List.mem_cons.1 hl with rfl | hl
    · simpa using h1
    · exact hb l hl
end Go.Proofs.Ytmdjkbhbpddjnaa
set_option linter.unusedVariables false
set_option linter.unusedSimpArgs false
namespace Go.Proofs.Ytmdjkbhbpddjnaa
open Go Go.Proofs Go.Proofs.YtmdjkbhbpddjnaaVm

theorem turn_turn (c : Change) : turnC (turnC c) = c := rfl
theorem turn_key (c : Change) : (turnC c).key = c.key := rfl
theorem val_note {l : List Pair} (hs : Sorted l) (c : Change) (k : List UInt8) : val (oneV l (noteC c)) k = if k = c.key then (if c.has = true then some c.aft else none) else val l k := by
  rw [← setR_note hs, setR_val hs]
theorem fitC_val {l : List Pair} (h : pairsOk l) {c : Change} (hc : c.ok) : fitC l c ↔ val l c.key = (if c.had = true then some c.bef else none) := by
  unfold fitC
  rw [getV_val h]
  cases hv : val l c.key with
  | none =>
    simp only [Prod.mk.injEq]
    cases hh : c.had with
    | true => simp
    | false =>
      have := hc.2.2.2.2.2.1
      rw [hh] at this
      simp at this
      simp [this]
  | some v =>
    simp only [Prod.mk.injEq]
    cases hh : c.had with
    | true => simp
    | false => simp
theorem doGo_app : ∀ (xs ys : List Change) (l : List Pair), doGo l (xs ++ ys) = (doGo l xs).bind fun p => doGo p ys
  | [], _, _ => rfl
  | c :: r, ys, l => by
    simp only [List.cons_append, doGo]
    split
    · exact doGo_app r ys _
    · rfl
theorem doGo_ok : ∀ (cs : List Change) {l a : List Pair}, pairsOk l → doGo l cs = some a → pairsOk a ∧ ∀ c ∈ cs, c.ok
  | [], l, a, h, e => by cases e; exact ⟨h, by simp⟩
  | c :: r, l, a, h, e => by
    simp only [doGo] at e
    split at e
    · rename_i hc
      have ih := doGo_ok r (oneV_pairsOk h (noteC_ok hc.1)) e
      exact ⟨ih.1, fun x hx => by
        rcases List.mem_cons.1 hx with rfl | hx
        · exact hc.1
        · exact ih.2 x hx⟩
    · cases e
theorem turn_fit {l : List Pair} (h : pairsOk l) {c : Change} (hc : c.ok) : fitC (oneV l (noteC c)) (turnC c) := by
  have hp := oneV_pairsOk h (noteC_ok hc)
  rw [fitC_val hp ((turn_ok c).2 hc), turn_key, val_note ((pairsOk_iff l).1 h).1, if_pos rfl]
  rfl
theorem turn_back {l : List Pair} (h : pairsOk l) {c : Change} (hc : c.ok) (hf : fitC l c) : oneV (oneV l (noteC c)) (noteC (turnC c)) = l := by
  have hs := ((pairsOk_iff l).1 h).1
  have hp := oneV_pairsOk h (noteC_ok hc)
  have hsp := ((pairsOk_iff _).1 hp).1
  refine val_ext (oneV_sorted hsp _) hs fun k => ?_
  rw [val_note hsp, turn_key]
  split
  · rename_i e
    rw [e, (fitC_val h hc).1 hf]; rfl
  · rename_i hk
    rw [val_note hs, if_neg hk]
theorem doGo_undo : ∀ (cs : List Change) {l a : List Pair}, pairsOk l → doGo l cs = some a → doGo a (cs.reverse.map turnC) = some l
  | [], l, a, h, e => by cases e; rfl
  | c :: r, l, a, h, e => by
    simp only [doGo] at e
    split at e
    · rename_i hc
      have ih := doGo_undo r (oneV_pairsOk h (noteC_ok hc.1)) e
      rw [List.reverse_cons, List.map_append, doGo_app, ih, Option.bind_some]
      simp only [List.map_cons, List.map_nil, doGo]
      rw [if_pos ⟨(turn_ok c).2 hc.1, turn_fit h hc.1⟩, turn_back h hc.1 hc.2]
    · cases e
theorem doV_zero {l a : List Pair} {cs : List Change} : doV l cs = (a, 0) ↔ pairsOk l ∧ doGo l cs = some a := by
  unfold doV
  split
  · rename_i h
    cases hg : doGo l cs with
    | none => simp
    | some q => simp [h]
  · rename_i h
    simp [h]
theorem doV_err {l : List Pair} {cs : List Change} (h : (doV l cs).2 ≠ 0) : doV l cs = (l, 1) := by
  unfold doV at *
  split at h
  · rename_i hp
    cases hg : doGo l cs with
    | none => simp [hp]
    | some q => rw [hg] at h; exact absurd rfl h
  · rename_i hp; simp [hp]
theorem doV_cases (l : List Pair) (cs : List Change) : (∃ a, doV l cs = (a, 0)) ∨ doV l cs = (l, 1) := by
  by_cases h : (doV l cs).2 = 0
  · exact .inl ⟨(doV l cs).1, by rw [← h]⟩
  · exact .inr (doV_err h)
theorem do_undo {l a : List Pair} {cs : List Change} (h : doV l cs = (a, 0)) : undoV a cs = (l, 0) ∧ pairsOk a := by
  obtain ⟨h1, h2⟩ := doV_zero.1 h
  have h3 := (doGo_ok cs h1 h2).1
  exact ⟨doV_zero.2 ⟨h3, doGo_undo cs h1 h2⟩, h3⟩
theorem undo_do {l a : List Pair} {cs : List Change} (h : undoV l cs = (a, 0)) : doV a cs = (l, 0) ∧ pairsOk a := by
  have := do_undo (cs := cs.reverse.map turnC) h
  unfold undoV at this
  rw [← List.map_reverse, List.reverse_reverse, List.map_map] at this
  have e : cs.map (turnC ∘ turnC) = cs := by
    have : (turnC ∘ turnC) = id := funext fun c => rfl
    rw [this, List.map_id]
  rw [e] at this
  exact this
theorem oneV_grow {l : List Pair} (h : pairsOk l) (n : Note) : (oneV l n).length ≤ l.length + 1 := oneV_len ((pairsOk_iff l).1 h).1 n
theorem doGo_len : ∀ (cs : List Change) {l a : List Pair}, pairsOk l → doGo l cs = some a → a.length ≤ l.length + cs.length
  | [], l, a, h, e => by cases e; exact Nat.le_refl _
  | c :: r, l, a, h, e => by
    simp only [doGo] at e
    split at e
    · rename_i hc
      have h1 := doGo_len r (oneV_pairsOk h (noteC_ok hc.1)) e
      have h2 := oneV_grow h (noteC c)
      simp only [List.length_cons]; omega
    · cases e
theorem doV_len (l : List Pair) (cs : List Change) : (doV l cs).1.length ≤ l.length + cs.length := by
  rcases doV_cases l cs with ⟨a, h⟩ | h
  · obtain ⟨h1, h2⟩ := doV_zero.1 h
    rw [h]; exact doGo_len cs h1 h2
  · rw [h]; simp
theorem undoV_len (l : List Pair) (cs : List Change) : (undoV l cs).1.length ≤ l.length + cs.length := by
  have := doV_len l (cs.reverse.map turnC)
  simpa [undoV] using this
/-- What is joined. -/
def joinC (a b : Change) : Change := ⟨b.seq, b.key, a.had, a.bef, b.has, b.aft⟩
theorem joinV_cases (a b : Change) : (joinV a b = (joinC a b, 0) ∧ joinOk a b ∧ ¬ (a.had = false ∧ b.has = false)) ∨ (joinV a b = (Change.zero, 3) ∧ joinOk a b ∧ a.had = false ∧ b.has = false) ∨ (joinV a b = (Change.zero, 1) ∧ ¬ joinOk a b) := by
  unfold joinV madeV
  by_cases h : joinOk a b
  · rw [if_pos h]
    simp only
    by_cases h2 : a.had = false ∧ b.has = false
    · rw [if_pos h2]; exact .inr (.inl ⟨rfl, h, h2⟩)
    · rw [if_neg h2]; exact .inl ⟨rfl, h, h2⟩
  · rw [if_neg h]; exact .inr (.inr ⟨rfl, h⟩)
theorem joinC_ok {a b : Change} (h : joinOk a b) (hn : ¬ (a.had = false ∧ b.has = false)) : (joinC a b).ok := by
  obtain ⟨ha, hb, hk, hs, _⟩ := h
  refine ⟨hb.1, ha.2.1, hb.2.2.1, hb.2.2.2.1, hb.2.2.2.2.1, ha.2.2.2.2.2.1, hb.2.2.2.2.2.2.1, ?_⟩
  show a.had = true ∨ b.has = true
  cases h1 : a.had with
  | true => exact .inl rfl
  | false =>
    cases h2 : b.has with
    | true => exact .inr rfl
    | false => exact absurd ⟨h1, h2⟩ hn
theorem oneV_two {l : List Pair} (hs : Sorted l) {a b c : Change} (h1 : a.key = b.key) (h2 : c.key = b.key) (h3 : c.has = b.has) (h4 : c.aft = b.aft) : oneV (oneV l (noteC a)) (noteC b) = oneV l (noteC c) := by
  have hs2 := oneV_sorted hs (noteC a)
  refine val_ext (oneV_sorted hs2 _) (oneV_sorted hs _) fun k => ?_
  rw [val_note hs2, val_note hs, val_note hs, h2, h3, h4]
  split
  · rfl
  · rename_i hk
    rw [if_neg (by rw [h1]; exact hk)]
theorem fitC_join {l : List Pair} {a b : Change} (hk : a.key = b.key) : fitC l a ↔ fitC l (joinC a b) := by
  unfold fitC joinC
  simp only [hk]
/-- What is joined does what both do. -/
theorem join_does {l p : List Pair} {a b : Change} (h : pairsOk l) (hj : joinOk a b) (hn : ¬ (a.had = false ∧ b.has = false)) (hd : doGo l [a, b] = some p) : doGo l [joinC a b] = some p := by
  simp only [doGo] at *
  split at hd
  · rename_i h1
    split at hd
    · rename_i h2
      rw [if_pos ⟨joinC_ok hj hn, (fitC_join hj.2.2.1).1 h1.2⟩, ← hd]
      rw [oneV_two ((pairsOk_iff l).1 h).1 (c := joinC a b) hj.2.2.1 rfl rfl rfl]
    · cases hd
  · cases hd
theorem join_none {l p : List Pair} {a b : Change} (h : pairsOk l) (hj : joinOk a b) (h1 : a.had = false) (h2 : b.has = false) (hd : doGo l [a, b] = some p) : p = l := by
  simp only [doGo] at *
  split at hd
  · rename_i g1
    split at hd
    · cases hd
      have hs := ((pairsOk_iff l).1 h).1
      have hs2 := oneV_sorted hs (noteC a)
      refine val_ext (oneV_sorted hs2 _) hs fun k => ?_
      rw [val_note hs2, val_note hs]
      split
      · rename_i e
        have := (fitC_val h g1.1).1 g1.2
        rw [e, ← hj.2.2.1, this, h1, h2]; rfl
      · rename_i hk
        rw [if_neg (by rw [hj.2.2.1]; exact hk)]
    · cases hd
  · cases hd
theorem join_assoc {a b c : Change} (h1 : joinV a b = (joinC a b, 0)) (h2 : joinV b c = (joinC b c, 0)) : joinV (joinC a b) c = joinV a (joinC b c) := by
  have j1 : joinOk a b ∧ ¬ (a.had = false ∧ b.has = false) := by
    rcases joinV_cases a b with ⟨_, g1, g2⟩ | ⟨e, _⟩ | ⟨e, _⟩
    · exact ⟨g1, g2⟩
    · rw [e] at h1; exact absurd (congrArg Prod.snd h1) (show ¬ ((_ : Int) = 0) by decide)
    · rw [e] at h1; exact absurd (congrArg Prod.snd h1) (show ¬ ((_ : Int) = 0) by decide)
  have j2 : joinOk b c ∧ ¬ (b.had = false ∧ c.has = false) := by
    rcases joinV_cases b c with ⟨_, g1, g2⟩ | ⟨e, _⟩ | ⟨e, _⟩
    · exact ⟨g1, g2⟩
    · rw [e] at h2; exact absurd (congrArg Prod.snd h2) (show ¬ ((_ : Int) = 0) by decide)
    · rw [e] at h2; exact absurd (congrArg Prod.snd h2) (show ¬ ((_ : Int) = 0) by decide)
  have k1 := joinC_ok j1.1 j1.2
  have k2 := joinC_ok j2.1 j2.2
  obtain ⟨⟨a1, a2, a3, a4, a5, a6⟩, _⟩ := j1
  obtain ⟨⟨b1, b2, b3, b4, b5, b6⟩, _⟩ := j2
  unfold joinV
  have e1 : joinOk (joinC a b) c := ⟨k1, b2, b3, b4, b5, b6⟩
  have e2 : joinOk a (joinC b c) := ⟨a1, k2, (by show a.key = c.key; rw [a3, b3]), (by show a.seq < c.seq; omega), a5, a6⟩
  rw [if_pos e1, if_pos e2]
  rfl
end Go.Proofs.Ytmdjkbhbpddjnaa
