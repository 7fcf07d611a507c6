/- A part of a proof: functions of the program, walked. -/
import Derived.Test.YtglpemnejngkaaaL17N4
set_option linter.unusedVariables false
set_option linter.unusedSimpArgs false
namespace Go.Proofs.Ytglpemnejngkaaa
open Go Go.Proofs Go.Proofs.YtglpemnejngkaaaVm Go.Proofs.Ytglpemnejngkaaa.Ty

theorem Pair.inj (s t : Pair) : (s.pv = t.pv) = (s = t) := by
  cases s; cases t
  simp [Pair.pv]

set_option maxRecDepth 4000 in
set_option maxHeartbeats 8000000 in
theorem ref03_Same (a b : List Pair) (hb : b.length ≤ 1000000) : Ct Try.prog 17 (YtglpemnejngkaaaVm.ops [.row (a.map Pair.pv), .row (b.map Pair.pv)]) (.vals [.bool (decide (a = b))]) := by
  refine Ct.of_V Try.func17 rfl (by simp [YtglpemnejngkaaaVm.ops, Try.f17]) ?_
  refine V.exec 400 ?_
  by_cases hl : a.length = b.length
  · simp (config := {contextual := true}) only [go_sem, ↓reduceIte, reduceCtorEq, Bool.false_eq_true, Bool.true_eq_false, Nat.reduceAdd, Nat.reduceLT, Nat.reduceEqDiff, Nat.reduceLeDiff, Nat.reduceSub, Nat.reduceMul, Try.f17, hl]
    refine V.loop (fun m ls os => ∃ i : Nat, i ≤ b.length ∧ m = b.length - i ∧ a.take i = b.take i ∧
        ls = [(0, .val (.row (a.map Pair.pv))), (1, .val (.row (b.map Pair.pv))), (5, .val (.int .i64 i))] ∧ os = []) 0 b.length [(0, .val (.row (a.map Pair.pv))), (1, .val (.row (b.map Pair.pv))), (5, .val (.int .i64 0))] [] []
      ⟨0, Nat.zero_le _, rfl, rfl, rfl, rfl⟩ (by simp only [go_sem, ↓reduceIte, reduceCtorEq, Bool.false_eq_true, Bool.true_eq_false, Nat.reduceAdd, Nat.reduceLT, Nat.reduceEqDiff, Nat.reduceLeDiff, Nat.reduceSub, Nat.reduceMul]) ?_
    rintro m ls os ⟨i, hi, rfl, heq, rfl, rfl⟩
    refine V.exec 400 ?_
    by_cases hlt : i < b.length
    · have hlt' : (i : Int) < (b.length : Int) := by omega
      have hla : i < a.length := by omega
      obtain ⟨x, hx⟩ : ∃ x, a[i]? = some x := ⟨_, List.getElem?_eq_getElem hla⟩
      obtain ⟨y, hy⟩ : ∃ y, b[i]? = some y := ⟨_, List.getElem?_eq_getElem hlt⟩
      have hw : IntKind.i64.wrap ((i : Int) + 1) = ((i + 1 : Nat) : Int) := by rw [wrap_small3] <;> omega
      have hinj := Pair.inj x y
      simp only [Pair.pv] at hinj
      simp (config := {contextual := true}) only [go_sem, ↓reduceIte, reduceCtorEq, Bool.false_eq_true, Bool.true_eq_false, Nat.reduceAdd, Nat.reduceLT, Nat.reduceEqDiff, Nat.reduceLeDiff, Nat.reduceSub, Nat.reduceMul, hl, hlt', hx, hy, Pair.pv, hw, hinj]
      refine ⟨by kernel_rfl, fun hne => ?_, fun he => ⟨b.length - (i + 1), _, [], [], by omega, ⟨i + 1, by omega, rfl, ?_, rfl, rfl⟩, ?_⟩⟩
      · have : a ≠ b := fun e => hne (by rw [e, hy] at hx; cases hx; rfl)
        simp [this]
      · rw [List.take_add_one, List.take_add_one, heq, hx, hy, he]
      · simp only [go_sem, ↓reduceIte, reduceCtorEq, Bool.false_eq_true, Bool.true_eq_false, Nat.reduceAdd, Nat.reduceLT, Nat.reduceEqDiff, Nat.reduceLeDiff, Nat.reduceSub, Nat.reduceMul]
    · have hlt' : ¬ (i : Int) < (b.length : Int) := by omega
      simp (config := {contextual := true}) only [go_sem, ↓reduceIte, reduceCtorEq, Bool.false_eq_true, Bool.true_eq_false, Nat.reduceAdd, Nat.reduceLT, Nat.reduceEqDiff, Nat.reduceLeDiff, Nat.reduceSub, Nat.reduceMul, hl, hlt']
      have : a = b := by rw [List.take_of_length_le (by omega), List.take_of_length_le (by omega)] at heq; exact heq
      simp [this]
  · have hl' : ¬ (a.length : Int) = (b.length : Int) := by omega
    have : a ≠ b := fun e => hl (by rw [e])
    simp (config := {contextual := true}) only [go_sem, ↓reduceIte, reduceCtorEq, Bool.false_eq_true, Bool.true_eq_false, Nat.reduceAdd, Nat.reduceLT, Nat.reduceEqDiff, Nat.reduceLeDiff, Nat.reduceSub, Nat.reduceMul, Try.f17, hl', this, not_false_eq_true]

theorem applyV_len (l : List Pair) (ns : List Note) : (applyV l ns).1.length ≤ l.length + ns.length := by
  unfold applyV
  split
  · rename_i h
    exact appV_len ns ((pairsOk_iff l).1 h.1).1
  · simp
theorem applyV_ok {l : List Pair} {ns : List Note} (h : pairsOk l) (hn : notesOk ns) : applyV l ns = (appV l ns, 0) := by
  unfold applyV; rw [if_pos ⟨h, hn⟩]
theorem applyV_bad {l : List Pair} {ns : List Note} (h : ¬ (pairsOk l ∧ notesOk ns)) : applyV l ns = (l, 1) := by
  unfold applyV; rw [if_neg h]
theorem stepO_put (o : Option (List UInt8)) {x : Note} (h : x.kind = 1) : stepO o x = some x.value := by
  unfold stepO; cases o <;> simp [doneOne, h]
theorem stepO_del (o : Option (List UInt8)) {x : Note} (h : x.kind = 2) : stepO o x = none := by
  unfold stepO; cases o <;> simp [doneOne, h]
theorem getV_val {l : List Pair} (h : pairsOk l) (k : List UInt8) : getV l k = (match val l k with | some v => (v, true) | none => ([], false)) := by
  unfold getV val
  rw [if_pos h]
  cases getL l k <;> rfl
theorem getV_bad {l : List Pair} (h : ¬ pairsOk l) (k : List UInt8) : getV l k = ([], false) := by
  unfold getV; rw [if_neg h]
theorem appV_val : ∀ (ns : List Note) {l : List Pair}, Sorted l → ∀ k, val (appV l ns) k = ns.foldl (fun o x => if k = x.key then stepO o x else o) (val l k)
  | [], _, _, _ => rfl
  | x :: r, l, hs, k => by
    have h1 := appV_val r (oneV_sorted hs x) k
    rw [oneV_val hs x k] at h1
    exact h1
theorem notesOk_one (x : Note) : notesOk [x] ↔ x.ok := by simp [notesOk]
theorem notesOk_app (a b : List Note) : notesOk (a ++ b) ↔ notesOk a ∧ notesOk b := by
  unfold notesOk
  simp only [List.mem_append]
  exact ⟨fun h => ⟨fun x hx => h x (.inl hx), fun x hx => h x (.inr hx)⟩, fun h x hx => hx.elim (h.1 x) (h.2 x)⟩
theorem appV_app (l : List Pair) (a b : List Note) : appV l (a ++ b) = appV (appV l a) b := List.foldl_append ..

theorem pair_of (xs : List PV) (h : ∀ x ∈ xs, ∃ qs, x = .agg qs ∧ qs.map PV.kd = [.str, .str] ∧ ∀ q ∈ qs, q.wfv) : ∃ t : List Pair, xs = t.map Pair.pv := by
  induction xs with
  | nil => exact ⟨[], rfl⟩
  | cons x r ih =>
    obtain ⟨t, rfl⟩ := ih (fun y hy => h y (List.mem_cons_of_mem _ hy))
    obtain ⟨qs, rfl, hk, hw⟩ := h x List.mem_cons_self
    match qs, hk with
    | [.str a, .str b], hk => exact ⟨⟨a, b⟩ :: t, by simp [Pair.pv]⟩
end Go.Proofs.Ytglpemnejngkaaa
