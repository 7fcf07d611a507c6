/- A part of a proof: functions of the program, walked. -/
import Derived.Test.YtnofkhghgjdblaaL10N7
set_option linter.unusedVariables false
set_option linter.unusedSimpArgs false
namespace Go.Proofs.Ytnofkhghgjdblaa
open Go Go.Proofs Go.Proofs.YtnofkhghgjdblaaVm

theorem applyV_len (l : List Pair) (ns : List Note) : (applyV l ns).1.length ≤ l.length + ns.length := by
  unfold applyV
  split
  · rename_i h
    exact appV_len ns ((pairsOk_iff l).1 h.1).1
  · simp
theorem applyV_ok {l : List Pair} {ns : List Note} (h : pairsOk l) (hn : notesOk ns) : applyV l ns = (appV l ns, 0) := by
  unfold applyV; rw [if_pos ⟨h, hn⟩]
theorem applyV_bad {l : List Pair} {ns : List Note} (h : ¬ (pairsOk l ∧ notesOk ns)) : applyV l ns = (l, 1) := by
  unfold applyV; rw [if_neg h]
theorem stepO_put (o : Option (List UInt8)) {x : Note} (h : x.kind = 1) : stepO o x = some x.value := by
  unfold stepO; cases o <;> simp [doneOne, h]
theorem stepO_del (o : Option (List UInt8)) {x : Note} (h : x.kind = 2) : stepO o x = none := by
  unfold stepO; cases o <;> simp [doneOne, h]
theorem getV_val {l : List Pair} (h : pairsOk l) (k : List UInt8) : getV l k = (match val l k with | some v => (v, true) | none => ([], false)) := by
  unfold getV val
  rw [if_pos h]
  cases getL l k <;> rfl
theorem getV_bad {l : List Pair} (h : ¬ pairsOk l) (k : List UInt8) : getV l k = ([], false) := by
  unfold getV; rw [if_neg h]
theorem appV_val : ∀ (ns : List Note) {l : List Pair}, Sorted l → ∀ k, val (appV l ns) k = ns.foldl (fun o x => if k = x.key then stepO o x else o) (val l k)
  | [], _, _, _ => rfl
  | x :: r, l, hs, k => by
    have h1 := appV_val r (oneV_sorted hs x) k
    rw [oneV_val hs x k] at h1
    exact h1
theorem notesOk_one (x : Note) : notesOk [x] ↔ x.ok := by simp [notesOk]
theorem notesOk_app (a b : List Note) : notesOk (a ++ b) ↔ notesOk a ∧ notesOk b := by
  unfold notesOk
  simp only [List.mem_append]
  exact ⟨fun h => ⟨fun x hx => h x (.inl hx), fun x hx => h x (.inr hx)⟩, fun h x hx => hx.elim (h.1 x) (h.2 x)⟩
theorem appV_app (l : List Pair) (a b : List Note) : appV l (a ++ b) = appV (appV l a) b := List.foldl_append ..

theorem pair_of (xs : List PV) (h : ∀ x ∈ xs, ∃ qs, x = .agg qs ∧ qs.map PV.kd = [.str, .str] ∧ ∀ q ∈ qs, q.wfv) : ∃ t : List Pair, xs = t.map Pair.pv := by
  induction xs with
  | nil => exact ⟨[], rfl⟩
  | cons x r ih =>
    obtain ⟨t, rfl⟩ := ih (fun y hy => h y (List.mem_cons_of_mem _ hy))
    obtain ⟨qs, rfl, hk, hw⟩ := h x List.mem_cons_self
    match qs, hk with
    | [.str a, .str b], hk => exact ⟨⟨a, b⟩ :: t, by simp [Pair.pv]⟩
theorem note_one (qs : List PV) (hk : qs.map PV.kd = [.int .i64, .str, .str, .int .u64]) : ∃ s : Note, PV.agg qs = s.pv := by
  match qs, hk with
  | [.int k n, .str a, .str b, .int k' m], hk =>
    simp only [List.map_cons, PV.kd, List.cons.injEq, KD.int.injEq] at hk
    obtain ⟨rfl, _, _, rfl, _⟩ := hk
    exact ⟨⟨n, a, b, m⟩, by simp [Note.pv]⟩
theorem note_of (xs : List PV) (h : ∀ x ∈ xs, ∃ qs, x = .agg qs ∧ qs.map PV.kd = [.int .i64, .str, .str, .int .u64] ∧ ∀ q ∈ qs, q.wfv) : ∃ t : List Note, xs = t.map Note.pv := by
  induction xs with
  | nil => exact ⟨[], rfl⟩
  | cons x r ih =>
    obtain ⟨t, rfl⟩ := ih (fun y hy => h y (List.mem_cons_of_mem _ hy))
    obtain ⟨qs, rfl, hk, hw⟩ := h x List.mem_cons_self
    obtain ⟨s, hs⟩ := note_one qs hk
    exact ⟨s :: t, by simp [hs]⟩
end Go.Proofs.Ytnofkhghgjdblaa
