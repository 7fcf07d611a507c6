/- A part of a proof: functions of the program, walked. -/
import Derived.Test.YtbciecmoadjigaaL11S2
import Derived.Test.YtbciecmoadjigaaL11P5
import Derived.Test.YtbciecmoadjigaaL11R4
set_option linter.unusedVariables false
set_option linter.unusedSimpArgs false
namespace Go.Proofs.Ytbciecmoadjigaa
open Go Go.Proofs Go.Proofs.YtbciecmoadjigaaVm Go.Proofs.Ytbciecmoadjigaa.Ty

theorem stepO_both (o : Option (List UInt8)) {a b : Note} (ha : a.ok) (hb : b.ok) : stepO (stepO o a) b = stepO o (bothV a b) := by
  obtain ⟨_, _, ka⟩ := ha
  obtain ⟨_, _, kb⟩ := hb
  have d1 : ¬ (3 : Int) = 1 := by decide
  have d2 : ¬ (3 : Int) = 2 := by decide
  have d3 : ¬ (2 : Int) = 1 := by decide
  rcases kb with kb | kb | kb
  · have e : bothV a b = b := by simp [bothV, kb.1]
    rw [e, stepO_put _ kb.1, stepO_put _ kb.1]
  · have e : bothV a b = b := by simp [bothV, kb.1]
    rw [e, stepO_del _ kb.1, stepO_del _ kb.1]
  · rcases ka with ka | ka | ka
    · have e : bothV a b = ⟨1, b.key, (doneOne (a.value, true) b).1, 0⟩ := by simp [bothV, kb.1, ka.1]
      have e2 : stepO o ⟨1, b.key, (doneOne (a.value, true) b).1, 0⟩ = some (doneOne (a.value, true) b).1 := stepO_put o rfl
      rw [e, e2, stepO_put _ ka.1]
      simp [stepO, doneOne, kb.1]
    · have e : bothV a b = ⟨1, b.key, (doneOne ([], false) b).1, 0⟩ := by simp [bothV, kb.1, ka.1]
      have e2 : stepO o ⟨1, b.key, (doneOne ([], false) b).1, 0⟩ = some (doneOne ([], false) b).1 := stepO_put o rfl
      rw [e, e2, stepO_del _ ka.1]
      simp [stepO, doneOne, kb.1]
    · have e : bothV a b = { b with n := IntKind.u64.wrap (b.n + a.n) } := by simp [bothV, kb.1, ka.1]
      rw [e]
      have hw : ∀ u : Int, IntKind.u64.wrap (IntKind.u64.wrap (u + a.n) + b.n) = IntKind.u64.wrap (u + IntKind.u64.wrap (b.n + a.n)) := fun u => by
        simp only [u64_eq]; omega
      cases o with
      | none => simp [stepO, doneOne, kb.1, ka.1, numV_wrap, hw]
      | some v => simp [stepO, doneOne, kb.1, ka.1, numV_wrap, hw]
def actO (o : Option (List UInt8)) : Option Note → Option (List UInt8)
  | none => o
  | some w => stepO o w
def valF (k : List UInt8) (o : Option (List UInt8)) (x : Note) : Option (List UInt8) := if k = x.key then stepO o x else o
theorem valF_act (k : List UInt8) (o : Option (List UInt8)) {p : Option Note} (hp : okO p) {x : Note} (hx : x.ok) : valF k (actO o p) x = actO o (keyStep k p x) := by
  unfold valF keyStep
  by_cases h : k = x.key
  · rw [if_pos h, if_pos h]
    cases p with
    | none => rfl
    | some w => exact stepO_both o (hp w rfl) hx
  · rw [if_neg h, if_neg h]
theorem fold_act (k : List UInt8) (o : Option (List UInt8)) : ∀ (ns : List Note) {p : Option Note}, okO p → allOk ns → ns.foldl (valF k) (actO o p) = actO o (ns.foldl (keyStep k) p)
  | [], _, _, _ => rfl
  | x :: r, p, hp, hn => by
    have hx := hn x List.mem_cons_self
    rw [List.foldl_cons, List.foldl_cons, valF_act k o hp hx]
    exact fold_act k o r (keyStep_ok k hp hx) fun y hy => hn y (List.mem_cons_of_mem _ hy)
theorem app_act {l : List Pair} (hs : Sorted l) {ns : List Note} (hn : allOk ns) (k : List UInt8) : val (appV l ns) k = actO (val l k) (ns.foldl (keyStep k) none) := by
  rw [appV_val ns hs k]
  exact fold_act k (val l k) ns (p := none) (fun w h => by cases h) hn
/-- What is pushed does what the notes do. -/
theorem push_does {p : List Pair} (hp : Sorted p) {l more : List Note} (hl : waitOk l) (hm : allOk more) : appV p (pushV l more) = appV p (l ++ more) := by
  have hl' := (waitOk_iff l).1 hl
  have hw := (waitOk_iff _).1 (pushV_ok more hl hm)
  refine val_ext (appV_sorted _ hp) (appV_sorted _ hp) fun k => ?_
  rw [app_act hp hw.2, app_act hp (allOk_app.2 ⟨hl'.2, hm⟩), fold_sorted k _ hw.1, pushV_get more hl'.1 k, List.foldl_append, fold_sorted k l hl'.1]
/-- Parts do what the whole does, in any order. -/
theorem parts_does {p : List Pair} (hp : Sorted p) {a : List Note} (ha : gSorted Note.key a) {S : List (List Note)} (hS : S.flatten = a) : appV p S.reverse.flatten = appV p a := by
  refine val_ext (appV_sorted _ hp) (appV_sorted _ hp) fun k => ?_
  rw [appV_val _ hp, appV_val _ hp, ← hS]
  have hperm : S.reverse.flatten.Perm S.flatten := List.Perm.flatten (List.reverse_perm S)
  refine hperm.foldl_eq' (fun x hx y hy z => ?_) _
  have hx' : x ∈ a := hS ▸ hperm.mem_iff.1 hx
  have hy' : y ∈ a := hS ▸ hperm.mem_iff.1 hy
  by_cases h1 : k = x.key
  · by_cases h2 : k = y.key
    · have e1 := gGet_of_mem Note.key ha hx'
      have e2 := gGet_of_mem Note.key ha hy'
      rw [← h1] at e1
      rw [← h2, e1] at e2
      cases e2; rfl
    · have e1 : ∀ z, valF k z x = stepO z x := fun z => if_pos h1
      have e2 : ∀ z, valF k z y = z := fun z => if_neg h2
      show valF k (valF k z x) y = valF k (valF k z y) x
      rw [e2, e2]
  · simp [h1]
end Go.Proofs.Ytbciecmoadjigaa
