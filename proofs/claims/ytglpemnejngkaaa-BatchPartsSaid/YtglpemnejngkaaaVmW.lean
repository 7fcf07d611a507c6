/- What comes in as a slice of slices of structs reads as a plain row of rows. -/
import Derived.Test.YtglpemnejngkaaaVmV
set_option linter.unusedVariables false
set_option linter.unusedSimpArgs false
namespace Go.Proofs.YtglpemnejngkaaaVm
open Go Go.Proofs
theorem Opens.rows {P : Program} {w : World} {d : Nat} {t s e : TypeId} {cs : List Value} {ks : List KD} {d' : Nat} (h : Opens P w (d + 2) t cs) (hu : P.underlying t = some (.slice s)) (hs : P.underlying s = some (.slice e)) (has : aggOf P s = some false) (hk : eqK P d' e = some ks) (hag : aggOf P e = some true) :
    ∃ xss : List (List PV), Reps w (Fw w) [.row (xss.map PV.row)] cs ∧ xss.length ≤ maxLen ∧ ∀ xs ∈ xss, xs.length ≤ maxLen ∧ ∀ x ∈ xs, ∃ qs, x = .agg qs ∧ qs.map PV.kd = ks ∧ ∀ q ∈ qs, q.wfv := by
  obtain ⟨ps, h1, h2, h3, h4⟩ := h
  unfold PTy at h2
  simp only [hu] at h2
  obtain ⟨xs, rfl, hl, hx⟩ := h2
  have key : ∀ xs : List PV, (∀ x ∈ xs, ∃ l : List PV, x = .row l ∧ l.length ≤ maxLen ∧ ∀ x ∈ l, ∃ qs, x = .agg qs ∧ qs.map PV.kd = ks ∧ ∀ q ∈ qs, q.wfv) →
      ∃ xss : List (List PV), xs = xss.map PV.row ∧ ∀ xs ∈ xss, xs.length ≤ maxLen ∧ ∀ x ∈ xs, ∃ qs, x = .agg qs ∧ qs.map PV.kd = ks ∧ ∀ q ∈ qs, q.wfv := by
    intro xs
    induction xs with
    | nil => intro _; exact ⟨[], rfl, by simp⟩
    | cons x r ih =>
      intro h
      obtain ⟨t, rfl, ht⟩ := ih fun y hy => h y (List.mem_cons_of_mem _ hy)
      obtain ⟨l, rfl, hl1, hl2⟩ := h x List.mem_cons_self
      refine ⟨l :: t, rfl, fun ys hys => ?_⟩
      rcases List.mem_cons.1 hys with rfl | hys
      · exact ⟨hl1, hl2⟩
      · exact ht ys hys
  obtain ⟨ls, rfl, hls⟩ := key xs fun x hxm => by
    obtain ⟨g1, g2⟩ := hx x hxm
    rw [has] at g2
    unfold PTy at g1
    simp only [hs] at g1
    obtain ⟨ys, hc, hyl, hy⟩ := g1
    have hx' : x = .row ys := by
      cases x with
      | agg qs => cases g2
      | row zs => simpa [PV.cells] using hc
      | _ => simp [PV.cells] at hc
    refine ⟨ys, hx', hyl, fun y hym => ?_⟩
    obtain ⟨k1, k2⟩ := hy y hym
    rw [hag] at k2
    obtain ⟨m1, m2⟩ := PTy.kinds d e _ k1 d' ks hk
    cases y with
    | agg qs => exact ⟨qs, rfl, m1, m2⟩
    | _ => cases k2
  exact ⟨ls, h1, by simpa using hl, hls⟩
end Go.Proofs.YtglpemnejngkaaaVm
