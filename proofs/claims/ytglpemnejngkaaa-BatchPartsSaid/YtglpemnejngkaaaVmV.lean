/- What comes in as a slice of strings reads as a plain row. -/
import Derived.Test.YtglpemnejngkaaaVmU
set_option linter.unusedVariables false
set_option linter.unusedSimpArgs false
namespace Go.Proofs.YtglpemnejngkaaaVm
open Go Go.Proofs
theorem Opens.strs {P : Program} {w : World} {d : Nat} {t e : TypeId} {cs : List Value} (h : Opens P w (d + 2) t cs) (hu : P.underlying t = some (.slice e)) (hs : P.underlying e = some .string) (hag : aggOf P e = some false) :
    ∃ ls : List (List UInt8), Reps w (Fw w) [.row (ls.map PV.str)] cs ∧ ls.length ≤ maxLen := by
  obtain ⟨ps, h1, h2, h3, h4⟩ := h
  unfold PTy at h2
  simp only [hu] at h2
  obtain ⟨xs, rfl, hl, hx⟩ := h2
  have key : ∀ xs : List PV, (∀ x ∈ xs, ∃ l, x = .str l) → ∃ ls : List (List UInt8), xs = ls.map PV.str := by
    intro xs
    induction xs with
    | nil => intro _; exact ⟨[], rfl⟩
    | cons x r ih =>
      intro h
      obtain ⟨t, rfl⟩ := ih fun y hy => h y (List.mem_cons_of_mem _ hy)
      obtain ⟨l, rfl⟩ := h x List.mem_cons_self
      exact ⟨l :: t, rfl⟩
  obtain ⟨ls, rfl⟩ := key xs fun x hxm => by
    obtain ⟨g1, g2⟩ := hx x hxm
    rw [hag] at g2
    unfold PTy at g1
    simp only [hs] at g1
    obtain ⟨l, hc, hw⟩ := g1
    cases x with
    | agg qs => cases g2
    | _ => first | exact ⟨_, rfl⟩ | (simp [PV.cells] at hc)
  exact ⟨ls, h1, by simpa using hl⟩
end Go.Proofs.YtglpemnejngkaaaVm
