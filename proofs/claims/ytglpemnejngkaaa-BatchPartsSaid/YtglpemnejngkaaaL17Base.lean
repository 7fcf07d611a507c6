/- A part of a proof: functions of the program, walked. -/
import Derived.Test.YtglpemnejngkaaaCTy
import Derived.Test.YtglpemnejngkaaaVmU
set_option linter.unusedVariables false
set_option linter.unusedSimpArgs false
namespace Go.Proofs.Ytglpemnejngkaaa
open Go Go.Proofs Go.Proofs.YtglpemnejngkaaaVm Go.Proofs.Ytglpemnejngkaaa.Ty

theorem wrap_small {n : Int} (h : -9223372036854775808 ≤ n) (h' : n < 9223372036854775808) : IntKind.i64.wrap n = n := by rw [IntKind.wrap_i64]; omega

theorem wrap_small' {n : Int} (h : -9223372036854775808 ≤ n) (h' : n < 9223372036854775808) : IntKind.i64.wrap n = n := by rw [IntKind.wrap_i64]; omega

theorem ins_grow (xs ys : List PV) (i : Nat) (Y : List PV) (hy : ys.length = 1) (hi : i < xs.length) (hl : Y.length = xs.length + 1) (ht : Y.take i = xs.take i) :
    over (over Y ys i) (xs.drop i) (i + 1) = xs.take i ++ ys ++ xs.drop i := by
  have e1 : over Y ys i = xs.take i ++ ys ++ Y.drop (i + 1) := by rw [over, ht, hy]
  have hlen : (xs.take i ++ ys).length = i + 1 := by simp [Nat.min_eq_left (Nat.le_of_lt hi), hy]
  have hZl : (over Y ys i).length = xs.length + 1 := by rw [over_length (by omega)]; omega
  rw [over, List.drop_eq_nil_of_le («as» := over Y ys i) (by rw [hZl, List.length_drop]; omega), List.append_nil, e1, List.take_append_of_le_length (by omega), List.take_of_length_le (by omega)]

theorem ins_room (xs ys : List PV) (i : Nat) (hy : ys.length = 1) (hi : i < xs.length) : over (over xs (xs.drop i) (i + 1)) ys i = xs.take i ++ ys ++ xs.drop i := by
  have e1 : over xs (xs.drop i) (i + 1) = xs.take (i + 1) ++ xs.drop i := by
    have e0 : xs.drop (i + 1 + (xs.drop i).length) = [] := List.drop_eq_nil_of_le (by rw [List.length_drop]; omega)
    rw [over, e0, List.append_nil]
  rw [over, e1, hy, List.take_append_of_le_length (by simp; omega), List.take_take, Nat.min_eq_left (Nat.le_succ i), List.drop_left' (by simp; omega)]

theorem wrap_small2 {n : Int} (h : -9223372036854775808 ≤ n) (h' : n < 9223372036854775808) : IntKind.i64.wrap n = n := by rw [IntKind.wrap_i64]; omega
theorem wrap_u2 {n : Int} (h : 0 ≤ n) (h' : n < 9223372036854775808) : IntKind.u64.wrap n = n := by
  simp [IntKind.wrap, IntKind.bits, IntKind.signed]; omega

theorem wrap_small3 {n : Int} (h : -9223372036854775808 ≤ n) (h' : n < 9223372036854775808) : IntKind.i64.wrap n = n := by rw [IntKind.wrap_i64]; omega

theorem drop_of_get {α : Type} {l : List α} {i : Nat} {x : α} (h : l[i]? = some x) : l.drop i = x :: l.drop (i + 1) := by
  obtain ⟨hlt, rfl⟩ := List.getElem?_eq_some_iff.1 h
  exact List.drop_eq_getElem_cons hlt

/-- Where a search by halves ends. -/
def bsI (c : Nat → Int) (i j : Nat) : Nat := if h : i < j then (if c ((i + j) / 2) < 0 then bsI c ((i + j) / 2 + 1) j else bsI c i ((i + j) / 2)) else i
termination_by j - i
theorem bsI_le (c : Nat → Int) (i j : Nat) (h : i ≤ j) : bsI c i j ≤ j := by
  rw [bsI]
  split
  · split
    · exact bsI_le c _ j (by omega)
    · exact Nat.le_trans (bsI_le c i _ (by omega)) (by omega)
  · exact h
termination_by j - i
theorem bsI_eq (c : Nat → Int) (i j r : Nat) (h1 : i ≤ r) (h2 : r ≤ j) (h3 : ∀ m, i ≤ m → m < r → c m < 0) (h4 : ∀ m, r ≤ m → m < j → ¬ c m < 0) : bsI c i j = r := by
  rw [bsI]
  split
  · split
    · rename_i hlt hc
      have : (i + j) / 2 < r := by
        rcases Nat.lt_or_ge ((i + j) / 2) r with h | h
        · exact h
        · exact absurd hc (h4 _ h (by omega))
      exact bsI_eq c _ j r (by omega) h2 (fun m hm => h3 m (by omega)) h4
    · rename_i hlt hc
      have : r ≤ (i + j) / 2 := by
        rcases Nat.lt_or_ge ((i + j) / 2) r with h | h
        · exact absurd (h3 _ (by omega) h) hc
        · exact h
      exact bsI_eq c i _ r h1 this h3 (fun m hm hm2 => h4 m hm (by omega))
  · omega
termination_by j - i
def cAt (c : PV → Int) (xs : List PV) (m : Nat) : Int := match xs[m]? with
  | some x => c x
  | none => 0
/-- The first of which something is true. -/
theorem first_of {α : Type} (p : α → Bool) : ∀ xs : List α, ∃ r, r ≤ xs.length ∧ (∀ x ∈ xs.take r, p x = false) ∧ (∀ x, xs[r]? = some x → p x = true) ∧ (r < xs.length ↔ ∃ x ∈ xs, p x = true)
  | [] => ⟨0, by simp, by simp, by simp, by simp⟩
  | x :: xs => by
    by_cases hx : p x = true
    · exact ⟨0, by simp, by simp, by simp [hx], by simp [hx]⟩
    · obtain ⟨r, h1, h2, h3, h4⟩ := first_of p xs
      refine ⟨r + 1, by simpa using h1, ?_, by simpa using h3, ?_⟩
      · intro y hy
        simp only [List.take_succ_cons, List.mem_cons] at hy
        rcases hy with rfl | hy
        · simpa using hx
        · exact h2 y hy
      · simp only [List.length_cons, Nat.add_lt_add_iff_right, h4, List.mem_cons]
        constructor
        · rintro ⟨y, hy, hp⟩
          exact ⟨y, .inr hy, hp⟩
        · rintro ⟨y, rfl | hy, hp⟩
          · exact absurd hp hx
          · exact ⟨y, hy, hp⟩
end Go.Proofs.Ytglpemnejngkaaa
