/- A part of a proof: functions of the program, walked. -/
import Derived.Test.YtofmiaecjnfeaaaZ29
set_option linter.unusedVariables false
set_option linter.unusedSimpArgs false
set_option maxRecDepth 8000
namespace Go.Proofs.Ytofmiaecjnfeaaa
open Go Go.Proofs Go.Proofs.YtofmiaecjnfeaaaVm Go.Proofs.Ytofmiaecjnfeaaa.Ty

def turnT {α : Type} (l : List α) (c : Nat) : List α := (l.take (c + 1)).reverse ++ (l.drop (c + 1)).reverse
theorem turnT_len {α : Type} (l : List α) (c : Nat) : (turnT l c).length = l.length := by
  unfold turnT
  rw [List.length_append, List.length_reverse, List.length_reverse, ← List.length_append, List.take_append_drop]
theorem turnT_perm {α : Type} (l : List α) (c : Nat) : l.Perm (turnT l c) := by
  have h : ((l.take (c + 1)) ++ (l.drop (c + 1))).Perm (turnT l c) := List.Perm.append (List.reverse_perm _).symm (List.reverse_perm _).symm
  rwa [List.take_append_drop] at h
theorem turnT_get {α : Type} (l : List α) (c i : Nat) (hc : c < l.length) (hi : i < l.length) : (turnT l c)[i]? = l[if i ≤ c then c - i else l.length + c - i]? := by
  unfold turnT
  have e1 : (l.take (c + 1)).length = c + 1 := by rw [List.length_take]; omega
  by_cases h : i ≤ c
  · rw [if_pos h, List.getElem?_append_left (by rw [List.length_reverse]; omega), List.getElem?_reverse (by omega), e1, List.getElem?_take]
    rw [if_pos (by omega), show c + 1 - 1 - i = c - i by omega]
  · rw [if_neg h, List.getElem?_append_right (by rw [List.length_reverse]; omega), List.length_reverse, e1, List.getElem?_reverse (by rw [List.length_drop]; omega), List.length_drop, List.getElem?_drop]
    rw [show c + 1 + (l.length - (c + 1) - 1 - (i - (c + 1))) = l.length + c - i by omega]
theorem turn_idx {n b i : Nat} (hn : i < n) : (n - i + b) % n = if i ≤ b % n then b % n - i else n + b % n - i := by
  have h1 : b % n < n := Nat.mod_lt _ (by omega)
  have h2 : (n - i + b) % n = (n - i + b % n) % n := by rw [Nat.add_mod, Nat.add_mod (n - i) (b % n), Nat.mod_mod]
  rw [h2]
  split
  · rw [show n - i + b % n = n + (b % n - i) by omega, Nat.add_mod_left, Nat.mod_eq_of_lt (by omega)]
  · rw [Nat.mod_eq_of_lt (by omega)]; omega
theorem appV_perm {a b : List Note} (p : a.Perm b) (hd : ∀ (i j : Nat) (x y : Note), a[i]? = some x → a[j]? = some y → i < j → x.key ≠ y.key) : appV [] a = appV [] b := by
  have hs0 : Sorted ([] : List Pair) := .nil
  have ha : Sorted (appV [] a) := appV_sorted a hs0
  have hb : Sorted (appV [] b) := appV_sorted b hs0
  refine val_ext ha hb fun k => ?_
  rw [appV_val a hs0 k, appV_val b hs0 k]
  refine List.Perm.foldl_eq' p (fun x hx y hy z => ?_) _
  by_cases h1 : k = x.key
  · by_cases h2 : k = y.key
    · obtain ⟨i, hi⟩ := List.getElem?_of_mem hx
      obtain ⟨j, hj⟩ := List.getElem?_of_mem hy
      have hij : i = j := by
        rcases Nat.lt_trichotomy i j with h | h | h
        · exact absurd (h1.symm.trans h2) (hd i j x y hi hj h)
        · exact h
        · exact absurd (h2.symm.trans h1) (hd j i y x hj hi h)
      rw [hij, hj] at hi
      cases hi
      rfl
    · simp [h1, h2]
      rw [if_neg (by rw [← h1]; exact h2)]
      rw [if_neg (by rw [← h1]; exact h2)]
  · by_cases h2 : k = y.key
    · simp [h1, h2]
      rw [if_neg (by rw [← h2]; exact h1)]
      rw [if_neg (by rw [← h2]; exact h1)]
    · simp [h1, h2]
end Go.Proofs.Ytofmiaecjnfeaaa
