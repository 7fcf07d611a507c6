/- A part of a proof: functions of the program, walked. -/
import Derived.Test.YtnofkhghgjdblaaL10N4
set_option linter.unusedVariables false
set_option linter.unusedSimpArgs false
namespace Go.Proofs.Ytnofkhghgjdblaa
open Go Go.Proofs Go.Proofs.YtnofkhghgjdblaaVm Go.Proofs.Ytnofkhghgjdblaa.Ty

/-- So many parts. -/
def partsV : Nat → List Pair → List (List Pair)
  | 0, _ => []
  | p + 1, l => l.take ((l.length + p) / (p + 1)) :: partsV p (l.drop ((l.length + p) / (p + 1)))
def howMany (n m : Nat) : Nat := if 0 < n % m then n / m + 1 else n / m
def shareV (l : List Pair) (most : Int) : List (List Pair) := if most < 1 then [] else partsV (howMany l.length most.toNat) l
def rowP (l : List Pair) : PV := .row (l.map Pair.pv)
theorem rowP_isAgg (l : List Pair) : (rowP l).isAgg = false := rfl

set_option maxRecDepth 10000 in
set_option maxHeartbeats 16000000 in
theorem leaf_Share (l : List Pair) (most : Int) (hl : l.length ≤ 400000) (h0 : most ≤ 9223372036854775807) : Ct Try.prog 21 (YtnofkhghgjdblaaVm.ops [.row (l.map Pair.pv), .int .i64 most]) (.vals [.row ((shareV l most).map rowP)]) := by
  have h2 : ∀ (l : List Pair), ∀ x ∈ l.map Pair.pv, x.cells.length = 2 := fun l x hx => by
    obtain ⟨s, _, rfl⟩ := List.mem_map.1 hx
    rfl
  refine Ct.of_V Try.func21 rfl (by simp [YtnofkhghgjdblaaVm.ops, Try.f21]) ?_
  refine V.exec 400 ?_
  by_cases hm : most < 1
  · have hv : shareV l most = [] := by simp [shareV, hm]
    simp (config := {contextual := true}) only [go_sem, ↓reduceIte, reduceCtorEq, Bool.false_eq_true, Bool.true_eq_false, Nat.reduceAdd, Nat.reduceLT, Nat.reduceEqDiff, Nat.reduceLeDiff, Nat.reduceSub, Nat.reduceMul, Try.f21, hm, hv, List.map_nil]
  · obtain ⟨k, rfl⟩ : ∃ k : Nat, most = (k : Int) := ⟨most.toNat, by omega⟩
    have hk : 0 < k := by omega
    have hk0 : ¬ (k : Int) = 0 := by omega
    have hv : shareV l k = partsV (howMany l.length k) l := by simp [shareV, hm]
    have hq : IntKind.i64.wrap ((l.length : Int).tdiv (k : Int)) = ((l.length / k : Nat) : Int) := by
      have e : (l.length : Int).tdiv (k : Int) = ((l.length / k : Nat) : Int) := rfl
      have : l.length / k ≤ l.length := Nat.div_le_self _ _
      rw [e]
      generalize l.length / k = c at *
      rw [wrap_small3] <;> omega
    have hr : (l.length : Int).tmod (k : Int) = ((l.length % k : Nat) : Int) := rfl
    have hw : IntKind.i64.wrap (((l.length / k : Nat) : Int) + 1) = ((l.length / k + 1 : Nat) : Int) := by
      have : l.length / k ≤ l.length := Nat.div_le_self _ _
      generalize l.length / k = c at *
      rw [wrap_small3] <;> omega
    rw [hv]
    simp (config := {contextual := true}) only [go_sem, ↓reduceIte, reduceCtorEq, Bool.false_eq_true, Bool.true_eq_false, Nat.reduceAdd, Nat.reduceLT, Nat.reduceEqDiff, Nat.reduceLeDiff, Nat.reduceSub, Nat.reduceMul, Try.f21, hm, hk0, hq, hr, hw]
    have hpl : howMany l.length k ≤ l.length + 1 := by
      have : l.length / k ≤ l.length := Nat.div_le_self _ _
      unfold howMany; split <;> omega
    have loop : ∀ (n : Nat), n = howMany l.length k → True := fun _ _ => trivial
    by_cases hrem : 0 < l.length % k
    · have hrem' : (0 : Int) < ((l.length % k : Nat) : Int) := by omega
      have hn : howMany l.length k = l.length / k + 1 := by simp [howMany, hrem]
      rw [hn] at hpl ⊢
      simp only [hrem', true_implies, not_true_eq_false, false_imp_iff, and_true]
      generalize l.length / k + 1 = P at *
      refine V.loop (fun m ls os => ∃ (p : Nat) (r : List Pair) (done : List (List Pair)), p ≤ l.length + 1 ∧ r.length ≤ l.length ∧ m = p ∧ done ++ partsV p r = partsV P l ∧ done.length + p ≤ l.length + 1 ∧
          ls = [(0, .val (.row (r.map Pair.pv))), (5, .ref 0), (6, .val (.int .i64 p))] ∧ os = [.row 22 (done.map rowP)]) 1 P
        [(0, .val (.row (l.map Pair.pv))), (5, .ref 0), (6, .val (.int .i64 P))] [.row 22 []] [none]
        ⟨P, l, [], hpl, Nat.le_refl _, rfl, rfl, by simpa using hpl, rfl, rfl⟩ (by simp only [go_sem, ↓reduceIte, reduceCtorEq, Bool.false_eq_true, Bool.true_eq_false, Nat.reduceAdd, Nat.reduceLT, Nat.reduceEqDiff, Nat.reduceLeDiff, Nat.reduceSub, Nat.reduceMul]; try decide) ?_
      rintro m ls os ⟨p, r, done, hp, hrl, hmp, hd, hdl, rfl, rfl⟩
      subst hmp
      refine V.exec 400 ?_
      cases m with
      | zero =>
        have h0 : ¬ (0 : Int) < ((0 : Nat) : Int) := by omega
        simp (config := {contextual := true}) only [go_sem, ↓reduceIte, reduceCtorEq, Bool.false_eq_true, Bool.true_eq_false, Nat.reduceAdd, Nat.reduceLT, Nat.reduceEqDiff, Nat.reduceLeDiff, Nat.reduceSub, Nat.reduceMul, h0]
        simp [partsV] at hd
        rw [hd]
      | succ p =>
        have h0 : (0 : Int) < ((p + 1 : Nat) : Int) := by omega
        have hw1 : IntKind.i64.wrap ((r.length : Int) + ((p + 1 : Nat) : Int)) = ((r.length + (p + 1) : Nat) : Int) := by rw [wrap_small3] <;> omega
        have hw2 : IntKind.i64.wrap (((r.length + (p + 1) : Nat) : Int) - 1) = ((r.length + p : Nat) : Int) := by rw [wrap_small3] <;> omega
        have hw3 : IntKind.i64.wrap (((r.length + p : Nat) : Int).tdiv ((p + 1 : Nat) : Int)) = (((r.length + p) / (p + 1) : Nat) : Int) := by
          have e : ((r.length + p : Nat) : Int).tdiv ((p + 1 : Nat) : Int) = (((r.length + p) / (p + 1) : Nat) : Int) := rfl
          have : (r.length + p) / (p + 1) ≤ r.length + p := Nat.div_le_self _ _
          rw [e]
          generalize (r.length + p) / (p + 1) = c at *
          rw [wrap_small3] <;> omega
        have hw4 : IntKind.i64.wrap (((p + 1 : Nat) : Int) - 1) = (p : Int) := by rw [wrap_small3] <;> omega
        have hp0 : ¬ ((p + 1 : Nat) : Int) = 0 := by omega
        have hnl : (r.length + p) / (p + 1) ≤ r.length := by
          rw [Nat.div_le_iff_le_mul_add_pred (by omega)]
          have : r.length ≤ (p + 1) * r.length := Nat.le_mul_of_pos_left _ (by omega)
          omega
        have hcl := (ClonePair ((r.map Pair.pv).take ((r.length + p) / (p + 1))) (fun x hx => h2 r x (List.mem_of_mem_take hx)) (by simp; omega)).forget
        have hnl' : (((r.length + p) / (p + 1) : Nat) : Int) ≤ (r.length : Int) := by omega
        simp (config := {contextual := true}) only [go_sem, ↓reduceIte, reduceCtorEq, Bool.false_eq_true, Bool.true_eq_false, Nat.reduceAdd, Nat.reduceLT, Nat.reduceEqDiff, Nat.reduceLeDiff, Nat.reduceSub, Nat.reduceMul, h0, hw1, hw2, hw3, hp0]
        refine ⟨by omega, ?_⟩
        refine DV.call [] [] (by simp only [go_sem, ↓reduceIte, reduceCtorEq, Bool.false_eq_true, Bool.true_eq_false, Nat.reduceAdd, Nat.reduceLT, Nat.reduceEqDiff, Nat.reduceLeDiff, Nat.reduceSub, Nat.reduceMul]) (by simp [dOK]) ⟨23, [], by simp only [go_sem, ↓reduceIte, reduceCtorEq, Bool.false_eq_true, Bool.true_eq_false, Nat.reduceAdd, Nat.reduceLT, Nat.reduceEqDiff, Nat.reduceLeDiff, Nat.reduceSub, Nat.reduceMul], ⟨_, rfl, rfl, rfl⟩, .inl ⟨[.row ((r.map Pair.pv).take ((r.length + p) / (p + 1)))], _, .inl (by simp only [go_sem, ↓reduceIte, reduceCtorEq, Bool.false_eq_true, Bool.true_eq_false, Nat.reduceAdd, Nat.reduceLT, Nat.reduceEqDiff, Nat.reduceLeDiff, Nat.reduceSub, Nat.reduceMul]), hcl, .inr (.inl ⟨_, rfl, rfl, rfl⟩)⟩⟩ (by simp only [go_sem, ↓reduceIte, reduceCtorEq, Bool.false_eq_true, Bool.true_eq_false, Nat.reduceAdd, Nat.reduceLT, Nat.reduceEqDiff, Nat.reduceLeDiff, Nat.reduceSub, Nat.reduceMul]) (by simp only [go_sem, ↓reduceIte, reduceCtorEq, Bool.false_eq_true, Bool.true_eq_false, Nat.reduceAdd, Nat.reduceLT, Nat.reduceEqDiff, Nat.reduceLeDiff, Nat.reduceSub, Nat.reduceMul]) (by simp only [go_sem, ↓reduceIte, reduceCtorEq, Bool.false_eq_true, Bool.true_eq_false, Nat.reduceAdd, Nat.reduceLT, Nat.reduceEqDiff, Nat.reduceLeDiff, Nat.reduceSub, Nat.reduceMul]) (by simp) ?_
        refine DV.exec 400 ?_
        simp (config := {contextual := true}) only [go_sem, ↓reduceIte, reduceCtorEq, Bool.false_eq_true, Bool.true_eq_false, Nat.reduceAdd, Nat.reduceLT, Nat.reduceEqDiff, Nat.reduceLeDiff, Nat.reduceSub, Nat.reduceMul, hw4]
        refine ⟨⟨by omega, by omega⟩, ⟨hnl', fun j _ => rfl⟩, by kernel_rfl, p, _, _, [some 17], by omega, ⟨p, r.drop ((r.length + p) / (p + 1)), done ++ [r.take ((r.length + p) / (p + 1))], by omega, Nat.le_trans (by rw [List.length_drop]; exact Nat.sub_le _ _) hrl, rfl, ?_, by rw [List.length_append, List.length_singleton]; omega, rfl, rfl⟩, ?_⟩
        · rw [← hd]; simp [partsV]
        · simp only [go_sem, ↓reduceIte, reduceCtorEq, Bool.false_eq_true, Bool.true_eq_false, Nat.reduceAdd, Nat.reduceLT, Nat.reduceEqDiff, Nat.reduceLeDiff, Nat.reduceSub, Nat.reduceMul, List.map_append, List.map_cons, List.map_nil, rowP, List.map_take, List.map_drop]
          try decide
    · have hrem' : ¬ (0 : Int) < ((l.length % k : Nat) : Int) := by omega
      have hn : howMany l.length k = l.length / k := by simp [howMany, hrem]
      rw [hn] at hpl ⊢
      simp only [hrem', false_imp_iff, not_false_eq_true, true_implies, true_and]
      generalize l.length / k = P at *
      refine V.loop (fun m ls os => ∃ (p : Nat) (r : List Pair) (done : List (List Pair)), p ≤ l.length + 1 ∧ r.length ≤ l.length ∧ m = p ∧ done ++ partsV p r = partsV P l ∧ done.length + p ≤ l.length + 1 ∧
          ls = [(0, .val (.row (r.map Pair.pv))), (5, .ref 0), (6, .val (.int .i64 p))] ∧ os = [.row 22 (done.map rowP)]) 1 P
        [(0, .val (.row (l.map Pair.pv))), (5, .ref 0), (6, .val (.int .i64 P))] [.row 22 []] [none]
        ⟨P, l, [], hpl, Nat.le_refl _, rfl, rfl, by simpa using hpl, rfl, rfl⟩ (by simp only [go_sem, ↓reduceIte, reduceCtorEq, Bool.false_eq_true, Bool.true_eq_false, Nat.reduceAdd, Nat.reduceLT, Nat.reduceEqDiff, Nat.reduceLeDiff, Nat.reduceSub, Nat.reduceMul]; try decide) ?_
      rintro m ls os ⟨p, r, done, hp, hrl, hmp, hd, hdl, rfl, rfl⟩
      subst hmp
      refine V.exec 400 ?_
      cases m with
      | zero =>
        have h0 : ¬ (0 : Int) < ((0 : Nat) : Int) := by omega
        simp (config := {contextual := true}) only [go_sem, ↓reduceIte, reduceCtorEq, Bool.false_eq_true, Bool.true_eq_false, Nat.reduceAdd, Nat.reduceLT, Nat.reduceEqDiff, Nat.reduceLeDiff, Nat.reduceSub, Nat.reduceMul, h0]
        simp [partsV] at hd
        rw [hd]
      | succ p =>
        have h0 : (0 : Int) < ((p + 1 : Nat) : Int) := by omega
        have hw1 : IntKind.i64.wrap ((r.length : Int) + ((p + 1 : Nat) : Int)) = ((r.length + (p + 1) : Nat) : Int) := by rw [wrap_small3] <;> omega
        have hw2 : IntKind.i64.wrap (((r.length + (p + 1) : Nat) : Int) - 1) = ((r.length + p : Nat) : Int) := by rw [wrap_small3] <;> omega
        have hw3 : IntKind.i64.wrap (((r.length + p : Nat) : Int).tdiv ((p + 1 : Nat) : Int)) = (((r.length + p) / (p + 1) : Nat) : Int) := by
          have e : ((r.length + p : Nat) : Int).tdiv ((p + 1 : Nat) : Int) = (((r.length + p) / (p + 1) : Nat) : Int) := rfl
          have : (r.length + p) / (p + 1) ≤ r.length + p := Nat.div_le_self _ _
          rw [e]
          generalize (r.length + p) / (p + 1) = c at *
          rw [wrap_small3] <;> omega
        have hw4 : IntKind.i64.wrap (((p + 1 : Nat) : Int) - 1) = (p : Int) := by rw [wrap_small3] <;> omega
        have hp0 : ¬ ((p + 1 : Nat) : Int) = 0 := by omega
        have hnl : (r.length + p) / (p + 1) ≤ r.length := by
          rw [Nat.div_le_iff_le_mul_add_pred (by omega)]
          have : r.length ≤ (p + 1) * r.length := Nat.le_mul_of_pos_left _ (by omega)
          omega
        have hcl := (ClonePair ((r.map Pair.pv).take ((r.length + p) / (p + 1))) (fun x hx => h2 r x (List.mem_of_mem_take hx)) (by simp; omega)).forget
        have hnl' : (((r.length + p) / (p + 1) : Nat) : Int) ≤ (r.length : Int) := by omega
        simp (config := {contextual := true}) only [go_sem, ↓reduceIte, reduceCtorEq, Bool.false_eq_true, Bool.true_eq_false, Nat.reduceAdd, Nat.reduceLT, Nat.reduceEqDiff, Nat.reduceLeDiff, Nat.reduceSub, Nat.reduceMul, h0, hw1, hw2, hw3, hp0]
        refine ⟨by omega, ?_⟩
        refine DV.call [] [] (by simp only [go_sem, ↓reduceIte, reduceCtorEq, Bool.false_eq_true, Bool.true_eq_false, Nat.reduceAdd, Nat.reduceLT, Nat.reduceEqDiff, Nat.reduceLeDiff, Nat.reduceSub, Nat.reduceMul]) (by simp [dOK]) ⟨23, [], by simp only [go_sem, ↓reduceIte, reduceCtorEq, Bool.false_eq_true, Bool.true_eq_false, Nat.reduceAdd, Nat.reduceLT, Nat.reduceEqDiff, Nat.reduceLeDiff, Nat.reduceSub, Nat.reduceMul], ⟨_, rfl, rfl, rfl⟩, .inl ⟨[.row ((r.map Pair.pv).take ((r.length + p) / (p + 1)))], _, .inl (by simp only [go_sem, ↓reduceIte, reduceCtorEq, Bool.false_eq_true, Bool.true_eq_false, Nat.reduceAdd, Nat.reduceLT, Nat.reduceEqDiff, Nat.reduceLeDiff, Nat.reduceSub, Nat.reduceMul]), hcl, .inr (.inl ⟨_, rfl, rfl, rfl⟩)⟩⟩ (by simp only [go_sem, ↓reduceIte, reduceCtorEq, Bool.false_eq_true, Bool.true_eq_false, Nat.reduceAdd, Nat.reduceLT, Nat.reduceEqDiff, Nat.reduceLeDiff, Nat.reduceSub, Nat.reduceMul]) (by simp only [go_sem, ↓reduceIte, reduceCtorEq, Bool.false_eq_true, Bool.true_eq_false, Nat.reduceAdd, Nat.reduceLT, Nat.reduceEqDiff, Nat.reduceLeDiff, Nat.reduceSub, Nat.reduceMul]) (by simp only [go_sem, ↓reduceIte, reduceCtorEq, Bool.false_eq_true, Bool.true_eq_false, Nat.reduceAdd, Nat.reduceLT, Nat.reduceEqDiff, Nat.reduceLeDiff, Nat.reduceSub, Nat.reduceMul]) (by simp) ?_
        refine DV.exec 400 ?_
        simp (config := {contextual := true}) only [go_sem, ↓reduceIte, reduceCtorEq, Bool.false_eq_true, Bool.true_eq_false, Nat.reduceAdd, Nat.reduceLT, Nat.reduceEqDiff, Nat.reduceLeDiff, Nat.reduceSub, Nat.reduceMul, hw4]
        refine ⟨⟨by omega, by omega⟩, ⟨hnl', fun j _ => rfl⟩, by kernel_rfl, p, _, _, [some 17], by omega, ⟨p, r.drop ((r.length + p) / (p + 1)), done ++ [r.take ((r.length + p) / (p + 1))], by omega, Nat.le_trans (by rw [List.length_drop]; exact Nat.sub_le _ _) hrl, rfl, ?_, by rw [List.length_append, List.length_singleton]; omega, rfl, rfl⟩, ?_⟩
        · rw [← hd]; simp [partsV]
        · simp only [go_sem, ↓reduceIte, reduceCtorEq, Bool.false_eq_true, Bool.true_eq_false, Nat.reduceAdd, Nat.reduceLT, Nat.reduceEqDiff, Nat.reduceLeDiff, Nat.reduceSub, Nat.reduceMul, List.map_append, List.map_cons, List.map_nil, rowP, List.map_take, List.map_drop]
          try decide
end Go.Proofs.Ytnofkhghgjdblaa
