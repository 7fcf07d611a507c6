/- A part of a proof: functions of the program, walked. -/
import Derived.Test.YtnofkhghgjdblaaL10N7
import Derived.Test.YtnofkhghgjdblaaL10M0
set_option linter.unusedVariables false
set_option linter.unusedSimpArgs false
namespace Go.Proofs.Ytnofkhghgjdblaa
open Go Go.Proofs Go.Proofs.YtnofkhghgjdblaaVm Go.Proofs.Ytnofkhghgjdblaa.Ty

/-- How long the parts are. -/
def sizesV (p r : Nat) : List Nat := (List.range p).map fun j => r / p + if j < r % p then 1 else 0
theorem sizes_step (p r : Nat) : sizesV (p + 1) r = (r + p) / (p + 1) :: sizesV p (r - (r + p) / (p + 1)) := by
  unfold sizesV
  rw [List.range_succ_eq_map, List.map_cons, List.map_map]
  have hd := Nat.div_add_mod r (p + 1)
  have hm : r % (p + 1) < p + 1 := Nat.mod_lt _ (by omega)
  generalize hq : r / (p + 1) = q at *
  generalize ht : r % (p + 1) = t at *
  have h1 : (r + p) / (p + 1) = q + if 0 < t then 1 else 0 := by
    by_cases h0 : 0 < t
    · rw [if_pos h0]
      have e : r + p = (t - 1) + (p + 1) * (q + 1) := by
        have : (p + 1) * (q + 1) = (p + 1) * q + (p + 1) := Nat.mul_succ _ _
        omega
      rw [e, Nat.add_mul_div_left _ _ (by omega), Nat.div_eq_of_lt (by omega)]
      omega
    · rw [if_neg h0]
      have e : r + p = p + (p + 1) * q := by omega
      rw [e, Nat.add_mul_div_left _ _ (by omega), Nat.div_eq_of_lt (by omega)]
      omega
  rw [h1]
  congr 1
  apply List.map_congr_left
  intro j hj
  have hjp := List.mem_range.1 hj
  simp only [Function.comp]
  by_cases h0 : 0 < t
  · rw [if_pos h0]
    have e : r - (q + 1) = (t - 1) + p * q := by
      have : (p + 1) * q = p * q + q := Nat.succ_mul _ _
      omega
    rw [e, Nat.add_mul_div_left _ _ (by omega), Nat.add_mul_mod_self_left, Nat.div_eq_of_lt (by omega), Nat.mod_eq_of_lt (by omega)]
    have : (j + 1 < t) ↔ (j < t - 1) := by omega
    simp only [this]
    omega
  · rw [if_neg h0]
    have ht0 : t = 0 := by omega
    subst ht0
    have e : r - (q + 0) = 0 + p * q := by
      have : (p + 1) * q = p * q + q := Nat.succ_mul _ _
      omega
    rw [e, Nat.add_mul_div_left _ _ (by omega), Nat.add_mul_mod_self_left, Nat.zero_div, Nat.zero_mod]
    simp
theorem parts_sizes : ∀ (p : Nat) (l : List Pair), (partsV p l).map List.length = sizesV p l.length
  | 0, l => rfl
  | p + 1, l => by
    have hnl : (l.length + p) / (p + 1) ≤ l.length := by
      rw [Nat.div_le_iff_le_mul_add_pred (by omega)]
      have : l.length ≤ (p + 1) * l.length := Nat.le_mul_of_pos_left _ (by omega)
      omega
    rw [sizes_step, partsV, List.map_cons, parts_sizes p, List.length_take, List.length_drop, Nat.min_eq_left hnl]
theorem parts_flat : ∀ (p : Nat) (l : List Pair), (0 < p ∨ l = []) → (partsV p l).flatten = l
  | 0, l, h => by rcases h with h | h <;> simp_all [partsV]
  | p + 1, l, _ => by
    have hnl : (l.length + p) / (p + 1) ≤ l.length := by
      rw [Nat.div_le_iff_le_mul_add_pred (by omega)]
      have : l.length ≤ (p + 1) * l.length := Nat.le_mul_of_pos_left _ (by omega)
      omega
    rw [partsV, List.flatten_cons, parts_flat p, List.take_append_drop]
    by_cases hp : 0 < p
    · exact .inl hp
    · right
      have : p = 0 := by omega
      subst this
      simp
/-- How often a place was met. -/
def hitsV (c i : Nat) : List Nat := (List.range c).map fun j => i / c + if j < i % c then 1 else 0
theorem hits_zero (c : Nat) : hitsV c 0 = List.replicate c 0 := by
  unfold hitsV
  simp
  rw [List.map_const', List.length_range]
theorem hits_len (c i : Nat) : (hitsV c i).length = c := by simp [hitsV]
theorem hits_get (c i j : Nat) (h : j < c) : (hitsV c i)[j]? = some (i / c + if j < i % c then 1 else 0) := by simp [hitsV, h]
theorem hits_step (c i : Nat) (hc : 0 < c) : (hitsV c i).set (i % c) (i / c + 1) = hitsV c (i + 1) := by
  have hm : i % c < c := Nat.mod_lt _ hc
  apply List.ext_getElem?
  intro j
  by_cases hj : j < c
  · have hd := Nat.div_add_mod i c
    have key : (i + 1) / c = (if i % c + 1 = c then i / c + 1 else i / c) ∧ (i + 1) % c = (if i % c + 1 = c then 0 else i % c + 1) := by
      generalize i / c = q at *
      generalize i % c = r at *
      by_cases he : r + 1 = c
      · rw [if_pos he, if_pos he]
        have e : i + 1 = 0 + c * (q + 1) := by
          have : c * (q + 1) = c * q + c := Nat.mul_succ _ _
          omega
        constructor
        · rw [e, Nat.add_mul_div_left _ _ hc]; simp
        · rw [e, Nat.add_mul_mod_self_left]; simp
      · rw [if_neg he, if_neg he]
        have e : i + 1 = (r + 1) + c * q := by omega
        constructor
        · rw [e, Nat.add_mul_div_left _ _ hc, Nat.div_eq_of_lt (by omega)]; omega
        · rw [e, Nat.add_mul_mod_self_left, Nat.mod_eq_of_lt (by omega)]
    rw [hits_get _ _ _ hj, List.getElem?_set, key.1, key.2]
    by_cases he : i % c = j
    · subst he
      generalize i / c = q at *
      generalize hr : i % c = r at *
      simp only [if_true, hits_len, hm, if_true]
      by_cases h : r + 1 = c
      · rw [if_pos h, if_pos h]; simp
      · rw [if_neg h, if_neg h]; simp
    · rw [if_neg he, hits_get _ _ _ hj]
      congr 1
      generalize i / c = q at *
      generalize i % c = r at *
      by_cases h : r + 1 = c
      · rw [if_pos h, if_pos h]
        have h1 : j < r := by omega
        have h2 : ¬ j < 0 := by omega
        rw [if_pos h1, if_neg h2]
      · rw [if_neg h, if_neg h]
        by_cases h1 : j < r
        · rw [if_pos h1, if_pos (by omega)]
        · rw [if_neg h1, if_neg (by omega)]
  · rw [List.getElem?_eq_none (by simp [hitsV]; omega), List.getElem?_eq_none (by simp [hitsV]; omega)]

def pvI (n : Nat) : PV := .int .i64 n
theorem howMany_lt {n m c : Nat} (hm : 0 < m) : c < howMany n m ↔ c * m < n := by
  unfold howMany
  have hd := Nat.div_add_mod n m
  have hr := Nat.mod_lt n hm
  generalize n / m = q at *
  generalize n % m = r at *
  have e : ∀ a b : Nat, a ≤ b → a * m ≤ b * m := fun a b h => Nat.mul_le_mul_right m h
  have hc : m * q = q * m := Nat.mul_comm _ _
  constructor
  · intro h
    split at h
    · have := e c q (by omega)
      omega
    · have := e (c + 1) q (by omega)
      have := Nat.add_one_mul c m
      omega
  · intro h
    rcases Nat.lt_or_ge c q with h' | h'
    · split <;> omega
    · have := e q c h'
      rw [if_pos (by omega)]
      rcases Nat.lt_or_ge q c with h2 | h2
      · have := e (q + 1) c h2
        have := Nat.add_one_mul q m
        omega
      · omega

set_option maxRecDepth 10000 in
set_option maxHeartbeats 16000000 in
theorem ref10_Share (n : Nat) (most : Int) (hn : n ≤ 60) : Ct Try.prog 22 (YtnofkhghgjdblaaVm.ops [.int .i64 n, .int .i64 most]) (.vals [.row ((if most < 1 then [] else hitsV (howMany n most.toNat) n).map pvI)]) := by
  refine Ct.of_V Try.func22 rfl (by simp [YtnofkhghgjdblaaVm.ops, Try.f22]) ?_
  refine V.exec 400 ?_
  by_cases hm : most < 1
  · rw [if_pos hm]
    simp (config := {contextual := true}) only [go_sem, ↓reduceIte, reduceCtorEq, Bool.false_eq_true, Bool.true_eq_false, Nat.reduceAdd, Nat.reduceLT, Nat.reduceEqDiff, Nat.reduceLeDiff, Nat.reduceSub, Nat.reduceMul, Try.f22, hm, List.map_nil]
  · obtain ⟨k, rfl⟩ : ∃ k : Nat, most = (k : Int) := ⟨most.toNat, by omega⟩
    have hk : 0 < k := by omega
    rw [if_neg hm, Int.toNat_natCast]
    simp (config := {contextual := true}) only [go_sem, ↓reduceIte, reduceCtorEq, Bool.false_eq_true, Bool.true_eq_false, Nat.reduceAdd, Nat.reduceLT, Nat.reduceEqDiff, Nat.reduceLeDiff, Nat.reduceSub, Nat.reduceMul, Try.f22, hm]
    have hlt := fun c => howMany_lt (n := n) (m := k) (c := c) hk
    generalize hH : howMany n k = H at *
    refine V.loop (fun m ls os => ∃ c : Nat, c ≤ H ∧ (0 < c → k < n) ∧ m = H - c ∧
        ls = [(0, .val (.int .i64 n)), (1, .val (.int .i64 k)), (5, .ref 0)] ∧ os = [.row 3 (List.replicate c (PV.int .i64 0))]) 1 H
      [(0, .val (.int .i64 n)), (1, .val (.int .i64 k)), (5, .ref 0)] [.row 3 []] [none]
      ⟨0, Nat.zero_le _, fun h => absurd h (by omega), rfl, rfl, rfl⟩ (by simp only [go_sem, ↓reduceIte, reduceCtorEq, Bool.false_eq_true, Bool.true_eq_false, Nat.reduceAdd, Nat.reduceLT, Nat.reduceEqDiff, Nat.reduceLeDiff, Nat.reduceSub, Nat.reduceMul]; try decide) ?_
    rintro m ls os ⟨c, hc, hck, rfl, rfl, rfl⟩
    refine V.exec 400 ?_
    by_cases hn0 : 0 < n
    · have hn0' : (0 : Int) < (n : Int) := by omega
      by_cases hcH : c < H
      · have h1 := (hlt c).1 hcH
        by_cases hkn : n ≤ k
        · -- one part is all
          have hc0 : c = 0 := by
            rcases Nat.eq_zero_or_pos c with h | h
            · exact h
            · have := hck h; omega
          subst hc0
          have hkn' : (n : Int) ≤ (k : Int) := by omega
          have hH1 : H = 1 := by
            have h2 := (hlt 1).1
            have : ¬ 1 < H := fun h => by have := h2 h; omega
            omega
          have hz : ((0 : Nat) : Int) = 0 := rfl
          simp (config := {contextual := true}) only [go_sem, ↓reduceIte, reduceCtorEq, Bool.false_eq_true, Bool.true_eq_false, Nat.reduceAdd, Nat.reduceLT, Nat.reduceEqDiff, Nat.reduceLeDiff, Nat.reduceSub, Nat.reduceMul, hn0', hkn', List.length_replicate, hz, List.replicate_zero]
          subst hH1
          refine V.loop (fun m ls os => ∃ i : Nat, i ≤ n ∧ m = n - i ∧ ls = [(0, .val (.int .i64 n)), (5, .ref 0), (6, .val (.int .i64 i))] ∧ os = [.row 3 ((hitsV 1 i).map pvI)]) 1 n [(0, .val (.int .i64 n)), (5, .ref 0), (6, .val (.int .i64 0))] [.row 3 ((hitsV 1 0).map pvI)] [some 18] ⟨0, Nat.zero_le _, rfl, rfl, rfl⟩ (by simp only [go_sem, ↓reduceIte, reduceCtorEq, Bool.false_eq_true, Bool.true_eq_false, Nat.reduceAdd, Nat.reduceLT, Nat.reduceEqDiff, Nat.reduceLeDiff, Nat.reduceSub, Nat.reduceMul, hits_zero, List.map_replicate, pvI]; try first | decide | exact ⟨rfl, trivial⟩ | rfl | simp [List.replicate] | simp) ?_
          rintro m ls os ⟨i, hi, rfl, rfl, rfl⟩
          refine V.exec 400 ?_
          by_cases hlt : i < n
          · have hlt' : (i : Int) < (n : Int) := by omega
            have hCp : 0 < 1 := by omega
            have hw : IntKind.i64.wrap ((i : Int) + 1) = ((i + 1 : Nat) : Int) := by rw [wrap_small3] <;> omega
            have hcl := hits_len 1 i
            have hC' : ¬ ((1 : Nat) : Int) = 0 := by omega
            have hmod : (i : Int).tmod ((1 : Nat) : Int) = ((i % 1 : Nat) : Int) := rfl
            have hml : i % 1 < 1 := Nat.mod_lt _ hCp
            have hml' : ((i % 1 : Nat) : Int) < ((1 : Nat) : Int) := by omega
            have hg := hits_get 1 i (i % 1) hml
            have hz : (i / 1 + if i % 1 < i % 1 then 1 else 0) = i / 1 := by simp
            rw [hz] at hg
            have hq : i / 1 ≤ i := Nat.div_le_self _ _
            have hwq : IntKind.i64.wrap (((i / 1 : Nat) : Int) + 1) = ((i / 1 + 1 : Nat) : Int) := by
              generalize i / 1 = c at *
              rw [wrap_small3] <;> omega
            have hst := hits_step 1 i hCp
            have hst2 : (List.map pvI (hitsV 1 i)).set (i % 1) (PV.int .i64 ((i / 1 + 1 : Nat) : Int)) = List.map pvI (hitsV 1 (i + 1)) := by rw [← hst, List.map_set]; rfl
            simp (config := {contextual := true}) only [go_sem, ↓reduceIte, reduceCtorEq, Bool.false_eq_true, Bool.true_eq_false, Nat.reduceAdd, Nat.reduceLT, Nat.reduceEqDiff, Nat.reduceLeDiff, Nat.reduceSub, Nat.reduceMul, hlt', hw, hcl, hC', hmod, hml', hg, pvI, hwq]
            (repeat' (first | (intro _) | (refine ⟨by kernel_rfl, ?_⟩) | (apply And.intro)))
            exact ⟨n - (i + 1), _, _, [some 0], by omega, ⟨i + 1, by omega, rfl, rfl, rfl⟩, by simp only [go_sem, ↓reduceIte, reduceCtorEq, Bool.false_eq_true, Bool.true_eq_false, Nat.reduceAdd, Nat.reduceLT, Nat.reduceEqDiff, Nat.reduceLeDiff, Nat.reduceSub, Nat.reduceMul, hst2]⟩
          · have hlt' : ¬ (i : Int) < (n : Int) := by omega
            obtain rfl : i = n := by omega
            simp (config := {contextual := true}) only [go_sem, ↓reduceIte, reduceCtorEq, Bool.false_eq_true, Bool.true_eq_false, Nat.reduceAdd, Nat.reduceLT, Nat.reduceEqDiff, Nat.reduceLeDiff, Nat.reduceSub, Nat.reduceMul, hlt']
        · have hkn' : ¬ (n : Int) ≤ (k : Int) := by omega
          rcases Nat.eq_zero_or_pos c with hc0 | hc0
          · subst hc0
            have hz : ((0 : Nat) : Int) = 0 := rfl
            simp (config := {contextual := true}) only [go_sem, ↓reduceIte, reduceCtorEq, Bool.false_eq_true, Bool.true_eq_false, Nat.reduceAdd, Nat.reduceLT, Nat.reduceEqDiff, Nat.reduceLeDiff, Nat.reduceSub, Nat.reduceMul, hn0', hkn', List.length_replicate, hz, List.replicate_zero]
            have hr1 : List.replicate 1 (PV.int .i64 0) = [PV.int .i64 0] := rfl
            exact ⟨H - 1, _, _, [some 18], by omega, ⟨1, by omega, fun _ => by omega, rfl, rfl, rfl⟩, by simp only [go_sem, ↓reduceIte, reduceCtorEq, Bool.false_eq_true, Bool.true_eq_false, Nat.reduceAdd, Nat.reduceLT, Nat.reduceEqDiff, Nat.reduceLeDiff, Nat.reduceSub, Nat.reduceMul, hr1]⟩
          · have hcz : ¬ (c : Int) = 0 := by omega
            have hcn : c < n := by
              have : c * 1 ≤ c * k := Nat.mul_le_mul_left c hk
              omega
            have hwm : IntKind.i64.wrap ((c : Int) * (k : Int)) = ((c * k : Nat) : Int) := by
              rw [← Int.natCast_mul, wrap_small3] <;> omega
            have h1' : ((c * k : Nat) : Int) < (n : Int) := by omega
            simp (config := {contextual := true}) only [go_sem, ↓reduceIte, reduceCtorEq, Bool.false_eq_true, Bool.true_eq_false, Nat.reduceAdd, Nat.reduceLT, Nat.reduceEqDiff, Nat.reduceLeDiff, Nat.reduceSub, Nat.reduceMul, hn0', hkn', List.length_replicate, hcz, hwm, h1']
            have hrep : List.replicate (c + 1) (PV.int .i64 0) = List.replicate c (PV.int .i64 0) ++ [PV.int .i64 0] := List.replicate_succ'
            refine ⟨⟨by omega, by omega⟩, H - (c + 1), _, _, [some 18], by omega, ⟨c + 1, by omega, fun _ => by omega, rfl, rfl, rfl⟩, ?_⟩
            simp only [go_sem, ↓reduceIte, reduceCtorEq, Bool.false_eq_true, Bool.true_eq_false, Nat.reduceAdd, Nat.reduceLT, Nat.reduceEqDiff, Nat.reduceLeDiff, Nat.reduceSub, Nat.reduceMul, hrep]
            try decide
      · -- enough parts
        have hceq : c = H := by omega
        subst hceq
        have h1 : ¬ c * k < n := fun h => hcH ((hlt c).2 h)
        have hc0 : 0 < c := by
          rcases Nat.eq_zero_or_pos c with h | h
          · subst h; omega
          · exact h
        have hkn := hck hc0
        have hcz : ¬ (c : Int) = 0 := by omega
        have hcn : c ≤ n := by
          have h2 : c - 1 < c := by omega
          have h3 := (hlt (c - 1)).1 h2
          have : (c - 1) * 1 ≤ (c - 1) * k := Nat.mul_le_mul_left _ hk
          omega
        have hck2 : c * k ≤ 60 * 60 := Nat.mul_le_mul (by omega) (by omega)
        have hwm : IntKind.i64.wrap ((c : Int) * (k : Int)) = ((c * k : Nat) : Int) := by
          rw [← Int.natCast_mul, wrap_small3] <;> omega
        have h1' : ¬ ((c * k : Nat) : Int) < (n : Int) := by omega
        simp (config := {contextual := true}) only [go_sem, ↓reduceIte, reduceCtorEq, Bool.false_eq_true, Bool.true_eq_false, Nat.reduceAdd, Nat.reduceLT, Nat.reduceEqDiff, Nat.reduceLeDiff, Nat.reduceSub, Nat.reduceMul, hn0', List.length_replicate, hcz, hwm, h1']
        refine V.loop (fun m ls os => ∃ i : Nat, i ≤ n ∧ m = n - i ∧ ls = [(0, .val (.int .i64 n)), (5, .ref 0), (6, .val (.int .i64 i))] ∧ os = [.row 3 ((hitsV c i).map pvI)]) 1 n [(0, .val (.int .i64 n)), (5, .ref 0), (6, .val (.int .i64 0))] [.row 3 ((hitsV c 0).map pvI)] [some 0] ⟨0, Nat.zero_le _, rfl, rfl, rfl⟩ (by simp only [go_sem, ↓reduceIte, reduceCtorEq, Bool.false_eq_true, Bool.true_eq_false, Nat.reduceAdd, Nat.reduceLT, Nat.reduceEqDiff, Nat.reduceLeDiff, Nat.reduceSub, Nat.reduceMul, hits_zero, List.map_replicate, pvI]; try first | decide | exact ⟨rfl, trivial⟩ | rfl | simp [List.replicate] | simp) ?_
        rintro m ls os ⟨i, hi, rfl, rfl, rfl⟩
        refine V.exec 400 ?_
        by_cases hlt : i < n
        · have hlt' : (i : Int) < (n : Int) := by omega
          have hCp : 0 < c := by omega
          have hw : IntKind.i64.wrap ((i : Int) + 1) = ((i + 1 : Nat) : Int) := by rw [wrap_small3] <;> omega
          have hcl := hits_len c i
          have hC' : ¬ ((c : Nat) : Int) = 0 := by omega
          have hmod : (i : Int).tmod ((c : Nat) : Int) = ((i % c : Nat) : Int) := rfl
          have hml : i % c < c := Nat.mod_lt _ hCp
          have hml' : ((i % c : Nat) : Int) < ((c : Nat) : Int) := by omega
          have hg := hits_get c i (i % c) hml
          have hz : (i / c + if i % c < i % c then 1 else 0) = i / c := by simp
          rw [hz] at hg
          have hq : i / c ≤ i := Nat.div_le_self _ _
          have hwq : IntKind.i64.wrap (((i / c : Nat) : Int) + 1) = ((i / c + 1 : Nat) : Int) := by
            generalize i / c = c at *
            rw [wrap_small3] <;> omega
          have hst := hits_step c i hCp
          have hst2 : (List.map pvI (hitsV c i)).set (i % c) (PV.int .i64 ((i / c + 1 : Nat) : Int)) = List.map pvI (hitsV c (i + 1)) := by rw [← hst, List.map_set]; rfl
          simp (config := {contextual := true}) only [go_sem, ↓reduceIte, reduceCtorEq, Bool.false_eq_true, Bool.true_eq_false, Nat.reduceAdd, Nat.reduceLT, Nat.reduceEqDiff, Nat.reduceLeDiff, Nat.reduceSub, Nat.reduceMul, hlt', hw, hcl, hC', hmod, hml', hg, pvI, hwq]
          (repeat' (first | (intro _) | (refine ⟨by kernel_rfl, ?_⟩) | (apply And.intro)))
          exact ⟨n - (i + 1), _, _, [some 0], by omega, ⟨i + 1, by omega, rfl, rfl, rfl⟩, by simp only [go_sem, ↓reduceIte, reduceCtorEq, Bool.false_eq_true, Bool.true_eq_false, Nat.reduceAdd, Nat.reduceLT, Nat.reduceEqDiff, Nat.reduceLeDiff, Nat.reduceSub, Nat.reduceMul, hst2]⟩
        · have hlt' : ¬ (i : Int) < (n : Int) := by omega
          obtain rfl : i = n := by omega
          simp (config := {contextual := true}) only [go_sem, ↓reduceIte, reduceCtorEq, Bool.false_eq_true, Bool.true_eq_false, Nat.reduceAdd, Nat.reduceLT, Nat.reduceEqDiff, Nat.reduceLeDiff, Nat.reduceSub, Nat.reduceMul, hlt']
    · have hn0' : ¬ (0 : Int) < (n : Int) := by omega
      have hn00 : n = 0 := by omega
      have hc0 : c = 0 := by
        rcases Nat.eq_zero_or_pos c with h | h
        · exact h
        · have := hck h; omega
      simp (config := {contextual := true}) only [go_sem, ↓reduceIte, reduceCtorEq, Bool.false_eq_true, Bool.true_eq_false, Nat.reduceAdd, Nat.reduceLT, Nat.reduceEqDiff, Nat.reduceLeDiff, Nat.reduceSub, Nat.reduceMul, hn0']
      subst hn00 hc0
      have hH0 : H = 0 := by
        rcases Nat.eq_zero_or_pos H with h | h
        · exact h
        · have := (hlt 0).1 h; omega
      subst hH0
      refine V.loop (fun m ls os => ∃ i : Nat, i ≤ 0 ∧ m = 0 - i ∧ ls = [(0, .val (.int .i64 (0 : Nat))), (5, .ref 0), (6, .val (.int .i64 i))] ∧ os = [.row 3 ((hitsV 0 i).map pvI)]) 1 0 [(0, .val (.int .i64 (0 : Nat))), (5, .ref 0), (6, .val (.int .i64 0))] [.row 3 ((hitsV 0 0).map pvI)] [some 0] ⟨0, Nat.zero_le _, rfl, rfl, rfl⟩ (by simp only [go_sem, ↓reduceIte, reduceCtorEq, Bool.false_eq_true, Bool.true_eq_false, Nat.reduceAdd, Nat.reduceLT, Nat.reduceEqDiff, Nat.reduceLeDiff, Nat.reduceSub, Nat.reduceMul, hits_zero, List.map_replicate, pvI]; try first | decide | exact ⟨rfl, trivial⟩ | rfl | simp [List.replicate] | simp) ?_
      rintro m ls os ⟨i, hi, rfl, rfl, rfl⟩
      refine V.exec 400 ?_
      by_cases hlt : i < 0
      · have hlt' : (i : Int) < ((0 : Nat) : Int) := by omega
        have hCp : 0 < 0 := by omega
        have hw : IntKind.i64.wrap ((i : Int) + 1) = ((i + 1 : Nat) : Int) := by rw [wrap_small3] <;> omega
        have hcl := hits_len 0 i
        have hC' : ¬ ((0 : Nat) : Int) = 0 := by omega
        have hmod : (i : Int).tmod ((0 : Nat) : Int) = ((i % 0 : Nat) : Int) := rfl
        have hml : i % 0 < 0 := Nat.mod_lt _ hCp
        have hml' : ((i % 0 : Nat) : Int) < ((0 : Nat) : Int) := by omega
        have hg := hits_get 0 i (i % 0) hml
        have hz : (i / 0 + if i % 0 < i % 0 then 1 else 0) = i / 0 := by simp
        rw [hz] at hg
        have hq : i / 0 ≤ i := Nat.div_le_self _ _
        have hwq : IntKind.i64.wrap (((i / 0 : Nat) : Int) + 1) = ((i / 0 + 1 : Nat) : Int) := by
          generalize i / 0 = c at *
          rw [wrap_small3] <;> omega
        have hst := hits_step 0 i hCp
        have hst2 : (List.map pvI (hitsV 0 i)).set (i % 0) (PV.int .i64 ((i / 0 + 1 : Nat) : Int)) = List.map pvI (hitsV 0 (i + 1)) := by rw [← hst, List.map_set]; rfl
        simp (config := {contextual := true}) only [go_sem, ↓reduceIte, reduceCtorEq, Bool.false_eq_true, Bool.true_eq_false, Nat.reduceAdd, Nat.reduceLT, Nat.reduceEqDiff, Nat.reduceLeDiff, Nat.reduceSub, Nat.reduceMul, hlt', hw, hcl, hC', hmod, hml', hg, pvI, hwq]
        (repeat' (first | (intro _) | (refine ⟨by kernel_rfl, ?_⟩) | (apply And.intro)))
        exact ⟨0 - (i + 1), _, _, [some 0], by omega, ⟨i + 1, by omega, rfl, rfl, rfl⟩, by simp only [go_sem, ↓reduceIte, reduceCtorEq, Bool.false_eq_true, Bool.true_eq_false, Nat.reduceAdd, Nat.reduceLT, Nat.reduceEqDiff, Nat.reduceLeDiff, Nat.reduceSub, Nat.reduceMul, hst2]⟩
      · have hlt' : ¬ (i : Int) < ((0 : Nat) : Int) := by omega
        obtain rfl : i = 0 := by omega
        simp (config := {contextual := true}) only [go_sem, ↓reduceIte, reduceCtorEq, Bool.false_eq_true, Bool.true_eq_false, Nat.reduceAdd, Nat.reduceLT, Nat.reduceEqDiff, Nat.reduceLeDiff, Nat.reduceSub, Nat.reduceMul, hlt']

theorem share_sizes (l : List Pair) (most : Int) : (if most < 1 then [] else hitsV (howMany l.length most.toNat) l.length) = (shareV l most).map List.length := by
  unfold shareV
  split
  · rfl
  · rw [parts_sizes]; rfl
theorem share_flat {l : List Pair} {most : Int} (h : ¬ most < 1) : (shareV l most).flatten = l := by
  unfold shareV
  rw [if_neg h]
  apply parts_flat
  by_cases hl : l = []
  · exact .inr hl
  · left
    have h0 : 0 < l.length := List.length_pos_iff.2 hl
    have := (howMany_lt (n := l.length) (m := most.toNat) (c := 0) (by omega)).2 (by omega)
    omega
theorem partsV_len : ∀ (p : Nat) (l : List Pair), (partsV p l).length = p
  | 0, _ => rfl
  | p + 1, l => by rw [partsV, List.length_cons, partsV_len p]

set_option maxRecDepth 10000 in
set_option maxHeartbeats 16000000 in
theorem law_Shares (l : List Pair) (most : Int) (hl : l.length ≤ maxLen) (hm : most ≤ 9223372036854775807) :
    Ct Try.prog 4 (YtnofkhghgjdblaaVm.ops [.row (l.map Pair.pv), .int .i64 most]) (.vals [.bool true]) := by
  have aw := law10_awake
  refine Ct.of_V Try.func4 rfl (by simp [YtnofkhghgjdblaaVm.ops, Try.f4]) ?_
  refine V.exec 400 ?_
  by_cases h60 : l.length ≤ 60
  · have h60' : ¬ (60 : Int) < (l.length : Int) := by omega
    simp (config := {contextual := true}) only [go_sem, ↓reduceIte, reduceCtorEq, Bool.false_eq_true, Bool.true_eq_false, Nat.reduceAdd, Nat.reduceLT, Nat.reduceEqDiff, Nat.reduceLeDiff, Nat.reduceSub, Nat.reduceMul, Try.f4, h60']
    have c1 := leaf_Share l most (by omega) hm
    have c2 := ref10_Share l.length most h60
    rw [share_sizes] at c2
    have hfl : ¬ most < 1 → (shareV l most).flatten = l := share_flat
    have hSl : (shareV l most).length ≤ 61 := by
      unfold shareV
      split
      · simp
      · rw [partsV_len]
        have : ∀ c, c < howMany l.length most.toNat → c < 61 := fun c hc => by
          have h1 := (howMany_lt (n := l.length) (m := most.toNat) (c := c) (by omega)).1 hc
          have h2 : c * 1 ≤ c * most.toNat := Nat.mul_le_mul_left _ (by omega)
          omega
        rcases Nat.lt_or_ge 61 (howMany l.length most.toNat) with h | h
        · have := this 61 h; omega
        · exact h
    have hfe : ∀ i, ((shareV l most).take i).flatten.length ≤ 60 := fun i => by
      have h1 : ((shareV l most).take i).flatten.length ≤ (shareV l most).flatten.length := by
        have : (shareV l most).flatten = ((shareV l most).take i).flatten ++ ((shareV l most).drop i).flatten := by
          rw [← List.flatten_append, List.take_append_drop]
        rw [this, List.length_append]; omega
      by_cases hc : most < 1
      · have : shareV l most = [] := by simp [shareV, hc]
        rw [this]; simp
      · rw [hfl hc] at h1; omega
    generalize hS : shareV l most = S at *
    refine V.call rfl rfl (by simp [dOK]) ⟨21, [], by simp only [go_sem, ↓reduceIte, reduceCtorEq, Bool.false_eq_true, Bool.true_eq_false, Nat.reduceAdd, Nat.reduceLT, Nat.reduceEqDiff, Nat.reduceLeDiff, Nat.reduceSub, Nat.reduceMul], ⟨_, rfl, rfl, rfl⟩, .inl ⟨[.row (l.map Pair.pv), .int .i64 most], _, .inl (by simp only [go_sem, ↓reduceIte, reduceCtorEq, Bool.false_eq_true, Bool.true_eq_false, Nat.reduceAdd, Nat.reduceLT, Nat.reduceEqDiff, Nat.reduceLeDiff, Nat.reduceSub, Nat.reduceMul]), c1, .inr (.inl ⟨_, rfl, rfl, rfl⟩)⟩⟩ ?_
    refine V.exec 400 ?_
    simp (config := {contextual := true}) only [go_sem, ↓reduceIte, reduceCtorEq, Bool.false_eq_true, Bool.true_eq_false, Nat.reduceAdd, Nat.reduceLT, Nat.reduceEqDiff, Nat.reduceLeDiff, Nat.reduceSub, Nat.reduceMul]
    refine V.call rfl rfl (by simp [dOK]) ⟨22, [], by simp only [go_sem, ↓reduceIte, reduceCtorEq, Bool.false_eq_true, Bool.true_eq_false, Nat.reduceAdd, Nat.reduceLT, Nat.reduceEqDiff, Nat.reduceLeDiff, Nat.reduceSub, Nat.reduceMul], ⟨_, rfl, rfl, rfl⟩, .inl ⟨[.int .i64 l.length, .int .i64 most], _, .inl (by simp only [go_sem, ↓reduceIte, reduceCtorEq, Bool.false_eq_true, Bool.true_eq_false, Nat.reduceAdd, Nat.reduceLT, Nat.reduceEqDiff, Nat.reduceLeDiff, Nat.reduceSub, Nat.reduceMul]), c2, .inr (.inl ⟨_, rfl, rfl, rfl⟩)⟩⟩ ?_
    refine V.exec 400 ?_
    simp (config := {contextual := true}) only [go_sem, ↓reduceIte, reduceCtorEq, Bool.false_eq_true, Bool.true_eq_false, Nat.reduceAdd, Nat.reduceLT, Nat.reduceEqDiff, Nat.reduceLeDiff, Nat.reduceSub, Nat.reduceMul]
    refine V.loop (fun m ls os => ∃ i : Nat, i ≤ S.length ∧ m = S.length - i ∧
        ls = [(0, .val (.row (l.map Pair.pv))), (1, .val (.int .i64 most)), (6, .val (.row ((S.map List.length).map pvI))), (7, .ref 0), (26, .val (.row (S.map rowP))), (27, .val (.int .i64 S.length)), (28, .val (.int .i64 i))] ∧
        os = [.row 36 ((S.take i).flatten.map Pair.pv)]) 1 S.length
      [(0, .val (.row (l.map Pair.pv))), (1, .val (.int .i64 most)), (6, .val (.row ((S.map List.length).map pvI))), (7, .ref 0), (26, .val (.row (S.map rowP))), (27, .val (.int .i64 S.length)), (28, .val (.int .i64 0))] [.row 36 []] [none]
      ⟨0, Nat.zero_le _, rfl, rfl, rfl⟩ (by simp only [go_sem, ↓reduceIte, reduceCtorEq, Bool.false_eq_true, Bool.true_eq_false, Nat.reduceAdd, Nat.reduceLT, Nat.reduceEqDiff, Nat.reduceLeDiff, Nat.reduceSub, Nat.reduceMul]; try decide) ?_
    rintro m ls os ⟨i, hi, rfl, rfl, rfl⟩
    refine V.exec 400 ?_
    by_cases hlt : i < S.length
    · have hlt' : (i : Int) < (S.length : Int) := by omega
      obtain ⟨q, hq⟩ : ∃ x, S[i]? = some x := ⟨_, List.getElem?_eq_getElem hlt⟩
      have hw : IntKind.i64.wrap ((i : Int) + 1) = ((i + 1 : Nat) : Int) := by rw [wrap_small3] <;> omega
      have hf1 := hfe i
      have hf2 := hfe (i + 1)
      have hts : (S.take (i + 1)).flatten = (S.take i).flatten ++ q := by
        rw [List.take_add_one, hq, List.flatten_append]; simp
      rw [hts, List.length_append] at hf2
      generalize hY : (S.take i).flatten = Y at *
      simp (config := {contextual := true}) only [go_sem, ↓reduceIte, reduceCtorEq, Bool.false_eq_true, Bool.true_eq_false, Nat.reduceAdd, Nat.reduceLT, Nat.reduceEqDiff, Nat.reduceLeDiff, Nat.reduceSub, Nat.reduceMul, hlt', hq, rowP, pvI, hw, hY]
      refine ⟨fun j _ => rfl, ⟨by omega, by omega⟩, S.length - (i + 1), _, _, [some 16], by omega, ⟨i + 1, by omega, rfl, rfl, rfl⟩, ?_⟩
      simp only [go_sem, ↓reduceIte, reduceCtorEq, Bool.false_eq_true, Bool.true_eq_false, Nat.reduceAdd, Nat.reduceLT, Nat.reduceEqDiff, Nat.reduceLeDiff, Nat.reduceSub, Nat.reduceMul, hts, List.map_append]
      try decide
    · have hlt' : ¬ (i : Int) < (S.length : Int) := by omega
      rw [List.take_of_length_le (by omega)]
      by_cases hc : most < 1
      · simp (config := {contextual := true}) only [go_sem, ↓reduceIte, reduceCtorEq, Bool.false_eq_true, Bool.true_eq_false, Nat.reduceAdd, Nat.reduceLT, Nat.reduceEqDiff, Nat.reduceLeDiff, Nat.reduceSub, Nat.reduceMul, hlt', hc]
        refine V.call rfl rfl (by simp [dOK]) ⟨11, [], by simp only [go_sem, ↓reduceIte, reduceCtorEq, Bool.false_eq_true, Bool.true_eq_false, Nat.reduceAdd, Nat.reduceLT, Nat.reduceEqDiff, Nat.reduceLeDiff, Nat.reduceSub, Nat.reduceMul], ⟨_, rfl, rfl, rfl⟩, .inl ⟨[], _, .inl (by simp only [go_sem, ↓reduceIte, reduceCtorEq, Bool.false_eq_true, Bool.true_eq_false, Nat.reduceAdd, Nat.reduceLT, Nat.reduceEqDiff, Nat.reduceLeDiff, Nat.reduceSub, Nat.reduceMul]), aw, .inl ⟨_, rfl, rfl, rfl, rfl⟩⟩⟩ ?_
        refine V.exec 400 ?_
        simp (config := {contextual := true}) only [go_sem, ↓reduceIte, reduceCtorEq, Bool.false_eq_true, Bool.true_eq_false, Nat.reduceAdd, Nat.reduceLT, Nat.reduceEqDiff, Nat.reduceLeDiff, Nat.reduceSub, Nat.reduceMul]
      · rw [hfl hc]
        simp (config := {contextual := true}) only [go_sem, ↓reduceIte, reduceCtorEq, Bool.false_eq_true, Bool.true_eq_false, Nat.reduceAdd, Nat.reduceLT, Nat.reduceEqDiff, Nat.reduceLeDiff, Nat.reduceSub, Nat.reduceMul, hlt', hc]
        refine V.call rfl rfl (by simp [dOK]) ⟨19, [], by simp only [go_sem, ↓reduceIte, reduceCtorEq, Bool.false_eq_true, Bool.true_eq_false, Nat.reduceAdd, Nat.reduceLT, Nat.reduceEqDiff, Nat.reduceLeDiff, Nat.reduceSub, Nat.reduceMul], ⟨_, rfl, rfl, rfl⟩, .inl ⟨[.row (l.map Pair.pv), .row (l.map Pair.pv)], _, .inl (by simp only [go_sem, ↓reduceIte, reduceCtorEq, Bool.false_eq_true, Bool.true_eq_false, Nat.reduceAdd, Nat.reduceLT, Nat.reduceEqDiff, Nat.reduceLeDiff, Nat.reduceSub, Nat.reduceMul]), ref03_Same l l (by omega), .inl ⟨_, rfl, rfl, rfl, rfl⟩⟩⟩ ?_
        refine V.exec 400 ?_
        simp (config := {contextual := true}) only [go_sem, ↓reduceIte, reduceCtorEq, Bool.false_eq_true, Bool.true_eq_false, Nat.reduceAdd, Nat.reduceLT, Nat.reduceEqDiff, Nat.reduceLeDiff, Nat.reduceSub, Nat.reduceMul, decide_true]
        refine V.call rfl rfl (by simp [dOK]) ⟨11, [], by simp only [go_sem, ↓reduceIte, reduceCtorEq, Bool.false_eq_true, Bool.true_eq_false, Nat.reduceAdd, Nat.reduceLT, Nat.reduceEqDiff, Nat.reduceLeDiff, Nat.reduceSub, Nat.reduceMul], ⟨_, rfl, rfl, rfl⟩, .inl ⟨[], _, .inl (by simp only [go_sem, ↓reduceIte, reduceCtorEq, Bool.false_eq_true, Bool.true_eq_false, Nat.reduceAdd, Nat.reduceLT, Nat.reduceEqDiff, Nat.reduceLeDiff, Nat.reduceSub, Nat.reduceMul]), aw, .inl ⟨_, rfl, rfl, rfl, rfl⟩⟩⟩ ?_
        refine V.exec 400 ?_
        simp (config := {contextual := true}) only [go_sem, ↓reduceIte, reduceCtorEq, Bool.false_eq_true, Bool.true_eq_false, Nat.reduceAdd, Nat.reduceLT, Nat.reduceEqDiff, Nat.reduceLeDiff, Nat.reduceSub, Nat.reduceMul]
  · have h60' : (60 : Int) < (l.length : Int) := by omega
    simp (config := {contextual := true}) only [go_sem, ↓reduceIte, reduceCtorEq, Bool.false_eq_true, Bool.true_eq_false, Nat.reduceAdd, Nat.reduceLT, Nat.reduceEqDiff, Nat.reduceLeDiff, Nat.reduceSub, Nat.reduceMul, Try.f4, h60']
    refine V.call rfl rfl (by simp [dOK]) ⟨11, [], by simp only [go_sem, ↓reduceIte, reduceCtorEq, Bool.false_eq_true, Bool.true_eq_false, Nat.reduceAdd, Nat.reduceLT, Nat.reduceEqDiff, Nat.reduceLeDiff, Nat.reduceSub, Nat.reduceMul], ⟨_, rfl, rfl, rfl⟩, .inl ⟨[], _, .inl (by simp only [go_sem, ↓reduceIte, reduceCtorEq, Bool.false_eq_true, Bool.true_eq_false, Nat.reduceAdd, Nat.reduceLT, Nat.reduceEqDiff, Nat.reduceLeDiff, Nat.reduceSub, Nat.reduceMul]), aw, .inl ⟨_, rfl, rfl, rfl, rfl⟩⟩⟩ ?_
    refine V.exec 400 ?_
    simp (config := {contextual := true}) only [go_sem, ↓reduceIte, reduceCtorEq, Bool.false_eq_true, Bool.true_eq_false, Nat.reduceAdd, Nat.reduceLT, Nat.reduceEqDiff, Nat.reduceLeDiff, Nat.reduceSub, Nat.reduceMul]

theorem ctShares (xs0 : List PV) (l0 : xs0.length ≤ maxLen) (h0 : ∀ x ∈ xs0, ∃ qs, x = .agg qs ∧ qs.map PV.kd = [.str, .str] ∧ ∀ q ∈ qs, q.wfv) (a1 : Int) (w1 : (Lit.int .i64 a1).wf = true) :
    Ct Try.prog 4 (YtnofkhghgjdblaaVm.ops [.row xs0, .int .i64 a1]) (.vals [.bool true]) := by
  obtain ⟨l, rfl⟩ := pair_of xs0 h0
  have hr : a1 ≤ 9223372036854775807 := by
    simp only [Lit.wf, Bool.and_eq_true, decide_eq_true_eq] at w1
    have e2 : IntKind.max .i64 = 9223372036854775807 := by decide
    rw [e2] at w1
    exact w1.2
  exact law_Shares l a1 (by simpa using l0) hr
end Go.Proofs.Ytnofkhghgjdblaa
