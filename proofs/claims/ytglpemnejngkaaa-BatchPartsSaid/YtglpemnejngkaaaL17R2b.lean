/- A part of a proof: functions of the program, walked. -/
import Derived.Test.YtglpemnejngkaaaL17R1
import Derived.Test.YtglpemnejngkaaaL17S2
set_option linter.unusedVariables false
set_option linter.unusedSimpArgs false
namespace Go.Proofs.Ytglpemnejngkaaa
open Go Go.Proofs Go.Proofs.YtglpemnejngkaaaVm Go.Proofs.Ytglpemnejngkaaa.Ty

theorem notesOk_eq (ns : List Note) : notesOk' ns = notesOk ns := rfl

set_option maxRecDepth 4000 in
set_option maxHeartbeats 8000000 in
theorem ref10_Right (l : List Pair) (hl : l.length ≤ 1000000) : Ct Try.prog 29 (YtglpemnejngkaaaVm.ops [.row (l.map Pair.pv)]) (.vals [.bool (decide (pairsOk l))]) := by
  refine Ct.of_V Try.func29 rfl (by simp [YtglpemnejngkaaaVm.ops, Try.f29]) ?_
  refine V.exec 400 ?_
  simp (config := {contextual := true}) only [go_sem, ↓reduceIte, reduceCtorEq, Bool.false_eq_true, Bool.true_eq_false, Nat.reduceAdd, Nat.reduceLT, Nat.reduceEqDiff, Nat.reduceLeDiff, Nat.reduceSub, Nat.reduceMul, Try.f29]
  refine V.loop (fun m ls os => ∃ (i : Nat), i ≤ l.length ∧ m = l.length - i ∧ (pairsOk l ↔ pairsFrom (prevKey l i) (l.drop i)) ∧
        ls = [(0, .val (.row (l.map Pair.pv))), (3, .val (.int .i64 i))] ∧ os = []) 0 l.length
      [(0, .val (.row (l.map Pair.pv))), (3, .val (.int .i64 0))] [] []
      ⟨0, Nat.zero_le _, rfl, Iff.rfl, rfl, rfl⟩ (by simp only [go_sem, ↓reduceIte, reduceCtorEq, Bool.false_eq_true, Bool.true_eq_false, Nat.reduceAdd, Nat.reduceLT, Nat.reduceEqDiff, Nat.reduceLeDiff, Nat.reduceSub, Nat.reduceMul]) ?_
  rintro m ls os ⟨i, hi, rfl, hiff, rfl, rfl⟩
  refine V.exec 400 ?_
  by_cases hlt : i < l.length
  · have hlt' : (i : Int) < (l.length : Int) := by omega
    obtain ⟨x, hx⟩ : ∃ x, l[i]? = some x := ⟨_, List.getElem?_eq_getElem hlt⟩
    have hw : IntKind.i64.wrap ((i : Int) + 1) = ((i + 1 : Nat) : Int) := by rw [wrap_small3] <;> omega
    rw [drop_of_get hx, pairsFrom] at hiff
    have hpk : prevKey l (i + 1) = some x.key := by simp [prevKey, hx]
    have fin : x.key.length ≤ 16 → x.value.length ≤ 32 → (∀ k, prevKey l i = some k → slt k x.key) → (pairsOk l ↔ pairsFrom (prevKey l (i + 1)) (l.drop (i + 1))) := fun a b c => by
      rw [hiff, hpk]; exact ⟨fun h => h.2.2.2, fun h => ⟨a, b, c, h⟩⟩
    have hfalse : ¬ pairsOk l → some [PV.bool false] = some [PV.bool (decide (pairsOk l))] := fun h => by simp [h]
    rcases Nat.eq_zero_or_pos i with rfl | hpos
    · have hz : ¬ (0 : Int) < ((0 : Nat) : Int) := by omega
      simp (config := {contextual := true}) only [go_sem, ↓reduceIte, reduceCtorEq, Bool.false_eq_true, Bool.true_eq_false, Nat.reduceAdd, Nat.reduceLT, Nat.reduceEqDiff, Nat.reduceLeDiff, Nat.reduceSub, Nat.reduceMul, hlt', hx, Pair.pv, hw, hz]
      (repeat' (first | (intro _) | (refine ⟨by kernel_rfl, ?_⟩) | (apply And.intro)))
      all_goals first
        | exact ⟨l.length - (0 + 1), _, [], [], by omega, ⟨1, by omega, rfl, fin (by omega) (by omega) (fun k h => by simp [prevKey] at h), rfl, rfl⟩, by simp only [go_sem, ↓reduceIte, reduceCtorEq, Bool.false_eq_true, Bool.true_eq_false, Nat.reduceAdd, Nat.reduceLT, Nat.reduceEqDiff, Nat.reduceLeDiff, Nat.reduceSub, Nat.reduceMul]⟩
        | (refine hfalse fun h => ?_
           have h1 := (hiff.1 h).1
           have h2 := (hiff.1 h).2.1
           omega)
    · obtain ⟨j, rfl⟩ : ∃ j, i = j + 1 := ⟨i - 1, by omega⟩
      have hw2 : IntKind.i64.wrap (((j + 1 : Nat) : Int) - 1) = (j : Int) := by rw [wrap_small3] <;> omega
      have hjp : (0 : Int) < ((j + 1 : Nat) : Int) := by omega
      obtain ⟨y, hy⟩ : ∃ y, l[j]? = some y := ⟨_, List.getElem?_eq_getElem (by omega)⟩
      simp (config := {contextual := true}) only [go_sem, ↓reduceIte, reduceCtorEq, Bool.false_eq_true, Bool.true_eq_false, Nat.reduceAdd, Nat.reduceLT, Nat.reduceEqDiff, Nat.reduceLeDiff, Nat.reduceSub, Nat.reduceMul, hlt', hx, Pair.pv, hw, hw2, hjp, hy]
      (repeat' (first | (intro _) | (refine ⟨by kernel_rfl, ?_⟩) | (apply And.intro)))
      all_goals first
        | exact ⟨l.length - (j + 1 + 1), _, [], [], by omega, ⟨j + 1 + 1, by omega, rfl, fin (by omega) (by omega) (fun k h => by simp [prevKey, hy] at h; rw [← h]; assumption), rfl, rfl⟩, by simp only [go_sem, ↓reduceIte, reduceCtorEq, Bool.false_eq_true, Bool.true_eq_false, Nat.reduceAdd, Nat.reduceLT, Nat.reduceEqDiff, Nat.reduceLeDiff, Nat.reduceSub, Nat.reduceMul]⟩
        | (refine hfalse fun h => ?_
           have h1 := (hiff.1 h).1
           have h2 := (hiff.1 h).2.1
           have h3 := (hiff.1 h).2.2.1 y.key (by simp [prevKey, hy])
           first | omega | contradiction)
  · have hlt' : ¬ (i : Int) < (l.length : Int) := by omega
    have hd : l.drop i = [] := List.drop_eq_nil_of_le (by omega)
    rw [hd, pairsFrom] at hiff
    simp (config := {contextual := true}) only [go_sem, ↓reduceIte, reduceCtorEq, Bool.false_eq_true, Bool.true_eq_false, Nat.reduceAdd, Nat.reduceLT, Nat.reduceEqDiff, Nat.reduceLeDiff, Nat.reduceSub, Nat.reduceMul, hlt']
    simp [hiff]

def refFindP (l : List Pair) (k : List UInt8) : Int := match l.findIdx? (fun s => decide (s.key = k)) with
  | some i => i
  | none => -1

set_option maxHeartbeats 4000000 in
theorem ref10_Find (l : List Pair) (k : List UInt8) (hl : l.length ≤ 1000000) : Ct Try.prog 47 (YtglpemnejngkaaaVm.ops [.row (l.map Pair.pv), .str k]) (.vals [.int .i64 (refFindP l k)]) := by
  refine Ct.of_V Try.func47 rfl (by simp [YtglpemnejngkaaaVm.ops, Try.f47]) ?_
  refine V.exec 400 ?_
  simp (config := {contextual := true}) only [go_sem, ↓reduceIte, reduceCtorEq, Bool.false_eq_true, Bool.true_eq_false, Nat.reduceAdd, Nat.reduceLT, Nat.reduceEqDiff, Nat.reduceLeDiff, Nat.reduceSub, Nat.reduceMul, Try.f47]
  refine V.loop (fun m ls os => ∃ (i : Nat), i ≤ l.length ∧ m = l.length - i ∧ (∀ s ∈ l.take i, s.key ≠ k) ∧
        ls = [(0, .val (.row (l.map Pair.pv))), (1, .val (.str k)), (5, .val (.int .i64 i))] ∧ os = []) 0 l.length
      [(0, .val (.row (l.map Pair.pv))), (1, .val (.str k)), (5, .val (.int .i64 0))] [] []
      ⟨0, Nat.zero_le _, rfl, by simp, rfl, rfl⟩ (by simp only [go_sem, ↓reduceIte, reduceCtorEq, Bool.false_eq_true, Bool.true_eq_false, Nat.reduceAdd, Nat.reduceLT, Nat.reduceEqDiff, Nat.reduceLeDiff, Nat.reduceSub, Nat.reduceMul]) ?_
  rintro m ls os ⟨i, hi, rfl, hno, rfl, rfl⟩
  refine V.exec 400 ?_
  by_cases hlt : i < l.length
  · have hlt' : (i : Int) < (l.length : Int) := by omega
    obtain ⟨x, hx⟩ : ∃ x, l[i]? = some x := ⟨_, List.getElem?_eq_getElem hlt⟩
    have hxe := (List.getElem?_eq_some_iff.1 hx).2
    have hw : IntKind.i64.wrap ((i : Int) + 1) = ((i + 1 : Nat) : Int) := by rw [wrap_small3] <;> omega
    simp (config := {contextual := true}) only [go_sem, ↓reduceIte, reduceCtorEq, Bool.false_eq_true, Bool.true_eq_false, Nat.reduceAdd, Nat.reduceLT, Nat.reduceEqDiff, Nat.reduceLeDiff, Nat.reduceSub, Nat.reduceMul, hlt', hx, Pair.pv, hw]
    refine ⟨fun he => ?_, fun hne => ?_⟩
    · have hf : l.findIdx? (fun s => decide (s.key = k)) = some i := by
        rw [List.findIdx?_eq_some_iff_getElem]
        refine ⟨hlt, by rw [hxe]; simpa using he, fun j hj => ?_⟩
        have := hno l[j] (by rw [List.mem_take_iff_getElem]; exact ⟨j, by omega, rfl⟩)
        simpa using this
      have hv : refFindP l k = (i : Int) := by simp only [refFindP, hf]
      simp [hv]
    · refine ⟨l.length - (i + 1), _, [], [], by omega, ⟨i + 1, by omega, rfl, fun s hs => ?_, rfl, rfl⟩, by simp only [go_sem, ↓reduceIte, reduceCtorEq, Bool.false_eq_true, Bool.true_eq_false, Nat.reduceAdd, Nat.reduceLT, Nat.reduceEqDiff, Nat.reduceLeDiff, Nat.reduceSub, Nat.reduceMul]⟩
      rw [List.take_add_one, hx] at hs
      rcases List.mem_append.1 hs with hs | hs
      · exact hno s hs
      · simp at hs; rw [hs]; exact hne
  · have hlt' : ¬ (i : Int) < (l.length : Int) := by omega
    simp (config := {contextual := true}) only [go_sem, ↓reduceIte, reduceCtorEq, Bool.false_eq_true, Bool.true_eq_false, Nat.reduceAdd, Nat.reduceLT, Nat.reduceEqDiff, Nat.reduceLeDiff, Nat.reduceSub, Nat.reduceMul, hlt']
    rw [List.take_of_length_le (by omega)] at hno
    have hf : l.findIdx? (fun s => decide (s.key = k)) = none := by
      rw [List.findIdx?_eq_none_iff]
      intro x hx
      simpa using hno x hx
    simp only [refFindP, hf]

def lessV (l : List Pair) (k : List UInt8) : Nat := (lowP l k).length
theorem lowP_snoc (l : List Pair) (x : Pair) (k : List UInt8) : lowP (l ++ [x]) k = if slt x.key k then lowP l k ++ [x] else lowP l k := by
  unfold lowP
  rw [List.filter_append]
  by_cases h : slt x.key k <;> simp [h]
theorem highP_snoc (l : List Pair) (x : Pair) (k : List UInt8) : highP (l ++ [x]) k = if slt k x.key then highP l k ++ [x] else highP l k := by
  unfold highP
  rw [List.filter_append]
  by_cases h : slt k x.key <;> simp [h]
theorem lowP_len (l : List Pair) (k : List UInt8) : (lowP l k).length ≤ l.length := List.length_filter_le _ _
theorem highP_len (l : List Pair) (k : List UInt8) : (highP l k).length ≤ l.length := List.length_filter_le _ _
theorem take_snoc {α : Type} {l : List α} {i : Nat} {x : α} (h : l[i]? = some x) : l.take (i + 1) = l.take i ++ [x] := by
  rw [List.take_add_one, h]; rfl


/-- The last value that a key has. -/
def lastV (l : List Pair) (k : List UInt8) : List UInt8 × Bool := l.foldl (fun s p => if p.key = k then (p.value, true) else s) ([], false)
theorem lastV_snoc (l : List Pair) (x : Pair) (k : List UInt8) : lastV (l ++ [x]) k = if x.key = k then (x.value, true) else lastV l k := by
  unfold lastV
  rw [List.foldl_append]; rfl
theorem lastV_none : ∀ (l : List Pair) (k : List UInt8), (∀ p ∈ l, p.key ≠ k) → ∀ s, l.foldl (fun s p => if p.key = k then (p.value, true) else s) s = (s : List UInt8 × Bool)
  | [], _, _, _ => rfl
  | p :: r, k, h, s => by
    rw [List.foldl_cons, if_neg (h p List.mem_cons_self)]
    exact lastV_none r k (fun x hx => h x (List.mem_cons_of_mem _ hx)) s
theorem lastV_val {l : List Pair} (hs : Sorted l) (k : List UInt8) : lastV l k = (match val l k with | some v => (v, true) | none => ([], false)) := by
  unfold lastV val getL
  suffices h : ∀ (s : List UInt8 × Bool), l.foldl (fun s p => if p.key = k then (p.value, true) else s) s = (match (l.find? (fun p => decide (p.key = k))).map Pair.value with | some v => (v, true) | none => s) from h _
  induction l with
  | nil => intro s; rfl
  | cons p r ih =>
    intro s
    cases hs with
    | cons h1 h2 =>
      rw [List.foldl_cons, List.find?_cons]
      by_cases he : p.key = k
      · rw [if_pos he, lastV_none r k (fun x hx e => by
          have := h1 x hx
          rw [e, he] at this
          exact slt_irrefl _ this)]
        simp [he]
      · rw [if_neg he, ih h2]
        simp [he]
theorem oneV_last {l : List Pair} (hs : Sorted l) (x : Note) : oneV l x = lowP l x.key ++ (if (doneOne (lastV l x.key) x).2 = true then [⟨x.key, (doneOne (lastV l x.key) x).1⟩] else []) ++ highP l x.key := by
  rw [lastV_val hs]
  unfold oneV mids stepO
  cases val l x.key <;> simp only <;> split <;> simp_all
end Go.Proofs.Ytglpemnejngkaaa
