/- A part of a proof: functions of the program, walked. -/
import Derived.Test.YtglpemnejngkaaaGF
set_option linter.unusedVariables false
set_option linter.unusedSimpArgs false
namespace Go.Proofs.Ytglpemnejngkaaa
open Go Go.Proofs Go.Proofs.YtglpemnejngkaaaVm Go.Proofs.Ytglpemnejngkaaa.Ty

theorem notesOk_eq (ns : List Note) : notesOk' ns = notesOk ns := rfl

set_option maxRecDepth 4000 in
set_option maxHeartbeats 8000000 in
theorem ref10_Right (l : List Pair) (hl : l.length ≤ 1000000) : Ct Try.prog 29 (YtglpemnejngkaaaVm.ops [.row (l.map Pair.pv)]) (.vals [.bool (decide (pairsOk l))]) := by
  refine Ct.of_V Try.func29 rfl (by simp [YtglpemnejngkaaaVm.ops, Try.f29]) ?_
  refine V.exec 400 ?_
  simp (config := {contextual := true}) only [go_sem, ↓reduceIte, reduceCtorEq, Bool.false_eq_true, Bool.true_eq_false, Nat.reduceAdd, Nat.reduceLT, Nat.reduceEqDiff, Nat.reduceLeDiff, Nat.reduceSub, Nat.reduceMul, Try.f29]
  refine V.loop (fun m ls os => ∃ (i : Nat), i ≤ l.length ∧ m = l.length - i ∧ (pairsOk l ↔ pairsFrom (prevKey l i) (l.drop i)) ∧
        ls = [(0, .val (.row (l.map Pair.pv))), (3, .val (.int .i64 i))] ∧ os = []) 0 l.length
      [(0, .val (.row (l.map Pair.pv))), (3, .val (.int .i64 0))] [] []
      ⟨0, Nat.zero_le _, rfl, Iff.rfl, rfl, rfl⟩ (by simp only [go_sem, ↓reduceIte, reduceCtorEq, Bool.false_eq_true, Bool.true_eq_false, Nat.reduceAdd, Nat.reduceLT, Nat.reduceEqDiff, Nat.reduceLeDiff, Nat.reduceSub, Nat.reduceMul]) ?_
  rintro m ls os ⟨i, hi, rfl, hiff, rfl, rfl⟩
  refine V.exec 400 ?_
  by_cases hlt : i < l.length
  · have hlt' : (i : Int) < (l.length : Int) := by omega
    obtain ⟨x, hx⟩ : ∃ x, l[i]? = some x := ⟨_, List.getElem?_eq_getElem hlt⟩
    have hw : IntKind.i64.wrap ((i : Int) + 1) = ((i + 1 : Nat) : Int) := by rw [wrap_small3] <;> omega
    rw [drop_of_get hx, pairsFrom] at hiff
    have hpk : prevKey l (i + 1) = some x.key := by simp [prevKey, hx]
    have fin : x.key.length ≤ 16 → x.value.length ≤ 32 → (∀ k, prevKey l i = some k → slt k x.key) → (pairsOk l ↔ pairsFrom (prevKey l (i + 1)) (l.drop (i + 1))) := fun a b c => by
      rw [hiff, hpk]; exact ⟨fun h => h.2.2.2, fun h => ⟨a, b, c, h⟩⟩
    have hfalse : ¬ pairsOk l → some [PV.bool false] = some [PV.bool (decide (pairsOk l))] := fun h => by simp [h]
    rcases Nat.eq_zero_or_pos i with rfl | hpos
    · have hz : ¬ (0 : Int) < ((0 : Nat) : Int) := by omega
      simp (config := {contextual := true}) only [go_sem, ↓reduceIte, reduceCtorEq, Bool.false_eq_true, Bool.true_eq_false, Nat.reduceAdd, Nat.reduceLT, Nat.reduceEqDiff, Nat.reduceLeDiff, Nat.reduceSub, Nat.reduceMul, hlt', hx, Pair.pv, hw, hz]
      (repeat' (first | (intro _) | (refine ⟨by kernel_rfl, ?_⟩) | (apply And.intro)))
      all_goals first
        | exact ⟨l.length - (0 + 1), _, [], [], by omega, ⟨1, by omega, rfl, fin (by omega) (by omega) (fun k h => by simp [prevKey] at h), rfl, rfl⟩, by simp only [go_sem, ↓reduceIte, reduceCtorEq, Bool.false_eq_true, Bool.true_eq_false, Nat.reduceAdd, Nat.reduceLT, Nat.reduceEqDiff, Nat.reduceLeDiff, Nat.reduceSub, Nat.reduceMul]⟩
        | (refine hfalse fun h => ?_
           have h1 := (hiff.1 h).1
           have h2 := (hiff.1 h).2.1
           omega)
    · obtain ⟨j, rfl⟩ : ∃ j, i = j + 1 := ⟨i - 1, by omega⟩
      have hw2 : IntKind.i64.wrap (((j + 1 : Nat) : Int) - 1) = (j : Int) := by rw [wrap_small3] <;> omega
      have hjp : (0 : Int) < ((j + 1 : Nat) : Int) := by omega
      obtain ⟨y, hy⟩ : ∃ y, l[j]? = some y := ⟨_, List.getElem?_eq_getElem (by omega)⟩
      simp (config := {contextual := true}) only [go_sem, ↓reduceIte, reduceCtorEq, Bool.false_eq_true, Bool.true_eq_false, Nat.reduceAdd, Nat.reduceLT, Nat.reduceEqDiff, Nat.reduceLeDiff, Nat.reduceSub, Nat.reduceMul, hlt', hx, Pair.pv, hw, hw2, hjp, hy]
      (repeat' (first | (intro _) | (refine ⟨by kernel_rfl, ?_⟩) | (apply And.intro)))
      all_goals first
        | exact ⟨l.length - (j + 1 + 1), _, [], [], by omega, ⟨j + 1 + 1, by omega, rfl, fin (by omega) (by omega) (fun k h => by simp [prevKey, hy] at h; rw [← h]; assumption), rfl, rfl⟩, by simp only [go_sem, ↓reduceIte, reduceCtorEq, Bool.false_eq_true, Bool.true_eq_false, Nat.reduceAdd, Nat.reduceLT, Nat.reduceEqDiff, Nat.reduceLeDiff, Nat.reduceSub, Nat.reduceMul]⟩
        | (refine hfalse fun h => ?_
           have h1 := (hiff.1 h).1
           have h2 := (hiff.1 h).2.1
           have h3 := (hiff.1 h).2.2.1 y.key (by simp [prevKey, hy])
           first | omega | contradiction)
  · have hlt' : ¬ (i : Int) < (l.length : Int) := by omega
    have hd : l.drop i = [] := List.drop_eq_nil_of_le (by omega)
    rw [hd, pairsFrom] at hiff
    simp (config := {contextual := true}) only [go_sem, ↓reduceIte, reduceCtorEq, Bool.false_eq_true, Bool.true_eq_false, Nat.reduceAdd, Nat.reduceLT, Nat.reduceEqDiff, Nat.reduceLeDiff, Nat.reduceSub, Nat.reduceMul, hlt']
    simp [hiff]

def refFindP (l : List Pair) (k : List UInt8) : Int := match l.findIdx? (fun s => decide (s.key = k)) with
  | some i => i
  | none => -1

set_option maxHeartbeats 4000000 in
theorem ref10_Find (l : List Pair) (k : List UInt8) (hl : l.length ≤ 1000000) : Ct Try.prog 47 (YtglpemnejngkaaaVm.ops [.row (l.map Pair.pv), .str k]) (.vals [.int .i64 (refFindP l k)]) := by
  refine Ct.of_V Try.func47 rfl (by simp [YtglpemnejngkaaaVm.ops, Try.f47]) ?_
  refine V.exec 400 ?_
  simp (config := {contextual := true}) only [go_sem, ↓reduceIte, reduceCtorEq, Bool.false_eq_true, Bool.true_eq_false, Nat.reduceAdd, Nat.reduceLT, Nat.reduceEqDiff, Nat.reduceLeDiff, Nat.reduceSub, Nat.reduceMul, Try.f47]
  refine V.loop (fun m ls os => ∃ (i : Nat), i ≤ l.length ∧ m = l.length - i ∧ (∀ s ∈ l.take i, s.key ≠ k) ∧
        ls = [(0, .val (.row (l.map Pair.pv))), (1, .val (.str k)), (5, .val (.int .i64 i))] ∧ os = []) 0 l.length
      [(0, .val (.row (l.map Pair.pv))), (1, .val (.str k)), (5, .val (.int .i64 0))] [] []
      ⟨0, Nat.zero_le _, rfl, by simp, rfl, rfl⟩ (by simp only [go_sem, ↓reduceIte, reduceCtorEq, Bool.false_eq_true, Bool.true_eq_false, Nat.reduceAdd, Nat.reduceLT, Nat.reduceEqDiff, Nat.reduceLeDiff, Nat.reduceSub, Nat.reduceMul]) ?_
  rintro m ls os ⟨i, hi, rfl, hno, rfl, rfl⟩
  refine V.exec 400 ?_
  by_cases hlt : i < l.length
  · have hlt' : (i : Int) < (l.length : Int) := by omega
    obtain ⟨x, hx⟩ : ∃ x, l[i]? = some x := ⟨_, List.getElem?_eq_getElem hlt⟩
    have hxe := (List.getElem?_eq_some_iff.1 hx).2
    have hw : IntKind.i64.wrap ((i : Int) + 1) = ((i + 1 : Nat) : Int) := by rw [wrap_small3] <;> omega
    simp (config := {contextual := true}) only [go_sem, ↓reduceIte, reduceCtorEq, Bool.false_eq_true, Bool.true_eq_false, Nat.reduceAdd, Nat.reduceLT, Nat.reduceEqDiff, Nat.reduceLeDiff, Nat.reduceSub, Nat.reduceMul, hlt', hx, Pair.pv, hw]
    refine ⟨fun he => ?_, fun hne => ?_⟩
    · have hf : l.findIdx? (fun s => decide (s.key = k)) = some i := by
        rw [List.findIdx?_eq_some_iff_getElem]
        refine ⟨hlt, by rw [hxe]; simpa using he, fun j hj => ?_⟩
        have := hno l[j] (by rw [List.mem_take_iff_getElem]; exact ⟨j, by omega, rfl⟩)
        simpa using this
      have hv : refFindP l k = (i : Int) := by simp only [refFindP, hf]
      simp [hv]
    · refine ⟨l.length - (i + 1), _, [], [], by omega, ⟨i + 1, by omega, rfl, fun s hs => ?_, rfl, rfl⟩, by simp only [go_sem, ↓reduceIte, reduceCtorEq, Bool.false_eq_true, Bool.true_eq_false, Nat.reduceAdd, Nat.reduceLT, Nat.reduceEqDiff, Nat.reduceLeDiff, Nat.reduceSub, Nat.reduceMul]⟩
      rw [List.take_add_one, hx] at hs
      rcases List.mem_append.1 hs with hs | hs
      · exact hno s hs
      · simp at hs; rw [hs]; exact hne
  · have hlt' : ¬ (i : Int) < (l.length : Int) := by omega
    simp (config := {contextual := true}) only [go_sem, ↓reduceIte, reduceCtorEq, Bool.false_eq_true, Bool.true_eq_false, Nat.reduceAdd, Nat.reduceLT, Nat.reduceEqDiff, Nat.reduceLeDiff, Nat.reduceSub, Nat.reduceMul, hlt']
    rw [List.take_of_length_le (by omega)] at hno
    have hf : l.findIdx? (fun s => decide (s.key = k)) = none := by
      rw [List.findIdx?_eq_none_iff]
      intro x hx
      simpa using hno x hx
    simp only [refFindP, hf]

def lessV (l : List Pair) (k : List UInt8) : Nat := (lowP l k).length
theorem lowP_snoc (l : List Pair) (x : Pair) (k : List UInt8) : lowP (l ++ [x]) k = if slt x.key k then lowP l k ++ [x] else lowP l k := by
  unfold lowP
  rw [List.filter_append]
  by_cases h : slt x.key k <;> simp [h]
theorem highP_snoc (l : List Pair) (x : Pair) (k : List UInt8) : highP (l ++ [x]) k = if slt k x.key then highP l k ++ [x] else highP l k := by
  unfold highP
  rw [List.filter_append]
  by_cases h : slt k x.key <;> simp [h]
theorem lowP_len (l : List Pair) (k : List UInt8) : (lowP l k).length ≤ l.length := List.length_filter_le _ _
theorem highP_len (l : List Pair) (k : List UInt8) : (highP l k).length ≤ l.length := List.length_filter_le _ _
theorem take_snoc {α : Type} {l : List α} {i : Nat} {x : α} (h : l[i]? = some x) : l.take (i + 1) = l.take i ++ [x] := by
  rw [List.take_add_one, h]; rfl


/-- The last value that a key has. -/
def lastV (l : List Pair) (k : List UInt8) : List UInt8 × Bool := l.foldl (fun s p => if p.key = k then (p.value, true) else s) ([], false)
theorem lastV_snoc (l : List Pair) (x : Pair) (k : List UInt8) : lastV (l ++ [x]) k = if x.key = k then (x.value, true) else lastV l k := by
  unfold lastV
  rw [List.foldl_append]; rfl
theorem lastV_none : ∀ (l : List Pair) (k : List UInt8), (∀ p ∈ l, p.key ≠ k) → ∀ s, l.foldl (fun s p => if p.key = k then (p.value, true) else s) s = (s : List UInt8 × Bool)
  | [], _, _, _ => rfl
  | p :: r, k, h, s => by
    rw [List.foldl_cons, if_neg (h p List.mem_cons_self)]
    exact lastV_none r k (fun x hx => h x (List.mem_cons_of_mem _ hx)) s
theorem lastV_val {l : List Pair} (hs : Sorted l) (k : List UInt8) : lastV l k = (match val l k with | some v => (v, true) | none => ([], false)) := by
  unfold lastV val getL
  suffices h : ∀ (s : List UInt8 × Bool), l.foldl (fun s p => if p.key = k then (p.value, true) else s) s = (match (l.find? (fun p => decide (p.key = k))).map Pair.value with | some v => (v, true) | none => s) from h _
  induction l with
  | nil => intro s; rfl
  | cons p r ih =>
    intro s
    cases hs with
    | cons h1 h2 =>
      rw [List.foldl_cons, List.find?_cons]
      by_cases he : p.key = k
      · rw [if_pos he, lastV_none r k (fun x hx e => by
          have := h1 x hx
          rw [e, he] at this
          exact slt_irrefl _ this)]
        simp [he]
      · rw [if_neg he, ih h2]
        simp [he]
theorem oneV_last {l : List Pair} (hs : Sorted l) (x : Note) : oneV l x = lowP l x.key ++ (if (doneOne (lastV l x.key) x).2 = true then [⟨x.key, (doneOne (lastV l x.key) x).1⟩] else []) ++ highP l x.key := by
  rw [lastV_val hs]
  unfold oneV mids stepO
  cases val l x.key <;> simp only <;> split <;> simp_all
end Go.Proofs.Ytglpemnejngkaaa
set_option linter.unusedVariables false
set_option linter.unusedSimpArgs false
namespace Go.Proofs.Ytglpemnejngkaaa
open Go Go.Proofs Go.Proofs.YtglpemnejngkaaaVm Go.Proofs.Ytglpemnejngkaaa.Ty

set_option maxRecDepth 10000 in
set_option maxHeartbeats 16000000 in
theorem ref10_one (l : List Pair) (x : Note) (hl : l.length ≤ 400000) (hs : Sorted l) : Ct Try.prog 49 (YtglpemnejngkaaaVm.ops [.row (l.map Pair.pv), x.pv]) (.vals [.row ((oneV l x).map Pair.pv)]) := by
  refine Ct.of_V Try.func49 rfl (by simp [YtglpemnejngkaaaVm.ops, Try.f49]) ?_
  refine V.exec 400 ?_
  simp (config := {contextual := true}) only [go_sem, ↓reduceIte, reduceCtorEq, Bool.false_eq_true, Bool.true_eq_false, Nat.reduceAdd, Nat.reduceLT, Nat.reduceEqDiff, Nat.reduceLeDiff, Nat.reduceSub, Nat.reduceMul, Try.f49, Note.pv]
  refine V.loop (fun m ls os => ∃ (i : Nat), i ≤ l.length ∧ m = l.length - i ∧
        ls = [(0, .val (.row (l.map Pair.pv))), (3, .adr 0 0), (5, .val (.str (lastV (l.take i) x.key).1)), (6, .val (.bool (decide ((lastV (l.take i) x.key).2 = true)))), (7, .ref 1), (8, .ref 2), (9, .val (.int .i64 i))] ∧
        os = [.box true [.val (.int .i64 x.kind), .val (.str x.key), .val (.str x.value), .val (.int .u64 x.n)], .row 61 ((lowP (l.take i) x.key).map Pair.pv), .row 61 ((highP (l.take i) x.key).map Pair.pv)]) 3 l.length
      [(0, .val (.row (l.map Pair.pv))), (3, .adr 0 0), (5, .val (.str [])), (6, .val (.bool (decide (false = true)))), (7, .ref 1), (8, .ref 2), (9, .val (.int .i64 0))]
      [.box true [.val (.int .i64 x.kind), .val (.str x.key), .val (.str x.value), .val (.int .u64 x.n)], .row 61 [], .row 61 []] [some 2, none, none]
      ⟨0, Nat.zero_le _, rfl, rfl, rfl⟩ (by simp only [go_sem, ↓reduceIte, reduceCtorEq, Bool.false_eq_true, Bool.true_eq_false, Nat.reduceAdd, Nat.reduceLT, Nat.reduceEqDiff, Nat.reduceLeDiff, Nat.reduceSub, Nat.reduceMul, decide_false]; try decide) ?_
  rintro m ls os ⟨i, hi, rfl, rfl, rfl⟩
  refine V.exec 400 ?_
  by_cases hlt : i < l.length
  · have hlt' : (i : Int) < (l.length : Int) := by omega
    obtain ⟨p, hp⟩ : ∃ x, l[i]? = some x := ⟨_, List.getElem?_eq_getElem hlt⟩
    have hw : IntKind.i64.wrap ((i : Int) + 1) = ((i + 1 : Nat) : Int) := by rw [wrap_small3] <;> omega
    have h1 := lowP_snoc (l.take i) p x.key
    have h2 := highP_snoc (l.take i) p x.key
    have h3 := lastV_snoc (l.take i) p x.key
    rw [← take_snoc hp] at h1 h2 h3
    have hl1 : (lowP (l.take i) x.key).length ≤ i := Nat.le_trans (lowP_len _ _) (by simp; omega)
    have hl2 : (highP (l.take i) x.key).length ≤ i := Nat.le_trans (highP_len _ _) (by simp; omega)
    by_cases ha : slt p.key x.key
    · have hb : ¬ p.key = x.key := fun e => slt_irrefl x.key (by rw [e] at ha; exact ha)
      have hc : ¬ slt x.key p.key := slt_asymm ha
      rw [if_pos ha] at h1
      rw [if_neg hc] at h2
      rw [if_neg hb] at h3
      have hd : ¬ (slt p.key x.key ∨ p.key = x.key) ↔ False := by simp [ha]
      simp (config := {contextual := true}) only [go_sem, ↓reduceIte, reduceCtorEq, Bool.false_eq_true, Bool.true_eq_false, Nat.reduceAdd, Nat.reduceLT, Nat.reduceEqDiff, Nat.reduceLeDiff, Nat.reduceSub, Nat.reduceMul, hlt', hp, Pair.pv, hw, ha, hb, true_or]
      (repeat' (first | (intro _) | (refine ⟨by kernel_rfl, ?_⟩) | (apply And.intro)))
      all_goals first
        | omega
        | (refine ⟨l.length - (i + 1), _, _, [some 0, some 21, some 2], by omega, ⟨i + 1, by omega, rfl, rfl, rfl⟩, ?_⟩
           simp only [go_sem, ↓reduceIte, reduceCtorEq, Bool.false_eq_true, Bool.true_eq_false, Nat.reduceAdd, Nat.reduceLT, Nat.reduceEqDiff, Nat.reduceLeDiff, Nat.reduceSub, Nat.reduceMul, h1, h2, h3, List.map_append, List.map_cons, List.map_nil, Pair.pv, decide_true]
           try decide)
    · by_cases hb : p.key = x.key
      · have hc : ¬ slt x.key p.key := by rw [hb]; exact slt_irrefl _
        rw [if_neg ha] at h1
        rw [if_neg hc] at h2
        rw [if_pos hb] at h3
        have hsi := slt_irrefl x.key
        simp (config := {contextual := true}) only [go_sem, ↓reduceIte, reduceCtorEq, Bool.false_eq_true, Bool.true_eq_false, Nat.reduceAdd, Nat.reduceLT, Nat.reduceEqDiff, Nat.reduceLeDiff, Nat.reduceSub, Nat.reduceMul, hlt', hp, Pair.pv, hw, hb, hsi, or_true]
        (repeat' (first | (intro _) | (refine ⟨by kernel_rfl, ?_⟩) | (apply And.intro)))
        all_goals first
          | omega
          | (refine ⟨l.length - (i + 1), _, _, [some 0, some 1, some 2], by omega, ⟨i + 1, by omega, rfl, rfl, rfl⟩, ?_⟩
             simp only [go_sem, ↓reduceIte, reduceCtorEq, Bool.false_eq_true, Bool.true_eq_false, Nat.reduceAdd, Nat.reduceLT, Nat.reduceEqDiff, Nat.reduceLeDiff, Nat.reduceSub, Nat.reduceMul, h1, h2, h3, List.map_append, List.map_cons, List.map_nil, Pair.pv, decide_true]
             try decide)
      · have hc : slt x.key p.key := by
          rcases slt_total p.key x.key with h | h | h
          · exact absurd h ha
          · exact absurd h hb
          · exact h
        rw [if_neg ha] at h1
        rw [if_pos hc] at h2
        rw [if_neg hb] at h3
        simp (config := {contextual := true}) only [go_sem, ↓reduceIte, reduceCtorEq, Bool.false_eq_true, Bool.true_eq_false, Nat.reduceAdd, Nat.reduceLT, Nat.reduceEqDiff, Nat.reduceLeDiff, Nat.reduceSub, Nat.reduceMul, hlt', hp, Pair.pv, hw, ha, hb, or_self]
        (repeat' (first | (intro _) | (refine ⟨by kernel_rfl, ?_⟩) | (apply And.intro)))
        all_goals first
          | omega
          | (refine ⟨l.length - (i + 1), _, _, [some 0, some 1, some 37], by omega, ⟨i + 1, by omega, rfl, rfl, rfl⟩, ?_⟩
             simp only [go_sem, ↓reduceIte, reduceCtorEq, Bool.false_eq_true, Bool.true_eq_false, Nat.reduceAdd, Nat.reduceLT, Nat.reduceEqDiff, Nat.reduceLeDiff, Nat.reduceSub, Nat.reduceMul, h1, h2, h3, List.map_append, List.map_cons, List.map_nil, Pair.pv, decide_true]
             try decide)
  · have hlt' : ¬ (i : Int) < (l.length : Int) := by omega
    simp (config := {contextual := true}) only [go_sem, ↓reduceIte, reduceCtorEq, Bool.false_eq_true, Bool.true_eq_false, Nat.reduceAdd, Nat.reduceLT, Nat.reduceEqDiff, Nat.reduceLeDiff, Nat.reduceSub, Nat.reduceMul, hlt']
    rw [List.take_of_length_le (by omega)]
    have ho := oneV_last hs x
    have hl1 := lowP_len l x.key
    have hl2 := highP_len l x.key
    generalize lowP l x.key = low at *
    generalize highP l x.key = high at *
    obtain ⟨v, has, hlv⟩ : ∃ a b, lastV l x.key = (a, b) := ⟨_, _, rfl⟩
    rw [hlv] at ho ⊢
    simp only at ho ⊢
    have hfe : v = (if has = true then v else []) ∨ True := .inr trivial
    have hv0 : has = false → v = [] := fun h => by
      have := lastV_val hs x.key
      rw [hlv] at this
      cases hv : val l x.key with
      | none => rw [hv] at this; cases this; rfl
      | some w => rw [hv] at this; cases this; cases h
    have hdo := ref09_Done v has [x] (by simp)
    have hdv : doneV v has [x] = doneOne (v, has) x := by
      unfold doneV
      simp only [List.foldl_cons, List.foldl_nil]
      cases has with
      | true => rfl
      | false => rw [hv0 rfl]; rfl
    rw [hdv] at hdo
    obtain ⟨now, is', hdd⟩ : ∃ a b, doneOne (v, has) x = (a, b) := ⟨_, _, rfl⟩
    rw [hdd] at hdo ho
    simp only at hdo ho
    refine V.call rfl rfl (by simp [dOK]) ⟨48, [], by simp only [go_sem, ↓reduceIte, reduceCtorEq, Bool.false_eq_true, Bool.true_eq_false, Nat.reduceAdd, Nat.reduceLT, Nat.reduceEqDiff, Nat.reduceLeDiff, Nat.reduceSub, Nat.reduceMul], ⟨_, rfl, rfl, rfl⟩, .inl ⟨[.str v, .bool (decide (has = true)), .row ([x].map Note.pv)], _, .inl (by simp only [go_sem, ↓reduceIte, reduceCtorEq, Bool.false_eq_true, Bool.true_eq_false, Nat.reduceAdd, Nat.reduceLT, Nat.reduceEqDiff, Nat.reduceLeDiff, Nat.reduceSub, Nat.reduceMul, Note.pv, List.map_cons, List.map_nil]), hdo, .inr (.inl ⟨_, rfl, rfl, rfl⟩)⟩⟩ ?_
    refine V.exec 400 ?_
    cases is' with
    | true =>
      rw [if_pos rfl] at ho
      rw [ho]
      simp (config := {contextual := true}) only [go_sem, ↓reduceIte, reduceCtorEq, Bool.false_eq_true, Bool.true_eq_false, Nat.reduceAdd, Nat.reduceLT, Nat.reduceEqDiff, Nat.reduceLeDiff, Nat.reduceSub, Nat.reduceMul, decide_true]
      refine ⟨⟨by omega, by omega⟩, fun j _ => rfl, ⟨by simp; omega, by simp; omega⟩, by simp [Pair.pv]⟩
    | false =>
      rw [if_neg (by simp)] at ho
      rw [ho]
      simp (config := {contextual := true}) only [go_sem, ↓reduceIte, reduceCtorEq, Bool.false_eq_true, Bool.true_eq_false, Nat.reduceAdd, Nat.reduceLT, Nat.reduceEqDiff, Nat.reduceLeDiff, Nat.reduceSub, Nat.reduceMul, decide_false]
      refine ⟨fun j _ => rfl, ⟨by omega, by omega⟩, by simp⟩

set_option maxRecDepth 10000 in
set_option maxHeartbeats 16000000 in
theorem ref10_Apply (l : List Pair) (ns : List Note) (hl : l.length ≤ 200000) (hn : ns.length ≤ 200000) : Ct Try.prog 31 (YtglpemnejngkaaaVm.ops [.row (l.map Pair.pv), .row (ns.map Note.pv)]) (.vals [.row ((applyV l ns).1.map Pair.pv), .int .i64 (applyV l ns).2]) := by
  refine Ct.of_V Try.func31 rfl (by simp [YtglpemnejngkaaaVm.ops, Try.f31]) ?_
  refine V.exec 400 ?_
  simp (config := {contextual := true}) only [go_sem, ↓reduceIte, reduceCtorEq, Bool.false_eq_true, Bool.true_eq_false, Nat.reduceAdd, Nat.reduceLT, Nat.reduceEqDiff, Nat.reduceLeDiff, Nat.reduceSub, Nat.reduceMul, Try.f31]
  refine V.call rfl rfl (by simp [dOK]) ⟨29, [], by simp only [go_sem, ↓reduceIte, reduceCtorEq, Bool.false_eq_true, Bool.true_eq_false, Nat.reduceAdd, Nat.reduceLT, Nat.reduceEqDiff, Nat.reduceLeDiff, Nat.reduceSub, Nat.reduceMul], ⟨_, rfl, rfl, rfl⟩, .inl ⟨[.row (l.map Pair.pv)], _, .inl (by simp only [go_sem, ↓reduceIte, reduceCtorEq, Bool.false_eq_true, Bool.true_eq_false, Nat.reduceAdd, Nat.reduceLT, Nat.reduceEqDiff, Nat.reduceLeDiff, Nat.reduceSub, Nat.reduceMul]), ref10_Right l (by omega), .inl ⟨_, rfl, rfl, rfl, rfl⟩⟩⟩ ?_
  refine V.exec 400 ?_
  simp (config := {contextual := true}) only [go_sem, ↓reduceIte, reduceCtorEq, Bool.false_eq_true, Bool.true_eq_false, Nat.reduceAdd, Nat.reduceLT, Nat.reduceEqDiff, Nat.reduceLeDiff, Nat.reduceSub, Nat.reduceMul]
  refine V.call rfl rfl (by simp [dOK]) ⟨15, [], by simp only [go_sem, ↓reduceIte, reduceCtorEq, Bool.false_eq_true, Bool.true_eq_false, Nat.reduceAdd, Nat.reduceLT, Nat.reduceEqDiff, Nat.reduceLeDiff, Nat.reduceSub, Nat.reduceMul], ⟨_, rfl, rfl, rfl⟩, .inl ⟨[.row (ns.map Note.pv)], _, .inl (by simp only [go_sem, ↓reduceIte, reduceCtorEq, Bool.false_eq_true, Bool.true_eq_false, Nat.reduceAdd, Nat.reduceLT, Nat.reduceEqDiff, Nat.reduceLeDiff, Nat.reduceSub, Nat.reduceMul]), ref09_All ns (by omega), .inl ⟨_, rfl, rfl, rfl, rfl⟩⟩⟩ ?_
  refine V.exec 400 ?_
  by_cases hok : pairsOk l
  · by_cases hall : notesOk' ns
    · have hv : applyV l ns = (appV l ns, 0) := applyV_ok hok hall
      simp (config := {contextual := true}) only [go_sem, ↓reduceIte, reduceCtorEq, Bool.false_eq_true, Bool.true_eq_false, Nat.reduceAdd, Nat.reduceLT, Nat.reduceEqDiff, Nat.reduceLeDiff, Nat.reduceSub, Nat.reduceMul, hok, hall, hv]
      refine V.loop (fun m ls os => ∃ (i : Nat) (cur : List Pair), i ≤ ns.length ∧ m = ns.length - i ∧ Sorted cur ∧ cur.length ≤ l.length + i ∧ appV cur (ns.drop i) = appV l ns ∧
          ls = [(0, .val (.row (cur.map Pair.pv))), (1, .val (.row (ns.map Note.pv))), (8, .val (.int .i64 i))] ∧ os = []) 0 ns.length
        [(0, .val (.row (l.map Pair.pv))), (1, .val (.row (ns.map Note.pv))), (8, .val (.int .i64 0))] [] []
        ⟨0, l, Nat.zero_le _, rfl, ((pairsOk_iff l).1 hok).1, Nat.le_refl _, rfl, rfl, rfl⟩ (by simp only [go_sem, ↓reduceIte, reduceCtorEq, Bool.false_eq_true, Bool.true_eq_false, Nat.reduceAdd, Nat.reduceLT, Nat.reduceEqDiff, Nat.reduceLeDiff, Nat.reduceSub, Nat.reduceMul]) ?_
      rintro m ls os ⟨i, cur, hi, rfl, hcs, hcl, hca, rfl, rfl⟩
      refine V.exec 400 ?_
      by_cases hlt : i < ns.length
      · have hlt' : (i : Int) < (ns.length : Int) := by omega
        obtain ⟨x, hx⟩ : ∃ x, ns[i]? = some x := ⟨_, List.getElem?_eq_getElem hlt⟩
        have hw : IntKind.i64.wrap ((i : Int) + 1) = ((i + 1 : Nat) : Int) := by rw [wrap_small3] <;> omega
        rw [drop_of_get hx, appV, List.foldl_cons] at hca
        have hol := oneV_len hcs x
        simp (config := {contextual := true}) only [go_sem, ↓reduceIte, reduceCtorEq, Bool.false_eq_true, Bool.true_eq_false, Nat.reduceAdd, Nat.reduceLT, Nat.reduceEqDiff, Nat.reduceLeDiff, Nat.reduceSub, Nat.reduceMul, hlt', hx, Note.pv]
        refine V.call rfl rfl (by simp [dOK]) ⟨49, [], by simp only [go_sem, ↓reduceIte, reduceCtorEq, Bool.false_eq_true, Bool.true_eq_false, Nat.reduceAdd, Nat.reduceLT, Nat.reduceEqDiff, Nat.reduceLeDiff, Nat.reduceSub, Nat.reduceMul], ⟨_, rfl, rfl, rfl⟩, .inl ⟨[.row (cur.map Pair.pv), x.pv], _, .inl (by simp only [go_sem, ↓reduceIte, reduceCtorEq, Bool.false_eq_true, Bool.true_eq_false, Nat.reduceAdd, Nat.reduceLT, Nat.reduceEqDiff, Nat.reduceLeDiff, Nat.reduceSub, Nat.reduceMul, Note.pv]), ref10_one cur x (by omega) hcs, .inr (.inl ⟨_, rfl, rfl, rfl⟩)⟩⟩ ?_
        refine V.exec 400 ?_
        simp (config := {contextual := true}) only [go_sem, ↓reduceIte, reduceCtorEq, Bool.false_eq_true, Bool.true_eq_false, Nat.reduceAdd, Nat.reduceLT, Nat.reduceEqDiff, Nat.reduceLeDiff, Nat.reduceSub, Nat.reduceMul, hw]
        exact ⟨ns.length - (i + 1), _, [], [], by omega, ⟨i + 1, oneV cur x, by omega, rfl, oneV_sorted hcs x, by omega, hca, rfl, rfl⟩, by simp only [go_sem, ↓reduceIte, reduceCtorEq, Bool.false_eq_true, Bool.true_eq_false, Nat.reduceAdd, Nat.reduceLT, Nat.reduceEqDiff, Nat.reduceLeDiff, Nat.reduceSub, Nat.reduceMul]⟩
      · have hlt' : ¬ (i : Int) < (ns.length : Int) := by omega
        have hd : ns.drop i = [] := List.drop_eq_nil_of_le (by omega)
        rw [hd] at hca
        simp (config := {contextual := true}) only [go_sem, ↓reduceIte, reduceCtorEq, Bool.false_eq_true, Bool.true_eq_false, Nat.reduceAdd, Nat.reduceLT, Nat.reduceEqDiff, Nat.reduceLeDiff, Nat.reduceSub, Nat.reduceMul, hlt', ← hca]
        rfl
    · have hv : applyV l ns = (l, 1) := applyV_bad (fun h => hall h.2)
      simp (config := {contextual := true}) only [go_sem, ↓reduceIte, reduceCtorEq, Bool.false_eq_true, Bool.true_eq_false, Nat.reduceAdd, Nat.reduceLT, Nat.reduceEqDiff, Nat.reduceLeDiff, Nat.reduceSub, Nat.reduceMul, hok, hall, hv]
  · have hv : applyV l ns = (l, 1) := applyV_bad (fun h => hok h.1)
    simp (config := {contextual := true}) only [go_sem, ↓reduceIte, reduceCtorEq, Bool.false_eq_true, Bool.true_eq_false, Nat.reduceAdd, Nat.reduceLT, Nat.reduceEqDiff, Nat.reduceLeDiff, Nat.reduceSub, Nat.reduceMul, hok, hv]
end Go.Proofs.Ytglpemnejngkaaa
set_option linter.unusedVariables false
set_option linter.unusedSimpArgs false
namespace Go.Proofs.Ytglpemnejngkaaa
open Go Go.Proofs Go.Proofs.YtglpemnejngkaaaVm

def Change.zero : Change := ⟨0, [], false, [], false, []⟩
/-- What a note is to pairs. -/
def ofV (l : List Pair) (seq : Int) (n : Note) : Change × Int :=
  if pairsOk l ∧ n.ok ∧ 1 ≤ seq ∧ seq ≤ 2147483647 then
    (if (getV l n.key).2 = false ∧ (doneV (getV l n.key).1 (getV l n.key).2 [n]).2 = false then (Change.zero, 3)
     else (⟨seq, n.key, (getV l n.key).2, (getV l n.key).1, (doneV (getV l n.key).1 (getV l n.key).2 [n]).2, (doneV (getV l n.key).1 (getV l n.key).2 [n]).1⟩, 0))
  else (Change.zero, 1)
def noteC (c : Change) : Note := if c.has = true then ⟨1, c.key, c.aft, 0⟩ else ⟨2, c.key, [], 0⟩
def fitC (l : List Pair) (c : Change) : Prop := getV l c.key = (c.bef, c.had)
instance instFitC (l : List Pair) (c : Change) : Decidable (fitC l c) := by unfold fitC; infer_instance
def doGo : List Pair → List Change → Option (List Pair)
  | l, [] => some l
  | l, c :: r => if c.ok ∧ fitC l c then doGo (oneV l (noteC c)) r else none
def doV (l : List Pair) (cs : List Change) : List Pair × Int := if pairsOk l then (match doGo l cs with | some q => (q, 0) | none => (l, 1)) else (l, 1)
theorem noteC_key (c : Change) : (noteC c).key = c.key := by unfold noteC; split <;> rfl
theorem noteC_ok {c : Change} (h : c.ok) : (noteC c).ok := by
  unfold noteC
  split
  · exact ⟨h.1, h.2.2.1, .inl ⟨rfl, rfl⟩⟩
  · exact ⟨h.1, by simp, .inr (.inl ⟨rfl, rfl, rfl⟩)⟩
theorem oneV_congr {l : List Pair} (hs : Sorted l) {a b : Note} (hk : a.key = b.key) (hst : stepO (val l b.key) a = stepO (val l b.key) b) : oneV l a = oneV l b := by
  refine val_ext (oneV_sorted hs a) (oneV_sorted hs b) fun k => ?_
  rw [oneV_val hs, oneV_val hs, hk]
  by_cases h : k = b.key
  · subst h; rw [if_pos rfl, if_pos rfl, hst]
  · rw [if_neg h, if_neg h]
theorem oneV_same {l : List Pair} (hs : Sorted l) {a : Note} (hst : stepO (val l a.key) a = val l a.key) : oneV l a = l := by
  refine val_ext (oneV_sorted hs a) hs fun k => ?_
  rw [oneV_val hs]
  by_cases h : k = a.key
  · subst h; rw [if_pos rfl, hst]
  · rw [if_neg h]
/-- What is done to what there is, as a step. -/
theorem done_step {l : List Pair} (h : pairsOk l) (n : Note) :
    stepO (val l n.key) n = if (doneV (getV l n.key).1 (getV l n.key).2 [n]).2 = true then some (doneV (getV l n.key).1 (getV l n.key).2 [n]).1 else none := by
  rw [getV_val h]
  unfold stepO
  cases val l n.key <;> rfl
theorem done_none (n : Note) {v : List UInt8} {w : Bool} (h : (doneV v w [n]).2 = false) (hw : w = false → v = []) : (doneV v w [n]).1 = [] := by
  unfold doneV at *
  simp only [List.foldl_cons, List.foldl_nil] at *
  unfold doneOne at *
  split at h
  · cases h
  · rename_i h1
    split at h
    · rename_i h2; rw [if_neg h1, if_pos h2]
    · rename_i h2
      split at h
      · cases h
      · rename_i h3
        rw [if_neg h1, if_neg h2, if_neg h3]
        cases w with
        | true => cases h
        | false => rfl
theorem getV_none {l : List Pair} (h : pairsOk l) (k : List UInt8) (hw : (getV l k).2 = false) : (getV l k).1 = [] := by
  rw [getV_val h] at *
  cases hv : val l k with
  | none => rfl
  | some v => rw [hv] at hw; cases hw
theorem getV_short {l : List Pair} (h : pairsOk l) (k : List UInt8) : (getV l k).1.length ≤ 32 := by
  rw [getV_val h]
  cases hv : val l k with
  | none => simp
  | some v =>
    have hp := (pairsOk_iff l).1 h
    have := (val_iff hp.1).1 hv
    exact (hp.2 _ this).2
theorem done_short (v : List UInt8) (w : Bool) {n : Note} (hn : n.ok) : (doneV v w [n]).1.length ≤ 32 := by
  unfold doneV
  simp only [List.foldl_cons, List.foldl_nil]
  unfold doneOne
  have := hn.2.1
  rcases hn.2.2 with h | h | h <;> simp [h.1]
  · exact this
  · rw [beB_len]; decide
/-- A change that is made of a note is one that may be, fits, and does what the note does. -/
theorem ofV_does {l : List Pair} {seq : Int} {n : Note} (h : (ofV l seq n).2 = 0) :
    (ofV l seq n).1.ok ∧ fitC l (ofV l seq n).1 ∧ oneV l (noteC (ofV l seq n).1) = oneV l n ∧ doV l [(ofV l seq n).1] = (oneV l n, 0) ∧ (ofV l seq n).1.key = n.key ∧ (ofV l seq n).1.seq = seq := by
  unfold ofV at *
  split at h
  · rename_i hc
    rw [if_pos hc]
    split at h
    · cases h
    · rename_i hb
      rw [if_neg hb]
      obtain ⟨h1, h2, h3, h4⟩ := hc
      have hs := ((pairsOk_iff l).1 h1).1
      have e1 : (⟨seq, n.key, (getV l n.key).2, (getV l n.key).1, (doneV (getV l n.key).1 (getV l n.key).2 [n]).2, (doneV (getV l n.key).1 (getV l n.key).2 [n]).1⟩ : Change).ok := by
        refine ⟨h2.1, getV_short h1 _, done_short _ _ h2, h3, h4, ?_, ?_, ?_⟩
        · show (getV l n.key).2 = true ∨ (getV l n.key).1 = []
          cases hw : (getV l n.key).2 with
          | true => exact .inl rfl
          | false => exact .inr (getV_none h1 _ hw)
        · show (doneV (getV l n.key).1 (getV l n.key).2 [n]).2 = true ∨ (doneV (getV l n.key).1 (getV l n.key).2 [n]).1 = []
          cases hw : (doneV (getV l n.key).1 (getV l n.key).2 [n]).2 with
          | true => exact .inl rfl
          | false => exact .inr (done_none n hw (getV_none h1 _))
        · show (getV l n.key).2 = true ∨ (doneV (getV l n.key).1 (getV l n.key).2 [n]).2 = true
          cases hw : (getV l n.key).2 with
          | true => exact .inl rfl
          | false => cases hv : (doneV (getV l n.key).1 (getV l n.key).2 [n]).2 with
            | true => exact .inr (by rw [hw] at hv; exact hv)
            | false => rw [hw] at hv hb; exact absurd ⟨rfl, hv⟩ hb
      have e2 : fitC l ⟨seq, n.key, (getV l n.key).2, (getV l n.key).1, (doneV (getV l n.key).1 (getV l n.key).2 [n]).2, (doneV (getV l n.key).1 (getV l n.key).2 [n]).1⟩ := rfl
      have e3 : oneV l (noteC ⟨seq, n.key, (getV l n.key).2, (getV l n.key).1, (doneV (getV l n.key).1 (getV l n.key).2 [n]).2, (doneV (getV l n.key).1 (getV l n.key).2 [n]).1⟩) = oneV l n := by
        refine oneV_congr hs (noteC_key _) ?_
        rw [done_step h1 n]
        unfold noteC
        split
        · exact stepO_put _ rfl
        · exact stepO_del _ rfl
      refine ⟨e1, e2, e3, ?_, rfl, rfl⟩
      unfold doV doGo doGo
      rw [if_pos h1, if_pos ⟨e1, e2⟩, e3]
  · cases h
/-- No change: the pairs stay. -/
theorem ofV_none {l : List Pair} {seq : Int} {n : Note} (h1 : pairsOk l) (h2 : n.ok) (h3 : 1 ≤ seq) (h4 : seq ≤ 2147483647) (h : (ofV l seq n).2 ≠ 0) : oneV l n = l ∧ ofV l seq n = (Change.zero, 3) := by
  unfold ofV at *
  rw [if_pos ⟨h1, h2, h3, h4⟩] at *
  split at h
  · rename_i hb
    rw [if_pos hb]
    refine ⟨oneV_same ((pairsOk_iff l).1 h1).1 ?_, rfl⟩
    rw [done_step h1 n, hb.2, if_neg (by decide)]
    have := hb.1
    rw [getV_val h1] at this
    cases hv : val l n.key with
    | none => rfl
    | some v => rw [hv] at this; cases this
  · exact absurd rfl h
theorem oneV_pairsOk {l : List Pair} (h : pairsOk l) {x : Note} (hx : x.ok) : pairsOk (oneV l x) := oneV_ok h hx
/-- A batch, note by note. -/
def runGo : List Pair → Int → List Change → List Note → List Change × List Pair
  | p, _, out, [] => (out, p)
  | p, seq, out, n :: r => if (ofV p (seq + out.length + 1) n).2 = 0 then runGo (oneV p n) seq (out ++ [(ofV p (seq + out.length + 1) n).1]) r else runGo p seq out r
def notesAll (ns : List Note) : Prop := ∀ x ∈ ns, x.ok
def batchOk (ns : List Note) : Prop := ns.length ≤ 8 ∧ notesAll ns
instance instNotesAll (ns : List Note) : Decidable (notesAll ns) := by unfold notesAll; infer_instance
instance instBatchOk (ns : List Note) : Decidable (batchOk ns) := by unfold batchOk; infer_instance
def runV (l : List Pair) (seq : Int) (ns : List Note) : List Change × List Pair × Int :=
  if batchOk ns ∧ pairsOk l ∧ 0 ≤ seq ∧ seq ≤ 2147483647 then (if 2147483647 - (ns.length : Int) < seq then ([], l, 5) else ((runGo l seq [] ns).1, (runGo l seq [] ns).2, 0)) else ([], l, 1)
end Go.Proofs.Ytglpemnejngkaaa
set_option linter.unusedVariables false
set_option linter.unusedSimpArgs false
namespace Go.Proofs.Ytglpemnejngkaaa
open Go Go.Proofs Go.Proofs.YtglpemnejngkaaaVm Go.Proofs.Ytglpemnejngkaaa.Ty

def sideV (st : List UInt8 × Bool) : PV := .agg [.bool (decide (st.2 = true)), .str st.1]

theorem change_of (l : List Pair) (k : List UInt8) (hl : l.length ≤ 1000000) : Ct Try.prog 38 (YtglpemnejngkaaaVm.ops [.row (l.map Pair.pv), .str k]) (.vals [sideV (getV l k)]) := by
  refine Ct.of_V Try.func38 rfl (by simp [YtglpemnejngkaaaVm.ops, Try.f38]) ?_
  refine V.exec 400 ?_
  simp (config := {contextual := true}) only [go_sem, ↓reduceIte, reduceCtorEq, Bool.false_eq_true, Bool.true_eq_false, Nat.reduceAdd, Nat.reduceLT, Nat.reduceEqDiff, Nat.reduceLeDiff, Nat.reduceSub, Nat.reduceMul, Try.f38]
  refine V.call rfl rfl (by simp [dOK]) ⟨22, [], by simp only [go_sem, ↓reduceIte, reduceCtorEq, Bool.false_eq_true, Bool.true_eq_false, Nat.reduceAdd, Nat.reduceLT, Nat.reduceEqDiff, Nat.reduceLeDiff, Nat.reduceSub, Nat.reduceMul], ⟨_, rfl, rfl, rfl⟩, .inl ⟨[.row (l.map Pair.pv), .str k], _, .inl (by simp only [go_sem, ↓reduceIte, reduceCtorEq, Bool.false_eq_true, Bool.true_eq_false, Nat.reduceAdd, Nat.reduceLT, Nat.reduceEqDiff, Nat.reduceLeDiff, Nat.reduceSub, Nat.reduceMul]), leaf_Get l k hl, .inr (.inl ⟨_, rfl, rfl, rfl⟩)⟩⟩ ?_
  refine V.exec 400 ?_
  simp (config := {contextual := true}) only [go_sem, ↓reduceIte, reduceCtorEq, Bool.false_eq_true, Bool.true_eq_false, Nat.reduceAdd, Nat.reduceLT, Nat.reduceEqDiff, Nat.reduceLeDiff, Nat.reduceSub, Nat.reduceMul, sideV]

theorem change_ahead (c : Change) : Ct Try.prog 39 (YtglpemnejngkaaaVm.ops [c.pv]) (.vals [sideV (c.bef, c.had)]) := by
  refine Ct.of_V Try.func39 rfl (by simp [YtglpemnejngkaaaVm.ops, Try.f39]) ?_
  refine V.exec 400 ?_
  simp (config := {contextual := true}) only [go_sem, ↓reduceIte, reduceCtorEq, Bool.false_eq_true, Bool.true_eq_false, Nat.reduceAdd, Nat.reduceLT, Nat.reduceEqDiff, Nat.reduceLeDiff, Nat.reduceSub, Nat.reduceMul, Try.f39, Change.pv, sideV]

def madeV (seq : Int) (key : List UInt8) (a b : List UInt8 × Bool) : Change × Int :=
  if a.2 = false ∧ b.2 = false then (Change.zero, 3) else (⟨seq, key, a.2, a.1, b.2, b.1⟩, 0)

set_option maxHeartbeats 4000000 in
theorem change_made (seq : Int) (key : List UInt8) (a b : List UInt8 × Bool) : Ct Try.prog 46 (YtglpemnejngkaaaVm.ops [.int .i64 seq, .str key, sideV a, sideV b]) (.vals [(madeV seq key a b).1.pv, .int .i64 (madeV seq key a b).2]) := by
  obtain ⟨av, ah⟩ := a
  obtain ⟨bv, bh⟩ := b
  cases ah with
  | true =>
    have e : madeV seq key (av, true) (bv, bh) = (⟨seq, key, true, av, bh, bv⟩, 0) := rfl
    rw [e]
    refine Ct.of_V Try.func46 rfl (by simp [YtglpemnejngkaaaVm.ops, Try.f46]) ?_
    refine V.exec 400 ?_
    simp (config := {contextual := true}) only [go_sem, ↓reduceIte, reduceCtorEq, Bool.false_eq_true, Bool.true_eq_false, Nat.reduceAdd, Nat.reduceLT, Nat.reduceEqDiff, Nat.reduceLeDiff, Nat.reduceSub, Nat.reduceMul, Try.f46, sideV, Change.pv, decide_true]
  | false =>
    cases bh with
    | true =>
      have e : madeV seq key (av, false) (bv, true) = (⟨seq, key, false, av, true, bv⟩, 0) := rfl
      rw [e]
      refine Ct.of_V Try.func46 rfl (by simp [YtglpemnejngkaaaVm.ops, Try.f46]) ?_
      refine V.exec 400 ?_
      simp (config := {contextual := true}) only [go_sem, ↓reduceIte, reduceCtorEq, Bool.false_eq_true, Bool.true_eq_false, Nat.reduceAdd, Nat.reduceLT, Nat.reduceEqDiff, Nat.reduceLeDiff, Nat.reduceSub, Nat.reduceMul, Try.f46, sideV, Change.pv, decide_true, decide_false]
    | false =>
      have e : madeV seq key (av, false) (bv, false) = (Change.zero, 3) := rfl
      rw [e]
      refine Ct.of_V Try.func46 rfl (by simp [YtglpemnejngkaaaVm.ops, Try.f46]) ?_
      refine V.exec 400 ?_
      simp (config := {contextual := true}) only [go_sem, ↓reduceIte, reduceCtorEq, Bool.false_eq_true, Bool.true_eq_false, Nat.reduceAdd, Nat.reduceLT, Nat.reduceEqDiff, Nat.reduceLeDiff, Nat.reduceSub, Nat.reduceMul, Try.f46, sideV, Change.pv, Change.zero, decide_true, decide_false]

set_option maxRecDepth 4000 in
set_option maxHeartbeats 8000000 in
theorem change_Of (l : List Pair) (seq : Int) (n : Note) (hl : l.length ≤ 1000000) : Ct Try.prog 28 (YtglpemnejngkaaaVm.ops [.row (l.map Pair.pv), .int .i64 seq, n.pv]) (.vals [(ofV l seq n).1.pv, .int .i64 (ofV l seq n).2]) := by
  have hbad : ¬ (pairsOk l ∧ n.ok ∧ 1 ≤ seq ∧ seq ≤ 2147483647) → ofV l seq n = (Change.zero, 1) := fun h => by unfold ofV; rw [if_neg h]
  refine Ct.of_V Try.func28 rfl (by simp [YtglpemnejngkaaaVm.ops, Try.f28]) ?_
  refine V.exec 400 ?_
  simp (config := {contextual := true}) only [go_sem, ↓reduceIte, reduceCtorEq, Bool.false_eq_true, Bool.true_eq_false, Nat.reduceAdd, Nat.reduceLT, Nat.reduceEqDiff, Nat.reduceLeDiff, Nat.reduceSub, Nat.reduceMul, Try.f28, Note.pv]
  refine V.call rfl rfl (by simp [dOK]) ⟨21, [], by simp only [go_sem, ↓reduceIte, reduceCtorEq, Bool.false_eq_true, Bool.true_eq_false, Nat.reduceAdd, Nat.reduceLT, Nat.reduceEqDiff, Nat.reduceLeDiff, Nat.reduceSub, Nat.reduceMul], ⟨_, rfl, rfl, rfl⟩, .inl ⟨[.row (l.map Pair.pv)], _, .inl (by simp only [go_sem, ↓reduceIte, reduceCtorEq, Bool.false_eq_true, Bool.true_eq_false, Nat.reduceAdd, Nat.reduceLT, Nat.reduceEqDiff, Nat.reduceLeDiff, Nat.reduceSub, Nat.reduceMul]), leaf_Right l hl, .inl ⟨_, rfl, rfl, rfl, rfl⟩⟩⟩ ?_
  refine V.exec 400 ?_
  by_cases hok : pairsOk l
  · simp (config := {contextual := true}) only [go_sem, ↓reduceIte, reduceCtorEq, Bool.false_eq_true, Bool.true_eq_false, Nat.reduceAdd, Nat.reduceLT, Nat.reduceEqDiff, Nat.reduceLeDiff, Nat.reduceSub, Nat.reduceMul, hok]
    refine V.call rfl rfl (by simp [dOK]) ⟨34, [], by simp only [go_sem, ↓reduceIte, reduceCtorEq, Bool.false_eq_true, Bool.true_eq_false, Nat.reduceAdd, Nat.reduceLT, Nat.reduceEqDiff, Nat.reduceLeDiff, Nat.reduceSub, Nat.reduceMul], ⟨_, rfl, rfl, rfl⟩, .inl ⟨[n.pv], _, .inl (by simp only [go_sem, ↓reduceIte, reduceCtorEq, Bool.false_eq_true, Bool.true_eq_false, Nat.reduceAdd, Nat.reduceLT, Nat.reduceEqDiff, Nat.reduceLeDiff, Nat.reduceSub, Nat.reduceMul, Note.pv]), note_Right n, .inl ⟨_, rfl, rfl, rfl, rfl⟩⟩⟩ ?_
    refine V.exec 400 ?_
    by_cases hn : n.ok
    · by_cases h1 : seq < 1
      · have hv := hbad fun h => by omega
        simp (config := {contextual := true}) only [go_sem, ↓reduceIte, reduceCtorEq, Bool.false_eq_true, Bool.true_eq_false, Nat.reduceAdd, Nat.reduceLT, Nat.reduceEqDiff, Nat.reduceLeDiff, Nat.reduceSub, Nat.reduceMul, hn, h1, hv, Change.zero, Change.pv, decide_false]
      · by_cases h2 : 2147483647 < seq
        · have hv := hbad fun h => by omega
          simp (config := {contextual := true}) only [go_sem, ↓reduceIte, reduceCtorEq, Bool.false_eq_true, Bool.true_eq_false, Nat.reduceAdd, Nat.reduceLT, Nat.reduceEqDiff, Nat.reduceLeDiff, Nat.reduceSub, Nat.reduceMul, hn, h1, h2, hv, Change.zero, Change.pv, decide_false]
        · have hv : ofV l seq n = madeV seq n.key (getV l n.key) (doneV (getV l n.key).1 (getV l n.key).2 [n]) := by
            unfold ofV madeV; rw [if_pos ⟨hok, hn, by omega, by omega⟩]
          have cd := note_Done (getV l n.key).1 (getV l n.key).2 [n] (by simp)
          have cm := change_made seq n.key (getV l n.key) (doneV (getV l n.key).1 (getV l n.key).2 [n])
          have co := change_of l n.key hl
          rw [hv]
          obtain ⟨gv, gh, hG⟩ : ∃ a b, getV l n.key = (a, b) := ⟨_, _, rfl⟩
          rw [hG] at cd cm co ⊢
          simp only at cd cm co ⊢
          obtain ⟨dv, dh, hD⟩ : ∃ a b, doneV gv gh [n] = (a, b) := ⟨_, _, rfl⟩
          rw [hD] at cd cm ⊢
          simp only at cd cm
          generalize madeV seq n.key (gv, gh) (dv, dh) = M at *
          simp (config := {contextual := true}) only [go_sem, ↓reduceIte, reduceCtorEq, Bool.false_eq_true, Bool.true_eq_false, Nat.reduceAdd, Nat.reduceLT, Nat.reduceEqDiff, Nat.reduceLeDiff, Nat.reduceSub, Nat.reduceMul, hn, h1, h2]
          refine V.call rfl rfl (by simp [dOK]) ⟨38, [], by simp only [go_sem, ↓reduceIte, reduceCtorEq, Bool.false_eq_true, Bool.true_eq_false, Nat.reduceAdd, Nat.reduceLT, Nat.reduceEqDiff, Nat.reduceLeDiff, Nat.reduceSub, Nat.reduceMul], ⟨_, rfl, rfl, rfl⟩, .inl ⟨[.row (l.map Pair.pv), .str n.key], _, .inl (by simp only [go_sem, ↓reduceIte, reduceCtorEq, Bool.false_eq_true, Bool.true_eq_false, Nat.reduceAdd, Nat.reduceLT, Nat.reduceEqDiff, Nat.reduceLeDiff, Nat.reduceSub, Nat.reduceMul, sideV]), co, .inr (.inl ⟨_, rfl, rfl, rfl⟩)⟩⟩ ?_
          refine V.exec 400 ?_
          simp (config := {contextual := true}) only [go_sem, ↓reduceIte, reduceCtorEq, Bool.false_eq_true, Bool.true_eq_false, Nat.reduceAdd, Nat.reduceLT, Nat.reduceEqDiff, Nat.reduceLeDiff, Nat.reduceSub, Nat.reduceMul, sideV, Note.pv]
          refine V.call rfl rfl (by simp [dOK]) ⟨43, [], by simp only [go_sem, ↓reduceIte, reduceCtorEq, Bool.false_eq_true, Bool.true_eq_false, Nat.reduceAdd, Nat.reduceLT, Nat.reduceEqDiff, Nat.reduceLeDiff, Nat.reduceSub, Nat.reduceMul], ⟨_, rfl, rfl, rfl⟩, .inl ⟨[.str gv, .bool (decide (gh = true)), .row ([n].map Note.pv)], _, .inl (by simp only [go_sem, ↓reduceIte, reduceCtorEq, Bool.false_eq_true, Bool.true_eq_false, Nat.reduceAdd, Nat.reduceLT, Nat.reduceEqDiff, Nat.reduceLeDiff, Nat.reduceSub, Nat.reduceMul, Note.pv, List.map_cons, List.map_nil]), cd, .inr (.inl ⟨_, rfl, rfl, rfl⟩)⟩⟩ ?_
          refine V.exec 400 ?_
          simp (config := {contextual := true}) only [go_sem, ↓reduceIte, reduceCtorEq, Bool.false_eq_true, Bool.true_eq_false, Nat.reduceAdd, Nat.reduceLT, Nat.reduceEqDiff, Nat.reduceLeDiff, Nat.reduceSub, Nat.reduceMul, sideV, Note.pv]
          refine V.call rfl rfl (by simp [dOK]) ⟨46, [], by simp only [go_sem, ↓reduceIte, reduceCtorEq, Bool.false_eq_true, Bool.true_eq_false, Nat.reduceAdd, Nat.reduceLT, Nat.reduceEqDiff, Nat.reduceLeDiff, Nat.reduceSub, Nat.reduceMul], ⟨_, rfl, rfl, rfl⟩, .inl ⟨[.int .i64 seq, .str n.key, sideV (gv, gh), sideV (dv, dh)], _, .inl (by simp only [go_sem, ↓reduceIte, reduceCtorEq, Bool.false_eq_true, Bool.true_eq_false, Nat.reduceAdd, Nat.reduceLT, Nat.reduceEqDiff, Nat.reduceLeDiff, Nat.reduceSub, Nat.reduceMul, sideV]), cm, .inr (.inl ⟨_, rfl, rfl, rfl⟩)⟩⟩ ?_
          refine V.exec 400 ?_
          simp (config := {contextual := true}) only [go_sem, ↓reduceIte, reduceCtorEq, Bool.false_eq_true, Bool.true_eq_false, Nat.reduceAdd, Nat.reduceLT, Nat.reduceEqDiff, Nat.reduceLeDiff, Nat.reduceSub, Nat.reduceMul, Change.pv]
    · have hv := hbad fun h => hn h.2.1
      simp (config := {contextual := true}) only [go_sem, ↓reduceIte, reduceCtorEq, Bool.false_eq_true, Bool.true_eq_false, Nat.reduceAdd, Nat.reduceLT, Nat.reduceEqDiff, Nat.reduceLeDiff, Nat.reduceSub, Nat.reduceMul, hn, hv, Change.zero, Change.pv, decide_false]
  · have hv := hbad fun h => hok h.1
    simp (config := {contextual := true}) only [go_sem, ↓reduceIte, reduceCtorEq, Bool.false_eq_true, Bool.true_eq_false, Nat.reduceAdd, Nat.reduceLT, Nat.reduceEqDiff, Nat.reduceLeDiff, Nat.reduceSub, Nat.reduceMul, hok, hv, Change.zero, Change.pv, decide_false]
end Go.Proofs.Ytglpemnejngkaaa
set_option linter.unusedVariables false
set_option linter.unusedSimpArgs false
namespace Go.Proofs.Ytglpemnejngkaaa
open Go Go.Proofs Go.Proofs.YtglpemnejngkaaaVm Go.Proofs.Ytglpemnejngkaaa.Ty

theorem eqSide : EqT Try.prog 75 [.bool, .str] := EqT.of (by kernel_rfl) (by kernel_rfl) (by kernel_rfl)
theorem side_inj (a b : List UInt8) (p q : Bool) : (PV.agg [.bool (decide (p = true)), .str a] = PV.agg [.bool (decide (q = true)), .str b]) = (a = b ∧ p = q) := by
  cases p <;> cases q <;> simp

set_option maxRecDepth 10000 in
set_option maxHeartbeats 16000000 in
theorem change_Do (l : List Pair) (cs : List Change) (hl : l.length ≤ 200000) (hn : cs.length ≤ 200000) : Ct Try.prog 23 (YtglpemnejngkaaaVm.ops [.row (l.map Pair.pv), .row (cs.map Change.pv)]) (.vals [.row ((doV l cs).1.map Pair.pv), .int .i64 (doV l cs).2]) := by
  have h2 : ∀ (l : List Pair), ∀ x ∈ l.map Pair.pv, x.cells.length = 2 := fun l x hx => by
    obtain ⟨s, _, rfl⟩ := List.mem_map.1 hx
    rfl
  have ccl := (ClonePair (l.map Pair.pv) (h2 l) (by simp; omega)).forget
  refine Ct.of_V Try.func23 rfl (by simp [YtglpemnejngkaaaVm.ops, Try.f23]) ?_
  refine V.exec 400 ?_
  simp (config := {contextual := true}) only [go_sem, ↓reduceIte, reduceCtorEq, Bool.false_eq_true, Bool.true_eq_false, Nat.reduceAdd, Nat.reduceLT, Nat.reduceEqDiff, Nat.reduceLeDiff, Nat.reduceSub, Nat.reduceMul, Try.f23]
  refine V.call rfl rfl (by simp [dOK]) ⟨27, [], by simp only [go_sem, ↓reduceIte, reduceCtorEq, Bool.false_eq_true, Bool.true_eq_false, Nat.reduceAdd, Nat.reduceLT, Nat.reduceEqDiff, Nat.reduceLeDiff, Nat.reduceSub, Nat.reduceMul], ⟨_, rfl, rfl, rfl⟩, .inl ⟨[.row (l.map Pair.pv)], _, .inl (by simp only [go_sem, ↓reduceIte, reduceCtorEq, Bool.false_eq_true, Bool.true_eq_false, Nat.reduceAdd, Nat.reduceLT, Nat.reduceEqDiff, Nat.reduceLeDiff, Nat.reduceSub, Nat.reduceMul]), ccl, .inr (.inl ⟨_, rfl, rfl, rfl⟩)⟩⟩ ?_
  refine V.exec 400 ?_
  simp (config := {contextual := true}) only [go_sem, ↓reduceIte, reduceCtorEq, Bool.false_eq_true, Bool.true_eq_false, Nat.reduceAdd, Nat.reduceLT, Nat.reduceEqDiff, Nat.reduceLeDiff, Nat.reduceSub, Nat.reduceMul]
  refine V.call rfl rfl (by simp [dOK]) ⟨21, [], by simp only [go_sem, ↓reduceIte, reduceCtorEq, Bool.false_eq_true, Bool.true_eq_false, Nat.reduceAdd, Nat.reduceLT, Nat.reduceEqDiff, Nat.reduceLeDiff, Nat.reduceSub, Nat.reduceMul], ⟨_, rfl, rfl, rfl⟩, .inl ⟨[.row (l.map Pair.pv)], _, .inl (by simp only [go_sem, ↓reduceIte, reduceCtorEq, Bool.false_eq_true, Bool.true_eq_false, Nat.reduceAdd, Nat.reduceLT, Nat.reduceEqDiff, Nat.reduceLeDiff, Nat.reduceSub, Nat.reduceMul]), leaf_Right l (by omega), .inl ⟨_, rfl, rfl, rfl, rfl⟩⟩⟩ ?_
  refine V.exec 400 ?_
  by_cases hok : pairsOk l
  · simp (config := {contextual := true}) only [go_sem, ↓reduceIte, reduceCtorEq, Bool.false_eq_true, Bool.true_eq_false, Nat.reduceAdd, Nat.reduceLT, Nat.reduceEqDiff, Nat.reduceLeDiff, Nat.reduceSub, Nat.reduceMul, hok]
    refine V.loop (fun m ls os => ∃ (i : Nat) (cur : List Pair), i ≤ cs.length ∧ m = cs.length - i ∧ pairsOk cur ∧ cur.length ≤ l.length + i ∧ doGo cur (cs.drop i) = doGo l cs ∧
        ls = [(0, .val (.row (l.map Pair.pv))), (6, .val (.row (cur.map Pair.pv))), (16, .val (.row (cs.map Change.pv))), (17, .val (.int .i64 cs.length)), (18, .val (.int .i64 i))] ∧ os = []) 0 cs.length
      [(0, .val (.row (l.map Pair.pv))), (6, .val (.row (l.map Pair.pv))), (16, .val (.row (cs.map Change.pv))), (17, .val (.int .i64 cs.length)), (18, .val (.int .i64 0))] [] []
      ⟨0, l, Nat.zero_le _, rfl, hok, Nat.le_refl _, rfl, rfl, rfl⟩ (by simp only [go_sem, ↓reduceIte, reduceCtorEq, Bool.false_eq_true, Bool.true_eq_false, Nat.reduceAdd, Nat.reduceLT, Nat.reduceEqDiff, Nat.reduceLeDiff, Nat.reduceSub, Nat.reduceMul]) ?_
    rintro m ls os ⟨i, cur, hi, rfl, hco, hcl, hca, rfl, rfl⟩
    refine V.exec 400 ?_
    by_cases hlt : i < cs.length
    · have hlt' : (i : Int) < (cs.length : Int) := by omega
      obtain ⟨x, hx⟩ : ∃ x, cs[i]? = some x := ⟨_, List.getElem?_eq_getElem hlt⟩
      have hw : IntKind.i64.wrap ((i : Int) + 1) = ((i + 1 : Nat) : Int) := by rw [wrap_small3] <;> omega
      rw [drop_of_get hx, doGo] at hca
      have hbad : ¬ (x.ok ∧ fitC cur x) → doV l cs = (l, 1) := fun h => by
        rw [if_neg h] at hca
        unfold doV; rw [if_pos hok, ← hca]
      have hgood := fun h : x.ok ∧ fitC cur x => if_pos h ▸ hca
      simp (config := {contextual := true}) only [go_sem, ↓reduceIte, reduceCtorEq, Bool.false_eq_true, Bool.true_eq_false, Nat.reduceAdd, Nat.reduceLT, Nat.reduceEqDiff, Nat.reduceLeDiff, Nat.reduceSub, Nat.reduceMul, hlt', hx, Change.pv]
      refine DV.call [] [] (by simp only [go_sem, ↓reduceIte, reduceCtorEq, Bool.false_eq_true, Bool.true_eq_false, Nat.reduceAdd, Nat.reduceLT, Nat.reduceEqDiff, Nat.reduceLeDiff, Nat.reduceSub, Nat.reduceMul, Change.pv]) (by simp [dOK]) ⟨37, [], by simp only [go_sem, ↓reduceIte, reduceCtorEq, Bool.false_eq_true, Bool.true_eq_false, Nat.reduceAdd, Nat.reduceLT, Nat.reduceEqDiff, Nat.reduceLeDiff, Nat.reduceSub, Nat.reduceMul, Change.pv], ⟨_, rfl, rfl, rfl⟩, .inl ⟨[x.pv], _, .inl (by simp only [go_sem, ↓reduceIte, reduceCtorEq, Bool.false_eq_true, Bool.true_eq_false, Nat.reduceAdd, Nat.reduceLT, Nat.reduceEqDiff, Nat.reduceLeDiff, Nat.reduceSub, Nat.reduceMul, Change.pv]), flat_May x, .inl ⟨_, rfl, rfl, rfl, rfl⟩⟩⟩ (by simp only [go_sem, ↓reduceIte, reduceCtorEq, Bool.false_eq_true, Bool.true_eq_false, Nat.reduceAdd, Nat.reduceLT, Nat.reduceEqDiff, Nat.reduceLeDiff, Nat.reduceSub, Nat.reduceMul, Change.pv]) (by simp only [go_sem, ↓reduceIte, reduceCtorEq, Bool.false_eq_true, Bool.true_eq_false, Nat.reduceAdd, Nat.reduceLT, Nat.reduceEqDiff, Nat.reduceLeDiff, Nat.reduceSub, Nat.reduceMul, Change.pv]) (by simp only [go_sem, ↓reduceIte, reduceCtorEq, Bool.false_eq_true, Bool.true_eq_false, Nat.reduceAdd, Nat.reduceLT, Nat.reduceEqDiff, Nat.reduceLeDiff, Nat.reduceSub, Nat.reduceMul, Change.pv]) (by simp) ?_
      refine DV.exec 400 ?_
      by_cases hm : x.ok
      · have co := change_of cur x.key (by omega)
        obtain ⟨gv, gh, hG⟩ : ∃ a b, getV cur x.key = (a, b) := ⟨_, _, rfl⟩
        rw [hG] at co
        simp (config := {contextual := true}) only [go_sem, ↓reduceIte, reduceCtorEq, Bool.false_eq_true, Bool.true_eq_false, Nat.reduceAdd, Nat.reduceLT, Nat.reduceEqDiff, Nat.reduceLeDiff, Nat.reduceSub, Nat.reduceMul, hm, Change.pv]
        refine DV.call [] [] (by simp only [go_sem, ↓reduceIte, reduceCtorEq, Bool.false_eq_true, Bool.true_eq_false, Nat.reduceAdd, Nat.reduceLT, Nat.reduceEqDiff, Nat.reduceLeDiff, Nat.reduceSub, Nat.reduceMul, sideV]) (by simp [dOK]) ⟨38, [], by simp only [go_sem, ↓reduceIte, reduceCtorEq, Bool.false_eq_true, Bool.true_eq_false, Nat.reduceAdd, Nat.reduceLT, Nat.reduceEqDiff, Nat.reduceLeDiff, Nat.reduceSub, Nat.reduceMul, sideV], ⟨_, rfl, rfl, rfl⟩, .inl ⟨[.row (cur.map Pair.pv), .str x.key], _, .inl (by simp only [go_sem, ↓reduceIte, reduceCtorEq, Bool.false_eq_true, Bool.true_eq_false, Nat.reduceAdd, Nat.reduceLT, Nat.reduceEqDiff, Nat.reduceLeDiff, Nat.reduceSub, Nat.reduceMul, sideV]), co, .inr (.inl ⟨_, rfl, rfl, rfl⟩)⟩⟩ (by simp only [go_sem, ↓reduceIte, reduceCtorEq, Bool.false_eq_true, Bool.true_eq_false, Nat.reduceAdd, Nat.reduceLT, Nat.reduceEqDiff, Nat.reduceLeDiff, Nat.reduceSub, Nat.reduceMul, sideV]) (by simp only [go_sem, ↓reduceIte, reduceCtorEq, Bool.false_eq_true, Bool.true_eq_false, Nat.reduceAdd, Nat.reduceLT, Nat.reduceEqDiff, Nat.reduceLeDiff, Nat.reduceSub, Nat.reduceMul, sideV]) (by simp only [go_sem, ↓reduceIte, reduceCtorEq, Bool.false_eq_true, Bool.true_eq_false, Nat.reduceAdd, Nat.reduceLT, Nat.reduceEqDiff, Nat.reduceLeDiff, Nat.reduceSub, Nat.reduceMul, sideV]) (by simp) ?_
        refine DV.exec 400 ?_
        simp (config := {contextual := true}) only [go_sem, ↓reduceIte, reduceCtorEq, Bool.false_eq_true, Bool.true_eq_false, Nat.reduceAdd, Nat.reduceLT, Nat.reduceEqDiff, Nat.reduceLeDiff, Nat.reduceSub, Nat.reduceMul, hm, Change.pv]
        refine DV.call [] [] (by simp only [go_sem, ↓reduceIte, reduceCtorEq, Bool.false_eq_true, Bool.true_eq_false, Nat.reduceAdd, Nat.reduceLT, Nat.reduceEqDiff, Nat.reduceLeDiff, Nat.reduceSub, Nat.reduceMul, sideV, Change.pv]) (by simp [dOK]) ⟨39, [], by simp only [go_sem, ↓reduceIte, reduceCtorEq, Bool.false_eq_true, Bool.true_eq_false, Nat.reduceAdd, Nat.reduceLT, Nat.reduceEqDiff, Nat.reduceLeDiff, Nat.reduceSub, Nat.reduceMul, sideV, Change.pv], ⟨_, rfl, rfl, rfl⟩, .inl ⟨[x.pv], _, .inl (by simp only [go_sem, ↓reduceIte, reduceCtorEq, Bool.false_eq_true, Bool.true_eq_false, Nat.reduceAdd, Nat.reduceLT, Nat.reduceEqDiff, Nat.reduceLeDiff, Nat.reduceSub, Nat.reduceMul, sideV, Change.pv]), change_ahead x, .inr (.inl ⟨_, rfl, rfl, rfl⟩)⟩⟩ (by simp only [go_sem, ↓reduceIte, reduceCtorEq, Bool.false_eq_true, Bool.true_eq_false, Nat.reduceAdd, Nat.reduceLT, Nat.reduceEqDiff, Nat.reduceLeDiff, Nat.reduceSub, Nat.reduceMul, sideV, Change.pv]) (by simp only [go_sem, ↓reduceIte, reduceCtorEq, Bool.false_eq_true, Bool.true_eq_false, Nat.reduceAdd, Nat.reduceLT, Nat.reduceEqDiff, Nat.reduceLeDiff, Nat.reduceSub, Nat.reduceMul, sideV, Change.pv]) (by simp only [go_sem, ↓reduceIte, reduceCtorEq, Bool.false_eq_true, Bool.true_eq_false, Nat.reduceAdd, Nat.reduceLT, Nat.reduceEqDiff, Nat.reduceLeDiff, Nat.reduceSub, Nat.reduceMul, sideV, Change.pv]) (by simp) ?_
        refine DV.exec 400 ?_
        by_cases hf : gv = x.bef ∧ gh = x.had
        · have hfit : fitC cur x := by unfold fitC; rw [hG, hf.1, hf.2]
          have hgo := hgood ⟨hm, hfit⟩
          have hnc := noteC_ok hm
          have ca := leaf_Apply cur [noteC x] (by omega) (by simp)
          rw [applyV_ok hco ((notesOk_one _).2 hnc)] at ca
          have e1 : appV cur [noteC x] = oneV cur (noteC x) := rfl
          rw [e1] at ca
          simp only at ca
          have hoo := oneV_pairsOk hco hnc
          have hol := oneV_len ((pairsOk_iff cur).1 hco).1 (noteC x)
          generalize oneV cur (noteC x) = nxt at *
          cases hh : x.has with
          | true =>
            have e2 : noteC x = ⟨1, x.key, x.aft, 0⟩ := by unfold noteC; rw [if_pos hh]
            rw [e2] at ca
            simp (config := {contextual := true}) only [go_sem, ↓reduceIte, reduceCtorEq, Bool.false_eq_true, Bool.true_eq_false, Nat.reduceAdd, Nat.reduceLT, Nat.reduceEqDiff, Nat.reduceLeDiff, Nat.reduceSub, Nat.reduceMul, hm, Change.pv, sideV, eqSide, side_inj, hf, hh, decide_true]
            refine ⟨by kernel_rfl, ?_⟩
            refine V.call rfl rfl (by simp [dOK]) ⟨25, [], by simp only [go_sem, ↓reduceIte, reduceCtorEq, Bool.false_eq_true, Bool.true_eq_false, Nat.reduceAdd, Nat.reduceLT, Nat.reduceEqDiff, Nat.reduceLeDiff, Nat.reduceSub, Nat.reduceMul], ⟨_, rfl, rfl, rfl⟩, .inl ⟨[.row (cur.map Pair.pv), .row ([(⟨1, x.key, x.aft, 0⟩ : Note)].map Note.pv)], _, .inl (by simp only [go_sem, ↓reduceIte, reduceCtorEq, Bool.false_eq_true, Bool.true_eq_false, Nat.reduceAdd, Nat.reduceLT, Nat.reduceEqDiff, Nat.reduceLeDiff, Nat.reduceSub, Nat.reduceMul, Note.pv, List.map_cons, List.map_nil]), ca, .inr (.inl ⟨_, rfl, rfl, rfl⟩)⟩⟩ ?_
            refine V.exec 400 ?_
            simp (config := {contextual := true}) only [go_sem, ↓reduceIte, reduceCtorEq, Bool.false_eq_true, Bool.true_eq_false, Nat.reduceAdd, Nat.reduceLT, Nat.reduceEqDiff, Nat.reduceLeDiff, Nat.reduceSub, Nat.reduceMul, hw]
            exact ⟨cs.length - (i + 1), _, [], [], by omega, ⟨i + 1, nxt, by omega, rfl, hoo, by omega, hgo, rfl, rfl⟩, by simp only [go_sem, ↓reduceIte, reduceCtorEq, Bool.false_eq_true, Bool.true_eq_false, Nat.reduceAdd, Nat.reduceLT, Nat.reduceEqDiff, Nat.reduceLeDiff, Nat.reduceSub, Nat.reduceMul]⟩
          | false =>
            have e2 : noteC x = ⟨2, x.key, [], 0⟩ := by unfold noteC; rw [if_neg (by rw [hh]; decide)]
            rw [e2] at ca
            simp (config := {contextual := true}) only [go_sem, ↓reduceIte, reduceCtorEq, Bool.false_eq_true, Bool.true_eq_false, Nat.reduceAdd, Nat.reduceLT, Nat.reduceEqDiff, Nat.reduceLeDiff, Nat.reduceSub, Nat.reduceMul, hm, Change.pv, sideV, eqSide, side_inj, hf, hh, decide_false]
            refine ⟨by kernel_rfl, ?_⟩
            refine V.call rfl rfl (by simp [dOK]) ⟨25, [], by simp only [go_sem, ↓reduceIte, reduceCtorEq, Bool.false_eq_true, Bool.true_eq_false, Nat.reduceAdd, Nat.reduceLT, Nat.reduceEqDiff, Nat.reduceLeDiff, Nat.reduceSub, Nat.reduceMul], ⟨_, rfl, rfl, rfl⟩, .inl ⟨[.row (cur.map Pair.pv), .row ([(⟨2, x.key, [], 0⟩ : Note)].map Note.pv)], _, .inl (by simp only [go_sem, ↓reduceIte, reduceCtorEq, Bool.false_eq_true, Bool.true_eq_false, Nat.reduceAdd, Nat.reduceLT, Nat.reduceEqDiff, Nat.reduceLeDiff, Nat.reduceSub, Nat.reduceMul, Note.pv, List.map_cons, List.map_nil]), ca, .inr (.inl ⟨_, rfl, rfl, rfl⟩)⟩⟩ ?_
            refine V.exec 400 ?_
            simp (config := {contextual := true}) only [go_sem, ↓reduceIte, reduceCtorEq, Bool.false_eq_true, Bool.true_eq_false, Nat.reduceAdd, Nat.reduceLT, Nat.reduceEqDiff, Nat.reduceLeDiff, Nat.reduceSub, Nat.reduceMul, hw]
            exact ⟨cs.length - (i + 1), _, [], [], by omega, ⟨i + 1, nxt, by omega, rfl, hoo, by omega, hgo, rfl, rfl⟩, by simp only [go_sem, ↓reduceIte, reduceCtorEq, Bool.false_eq_true, Bool.true_eq_false, Nat.reduceAdd, Nat.reduceLT, Nat.reduceEqDiff, Nat.reduceLeDiff, Nat.reduceSub, Nat.reduceMul]⟩
        · have hv := hbad fun h => hf (by have := h.2; unfold fitC at this; rw [hG, Prod.mk.injEq] at this; exact this)
          simp (config := {contextual := true}) only [go_sem, ↓reduceIte, reduceCtorEq, Bool.false_eq_true, Bool.true_eq_false, Nat.reduceAdd, Nat.reduceLT, Nat.reduceEqDiff, Nat.reduceLeDiff, Nat.reduceSub, Nat.reduceMul, hm, Change.pv, sideV, eqSide, side_inj, hf, hv]
          refine ⟨by kernel_rfl, ?_⟩
          refine V.call rfl rfl (by simp [dOK]) ⟨27, [], by simp only [go_sem, ↓reduceIte, reduceCtorEq, Bool.false_eq_true, Bool.true_eq_false, Nat.reduceAdd, Nat.reduceLT, Nat.reduceEqDiff, Nat.reduceLeDiff, Nat.reduceSub, Nat.reduceMul], ⟨_, rfl, rfl, rfl⟩, .inl ⟨[.row (l.map Pair.pv)], _, .inl (by simp only [go_sem, ↓reduceIte, reduceCtorEq, Bool.false_eq_true, Bool.true_eq_false, Nat.reduceAdd, Nat.reduceLT, Nat.reduceEqDiff, Nat.reduceLeDiff, Nat.reduceSub, Nat.reduceMul]), ccl, .inr (.inl ⟨_, rfl, rfl, rfl⟩)⟩⟩ ?_
          refine V.exec 400 ?_
          simp (config := {contextual := true}) only [go_sem, ↓reduceIte, reduceCtorEq, Bool.false_eq_true, Bool.true_eq_false, Nat.reduceAdd, Nat.reduceLT, Nat.reduceEqDiff, Nat.reduceLeDiff, Nat.reduceSub, Nat.reduceMul, hv]
      · have hv := hbad fun h => hm h.1
        simp (config := {contextual := true}) only [go_sem, ↓reduceIte, reduceCtorEq, Bool.false_eq_true, Bool.true_eq_false, Nat.reduceAdd, Nat.reduceLT, Nat.reduceEqDiff, Nat.reduceLeDiff, Nat.reduceSub, Nat.reduceMul, hm, Change.pv, hv]
        refine ⟨by kernel_rfl, ?_⟩
        refine V.call rfl rfl (by simp [dOK]) ⟨27, [], by simp only [go_sem, ↓reduceIte, reduceCtorEq, Bool.false_eq_true, Bool.true_eq_false, Nat.reduceAdd, Nat.reduceLT, Nat.reduceEqDiff, Nat.reduceLeDiff, Nat.reduceSub, Nat.reduceMul], ⟨_, rfl, rfl, rfl⟩, .inl ⟨[.row (l.map Pair.pv)], _, .inl (by simp only [go_sem, ↓reduceIte, reduceCtorEq, Bool.false_eq_true, Bool.true_eq_false, Nat.reduceAdd, Nat.reduceLT, Nat.reduceEqDiff, Nat.reduceLeDiff, Nat.reduceSub, Nat.reduceMul]), ccl, .inr (.inl ⟨_, rfl, rfl, rfl⟩)⟩⟩ ?_
        refine V.exec 400 ?_
        simp (config := {contextual := true}) only [go_sem, ↓reduceIte, reduceCtorEq, Bool.false_eq_true, Bool.true_eq_false, Nat.reduceAdd, Nat.reduceLT, Nat.reduceEqDiff, Nat.reduceLeDiff, Nat.reduceSub, Nat.reduceMul, hv]
    · have hlt' : ¬ (i : Int) < (cs.length : Int) := by omega
      have hd : cs.drop i = [] := List.drop_eq_nil_of_le (by omega)
      rw [hd, doGo] at hca
      have hv : doV l cs = (cur, 0) := by unfold doV; rw [if_pos hok, ← hca]
      simp (config := {contextual := true}) only [go_sem, ↓reduceIte, reduceCtorEq, Bool.false_eq_true, Bool.true_eq_false, Nat.reduceAdd, Nat.reduceLT, Nat.reduceEqDiff, Nat.reduceLeDiff, Nat.reduceSub, Nat.reduceMul, hlt', hv]
  · have hv : doV l cs = (l, 1) := by unfold doV; rw [if_neg hok]
    simp (config := {contextual := true}) only [go_sem, ↓reduceIte, reduceCtorEq, Bool.false_eq_true, Bool.true_eq_false, Nat.reduceAdd, Nat.reduceLT, Nat.reduceEqDiff, Nat.reduceLeDiff, Nat.reduceSub, Nat.reduceMul, hok, hv]

theorem batch_Right1 (x : Note) : Ct Try.prog 33 (YtglpemnejngkaaaVm.ops [x.pv]) (.vals [.bool (decide (¬ x.ok))]) := by
  refine Ct.of_V Try.func33 rfl (by simp [YtglpemnejngkaaaVm.ops, Try.f33]) ?_
  refine V.exec 400 ?_
  simp (config := {contextual := true}) only [go_sem, ↓reduceIte, reduceCtorEq, Bool.false_eq_true, Bool.true_eq_false, Nat.reduceAdd, Nat.reduceLT, Nat.reduceEqDiff, Nat.reduceLeDiff, Nat.reduceSub, Nat.reduceMul, Try.f33, Note.pv]
  refine V.call rfl rfl (by simp [dOK]) ⟨34, [], by simp only [go_sem, ↓reduceIte, reduceCtorEq, Bool.false_eq_true, Bool.true_eq_false, Nat.reduceAdd, Nat.reduceLT, Nat.reduceEqDiff, Nat.reduceLeDiff, Nat.reduceSub, Nat.reduceMul], ⟨_, rfl, rfl, rfl⟩, .inl ⟨[x.pv], _, .inl (by simp only [go_sem, ↓reduceIte, reduceCtorEq, Bool.false_eq_true, Bool.true_eq_false, Nat.reduceAdd, Nat.reduceLT, Nat.reduceEqDiff, Nat.reduceLeDiff, Nat.reduceSub, Nat.reduceMul, Note.pv]), note_Right x, .inl ⟨_, rfl, rfl, rfl, rfl⟩⟩⟩ ?_
  refine V.exec 400 ?_
  simp (config := {contextual := true}) only [go_sem, ↓reduceIte, reduceCtorEq, Bool.false_eq_true, Bool.true_eq_false, Nat.reduceAdd, Nat.reduceLT, Nat.reduceEqDiff, Nat.reduceLeDiff, Nat.reduceSub, Nat.reduceMul]
theorem Contains_badB (ns : List Note) (hl : ns.length ≤ 1000000) : Ct Try.prog 32 (YtglpemnejngkaaaVm.ops [.row (ns.map Note.pv), .fn 33 []]) (.vals [.bool (decide (¬ notesAll ns))]) := by
  unfold notesAll
  obtain ⟨r, hr, hr1, hr2, hr3⟩ := first_of (fun y => decide (¬ (Note.of y).ok)) (ns.map Note.pv)
  have hi := IndexFuncNote (ns.map Note.pv) 33 [] (fun y => decide (¬ (Note.of y).ok)) (fun y hy => by
      obtain ⟨s, _, rfl⟩ := List.mem_map.1 hy
      exact ⟨rfl, rfl⟩) (by simpa using hl) ⟨_, rfl, rfl, rfl⟩ (fun y hy => by
      obtain ⟨s, _, rfl⟩ := List.mem_map.1 hy
      rw [Note.of_pv]
      simpa using batch_Right1 s) r hr hr1 hr2
  refine Ct.of_V Try.func32 rfl (by simp [YtglpemnejngkaaaVm.ops, Try.f32]) ?_
  refine V.exec 400 ?_
  simp (config := {contextual := true}) only [go_sem, ↓reduceIte, reduceCtorEq, Bool.false_eq_true, Bool.true_eq_false, Nat.reduceAdd, Nat.reduceLT, Nat.reduceEqDiff, Nat.reduceLeDiff, Nat.reduceSub, Nat.reduceMul, Try.f32]
  refine V.call rfl rfl (by simp [dOK]) ⟨50, [], by simp only [go_sem, ↓reduceIte, reduceCtorEq, Bool.false_eq_true, Bool.true_eq_false, Nat.reduceAdd, Nat.reduceLT, Nat.reduceEqDiff, Nat.reduceLeDiff, Nat.reduceSub, Nat.reduceMul], ⟨_, rfl, rfl, rfl⟩, .inl ⟨[.row (ns.map Note.pv), .fn 33 []], _, .inl (by simp only [go_sem, ↓reduceIte, reduceCtorEq, Bool.false_eq_true, Bool.true_eq_false, Nat.reduceAdd, Nat.reduceLT, Nat.reduceEqDiff, Nat.reduceLeDiff, Nat.reduceSub, Nat.reduceMul]), hi, .inl ⟨_, rfl, rfl, rfl, rfl⟩⟩⟩ ?_
  refine V.exec 400 ?_
  simp (config := {contextual := true}) only [go_sem, ↓reduceIte, reduceCtorEq, Bool.false_eq_true, Bool.true_eq_false, Nat.reduceAdd, Nat.reduceLT, Nat.reduceEqDiff, Nat.reduceLeDiff, Nat.reduceSub, Nat.reduceMul]
  have e : (∃ y ∈ ns.map Note.pv, decide (¬ (Note.of y).ok) = true) ↔ ¬ ∀ x ∈ ns, x.ok := by
    constructor
    · rintro ⟨y, hy, hp⟩ hc
      obtain ⟨s, hs, rfl⟩ := List.mem_map.1 hy
      rw [Note.of_pv] at hp
      simp at hp
      exact hp (hc s hs)
    · intro h
      simp only [Classical.not_forall] at h
      obtain ⟨x, hx, hp⟩ := h
      exact ⟨x.pv, List.mem_map_of_mem hx, by rw [Note.of_pv]; simpa using hp⟩
  rw [e] at hr3
  rw [List.length_map] at hr3
  by_cases hc : ∀ x ∈ ns, x.ok
  · have : ¬ r < ns.length := fun h => (hr3.1 h) hc
    simp [this]
    exact hc
  · have h2 := hr3.2 hc
    simp [h2, hc]

theorem batch_Right (ns : List Note) (hl : ns.length ≤ 1000000) : Ct Try.prog 14 (YtglpemnejngkaaaVm.ops [.row (ns.map Note.pv)]) (.vals [.bool (decide (batchOk ns))]) := by
  refine Ct.of_V Try.func14 rfl (by simp [YtglpemnejngkaaaVm.ops, Try.f14]) ?_
  refine V.exec 400 ?_
  simp (config := {contextual := true}) only [go_sem, ↓reduceIte, reduceCtorEq, Bool.false_eq_true, Bool.true_eq_false, Nat.reduceAdd, Nat.reduceLT, Nat.reduceEqDiff, Nat.reduceLeDiff, Nat.reduceSub, Nat.reduceMul, Try.f14]
  by_cases h8 : ns.length ≤ 8
  · have h8' : (ns.length : Int) ≤ 8 := by omega
    simp (config := {contextual := true}) only [go_sem, ↓reduceIte, reduceCtorEq, Bool.false_eq_true, Bool.true_eq_false, Nat.reduceAdd, Nat.reduceLT, Nat.reduceEqDiff, Nat.reduceLeDiff, Nat.reduceSub, Nat.reduceMul, h8']
    refine V.call rfl rfl (by simp [dOK]) ⟨32, [], by simp only [go_sem, ↓reduceIte, reduceCtorEq, Bool.false_eq_true, Bool.true_eq_false, Nat.reduceAdd, Nat.reduceLT, Nat.reduceEqDiff, Nat.reduceLeDiff, Nat.reduceSub, Nat.reduceMul], ⟨_, rfl, rfl, rfl⟩, .inl ⟨[.row (ns.map Note.pv), .fn 33 []], _, .inl (by simp only [go_sem, ↓reduceIte, reduceCtorEq, Bool.false_eq_true, Bool.true_eq_false, Nat.reduceAdd, Nat.reduceLT, Nat.reduceEqDiff, Nat.reduceLeDiff, Nat.reduceSub, Nat.reduceMul]), Contains_badB ns hl, .inl ⟨_, rfl, rfl, rfl, rfl⟩⟩⟩ ?_
    refine V.exec 400 ?_
    simp (config := {contextual := true}) only [go_sem, ↓reduceIte, reduceCtorEq, Bool.false_eq_true, Bool.true_eq_false, Nat.reduceAdd, Nat.reduceLT, Nat.reduceEqDiff, Nat.reduceLeDiff, Nat.reduceSub, Nat.reduceMul]
    by_cases ha : notesAll ns
    · have : batchOk ns := ⟨h8, ha⟩
      simp [ha, this]
    · have : ¬ batchOk ns := fun h => ha h.2
      simp [ha, this]
  · have h8' : ¬ (ns.length : Int) ≤ 8 := by omega
    have : ¬ batchOk ns := fun h => h8 h.1
    simp (config := {contextual := true}) only [go_sem, ↓reduceIte, reduceCtorEq, Bool.false_eq_true, Bool.true_eq_false, Nat.reduceAdd, Nat.reduceLT, Nat.reduceEqDiff, Nat.reduceLeDiff, Nat.reduceSub, Nat.reduceMul, h8', this, decide_false]
end Go.Proofs.Ytglpemnejngkaaa
set_option linter.unusedVariables false
set_option linter.unusedSimpArgs false
namespace Go.Proofs.Ytglpemnejngkaaa
open Go Go.Proofs Go.Proofs.YtglpemnejngkaaaVm Go.Proofs.Ytglpemnejngkaaa.Ty

theorem Change.inj (s t : Change) : (s.pv = t.pv) = (s = t) := by
  obtain ⟨s1, s2, s3, s4, s5, s6⟩ := s
  obtain ⟨t1, t2, t3, t4, t5, t6⟩ := t
  cases s3 <;> cases s5 <;> cases t3 <;> cases t5 <;> simp [Change.pv]

theorem eqChange : EqT Try.prog 55 [.int .i64, .str, .bool, .str, .bool, .str] := EqT.of (by kernel_rfl) (by kernel_rfl) (by kernel_rfl)

set_option maxRecDepth 4000 in
set_option maxHeartbeats 8000000 in
theorem ref13_Same (a b : List Change) (hb : b.length ≤ 1000000) : Ct Try.prog 16 (YtglpemnejngkaaaVm.ops [.row (a.map Change.pv), .row (b.map Change.pv)]) (.vals [.bool (decide (a = b))]) := by
  refine Ct.of_V Try.func16 rfl (by simp [YtglpemnejngkaaaVm.ops, Try.f16]) ?_
  refine V.exec 400 ?_
  by_cases hl : a.length = b.length
  · simp (config := {contextual := true}) only [go_sem, ↓reduceIte, reduceCtorEq, Bool.false_eq_true, Bool.true_eq_false, Nat.reduceAdd, Nat.reduceLT, Nat.reduceEqDiff, Nat.reduceLeDiff, Nat.reduceSub, Nat.reduceMul, Try.f16, hl]
    refine V.loop (fun m ls os => ∃ i : Nat, i ≤ b.length ∧ m = b.length - i ∧ a.take i = b.take i ∧
        ls = [(0, .val (.row (a.map Change.pv))), (1, .val (.row (b.map Change.pv))), (5, .val (.int .i64 i))] ∧ os = []) 0 b.length [(0, .val (.row (a.map Change.pv))), (1, .val (.row (b.map Change.pv))), (5, .val (.int .i64 0))] [] []
      ⟨0, Nat.zero_le _, rfl, rfl, rfl, rfl⟩ (by simp only [go_sem, ↓reduceIte, reduceCtorEq, Bool.false_eq_true, Bool.true_eq_false, Nat.reduceAdd, Nat.reduceLT, Nat.reduceEqDiff, Nat.reduceLeDiff, Nat.reduceSub, Nat.reduceMul]) ?_
    rintro m ls os ⟨i, hi, rfl, heq, rfl, rfl⟩
    refine V.exec 400 ?_
    by_cases hlt : i < b.length
    · have hlt' : (i : Int) < (b.length : Int) := by omega
      have hla : i < a.length := by omega
      obtain ⟨x, hx⟩ : ∃ x, a[i]? = some x := ⟨_, List.getElem?_eq_getElem hla⟩
      obtain ⟨y, hy⟩ : ∃ y, b[i]? = some y := ⟨_, List.getElem?_eq_getElem hlt⟩
      have hw : IntKind.i64.wrap ((i : Int) + 1) = ((i + 1 : Nat) : Int) := by rw [wrap_small3] <;> omega
      have hinj := Change.inj x y
      simp only [Change.pv] at hinj
      simp (config := {contextual := true}) only [go_sem, ↓reduceIte, reduceCtorEq, Bool.false_eq_true, Bool.true_eq_false, Nat.reduceAdd, Nat.reduceLT, Nat.reduceEqDiff, Nat.reduceLeDiff, Nat.reduceSub, Nat.reduceMul, hl, hlt', hx, hy, Change.pv, hw, hinj, eqChange]
      refine ⟨by kernel_rfl, fun hne => ?_, fun he => ⟨b.length - (i + 1), _, [], [], by omega, ⟨i + 1, by omega, rfl, ?_, rfl, rfl⟩, ?_⟩⟩
      · have : a ≠ b := fun e => hne (by rw [e, hy] at hx; cases hx; rfl)
        simp [this]
      · rw [List.take_add_one, List.take_add_one, heq, hx, hy, he]
      · simp only [go_sem, ↓reduceIte, reduceCtorEq, Bool.false_eq_true, Bool.true_eq_false, Nat.reduceAdd, Nat.reduceLT, Nat.reduceEqDiff, Nat.reduceLeDiff, Nat.reduceSub, Nat.reduceMul]
    · have hlt' : ¬ (i : Int) < (b.length : Int) := by omega
      simp (config := {contextual := true}) only [go_sem, ↓reduceIte, reduceCtorEq, Bool.false_eq_true, Bool.true_eq_false, Nat.reduceAdd, Nat.reduceLT, Nat.reduceEqDiff, Nat.reduceLeDiff, Nat.reduceSub, Nat.reduceMul, hl, hlt']
      have : a = b := by rw [List.take_of_length_le (by omega), List.take_of_length_le (by omega)] at heq; exact heq
      simp [this]
  · have hl' : ¬ (a.length : Int) = (b.length : Int) := by omega
    have : a ≠ b := fun e => hl (by rw [e])
    simp (config := {contextual := true}) only [go_sem, ↓reduceIte, reduceCtorEq, Bool.false_eq_true, Bool.true_eq_false, Nat.reduceAdd, Nat.reduceLT, Nat.reduceEqDiff, Nat.reduceLeDiff, Nat.reduceSub, Nat.reduceMul, Try.f16, hl', this, not_false_eq_true]


theorem ofV_err {l : List Pair} {seq : Int} {n : Note} : (ofV l seq n).2 = 0 ∨ (ofV l seq n).2 = 1 ∨ (ofV l seq n).2 = 3 := by
  unfold ofV
  split
  · split
    · exact .inr (.inr rfl)
    · exact .inl rfl
  · exact .inr (.inl rfl)

set_option maxRecDepth 10000 in
set_option maxHeartbeats 16000000 in
theorem batch_Run (l : List Pair) (seq : Int) (ns : List Note) (hl : l.length ≤ 100000) (hn : ns.length ≤ 100000) (hseq : seq ≤ 9223372036854775807) : Ct Try.prog 12 (YtglpemnejngkaaaVm.ops [.row (l.map Pair.pv), .int .i64 seq, .row (ns.map Note.pv)]) (.vals [.row ((runV l seq ns).1.map Change.pv), .row ((runV l seq ns).2.1.map Pair.pv), .int .i64 (runV l seq ns).2.2]) := by
  have h2 : ∀ (l : List Pair), ∀ x ∈ l.map Pair.pv, x.cells.length = 2 := fun l x hx => by
    obtain ⟨s, _, rfl⟩ := List.mem_map.1 hx
    rfl
  have ccl := (ClonePair (l.map Pair.pv) (h2 l) (by simp; omega)).forget
  have hbad : ¬ (batchOk ns ∧ pairsOk l ∧ 0 ≤ seq ∧ seq ≤ 2147483647) → runV l seq ns = ([], l, 1) := fun h => by unfold runV; rw [if_neg h]
  refine Ct.of_V Try.func12 rfl (by simp [YtglpemnejngkaaaVm.ops, Try.f12]) ?_
  refine V.exec 400 ?_
  simp (config := {contextual := true}) only [go_sem, ↓reduceIte, reduceCtorEq, Bool.false_eq_true, Bool.true_eq_false, Nat.reduceAdd, Nat.reduceLT, Nat.reduceEqDiff, Nat.reduceLeDiff, Nat.reduceSub, Nat.reduceMul, Try.f12]
  refine V.call rfl rfl (by simp [dOK]) ⟨14, [], by simp only [go_sem, ↓reduceIte, reduceCtorEq, Bool.false_eq_true, Bool.true_eq_false, Nat.reduceAdd, Nat.reduceLT, Nat.reduceEqDiff, Nat.reduceLeDiff, Nat.reduceSub, Nat.reduceMul], ⟨_, rfl, rfl, rfl⟩, .inl ⟨[.row (ns.map Note.pv)], _, .inl (by simp only [go_sem, ↓reduceIte, reduceCtorEq, Bool.false_eq_true, Bool.true_eq_false, Nat.reduceAdd, Nat.reduceLT, Nat.reduceEqDiff, Nat.reduceLeDiff, Nat.reduceSub, Nat.reduceMul]), batch_Right ns (by omega), .inl ⟨_, rfl, rfl, rfl, rfl⟩⟩⟩ ?_
  refine V.exec 400 ?_
  by_cases hb : batchOk ns
  · simp (config := {contextual := true}) only [go_sem, ↓reduceIte, reduceCtorEq, Bool.false_eq_true, Bool.true_eq_false, Nat.reduceAdd, Nat.reduceLT, Nat.reduceEqDiff, Nat.reduceLeDiff, Nat.reduceSub, Nat.reduceMul, hb]
    refine V.call rfl rfl (by simp [dOK]) ⟨21, [], by simp only [go_sem, ↓reduceIte, reduceCtorEq, Bool.false_eq_true, Bool.true_eq_false, Nat.reduceAdd, Nat.reduceLT, Nat.reduceEqDiff, Nat.reduceLeDiff, Nat.reduceSub, Nat.reduceMul], ⟨_, rfl, rfl, rfl⟩, .inl ⟨[.row (l.map Pair.pv)], _, .inl (by simp only [go_sem, ↓reduceIte, reduceCtorEq, Bool.false_eq_true, Bool.true_eq_false, Nat.reduceAdd, Nat.reduceLT, Nat.reduceEqDiff, Nat.reduceLeDiff, Nat.reduceSub, Nat.reduceMul]), leaf_Right l (by omega), .inl ⟨_, rfl, rfl, rfl, rfl⟩⟩⟩ ?_
    refine V.exec 400 ?_
    by_cases hok : pairsOk l
    · by_cases h1 : seq < 0
      · have hv := hbad fun h => by omega
        simp (config := {contextual := true}) only [go_sem, ↓reduceIte, reduceCtorEq, Bool.false_eq_true, Bool.true_eq_false, Nat.reduceAdd, Nat.reduceLT, Nat.reduceEqDiff, Nat.reduceLeDiff, Nat.reduceSub, Nat.reduceMul, hok, h1, hv, List.map_nil]
      · by_cases h2' : 2147483647 < seq
        · have hv := hbad fun h => by omega
          simp (config := {contextual := true}) only [go_sem, ↓reduceIte, reduceCtorEq, Bool.false_eq_true, Bool.true_eq_false, Nat.reduceAdd, Nat.reduceLT, Nat.reduceEqDiff, Nat.reduceLeDiff, Nat.reduceSub, Nat.reduceMul, hok, h1, h2', hv, List.map_nil]
        · have hwl : IntKind.i64.wrap (2147483647 - (ns.length : Int)) = 2147483647 - (ns.length : Int) := by rw [wrap_small3] <;> omega
          by_cases h3 : 2147483647 - (ns.length : Int) < seq
          · have hv : runV l seq ns = ([], l, 5) := by unfold runV; rw [if_pos ⟨hb, hok, by omega, by omega⟩, if_pos h3]
            simp (config := {contextual := true}) only [go_sem, ↓reduceIte, reduceCtorEq, Bool.false_eq_true, Bool.true_eq_false, Nat.reduceAdd, Nat.reduceLT, Nat.reduceEqDiff, Nat.reduceLeDiff, Nat.reduceSub, Nat.reduceMul, hok, h1, h2', hwl, h3, hv, List.map_nil]
          · have hv : runV l seq ns = ((runGo l seq [] ns).1, (runGo l seq [] ns).2, 0) := by unfold runV; rw [if_pos ⟨hb, hok, by omega, by omega⟩, if_neg h3]
            rw [hv]
            obtain ⟨RO, RP, hR⟩ : ∃ a b, runGo l seq [] ns = (a, b) := ⟨_, _, rfl⟩
            rw [hR]
            simp only
            simp (config := {contextual := true}) only [go_sem, ↓reduceIte, reduceCtorEq, Bool.false_eq_true, Bool.true_eq_false, Nat.reduceAdd, Nat.reduceLT, Nat.reduceEqDiff, Nat.reduceLeDiff, Nat.reduceSub, Nat.reduceMul, hok, h1, h2', hwl, h3]
            refine V.call rfl rfl (by simp [dOK]) ⟨27, [], by simp only [go_sem, ↓reduceIte, reduceCtorEq, Bool.false_eq_true, Bool.true_eq_false, Nat.reduceAdd, Nat.reduceLT, Nat.reduceEqDiff, Nat.reduceLeDiff, Nat.reduceSub, Nat.reduceMul], ⟨_, rfl, rfl, rfl⟩, .inl ⟨[.row (l.map Pair.pv)], _, .inl (by simp only [go_sem, ↓reduceIte, reduceCtorEq, Bool.false_eq_true, Bool.true_eq_false, Nat.reduceAdd, Nat.reduceLT, Nat.reduceEqDiff, Nat.reduceLeDiff, Nat.reduceSub, Nat.reduceMul]), ccl, .inr (.inl ⟨_, rfl, rfl, rfl⟩)⟩⟩ ?_
            refine V.exec 400 ?_
            simp (config := {contextual := true}) only [go_sem, ↓reduceIte, reduceCtorEq, Bool.false_eq_true, Bool.true_eq_false, Nat.reduceAdd, Nat.reduceLT, Nat.reduceEqDiff, Nat.reduceLeDiff, Nat.reduceSub, Nat.reduceMul]
            refine V.loop (fun m ls os => ∃ (i : Nat) (out : List Change) (cur : List Pair), i ≤ ns.length ∧ m = ns.length - i ∧ pairsOk cur ∧ cur.length ≤ l.length + i ∧ out.length ≤ i ∧ runGo cur seq out (ns.drop i) = (RO, RP) ∧
                ls = [(1, .val (.int .i64 seq)), (9, .ref 0), (10, .val (.row (cur.map Pair.pv))), (42, .val (.row (ns.map Note.pv))), (43, .val (.int .i64 ns.length)), (44, .val (.int .i64 i))] ∧ os = [.row 55 (out.map Change.pv)]) 1 ns.length
              [(1, .val (.int .i64 seq)), (9, .ref 0), (10, .val (.row (l.map Pair.pv))), (42, .val (.row (ns.map Note.pv))), (43, .val (.int .i64 ns.length)), (44, .val (.int .i64 0))] [.row 55 []] [none]
              ⟨0, [], l, Nat.zero_le _, rfl, hok, Nat.le_refl _, Nat.le_refl _, hR, rfl, rfl⟩ (by simp only [go_sem, ↓reduceIte, reduceCtorEq, Bool.false_eq_true, Bool.true_eq_false, Nat.reduceAdd, Nat.reduceLT, Nat.reduceEqDiff, Nat.reduceLeDiff, Nat.reduceSub, Nat.reduceMul]; try decide) ?_
            rintro m ls os ⟨i, out, cur, hi, rfl, hco, hcl, hol, hca, rfl, rfl⟩
            refine V.exec 400 ?_
            by_cases hlt : i < ns.length
            · have hlt' : (i : Int) < (ns.length : Int) := by omega
              obtain ⟨x, hx⟩ : ∃ x, ns[i]? = some x := ⟨_, List.getElem?_eq_getElem hlt⟩
              have hxo : x.ok := hb.2 x (List.mem_of_getElem? hx)
              have hw : IntKind.i64.wrap ((i : Int) + 1) = ((i + 1 : Nat) : Int) := by rw [wrap_small3] <;> omega
              have hw1 : IntKind.i64.wrap (seq + (out.length : Int)) = seq + (out.length : Int) := by rw [wrap_small3] <;> omega
              have hw2 : IntKind.i64.wrap (seq + (out.length : Int) + 1) = seq + (out.length : Int) + 1 := by rw [wrap_small3] <;> omega
              have co := change_Of cur (seq + (out.length : Int) + 1) x (by omega)
              have hdo := @ofV_does cur (seq + (out.length : Int) + 1) x
              rw [drop_of_get hx, runGo] at hca
              have hoo := oneV_pairsOk hco hxo
              have hol2 := oneV_len ((pairsOk_iff cur).1 hco).1 x
              obtain ⟨c, e, hC⟩ : ∃ a b, ofV cur (seq + (out.length : Int) + 1) x = (a, b) := ⟨_, _, rfl⟩
              rw [hC] at co hca hdo
              simp only at co hca hdo
              simp (config := {contextual := true}) only [go_sem, ↓reduceIte, reduceCtorEq, Bool.false_eq_true, Bool.true_eq_false, Nat.reduceAdd, Nat.reduceLT, Nat.reduceEqDiff, Nat.reduceLeDiff, Nat.reduceSub, Nat.reduceMul, hlt', hx, Note.pv, hw1, hw2]
              refine V.call rfl rfl (by simp [dOK]) ⟨28, [], by simp only [go_sem, ↓reduceIte, reduceCtorEq, Bool.false_eq_true, Bool.true_eq_false, Nat.reduceAdd, Nat.reduceLT, Nat.reduceEqDiff, Nat.reduceLeDiff, Nat.reduceSub, Nat.reduceMul], ⟨_, rfl, rfl, rfl⟩, .inl ⟨[.row (cur.map Pair.pv), .int .i64 (seq + (out.length : Int) + 1), x.pv], _, .inl (by simp only [go_sem, ↓reduceIte, reduceCtorEq, Bool.false_eq_true, Bool.true_eq_false, Nat.reduceAdd, Nat.reduceLT, Nat.reduceEqDiff, Nat.reduceLeDiff, Nat.reduceSub, Nat.reduceMul, Note.pv]), co, .inr (.inl ⟨_, rfl, rfl, rfl⟩)⟩⟩ ?_
              refine V.exec 400 ?_
              by_cases he : e = 0
              · rw [if_pos he] at hca
                have hdv := (hdo he).2.2.2.1
                have cd := change_Do cur [c] (by omega) (by simp)
                rw [hdv] at cd
                simp only at cd
                subst he
                simp (config := {contextual := true}) only [go_sem, ↓reduceIte, reduceCtorEq, Bool.false_eq_true, Bool.true_eq_false, Nat.reduceAdd, Nat.reduceLT, Nat.reduceEqDiff, Nat.reduceLeDiff, Nat.reduceSub, Nat.reduceMul, Change.pv]
                refine ⟨⟨by omega, by omega⟩, ?_⟩
                refine V.call rfl rfl (by simp [dOK]) ⟨23, [], by simp only [go_sem, ↓reduceIte, reduceCtorEq, Bool.false_eq_true, Bool.true_eq_false, Nat.reduceAdd, Nat.reduceLT, Nat.reduceEqDiff, Nat.reduceLeDiff, Nat.reduceSub, Nat.reduceMul], ⟨_, rfl, rfl, rfl⟩, .inl ⟨[.row (cur.map Pair.pv), .row ([c].map Change.pv)], _, .inl (by simp only [go_sem, ↓reduceIte, reduceCtorEq, Bool.false_eq_true, Bool.true_eq_false, Nat.reduceAdd, Nat.reduceLT, Nat.reduceEqDiff, Nat.reduceLeDiff, Nat.reduceSub, Nat.reduceMul, Change.pv, List.map_cons, List.map_nil]), cd, .inr (.inl ⟨_, rfl, rfl, rfl⟩)⟩⟩ ?_
                refine V.exec 400 ?_
                simp (config := {contextual := true}) only [go_sem, ↓reduceIte, reduceCtorEq, Bool.false_eq_true, Bool.true_eq_false, Nat.reduceAdd, Nat.reduceLT, Nat.reduceEqDiff, Nat.reduceLeDiff, Nat.reduceSub, Nat.reduceMul, hw]
                refine ⟨ns.length - (i + 1), _, _, [some 25], by omega, ⟨i + 1, out ++ [c], oneV cur x, by omega, rfl, hoo, by omega, by simp; omega, hca, rfl, rfl⟩, ?_⟩
                simp only [go_sem, ↓reduceIte, reduceCtorEq, Bool.false_eq_true, Bool.true_eq_false, Nat.reduceAdd, Nat.reduceLT, Nat.reduceEqDiff, Nat.reduceLeDiff, Nat.reduceSub, Nat.reduceMul, List.map_append, List.map_cons, List.map_nil, Change.pv]
                try decide
              · rw [if_neg he] at hca
                simp (config := {contextual := true}) only [go_sem, ↓reduceIte, reduceCtorEq, Bool.false_eq_true, Bool.true_eq_false, Nat.reduceAdd, Nat.reduceLT, Nat.reduceEqDiff, Nat.reduceLeDiff, Nat.reduceSub, Nat.reduceMul, Change.pv, he, hw]
                refine ⟨ns.length - (i + 1), _, _, [some 0], by omega, ⟨i + 1, out, cur, by omega, rfl, hco, by omega, by omega, hca, rfl, rfl⟩, ?_⟩
                simp only [go_sem, ↓reduceIte, reduceCtorEq, Bool.false_eq_true, Bool.true_eq_false, Nat.reduceAdd, Nat.reduceLT, Nat.reduceEqDiff, Nat.reduceLeDiff, Nat.reduceSub, Nat.reduceMul]
                try decide
            · have hlt' : ¬ (i : Int) < (ns.length : Int) := by omega
              have hd : ns.drop i = [] := List.drop_eq_nil_of_le (by omega)
              rw [hd, runGo, Prod.mk.injEq] at hca
              obtain ⟨rfl, rfl⟩ := hca
              simp (config := {contextual := true}) only [go_sem, ↓reduceIte, reduceCtorEq, Bool.false_eq_true, Bool.true_eq_false, Nat.reduceAdd, Nat.reduceLT, Nat.reduceEqDiff, Nat.reduceLeDiff, Nat.reduceSub, Nat.reduceMul, hlt']
    · have hv := hbad fun h => hok h.2.1
      simp (config := {contextual := true}) only [go_sem, ↓reduceIte, reduceCtorEq, Bool.false_eq_true, Bool.true_eq_false, Nat.reduceAdd, Nat.reduceLT, Nat.reduceEqDiff, Nat.reduceLeDiff, Nat.reduceSub, Nat.reduceMul, hok, hv, List.map_nil]
  · have hv := hbad fun h => hb h.1
    simp (config := {contextual := true}) only [go_sem, ↓reduceIte, reduceCtorEq, Bool.false_eq_true, Bool.true_eq_false, Nat.reduceAdd, Nat.reduceLT, Nat.reduceEqDiff, Nat.reduceLeDiff, Nat.reduceSub, Nat.reduceMul, hb, hv, List.map_nil]
end Go.Proofs.Ytglpemnejngkaaa
set_option linter.unusedVariables false
set_option linter.unusedSimpArgs false
namespace Go.Proofs.Ytglpemnejngkaaa
open Go Go.Proofs Go.Proofs.YtglpemnejngkaaaVm Go.Proofs.Ytglpemnejngkaaa.Ty

theorem refFindP_neg {l : List Pair} {k : List UInt8} (h : getL l k = none) : refFindP l k = -1 := by
  unfold refFindP
  have : l.findIdx? (fun s => decide (s.key = k)) = none := by
    rw [List.findIdx?_eq_none_iff]
    intro x hx
    unfold getL at h
    rw [List.find?_eq_none] at h
    simpa using h x hx
  rw [this]
theorem refFindP_some {l : List Pair} (hs : Sorted l) {k : List UInt8} {p : Pair} (h : getL l k = some p) : ∃ i : Nat, refFindP l k = (i : Int) ∧ l[i]? = some p ∧ i < l.length := by
  have hm := getL_mem h
  unfold refFindP
  cases hf : l.findIdx? (fun s => decide (s.key = k)) with
  | none =>
    rw [List.findIdx?_eq_none_iff] at hf
    have := hf p hm.1
    simp [hm.2] at this
  | some i =>
    rw [List.findIdx?_eq_some_iff_getElem] at hf
    obtain ⟨hi, hk, _⟩ := hf
    refine ⟨i, rfl, ?_, hi⟩
    have hk' : l[i].key = k := by simpa using hk
    have := getL_of_mem hs (List.getElem_mem hi)
    rw [hk', h] at this
    rw [List.getElem?_eq_getElem hi, this]

set_option maxRecDepth 4000 in
set_option maxHeartbeats 8000000 in
theorem ref15_Of (l : List Pair) (seq : Int) (n : Note) (hl : l.length ≤ 1000000) : Ct Try.prog 30 (YtglpemnejngkaaaVm.ops [.row (l.map Pair.pv), .int .i64 seq, n.pv]) (.vals [(ofV l seq n).1.pv, .int .i64 (ofV l seq n).2]) := by
  have hbad : ¬ (pairsOk l ∧ n.ok ∧ 1 ≤ seq ∧ seq ≤ 2147483647) → ofV l seq n = (Change.zero, 1) := fun h => by unfold ofV; rw [if_neg h]
  refine Ct.of_V Try.func30 rfl (by simp [YtglpemnejngkaaaVm.ops, Try.f30]) ?_
  refine V.exec 400 ?_
  simp (config := {contextual := true}) only [go_sem, ↓reduceIte, reduceCtorEq, Bool.false_eq_true, Bool.true_eq_false, Nat.reduceAdd, Nat.reduceLT, Nat.reduceEqDiff, Nat.reduceLeDiff, Nat.reduceSub, Nat.reduceMul, Try.f30, Note.pv]
  refine DV.call [] [] (by simp only [go_sem, ↓reduceIte, reduceCtorEq, Bool.false_eq_true, Bool.true_eq_false, Nat.reduceAdd, Nat.reduceLT, Nat.reduceEqDiff, Nat.reduceLeDiff, Nat.reduceSub, Nat.reduceMul]) (by simp [dOK]) ⟨29, [], by simp only [go_sem, ↓reduceIte, reduceCtorEq, Bool.false_eq_true, Bool.true_eq_false, Nat.reduceAdd, Nat.reduceLT, Nat.reduceEqDiff, Nat.reduceLeDiff, Nat.reduceSub, Nat.reduceMul], ⟨_, rfl, rfl, rfl⟩, .inl ⟨[.row (l.map Pair.pv)], _, .inl (by simp only [go_sem, ↓reduceIte, reduceCtorEq, Bool.false_eq_true, Bool.true_eq_false, Nat.reduceAdd, Nat.reduceLT, Nat.reduceEqDiff, Nat.reduceLeDiff, Nat.reduceSub, Nat.reduceMul]), ref10_Right l hl, .inl ⟨_, rfl, rfl, rfl, rfl⟩⟩⟩ (by simp only [go_sem, ↓reduceIte, reduceCtorEq, Bool.false_eq_true, Bool.true_eq_false, Nat.reduceAdd, Nat.reduceLT, Nat.reduceEqDiff, Nat.reduceLeDiff, Nat.reduceSub, Nat.reduceMul]) (by simp only [go_sem, ↓reduceIte, reduceCtorEq, Bool.false_eq_true, Bool.true_eq_false, Nat.reduceAdd, Nat.reduceLT, Nat.reduceEqDiff, Nat.reduceLeDiff, Nat.reduceSub, Nat.reduceMul]) (by simp only [go_sem, ↓reduceIte, reduceCtorEq, Bool.false_eq_true, Bool.true_eq_false, Nat.reduceAdd, Nat.reduceLT, Nat.reduceEqDiff, Nat.reduceLeDiff, Nat.reduceSub, Nat.reduceMul]) (by simp) ?_
  refine DV.exec 400 ?_
  simp (config := {contextual := true}) only [go_sem, ↓reduceIte, reduceCtorEq, Bool.false_eq_true, Bool.true_eq_false, Nat.reduceAdd, Nat.reduceLT, Nat.reduceEqDiff, Nat.reduceLeDiff, Nat.reduceSub, Nat.reduceMul, Note.pv]
  refine DV.call [] [] (by simp only [go_sem, ↓reduceIte, reduceCtorEq, Bool.false_eq_true, Bool.true_eq_false, Nat.reduceAdd, Nat.reduceLT, Nat.reduceEqDiff, Nat.reduceLeDiff, Nat.reduceSub, Nat.reduceMul, Note.pv]) (by simp [dOK]) ⟨35, [], by simp only [go_sem, ↓reduceIte, reduceCtorEq, Bool.false_eq_true, Bool.true_eq_false, Nat.reduceAdd, Nat.reduceLT, Nat.reduceEqDiff, Nat.reduceLeDiff, Nat.reduceSub, Nat.reduceMul, Note.pv], ⟨_, rfl, rfl, rfl⟩, .inl ⟨[n.pv], _, .inl (by simp only [go_sem, ↓reduceIte, reduceCtorEq, Bool.false_eq_true, Bool.true_eq_false, Nat.reduceAdd, Nat.reduceLT, Nat.reduceEqDiff, Nat.reduceLeDiff, Nat.reduceSub, Nat.reduceMul, Note.pv]), ref09_Right n, .inl ⟨_, rfl, rfl, rfl, rfl⟩⟩⟩ (by simp only [go_sem, ↓reduceIte, reduceCtorEq, Bool.false_eq_true, Bool.true_eq_false, Nat.reduceAdd, Nat.reduceLT, Nat.reduceEqDiff, Nat.reduceLeDiff, Nat.reduceSub, Nat.reduceMul, Note.pv]) (by simp only [go_sem, ↓reduceIte, reduceCtorEq, Bool.false_eq_true, Bool.true_eq_false, Nat.reduceAdd, Nat.reduceLT, Nat.reduceEqDiff, Nat.reduceLeDiff, Nat.reduceSub, Nat.reduceMul, Note.pv]) (by simp only [go_sem, ↓reduceIte, reduceCtorEq, Bool.false_eq_true, Bool.true_eq_false, Nat.reduceAdd, Nat.reduceLT, Nat.reduceEqDiff, Nat.reduceLeDiff, Nat.reduceSub, Nat.reduceMul, Note.pv]) (by simp) ?_
  refine DV.exec 400 ?_
  by_cases hok : pairsOk l
  · by_cases hn : n.ok
    · by_cases h1 : seq < 1
      · have hv := hbad fun h => by omega
        simp (config := {contextual := true}) only [go_sem, ↓reduceIte, reduceCtorEq, Bool.false_eq_true, Bool.true_eq_false, Nat.reduceAdd, Nat.reduceLT, Nat.reduceEqDiff, Nat.reduceLeDiff, Nat.reduceSub, Nat.reduceMul, hok, hn, h1, hv, Change.zero, Change.pv, decide_false, decide_true]
        kernel_rfl
      · by_cases h2 : 2147483647 < seq
        · have hv := hbad fun h => by omega
          simp (config := {contextual := true}) only [go_sem, ↓reduceIte, reduceCtorEq, Bool.false_eq_true, Bool.true_eq_false, Nat.reduceAdd, Nat.reduceLT, Nat.reduceEqDiff, Nat.reduceLeDiff, Nat.reduceSub, Nat.reduceMul, hok, hn, h1, h2, hv, Change.zero, Change.pv, decide_false, decide_true]
          kernel_rfl
        · have hs := ((pairsOk_iff l).1 hok).1
          have hv : ofV l seq n = madeV seq n.key (getV l n.key) (doneV (getV l n.key).1 (getV l n.key).2 [n]) := by
            unfold ofV madeV; rw [if_pos ⟨hok, hn, by omega, by omega⟩]
          simp (config := {contextual := true}) only [go_sem, ↓reduceIte, reduceCtorEq, Bool.false_eq_true, Bool.true_eq_false, Nat.reduceAdd, Nat.reduceLT, Nat.reduceEqDiff, Nat.reduceLeDiff, Nat.reduceSub, Nat.reduceMul, hok, hn, h1, h2, decide_true]
          refine ⟨by kernel_rfl, ?_⟩
          cases hg : getL l n.key with
          | none =>
            have hgv : getV l n.key = ([], false) := by unfold getV; rw [if_pos hok, hg]
            have cf := ref10_Find l n.key hl
            rw [refFindP_neg hg] at cf
            have cd := ref09_Done [] false [n] (by simp)
            rw [hgv] at hv
            simp only at hv
            obtain ⟨dv, dh, hD⟩ : ∃ a b, doneV [] false [n] = (a, b) := ⟨_, _, rfl⟩
            rw [hD] at cd hv
            simp only at cd hv
            have hm1 : ¬ (0 : Int) ≤ -1 := by decide
            refine V.call rfl rfl (by simp [dOK]) ⟨47, [], by simp only [go_sem, ↓reduceIte, reduceCtorEq, Bool.false_eq_true, Bool.true_eq_false, Nat.reduceAdd, Nat.reduceLT, Nat.reduceEqDiff, Nat.reduceLeDiff, Nat.reduceSub, Nat.reduceMul], ⟨_, rfl, rfl, rfl⟩, .inl ⟨[.row (l.map Pair.pv), .str n.key], _, .inl (by simp only [go_sem, ↓reduceIte, reduceCtorEq, Bool.false_eq_true, Bool.true_eq_false, Nat.reduceAdd, Nat.reduceLT, Nat.reduceEqDiff, Nat.reduceLeDiff, Nat.reduceSub, Nat.reduceMul]), cf, .inl ⟨_, rfl, rfl, rfl, rfl⟩⟩⟩ ?_
            refine V.exec 400 ?_
            simp (config := {contextual := true}) only [go_sem, ↓reduceIte, reduceCtorEq, Bool.false_eq_true, Bool.true_eq_false, Nat.reduceAdd, Nat.reduceLT, Nat.reduceEqDiff, Nat.reduceLeDiff, Nat.reduceSub, Nat.reduceMul, hm1, Note.pv]
            refine V.call rfl rfl (by simp [dOK]) ⟨48, [], by simp only [go_sem, ↓reduceIte, reduceCtorEq, Bool.false_eq_true, Bool.true_eq_false, Nat.reduceAdd, Nat.reduceLT, Nat.reduceEqDiff, Nat.reduceLeDiff, Nat.reduceSub, Nat.reduceMul], ⟨_, rfl, rfl, rfl⟩, .inl ⟨[.str [], .bool (decide (false = true)), .row ([n].map Note.pv)], _, .inl (by simp only [go_sem, ↓reduceIte, reduceCtorEq, Bool.false_eq_true, Bool.true_eq_false, Nat.reduceAdd, Nat.reduceLT, Nat.reduceEqDiff, Nat.reduceLeDiff, Nat.reduceSub, Nat.reduceMul, Note.pv, List.map_cons, List.map_nil, decide_false]), cd, .inr (.inl ⟨_, rfl, rfl, rfl⟩)⟩⟩ ?_
            refine V.exec 400 ?_
            cases dh with
            | true =>
              have e : madeV seq n.key ([], false) (dv, true) = (⟨seq, n.key, false, [], true, dv⟩, 0) := rfl
              rw [hv, e]
              simp (config := {contextual := true}) only [go_sem, ↓reduceIte, reduceCtorEq, Bool.false_eq_true, Bool.true_eq_false, Nat.reduceAdd, Nat.reduceLT, Nat.reduceEqDiff, Nat.reduceLeDiff, Nat.reduceSub, Nat.reduceMul, decide_true, decide_false, Change.pv]
            | false =>
              have e : madeV seq n.key ([], false) (dv, false) = (Change.zero, 3) := rfl
              rw [hv, e]
              simp (config := {contextual := true}) only [go_sem, ↓reduceIte, reduceCtorEq, Bool.false_eq_true, Bool.true_eq_false, Nat.reduceAdd, Nat.reduceLT, Nat.reduceEqDiff, Nat.reduceLeDiff, Nat.reduceSub, Nat.reduceMul, decide_true, decide_false, Change.pv, Change.zero]
          | some p =>
            have hgv : getV l n.key = (p.value, true) := by unfold getV; rw [if_pos hok, hg]
            obtain ⟨i, hfi, hpi, hil⟩ := refFindP_some hs hg
            have cf := ref10_Find l n.key hl
            rw [hfi] at cf
            have cd := ref09_Done p.value true [n] (by simp)
            rw [hgv] at hv
            simp only at hv
            obtain ⟨dv, dh, hD⟩ : ∃ a b, doneV p.value true [n] = (a, b) := ⟨_, _, rfl⟩
            rw [hD] at cd hv
            simp only at cd hv
            have hil' : (i : Int) < (l.length : Int) := by omega
            refine V.call rfl rfl (by simp [dOK]) ⟨47, [], by simp only [go_sem, ↓reduceIte, reduceCtorEq, Bool.false_eq_true, Bool.true_eq_false, Nat.reduceAdd, Nat.reduceLT, Nat.reduceEqDiff, Nat.reduceLeDiff, Nat.reduceSub, Nat.reduceMul], ⟨_, rfl, rfl, rfl⟩, .inl ⟨[.row (l.map Pair.pv), .str n.key], _, .inl (by simp only [go_sem, ↓reduceIte, reduceCtorEq, Bool.false_eq_true, Bool.true_eq_false, Nat.reduceAdd, Nat.reduceLT, Nat.reduceEqDiff, Nat.reduceLeDiff, Nat.reduceSub, Nat.reduceMul]), cf, .inl ⟨_, rfl, rfl, rfl, rfl⟩⟩⟩ ?_
            refine V.exec 400 ?_
            simp (config := {contextual := true}) only [go_sem, ↓reduceIte, reduceCtorEq, Bool.false_eq_true, Bool.true_eq_false, Nat.reduceAdd, Nat.reduceLT, Nat.reduceEqDiff, Nat.reduceLeDiff, Nat.reduceSub, Nat.reduceMul, hpi, hil', Note.pv, Pair.pv]
            refine V.call rfl rfl (by simp [dOK]) ⟨48, [], by simp only [go_sem, ↓reduceIte, reduceCtorEq, Bool.false_eq_true, Bool.true_eq_false, Nat.reduceAdd, Nat.reduceLT, Nat.reduceEqDiff, Nat.reduceLeDiff, Nat.reduceSub, Nat.reduceMul], ⟨_, rfl, rfl, rfl⟩, .inl ⟨[.str p.value, .bool (decide (true = true)), .row ([n].map Note.pv)], _, .inl (by simp only [go_sem, ↓reduceIte, reduceCtorEq, Bool.false_eq_true, Bool.true_eq_false, Nat.reduceAdd, Nat.reduceLT, Nat.reduceEqDiff, Nat.reduceLeDiff, Nat.reduceSub, Nat.reduceMul, Note.pv, List.map_cons, List.map_nil, decide_true]), cd, .inr (.inl ⟨_, rfl, rfl, rfl⟩)⟩⟩ ?_
            refine V.exec 400 ?_
            have e : madeV seq n.key (p.value, true) (dv, dh) = (⟨seq, n.key, true, p.value, dh, dv⟩, 0) := rfl
            rw [hv, e]
            simp (config := {contextual := true}) only [go_sem, ↓reduceIte, reduceCtorEq, Bool.false_eq_true, Bool.true_eq_false, Nat.reduceAdd, Nat.reduceLT, Nat.reduceEqDiff, Nat.reduceLeDiff, Nat.reduceSub, Nat.reduceMul, decide_true, decide_false, Change.pv]
    · have hv := hbad fun h => hn h.2.1
      simp (config := {contextual := true}) only [go_sem, ↓reduceIte, reduceCtorEq, Bool.false_eq_true, Bool.true_eq_false, Nat.reduceAdd, Nat.reduceLT, Nat.reduceEqDiff, Nat.reduceLeDiff, Nat.reduceSub, Nat.reduceMul, hok, hn, hv, Change.zero, Change.pv, decide_false, decide_true]
      kernel_rfl
  · have hv := hbad fun h => hok h.1
    simp (config := {contextual := true}) only [go_sem, ↓reduceIte, reduceCtorEq, Bool.false_eq_true, Bool.true_eq_false, Nat.reduceAdd, Nat.reduceLT, Nat.reduceEqDiff, Nat.reduceLeDiff, Nat.reduceSub, Nat.reduceMul, hok, hv, Change.zero, Change.pv, decide_false]
    kernel_rfl
end Go.Proofs.Ytglpemnejngkaaa
set_option linter.unusedVariables false
set_option linter.unusedSimpArgs false
namespace Go.Proofs.Ytglpemnejngkaaa
open Go Go.Proofs Go.Proofs.YtglpemnejngkaaaVm Go.Proofs.Ytglpemnejngkaaa.Ty

theorem notes_all17 (ns : List Note) : notesOk' ns = notesAll ns := rfl
theorem one_slice {α : Type} {l : List α} {i : Nat} {x : α} (h : l[i]? = some x) : (l.take (i + 1)).drop i = [x] := by
  rw [List.take_add_one, h, List.drop_append_of_le_length (by have := (List.getElem?_eq_some_iff.1 h).1; simp; omega)]
  rw [List.drop_eq_nil_of_le (by simp; omega)]; rfl

set_option maxRecDepth 10000 in
set_option maxHeartbeats 16000000 in
theorem ref17_Run (l : List Pair) (seq : Int) (ns : List Note) (hl : l.length ≤ 100000) (hn : ns.length ≤ 100000) (hseq : seq ≤ 9223372036854775807) : Ct Try.prog 13 (YtglpemnejngkaaaVm.ops [.row (l.map Pair.pv), .int .i64 seq, .row (ns.map Note.pv)]) (.vals [.row ((runV l seq ns).1.map Change.pv), .row ((runV l seq ns).2.1.map Pair.pv), .int .i64 (runV l seq ns).2.2]) := by
  have cA := ref09_All ns (by omega)
  simp only [notes_all17] at cA
  have hbad : ¬ (batchOk ns ∧ pairsOk l ∧ 0 ≤ seq ∧ seq ≤ 2147483647) → runV l seq ns = ([], l, 1) := fun h => by unfold runV; rw [if_neg h]
  refine Ct.of_V Try.func13 rfl (by simp [YtglpemnejngkaaaVm.ops, Try.f13]) ?_
  refine V.exec 400 ?_
  simp (config := {contextual := true}) only [go_sem, ↓reduceIte, reduceCtorEq, Bool.false_eq_true, Bool.true_eq_false, Nat.reduceAdd, Nat.reduceLT, Nat.reduceEqDiff, Nat.reduceLeDiff, Nat.reduceSub, Nat.reduceMul, Try.f13]
  refine V.call rfl rfl (by simp [dOK]) ⟨29, [], by simp only [go_sem, ↓reduceIte, reduceCtorEq, Bool.false_eq_true, Bool.true_eq_false, Nat.reduceAdd, Nat.reduceLT, Nat.reduceEqDiff, Nat.reduceLeDiff, Nat.reduceSub, Nat.reduceMul], ⟨_, rfl, rfl, rfl⟩, .inl ⟨[.row (l.map Pair.pv)], _, .inl (by simp only [go_sem, ↓reduceIte, reduceCtorEq, Bool.false_eq_true, Bool.true_eq_false, Nat.reduceAdd, Nat.reduceLT, Nat.reduceEqDiff, Nat.reduceLeDiff, Nat.reduceSub, Nat.reduceMul]), ref10_Right l (by omega), .inl ⟨_, rfl, rfl, rfl, rfl⟩⟩⟩ ?_
  refine V.exec 400 ?_
  simp (config := {contextual := true}) only [go_sem, ↓reduceIte, reduceCtorEq, Bool.false_eq_true, Bool.true_eq_false, Nat.reduceAdd, Nat.reduceLT, Nat.reduceEqDiff, Nat.reduceLeDiff, Nat.reduceSub, Nat.reduceMul]
  refine V.call rfl rfl (by simp [dOK]) ⟨15, [], by simp only [go_sem, ↓reduceIte, reduceCtorEq, Bool.false_eq_true, Bool.true_eq_false, Nat.reduceAdd, Nat.reduceLT, Nat.reduceEqDiff, Nat.reduceLeDiff, Nat.reduceSub, Nat.reduceMul], ⟨_, rfl, rfl, rfl⟩, .inl ⟨[.row (ns.map Note.pv)], _, .inl (by simp only [go_sem, ↓reduceIte, reduceCtorEq, Bool.false_eq_true, Bool.true_eq_false, Nat.reduceAdd, Nat.reduceLT, Nat.reduceEqDiff, Nat.reduceLeDiff, Nat.reduceSub, Nat.reduceMul]), cA, .inl ⟨_, rfl, rfl, rfl, rfl⟩⟩⟩ ?_
  refine V.exec 400 ?_
  by_cases hok : pairsOk l
  · by_cases hall : notesAll ns
    · by_cases h8 : ns.length ≤ 8
      · have h8' : ¬ (8 : Int) < (ns.length : Int) := by omega
        have hb : batchOk ns := ⟨h8, hall⟩
        by_cases h1 : seq < 0
        · have hv := hbad fun h => by omega
          simp (config := {contextual := true}) only [go_sem, ↓reduceIte, reduceCtorEq, Bool.false_eq_true, Bool.true_eq_false, Nat.reduceAdd, Nat.reduceLT, Nat.reduceEqDiff, Nat.reduceLeDiff, Nat.reduceSub, Nat.reduceMul, hok, hall, h8', h1, hv, List.map_nil]
        · by_cases h2' : 2147483647 < seq
          · have hv := hbad fun h => by omega
            simp (config := {contextual := true}) only [go_sem, ↓reduceIte, reduceCtorEq, Bool.false_eq_true, Bool.true_eq_false, Nat.reduceAdd, Nat.reduceLT, Nat.reduceEqDiff, Nat.reduceLeDiff, Nat.reduceSub, Nat.reduceMul, hok, hall, h8', h1, h2', hv, List.map_nil]
          · have hwl : IntKind.i64.wrap (seq + (ns.length : Int)) = seq + (ns.length : Int) := by rw [wrap_small3] <;> omega
            by_cases h3 : 2147483647 < seq + (ns.length : Int)
            · have hv : runV l seq ns = ([], l, 5) := by unfold runV; rw [if_pos ⟨hb, hok, by omega, by omega⟩, if_pos (by omega)]
              simp (config := {contextual := true}) only [go_sem, ↓reduceIte, reduceCtorEq, Bool.false_eq_true, Bool.true_eq_false, Nat.reduceAdd, Nat.reduceLT, Nat.reduceEqDiff, Nat.reduceLeDiff, Nat.reduceSub, Nat.reduceMul, hok, hall, h8', h1, h2', hwl, h3, hv, List.map_nil]
            · have hv : runV l seq ns = ((runGo l seq [] ns).1, (runGo l seq [] ns).2, 0) := by unfold runV; rw [if_pos ⟨hb, hok, by omega, by omega⟩, if_neg (by omega)]
              rw [hv]
              obtain ⟨RO, RP, hR⟩ : ∃ a b, runGo l seq [] ns = (a, b) := ⟨_, _, rfl⟩
              rw [hR]
              simp only
              simp (config := {contextual := true}) only [go_sem, ↓reduceIte, reduceCtorEq, Bool.false_eq_true, Bool.true_eq_false, Nat.reduceAdd, Nat.reduceLT, Nat.reduceEqDiff, Nat.reduceLeDiff, Nat.reduceSub, Nat.reduceMul, hok, hall, h8', h1, h2', hwl, h3]
              refine V.loop (fun m ls os => ∃ (i : Nat) (out : List Change) (cur : List Pair), i ≤ ns.length ∧ m = ns.length - i ∧ pairsOk cur ∧ cur.length ≤ l.length + i ∧ out.length ≤ i ∧ runGo cur seq out (ns.drop i) = (RO, RP) ∧
                  ls = [(1, .val (.int .i64 (seq + (out.length : Int)))), (2, .val (.row (ns.map Note.pv))), (11, .ref 0), (12, .val (.row (cur.map Pair.pv))), (13, .val (.int .i64 i))] ∧ os = [.row 55 (out.map Change.pv)]) 1 ns.length
                [(1, .val (.int .i64 seq)), (2, .val (.row (ns.map Note.pv))), (11, .ref 0), (12, .val (.row (l.map Pair.pv))), (13, .val (.int .i64 0))] [.row 55 []] [none]
                ⟨0, [], l, Nat.zero_le _, rfl, hok, Nat.le_refl _, Nat.le_refl _, hR, by simp, rfl⟩ (by simp only [go_sem, ↓reduceIte, reduceCtorEq, Bool.false_eq_true, Bool.true_eq_false, Nat.reduceAdd, Nat.reduceLT, Nat.reduceEqDiff, Nat.reduceLeDiff, Nat.reduceSub, Nat.reduceMul]; try decide) ?_
              rintro m ls os ⟨i, out, cur, hi, rfl, hco, hcl, hol, hca, rfl, rfl⟩
              refine V.exec 400 ?_
              by_cases hlt : i < ns.length
              · have hlt' : (i : Int) < (ns.length : Int) := by omega
                obtain ⟨x, hx⟩ : ∃ x, ns[i]? = some x := ⟨_, List.getElem?_eq_getElem hlt⟩
                have hxo : x.ok := hb.2 x (List.mem_of_getElem? hx)
                have hw : IntKind.i64.wrap ((i : Int) + 1) = ((i + 1 : Nat) : Int) := by rw [wrap_small3] <;> omega
                have hw2 : IntKind.i64.wrap (seq + (out.length : Int) + 1) = seq + (out.length : Int) + 1 := by rw [wrap_small3] <;> omega
                have co := ref15_Of cur (seq + (out.length : Int) + 1) x (by omega)
                have hno := fun h => (@ofV_none cur (seq + (out.length : Int) + 1) x hco hxo (by omega) (by omega) h).1
                have ca := ref10_Apply cur [x] (by omega) (by simp)
                rw [applyV_ok hco ((notesOk_one x).2 hxo)] at ca
                have e1 : appV cur [x] = oneV cur x := rfl
                rw [e1] at ca
                simp only at ca
                rw [drop_of_get hx, runGo] at hca
                have hoo := oneV_pairsOk hco hxo
                have hol2 := oneV_len ((pairsOk_iff cur).1 hco).1 x
                have hcast : ∀ n : Nat, seq + ((n + 1 : Nat) : Int) = seq + (n : Int) + 1 := fun n => by omega
                have hxs := one_slice (l := ns.map Note.pv) (i := i) (x := x.pv) (by rw [List.getElem?_map, hx]; rfl)
                obtain ⟨c, e, hC⟩ : ∃ a b, ofV cur (seq + (out.length : Int) + 1) x = (a, b) := ⟨_, _, rfl⟩
                rw [hC] at co hca hno
                simp only at co hca hno
                simp (config := {contextual := true}) only [go_sem, ↓reduceIte, reduceCtorEq, Bool.false_eq_true, Bool.true_eq_false, Nat.reduceAdd, Nat.reduceLT, Nat.reduceEqDiff, Nat.reduceLeDiff, Nat.reduceSub, Nat.reduceMul, hlt', hx, Note.pv, hw2]
                refine V.call rfl rfl (by simp [dOK]) ⟨30, [], by simp only [go_sem, ↓reduceIte, reduceCtorEq, Bool.false_eq_true, Bool.true_eq_false, Nat.reduceAdd, Nat.reduceLT, Nat.reduceEqDiff, Nat.reduceLeDiff, Nat.reduceSub, Nat.reduceMul], ⟨_, rfl, rfl, rfl⟩, .inl ⟨[.row (cur.map Pair.pv), .int .i64 (seq + (out.length : Int) + 1), x.pv], _, .inl (by simp only [go_sem, ↓reduceIte, reduceCtorEq, Bool.false_eq_true, Bool.true_eq_false, Nat.reduceAdd, Nat.reduceLT, Nat.reduceEqDiff, Nat.reduceLeDiff, Nat.reduceSub, Nat.reduceMul, Note.pv]), co, .inr (.inl ⟨_, rfl, rfl, rfl⟩)⟩⟩ ?_
                refine V.exec 400 ?_
                simp (config := {contextual := true}) only [go_sem, ↓reduceIte, reduceCtorEq, Bool.false_eq_true, Bool.true_eq_false, Nat.reduceAdd, Nat.reduceLT, Nat.reduceEqDiff, Nat.reduceLeDiff, Nat.reduceSub, Nat.reduceMul, Change.pv, hw]
                refine ⟨⟨by omega, by omega, fun j _ => rfl⟩, ?_⟩
                refine V.call rfl rfl (by simp [dOK]) ⟨31, [], by simp only [go_sem, ↓reduceIte, reduceCtorEq, Bool.false_eq_true, Bool.true_eq_false, Nat.reduceAdd, Nat.reduceLT, Nat.reduceEqDiff, Nat.reduceLeDiff, Nat.reduceSub, Nat.reduceMul], ⟨_, rfl, rfl, rfl⟩, .inl ⟨[.row (cur.map Pair.pv), .row ([x].map Note.pv)], _, .inl (by simp only [go_sem, ↓reduceIte, reduceCtorEq, Bool.false_eq_true, Bool.true_eq_false, Nat.reduceAdd, Nat.reduceLT, Nat.reduceEqDiff, Nat.reduceLeDiff, Nat.reduceSub, Nat.reduceMul, hxs, Note.pv, List.map_cons, List.map_nil]), ca, .inr (.inl ⟨_, rfl, rfl, rfl⟩)⟩⟩ ?_
                refine V.exec 400 ?_
                by_cases he : e = 0
                · rw [if_pos he] at hca
                  subst he
                  simp (config := {contextual := true}) only [go_sem, ↓reduceIte, reduceCtorEq, Bool.false_eq_true, Bool.true_eq_false, Nat.reduceAdd, Nat.reduceLT, Nat.reduceEqDiff, Nat.reduceLeDiff, Nat.reduceSub, Nat.reduceMul, Change.pv, hw2, hw]
                  refine ⟨⟨by omega, by omega⟩, ns.length - (i + 1), _, _, [some 35], by omega, ⟨i + 1, out ++ [c], oneV cur x, by omega, rfl, hoo, by omega, by simp; omega, hca, rfl, rfl⟩, ?_⟩
                  simp only [go_sem, ↓reduceIte, reduceCtorEq, Bool.false_eq_true, Bool.true_eq_false, Nat.reduceAdd, Nat.reduceLT, Nat.reduceEqDiff, Nat.reduceLeDiff, Nat.reduceSub, Nat.reduceMul, List.map_append, List.map_cons, List.map_nil, Change.pv, List.length_append, List.length_cons, List.length_nil, Nat.zero_add, hcast]
                  try decide
                · rw [if_neg he] at hca
                  rw [hno he] at hoo hol2
                  simp (config := {contextual := true}) only [go_sem, ↓reduceIte, reduceCtorEq, Bool.false_eq_true, Bool.true_eq_false, Nat.reduceAdd, Nat.reduceLT, Nat.reduceEqDiff, Nat.reduceLeDiff, Nat.reduceSub, Nat.reduceMul, Change.pv, he, hw]
                  refine ⟨ns.length - (i + 1), _, _, [some 0], by omega, ⟨i + 1, out, cur, by omega, rfl, hco, by omega, by omega, hca, rfl, rfl⟩, ?_⟩
                  simp only [go_sem, ↓reduceIte, reduceCtorEq, Bool.false_eq_true, Bool.true_eq_false, Nat.reduceAdd, Nat.reduceLT, Nat.reduceEqDiff, Nat.reduceLeDiff, Nat.reduceSub, Nat.reduceMul, hno he]
                  try decide
              · have hlt' : ¬ (i : Int) < (ns.length : Int) := by omega
                have hd : ns.drop i = [] := List.drop_eq_nil_of_le (by omega)
                rw [hd, runGo, Prod.mk.injEq] at hca
                obtain ⟨rfl, rfl⟩ := hca
                simp (config := {contextual := true}) only [go_sem, ↓reduceIte, reduceCtorEq, Bool.false_eq_true, Bool.true_eq_false, Nat.reduceAdd, Nat.reduceLT, Nat.reduceEqDiff, Nat.reduceLeDiff, Nat.reduceSub, Nat.reduceMul, hlt']
      · have h8' : (8 : Int) < (ns.length : Int) := by omega
        have hv := hbad fun h => h8 h.1.1
        simp (config := {contextual := true}) only [go_sem, ↓reduceIte, reduceCtorEq, Bool.false_eq_true, Bool.true_eq_false, Nat.reduceAdd, Nat.reduceLT, Nat.reduceEqDiff, Nat.reduceLeDiff, Nat.reduceSub, Nat.reduceMul, hok, hall, h8', hv, List.map_nil]
    · have hv := hbad fun h => hall h.1.2
      simp (config := {contextual := true}) only [go_sem, ↓reduceIte, reduceCtorEq, Bool.false_eq_true, Bool.true_eq_false, Nat.reduceAdd, Nat.reduceLT, Nat.reduceEqDiff, Nat.reduceLeDiff, Nat.reduceSub, Nat.reduceMul, hok, hall, hv, List.map_nil]
  · have hv := hbad fun h => hok h.2.1
    simp (config := {contextual := true}) only [go_sem, ↓reduceIte, reduceCtorEq, Bool.false_eq_true, Bool.true_eq_false, Nat.reduceAdd, Nat.reduceLT, Nat.reduceEqDiff, Nat.reduceLeDiff, Nat.reduceSub, Nat.reduceMul, hok, hv, List.map_nil]
end Go.Proofs.Ytglpemnejngkaaa
set_option linter.unusedVariables false
set_option linter.unusedSimpArgs false
namespace Go.Proofs.Ytglpemnejngkaaa
open Go Go.Proofs Go.Proofs.YtglpemnejngkaaaVm Go.Proofs.Ytglpemnejngkaaa.Ty

def pvZ (n : Int) : PV := .int .i64 n
def rowN (l : List Note) : PV := .row (l.map Note.pv)
theorem runGo_facts : ∀ (ns : List Note) (p : List Pair) (seq : Int) (out : List Change), pairsOk p → notesAll ns →
    (runGo p seq out ns).1.length ≤ out.length + ns.length ∧ (runGo p seq out ns).2.length ≤ p.length + ns.length ∧ pairsOk (runGo p seq out ns).2
  | [], p, seq, out, hp, _ => ⟨Nat.le_refl _, Nat.le_refl _, hp⟩
  | n :: r, p, seq, out, hp, hn => by
    have hx := hn n List.mem_cons_self
    have hr : notesAll r := fun y hy => hn y (List.mem_cons_of_mem _ hy)
    unfold runGo
    split
    · have ih := runGo_facts r (oneV p n) seq (out ++ [(ofV p (seq + out.length + 1) n).1]) (oneV_pairsOk hp hx) hr
      have hl := oneV_len ((pairsOk_iff p).1 hp).1 n
      rw [List.length_append, List.length_singleton] at ih
      rw [List.length_cons]
      exact ⟨by omega, by omega, ih.2.2⟩
    · have ih := runGo_facts r p seq out hp hr
      rw [List.length_cons]
      exact ⟨by omega, by omega, ih.2.2⟩
theorem runV_facts {l : List Pair} {seq : Int} {ns : List Note} (h : (runV l seq ns).2.2 = 0) :
    batchOk ns ∧ pairsOk l ∧ 0 ≤ seq ∧ seq + (ns.length : Int) ≤ 2147483647 ∧ (runV l seq ns).1.length ≤ ns.length ∧ (runV l seq ns).2.1.length ≤ l.length + ns.length ∧ pairsOk (runV l seq ns).2.1 ∧ runV l seq ns = ((runGo l seq [] ns).1, (runGo l seq [] ns).2, 0) := by
  unfold runV at *
  split at h
  · rename_i hc
    rw [if_pos hc]
    split at h
    · cases h
    · rename_i h3
      rw [if_neg h3]
      have hf := runGo_facts ns l seq [] hc.2.1 hc.1.2
      simp only [List.length_nil, Nat.zero_add] at hf
      exact ⟨hc.1, hc.2.1, hc.2.2.1, by omega, hf.1, hf.2.1, hf.2.2, rfl⟩
  · cases h
/-- Batches, one behind the other. -/
def allGo (l0 : List Pair) : List Pair → Int → List Change → List Int → List (List Note) → List Change × List Pair × List Int × Int
  | p, _, out, ends, [] => (out, p, ends, 0)
  | p, seq, out, ends, b :: r => if (runV p seq b).2.2 = 0 then allGo l0 (runV p seq b).2.1 (seq + ((runV p seq b).1.length : Int)) (out ++ (runV p seq b).1) (ends ++ [seq + ((runV p seq b).1.length : Int)]) r else ([], l0, [], (runV p seq b).2.2)
def allV (l : List Pair) (seq : Int) (bs : List (List Note)) : List Change × List Pair × List Int × Int := allGo l l seq [] [] bs

set_option maxRecDepth 10000 in
set_option maxHeartbeats 16000000 in
theorem batch_All (l : List Pair) (seq : Int) (bs : List (List Note)) (hl : l.length ≤ 1000) (hn : bs.length ≤ 1000) (hb : ∀ b ∈ bs, b.length ≤ 100000) (hseq : seq ≤ 9223372036854775807) : Ct Try.prog 18 (YtglpemnejngkaaaVm.ops [.row (l.map Pair.pv), .int .i64 seq, .row (bs.map rowN)]) (.vals [.row ((allV l seq bs).1.map Change.pv), .row ((allV l seq bs).2.1.map Pair.pv), .row ((allV l seq bs).2.2.1.map pvZ), .int .i64 (allV l seq bs).2.2.2]) := by
  obtain ⟨RO, RP, RE, re, hR⟩ : ∃ a b c d, allV l seq bs = (a, b, c, d) := ⟨_, _, _, _, rfl⟩
  rw [hR]
  unfold allV at hR
  simp only
  refine Ct.of_V Try.func18 rfl (by simp [YtglpemnejngkaaaVm.ops, Try.f18]) ?_
  refine V.exec 400 ?_
  simp (config := {contextual := true}) only [go_sem, ↓reduceIte, reduceCtorEq, Bool.false_eq_true, Bool.true_eq_false, Nat.reduceAdd, Nat.reduceLT, Nat.reduceEqDiff, Nat.reduceLeDiff, Nat.reduceSub, Nat.reduceMul, Try.f18]
  refine V.loop (fun m ls os => ∃ (i : Nat) (out : List Change) (cur : List Pair) (ends : List Int) (sq : Int), i ≤ bs.length ∧ m = bs.length - i ∧ cur.length ≤ l.length + 8 * i ∧ out.length ≤ 8 * i ∧ ends.length ≤ i ∧ sq ≤ 9223372036854775807 ∧ allGo l cur sq out ends (bs.drop i) = (RO, RP, RE, re) ∧
      ls = [(0, .val (.row (l.map Pair.pv))), (1, .val (.int .i64 sq)), (10, .ref 0), (11, .ref 1), (12, .val (.row (cur.map Pair.pv))), (19, .val (.row (bs.map rowN))), (20, .val (.int .i64 bs.length)), (21, .val (.int .i64 i))] ∧ os = [.row 55 (out.map Change.pv), .row 3 (ends.map pvZ)]) 2 bs.length
    [(0, .val (.row (l.map Pair.pv))), (1, .val (.int .i64 seq)), (10, .ref 0), (11, .ref 1), (12, .val (.row (l.map Pair.pv))), (19, .val (.row (bs.map rowN))), (20, .val (.int .i64 bs.length)), (21, .val (.int .i64 0))] [.row 55 [], .row 3 []] [none, none]
    ⟨0, [], l, [], seq, Nat.zero_le _, rfl, Nat.le_refl _, Nat.le_refl _, Nat.le_refl _, hseq, hR, rfl, rfl⟩ (by simp only [go_sem, ↓reduceIte, reduceCtorEq, Bool.false_eq_true, Bool.true_eq_false, Nat.reduceAdd, Nat.reduceLT, Nat.reduceEqDiff, Nat.reduceLeDiff, Nat.reduceSub, Nat.reduceMul]; try decide) ?_
  rintro m ls os ⟨i, out, cur, ends, sq, hi, rfl, hcl, hol, hel, hsq, hca, rfl, rfl⟩
  refine V.exec 400 ?_
  by_cases hlt : i < bs.length
  · have hlt' : (i : Int) < (bs.length : Int) := by omega
    obtain ⟨b, hx⟩ : ∃ x, bs[i]? = some x := ⟨_, List.getElem?_eq_getElem hlt⟩
    have hbl := hb b (List.mem_of_getElem? hx)
    have hw : IntKind.i64.wrap ((i : Int) + 1) = ((i + 1 : Nat) : Int) := by rw [wrap_small3] <;> omega
    have cr := batch_Run cur sq b (by omega) (by omega) hsq
    rw [drop_of_get hx, allGo] at hca
    have hf := @runV_facts cur sq b
    obtain ⟨c, q, e, hC⟩ : ∃ a b' d, runV cur sq b = (a, b', d) := ⟨_, _, _, rfl⟩
    rw [hC] at cr hca hf
    simp only at cr hca hf
    simp (config := {contextual := true}) only [go_sem, ↓reduceIte, reduceCtorEq, Bool.false_eq_true, Bool.true_eq_false, Nat.reduceAdd, Nat.reduceLT, Nat.reduceEqDiff, Nat.reduceLeDiff, Nat.reduceSub, Nat.reduceMul, hlt', hx, rowN]
    refine V.call rfl rfl (by simp [dOK]) ⟨12, [], by simp only [go_sem, ↓reduceIte, reduceCtorEq, Bool.false_eq_true, Bool.true_eq_false, Nat.reduceAdd, Nat.reduceLT, Nat.reduceEqDiff, Nat.reduceLeDiff, Nat.reduceSub, Nat.reduceMul], ⟨_, rfl, rfl, rfl⟩, .inl ⟨[.row (cur.map Pair.pv), .int .i64 sq, .row (b.map Note.pv)], _, .inl (by simp only [go_sem, ↓reduceIte, reduceCtorEq, Bool.false_eq_true, Bool.true_eq_false, Nat.reduceAdd, Nat.reduceLT, Nat.reduceEqDiff, Nat.reduceLeDiff, Nat.reduceSub, Nat.reduceMul]), cr, .inr (.inl ⟨_, rfl, rfl, rfl⟩)⟩⟩ ?_
    refine V.exec 400 ?_
    by_cases he : e = 0
    · rw [if_pos he] at hca
      obtain ⟨f1, f2, f3, f4, f5, f6, f7, _⟩ := hf he
      have f8 := f1.1
      subst he
      have hw2 : IntKind.i64.wrap (sq + (c.length : Int)) = sq + (c.length : Int) := by rw [wrap_small3] <;> omega
      simp (config := {contextual := true}) only [go_sem, ↓reduceIte, reduceCtorEq, Bool.false_eq_true, Bool.true_eq_false, Nat.reduceAdd, Nat.reduceLT, Nat.reduceEqDiff, Nat.reduceLeDiff, Nat.reduceSub, Nat.reduceMul, hw, hw2]
      refine ⟨fun j _ => rfl, ⟨by omega, by omega⟩, ⟨by omega, by omega⟩, bs.length - (i + 1), _, _, [some 21, some 33], by omega, ⟨i + 1, out ++ c, q, ends ++ [sq + (c.length : Int)], sq + (c.length : Int), by omega, rfl, by omega, by simp; omega, by simp; omega, by omega, hca, rfl, rfl⟩, ?_⟩
      simp only [go_sem, ↓reduceIte, reduceCtorEq, Bool.false_eq_true, Bool.true_eq_false, Nat.reduceAdd, Nat.reduceLT, Nat.reduceEqDiff, Nat.reduceLeDiff, Nat.reduceSub, Nat.reduceMul, List.map_append, List.map_cons, List.map_nil, pvZ]
      try decide
    · rw [if_neg he, Prod.mk.injEq, Prod.mk.injEq, Prod.mk.injEq] at hca
      obtain ⟨rfl, rfl, rfl, rfl⟩ := hca
      simp (config := {contextual := true}) only [go_sem, ↓reduceIte, reduceCtorEq, Bool.false_eq_true, Bool.true_eq_false, Nat.reduceAdd, Nat.reduceLT, Nat.reduceEqDiff, Nat.reduceLeDiff, Nat.reduceSub, Nat.reduceMul, he, List.map_nil]
  · have hlt' : ¬ (i : Int) < (bs.length : Int) := by omega
    have hd : bs.drop i = [] := List.drop_eq_nil_of_le (by omega)
    rw [hd, allGo, Prod.mk.injEq, Prod.mk.injEq, Prod.mk.injEq] at hca
    obtain ⟨rfl, rfl, rfl, rfl⟩ := hca
    simp (config := {contextual := true}) only [go_sem, ↓reduceIte, reduceCtorEq, Bool.false_eq_true, Bool.true_eq_false, Nat.reduceAdd, Nat.reduceLT, Nat.reduceEqDiff, Nat.reduceLeDiff, Nat.reduceSub, Nat.reduceMul, hlt']
set_option maxRecDepth 10000 in
set_option maxHeartbeats 16000000 in
theorem ref17_All (l : List Pair) (seq : Int) (bs : List (List Note)) (hl : l.length ≤ 1000) (hn : bs.length ≤ 1000) (hb : ∀ b ∈ bs, b.length ≤ 100000) (hseq : seq ≤ 9223372036854775807) : Ct Try.prog 19 (YtglpemnejngkaaaVm.ops [.row (l.map Pair.pv), .int .i64 seq, .row (bs.map rowN)]) (.vals [.row ((allV l seq bs).1.map Change.pv), .row ((allV l seq bs).2.1.map Pair.pv), .row ((allV l seq bs).2.2.1.map pvZ), .int .i64 (allV l seq bs).2.2.2]) := by
  obtain ⟨RO, RP, RE, re, hR⟩ : ∃ a b c d, allV l seq bs = (a, b, c, d) := ⟨_, _, _, _, rfl⟩
  rw [hR]
  unfold allV at hR
  simp only
  refine Ct.of_V Try.func19 rfl (by simp [YtglpemnejngkaaaVm.ops, Try.f19]) ?_
  refine V.exec 400 ?_
  simp (config := {contextual := true}) only [go_sem, ↓reduceIte, reduceCtorEq, Bool.false_eq_true, Bool.true_eq_false, Nat.reduceAdd, Nat.reduceLT, Nat.reduceEqDiff, Nat.reduceLeDiff, Nat.reduceSub, Nat.reduceMul, Try.f19]
  refine V.loop (fun m ls os => ∃ (i : Nat) (out : List Change) (cur : List Pair) (ends : List Int) (sq : Int), i ≤ bs.length ∧ m = bs.length - i ∧ cur.length ≤ l.length + 8 * i ∧ out.length ≤ 8 * i ∧ ends.length ≤ i ∧ sq ≤ 9223372036854775807 ∧ allGo l cur sq out ends (bs.drop i) = (RO, RP, RE, re) ∧
      ls = [(0, .val (.row (l.map Pair.pv))), (1, .val (.int .i64 sq)), (2, .val (.row (bs.map rowN))), (10, .ref 0), (11, .ref 1), (12, .val (.row (cur.map Pair.pv))), (13, .val (.int .i64 i))] ∧ os = [.row 55 (out.map Change.pv), .row 3 (ends.map pvZ)]) 2 bs.length
    [(0, .val (.row (l.map Pair.pv))), (1, .val (.int .i64 seq)), (2, .val (.row (bs.map rowN))), (10, .ref 0), (11, .ref 1), (12, .val (.row (l.map Pair.pv))), (13, .val (.int .i64 0))] [.row 55 [], .row 3 []] [none, none]
    ⟨0, [], l, [], seq, Nat.zero_le _, rfl, Nat.le_refl _, Nat.le_refl _, Nat.le_refl _, hseq, hR, rfl, rfl⟩ (by simp only [go_sem, ↓reduceIte, reduceCtorEq, Bool.false_eq_true, Bool.true_eq_false, Nat.reduceAdd, Nat.reduceLT, Nat.reduceEqDiff, Nat.reduceLeDiff, Nat.reduceSub, Nat.reduceMul]; try decide) ?_
  rintro m ls os ⟨i, out, cur, ends, sq, hi, rfl, hcl, hol, hel, hsq, hca, rfl, rfl⟩
  refine V.exec 400 ?_
  by_cases hlt : i < bs.length
  · have hlt' : (i : Int) < (bs.length : Int) := by omega
    obtain ⟨b, hx⟩ : ∃ x, bs[i]? = some x := ⟨_, List.getElem?_eq_getElem hlt⟩
    have hbl := hb b (List.mem_of_getElem? hx)
    have hw : IntKind.i64.wrap ((i : Int) + 1) = ((i + 1 : Nat) : Int) := by rw [wrap_small3] <;> omega
    have cr := ref17_Run cur sq b (by omega) (by omega) hsq
    rw [drop_of_get hx, allGo] at hca
    have hf := @runV_facts cur sq b
    obtain ⟨c, q, e, hC⟩ : ∃ a b' d, runV cur sq b = (a, b', d) := ⟨_, _, _, rfl⟩
    rw [hC] at cr hca hf
    simp only at cr hca hf
    simp (config := {contextual := true}) only [go_sem, ↓reduceIte, reduceCtorEq, Bool.false_eq_true, Bool.true_eq_false, Nat.reduceAdd, Nat.reduceLT, Nat.reduceEqDiff, Nat.reduceLeDiff, Nat.reduceSub, Nat.reduceMul, hlt', hx, rowN]
    refine V.call rfl rfl (by simp [dOK]) ⟨13, [], by simp only [go_sem, ↓reduceIte, reduceCtorEq, Bool.false_eq_true, Bool.true_eq_false, Nat.reduceAdd, Nat.reduceLT, Nat.reduceEqDiff, Nat.reduceLeDiff, Nat.reduceSub, Nat.reduceMul], ⟨_, rfl, rfl, rfl⟩, .inl ⟨[.row (cur.map Pair.pv), .int .i64 sq, .row (b.map Note.pv)], _, .inl (by simp only [go_sem, ↓reduceIte, reduceCtorEq, Bool.false_eq_true, Bool.true_eq_false, Nat.reduceAdd, Nat.reduceLT, Nat.reduceEqDiff, Nat.reduceLeDiff, Nat.reduceSub, Nat.reduceMul]), cr, .inr (.inl ⟨_, rfl, rfl, rfl⟩)⟩⟩ ?_
    refine V.exec 400 ?_
    by_cases he : e = 0
    · rw [if_pos he] at hca
      obtain ⟨f1, f2, f3, f4, f5, f6, f7, _⟩ := hf he
      have f8 := f1.1
      subst he
      have hw2 : IntKind.i64.wrap (sq + (c.length : Int)) = sq + (c.length : Int) := by rw [wrap_small3] <;> omega
      simp (config := {contextual := true}) only [go_sem, ↓reduceIte, reduceCtorEq, Bool.false_eq_true, Bool.true_eq_false, Nat.reduceAdd, Nat.reduceLT, Nat.reduceEqDiff, Nat.reduceLeDiff, Nat.reduceSub, Nat.reduceMul, hw, hw2]
      refine ⟨fun j _ => rfl, ⟨by omega, by omega⟩, ⟨by omega, by omega⟩, bs.length - (i + 1), _, _, [some 24, some 36], by omega, ⟨i + 1, out ++ c, q, ends ++ [sq + (c.length : Int)], sq + (c.length : Int), by omega, rfl, by omega, by simp; omega, by simp; omega, by omega, hca, rfl, rfl⟩, ?_⟩
      simp only [go_sem, ↓reduceIte, reduceCtorEq, Bool.false_eq_true, Bool.true_eq_false, Nat.reduceAdd, Nat.reduceLT, Nat.reduceEqDiff, Nat.reduceLeDiff, Nat.reduceSub, Nat.reduceMul, List.map_append, List.map_cons, List.map_nil, pvZ]
      try decide
    · rw [if_neg he, Prod.mk.injEq, Prod.mk.injEq, Prod.mk.injEq] at hca
      obtain ⟨rfl, rfl, rfl, rfl⟩ := hca
      simp (config := {contextual := true}) only [go_sem, ↓reduceIte, reduceCtorEq, Bool.false_eq_true, Bool.true_eq_false, Nat.reduceAdd, Nat.reduceLT, Nat.reduceEqDiff, Nat.reduceLeDiff, Nat.reduceSub, Nat.reduceMul, he, List.map_nil]
  · have hlt' : ¬ (i : Int) < (bs.length : Int) := by omega
    have hd : bs.drop i = [] := List.drop_eq_nil_of_le (by omega)
    rw [hd, allGo, Prod.mk.injEq, Prod.mk.injEq, Prod.mk.injEq] at hca
    obtain ⟨rfl, rfl, rfl, rfl⟩ := hca
    simp (config := {contextual := true}) only [go_sem, ↓reduceIte, reduceCtorEq, Bool.false_eq_true, Bool.true_eq_false, Nat.reduceAdd, Nat.reduceLT, Nat.reduceEqDiff, Nat.reduceLeDiff, Nat.reduceSub, Nat.reduceMul, hlt']

set_option maxRecDepth 4000 in
set_option maxHeartbeats 8000000 in
theorem ref17_Numbers (a b : List Int) (hb : b.length ≤ 1000000) : Ct Try.prog 20 (YtglpemnejngkaaaVm.ops [.row (a.map pvZ), .row (b.map pvZ)]) (.vals [.bool (decide (a = b))]) := by
  refine Ct.of_V Try.func20 rfl (by simp [YtglpemnejngkaaaVm.ops, Try.f20]) ?_
  refine V.exec 400 ?_
  by_cases hl : a.length = b.length
  · simp (config := {contextual := true}) only [go_sem, ↓reduceIte, reduceCtorEq, Bool.false_eq_true, Bool.true_eq_false, Nat.reduceAdd, Nat.reduceLT, Nat.reduceEqDiff, Nat.reduceLeDiff, Nat.reduceSub, Nat.reduceMul, Try.f20, hl]
    refine V.loop (fun m ls os => ∃ i : Nat, i ≤ b.length ∧ m = b.length - i ∧ a.take i = b.take i ∧
        ls = [(0, .val (.row (a.map pvZ))), (1, .val (.row (b.map pvZ))), (5, .val (.int .i64 i))] ∧ os = []) 0 b.length [(0, .val (.row (a.map pvZ))), (1, .val (.row (b.map pvZ))), (5, .val (.int .i64 0))] [] []
      ⟨0, Nat.zero_le _, rfl, rfl, rfl, rfl⟩ (by simp only [go_sem, ↓reduceIte, reduceCtorEq, Bool.false_eq_true, Bool.true_eq_false, Nat.reduceAdd, Nat.reduceLT, Nat.reduceEqDiff, Nat.reduceLeDiff, Nat.reduceSub, Nat.reduceMul]) ?_
    rintro m ls os ⟨i, hi, rfl, heq, rfl, rfl⟩
    refine V.exec 400 ?_
    by_cases hlt : i < b.length
    · have hlt' : (i : Int) < (b.length : Int) := by omega
      have hla : i < a.length := by omega
      obtain ⟨x, hx⟩ : ∃ x, a[i]? = some x := ⟨_, List.getElem?_eq_getElem hla⟩
      obtain ⟨y, hy⟩ : ∃ y, b[i]? = some y := ⟨_, List.getElem?_eq_getElem hlt⟩
      have hw : IntKind.i64.wrap ((i : Int) + 1) = ((i + 1 : Nat) : Int) := by rw [wrap_small3] <;> omega
      simp (config := {contextual := true}) only [go_sem, ↓reduceIte, reduceCtorEq, Bool.false_eq_true, Bool.true_eq_false, Nat.reduceAdd, Nat.reduceLT, Nat.reduceEqDiff, Nat.reduceLeDiff, Nat.reduceSub, Nat.reduceMul, hl, hlt', hx, hy, pvZ, hw]
      refine ⟨by kernel_rfl, fun hne => ?_, fun he => ⟨b.length - (i + 1), _, [], [], by omega, ⟨i + 1, by omega, rfl, ?_, rfl, rfl⟩, ?_⟩⟩
      · have : a ≠ b := fun e => hne (by rw [e, hy] at hx; cases hx; rfl)
        simp [this]
      · rw [List.take_add_one, List.take_add_one, heq, hx, hy, he]
      · simp only [go_sem, ↓reduceIte, reduceCtorEq, Bool.false_eq_true, Bool.true_eq_false, Nat.reduceAdd, Nat.reduceLT, Nat.reduceEqDiff, Nat.reduceLeDiff, Nat.reduceSub, Nat.reduceMul, pvZ]
    · have hlt' : ¬ (i : Int) < (b.length : Int) := by omega
      simp (config := {contextual := true}) only [go_sem, ↓reduceIte, reduceCtorEq, Bool.false_eq_true, Bool.true_eq_false, Nat.reduceAdd, Nat.reduceLT, Nat.reduceEqDiff, Nat.reduceLeDiff, Nat.reduceSub, Nat.reduceMul, hl, hlt']
      have : a = b := by rw [List.take_of_length_le (by omega), List.take_of_length_le (by omega)] at heq; exact heq
      simp [this]
  · have hl' : ¬ (a.length : Int) = (b.length : Int) := by omega
    have : a ≠ b := fun e => hl (by rw [e])
    simp (config := {contextual := true}) only [go_sem, ↓reduceIte, reduceCtorEq, Bool.false_eq_true, Bool.true_eq_false, Nat.reduceAdd, Nat.reduceLT, Nat.reduceEqDiff, Nat.reduceLeDiff, Nat.reduceSub, Nat.reduceMul, Try.f20, hl', this, not_false_eq_true]

def smallP (l : List Pair) : Prop := l.length ≤ 60 ∧ ∀ p ∈ l, p.key.length ≤ 300 ∧ p.value.length ≤ 300
instance instSmallP (l : List Pair) : Decidable (smallP l) := by unfold smallP; infer_instance
def fewN (l : List Note) : Prop := l.length ≤ 20 ∧ ∀ p ∈ l, p.key.length ≤ 300 ∧ p.value.length ≤ 300
instance instFewN (l : List Note) : Decidable (fewN l) := by unfold fewN; infer_instance

set_option maxHeartbeats 8000000 in
theorem law17_small (l : List Pair) (hl : l.length ≤ 9223372036854775807) : Ct Try.prog 9 (YtglpemnejngkaaaVm.ops [.row (l.map Pair.pv)]) (.vals [.bool (decide (smallP l))]) := by
  refine Ct.of_V Try.func9 rfl (by simp [YtglpemnejngkaaaVm.ops, Try.f9]) ?_
  refine V.exec 400 ?_
  by_cases h60 : l.length ≤ 60
  · have h60' : ¬ (60 : Int) < (l.length : Int) := by omega
    simp (config := {contextual := true}) only [go_sem, ↓reduceIte, reduceCtorEq, Bool.false_eq_true, Bool.true_eq_false, Nat.reduceAdd, Nat.reduceLT, Nat.reduceEqDiff, Nat.reduceLeDiff, Nat.reduceSub, Nat.reduceMul, Try.f9, h60']
    refine V.loop (fun m ls os => ∃ (i : Nat), i ≤ l.length ∧ m = l.length - i ∧ (∀ s ∈ l.take i, s.key.length ≤ 300 ∧ s.value.length ≤ 300) ∧
        ls = [(8, .val (.row (l.map Pair.pv))), (9, .val (.int .i64 l.length)), (10, .val (.int .i64 i))] ∧ os = []) 0 l.length
      [(8, .val (.row (l.map Pair.pv))), (9, .val (.int .i64 l.length)), (10, .val (.int .i64 0))] [] []
      ⟨0, Nat.zero_le _, rfl, by simp, rfl, rfl⟩ (by simp only [go_sem, ↓reduceIte, reduceCtorEq, Bool.false_eq_true, Bool.true_eq_false, Nat.reduceAdd, Nat.reduceLT, Nat.reduceEqDiff, Nat.reduceLeDiff, Nat.reduceSub, Nat.reduceMul]) ?_
    rintro m ls os ⟨i, hi, rfl, hiff, rfl, rfl⟩
    refine V.exec 400 ?_
    by_cases hlt : i < l.length
    · have hlt' : (i : Int) < (l.length : Int) := by omega
      obtain ⟨x, hx⟩ : ∃ x, l[i]? = some x := ⟨_, List.getElem?_eq_getElem hlt⟩
      have hw : IntKind.i64.wrap ((i : Int) + 1) = ((i + 1 : Nat) : Int) := by rw [wrap_small3] <;> omega
      have hxm := List.mem_of_getElem? hx
      have hfalse : ¬ (x.key.length ≤ 300 ∧ x.value.length ≤ 300) → some [PV.bool false] = some [PV.bool (decide (smallP l))] := fun h => by
        have : ¬ smallP l := fun g => h (g.2 x hxm)
        simp [this]
      have hnext : x.key.length ≤ 300 ∧ x.value.length ≤ 300 → ∀ s ∈ l.take (i + 1), s.key.length ≤ 300 ∧ s.value.length ≤ 300 := fun h s hs => by
        rw [List.take_add_one, hx] at hs
        rcases List.mem_append.1 hs with hs | hs
        · exact hiff s hs
        · simp at hs; rw [hs]; exact h
      simp (config := {contextual := true}) only [go_sem, ↓reduceIte, reduceCtorEq, Bool.false_eq_true, Bool.true_eq_false, Nat.reduceAdd, Nat.reduceLT, Nat.reduceEqDiff, Nat.reduceLeDiff, Nat.reduceSub, Nat.reduceMul, hlt', hx, Pair.pv, hw]
      (repeat' (first | (intro _) | (refine ⟨by kernel_rfl, ?_⟩) | (apply And.intro)))
      all_goals first
        | exact ⟨l.length - (i + 1), _, [], [], by omega, ⟨i + 1, by omega, rfl, hnext ⟨by omega, by omega⟩, rfl, rfl⟩, by simp only [go_sem, ↓reduceIte, reduceCtorEq, Bool.false_eq_true, Bool.true_eq_false, Nat.reduceAdd, Nat.reduceLT, Nat.reduceEqDiff, Nat.reduceLeDiff, Nat.reduceSub, Nat.reduceMul]⟩
        | exact hfalse fun h => by have := h.1; have := h.2; omega
    · have hlt' : ¬ (i : Int) < (l.length : Int) := by omega
      simp (config := {contextual := true}) only [go_sem, ↓reduceIte, reduceCtorEq, Bool.false_eq_true, Bool.true_eq_false, Nat.reduceAdd, Nat.reduceLT, Nat.reduceEqDiff, Nat.reduceLeDiff, Nat.reduceSub, Nat.reduceMul, hlt']
      rw [List.take_of_length_le (by omega)] at hiff
      have : smallP l := ⟨h60, hiff⟩
      simp [this]
  · have h60' : (60 : Int) < (l.length : Int) := by omega
    have : ¬ smallP l := fun h => h60 h.1
    simp (config := {contextual := true}) only [go_sem, ↓reduceIte, reduceCtorEq, Bool.false_eq_true, Bool.true_eq_false, Nat.reduceAdd, Nat.reduceLT, Nat.reduceEqDiff, Nat.reduceLeDiff, Nat.reduceSub, Nat.reduceMul, Try.f9, h60']
    simp [this]

set_option maxHeartbeats 8000000 in
theorem law17_few (l : List Note) (hl : l.length ≤ 9223372036854775807) : Ct Try.prog 10 (YtglpemnejngkaaaVm.ops [.row (l.map Note.pv)]) (.vals [.bool (decide (fewN l))]) := by
  refine Ct.of_V Try.func10 rfl (by simp [YtglpemnejngkaaaVm.ops, Try.f10]) ?_
  refine V.exec 400 ?_
  by_cases h60 : l.length ≤ 20
  · have h60' : ¬ (20 : Int) < (l.length : Int) := by omega
    simp (config := {contextual := true}) only [go_sem, ↓reduceIte, reduceCtorEq, Bool.false_eq_true, Bool.true_eq_false, Nat.reduceAdd, Nat.reduceLT, Nat.reduceEqDiff, Nat.reduceLeDiff, Nat.reduceSub, Nat.reduceMul, Try.f10, h60']
    refine V.loop (fun m ls os => ∃ (i : Nat), i ≤ l.length ∧ m = l.length - i ∧ (∀ s ∈ l.take i, s.key.length ≤ 300 ∧ s.value.length ≤ 300) ∧
        ls = [(8, .val (.row (l.map Note.pv))), (9, .val (.int .i64 l.length)), (10, .val (.int .i64 i))] ∧ os = []) 0 l.length
      [(8, .val (.row (l.map Note.pv))), (9, .val (.int .i64 l.length)), (10, .val (.int .i64 0))] [] []
      ⟨0, Nat.zero_le _, rfl, by simp, rfl, rfl⟩ (by simp only [go_sem, ↓reduceIte, reduceCtorEq, Bool.false_eq_true, Bool.true_eq_false, Nat.reduceAdd, Nat.reduceLT, Nat.reduceEqDiff, Nat.reduceLeDiff, Nat.reduceSub, Nat.reduceMul]) ?_
    rintro m ls os ⟨i, hi, rfl, hiff, rfl, rfl⟩
    refine V.exec 400 ?_
    by_cases hlt : i < l.length
    · have hlt' : (i : Int) < (l.length : Int) := by omega
      obtain ⟨x, hx⟩ : ∃ x, l[i]? = some x := ⟨_, List.getElem?_eq_getElem hlt⟩
      have hw : IntKind.i64.wrap ((i : Int) + 1) = ((i + 1 : Nat) : Int) := by rw [wrap_small3] <;> omega
      have hxm := List.mem_of_getElem? hx
      have hfalse : ¬ (x.key.length ≤ 300 ∧ x.value.length ≤ 300) → some [PV.bool false] = some [PV.bool (decide (fewN l))] := fun h => by
        have : ¬ fewN l := fun g => h (g.2 x hxm)
        simp [this]
      have hnext : x.key.length ≤ 300 ∧ x.value.length ≤ 300 → ∀ s ∈ l.take (i + 1), s.key.length ≤ 300 ∧ s.value.length ≤ 300 := fun h s hs => by
        rw [List.take_add_one, hx] at hs
        rcases List.mem_append.1 hs with hs | hs
        · exact hiff s hs
        · simp at hs; rw [hs]; exact h
      simp (config := {contextual := true}) only [go_sem, ↓reduceIte, reduceCtorEq, Bool.false_eq_true, Bool.true_eq_false, Nat.reduceAdd, Nat.reduceLT, Nat.reduceEqDiff, Nat.reduceLeDiff, Nat.reduceSub, Nat.reduceMul, hlt', hx, Note.pv, hw]
      (repeat' (first | (intro _) | (refine ⟨by kernel_rfl, ?_⟩) | (apply And.intro)))
      all_goals first
        | exact ⟨l.length - (i + 1), _, [], [], by omega, ⟨i + 1, by omega, rfl, hnext ⟨by omega, by omega⟩, rfl, rfl⟩, by simp only [go_sem, ↓reduceIte, reduceCtorEq, Bool.false_eq_true, Bool.true_eq_false, Nat.reduceAdd, Nat.reduceLT, Nat.reduceEqDiff, Nat.reduceLeDiff, Nat.reduceSub, Nat.reduceMul]⟩
        | exact hfalse fun h => by have := h.1; have := h.2; omega
    · have hlt' : ¬ (i : Int) < (l.length : Int) := by omega
      simp (config := {contextual := true}) only [go_sem, ↓reduceIte, reduceCtorEq, Bool.false_eq_true, Bool.true_eq_false, Nat.reduceAdd, Nat.reduceLT, Nat.reduceEqDiff, Nat.reduceLeDiff, Nat.reduceSub, Nat.reduceMul, hlt']
      rw [List.take_of_length_le (by omega)] at hiff
      have : fewN l := ⟨h60, hiff⟩
      simp [this]
  · have h60' : (20 : Int) < (l.length : Int) := by omega
    have : ¬ fewN l := fun h => h60 h.1
    simp (config := {contextual := true}) only [go_sem, ↓reduceIte, reduceCtorEq, Bool.false_eq_true, Bool.true_eq_false, Nat.reduceAdd, Nat.reduceLT, Nat.reduceEqDiff, Nat.reduceLeDiff, Nat.reduceSub, Nat.reduceMul, Try.f10, h60']
    simp [this]
end Go.Proofs.Ytglpemnejngkaaa
set_option linter.unusedVariables false
set_option linter.unusedSimpArgs false
namespace Go.Proofs.Ytglpemnejngkaaa
open Go Go.Proofs Go.Proofs.YtglpemnejngkaaaVm Go.Proofs.Ytglpemnejngkaaa.Ty

def aN1 : Note := ⟨1, [97], [49], 0⟩
def aN2 : Note := ⟨2, [98], [], 0⟩
def aN3 : Note := ⟨2, [97], [], 0⟩
def aN4 : Note := ⟨2, [], [], 0⟩
def aN5 : Note := ⟨1, [120], [], 0⟩
def aN0 : Note := ⟨0, [], [], 0⟩
def aC1 : Change := ⟨5, [97], false, [], true, [49]⟩
def aC2 : Change := ⟨6, [97], true, [49], false, []⟩
def aC3 : Change := ⟨1, [120], false, [], true, []⟩
def aP3 : Pair := ⟨[120], []⟩
theorem av1 : runV [] 4 [aN1, aN2, aN3] = ([aC1, aC2], [], 0) := by kernel_rfl
theorem av2 : runV [] 2147483646 [aN4, aN4] = ([], [], 5) := by kernel_rfl
theorem av3 : allV [] 0 [[aN4], [aN5]] = ([aC3], [aP3], [0, 1], 0) := by kernel_rfl
theorem av4 : batchOk [] := by decide +kernel
theorem av5 : ¬ batchOk [aN0] := by decide +kernel

set_option maxRecDepth 10000 in
set_option maxHeartbeats 8000000 in
theorem law17_awake : Ct Try.prog 11 (YtglpemnejngkaaaVm.ops []) (.vals [.bool true]) := by
  have c1 := batch_Run [] 4 [aN1, aN2, aN3] (by decide) (by decide) (by decide)
  rw [av1] at c1
  have c2 := batch_Run [] 2147483646 [aN4, aN4] (by decide) (by decide) (by decide)
  rw [av2] at c2
  have c3 := batch_All [] 0 [[aN4], [aN5]] (by decide) (by decide) (by decide) (by decide)
  rw [av3] at c3
  have c4 := batch_Right [] (by decide)
  have c5 := batch_Right [aN0] (by decide)
  have c6 := ref17_Numbers [0, 1] [0, 1] (by decide)
  have k2 : ([aC1, aC2].length : Int) = 2 := rfl
  have k0 : (([] : List Pair).length : Int) = 0 := rfl
  have k1 : ([aC3].length : Int) = 1 := rfl
  have k3 : ([aP3].length : Int) = 1 := rfl
  have g1 : [aC1, aC2][1]? = some aC2 := rfl
  have t1 : Int.toNat 1 = 1 := rfl
  have n1 : ((1 : Nat) : Int) = 1 := rfl
  have n2 : ((2 : Nat) : Int) = 2 := rfl
  have n0 : ((0 : Nat) : Int) = 0 := rfl
  have m1 : ¬ (1 : Int) < 0 := by decide
  have r2 : (0 : Int) ≤ 1 ∧ (1 : Int) < 2 := by decide
  refine Ct.of_V Try.func11 rfl (by simp [YtglpemnejngkaaaVm.ops, Try.f11]) ?_
  refine V.exec 400 ?_
  simp (config := {contextual := true}) only [go_sem, ↓reduceIte, reduceCtorEq, Bool.false_eq_true, Bool.true_eq_false, Nat.reduceAdd, Nat.reduceLT, Nat.reduceEqDiff, Nat.reduceLeDiff, Nat.reduceSub, Nat.reduceMul, Try.f11]
  refine V.call rfl rfl (by simp [dOK]) ⟨12, [], by simp only [go_sem, ↓reduceIte, reduceCtorEq, Bool.false_eq_true, Bool.true_eq_false, Nat.reduceAdd, Nat.reduceLT, Nat.reduceEqDiff, Nat.reduceLeDiff, Nat.reduceSub, Nat.reduceMul], ⟨_, rfl, rfl, rfl⟩, .inl ⟨[.row [], .int .i64 4, .row ([aN1, aN2, aN3].map Note.pv)], _, .inl (by simp only [go_sem, ↓reduceIte, reduceCtorEq, Bool.false_eq_true, Bool.true_eq_false, Nat.reduceAdd, Nat.reduceLT, Nat.reduceEqDiff, Nat.reduceLeDiff, Nat.reduceSub, Nat.reduceMul, Note.pv, aN1, aN2, aN3, List.map_cons, List.map_nil]), c1, .inr (.inl ⟨_, rfl, rfl, rfl⟩)⟩⟩ ?_
  refine V.exec 400 ?_
  simp (config := {contextual := true}) only [go_sem, ↓reduceIte, reduceCtorEq, Bool.false_eq_true, Bool.true_eq_false, Nat.reduceAdd, Nat.reduceLT, Nat.reduceEqDiff, Nat.reduceLeDiff, Nat.reduceSub, Nat.reduceMul]
  refine V.call rfl rfl (by simp [dOK]) ⟨12, [], by simp only [go_sem, ↓reduceIte, reduceCtorEq, Bool.false_eq_true, Bool.true_eq_false, Nat.reduceAdd, Nat.reduceLT, Nat.reduceEqDiff, Nat.reduceLeDiff, Nat.reduceSub, Nat.reduceMul], ⟨_, rfl, rfl, rfl⟩, .inl ⟨[.row [], .int .i64 2147483646, .row ([aN4, aN4].map Note.pv)], _, .inl (by simp only [go_sem, ↓reduceIte, reduceCtorEq, Bool.false_eq_true, Bool.true_eq_false, Nat.reduceAdd, Nat.reduceLT, Nat.reduceEqDiff, Nat.reduceLeDiff, Nat.reduceSub, Nat.reduceMul, Note.pv, aN4, List.map_cons, List.map_nil]), c2, .inr (.inl ⟨_, rfl, rfl, rfl⟩)⟩⟩ ?_
  refine V.exec 400 ?_
  simp (config := {contextual := true}) only [go_sem, ↓reduceIte, reduceCtorEq, Bool.false_eq_true, Bool.true_eq_false, Nat.reduceAdd, Nat.reduceLT, Nat.reduceEqDiff, Nat.reduceLeDiff, Nat.reduceSub, Nat.reduceMul]
  refine V.call rfl rfl (by simp [dOK]) ⟨18, [], by simp only [go_sem, ↓reduceIte, reduceCtorEq, Bool.false_eq_true, Bool.true_eq_false, Nat.reduceAdd, Nat.reduceLT, Nat.reduceEqDiff, Nat.reduceLeDiff, Nat.reduceSub, Nat.reduceMul], ⟨_, rfl, rfl, rfl⟩, .inl ⟨[.row [], .int .i64 0, .row ([[aN4], [aN5]].map rowN)], _, .inl (by simp only [go_sem, ↓reduceIte, reduceCtorEq, Bool.false_eq_true, Bool.true_eq_false, Nat.reduceAdd, Nat.reduceLT, Nat.reduceEqDiff, Nat.reduceLeDiff, Nat.reduceSub, Nat.reduceMul, Note.pv, aN4, aN5, List.map_cons, List.map_nil, rowN]), c3, .inr (.inl ⟨_, rfl, rfl, rfl⟩)⟩⟩ ?_
  refine V.exec 400 ?_
  simp (config := {contextual := true}) only [go_sem, ↓reduceIte, reduceCtorEq, Bool.false_eq_true, Bool.true_eq_false, Nat.reduceAdd, Nat.reduceLT, Nat.reduceEqDiff, Nat.reduceLeDiff, Nat.reduceSub, Nat.reduceMul, n0, n2, g1, r2, t1, n1, Change.pv, aC2, eqChange, decide_true, decide_false]
  refine V.call rfl rfl (by simp [dOK]) ⟨20, [], by simp only [go_sem, ↓reduceIte, reduceCtorEq, Bool.false_eq_true, Bool.true_eq_false, Nat.reduceAdd, Nat.reduceLT, Nat.reduceEqDiff, Nat.reduceLeDiff, Nat.reduceSub, Nat.reduceMul], ⟨_, rfl, rfl, rfl⟩, .inl ⟨[.row ([0, 1].map pvZ), .row ([0, 1].map pvZ)], _, .inl (by simp only [go_sem, ↓reduceIte, reduceCtorEq, Bool.false_eq_true, Bool.true_eq_false, Nat.reduceAdd, Nat.reduceLT, Nat.reduceEqDiff, Nat.reduceLeDiff, Nat.reduceSub, Nat.reduceMul, pvZ, List.map_cons, List.map_nil]), c6, .inl ⟨_, rfl, rfl, rfl, rfl⟩⟩⟩ ?_
  refine V.exec 400 ?_
  simp (config := {contextual := true}) only [go_sem, ↓reduceIte, reduceCtorEq, Bool.false_eq_true, Bool.true_eq_false, Nat.reduceAdd, Nat.reduceLT, Nat.reduceEqDiff, Nat.reduceLeDiff, Nat.reduceSub, Nat.reduceMul, decide_true]
  refine V.call rfl rfl (by simp [dOK]) ⟨14, [], by simp only [go_sem, ↓reduceIte, reduceCtorEq, Bool.false_eq_true, Bool.true_eq_false, Nat.reduceAdd, Nat.reduceLT, Nat.reduceEqDiff, Nat.reduceLeDiff, Nat.reduceSub, Nat.reduceMul], ⟨_, rfl, rfl, rfl⟩, .inl ⟨[.row []], _, .inl (by simp only [go_sem, ↓reduceIte, reduceCtorEq, Bool.false_eq_true, Bool.true_eq_false, Nat.reduceAdd, Nat.reduceLT, Nat.reduceEqDiff, Nat.reduceLeDiff, Nat.reduceSub, Nat.reduceMul]), c4, .inl ⟨_, rfl, rfl, rfl, rfl⟩⟩⟩ ?_
  refine V.exec 400 ?_
  simp (config := {contextual := true}) only [go_sem, ↓reduceIte, reduceCtorEq, Bool.false_eq_true, Bool.true_eq_false, Nat.reduceAdd, Nat.reduceLT, Nat.reduceEqDiff, Nat.reduceLeDiff, Nat.reduceSub, Nat.reduceMul, av4, decide_true]
  refine V.call rfl rfl (by simp [dOK]) ⟨14, [], by simp only [go_sem, ↓reduceIte, reduceCtorEq, Bool.false_eq_true, Bool.true_eq_false, Nat.reduceAdd, Nat.reduceLT, Nat.reduceEqDiff, Nat.reduceLeDiff, Nat.reduceSub, Nat.reduceMul], ⟨_, rfl, rfl, rfl⟩, .inl ⟨[.row ([aN0].map Note.pv)], _, .inl (by simp only [go_sem, ↓reduceIte, reduceCtorEq, Bool.false_eq_true, Bool.true_eq_false, Nat.reduceAdd, Nat.reduceLT, Nat.reduceEqDiff, Nat.reduceLeDiff, Nat.reduceSub, Nat.reduceMul, Note.pv, aN0, List.map_cons, List.map_nil]), c5, .inl ⟨_, rfl, rfl, rfl, rfl⟩⟩⟩ ?_
  refine V.exec 400 ?_
  simp (config := {contextual := true}) only [go_sem, ↓reduceIte, reduceCtorEq, Bool.false_eq_true, Bool.true_eq_false, Nat.reduceAdd, Nat.reduceLT, Nat.reduceEqDiff, Nat.reduceLeDiff, Nat.reduceSub, Nat.reduceMul, av5, decide_false]
end Go.Proofs.Ytglpemnejngkaaa
set_option linter.unusedVariables false
set_option linter.unusedSimpArgs false
namespace Go.Proofs.Ytglpemnejngkaaa
open Go Go.Proofs Go.Proofs.YtglpemnejngkaaaVm Go.Proofs.Ytglpemnejngkaaa.Ty

theorem runV_len (l : List Pair) (seq : Int) (ns : List Note) : (runV l seq ns).1.length ≤ ns.length ∧ (runV l seq ns).2.1.length ≤ l.length + ns.length := by
  by_cases h : (runV l seq ns).2.2 = 0
  · have hf := runV_facts h
    exact ⟨hf.2.2.2.2.1, hf.2.2.2.2.2.1⟩
  · unfold runV at *
    split
    · rename_i hc
      rw [if_pos hc] at h
      split
      · simp
      · rename_i h3
        rw [if_neg h3] at h
        exact absurd rfl h
    · simp

set_option maxRecDepth 10000 in
set_option maxHeartbeats 16000000 in
theorem law_TellsB (l : List Pair) (seq : Int) (ns : List Note) (hl : l.length ≤ maxLen) (hn : ns.length ≤ maxLen) (hseq : seq ≤ 9223372036854775807) :
    Ct Try.prog 3 (YtglpemnejngkaaaVm.ops [.row (l.map Pair.pv), .int .i64 seq, .row (ns.map Note.pv)]) (.vals [.bool true]) := by
  have aw := law17_awake
  simp only [maxLen] at hl hn
  refine Ct.of_V Try.func3 rfl (by simp [YtglpemnejngkaaaVm.ops, Try.f3]) ?_
  refine V.exec 400 ?_
  simp (config := {contextual := true}) only [go_sem, ↓reduceIte, reduceCtorEq, Bool.false_eq_true, Bool.true_eq_false, Nat.reduceAdd, Nat.reduceLT, Nat.reduceEqDiff, Nat.reduceLeDiff, Nat.reduceSub, Nat.reduceMul, Try.f3]
  refine V.call rfl rfl (by simp [dOK]) ⟨9, [], by simp only [go_sem, ↓reduceIte, reduceCtorEq, Bool.false_eq_true, Bool.true_eq_false, Nat.reduceAdd, Nat.reduceLT, Nat.reduceEqDiff, Nat.reduceLeDiff, Nat.reduceSub, Nat.reduceMul], ⟨_, rfl, rfl, rfl⟩, .inl ⟨[.row (l.map Pair.pv)], _, .inl (by simp only [go_sem, ↓reduceIte, reduceCtorEq, Bool.false_eq_true, Bool.true_eq_false, Nat.reduceAdd, Nat.reduceLT, Nat.reduceEqDiff, Nat.reduceLeDiff, Nat.reduceSub, Nat.reduceMul]), law17_small l (by omega), .inl ⟨_, rfl, rfl, rfl, rfl⟩⟩⟩ ?_
  refine V.exec 400 ?_
  by_cases h1 : smallP l
  · have hl60 := h1.1
    simp (config := {contextual := true}) only [go_sem, ↓reduceIte, reduceCtorEq, Bool.false_eq_true, Bool.true_eq_false, Nat.reduceAdd, Nat.reduceLT, Nat.reduceEqDiff, Nat.reduceLeDiff, Nat.reduceSub, Nat.reduceMul, h1]
    refine V.call rfl rfl (by simp [dOK]) ⟨10, [], by simp only [go_sem, ↓reduceIte, reduceCtorEq, Bool.false_eq_true, Bool.true_eq_false, Nat.reduceAdd, Nat.reduceLT, Nat.reduceEqDiff, Nat.reduceLeDiff, Nat.reduceSub, Nat.reduceMul], ⟨_, rfl, rfl, rfl⟩, .inl ⟨[.row (ns.map Note.pv)], _, .inl (by simp only [go_sem, ↓reduceIte, reduceCtorEq, Bool.false_eq_true, Bool.true_eq_false, Nat.reduceAdd, Nat.reduceLT, Nat.reduceEqDiff, Nat.reduceLeDiff, Nat.reduceSub, Nat.reduceMul]), law17_few ns (by omega), .inl ⟨_, rfl, rfl, rfl, rfl⟩⟩⟩ ?_
    refine V.exec 400 ?_
    by_cases h2 : fewN ns
    · have hn20 := h2.1
      have c1 := batch_Run l seq ns (by omega) (by omega) hseq
      have c2 := ref17_Run l seq ns (by omega) (by omega) hseq
      have cA := ref09_All ns (by omega)
      simp only [notes_all17] at cA
      have hlen := runV_len l seq ns
      obtain ⟨a, p, e, hR⟩ : ∃ x y z, runV l seq ns = (x, y, z) := ⟨_, _, _, rfl⟩
      rw [hR] at c1 c2 hlen
      simp only at c1 c2 hlen
      simp (config := {contextual := true}) only [go_sem, ↓reduceIte, reduceCtorEq, Bool.false_eq_true, Bool.true_eq_false, Nat.reduceAdd, Nat.reduceLT, Nat.reduceEqDiff, Nat.reduceLeDiff, Nat.reduceSub, Nat.reduceMul, h2]
      refine V.call rfl rfl (by simp [dOK]) ⟨12, [], by simp only [go_sem, ↓reduceIte, reduceCtorEq, Bool.false_eq_true, Bool.true_eq_false, Nat.reduceAdd, Nat.reduceLT, Nat.reduceEqDiff, Nat.reduceLeDiff, Nat.reduceSub, Nat.reduceMul], ⟨_, rfl, rfl, rfl⟩, .inl ⟨[.row (l.map Pair.pv), .int .i64 seq, .row (ns.map Note.pv)], _, .inl (by simp only [go_sem, ↓reduceIte, reduceCtorEq, Bool.false_eq_true, Bool.true_eq_false, Nat.reduceAdd, Nat.reduceLT, Nat.reduceEqDiff, Nat.reduceLeDiff, Nat.reduceSub, Nat.reduceMul]), c1, .inr (.inl ⟨_, rfl, rfl, rfl⟩)⟩⟩ ?_
      refine V.exec 400 ?_
      simp (config := {contextual := true}) only [go_sem, ↓reduceIte, reduceCtorEq, Bool.false_eq_true, Bool.true_eq_false, Nat.reduceAdd, Nat.reduceLT, Nat.reduceEqDiff, Nat.reduceLeDiff, Nat.reduceSub, Nat.reduceMul]
      refine V.call rfl rfl (by simp [dOK]) ⟨13, [], by simp only [go_sem, ↓reduceIte, reduceCtorEq, Bool.false_eq_true, Bool.true_eq_false, Nat.reduceAdd, Nat.reduceLT, Nat.reduceEqDiff, Nat.reduceLeDiff, Nat.reduceSub, Nat.reduceMul], ⟨_, rfl, rfl, rfl⟩, .inl ⟨[.row (l.map Pair.pv), .int .i64 seq, .row (ns.map Note.pv)], _, .inl (by simp only [go_sem, ↓reduceIte, reduceCtorEq, Bool.false_eq_true, Bool.true_eq_false, Nat.reduceAdd, Nat.reduceLT, Nat.reduceEqDiff, Nat.reduceLeDiff, Nat.reduceSub, Nat.reduceMul]), c2, .inr (.inl ⟨_, rfl, rfl, rfl⟩)⟩⟩ ?_
      refine V.exec 400 ?_
      simp (config := {contextual := true}) only [go_sem, ↓reduceIte, reduceCtorEq, Bool.false_eq_true, Bool.true_eq_false, Nat.reduceAdd, Nat.reduceLT, Nat.reduceEqDiff, Nat.reduceLeDiff, Nat.reduceSub, Nat.reduceMul]
      refine V.call rfl rfl (by simp [dOK]) ⟨14, [], by simp only [go_sem, ↓reduceIte, reduceCtorEq, Bool.false_eq_true, Bool.true_eq_false, Nat.reduceAdd, Nat.reduceLT, Nat.reduceEqDiff, Nat.reduceLeDiff, Nat.reduceSub, Nat.reduceMul], ⟨_, rfl, rfl, rfl⟩, .inl ⟨[.row (ns.map Note.pv)], _, .inl (by simp only [go_sem, ↓reduceIte, reduceCtorEq, Bool.false_eq_true, Bool.true_eq_false, Nat.reduceAdd, Nat.reduceLT, Nat.reduceEqDiff, Nat.reduceLeDiff, Nat.reduceSub, Nat.reduceMul]), batch_Right ns (by omega), .inl ⟨_, rfl, rfl, rfl, rfl⟩⟩⟩ ?_
      refine V.exec 400 ?_
      by_cases h8 : ns.length ≤ 8
      · have h8' : (ns.length : Int) ≤ 8 := by omega
        have hbe : decide (batchOk ns) = decide (notesAll ns) := by
          rw [decide_eq_decide]; exact ⟨fun h => h.2, fun h => ⟨h8, h⟩⟩
        simp (config := {contextual := true}) only [go_sem, ↓reduceIte, reduceCtorEq, Bool.false_eq_true, Bool.true_eq_false, Nat.reduceAdd, Nat.reduceLT, Nat.reduceEqDiff, Nat.reduceLeDiff, Nat.reduceSub, Nat.reduceMul, h8']
        refine V.call rfl rfl (by simp [dOK]) ⟨15, [], by simp only [go_sem, ↓reduceIte, reduceCtorEq, Bool.false_eq_true, Bool.true_eq_false, Nat.reduceAdd, Nat.reduceLT, Nat.reduceEqDiff, Nat.reduceLeDiff, Nat.reduceSub, Nat.reduceMul], ⟨_, rfl, rfl, rfl⟩, .inl ⟨[.row (ns.map Note.pv)], _, .inl (by simp only [go_sem, ↓reduceIte, reduceCtorEq, Bool.false_eq_true, Bool.true_eq_false, Nat.reduceAdd, Nat.reduceLT, Nat.reduceEqDiff, Nat.reduceLeDiff, Nat.reduceSub, Nat.reduceMul]), cA, .inl ⟨_, rfl, rfl, rfl, rfl⟩⟩⟩ ?_
        refine V.exec 400 ?_
        simp (config := {contextual := true}) only [go_sem, ↓reduceIte, reduceCtorEq, Bool.false_eq_true, Bool.true_eq_false, Nat.reduceAdd, Nat.reduceLT, Nat.reduceEqDiff, Nat.reduceLeDiff, Nat.reduceSub, Nat.reduceMul, hbe, beq_self_eq_true]
        refine V.call rfl rfl (by simp [dOK]) ⟨16, [], by simp only [go_sem, ↓reduceIte, reduceCtorEq, Bool.false_eq_true, Bool.true_eq_false, Nat.reduceAdd, Nat.reduceLT, Nat.reduceEqDiff, Nat.reduceLeDiff, Nat.reduceSub, Nat.reduceMul], ⟨_, rfl, rfl, rfl⟩, .inl ⟨[.row (a.map Change.pv), .row (a.map Change.pv)], _, .inl (by simp only [go_sem, ↓reduceIte, reduceCtorEq, Bool.false_eq_true, Bool.true_eq_false, Nat.reduceAdd, Nat.reduceLT, Nat.reduceEqDiff, Nat.reduceLeDiff, Nat.reduceSub, Nat.reduceMul]), ref13_Same a a (by omega), .inl ⟨_, rfl, rfl, rfl, rfl⟩⟩⟩ ?_
        refine V.exec 400 ?_
        simp (config := {contextual := true}) only [go_sem, ↓reduceIte, reduceCtorEq, Bool.false_eq_true, Bool.true_eq_false, Nat.reduceAdd, Nat.reduceLT, Nat.reduceEqDiff, Nat.reduceLeDiff, Nat.reduceSub, Nat.reduceMul, decide_true]
        refine V.call rfl rfl (by simp [dOK]) ⟨17, [], by simp only [go_sem, ↓reduceIte, reduceCtorEq, Bool.false_eq_true, Bool.true_eq_false, Nat.reduceAdd, Nat.reduceLT, Nat.reduceEqDiff, Nat.reduceLeDiff, Nat.reduceSub, Nat.reduceMul], ⟨_, rfl, rfl, rfl⟩, .inl ⟨[.row (p.map Pair.pv), .row (p.map Pair.pv)], _, .inl (by simp only [go_sem, ↓reduceIte, reduceCtorEq, Bool.false_eq_true, Bool.true_eq_false, Nat.reduceAdd, Nat.reduceLT, Nat.reduceEqDiff, Nat.reduceLeDiff, Nat.reduceSub, Nat.reduceMul]), ref03_Same p p (by omega), .inl ⟨_, rfl, rfl, rfl, rfl⟩⟩⟩ ?_
        refine V.exec 400 ?_
        simp (config := {contextual := true}) only [go_sem, ↓reduceIte, reduceCtorEq, Bool.false_eq_true, Bool.true_eq_false, Nat.reduceAdd, Nat.reduceLT, Nat.reduceEqDiff, Nat.reduceLeDiff, Nat.reduceSub, Nat.reduceMul, decide_true]
        refine V.call rfl rfl (by simp [dOK]) ⟨11, [], by simp only [go_sem, ↓reduceIte, reduceCtorEq, Bool.false_eq_true, Bool.true_eq_false, Nat.reduceAdd, Nat.reduceLT, Nat.reduceEqDiff, Nat.reduceLeDiff, Nat.reduceSub, Nat.reduceMul], ⟨_, rfl, rfl, rfl⟩, .inl ⟨[], _, .inl (by simp only [go_sem, ↓reduceIte, reduceCtorEq, Bool.false_eq_true, Bool.true_eq_false, Nat.reduceAdd, Nat.reduceLT, Nat.reduceEqDiff, Nat.reduceLeDiff, Nat.reduceSub, Nat.reduceMul]), aw, .inl ⟨_, rfl, rfl, rfl, rfl⟩⟩⟩ ?_
        refine V.exec 400 ?_
        simp (config := {contextual := true}) only [go_sem, ↓reduceIte, reduceCtorEq, Bool.false_eq_true, Bool.true_eq_false, Nat.reduceAdd, Nat.reduceLT, Nat.reduceEqDiff, Nat.reduceLeDiff, Nat.reduceSub, Nat.reduceMul]
      · have h8' : ¬ (ns.length : Int) ≤ 8 := by omega
        have hbe : ¬ batchOk ns := fun h => h8 h.1
        simp (config := {contextual := true}) only [go_sem, ↓reduceIte, reduceCtorEq, Bool.false_eq_true, Bool.true_eq_false, Nat.reduceAdd, Nat.reduceLT, Nat.reduceEqDiff, Nat.reduceLeDiff, Nat.reduceSub, Nat.reduceMul, h8', hbe, decide_false, beq_self_eq_true]
        refine V.call rfl rfl (by simp [dOK]) ⟨16, [], by simp only [go_sem, ↓reduceIte, reduceCtorEq, Bool.false_eq_true, Bool.true_eq_false, Nat.reduceAdd, Nat.reduceLT, Nat.reduceEqDiff, Nat.reduceLeDiff, Nat.reduceSub, Nat.reduceMul], ⟨_, rfl, rfl, rfl⟩, .inl ⟨[.row (a.map Change.pv), .row (a.map Change.pv)], _, .inl (by simp only [go_sem, ↓reduceIte, reduceCtorEq, Bool.false_eq_true, Bool.true_eq_false, Nat.reduceAdd, Nat.reduceLT, Nat.reduceEqDiff, Nat.reduceLeDiff, Nat.reduceSub, Nat.reduceMul]), ref13_Same a a (by omega), .inl ⟨_, rfl, rfl, rfl, rfl⟩⟩⟩ ?_
        refine V.exec 400 ?_
        simp (config := {contextual := true}) only [go_sem, ↓reduceIte, reduceCtorEq, Bool.false_eq_true, Bool.true_eq_false, Nat.reduceAdd, Nat.reduceLT, Nat.reduceEqDiff, Nat.reduceLeDiff, Nat.reduceSub, Nat.reduceMul, decide_true]
        refine V.call rfl rfl (by simp [dOK]) ⟨17, [], by simp only [go_sem, ↓reduceIte, reduceCtorEq, Bool.false_eq_true, Bool.true_eq_false, Nat.reduceAdd, Nat.reduceLT, Nat.reduceEqDiff, Nat.reduceLeDiff, Nat.reduceSub, Nat.reduceMul], ⟨_, rfl, rfl, rfl⟩, .inl ⟨[.row (p.map Pair.pv), .row (p.map Pair.pv)], _, .inl (by simp only [go_sem, ↓reduceIte, reduceCtorEq, Bool.false_eq_true, Bool.true_eq_false, Nat.reduceAdd, Nat.reduceLT, Nat.reduceEqDiff, Nat.reduceLeDiff, Nat.reduceSub, Nat.reduceMul]), ref03_Same p p (by omega), .inl ⟨_, rfl, rfl, rfl, rfl⟩⟩⟩ ?_
        refine V.exec 400 ?_
        simp (config := {contextual := true}) only [go_sem, ↓reduceIte, reduceCtorEq, Bool.false_eq_true, Bool.true_eq_false, Nat.reduceAdd, Nat.reduceLT, Nat.reduceEqDiff, Nat.reduceLeDiff, Nat.reduceSub, Nat.reduceMul, decide_true]
        refine V.call rfl rfl (by simp [dOK]) ⟨11, [], by simp only [go_sem, ↓reduceIte, reduceCtorEq, Bool.false_eq_true, Bool.true_eq_false, Nat.reduceAdd, Nat.reduceLT, Nat.reduceEqDiff, Nat.reduceLeDiff, Nat.reduceSub, Nat.reduceMul], ⟨_, rfl, rfl, rfl⟩, .inl ⟨[], _, .inl (by simp only [go_sem, ↓reduceIte, reduceCtorEq, Bool.false_eq_true, Bool.true_eq_false, Nat.reduceAdd, Nat.reduceLT, Nat.reduceEqDiff, Nat.reduceLeDiff, Nat.reduceSub, Nat.reduceMul]), aw, .inl ⟨_, rfl, rfl, rfl, rfl⟩⟩⟩ ?_
        refine V.exec 400 ?_
        simp (config := {contextual := true}) only [go_sem, ↓reduceIte, reduceCtorEq, Bool.false_eq_true, Bool.true_eq_false, Nat.reduceAdd, Nat.reduceLT, Nat.reduceEqDiff, Nat.reduceLeDiff, Nat.reduceSub, Nat.reduceMul]
    · simp (config := {contextual := true}) only [go_sem, ↓reduceIte, reduceCtorEq, Bool.false_eq_true, Bool.true_eq_false, Nat.reduceAdd, Nat.reduceLT, Nat.reduceEqDiff, Nat.reduceLeDiff, Nat.reduceSub, Nat.reduceMul, h2]
      refine V.call rfl rfl (by simp [dOK]) ⟨11, [], by simp only [go_sem, ↓reduceIte, reduceCtorEq, Bool.false_eq_true, Bool.true_eq_false, Nat.reduceAdd, Nat.reduceLT, Nat.reduceEqDiff, Nat.reduceLeDiff, Nat.reduceSub, Nat.reduceMul], ⟨_, rfl, rfl, rfl⟩, .inl ⟨[], _, .inl (by simp only [go_sem, ↓reduceIte, reduceCtorEq, Bool.false_eq_true, Bool.true_eq_false, Nat.reduceAdd, Nat.reduceLT, Nat.reduceEqDiff, Nat.reduceLeDiff, Nat.reduceSub, Nat.reduceMul]), aw, .inl ⟨_, rfl, rfl, rfl, rfl⟩⟩⟩ ?_
      refine V.exec 400 ?_
      simp (config := {contextual := true}) only [go_sem, ↓reduceIte, reduceCtorEq, Bool.false_eq_true, Bool.true_eq_false, Nat.reduceAdd, Nat.reduceLT, Nat.reduceEqDiff, Nat.reduceLeDiff, Nat.reduceSub, Nat.reduceMul]
  · simp (config := {contextual := true}) only [go_sem, ↓reduceIte, reduceCtorEq, Bool.false_eq_true, Bool.true_eq_false, Nat.reduceAdd, Nat.reduceLT, Nat.reduceEqDiff, Nat.reduceLeDiff, Nat.reduceSub, Nat.reduceMul, h1]
    refine V.call rfl rfl (by simp [dOK]) ⟨11, [], by simp only [go_sem, ↓reduceIte, reduceCtorEq, Bool.false_eq_true, Bool.true_eq_false, Nat.reduceAdd, Nat.reduceLT, Nat.reduceEqDiff, Nat.reduceLeDiff, Nat.reduceSub, Nat.reduceMul], ⟨_, rfl, rfl, rfl⟩, .inl ⟨[], _, .inl (by simp only [go_sem, ↓reduceIte, reduceCtorEq, Bool.false_eq_true, Bool.true_eq_false, Nat.reduceAdd, Nat.reduceLT, Nat.reduceEqDiff, Nat.reduceLeDiff, Nat.reduceSub, Nat.reduceMul]), aw, .inl ⟨_, rfl, rfl, rfl, rfl⟩⟩⟩ ?_
    refine V.exec 400 ?_
    simp (config := {contextual := true}) only [go_sem, ↓reduceIte, reduceCtorEq, Bool.false_eq_true, Bool.true_eq_false, Nat.reduceAdd, Nat.reduceLT, Nat.reduceEqDiff, Nat.reduceLeDiff, Nat.reduceSub, Nat.reduceMul]
theorem note_one (qs : List PV) (hk : qs.map PV.kd = [.int .i64, .str, .str, .int .u64]) : ∃ s : Note, PV.agg qs = s.pv := by
  match qs, hk with
  | [.int k n, .str a, .str b, .int k' m], hk =>
    simp only [List.map_cons, PV.kd, List.cons.injEq, KD.int.injEq] at hk
    obtain ⟨rfl, _, _, rfl, _⟩ := hk
    exact ⟨⟨n, a, b, m⟩, by simp [Note.pv]⟩
theorem note_of (xs : List PV) (h : ∀ x ∈ xs, ∃ qs, x = .agg qs ∧ qs.map PV.kd = [.int .i64, .str, .str, .int .u64] ∧ ∀ q ∈ qs, q.wfv) : ∃ t : List Note, xs = t.map Note.pv := by
  induction xs with
  | nil => exact ⟨[], rfl⟩
  | cons x r ih =>
    obtain ⟨t, rfl⟩ := ih (fun y hy => h y (List.mem_cons_of_mem _ hy))
    obtain ⟨qs, rfl, hk, hw⟩ := h x List.mem_cons_self
    obtain ⟨s, hs⟩ := note_one qs hk
    exact ⟨s :: t, by simp [hs]⟩
theorem int_top {a : Int} (w : (Lit.int .i64 a).wf = true) : a ≤ 9223372036854775807 := by
  simp only [Lit.wf, Bool.and_eq_true, decide_eq_true_eq] at w
  have e2 : IntKind.max .i64 = 9223372036854775807 := by decide
  rw [e2] at w
  exact w.2
theorem ctTellsB (xs0 : List PV) (l0 : xs0.length ≤ maxLen) (h0 : ∀ x ∈ xs0, ∃ qs, x = .agg qs ∧ qs.map PV.kd = [.str, .str] ∧ ∀ q ∈ qs, q.wfv) (a1 : Int) (w1 : (Lit.int .i64 a1).wf = true)
    (xs2 : List PV) (l2 : xs2.length ≤ maxLen) (h2 : ∀ x ∈ xs2, ∃ qs, x = .agg qs ∧ qs.map PV.kd = [.int .i64, .str, .str, .int .u64] ∧ ∀ q ∈ qs, q.wfv) :
    Ct Try.prog 3 (YtglpemnejngkaaaVm.ops [.row xs0, .int .i64 a1, .row xs2]) (.vals [.bool true]) := by
  obtain ⟨l, rfl⟩ := pair_of xs0 h0
  obtain ⟨b, rfl⟩ := note_of xs2 h2
  exact law_TellsB l a1 b (by simpa using l0) (by simpa using l2) (int_top w1)
end Go.Proofs.Ytglpemnejngkaaa
set_option linter.unusedVariables false
set_option linter.unusedSimpArgs false
namespace Go.Proofs.Ytglpemnejngkaaa
open Go Go.Proofs Go.Proofs.YtglpemnejngkaaaVm Go.Proofs.Ytglpemnejngkaaa.Ty

theorem runV_err {l : List Pair} {seq : Int} {ns : List Note} (h : (runV l seq ns).2.2 ≠ 0) : (runV l seq ns).1 = [] ∧ (runV l seq ns).2.1 = l := by
  unfold runV at *
  split
  · rename_i hc
    rw [if_pos hc] at h
    split
    · exact ⟨rfl, rfl⟩
    · rename_i h3
      rw [if_neg h3] at h
      exact absurd rfl h
  · exact ⟨rfl, rfl⟩
theorem runGo_keys : ∀ (ns : List Note) (p : List Pair) (seq : Int) (out : List Change), ∃ cs, (runGo p seq out ns).1 = out ++ cs ∧ List.Sublist (cs.map Change.key) (ns.map Note.key) ∧ ∀ (j : Nat) (c : Change), cs[j]? = some c → c.seq = seq + out.length + j + 1
  | [], p, seq, out => ⟨[], by simp [runGo], List.Sublist.refl _, fun j c h => by simp at h⟩
  | n :: r, p, seq, out => by
    unfold runGo
    split
    · rename_i h
      obtain ⟨_, _, _, _, hk, hsq⟩ := ofV_does h
      obtain ⟨cs, h1, h2, h3⟩ := runGo_keys r (oneV p n) seq (out ++ [(ofV p (seq + out.length + 1) n).1])
      refine ⟨(ofV p (seq + out.length + 1) n).1 :: cs, by rw [h1]; simp, ?_, fun j c hc => ?_⟩
      · rw [List.map_cons, List.map_cons, hk]; exact h2.cons_cons _
      · cases j with
        | zero => simp at hc; subst hc; rw [hsq]; simp
        | succ j =>
          have := h3 j c (by simpa using hc)
          rw [this, List.length_append, List.length_singleton]
          omega
    · obtain ⟨cs, h1, h2, h3⟩ := runGo_keys r p seq out
      exact ⟨cs, h1, by rw [List.map_cons]; exact h2.cons _, h3⟩
theorem runV_keys {l : List Pair} {seq : Int} {ns : List Note} (h : (runV l seq ns).2.2 = 0) : List.Sublist ((runV l seq ns).1.map Change.key) (ns.map Note.key) ∧ ∀ (j : Nat) (c : Change), (runV l seq ns).1[j]? = some c → c.seq = seq + j + 1 := by
  have e := (runV_facts h).2.2.2.2.2.2.2
  rw [e]
  obtain ⟨cs, h1, h2, h3⟩ := runGo_keys ns l seq []
  rw [List.nil_append] at h1
  rw [h1]
  exact ⟨h2, fun j c hc => by have := h3 j c hc; simpa using this⟩
theorem sub_skip {α : Type} {a b : α} {l₁ l₂ : List α} (h : List.Sublist (a :: l₁) (b :: l₂)) (hne : ¬ b = a) : List.Sublist (a :: l₁) l₂ := by
  cases h with
  | cons _ h => exact h
  | cons_cons _ h => exact absurd rfl hne
def cb (c : Change) : Ob := .box true [.val (.int .i64 c.seq), .val (.str c.key), .val (.bool (decide (c.had = true))), .val (.str c.bef), .val (.bool (decide (c.has = true))), .val (.str c.aft)]

set_option maxRecDepth 10000 in
set_option maxHeartbeats 16000000 in
theorem law_Seqs (l : List Pair) (seq : Int) (ns : List Note) (hl : l.length ≤ maxLen) (hn : ns.length ≤ maxLen) (hseq : seq ≤ 9223372036854775807) :
    Ct Try.prog 7 (YtglpemnejngkaaaVm.ops [.row (l.map Pair.pv), .int .i64 seq, .row (ns.map Note.pv)]) (.vals [.bool true]) := by
  have aw := law17_awake
  simp only [maxLen] at hl hn
  refine Ct.of_V Try.func7 rfl (by simp [YtglpemnejngkaaaVm.ops, Try.f7]) ?_
  refine V.exec 400 ?_
  simp (config := {contextual := true}) only [go_sem, ↓reduceIte, reduceCtorEq, Bool.false_eq_true, Bool.true_eq_false, Nat.reduceAdd, Nat.reduceLT, Nat.reduceEqDiff, Nat.reduceLeDiff, Nat.reduceSub, Nat.reduceMul, Try.f7]
  refine V.call rfl rfl (by simp [dOK]) ⟨9, [], by simp only [go_sem, ↓reduceIte, reduceCtorEq, Bool.false_eq_true, Bool.true_eq_false, Nat.reduceAdd, Nat.reduceLT, Nat.reduceEqDiff, Nat.reduceLeDiff, Nat.reduceSub, Nat.reduceMul], ⟨_, rfl, rfl, rfl⟩, .inl ⟨[.row (l.map Pair.pv)], _, .inl (by simp only [go_sem, ↓reduceIte, reduceCtorEq, Bool.false_eq_true, Bool.true_eq_false, Nat.reduceAdd, Nat.reduceLT, Nat.reduceEqDiff, Nat.reduceLeDiff, Nat.reduceSub, Nat.reduceMul]), law17_small l (by omega), .inl ⟨_, rfl, rfl, rfl, rfl⟩⟩⟩ ?_
  refine V.exec 400 ?_
  by_cases h1 : smallP l
  · have hl60 := h1.1
    simp (config := {contextual := true}) only [go_sem, ↓reduceIte, reduceCtorEq, Bool.false_eq_true, Bool.true_eq_false, Nat.reduceAdd, Nat.reduceLT, Nat.reduceEqDiff, Nat.reduceLeDiff, Nat.reduceSub, Nat.reduceMul, h1]
    refine V.call rfl rfl (by simp [dOK]) ⟨10, [], by simp only [go_sem, ↓reduceIte, reduceCtorEq, Bool.false_eq_true, Bool.true_eq_false, Nat.reduceAdd, Nat.reduceLT, Nat.reduceEqDiff, Nat.reduceLeDiff, Nat.reduceSub, Nat.reduceMul], ⟨_, rfl, rfl, rfl⟩, .inl ⟨[.row (ns.map Note.pv)], _, .inl (by simp only [go_sem, ↓reduceIte, reduceCtorEq, Bool.false_eq_true, Bool.true_eq_false, Nat.reduceAdd, Nat.reduceLT, Nat.reduceEqDiff, Nat.reduceLeDiff, Nat.reduceSub, Nat.reduceMul]), law17_few ns (by omega), .inl ⟨_, rfl, rfl, rfl, rfl⟩⟩⟩ ?_
    refine V.exec 400 ?_
    by_cases h2 : fewN ns
    · have hn20 := h2.1
      have c1 := batch_Run l seq ns (by omega) (by omega) hseq
      have hlen := runV_len l seq ns
      have her := @runV_err l seq ns
      have hfa := @runV_facts l seq ns
      have hke := @runV_keys l seq ns
      obtain ⟨a, p, e, hR⟩ : ∃ x y z, runV l seq ns = (x, y, z) := ⟨_, _, _, rfl⟩
      rw [hR] at c1 hlen her hfa hke
      simp only at c1 hlen her hfa hke
      simp (config := {contextual := true}) only [go_sem, ↓reduceIte, reduceCtorEq, Bool.false_eq_true, Bool.true_eq_false, Nat.reduceAdd, Nat.reduceLT, Nat.reduceEqDiff, Nat.reduceLeDiff, Nat.reduceSub, Nat.reduceMul, h2]
      refine V.call rfl rfl (by simp [dOK]) ⟨12, [], by simp only [go_sem, ↓reduceIte, reduceCtorEq, Bool.false_eq_true, Bool.true_eq_false, Nat.reduceAdd, Nat.reduceLT, Nat.reduceEqDiff, Nat.reduceLeDiff, Nat.reduceSub, Nat.reduceMul], ⟨_, rfl, rfl, rfl⟩, .inl ⟨[.row (l.map Pair.pv), .int .i64 seq, .row (ns.map Note.pv)], _, .inl (by simp only [go_sem, ↓reduceIte, reduceCtorEq, Bool.false_eq_true, Bool.true_eq_false, Nat.reduceAdd, Nat.reduceLT, Nat.reduceEqDiff, Nat.reduceLeDiff, Nat.reduceSub, Nat.reduceMul]), c1, .inr (.inl ⟨_, rfl, rfl, rfl⟩)⟩⟩ ?_
      refine V.exec 400 ?_
      by_cases he : e = 0
      · obtain ⟨_, _, f3, f4, _, _, _, _⟩ := hfa he
        obtain ⟨k1, k2⟩ := hke he
        have hal := hlen.1
        subst he
        simp (config := {contextual := true}) only [go_sem, ↓reduceIte, reduceCtorEq, Bool.false_eq_true, Bool.true_eq_false, Nat.reduceAdd, Nat.reduceLT, Nat.reduceEqDiff, Nat.reduceLeDiff, Nat.reduceSub, Nat.reduceMul]
        refine V.loop (fun m ls os => ∃ (i at' : Nat), i ≤ a.length ∧ m = a.length - i ∧ at' ≤ ns.length ∧ List.Sublist ((a.drop i).map Change.key) ((ns.drop at').map Note.key) ∧
            ls = [(1, .val (.int .i64 seq)), (2, .val (.row (ns.map Note.pv))), (7, .val (.row (a.map Change.pv))), (10, .val (.int .i64 at')), (43, .val (.row (a.map Change.pv))), (44, .val (.int .i64 a.length)), (45, .val (.int .i64 i))] ∧ os = []) 0 a.length
          [(1, .val (.int .i64 seq)), (2, .val (.row (ns.map Note.pv))), (7, .val (.row (a.map Change.pv))), (10, .val (.int .i64 0)), (43, .val (.row (a.map Change.pv))), (44, .val (.int .i64 a.length)), (45, .val (.int .i64 0))] [] []
          ⟨0, 0, Nat.zero_le _, rfl, Nat.zero_le _, k1, rfl, rfl⟩ (by simp only [go_sem, ↓reduceIte, reduceCtorEq, Bool.false_eq_true, Bool.true_eq_false, Nat.reduceAdd, Nat.reduceLT, Nat.reduceEqDiff, Nat.reduceLeDiff, Nat.reduceSub, Nat.reduceMul]) ?_
        rintro m ls os ⟨i, at', hi, rfl, hat, hsub, rfl, rfl⟩
        refine V.exec 400 ?_
        by_cases hlt : i < a.length
        · have hlt' : (i : Int) < (a.length : Int) := by omega
          obtain ⟨x, hx⟩ : ∃ x, a[i]? = some x := ⟨_, List.getElem?_eq_getElem hlt⟩
          have hxs := k2 i x hx
          have hw : IntKind.i64.wrap ((i : Int) + 1) = ((i + 1 : Nat) : Int) := by rw [wrap_small3] <;> omega
          rw [drop_of_get hx, List.map_cons] at hsub
          simp (config := {contextual := true}) only [go_sem, ↓reduceIte, reduceCtorEq, Bool.false_eq_true, Bool.true_eq_false, Nat.reduceAdd, Nat.reduceLT, Nat.reduceEqDiff, Nat.reduceLeDiff, Nat.reduceSub, Nat.reduceMul, hlt', hx, Change.pv]
          refine V.loop (fun m ls os => ∃ (at' : Nat), m = ns.length - at' ∧ at' ≤ ns.length ∧ List.Sublist (x.key :: (a.drop (i + 1)).map Change.key) ((ns.drop at').map Note.key) ∧
              ls = [(1, .val (.int .i64 seq)), (2, .val (.row (ns.map Note.pv))), (7, .val (.row (a.map Change.pv))), (10, .val (.int .i64 at')), (11, .val (.int .i64 i)), (12, .adr 0 0), (43, .val (.row (a.map Change.pv))), (44, .val (.int .i64 a.length)), (45, .val (.int .i64 i))] ∧ os = [cb x]) 1 (ns.length - at')
            [(1, .val (.int .i64 seq)), (2, .val (.row (ns.map Note.pv))), (7, .val (.row (a.map Change.pv))), (10, .val (.int .i64 at')), (11, .val (.int .i64 i)), (12, .adr 0 0), (43, .val (.row (a.map Change.pv))), (44, .val (.int .i64 a.length)), (45, .val (.int .i64 i))] [cb x] [some 4]
            ⟨at', rfl, hat, hsub, rfl, rfl⟩ (by simp only [go_sem, ↓reduceIte, reduceCtorEq, Bool.false_eq_true, Bool.true_eq_false, Nat.reduceAdd, Nat.reduceLT, Nat.reduceEqDiff, Nat.reduceLeDiff, Nat.reduceSub, Nat.reduceMul, cb]; try decide) ?_
          rintro m ls os ⟨at2, rfl, hat2, hsub2, rfl, rfl⟩
          refine V.exec 400 ?_
          have hal2 : at2 < ns.length := by
            have := hsub2.length_le
            simp at this; omega
          have hal2' : (at2 : Int) < (ns.length : Int) := by omega
          obtain ⟨n, hnx⟩ : ∃ x, ns[at2]? = some x := ⟨_, List.getElem?_eq_getElem hal2⟩
          have hw3 : IntKind.i64.wrap ((at2 : Int) + 1) = ((at2 + 1 : Nat) : Int) := by rw [wrap_small3] <;> omega
          rw [drop_of_get hnx, List.map_cons] at hsub2
          by_cases hk : n.key = x.key
          · rw [hk, List.cons_sublist_cons] at hsub2
            have hne : ¬ (at2 : Int) = (ns.length : Int) := by omega
            have hw4 : IntKind.i64.wrap (seq + (i : Int)) = seq + (i : Int) := by rw [wrap_small3] <;> omega
            have hw5 : IntKind.i64.wrap (seq + (i : Int) + 1) = seq + (i : Int) + 1 := by rw [wrap_small3] <;> omega
            simp (config := {contextual := true}) only [go_sem, ↓reduceIte, reduceCtorEq, Bool.false_eq_true, Bool.true_eq_false, Nat.reduceAdd, Nat.reduceLT, Nat.reduceEqDiff, Nat.reduceLeDiff, Nat.reduceSub, Nat.reduceMul, hal2', hnx, Note.pv, hk, cb, hne, hw4, hw5, hxs, hw3, hw]
            exact ⟨by kernel_rfl, a.length - (i + 1), _, [], [], by omega, ⟨i + 1, at2 + 1, by omega, rfl, by omega, hsub2, rfl, rfl⟩, by simp only [go_sem, ↓reduceIte, reduceCtorEq, Bool.false_eq_true, Bool.true_eq_false, Nat.reduceAdd, Nat.reduceLT, Nat.reduceEqDiff, Nat.reduceLeDiff, Nat.reduceSub, Nat.reduceMul]⟩
          · have hsub3 := sub_skip hsub2 hk
            simp (config := {contextual := true}) only [go_sem, ↓reduceIte, reduceCtorEq, Bool.false_eq_true, Bool.true_eq_false, Nat.reduceAdd, Nat.reduceLT, Nat.reduceEqDiff, Nat.reduceLeDiff, Nat.reduceSub, Nat.reduceMul, hal2', hnx, Note.pv, hk, cb, hw3]
            refine ⟨by kernel_rfl, ns.length - (at2 + 1), _, _, [some 0], by omega, ⟨at2 + 1, rfl, by omega, hsub3, rfl, rfl⟩, ?_⟩
            simp only [go_sem, ↓reduceIte, reduceCtorEq, Bool.false_eq_true, Bool.true_eq_false, Nat.reduceAdd, Nat.reduceLT, Nat.reduceEqDiff, Nat.reduceLeDiff, Nat.reduceSub, Nat.reduceMul, cb]
            try decide
        · have hlt' : ¬ (i : Int) < (a.length : Int) := by omega
          have hle : (a.length : Int) ≤ (ns.length : Int) := by omega
          simp (config := {contextual := true}) only [go_sem, ↓reduceIte, reduceCtorEq, Bool.false_eq_true, Bool.true_eq_false, Nat.reduceAdd, Nat.reduceLT, Nat.reduceEqDiff, Nat.reduceLeDiff, Nat.reduceSub, Nat.reduceMul, hlt', hle]
          refine V.call rfl rfl (by simp [dOK]) ⟨11, [], by simp only [go_sem, ↓reduceIte, reduceCtorEq, Bool.false_eq_true, Bool.true_eq_false, Nat.reduceAdd, Nat.reduceLT, Nat.reduceEqDiff, Nat.reduceLeDiff, Nat.reduceSub, Nat.reduceMul], ⟨_, rfl, rfl, rfl⟩, .inl ⟨[], _, .inl (by simp only [go_sem, ↓reduceIte, reduceCtorEq, Bool.false_eq_true, Bool.true_eq_false, Nat.reduceAdd, Nat.reduceLT, Nat.reduceEqDiff, Nat.reduceLeDiff, Nat.reduceSub, Nat.reduceMul]), aw, .inl ⟨_, rfl, rfl, rfl, rfl⟩⟩⟩ ?_
          refine V.exec 400 ?_
          simp (config := {contextual := true}) only [go_sem, ↓reduceIte, reduceCtorEq, Bool.false_eq_true, Bool.true_eq_false, Nat.reduceAdd, Nat.reduceLT, Nat.reduceEqDiff, Nat.reduceLeDiff, Nat.reduceSub, Nat.reduceMul]
      · obtain ⟨rfl, rfl⟩ := her he
        have z00 : ((0 : Nat) : Int) = 0 := rfl
        simp (config := {contextual := true}) only [go_sem, ↓reduceIte, reduceCtorEq, Bool.false_eq_true, Bool.true_eq_false, Nat.reduceAdd, Nat.reduceLT, Nat.reduceEqDiff, Nat.reduceLeDiff, Nat.reduceSub, Nat.reduceMul, he, List.map_nil, List.length_nil, z00, decide_true]
        refine V.call rfl rfl (by simp [dOK]) ⟨17, [], by simp only [go_sem, ↓reduceIte, reduceCtorEq, Bool.false_eq_true, Bool.true_eq_false, Nat.reduceAdd, Nat.reduceLT, Nat.reduceEqDiff, Nat.reduceLeDiff, Nat.reduceSub, Nat.reduceMul], ⟨_, rfl, rfl, rfl⟩, .inl ⟨[.row (p.map Pair.pv), .row (p.map Pair.pv)], _, .inl (by simp only [go_sem, ↓reduceIte, reduceCtorEq, Bool.false_eq_true, Bool.true_eq_false, Nat.reduceAdd, Nat.reduceLT, Nat.reduceEqDiff, Nat.reduceLeDiff, Nat.reduceSub, Nat.reduceMul]), ref03_Same p p (by omega), .inl ⟨_, rfl, rfl, rfl, rfl⟩⟩⟩ ?_
        refine V.exec 400 ?_
        simp (config := {contextual := true}) only [go_sem, ↓reduceIte, reduceCtorEq, Bool.false_eq_true, Bool.true_eq_false, Nat.reduceAdd, Nat.reduceLT, Nat.reduceEqDiff, Nat.reduceLeDiff, Nat.reduceSub, Nat.reduceMul, decide_true]
        refine V.call rfl rfl (by simp [dOK]) ⟨11, [], by simp only [go_sem, ↓reduceIte, reduceCtorEq, Bool.false_eq_true, Bool.true_eq_false, Nat.reduceAdd, Nat.reduceLT, Nat.reduceEqDiff, Nat.reduceLeDiff, Nat.reduceSub, Nat.reduceMul], ⟨_, rfl, rfl, rfl⟩, .inl ⟨[], _, .inl (by simp only [go_sem, ↓reduceIte, reduceCtorEq, Bool.false_eq_true, Bool.true_eq_false, Nat.reduceAdd, Nat.reduceLT, Nat.reduceEqDiff, Nat.reduceLeDiff, Nat.reduceSub, Nat.reduceMul]), aw, .inl ⟨_, rfl, rfl, rfl, rfl⟩⟩⟩ ?_
        refine V.exec 400 ?_
        simp (config := {contextual := true}) only [go_sem, ↓reduceIte, reduceCtorEq, Bool.false_eq_true, Bool.true_eq_false, Nat.reduceAdd, Nat.reduceLT, Nat.reduceEqDiff, Nat.reduceLeDiff, Nat.reduceSub, Nat.reduceMul]
    · simp (config := {contextual := true}) only [go_sem, ↓reduceIte, reduceCtorEq, Bool.false_eq_true, Bool.true_eq_false, Nat.reduceAdd, Nat.reduceLT, Nat.reduceEqDiff, Nat.reduceLeDiff, Nat.reduceSub, Nat.reduceMul, h2]
      refine V.call rfl rfl (by simp [dOK]) ⟨11, [], by simp only [go_sem, ↓reduceIte, reduceCtorEq, Bool.false_eq_true, Bool.true_eq_false, Nat.reduceAdd, Nat.reduceLT, Nat.reduceEqDiff, Nat.reduceLeDiff, Nat.reduceSub, Nat.reduceMul], ⟨_, rfl, rfl, rfl⟩, .inl ⟨[], _, .inl (by simp only [go_sem, ↓reduceIte, reduceCtorEq, Bool.false_eq_true, Bool.true_eq_false, Nat.reduceAdd, Nat.reduceLT, Nat.reduceEqDiff, Nat.reduceLeDiff, Nat.reduceSub, Nat.reduceMul]), aw, .inl ⟨_, rfl, rfl, rfl, rfl⟩⟩⟩ ?_
      refine V.exec 400 ?_
      simp (config := {contextual := true}) only [go_sem, ↓reduceIte, reduceCtorEq, Bool.false_eq_true, Bool.true_eq_false, Nat.reduceAdd, Nat.reduceLT, Nat.reduceEqDiff, Nat.reduceLeDiff, Nat.reduceSub, Nat.reduceMul]
  · simp (config := {contextual := true}) only [go_sem, ↓reduceIte, reduceCtorEq, Bool.false_eq_true, Bool.true_eq_false, Nat.reduceAdd, Nat.reduceLT, Nat.reduceEqDiff, Nat.reduceLeDiff, Nat.reduceSub, Nat.reduceMul, h1]
    refine V.call rfl rfl (by simp [dOK]) ⟨11, [], by simp only [go_sem, ↓reduceIte, reduceCtorEq, Bool.false_eq_true, Bool.true_eq_false, Nat.reduceAdd, Nat.reduceLT, Nat.reduceEqDiff, Nat.reduceLeDiff, Nat.reduceSub, Nat.reduceMul], ⟨_, rfl, rfl, rfl⟩, .inl ⟨[], _, .inl (by simp only [go_sem, ↓reduceIte, reduceCtorEq, Bool.false_eq_true, Bool.true_eq_false, Nat.reduceAdd, Nat.reduceLT, Nat.reduceEqDiff, Nat.reduceLeDiff, Nat.reduceSub, Nat.reduceMul]), aw, .inl ⟨_, rfl, rfl, rfl, rfl⟩⟩⟩ ?_
    refine V.exec 400 ?_
    simp (config := {contextual := true}) only [go_sem, ↓reduceIte, reduceCtorEq, Bool.false_eq_true, Bool.true_eq_false, Nat.reduceAdd, Nat.reduceLT, Nat.reduceEqDiff, Nat.reduceLeDiff, Nat.reduceSub, Nat.reduceMul]
theorem ctSeqs (xs0 : List PV) (l0 : xs0.length ≤ maxLen) (h0 : ∀ x ∈ xs0, ∃ qs, x = .agg qs ∧ qs.map PV.kd = [.str, .str] ∧ ∀ q ∈ qs, q.wfv) (a1 : Int) (w1 : (Lit.int .i64 a1).wf = true)
    (xs2 : List PV) (l2 : xs2.length ≤ maxLen) (h2 : ∀ x ∈ xs2, ∃ qs, x = .agg qs ∧ qs.map PV.kd = [.int .i64, .str, .str, .int .u64] ∧ ∀ q ∈ qs, q.wfv) :
    Ct Try.prog 7 (YtglpemnejngkaaaVm.ops [.row xs0, .int .i64 a1, .row xs2]) (.vals [.bool true]) := by
  obtain ⟨l, rfl⟩ := pair_of xs0 h0
  obtain ⟨b, rfl⟩ := note_of xs2 h2
  exact law_Seqs l a1 b (by simpa using l0) (by simpa using l2) (int_top w1)
end Go.Proofs.Ytglpemnejngkaaa
