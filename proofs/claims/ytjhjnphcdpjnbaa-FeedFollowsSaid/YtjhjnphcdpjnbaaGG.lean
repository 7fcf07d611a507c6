/- A part of a proof: functions of the program, walked. -/
import Derived.Test.YtjhjnphcdpjnbaaGF
import Derived.Test.YtjhjnphcdpjnbaaGE
set_option linter.unusedVariables false
set_option linter.unusedSimpArgs false
set_option maxRecDepth 8000
namespace Go.Proofs.Ytjhjnphcdpjnbaa
open Go Go.Proofs Go.Proofs.YtjhjnphcdpjnbaaVm Go.Proofs.Ytjhjnphcdpjnbaa.Ty

theorem notesOk_eq (ns : List Note) : notesOk' ns = notesOk ns := rfl

set_option maxRecDepth 4000 in
set_option maxHeartbeats 8000000 in
theorem ref10_Right (l : List Pair) (hl : l.length ≤ 1000000) : Ct Try.prog 57 (YtjhjnphcdpjnbaaVm.ops [.row (l.map Pair.pv)]) (.vals [.bool (decide (pairsOk l))]) := by
  refine Ct.of_V Try.func57 rfl (by simp [YtjhjnphcdpjnbaaVm.ops, Try.f57]) ?_
  refine V.exec 400 ?_
  simp (config := {contextual := true}) only [go_sem, ↓reduceIte, reduceCtorEq, Bool.false_eq_true, Bool.true_eq_false, Nat.reduceAdd, Nat.reduceLT, Nat.reduceEqDiff, Nat.reduceLeDiff, Nat.reduceSub, Nat.reduceMul, Try.f57]
  refine V.loop (fun m ls os => ∃ (i : Nat), i ≤ l.length ∧ m = l.length - i ∧ (pairsOk l ↔ pairsFrom (prevKey l i) (l.drop i)) ∧
        ls = [(0, .val (.row (l.map Pair.pv))), (3, .val (.int .i64 i))] ∧ os = []) 0 l.length
      [(0, .val (.row (l.map Pair.pv))), (3, .val (.int .i64 0))] [] []
      ⟨0, Nat.zero_le _, rfl, Iff.rfl, rfl, rfl⟩ (by simp only [go_sem, ↓reduceIte, reduceCtorEq, Bool.false_eq_true, Bool.true_eq_false, Nat.reduceAdd, Nat.reduceLT, Nat.reduceEqDiff, Nat.reduceLeDiff, Nat.reduceSub, Nat.reduceMul]) ?_
  rintro m ls os ⟨i, hi, rfl, hiff, rfl, rfl⟩
  refine V.exec 400 ?_
  by_cases hlt : i < l.length
  · have hlt' : (i : Int) < (l.length : Int) := by omega
    obtain ⟨x, hx⟩ : ∃ x, l[i]? = some x := ⟨_, List.getElem?_eq_getElem hlt⟩
    have hw : IntKind.i64.wrap ((i : Int) + 1) = ((i + 1 : Nat) : Int) := by rw [wrap_small3] <;> omega
    rw [drop_of_get hx, pairsFrom] at hiff
    have hpk : prevKey l (i + 1) = some x.key := by simp [prevKey, hx]
    have fin : x.key.length ≤ 16 → x.value.length ≤ 32 → (∀ k, prevKey l i = some k → slt k x.key) → (pairsOk l ↔ pairsFrom (prevKey l (i + 1)) (l.drop (i + 1))) := fun a b c => by
      rw [hiff, hpk]; exact ⟨fun h => h.2.2.2, fun h => ⟨a, b, c, h⟩⟩
    have hfalse : ¬ pairsOk l → some [PV.bool false] = some [PV.bool (decide (pairsOk l))] := fun h => by simp [h]
    rcases Nat.eq_zero_or_pos i with rfl | hpos
    · have hz : ¬ (0 : Int) < ((0 : Nat) : Int) := by omega
      simp (config := {contextual := true}) only [go_sem, ↓reduceIte, reduceCtorEq, Bool.false_eq_true, Bool.true_eq_false, Nat.reduceAdd, Nat.reduceLT, Nat.reduceEqDiff, Nat.reduceLeDiff, Nat.reduceSub, Nat.reduceMul, hlt', hx, Pair.pv, hw, hz]
      (repeat' (first | (intro _) | (refine ⟨by kernel_rfl, ?_⟩) | (apply And.intro)))
      all_goals first
        | exact ⟨l.length - (0 + 1), _, [], [], by omega, ⟨1, by omega, rfl, fin (by omega) (by omega) (fun k h => by simp [prevKey] at h), rfl, rfl⟩, by simp only [go_sem, ↓reduceIte, reduceCtorEq, Bool.false_eq_true, Bool.true_eq_false, Nat.reduceAdd, Nat.reduceLT, Nat.reduceEqDiff, Nat.reduceLeDiff, Nat.reduceSub, Nat.reduceMul]⟩
        | (refine hfalse fun h => ?_
           have h1 := (hiff.1 h).1
           have h2 := (hiff.1 h).2.1
           omega)
    · obtain ⟨j, rfl⟩ : ∃ j, i = j + 1 := ⟨i - 1, by omega⟩
      have hw2 : IntKind.i64.wrap (((j + 1 : Nat) : Int) - 1) = (j : Int) := by rw [wrap_small3] <;> omega
      have hjp : (0 : Int) < ((j + 1 : Nat) : Int) := by omega
      obtain ⟨y, hy⟩ : ∃ y, l[j]? = some y := ⟨_, List.getElem?_eq_getElem (by omega)⟩
      simp (config := {contextual := true}) only [go_sem, ↓reduceIte, reduceCtorEq, Bool.false_eq_true, Bool.true_eq_false, Nat.reduceAdd, Nat.reduceLT, Nat.reduceEqDiff, Nat.reduceLeDiff, Nat.reduceSub, Nat.reduceMul, hlt', hx, Pair.pv, hw, hw2, hjp, hy]
      (repeat' (first | (intro _) | (refine ⟨by kernel_rfl, ?_⟩) | (apply And.intro)))
      all_goals first
        | exact ⟨l.length - (j + 1 + 1), _, [], [], by omega, ⟨j + 1 + 1, by omega, rfl, fin (by omega) (by omega) (fun k h => by simp [prevKey, hy] at h; rw [← h]; assumption), rfl, rfl⟩, by simp only [go_sem, ↓reduceIte, reduceCtorEq, Bool.false_eq_true, Bool.true_eq_false, Nat.reduceAdd, Nat.reduceLT, Nat.reduceEqDiff, Nat.reduceLeDiff, Nat.reduceSub, Nat.reduceMul]⟩
        | (refine hfalse fun h => ?_
           have h1 := (hiff.1 h).1
           have h2 := (hiff.1 h).2.1
           have h3 := (hiff.1 h).2.2.1 y.key (by simp [prevKey, hy])
           first | omega | contradiction)
  · have hlt' : ¬ (i : Int) < (l.length : Int) := by omega
    have hd : l.drop i = [] := List.drop_eq_nil_of_le (by omega)
    rw [hd, pairsFrom] at hiff
    simp (config := {contextual := true}) only [go_sem, ↓reduceIte, reduceCtorEq, Bool.false_eq_true, Bool.true_eq_false, Nat.reduceAdd, Nat.reduceLT, Nat.reduceEqDiff, Nat.reduceLeDiff, Nat.reduceSub, Nat.reduceMul, hlt']
    simp [hiff]

def refFindP (l : List Pair) (k : List UInt8) : Int := match l.findIdx? (fun s => decide (s.key = k)) with
  | some i => i
  | none => -1

set_option maxHeartbeats 4000000 in
theorem ref10_Find (l : List Pair) (k : List UInt8) (hl : l.length ≤ 1000000) : Ct Try.prog 85 (YtjhjnphcdpjnbaaVm.ops [.row (l.map Pair.pv), .str k]) (.vals [.int .i64 (refFindP l k)]) := by
  refine Ct.of_V Try.func85 rfl (by simp [YtjhjnphcdpjnbaaVm.ops, Try.f85]) ?_
  refine V.exec 400 ?_
  simp (config := {contextual := true}) only [go_sem, ↓reduceIte, reduceCtorEq, Bool.false_eq_true, Bool.true_eq_false, Nat.reduceAdd, Nat.reduceLT, Nat.reduceEqDiff, Nat.reduceLeDiff, Nat.reduceSub, Nat.reduceMul, Try.f85]
  refine V.loop (fun m ls os => ∃ (i : Nat), i ≤ l.length ∧ m = l.length - i ∧ (∀ s ∈ l.take i, s.key ≠ k) ∧
        ls = [(0, .val (.row (l.map Pair.pv))), (1, .val (.str k)), (5, .val (.int .i64 i))] ∧ os = []) 0 l.length
      [(0, .val (.row (l.map Pair.pv))), (1, .val (.str k)), (5, .val (.int .i64 0))] [] []
      ⟨0, Nat.zero_le _, rfl, by simp, rfl, rfl⟩ (by simp only [go_sem, ↓reduceIte, reduceCtorEq, Bool.false_eq_true, Bool.true_eq_false, Nat.reduceAdd, Nat.reduceLT, Nat.reduceEqDiff, Nat.reduceLeDiff, Nat.reduceSub, Nat.reduceMul]) ?_
  rintro m ls os ⟨i, hi, rfl, hno, rfl, rfl⟩
  refine V.exec 400 ?_
  by_cases hlt : i < l.length
  · have hlt' : (i : Int) < (l.length : Int) := by omega
    obtain ⟨x, hx⟩ : ∃ x, l[i]? = some x := ⟨_, List.getElem?_eq_getElem hlt⟩
    have hxe := (List.getElem?_eq_some_iff.1 hx).2
    have hw : IntKind.i64.wrap ((i : Int) + 1) = ((i + 1 : Nat) : Int) := by rw [wrap_small3] <;> omega
    simp (config := {contextual := true}) only [go_sem, ↓reduceIte, reduceCtorEq, Bool.false_eq_true, Bool.true_eq_false, Nat.reduceAdd, Nat.reduceLT, Nat.reduceEqDiff, Nat.reduceLeDiff, Nat.reduceSub, Nat.reduceMul, hlt', hx, Pair.pv, hw]
    refine ⟨fun he => ?_, fun hne => ?_⟩
    · have hf : l.findIdx? (fun s => decide (s.key = k)) = some i := by
        rw [List.findIdx?_eq_some_iff_getElem]
        refine ⟨hlt, by rw [hxe]; simpa using he, fun j hj => ?_⟩
        have := hno l[j] (by rw [List.mem_take_iff_getElem]; exact ⟨j, by omega, rfl⟩)
        simpa using this
      have hv : refFindP l k = (i : Int) := by simp only [refFindP, hf]
      simp [hv]
    · refine ⟨l.length - (i + 1), _, [], [], by omega, ⟨i + 1, by omega, rfl, fun s hs => ?_, rfl, rfl⟩, by simp only [go_sem, ↓reduceIte, reduceCtorEq, Bool.false_eq_true, Bool.true_eq_false, Nat.reduceAdd, Nat.reduceLT, Nat.reduceEqDiff, Nat.reduceLeDiff, Nat.reduceSub, Nat.reduceMul]⟩
      rw [List.take_add_one, hx] at hs
      rcases List.mem_append.1 hs with hs | hs
      · exact hno s hs
      · simp at hs; rw [hs]; exact hne
  · have hlt' : ¬ (i : Int) < (l.length : Int) := by omega
    simp (config := {contextual := true}) only [go_sem, ↓reduceIte, reduceCtorEq, Bool.false_eq_true, Bool.true_eq_false, Nat.reduceAdd, Nat.reduceLT, Nat.reduceEqDiff, Nat.reduceLeDiff, Nat.reduceSub, Nat.reduceMul, hlt']
    rw [List.take_of_length_le (by omega)] at hno
    have hf : l.findIdx? (fun s => decide (s.key = k)) = none := by
      rw [List.findIdx?_eq_none_iff]
      intro x hx
      simpa using hno x hx
    simp only [refFindP, hf]

def lessV (l : List Pair) (k : List UInt8) : Nat := (lowP l k).length
theorem lowP_snoc (l : List Pair) (x : Pair) (k : List UInt8) : lowP (l ++ [x]) k = if slt x.key k then lowP l k ++ [x] else lowP l k := by
  unfold lowP
  rw [List.filter_append]
  by_cases h : slt x.key k <;> simp [h]
theorem highP_snoc (l : List Pair) (x : Pair) (k : List UInt8) : highP (l ++ [x]) k = if slt k x.key then highP l k ++ [x] else highP l k := by
  unfold highP
  rw [List.filter_append]
  by_cases h : slt k x.key <;> simp [h]
theorem lowP_len (l : List Pair) (k : List UInt8) : (lowP l k).length ≤ l.length := List.length_filter_le _ _
theorem highP_len (l : List Pair) (k : List UInt8) : (highP l k).length ≤ l.length := List.length_filter_le _ _
theorem take_snoc {α : Type} {l : List α} {i : Nat} {x : α} (h : l[i]? = some x) : l.take (i + 1) = l.take i ++ [x] := by
  rw [List.take_add_one, h]; rfl


/-- The last value that a key has. -/
def lastV (l : List Pair) (k : List UInt8) : List UInt8 × Bool := l.foldl (fun s p => if p.key = k then (p.value, true) else s) ([], false)
theorem lastV_snoc (l : List Pair) (x : Pair) (k : List UInt8) : lastV (l ++ [x]) k = if x.key = k then (x.value, true) else lastV l k := by
  unfold lastV
  rw [List.foldl_append]; rfl
theorem lastV_none : ∀ (l : List Pair) (k : List UInt8), (∀ p ∈ l, p.key ≠ k) → ∀ s, l.foldl (fun s p => if p.key = k then (p.value, true) else s) s = (s : List UInt8 × Bool)
  | [], _, _, _ => rfl
  | p :: r, k, h, s => by
    rw [List.foldl_cons, if_neg (h p List.mem_cons_self)]
    exact lastV_none r k (fun x hx => h x (List.mem_cons_of_mem _ hx)) s
theorem lastV_val {l : List Pair} (hs : Sorted l) (k : List UInt8) : lastV l k = (match val l k with | some v => (v, true) | none => ([], false)) := by
  unfold lastV val getL
  suffices h : ∀ (s : List UInt8 × Bool), l.foldl (fun s p => if p.key = k then (p.value, true) else s) s = (match (l.find? (fun p => decide (p.key = k))).map Pair.value with | some v => (v, true) | none => s) from h _
  induction l with
  | nil => intro s; rfl
  | cons p r ih =>
    intro s
    cases hs with
    | cons h1 h2 =>
      rw [List.foldl_cons, List.find?_cons]
      by_cases he : p.key = k
      · rw [if_pos he, lastV_none r k (fun x hx e => by
          have := h1 x hx
          rw [e, he] at this
          exact slt_irrefl _ this)]
        simp [he]
      · rw [if_neg he, ih h2]
        simp [he]
theorem oneV_last {l : List Pair} (hs : Sorted l) (x : Note) : oneV l x = lowP l x.key ++ (if (doneOne (lastV l x.key) x).2 = true then [⟨x.key, (doneOne (lastV l x.key) x).1⟩] else []) ++ highP l x.key := by
  rw [lastV_val hs]
  unfold oneV mids stepO
  cases val l x.key <;> simp only <;> split <;> simp_all
end Go.Proofs.Ytjhjnphcdpjnbaa
set_option linter.unusedVariables false
set_option linter.unusedSimpArgs false
set_option maxRecDepth 8000
namespace Go.Proofs.Ytjhjnphcdpjnbaa
open Go Go.Proofs Go.Proofs.YtjhjnphcdpjnbaaVm Go.Proofs.Ytjhjnphcdpjnbaa.Ty

set_option maxRecDepth 10000 in
set_option maxHeartbeats 16000000 in
theorem ref10_one (l : List Pair) (x : Note) (hl : l.length ≤ 400000) (hs : Sorted l) : Ct Try.prog 59 (YtjhjnphcdpjnbaaVm.ops [.row (l.map Pair.pv), x.pv]) (.vals [.row ((oneV l x).map Pair.pv)]) := by
  refine Ct.of_V Try.func59 rfl (by simp [YtjhjnphcdpjnbaaVm.ops, Try.f59]) ?_
  refine V.exec 400 ?_
  simp (config := {contextual := true}) only [go_sem, ↓reduceIte, reduceCtorEq, Bool.false_eq_true, Bool.true_eq_false, Nat.reduceAdd, Nat.reduceLT, Nat.reduceEqDiff, Nat.reduceLeDiff, Nat.reduceSub, Nat.reduceMul, Try.f59, Note.pv]
  refine V.loop (fun m ls os => ∃ (i : Nat), i ≤ l.length ∧ m = l.length - i ∧
        ls = [(0, .val (.row (l.map Pair.pv))), (3, .adr 0 0), (5, .val (.str (lastV (l.take i) x.key).1)), (6, .val (.bool (decide ((lastV (l.take i) x.key).2 = true)))), (7, .ref 1), (8, .ref 2), (9, .val (.int .i64 i))] ∧
        os = [.box true [.val (.int .i64 x.kind), .val (.str x.key), .val (.str x.value), .val (.int .u64 x.n)], .row 73 ((lowP (l.take i) x.key).map Pair.pv), .row 73 ((highP (l.take i) x.key).map Pair.pv)]) 3 l.length
      [(0, .val (.row (l.map Pair.pv))), (3, .adr 0 0), (5, .val (.str [])), (6, .val (.bool (decide (false = true)))), (7, .ref 1), (8, .ref 2), (9, .val (.int .i64 0))]
      [.box true [.val (.int .i64 x.kind), .val (.str x.key), .val (.str x.value), .val (.int .u64 x.n)], .row 73 [], .row 73 []] [some 2, none, none]
      ⟨0, Nat.zero_le _, rfl, rfl, rfl⟩ (by simp only [go_sem, ↓reduceIte, reduceCtorEq, Bool.false_eq_true, Bool.true_eq_false, Nat.reduceAdd, Nat.reduceLT, Nat.reduceEqDiff, Nat.reduceLeDiff, Nat.reduceSub, Nat.reduceMul, decide_false]; try decide) ?_
  rintro m ls os ⟨i, hi, rfl, rfl, rfl⟩
  refine V.exec 400 ?_
  by_cases hlt : i < l.length
  · have hlt' : (i : Int) < (l.length : Int) := by omega
    obtain ⟨p, hp⟩ : ∃ x, l[i]? = some x := ⟨_, List.getElem?_eq_getElem hlt⟩
    have hw : IntKind.i64.wrap ((i : Int) + 1) = ((i + 1 : Nat) : Int) := by rw [wrap_small3] <;> omega
    have h1 := lowP_snoc (l.take i) p x.key
    have h2 := highP_snoc (l.take i) p x.key
    have h3 := lastV_snoc (l.take i) p x.key
    rw [← take_snoc hp] at h1 h2 h3
    have hl1 : (lowP (l.take i) x.key).length ≤ i := Nat.le_trans (lowP_len _ _) (by simp; omega)
    have hl2 : (highP (l.take i) x.key).length ≤ i := Nat.le_trans (highP_len _ _) (by simp; omega)
    by_cases ha : slt p.key x.key
    · have hb : ¬ p.key = x.key := fun e => slt_irrefl x.key (by rw [e] at ha; exact ha)
      have hc : ¬ slt x.key p.key := slt_asymm ha
      rw [if_pos ha] at h1
      rw [if_neg hc] at h2
      rw [if_neg hb] at h3
      have hd : ¬ (slt p.key x.key ∨ p.key = x.key) ↔ False := by simp [ha]
      simp (config := {contextual := true}) only [go_sem, ↓reduceIte, reduceCtorEq, Bool.false_eq_true, Bool.true_eq_false, Nat.reduceAdd, Nat.reduceLT, Nat.reduceEqDiff, Nat.reduceLeDiff, Nat.reduceSub, Nat.reduceMul, hlt', hp, Pair.pv, hw, ha, hb, true_or]
      (repeat' (first | (intro _) | (refine ⟨by kernel_rfl, ?_⟩) | (apply And.intro)))
      all_goals first
        | omega
        | (refine ⟨l.length - (i + 1), _, _, [some 0, some 21, some 2], by omega, ⟨i + 1, by omega, rfl, rfl, rfl⟩, ?_⟩
           simp only [go_sem, ↓reduceIte, reduceCtorEq, Bool.false_eq_true, Bool.true_eq_false, Nat.reduceAdd, Nat.reduceLT, Nat.reduceEqDiff, Nat.reduceLeDiff, Nat.reduceSub, Nat.reduceMul, h1, h2, h3, List.map_append, List.map_cons, List.map_nil, Pair.pv, decide_true]
           try decide)
    · by_cases hb : p.key = x.key
      · have hc : ¬ slt x.key p.key := by rw [hb]; exact slt_irrefl _
        rw [if_neg ha] at h1
        rw [if_neg hc] at h2
        rw [if_pos hb] at h3
        have hsi := slt_irrefl x.key
        simp (config := {contextual := true}) only [go_sem, ↓reduceIte, reduceCtorEq, Bool.false_eq_true, Bool.true_eq_false, Nat.reduceAdd, Nat.reduceLT, Nat.reduceEqDiff, Nat.reduceLeDiff, Nat.reduceSub, Nat.reduceMul, hlt', hp, Pair.pv, hw, hb, hsi, or_true]
        (repeat' (first | (intro _) | (refine ⟨by kernel_rfl, ?_⟩) | (apply And.intro)))
        all_goals first
          | omega
          | (refine ⟨l.length - (i + 1), _, _, [some 0, some 1, some 2], by omega, ⟨i + 1, by omega, rfl, rfl, rfl⟩, ?_⟩
             simp only [go_sem, ↓reduceIte, reduceCtorEq, Bool.false_eq_true, Bool.true_eq_false, Nat.reduceAdd, Nat.reduceLT, Nat.reduceEqDiff, Nat.reduceLeDiff, Nat.reduceSub, Nat.reduceMul, h1, h2, h3, List.map_append, List.map_cons, List.map_nil, Pair.pv, decide_true]
             try decide)
      · have hc : slt x.key p.key := by
          rcases slt_total p.key x.key with h | h | h
          · exact absurd h ha
          · exact absurd h hb
          · exact h
        rw [if_neg ha] at h1
        rw [if_pos hc] at h2
        rw [if_neg hb] at h3
        simp (config := {contextual := true}) only [go_sem, ↓reduceIte, reduceCtorEq, Bool.false_eq_true, Bool.true_eq_false, Nat.reduceAdd, Nat.reduceLT, Nat.reduceEqDiff, Nat.reduceLeDiff, Nat.reduceSub, Nat.reduceMul, hlt', hp, Pair.pv, hw, ha, hb, or_self]
        (repeat' (first | (intro _) | (refine ⟨by kernel_rfl, ?_⟩) | (apply And.intro)))
        all_goals first
          | omega
          | (refine ⟨l.length - (i + 1), _, _, [some 0, some 1, some 37], by omega, ⟨i + 1, by omega, rfl, rfl, rfl⟩, ?_⟩
             simp only [go_sem, ↓reduceIte, reduceCtorEq, Bool.false_eq_true, Bool.true_eq_false, Nat.reduceAdd, Nat.reduceLT, Nat.reduceEqDiff, Nat.reduceLeDiff, Nat.reduceSub, Nat.reduceMul, h1, h2, h3, List.map_append, List.map_cons, List.map_nil, Pair.pv, decide_true]
             try decide)
  · have hlt' : ¬ (i : Int) < (l.length : Int) := by omega
    simp (config := {contextual := true}) only [go_sem, ↓reduceIte, reduceCtorEq, Bool.false_eq_true, Bool.true_eq_false, Nat.reduceAdd, Nat.reduceLT, Nat.reduceEqDiff, Nat.reduceLeDiff, Nat.reduceSub, Nat.reduceMul, hlt']
    rw [List.take_of_length_le (by omega)]
    have ho := oneV_last hs x
    have hl1 := lowP_len l x.key
    have hl2 := highP_len l x.key
    generalize lowP l x.key = low at *
    generalize highP l x.key = high at *
    obtain ⟨v, has, hlv⟩ : ∃ a b, lastV l x.key = (a, b) := ⟨_, _, rfl⟩
    rw [hlv] at ho ⊢
    simp only at ho ⊢
    have hfe : v = (if has = true then v else []) ∨ True := .inr trivial
    have hv0 : has = false → v = [] := fun h => by
      have := lastV_val hs x.key
      rw [hlv] at this
      cases hv : val l x.key with
      | none => rw [hv] at this; cases this; rfl
      | some w => rw [hv] at this; cases this; cases h
    have hdo := ref09_Done v has [x] (by simp)
    have hdv : doneV v has [x] = doneOne (v, has) x := by
      unfold doneV
      simp only [List.foldl_cons, List.foldl_nil]
      cases has with
      | true => rfl
      | false => rw [hv0 rfl]; rfl
    rw [hdv] at hdo
    obtain ⟨now, is', hdd⟩ : ∃ a b, doneOne (v, has) x = (a, b) := ⟨_, _, rfl⟩
    rw [hdd] at hdo ho
    simp only at hdo ho
    refine V.call rfl rfl (by simp [dOK]) ⟨84, [], by simp only [go_sem, ↓reduceIte, reduceCtorEq, Bool.false_eq_true, Bool.true_eq_false, Nat.reduceAdd, Nat.reduceLT, Nat.reduceEqDiff, Nat.reduceLeDiff, Nat.reduceSub, Nat.reduceMul], ⟨_, rfl, rfl, rfl⟩, .inl ⟨[.str v, .bool (decide (has = true)), .row ([x].map Note.pv)], _, .inl (by simp only [go_sem, ↓reduceIte, reduceCtorEq, Bool.false_eq_true, Bool.true_eq_false, Nat.reduceAdd, Nat.reduceLT, Nat.reduceEqDiff, Nat.reduceLeDiff, Nat.reduceSub, Nat.reduceMul, Note.pv, List.map_cons, List.map_nil]), hdo, .inr (.inl ⟨_, rfl, rfl, rfl⟩)⟩⟩ ?_
    refine V.exec 400 ?_
    cases is' with
    | true =>
      rw [if_pos rfl] at ho
      rw [ho]
      simp (config := {contextual := true}) only [go_sem, ↓reduceIte, reduceCtorEq, Bool.false_eq_true, Bool.true_eq_false, Nat.reduceAdd, Nat.reduceLT, Nat.reduceEqDiff, Nat.reduceLeDiff, Nat.reduceSub, Nat.reduceMul, decide_true]
      refine ⟨⟨by omega, by omega⟩, fun j _ => rfl, ⟨by simp; omega, by simp; omega⟩, by simp [Pair.pv]⟩
    | false =>
      rw [if_neg (by simp)] at ho
      rw [ho]
      simp (config := {contextual := true}) only [go_sem, ↓reduceIte, reduceCtorEq, Bool.false_eq_true, Bool.true_eq_false, Nat.reduceAdd, Nat.reduceLT, Nat.reduceEqDiff, Nat.reduceLeDiff, Nat.reduceSub, Nat.reduceMul, decide_false]
      refine ⟨fun j _ => rfl, ⟨by omega, by omega⟩, by simp⟩

set_option maxRecDepth 10000 in
set_option maxHeartbeats 16000000 in
theorem ref10_Apply (l : List Pair) (ns : List Note) (hl : l.length ≤ 200000) (hn : ns.length ≤ 200000) : Ct Try.prog 34 (YtjhjnphcdpjnbaaVm.ops [.row (l.map Pair.pv), .row (ns.map Note.pv)]) (.vals [.row ((applyV l ns).1.map Pair.pv), .int .i64 (applyV l ns).2]) := by
  refine Ct.of_V Try.func34 rfl (by simp [YtjhjnphcdpjnbaaVm.ops, Try.f34]) ?_
  refine V.exec 400 ?_
  simp (config := {contextual := true}) only [go_sem, ↓reduceIte, reduceCtorEq, Bool.false_eq_true, Bool.true_eq_false, Nat.reduceAdd, Nat.reduceLT, Nat.reduceEqDiff, Nat.reduceLeDiff, Nat.reduceSub, Nat.reduceMul, Try.f34]
  refine V.call rfl rfl (by simp [dOK]) ⟨57, [], by simp only [go_sem, ↓reduceIte, reduceCtorEq, Bool.false_eq_true, Bool.true_eq_false, Nat.reduceAdd, Nat.reduceLT, Nat.reduceEqDiff, Nat.reduceLeDiff, Nat.reduceSub, Nat.reduceMul], ⟨_, rfl, rfl, rfl⟩, .inl ⟨[.row (l.map Pair.pv)], _, .inl (by simp only [go_sem, ↓reduceIte, reduceCtorEq, Bool.false_eq_true, Bool.true_eq_false, Nat.reduceAdd, Nat.reduceLT, Nat.reduceEqDiff, Nat.reduceLeDiff, Nat.reduceSub, Nat.reduceMul]), ref10_Right l (by omega), .inl ⟨_, rfl, rfl, rfl, rfl⟩⟩⟩ ?_
  refine V.exec 400 ?_
  simp (config := {contextual := true}) only [go_sem, ↓reduceIte, reduceCtorEq, Bool.false_eq_true, Bool.true_eq_false, Nat.reduceAdd, Nat.reduceLT, Nat.reduceEqDiff, Nat.reduceLeDiff, Nat.reduceSub, Nat.reduceMul]
  refine V.call rfl rfl (by simp [dOK]) ⟨58, [], by simp only [go_sem, ↓reduceIte, reduceCtorEq, Bool.false_eq_true, Bool.true_eq_false, Nat.reduceAdd, Nat.reduceLT, Nat.reduceEqDiff, Nat.reduceLeDiff, Nat.reduceSub, Nat.reduceMul], ⟨_, rfl, rfl, rfl⟩, .inl ⟨[.row (ns.map Note.pv)], _, .inl (by simp only [go_sem, ↓reduceIte, reduceCtorEq, Bool.false_eq_true, Bool.true_eq_false, Nat.reduceAdd, Nat.reduceLT, Nat.reduceEqDiff, Nat.reduceLeDiff, Nat.reduceSub, Nat.reduceMul]), ref09_All ns (by omega), .inl ⟨_, rfl, rfl, rfl, rfl⟩⟩⟩ ?_
  refine V.exec 400 ?_
  by_cases hok : pairsOk l
  · by_cases hall : notesOk' ns
    · have hv : applyV l ns = (appV l ns, 0) := applyV_ok hok hall
      simp (config := {contextual := true}) only [go_sem, ↓reduceIte, reduceCtorEq, Bool.false_eq_true, Bool.true_eq_false, Nat.reduceAdd, Nat.reduceLT, Nat.reduceEqDiff, Nat.reduceLeDiff, Nat.reduceSub, Nat.reduceMul, hok, hall, hv]
      refine V.loop (fun m ls os => ∃ (i : Nat) (cur : List Pair), i ≤ ns.length ∧ m = ns.length - i ∧ Sorted cur ∧ cur.length ≤ l.length + i ∧ appV cur (ns.drop i) = appV l ns ∧
          ls = [(0, .val (.row (cur.map Pair.pv))), (1, .val (.row (ns.map Note.pv))), (8, .val (.int .i64 i))] ∧ os = []) 0 ns.length
        [(0, .val (.row (l.map Pair.pv))), (1, .val (.row (ns.map Note.pv))), (8, .val (.int .i64 0))] [] []
        ⟨0, l, Nat.zero_le _, rfl, ((pairsOk_iff l).1 hok).1, Nat.le_refl _, rfl, rfl, rfl⟩ (by simp only [go_sem, ↓reduceIte, reduceCtorEq, Bool.false_eq_true, Bool.true_eq_false, Nat.reduceAdd, Nat.reduceLT, Nat.reduceEqDiff, Nat.reduceLeDiff, Nat.reduceSub, Nat.reduceMul]) ?_
      rintro m ls os ⟨i, cur, hi, rfl, hcs, hcl, hca, rfl, rfl⟩
      refine V.exec 400 ?_
      by_cases hlt : i < ns.length
      · have hlt' : (i : Int) < (ns.length : Int) := by omega
        obtain ⟨x, hx⟩ : ∃ x, ns[i]? = some x := ⟨_, List.getElem?_eq_getElem hlt⟩
        have hw : IntKind.i64.wrap ((i : Int) + 1) = ((i + 1 : Nat) : Int) := by rw [wrap_small3] <;> omega
        rw [drop_of_get hx, appV, List.foldl_cons] at hca
        have hol := oneV_len hcs x
        simp (config := {contextual := true}) only [go_sem, ↓reduceIte, reduceCtorEq, Bool.false_eq_true, Bool.true_eq_false, Nat.reduceAdd, Nat.reduceLT, Nat.reduceEqDiff, Nat.reduceLeDiff, Nat.reduceSub, Nat.reduceMul, hlt', hx, Note.pv]
        refine V.call rfl rfl (by simp [dOK]) ⟨59, [], by simp only [go_sem, ↓reduceIte, reduceCtorEq, Bool.false_eq_true, Bool.true_eq_false, Nat.reduceAdd, Nat.reduceLT, Nat.reduceEqDiff, Nat.reduceLeDiff, Nat.reduceSub, Nat.reduceMul], ⟨_, rfl, rfl, rfl⟩, .inl ⟨[.row (cur.map Pair.pv), x.pv], _, .inl (by simp only [go_sem, ↓reduceIte, reduceCtorEq, Bool.false_eq_true, Bool.true_eq_false, Nat.reduceAdd, Nat.reduceLT, Nat.reduceEqDiff, Nat.reduceLeDiff, Nat.reduceSub, Nat.reduceMul, Note.pv]), ref10_one cur x (by omega) hcs, .inr (.inl ⟨_, rfl, rfl, rfl⟩)⟩⟩ ?_
        refine V.exec 400 ?_
        simp (config := {contextual := true}) only [go_sem, ↓reduceIte, reduceCtorEq, Bool.false_eq_true, Bool.true_eq_false, Nat.reduceAdd, Nat.reduceLT, Nat.reduceEqDiff, Nat.reduceLeDiff, Nat.reduceSub, Nat.reduceMul, hw]
        exact ⟨ns.length - (i + 1), _, [], [], by omega, ⟨i + 1, oneV cur x, by omega, rfl, oneV_sorted hcs x, by omega, hca, rfl, rfl⟩, by simp only [go_sem, ↓reduceIte, reduceCtorEq, Bool.false_eq_true, Bool.true_eq_false, Nat.reduceAdd, Nat.reduceLT, Nat.reduceEqDiff, Nat.reduceLeDiff, Nat.reduceSub, Nat.reduceMul]⟩
      · have hlt' : ¬ (i : Int) < (ns.length : Int) := by omega
        have hd : ns.drop i = [] := List.drop_eq_nil_of_le (by omega)
        rw [hd] at hca
        simp (config := {contextual := true}) only [go_sem, ↓reduceIte, reduceCtorEq, Bool.false_eq_true, Bool.true_eq_false, Nat.reduceAdd, Nat.reduceLT, Nat.reduceEqDiff, Nat.reduceLeDiff, Nat.reduceSub, Nat.reduceMul, hlt', ← hca]
        rfl
    · have hv : applyV l ns = (l, 1) := applyV_bad (fun h => hall h.2)
      simp (config := {contextual := true}) only [go_sem, ↓reduceIte, reduceCtorEq, Bool.false_eq_true, Bool.true_eq_false, Nat.reduceAdd, Nat.reduceLT, Nat.reduceEqDiff, Nat.reduceLeDiff, Nat.reduceSub, Nat.reduceMul, hok, hall, hv]
  · have hv : applyV l ns = (l, 1) := applyV_bad (fun h => hok h.1)
    simp (config := {contextual := true}) only [go_sem, ↓reduceIte, reduceCtorEq, Bool.false_eq_true, Bool.true_eq_false, Nat.reduceAdd, Nat.reduceLT, Nat.reduceEqDiff, Nat.reduceLeDiff, Nat.reduceSub, Nat.reduceMul, hok, hv]
end Go.Proofs.Ytjhjnphcdpjnbaa
set_option linter.unusedVariables false
set_option linter.unusedSimpArgs false
set_option maxRecDepth 8000
namespace Go.Proofs.Ytjhjnphcdpjnbaa
open Go Go.Proofs Go.Proofs.YtjhjnphcdpjnbaaVm

def Change.zero : Change := ⟨0, [], false, [], false, []⟩
/-- What a note is to pairs. -/
def ofV (l : List Pair) (seq : Int) (n : Note) : Change × Int :=
  if pairsOk l ∧ n.ok ∧ 1 ≤ seq ∧ seq ≤ 2147483647 then
    (if (getV l n.key).2 = false ∧ (doneV (getV l n.key).1 (getV l n.key).2 [n]).2 = false then (Change.zero, 3)
     else (⟨seq, n.key, (getV l n.key).2, (getV l n.key).1, (doneV (getV l n.key).1 (getV l n.key).2 [n]).2, (doneV (getV l n.key).1 (getV l n.key).2 [n]).1⟩, 0))
  else (Change.zero, 1)
def noteC (c : Change) : Note := if c.has = true then ⟨1, c.key, c.aft, 0⟩ else ⟨2, c.key, [], 0⟩
def fitC (l : List Pair) (c : Change) : Prop := getV l c.key = (c.bef, c.had)
instance instFitC (l : List Pair) (c : Change) : Decidable (fitC l c) := by unfold fitC; infer_instance
def doGo : List Pair → List Change → Option (List Pair)
  | l, [] => some l
  | l, c :: r => if c.ok ∧ fitC l c then doGo (oneV l (noteC c)) r else none
def doV (l : List Pair) (cs : List Change) : List Pair × Int := if pairsOk l then (match doGo l cs with | some q => (q, 0) | none => (l, 1)) else (l, 1)
theorem noteC_key (c : Change) : (noteC c).key = c.key := by unfold noteC; split <;> rfl
theorem noteC_ok {c : Change} (h : c.ok) : (noteC c).ok := by
  unfold noteC
  split
  · exact ⟨h.1, h.2.2.1, .inl ⟨rfl, rfl⟩⟩
  · exact ⟨h.1, by simp, .inr (.inl ⟨rfl, rfl, rfl⟩)⟩
theorem oneV_congr {l : List Pair} (hs : Sorted l) {a b : Note} (hk : a.key = b.key) (hst : stepO (val l b.key) a = stepO (val l b.key) b) : oneV l a = oneV l b := by
  refine val_ext (oneV_sorted hs a) (oneV_sorted hs b) fun k => ?_
  rw [oneV_val hs, oneV_val hs, hk]
  by_cases h : k = b.key
  · subst h; rw [if_pos rfl, if_pos rfl, hst]
  · rw [if_neg h, if_neg h]
theorem oneV_same {l : List Pair} (hs : Sorted l) {a : Note} (hst : stepO (val l a.key) a = val l a.key) : oneV l a = l := by
  refine val_ext (oneV_sorted hs a) hs fun k => ?_
  rw [oneV_val hs]
  by_cases h : k = a.key
  · subst h; rw [if_pos rfl, hst]
  · rw [if_neg h]
/-- What is done to what there is, as a step. -/
theorem done_step {l : List Pair} (h : pairsOk l) (n : Note) :
    stepO (val l n.key) n = if (doneV (getV l n.key).1 (getV l n.key).2 [n]).2 = true then some (doneV (getV l n.key).1 (getV l n.key).2 [n]).1 else none := by
  rw [getV_val h]
  unfold stepO
  cases val l n.key <;> rfl
theorem done_none (n : Note) {v : List UInt8} {w : Bool} (h : (doneV v w [n]).2 = false) (hw : w = false → v = []) : (doneV v w [n]).1 = [] := by
  unfold doneV at *
  simp only [List.foldl_cons, List.foldl_nil] at *
  unfold doneOne at *
  split at h
  · cases h
  · rename_i h1
    split at h
    · rename_i h2; rw [if_neg h1, if_pos h2]
    · rename_i h2
      split at h
      · cases h
      · rename_i h3
        rw [if_neg h1, if_neg h2, if_neg h3]
        cases w with
        | true => cases h
        | false => rfl
theorem getV_none {l : List Pair} (h : pairsOk l) (k : List UInt8) (hw : (getV l k).2 = false) : (getV l k).1 = [] := by
  rw [getV_val h] at *
  cases hv : val l k with
  | none => rfl
  | some v => rw [hv] at hw; cases hw
theorem getV_short {l : List Pair} (h : pairsOk l) (k : List UInt8) : (getV l k).1.length ≤ 32 := by
  rw [getV_val h]
  cases hv : val l k with
  | none => simp
  | some v =>
    have hp := (pairsOk_iff l).1 h
    have := (val_iff hp.1).1 hv
    exact (hp.2 _ this).2
theorem done_short (v : List UInt8) (w : Bool) {n : Note} (hn : n.ok) : (doneV v w [n]).1.length ≤ 32 := by
  unfold doneV
  simp only [List.foldl_cons, List.foldl_nil]
  unfold doneOne
  have := hn.2.1
  rcases hn.2.2 with h | h | h <;> simp [h.1]
  · exact this
  · rw [beB_len]; decide
/-- A change that is made of a note is one that may be, fits, and does what the note does. -/
theorem ofV_does {l : List Pair} {seq : Int} {n : Note} (h : (ofV l seq n).2 = 0) :
    (ofV l seq n).1.ok ∧ fitC l (ofV l seq n).1 ∧ oneV l (noteC (ofV l seq n).1) = oneV l n ∧ doV l [(ofV l seq n).1] = (oneV l n, 0) ∧ (ofV l seq n).1.key = n.key ∧ (ofV l seq n).1.seq = seq := by
  unfold ofV at *
  split at h
  · rename_i hc
    rw [if_pos hc]
    split at h
    · cases h
    · rename_i hb
      rw [if_neg hb]
      obtain ⟨h1, h2, h3, h4⟩ := hc
      have hs := ((pairsOk_iff l).1 h1).1
      have e1 : (⟨seq, n.key, (getV l n.key).2, (getV l n.key).1, (doneV (getV l n.key).1 (getV l n.key).2 [n]).2, (doneV (getV l n.key).1 (getV l n.key).2 [n]).1⟩ : Change).ok := by
        refine ⟨h2.1, getV_short h1 _, done_short _ _ h2, h3, h4, ?_, ?_, ?_⟩
        · show (getV l n.key).2 = true ∨ (getV l n.key).1 = []
          cases hw : (getV l n.key).2 with
          | true => exact .inl rfl
          | false => exact .inr (getV_none h1 _ hw)
        · show (doneV (getV l n.key).1 (getV l n.key).2 [n]).2 = true ∨ (doneV (getV l n.key).1 (getV l n.key).2 [n]).1 = []
          cases hw : (doneV (getV l n.key).1 (getV l n.key).2 [n]).2 with
          | true => exact .inl rfl
          | false => exact .inr (done_none n hw (getV_none h1 _))
        · show (getV l n.key).2 = true ∨ (doneV (getV l n.key).1 (getV l n.key).2 [n]).2 = true
          cases hw : (getV l n.key).2 with
          | true => exact .inl rfl
          | false => cases hv : (doneV (getV l n.key).1 (getV l n.key).2 [n]).2 with
            | true => exact .inr (by rw [hw] at hv; exact hv)
            | false => rw [hw] at hv hb; exact absurd ⟨rfl, hv⟩ hb
      have e2 : fitC l ⟨seq, n.key, (getV l n.key).2, (getV l n.key).1, (doneV (getV l n.key).1 (getV l n.key).2 [n]).2, (doneV (getV l n.key).1 (getV l n.key).2 [n]).1⟩ := rfl
      have e3 : oneV l (noteC ⟨seq, n.key, (getV l n.key).2, (getV l n.key).1, (doneV (getV l n.key).1 (getV l n.key).2 [n]).2, (doneV (getV l n.key).1 (getV l n.key).2 [n]).1⟩) = oneV l n := by
        refine oneV_congr hs (noteC_key _) ?_
        rw [done_step h1 n]
        unfold noteC
        split
        · exact stepO_put _ rfl
        · exact stepO_del _ rfl
      refine ⟨e1, e2, e3, ?_, rfl, rfl⟩
      unfold doV doGo doGo
      rw [if_pos h1, if_pos ⟨e1, e2⟩, e3]
  · cases h
/-- No change: the pairs stay. -/
theorem ofV_none {l : List Pair} {seq : Int} {n : Note} (h1 : pairsOk l) (h2 : n.ok) (h3 : 1 ≤ seq) (h4 : seq ≤ 2147483647) (h : (ofV l seq n).2 ≠ 0) : oneV l n = l ∧ ofV l seq n = (Change.zero, 3) := by
  unfold ofV at *
  rw [if_pos ⟨h1, h2, h3, h4⟩] at *
  split at h
  · rename_i hb
    rw [if_pos hb]
    refine ⟨oneV_same ((pairsOk_iff l).1 h1).1 ?_, rfl⟩
    rw [done_step h1 n, hb.2, if_neg (by decide)]
    have := hb.1
    rw [getV_val h1] at this
    cases hv : val l n.key with
    | none => rfl
    | some v => rw [hv] at this; cases this
  · exact absurd rfl h
theorem oneV_pairsOk {l : List Pair} (h : pairsOk l) {x : Note} (hx : x.ok) : pairsOk (oneV l x) := oneV_ok h hx
/-- A batch, note by note. -/
def runGo : List Pair → Int → List Change → List Note → List Change × List Pair
  | p, _, out, [] => (out, p)
  | p, seq, out, n :: r => if (ofV p (seq + out.length + 1) n).2 = 0 then runGo (oneV p n) seq (out ++ [(ofV p (seq + out.length + 1) n).1]) r else runGo p seq out r
def notesAll (ns : List Note) : Prop := ∀ x ∈ ns, x.ok
def batchOk (ns : List Note) : Prop := ns.length ≤ 8 ∧ notesAll ns
instance instNotesAll (ns : List Note) : Decidable (notesAll ns) := by unfold notesAll; infer_instance
instance instBatchOk (ns : List Note) : Decidable (batchOk ns) := by unfold batchOk; infer_instance
def runV (l : List Pair) (seq : Int) (ns : List Note) : List Change × List Pair × Int :=
  if batchOk ns ∧ pairsOk l ∧ 0 ≤ seq ∧ seq ≤ 2147483647 then (if 2147483647 - (ns.length : Int) < seq then ([], l, 5) else ((runGo l seq [] ns).1, (runGo l seq [] ns).2, 0)) else ([], l, 1)
end Go.Proofs.Ytjhjnphcdpjnbaa
set_option linter.unusedVariables false
set_option linter.unusedSimpArgs false
set_option maxRecDepth 8000
namespace Go.Proofs.Ytjhjnphcdpjnbaa
open Go Go.Proofs Go.Proofs.YtjhjnphcdpjnbaaVm Go.Proofs.Ytjhjnphcdpjnbaa.Ty

def sideV (st : List UInt8 × Bool) : PV := .agg [.bool (decide (st.2 = true)), .str st.1]

theorem change_of (l : List Pair) (k : List UInt8) (hl : l.length ≤ 1000000) : Ct Try.prog 55 (YtjhjnphcdpjnbaaVm.ops [.row (l.map Pair.pv), .str k]) (.vals [sideV (getV l k)]) := by
  refine Ct.of_V Try.func55 rfl (by simp [YtjhjnphcdpjnbaaVm.ops, Try.f55]) ?_
  refine V.exec 400 ?_
  simp (config := {contextual := true}) only [go_sem, ↓reduceIte, reduceCtorEq, Bool.false_eq_true, Bool.true_eq_false, Nat.reduceAdd, Nat.reduceLT, Nat.reduceEqDiff, Nat.reduceLeDiff, Nat.reduceSub, Nat.reduceMul, Try.f55]
  refine V.call rfl rfl (by simp [dOK]) ⟨82, [], by simp only [go_sem, ↓reduceIte, reduceCtorEq, Bool.false_eq_true, Bool.true_eq_false, Nat.reduceAdd, Nat.reduceLT, Nat.reduceEqDiff, Nat.reduceLeDiff, Nat.reduceSub, Nat.reduceMul], ⟨_, rfl, rfl, rfl⟩, .inl ⟨[.row (l.map Pair.pv), .str k], _, .inl (by simp only [go_sem, ↓reduceIte, reduceCtorEq, Bool.false_eq_true, Bool.true_eq_false, Nat.reduceAdd, Nat.reduceLT, Nat.reduceEqDiff, Nat.reduceLeDiff, Nat.reduceSub, Nat.reduceMul]), leaf_Get l k hl, .inr (.inl ⟨_, rfl, rfl, rfl⟩)⟩⟩ ?_
  refine V.exec 400 ?_
  simp (config := {contextual := true}) only [go_sem, ↓reduceIte, reduceCtorEq, Bool.false_eq_true, Bool.true_eq_false, Nat.reduceAdd, Nat.reduceLT, Nat.reduceEqDiff, Nat.reduceLeDiff, Nat.reduceSub, Nat.reduceMul, sideV]

theorem change_ahead (c : Change) : Ct Try.prog 56 (YtjhjnphcdpjnbaaVm.ops [c.pv]) (.vals [sideV (c.bef, c.had)]) := by
  refine Ct.of_V Try.func56 rfl (by simp [YtjhjnphcdpjnbaaVm.ops, Try.f56]) ?_
  refine V.exec 400 ?_
  simp (config := {contextual := true}) only [go_sem, ↓reduceIte, reduceCtorEq, Bool.false_eq_true, Bool.true_eq_false, Nat.reduceAdd, Nat.reduceLT, Nat.reduceEqDiff, Nat.reduceLeDiff, Nat.reduceSub, Nat.reduceMul, Try.f56, Change.pv, sideV]

def madeV (seq : Int) (key : List UInt8) (a b : List UInt8 × Bool) : Change × Int :=
  if a.2 = false ∧ b.2 = false then (Change.zero, 3) else (⟨seq, key, a.2, a.1, b.2, b.1⟩, 0)

set_option maxHeartbeats 4000000 in
theorem change_made (seq : Int) (key : List UInt8) (a b : List UInt8 × Bool) : Ct Try.prog 87 (YtjhjnphcdpjnbaaVm.ops [.int .i64 seq, .str key, sideV a, sideV b]) (.vals [(madeV seq key a b).1.pv, .int .i64 (madeV seq key a b).2]) := by
  obtain ⟨av, ah⟩ := a
  obtain ⟨bv, bh⟩ := b
  cases ah with
  | true =>
    have e : madeV seq key (av, true) (bv, bh) = (⟨seq, key, true, av, bh, bv⟩, 0) := rfl
    rw [e]
    refine Ct.of_V Try.func87 rfl (by simp [YtjhjnphcdpjnbaaVm.ops, Try.f87]) ?_
    refine V.exec 400 ?_
    simp (config := {contextual := true}) only [go_sem, ↓reduceIte, reduceCtorEq, Bool.false_eq_true, Bool.true_eq_false, Nat.reduceAdd, Nat.reduceLT, Nat.reduceEqDiff, Nat.reduceLeDiff, Nat.reduceSub, Nat.reduceMul, Try.f87, sideV, Change.pv, decide_true]
  | false =>
    cases bh with
    | true =>
      have e : madeV seq key (av, false) (bv, true) = (⟨seq, key, false, av, true, bv⟩, 0) := rfl
      rw [e]
      refine Ct.of_V Try.func87 rfl (by simp [YtjhjnphcdpjnbaaVm.ops, Try.f87]) ?_
      refine V.exec 400 ?_
      simp (config := {contextual := true}) only [go_sem, ↓reduceIte, reduceCtorEq, Bool.false_eq_true, Bool.true_eq_false, Nat.reduceAdd, Nat.reduceLT, Nat.reduceEqDiff, Nat.reduceLeDiff, Nat.reduceSub, Nat.reduceMul, Try.f87, sideV, Change.pv, decide_true, decide_false]
    | false =>
      have e : madeV seq key (av, false) (bv, false) = (Change.zero, 3) := rfl
      rw [e]
      refine Ct.of_V Try.func87 rfl (by simp [YtjhjnphcdpjnbaaVm.ops, Try.f87]) ?_
      refine V.exec 400 ?_
      simp (config := {contextual := true}) only [go_sem, ↓reduceIte, reduceCtorEq, Bool.false_eq_true, Bool.true_eq_false, Nat.reduceAdd, Nat.reduceLT, Nat.reduceEqDiff, Nat.reduceLeDiff, Nat.reduceSub, Nat.reduceMul, Try.f87, sideV, Change.pv, Change.zero, decide_true, decide_false]

set_option maxRecDepth 4000 in
set_option maxHeartbeats 8000000 in
theorem change_Of (l : List Pair) (seq : Int) (n : Note) (hl : l.length ≤ 1000000) : Ct Try.prog 64 (YtjhjnphcdpjnbaaVm.ops [.row (l.map Pair.pv), .int .i64 seq, n.pv]) (.vals [(ofV l seq n).1.pv, .int .i64 (ofV l seq n).2]) := by
  have hbad : ¬ (pairsOk l ∧ n.ok ∧ 1 ≤ seq ∧ seq ≤ 2147483647) → ofV l seq n = (Change.zero, 1) := fun h => by unfold ofV; rw [if_neg h]
  refine Ct.of_V Try.func64 rfl (by simp [YtjhjnphcdpjnbaaVm.ops, Try.f64]) ?_
  refine V.exec 400 ?_
  simp (config := {contextual := true}) only [go_sem, ↓reduceIte, reduceCtorEq, Bool.false_eq_true, Bool.true_eq_false, Nat.reduceAdd, Nat.reduceLT, Nat.reduceEqDiff, Nat.reduceLeDiff, Nat.reduceSub, Nat.reduceMul, Try.f64, Note.pv]
  refine V.call rfl rfl (by simp [dOK]) ⟨46, [], by simp only [go_sem, ↓reduceIte, reduceCtorEq, Bool.false_eq_true, Bool.true_eq_false, Nat.reduceAdd, Nat.reduceLT, Nat.reduceEqDiff, Nat.reduceLeDiff, Nat.reduceSub, Nat.reduceMul], ⟨_, rfl, rfl, rfl⟩, .inl ⟨[.row (l.map Pair.pv)], _, .inl (by simp only [go_sem, ↓reduceIte, reduceCtorEq, Bool.false_eq_true, Bool.true_eq_false, Nat.reduceAdd, Nat.reduceLT, Nat.reduceEqDiff, Nat.reduceLeDiff, Nat.reduceSub, Nat.reduceMul]), leaf_Right l hl, .inl ⟨_, rfl, rfl, rfl, rfl⟩⟩⟩ ?_
  refine V.exec 400 ?_
  by_cases hok : pairsOk l
  · simp (config := {contextual := true}) only [go_sem, ↓reduceIte, reduceCtorEq, Bool.false_eq_true, Bool.true_eq_false, Nat.reduceAdd, Nat.reduceLT, Nat.reduceEqDiff, Nat.reduceLeDiff, Nat.reduceSub, Nat.reduceMul, hok]
    refine V.call rfl rfl (by simp [dOK]) ⟨49, [], by simp only [go_sem, ↓reduceIte, reduceCtorEq, Bool.false_eq_true, Bool.true_eq_false, Nat.reduceAdd, Nat.reduceLT, Nat.reduceEqDiff, Nat.reduceLeDiff, Nat.reduceSub, Nat.reduceMul], ⟨_, rfl, rfl, rfl⟩, .inl ⟨[n.pv], _, .inl (by simp only [go_sem, ↓reduceIte, reduceCtorEq, Bool.false_eq_true, Bool.true_eq_false, Nat.reduceAdd, Nat.reduceLT, Nat.reduceEqDiff, Nat.reduceLeDiff, Nat.reduceSub, Nat.reduceMul, Note.pv]), note_Right n, .inl ⟨_, rfl, rfl, rfl, rfl⟩⟩⟩ ?_
    refine V.exec 400 ?_
    by_cases hn : n.ok
    · by_cases h1 : seq < 1
      · have hv := hbad fun h => by omega
        simp (config := {contextual := true}) only [go_sem, ↓reduceIte, reduceCtorEq, Bool.false_eq_true, Bool.true_eq_false, Nat.reduceAdd, Nat.reduceLT, Nat.reduceEqDiff, Nat.reduceLeDiff, Nat.reduceSub, Nat.reduceMul, hn, h1, hv, Change.zero, Change.pv, decide_false]
      · by_cases h2 : 2147483647 < seq
        · have hv := hbad fun h => by omega
          simp (config := {contextual := true}) only [go_sem, ↓reduceIte, reduceCtorEq, Bool.false_eq_true, Bool.true_eq_false, Nat.reduceAdd, Nat.reduceLT, Nat.reduceEqDiff, Nat.reduceLeDiff, Nat.reduceSub, Nat.reduceMul, hn, h1, h2, hv, Change.zero, Change.pv, decide_false]
        · have hv : ofV l seq n = madeV seq n.key (getV l n.key) (doneV (getV l n.key).1 (getV l n.key).2 [n]) := by
            unfold ofV madeV; rw [if_pos ⟨hok, hn, by omega, by omega⟩]
          have cd := note_Done (getV l n.key).1 (getV l n.key).2 [n] (by simp)
          have cm := change_made seq n.key (getV l n.key) (doneV (getV l n.key).1 (getV l n.key).2 [n])
          have co := change_of l n.key hl
          rw [hv]
          obtain ⟨gv, gh, hG⟩ : ∃ a b, getV l n.key = (a, b) := ⟨_, _, rfl⟩
          rw [hG] at cd cm co ⊢
          simp only at cd cm co ⊢
          obtain ⟨dv, dh, hD⟩ : ∃ a b, doneV gv gh [n] = (a, b) := ⟨_, _, rfl⟩
          rw [hD] at cd cm ⊢
          simp only at cd cm
          generalize madeV seq n.key (gv, gh) (dv, dh) = M at *
          simp (config := {contextual := true}) only [go_sem, ↓reduceIte, reduceCtorEq, Bool.false_eq_true, Bool.true_eq_false, Nat.reduceAdd, Nat.reduceLT, Nat.reduceEqDiff, Nat.reduceLeDiff, Nat.reduceSub, Nat.reduceMul, hn, h1, h2]
          refine V.call rfl rfl (by simp [dOK]) ⟨55, [], by simp only [go_sem, ↓reduceIte, reduceCtorEq, Bool.false_eq_true, Bool.true_eq_false, Nat.reduceAdd, Nat.reduceLT, Nat.reduceEqDiff, Nat.reduceLeDiff, Nat.reduceSub, Nat.reduceMul], ⟨_, rfl, rfl, rfl⟩, .inl ⟨[.row (l.map Pair.pv), .str n.key], _, .inl (by simp only [go_sem, ↓reduceIte, reduceCtorEq, Bool.false_eq_true, Bool.true_eq_false, Nat.reduceAdd, Nat.reduceLT, Nat.reduceEqDiff, Nat.reduceLeDiff, Nat.reduceSub, Nat.reduceMul, sideV]), co, .inr (.inl ⟨_, rfl, rfl, rfl⟩)⟩⟩ ?_
          refine V.exec 400 ?_
          simp (config := {contextual := true}) only [go_sem, ↓reduceIte, reduceCtorEq, Bool.false_eq_true, Bool.true_eq_false, Nat.reduceAdd, Nat.reduceLT, Nat.reduceEqDiff, Nat.reduceLeDiff, Nat.reduceSub, Nat.reduceMul, sideV, Note.pv]
          refine V.call rfl rfl (by simp [dOK]) ⟨51, [], by simp only [go_sem, ↓reduceIte, reduceCtorEq, Bool.false_eq_true, Bool.true_eq_false, Nat.reduceAdd, Nat.reduceLT, Nat.reduceEqDiff, Nat.reduceLeDiff, Nat.reduceSub, Nat.reduceMul], ⟨_, rfl, rfl, rfl⟩, .inl ⟨[.str gv, .bool (decide (gh = true)), .row ([n].map Note.pv)], _, .inl (by simp only [go_sem, ↓reduceIte, reduceCtorEq, Bool.false_eq_true, Bool.true_eq_false, Nat.reduceAdd, Nat.reduceLT, Nat.reduceEqDiff, Nat.reduceLeDiff, Nat.reduceSub, Nat.reduceMul, Note.pv, List.map_cons, List.map_nil]), cd, .inr (.inl ⟨_, rfl, rfl, rfl⟩)⟩⟩ ?_
          refine V.exec 400 ?_
          simp (config := {contextual := true}) only [go_sem, ↓reduceIte, reduceCtorEq, Bool.false_eq_true, Bool.true_eq_false, Nat.reduceAdd, Nat.reduceLT, Nat.reduceEqDiff, Nat.reduceLeDiff, Nat.reduceSub, Nat.reduceMul, sideV, Note.pv]
          refine V.call rfl rfl (by simp [dOK]) ⟨87, [], by simp only [go_sem, ↓reduceIte, reduceCtorEq, Bool.false_eq_true, Bool.true_eq_false, Nat.reduceAdd, Nat.reduceLT, Nat.reduceEqDiff, Nat.reduceLeDiff, Nat.reduceSub, Nat.reduceMul], ⟨_, rfl, rfl, rfl⟩, .inl ⟨[.int .i64 seq, .str n.key, sideV (gv, gh), sideV (dv, dh)], _, .inl (by simp only [go_sem, ↓reduceIte, reduceCtorEq, Bool.false_eq_true, Bool.true_eq_false, Nat.reduceAdd, Nat.reduceLT, Nat.reduceEqDiff, Nat.reduceLeDiff, Nat.reduceSub, Nat.reduceMul, sideV]), cm, .inr (.inl ⟨_, rfl, rfl, rfl⟩)⟩⟩ ?_
          refine V.exec 400 ?_
          simp (config := {contextual := true}) only [go_sem, ↓reduceIte, reduceCtorEq, Bool.false_eq_true, Bool.true_eq_false, Nat.reduceAdd, Nat.reduceLT, Nat.reduceEqDiff, Nat.reduceLeDiff, Nat.reduceSub, Nat.reduceMul, Change.pv]
    · have hv := hbad fun h => hn h.2.1
      simp (config := {contextual := true}) only [go_sem, ↓reduceIte, reduceCtorEq, Bool.false_eq_true, Bool.true_eq_false, Nat.reduceAdd, Nat.reduceLT, Nat.reduceEqDiff, Nat.reduceLeDiff, Nat.reduceSub, Nat.reduceMul, hn, hv, Change.zero, Change.pv, decide_false]
  · have hv := hbad fun h => hok h.1
    simp (config := {contextual := true}) only [go_sem, ↓reduceIte, reduceCtorEq, Bool.false_eq_true, Bool.true_eq_false, Nat.reduceAdd, Nat.reduceLT, Nat.reduceEqDiff, Nat.reduceLeDiff, Nat.reduceSub, Nat.reduceMul, hok, hv, Change.zero, Change.pv, decide_false]
end Go.Proofs.Ytjhjnphcdpjnbaa
set_option linter.unusedVariables false
set_option linter.unusedSimpArgs false
set_option maxRecDepth 8000
namespace Go.Proofs.Ytjhjnphcdpjnbaa
open Go Go.Proofs Go.Proofs.YtjhjnphcdpjnbaaVm Go.Proofs.Ytjhjnphcdpjnbaa.Ty

theorem eqSide : EqT Try.prog 104 [.bool, .str] := EqT.of (by kernel_rfl) (by kernel_rfl) (by kernel_rfl)
theorem side_inj (a b : List UInt8) (p q : Bool) : (PV.agg [.bool (decide (p = true)), .str a] = PV.agg [.bool (decide (q = true)), .str b]) = (a = b ∧ p = q) := by
  cases p <;> cases q <;> simp

set_option maxRecDepth 10000 in
set_option maxHeartbeats 16000000 in
theorem change_Do (l : List Pair) (cs : List Change) (hl : l.length ≤ 200000) (hn : cs.length ≤ 200000) : Ct Try.prog 33 (YtjhjnphcdpjnbaaVm.ops [.row (l.map Pair.pv), .row (cs.map Change.pv)]) (.vals [.row ((doV l cs).1.map Pair.pv), .int .i64 (doV l cs).2]) := by
  have h2 : ∀ (l : List Pair), ∀ x ∈ l.map Pair.pv, x.cells.length = 2 := fun l x hx => by
    obtain ⟨s, _, rfl⟩ := List.mem_map.1 hx
    rfl
  have ccl := (ClonePair (l.map Pair.pv) (h2 l) (by simp; omega)).forget
  refine Ct.of_V Try.func33 rfl (by simp [YtjhjnphcdpjnbaaVm.ops, Try.f33]) ?_
  refine V.exec 400 ?_
  simp (config := {contextual := true}) only [go_sem, ↓reduceIte, reduceCtorEq, Bool.false_eq_true, Bool.true_eq_false, Nat.reduceAdd, Nat.reduceLT, Nat.reduceEqDiff, Nat.reduceLeDiff, Nat.reduceSub, Nat.reduceMul, Try.f33]
  refine V.call rfl rfl (by simp [dOK]) ⟨45, [], by simp only [go_sem, ↓reduceIte, reduceCtorEq, Bool.false_eq_true, Bool.true_eq_false, Nat.reduceAdd, Nat.reduceLT, Nat.reduceEqDiff, Nat.reduceLeDiff, Nat.reduceSub, Nat.reduceMul], ⟨_, rfl, rfl, rfl⟩, .inl ⟨[.row (l.map Pair.pv)], _, .inl (by simp only [go_sem, ↓reduceIte, reduceCtorEq, Bool.false_eq_true, Bool.true_eq_false, Nat.reduceAdd, Nat.reduceLT, Nat.reduceEqDiff, Nat.reduceLeDiff, Nat.reduceSub, Nat.reduceMul]), ccl, .inr (.inl ⟨_, rfl, rfl, rfl⟩)⟩⟩ ?_
  refine V.exec 400 ?_
  simp (config := {contextual := true}) only [go_sem, ↓reduceIte, reduceCtorEq, Bool.false_eq_true, Bool.true_eq_false, Nat.reduceAdd, Nat.reduceLT, Nat.reduceEqDiff, Nat.reduceLeDiff, Nat.reduceSub, Nat.reduceMul]
  refine V.call rfl rfl (by simp [dOK]) ⟨46, [], by simp only [go_sem, ↓reduceIte, reduceCtorEq, Bool.false_eq_true, Bool.true_eq_false, Nat.reduceAdd, Nat.reduceLT, Nat.reduceEqDiff, Nat.reduceLeDiff, Nat.reduceSub, Nat.reduceMul], ⟨_, rfl, rfl, rfl⟩, .inl ⟨[.row (l.map Pair.pv)], _, .inl (by simp only [go_sem, ↓reduceIte, reduceCtorEq, Bool.false_eq_true, Bool.true_eq_false, Nat.reduceAdd, Nat.reduceLT, Nat.reduceEqDiff, Nat.reduceLeDiff, Nat.reduceSub, Nat.reduceMul]), leaf_Right l (by omega), .inl ⟨_, rfl, rfl, rfl, rfl⟩⟩⟩ ?_
  refine V.exec 400 ?_
  by_cases hok : pairsOk l
  · simp (config := {contextual := true}) only [go_sem, ↓reduceIte, reduceCtorEq, Bool.false_eq_true, Bool.true_eq_false, Nat.reduceAdd, Nat.reduceLT, Nat.reduceEqDiff, Nat.reduceLeDiff, Nat.reduceSub, Nat.reduceMul, hok]
    refine V.loop (fun m ls os => ∃ (i : Nat) (cur : List Pair), i ≤ cs.length ∧ m = cs.length - i ∧ pairsOk cur ∧ cur.length ≤ l.length + i ∧ doGo cur (cs.drop i) = doGo l cs ∧
        ls = [(0, .val (.row (l.map Pair.pv))), (6, .val (.row (cur.map Pair.pv))), (16, .val (.row (cs.map Change.pv))), (17, .val (.int .i64 cs.length)), (18, .val (.int .i64 i))] ∧ os = []) 0 cs.length
      [(0, .val (.row (l.map Pair.pv))), (6, .val (.row (l.map Pair.pv))), (16, .val (.row (cs.map Change.pv))), (17, .val (.int .i64 cs.length)), (18, .val (.int .i64 0))] [] []
      ⟨0, l, Nat.zero_le _, rfl, hok, Nat.le_refl _, rfl, rfl, rfl⟩ (by simp only [go_sem, ↓reduceIte, reduceCtorEq, Bool.false_eq_true, Bool.true_eq_false, Nat.reduceAdd, Nat.reduceLT, Nat.reduceEqDiff, Nat.reduceLeDiff, Nat.reduceSub, Nat.reduceMul]) ?_
    rintro m ls os ⟨i, cur, hi, rfl, hco, hcl, hca, rfl, rfl⟩
    refine V.exec 400 ?_
    by_cases hlt : i < cs.length
    · have hlt' : (i : Int) < (cs.length : Int) := by omega
      obtain ⟨x, hx⟩ : ∃ x, cs[i]? = some x := ⟨_, List.getElem?_eq_getElem hlt⟩
      have hw : IntKind.i64.wrap ((i : Int) + 1) = ((i + 1 : Nat) : Int) := by rw [wrap_small3] <;> omega
      rw [drop_of_get hx, doGo] at hca
      have hbad : ¬ (x.ok ∧ fitC cur x) → doV l cs = (l, 1) := fun h => by
        rw [if_neg h] at hca
        unfold doV; rw [if_pos hok, ← hca]
      have hgood := fun h : x.ok ∧ fitC cur x => if_pos h ▸ hca
      simp (config := {contextual := true}) only [go_sem, ↓reduceIte, reduceCtorEq, Bool.false_eq_true, Bool.true_eq_false, Nat.reduceAdd, Nat.reduceLT, Nat.reduceEqDiff, Nat.reduceLeDiff, Nat.reduceSub, Nat.reduceMul, hlt', hx, Change.pv]
      refine DV.call [] [] (by simp only [go_sem, ↓reduceIte, reduceCtorEq, Bool.false_eq_true, Bool.true_eq_false, Nat.reduceAdd, Nat.reduceLT, Nat.reduceEqDiff, Nat.reduceLeDiff, Nat.reduceSub, Nat.reduceMul, Change.pv]) (by simp [dOK]) ⟨54, [], by simp only [go_sem, ↓reduceIte, reduceCtorEq, Bool.false_eq_true, Bool.true_eq_false, Nat.reduceAdd, Nat.reduceLT, Nat.reduceEqDiff, Nat.reduceLeDiff, Nat.reduceSub, Nat.reduceMul, Change.pv], ⟨_, rfl, rfl, rfl⟩, .inl ⟨[x.pv], _, .inl (by simp only [go_sem, ↓reduceIte, reduceCtorEq, Bool.false_eq_true, Bool.true_eq_false, Nat.reduceAdd, Nat.reduceLT, Nat.reduceEqDiff, Nat.reduceLeDiff, Nat.reduceSub, Nat.reduceMul, Change.pv]), flat_May x, .inl ⟨_, rfl, rfl, rfl, rfl⟩⟩⟩ (by simp only [go_sem, ↓reduceIte, reduceCtorEq, Bool.false_eq_true, Bool.true_eq_false, Nat.reduceAdd, Nat.reduceLT, Nat.reduceEqDiff, Nat.reduceLeDiff, Nat.reduceSub, Nat.reduceMul, Change.pv]) (by simp only [go_sem, ↓reduceIte, reduceCtorEq, Bool.false_eq_true, Bool.true_eq_false, Nat.reduceAdd, Nat.reduceLT, Nat.reduceEqDiff, Nat.reduceLeDiff, Nat.reduceSub, Nat.reduceMul, Change.pv]) (by simp only [go_sem, ↓reduceIte, reduceCtorEq, Bool.false_eq_true, Bool.true_eq_false, Nat.reduceAdd, Nat.reduceLT, Nat.reduceEqDiff, Nat.reduceLeDiff, Nat.reduceSub, Nat.reduceMul, Change.pv]) (by simp) ?_
      refine DV.exec 400 ?_
      by_cases hm : x.ok
      · have co := change_of cur x.key (by omega)
        obtain ⟨gv, gh, hG⟩ : ∃ a b, getV cur x.key = (a, b) := ⟨_, _, rfl⟩
        rw [hG] at co
        simp (config := {contextual := true}) only [go_sem, ↓reduceIte, reduceCtorEq, Bool.false_eq_true, Bool.true_eq_false, Nat.reduceAdd, Nat.reduceLT, Nat.reduceEqDiff, Nat.reduceLeDiff, Nat.reduceSub, Nat.reduceMul, hm, Change.pv]
        refine DV.call [] [] (by simp only [go_sem, ↓reduceIte, reduceCtorEq, Bool.false_eq_true, Bool.true_eq_false, Nat.reduceAdd, Nat.reduceLT, Nat.reduceEqDiff, Nat.reduceLeDiff, Nat.reduceSub, Nat.reduceMul, sideV]) (by simp [dOK]) ⟨55, [], by simp only [go_sem, ↓reduceIte, reduceCtorEq, Bool.false_eq_true, Bool.true_eq_false, Nat.reduceAdd, Nat.reduceLT, Nat.reduceEqDiff, Nat.reduceLeDiff, Nat.reduceSub, Nat.reduceMul, sideV], ⟨_, rfl, rfl, rfl⟩, .inl ⟨[.row (cur.map Pair.pv), .str x.key], _, .inl (by simp only [go_sem, ↓reduceIte, reduceCtorEq, Bool.false_eq_true, Bool.true_eq_false, Nat.reduceAdd, Nat.reduceLT, Nat.reduceEqDiff, Nat.reduceLeDiff, Nat.reduceSub, Nat.reduceMul, sideV]), co, .inr (.inl ⟨_, rfl, rfl, rfl⟩)⟩⟩ (by simp only [go_sem, ↓reduceIte, reduceCtorEq, Bool.false_eq_true, Bool.true_eq_false, Nat.reduceAdd, Nat.reduceLT, Nat.reduceEqDiff, Nat.reduceLeDiff, Nat.reduceSub, Nat.reduceMul, sideV]) (by simp only [go_sem, ↓reduceIte, reduceCtorEq, Bool.false_eq_true, Bool.true_eq_false, Nat.reduceAdd, Nat.reduceLT, Nat.reduceEqDiff, Nat.reduceLeDiff, Nat.reduceSub, Nat.reduceMul, sideV]) (by simp only [go_sem, ↓reduceIte, reduceCtorEq, Bool.false_eq_true, Bool.true_eq_false, Nat.reduceAdd, Nat.reduceLT, Nat.reduceEqDiff, Nat.reduceLeDiff, Nat.reduceSub, Nat.reduceMul, sideV]) (by simp) ?_
        refine DV.exec 400 ?_
        simp (config := {contextual := true}) only [go_sem, ↓reduceIte, reduceCtorEq, Bool.false_eq_true, Bool.true_eq_false, Nat.reduceAdd, Nat.reduceLT, Nat.reduceEqDiff, Nat.reduceLeDiff, Nat.reduceSub, Nat.reduceMul, hm, Change.pv]
        refine DV.call [] [] (by simp only [go_sem, ↓reduceIte, reduceCtorEq, Bool.false_eq_true, Bool.true_eq_false, Nat.reduceAdd, Nat.reduceLT, Nat.reduceEqDiff, Nat.reduceLeDiff, Nat.reduceSub, Nat.reduceMul, sideV, Change.pv]) (by simp [dOK]) ⟨56, [], by simp only [go_sem, ↓reduceIte, reduceCtorEq, Bool.false_eq_true, Bool.true_eq_false, Nat.reduceAdd, Nat.reduceLT, Nat.reduceEqDiff, Nat.reduceLeDiff, Nat.reduceSub, Nat.reduceMul, sideV, Change.pv], ⟨_, rfl, rfl, rfl⟩, .inl ⟨[x.pv], _, .inl (by simp only [go_sem, ↓reduceIte, reduceCtorEq, Bool.false_eq_true, Bool.true_eq_false, Nat.reduceAdd, Nat.reduceLT, Nat.reduceEqDiff, Nat.reduceLeDiff, Nat.reduceSub, Nat.reduceMul, sideV, Change.pv]), change_ahead x, .inr (.inl ⟨_, rfl, rfl, rfl⟩)⟩⟩ (by simp only [go_sem, ↓reduceIte, reduceCtorEq, Bool.false_eq_true, Bool.true_eq_false, Nat.reduceAdd, Nat.reduceLT, Nat.reduceEqDiff, Nat.reduceLeDiff, Nat.reduceSub, Nat.reduceMul, sideV, Change.pv]) (by simp only [go_sem, ↓reduceIte, reduceCtorEq, Bool.false_eq_true, Bool.true_eq_false, Nat.reduceAdd, Nat.reduceLT, Nat.reduceEqDiff, Nat.reduceLeDiff, Nat.reduceSub, Nat.reduceMul, sideV, Change.pv]) (by simp only [go_sem, ↓reduceIte, reduceCtorEq, Bool.false_eq_true, Bool.true_eq_false, Nat.reduceAdd, Nat.reduceLT, Nat.reduceEqDiff, Nat.reduceLeDiff, Nat.reduceSub, Nat.reduceMul, sideV, Change.pv]) (by simp) ?_
        refine DV.exec 400 ?_
        by_cases hf : gv = x.bef ∧ gh = x.had
        · have hfit : fitC cur x := by unfold fitC; rw [hG, hf.1, hf.2]
          have hgo := hgood ⟨hm, hfit⟩
          have hnc := noteC_ok hm
          have ca := leaf_Apply cur [noteC x] (by omega) (by simp)
          rw [applyV_ok hco ((notesOk_one _).2 hnc)] at ca
          have e1 : appV cur [noteC x] = oneV cur (noteC x) := rfl
          rw [e1] at ca
          simp only at ca
          have hoo := oneV_pairsOk hco hnc
          have hol := oneV_len ((pairsOk_iff cur).1 hco).1 (noteC x)
          generalize oneV cur (noteC x) = nxt at *
          cases hh : x.has with
          | true =>
            have e2 : noteC x = ⟨1, x.key, x.aft, 0⟩ := by unfold noteC; rw [if_pos hh]
            rw [e2] at ca
            simp (config := {contextual := true}) only [go_sem, ↓reduceIte, reduceCtorEq, Bool.false_eq_true, Bool.true_eq_false, Nat.reduceAdd, Nat.reduceLT, Nat.reduceEqDiff, Nat.reduceLeDiff, Nat.reduceSub, Nat.reduceMul, hm, Change.pv, sideV, eqSide, side_inj, hf, hh, decide_true]
            refine ⟨by kernel_rfl, ?_⟩
            refine V.call rfl rfl (by simp [dOK]) ⟨32, [], by simp only [go_sem, ↓reduceIte, reduceCtorEq, Bool.false_eq_true, Bool.true_eq_false, Nat.reduceAdd, Nat.reduceLT, Nat.reduceEqDiff, Nat.reduceLeDiff, Nat.reduceSub, Nat.reduceMul], ⟨_, rfl, rfl, rfl⟩, .inl ⟨[.row (cur.map Pair.pv), .row ([(⟨1, x.key, x.aft, 0⟩ : Note)].map Note.pv)], _, .inl (by simp only [go_sem, ↓reduceIte, reduceCtorEq, Bool.false_eq_true, Bool.true_eq_false, Nat.reduceAdd, Nat.reduceLT, Nat.reduceEqDiff, Nat.reduceLeDiff, Nat.reduceSub, Nat.reduceMul, Note.pv, List.map_cons, List.map_nil]), ca, .inr (.inl ⟨_, rfl, rfl, rfl⟩)⟩⟩ ?_
            refine V.exec 400 ?_
            simp (config := {contextual := true}) only [go_sem, ↓reduceIte, reduceCtorEq, Bool.false_eq_true, Bool.true_eq_false, Nat.reduceAdd, Nat.reduceLT, Nat.reduceEqDiff, Nat.reduceLeDiff, Nat.reduceSub, Nat.reduceMul, hw]
            exact ⟨cs.length - (i + 1), _, [], [], by omega, ⟨i + 1, nxt, by omega, rfl, hoo, by omega, hgo, rfl, rfl⟩, by simp only [go_sem, ↓reduceIte, reduceCtorEq, Bool.false_eq_true, Bool.true_eq_false, Nat.reduceAdd, Nat.reduceLT, Nat.reduceEqDiff, Nat.reduceLeDiff, Nat.reduceSub, Nat.reduceMul]⟩
          | false =>
            have e2 : noteC x = ⟨2, x.key, [], 0⟩ := by unfold noteC; rw [if_neg (by rw [hh]; decide)]
            rw [e2] at ca
            simp (config := {contextual := true}) only [go_sem, ↓reduceIte, reduceCtorEq, Bool.false_eq_true, Bool.true_eq_false, Nat.reduceAdd, Nat.reduceLT, Nat.reduceEqDiff, Nat.reduceLeDiff, Nat.reduceSub, Nat.reduceMul, hm, Change.pv, sideV, eqSide, side_inj, hf, hh, decide_false]
            refine ⟨by kernel_rfl, ?_⟩
            refine V.call rfl rfl (by simp [dOK]) ⟨32, [], by simp only [go_sem, ↓reduceIte, reduceCtorEq, Bool.false_eq_true, Bool.true_eq_false, Nat.reduceAdd, Nat.reduceLT, Nat.reduceEqDiff, Nat.reduceLeDiff, Nat.reduceSub, Nat.reduceMul], ⟨_, rfl, rfl, rfl⟩, .inl ⟨[.row (cur.map Pair.pv), .row ([(⟨2, x.key, [], 0⟩ : Note)].map Note.pv)], _, .inl (by simp only [go_sem, ↓reduceIte, reduceCtorEq, Bool.false_eq_true, Bool.true_eq_false, Nat.reduceAdd, Nat.reduceLT, Nat.reduceEqDiff, Nat.reduceLeDiff, Nat.reduceSub, Nat.reduceMul, Note.pv, List.map_cons, List.map_nil]), ca, .inr (.inl ⟨_, rfl, rfl, rfl⟩)⟩⟩ ?_
            refine V.exec 400 ?_
            simp (config := {contextual := true}) only [go_sem, ↓reduceIte, reduceCtorEq, Bool.false_eq_true, Bool.true_eq_false, Nat.reduceAdd, Nat.reduceLT, Nat.reduceEqDiff, Nat.reduceLeDiff, Nat.reduceSub, Nat.reduceMul, hw]
            exact ⟨cs.length - (i + 1), _, [], [], by omega, ⟨i + 1, nxt, by omega, rfl, hoo, by omega, hgo, rfl, rfl⟩, by simp only [go_sem, ↓reduceIte, reduceCtorEq, Bool.false_eq_true, Bool.true_eq_false, Nat.reduceAdd, Nat.reduceLT, Nat.reduceEqDiff, Nat.reduceLeDiff, Nat.reduceSub, Nat.reduceMul]⟩
        · have hv := hbad fun h => hf (by have := h.2; unfold fitC at this; rw [hG, Prod.mk.injEq] at this; exact this)
          simp (config := {contextual := true}) only [go_sem, ↓reduceIte, reduceCtorEq, Bool.false_eq_true, Bool.true_eq_false, Nat.reduceAdd, Nat.reduceLT, Nat.reduceEqDiff, Nat.reduceLeDiff, Nat.reduceSub, Nat.reduceMul, hm, Change.pv, sideV, eqSide, side_inj, hf, hv]
          refine ⟨by kernel_rfl, ?_⟩
          refine V.call rfl rfl (by simp [dOK]) ⟨45, [], by simp only [go_sem, ↓reduceIte, reduceCtorEq, Bool.false_eq_true, Bool.true_eq_false, Nat.reduceAdd, Nat.reduceLT, Nat.reduceEqDiff, Nat.reduceLeDiff, Nat.reduceSub, Nat.reduceMul], ⟨_, rfl, rfl, rfl⟩, .inl ⟨[.row (l.map Pair.pv)], _, .inl (by simp only [go_sem, ↓reduceIte, reduceCtorEq, Bool.false_eq_true, Bool.true_eq_false, Nat.reduceAdd, Nat.reduceLT, Nat.reduceEqDiff, Nat.reduceLeDiff, Nat.reduceSub, Nat.reduceMul]), ccl, .inr (.inl ⟨_, rfl, rfl, rfl⟩)⟩⟩ ?_
          refine V.exec 400 ?_
          simp (config := {contextual := true}) only [go_sem, ↓reduceIte, reduceCtorEq, Bool.false_eq_true, Bool.true_eq_false, Nat.reduceAdd, Nat.reduceLT, Nat.reduceEqDiff, Nat.reduceLeDiff, Nat.reduceSub, Nat.reduceMul, hv]
      · have hv := hbad fun h => hm h.1
        simp (config := {contextual := true}) only [go_sem, ↓reduceIte, reduceCtorEq, Bool.false_eq_true, Bool.true_eq_false, Nat.reduceAdd, Nat.reduceLT, Nat.reduceEqDiff, Nat.reduceLeDiff, Nat.reduceSub, Nat.reduceMul, hm, Change.pv, hv]
        refine ⟨by kernel_rfl, ?_⟩
        refine V.call rfl rfl (by simp [dOK]) ⟨45, [], by simp only [go_sem, ↓reduceIte, reduceCtorEq, Bool.false_eq_true, Bool.true_eq_false, Nat.reduceAdd, Nat.reduceLT, Nat.reduceEqDiff, Nat.reduceLeDiff, Nat.reduceSub, Nat.reduceMul], ⟨_, rfl, rfl, rfl⟩, .inl ⟨[.row (l.map Pair.pv)], _, .inl (by simp only [go_sem, ↓reduceIte, reduceCtorEq, Bool.false_eq_true, Bool.true_eq_false, Nat.reduceAdd, Nat.reduceLT, Nat.reduceEqDiff, Nat.reduceLeDiff, Nat.reduceSub, Nat.reduceMul]), ccl, .inr (.inl ⟨_, rfl, rfl, rfl⟩)⟩⟩ ?_
        refine V.exec 400 ?_
        simp (config := {contextual := true}) only [go_sem, ↓reduceIte, reduceCtorEq, Bool.false_eq_true, Bool.true_eq_false, Nat.reduceAdd, Nat.reduceLT, Nat.reduceEqDiff, Nat.reduceLeDiff, Nat.reduceSub, Nat.reduceMul, hv]
    · have hlt' : ¬ (i : Int) < (cs.length : Int) := by omega
      have hd : cs.drop i = [] := List.drop_eq_nil_of_le (by omega)
      rw [hd, doGo] at hca
      have hv : doV l cs = (cur, 0) := by unfold doV; rw [if_pos hok, ← hca]
      simp (config := {contextual := true}) only [go_sem, ↓reduceIte, reduceCtorEq, Bool.false_eq_true, Bool.true_eq_false, Nat.reduceAdd, Nat.reduceLT, Nat.reduceEqDiff, Nat.reduceLeDiff, Nat.reduceSub, Nat.reduceMul, hlt', hv]
  · have hv : doV l cs = (l, 1) := by unfold doV; rw [if_neg hok]
    simp (config := {contextual := true}) only [go_sem, ↓reduceIte, reduceCtorEq, Bool.false_eq_true, Bool.true_eq_false, Nat.reduceAdd, Nat.reduceLT, Nat.reduceEqDiff, Nat.reduceLeDiff, Nat.reduceSub, Nat.reduceMul, hok, hv]

theorem batch_Right1 (x : Note) : Ct Try.prog 86 (YtjhjnphcdpjnbaaVm.ops [x.pv]) (.vals [.bool (decide (¬ x.ok))]) := by
  refine Ct.of_V Try.func86 rfl (by simp [YtjhjnphcdpjnbaaVm.ops, Try.f86]) ?_
  refine V.exec 400 ?_
  simp (config := {contextual := true}) only [go_sem, ↓reduceIte, reduceCtorEq, Bool.false_eq_true, Bool.true_eq_false, Nat.reduceAdd, Nat.reduceLT, Nat.reduceEqDiff, Nat.reduceLeDiff, Nat.reduceSub, Nat.reduceMul, Try.f86, Note.pv]
  refine V.call rfl rfl (by simp [dOK]) ⟨49, [], by simp only [go_sem, ↓reduceIte, reduceCtorEq, Bool.false_eq_true, Bool.true_eq_false, Nat.reduceAdd, Nat.reduceLT, Nat.reduceEqDiff, Nat.reduceLeDiff, Nat.reduceSub, Nat.reduceMul], ⟨_, rfl, rfl, rfl⟩, .inl ⟨[x.pv], _, .inl (by simp only [go_sem, ↓reduceIte, reduceCtorEq, Bool.false_eq_true, Bool.true_eq_false, Nat.reduceAdd, Nat.reduceLT, Nat.reduceEqDiff, Nat.reduceLeDiff, Nat.reduceSub, Nat.reduceMul, Note.pv]), note_Right x, .inl ⟨_, rfl, rfl, rfl, rfl⟩⟩⟩ ?_
  refine V.exec 400 ?_
  simp (config := {contextual := true}) only [go_sem, ↓reduceIte, reduceCtorEq, Bool.false_eq_true, Bool.true_eq_false, Nat.reduceAdd, Nat.reduceLT, Nat.reduceEqDiff, Nat.reduceLeDiff, Nat.reduceSub, Nat.reduceMul]
theorem Contains_badB (ns : List Note) (hl : ns.length ≤ 1000000) : Ct Try.prog 47 (YtjhjnphcdpjnbaaVm.ops [.row (ns.map Note.pv), .fn 86 []]) (.vals [.bool (decide (¬ notesAll ns))]) := by
  unfold notesAll
  obtain ⟨r, hr, hr1, hr2, hr3⟩ := first_of (fun y => decide (¬ (Note.of y).ok)) (ns.map Note.pv)
  have hi := IndexFuncNote (ns.map Note.pv) 86 [] (fun y => decide (¬ (Note.of y).ok)) (fun y hy => by
      obtain ⟨s, _, rfl⟩ := List.mem_map.1 hy
      exact ⟨rfl, rfl⟩) (by simpa using hl) ⟨_, rfl, rfl, rfl⟩ (fun y hy => by
      obtain ⟨s, _, rfl⟩ := List.mem_map.1 hy
      rw [Note.of_pv]
      simpa using batch_Right1 s) r hr hr1 hr2
  refine Ct.of_V Try.func47 rfl (by simp [YtjhjnphcdpjnbaaVm.ops, Try.f47]) ?_
  refine V.exec 400 ?_
  simp (config := {contextual := true}) only [go_sem, ↓reduceIte, reduceCtorEq, Bool.false_eq_true, Bool.true_eq_false, Nat.reduceAdd, Nat.reduceLT, Nat.reduceEqDiff, Nat.reduceLeDiff, Nat.reduceSub, Nat.reduceMul, Try.f47]
  refine V.call rfl rfl (by simp [dOK]) ⟨74, [], by simp only [go_sem, ↓reduceIte, reduceCtorEq, Bool.false_eq_true, Bool.true_eq_false, Nat.reduceAdd, Nat.reduceLT, Nat.reduceEqDiff, Nat.reduceLeDiff, Nat.reduceSub, Nat.reduceMul], ⟨_, rfl, rfl, rfl⟩, .inl ⟨[.row (ns.map Note.pv), .fn 86 []], _, .inl (by simp only [go_sem, ↓reduceIte, reduceCtorEq, Bool.false_eq_true, Bool.true_eq_false, Nat.reduceAdd, Nat.reduceLT, Nat.reduceEqDiff, Nat.reduceLeDiff, Nat.reduceSub, Nat.reduceMul]), hi, .inl ⟨_, rfl, rfl, rfl, rfl⟩⟩⟩ ?_
  refine V.exec 400 ?_
  simp (config := {contextual := true}) only [go_sem, ↓reduceIte, reduceCtorEq, Bool.false_eq_true, Bool.true_eq_false, Nat.reduceAdd, Nat.reduceLT, Nat.reduceEqDiff, Nat.reduceLeDiff, Nat.reduceSub, Nat.reduceMul]
  have e : (∃ y ∈ ns.map Note.pv, decide (¬ (Note.of y).ok) = true) ↔ ¬ ∀ x ∈ ns, x.ok := by
    constructor
    · rintro ⟨y, hy, hp⟩ hc
      obtain ⟨s, hs, rfl⟩ := List.mem_map.1 hy
      rw [Note.of_pv] at hp
      simp at hp
      exact hp (hc s hs)
    · intro h
      simp only [Classical.not_forall] at h
      obtain ⟨x, hx, hp⟩ := h
      exact ⟨x.pv, List.mem_map_of_mem hx, by rw [Note.of_pv]; simpa using hp⟩
  rw [e] at hr3
  rw [List.length_map] at hr3
  by_cases hc : ∀ x ∈ ns, x.ok
  · have : ¬ r < ns.length := fun h => (hr3.1 h) hc
    simp [this]
    exact hc
  · have h2 := hr3.2 hc
    simp [h2, hc]

theorem batch_Right (ns : List Note) (hl : ns.length ≤ 9223372036854775807) : Ct Try.prog 63 (YtjhjnphcdpjnbaaVm.ops [.row (ns.map Note.pv)]) (.vals [.bool (decide (batchOk ns))]) := by
  refine Ct.of_V Try.func63 rfl (by simp [YtjhjnphcdpjnbaaVm.ops, Try.f63]) ?_
  refine V.exec 400 ?_
  simp (config := {contextual := true}) only [go_sem, ↓reduceIte, reduceCtorEq, Bool.false_eq_true, Bool.true_eq_false, Nat.reduceAdd, Nat.reduceLT, Nat.reduceEqDiff, Nat.reduceLeDiff, Nat.reduceSub, Nat.reduceMul, Try.f63]
  by_cases h8 : ns.length ≤ 8
  · have h8' : (ns.length : Int) ≤ 8 := by omega
    simp (config := {contextual := true}) only [go_sem, ↓reduceIte, reduceCtorEq, Bool.false_eq_true, Bool.true_eq_false, Nat.reduceAdd, Nat.reduceLT, Nat.reduceEqDiff, Nat.reduceLeDiff, Nat.reduceSub, Nat.reduceMul, h8']
    refine V.call rfl rfl (by simp [dOK]) ⟨47, [], by simp only [go_sem, ↓reduceIte, reduceCtorEq, Bool.false_eq_true, Bool.true_eq_false, Nat.reduceAdd, Nat.reduceLT, Nat.reduceEqDiff, Nat.reduceLeDiff, Nat.reduceSub, Nat.reduceMul], ⟨_, rfl, rfl, rfl⟩, .inl ⟨[.row (ns.map Note.pv), .fn 86 []], _, .inl (by simp only [go_sem, ↓reduceIte, reduceCtorEq, Bool.false_eq_true, Bool.true_eq_false, Nat.reduceAdd, Nat.reduceLT, Nat.reduceEqDiff, Nat.reduceLeDiff, Nat.reduceSub, Nat.reduceMul]), Contains_badB ns (by omega), .inl ⟨_, rfl, rfl, rfl, rfl⟩⟩⟩ ?_
    refine V.exec 400 ?_
    simp (config := {contextual := true}) only [go_sem, ↓reduceIte, reduceCtorEq, Bool.false_eq_true, Bool.true_eq_false, Nat.reduceAdd, Nat.reduceLT, Nat.reduceEqDiff, Nat.reduceLeDiff, Nat.reduceSub, Nat.reduceMul]
    by_cases ha : notesAll ns
    · have : batchOk ns := ⟨h8, ha⟩
      simp [ha, this]
    · have : ¬ batchOk ns := fun h => ha h.2
      simp [ha, this]
  · have h8' : ¬ (ns.length : Int) ≤ 8 := by omega
    have : ¬ batchOk ns := fun h => h8 h.1
    simp (config := {contextual := true}) only [go_sem, ↓reduceIte, reduceCtorEq, Bool.false_eq_true, Bool.true_eq_false, Nat.reduceAdd, Nat.reduceLT, Nat.reduceEqDiff, Nat.reduceLeDiff, Nat.reduceSub, Nat.reduceMul, h8', this, decide_false]
end Go.Proofs.Ytjhjnphcdpjnbaa
set_option linter.unusedVariables false
set_option linter.unusedSimpArgs false
set_option maxRecDepth 8000
namespace Go.Proofs.Ytjhjnphcdpjnbaa
open Go Go.Proofs Go.Proofs.YtjhjnphcdpjnbaaVm Go.Proofs.Ytjhjnphcdpjnbaa.Ty

theorem Change.inj (s t : Change) : (s.pv = t.pv) = (s = t) := by
  obtain ⟨s1, s2, s3, s4, s5, s6⟩ := s
  obtain ⟨t1, t2, t3, t4, t5, t6⟩ := t
  cases s3 <;> cases s5 <;> cases t3 <;> cases t5 <;> simp [Change.pv]

theorem eqChange : EqT Try.prog 70 [.int .i64, .str, .bool, .str, .bool, .str] := EqT.of (by kernel_rfl) (by kernel_rfl) (by kernel_rfl)

set_option maxRecDepth 4000 in
set_option maxHeartbeats 8000000 in
theorem ref13_Same (a b : List Change) (hb : b.length ≤ 1000000) : Ct Try.prog 23 (YtjhjnphcdpjnbaaVm.ops [.row (a.map Change.pv), .row (b.map Change.pv)]) (.vals [.bool (decide (a = b))]) := by
  refine Ct.of_V Try.func23 rfl (by simp [YtjhjnphcdpjnbaaVm.ops, Try.f23]) ?_
  refine V.exec 400 ?_
  by_cases hl : a.length = b.length
  · simp (config := {contextual := true}) only [go_sem, ↓reduceIte, reduceCtorEq, Bool.false_eq_true, Bool.true_eq_false, Nat.reduceAdd, Nat.reduceLT, Nat.reduceEqDiff, Nat.reduceLeDiff, Nat.reduceSub, Nat.reduceMul, Try.f23, hl]
    refine V.loop (fun m ls os => ∃ i : Nat, i ≤ b.length ∧ m = b.length - i ∧ a.take i = b.take i ∧
        ls = [(0, .val (.row (a.map Change.pv))), (1, .val (.row (b.map Change.pv))), (5, .val (.int .i64 i))] ∧ os = []) 0 b.length [(0, .val (.row (a.map Change.pv))), (1, .val (.row (b.map Change.pv))), (5, .val (.int .i64 0))] [] []
      ⟨0, Nat.zero_le _, rfl, rfl, rfl, rfl⟩ (by simp only [go_sem, ↓reduceIte, reduceCtorEq, Bool.false_eq_true, Bool.true_eq_false, Nat.reduceAdd, Nat.reduceLT, Nat.reduceEqDiff, Nat.reduceLeDiff, Nat.reduceSub, Nat.reduceMul]) ?_
    rintro m ls os ⟨i, hi, rfl, heq, rfl, rfl⟩
    refine V.exec 400 ?_
    by_cases hlt : i < b.length
    · have hlt' : (i : Int) < (b.length : Int) := by omega
      have hla : i < a.length := by omega
      obtain ⟨x, hx⟩ : ∃ x, a[i]? = some x := ⟨_, List.getElem?_eq_getElem hla⟩
      obtain ⟨y, hy⟩ : ∃ y, b[i]? = some y := ⟨_, List.getElem?_eq_getElem hlt⟩
      have hw : IntKind.i64.wrap ((i : Int) + 1) = ((i + 1 : Nat) : Int) := by rw [wrap_small3] <;> omega
      have hinj := Change.inj x y
      simp only [Change.pv] at hinj
      simp (config := {contextual := true}) only [go_sem, ↓reduceIte, reduceCtorEq, Bool.false_eq_true, Bool.true_eq_false, Nat.reduceAdd, Nat.reduceLT, Nat.reduceEqDiff, Nat.reduceLeDiff, Nat.reduceSub, Nat.reduceMul, hl, hlt', hx, hy, Change.pv, hw, hinj, eqChange]
      refine ⟨by kernel_rfl, fun hne => ?_, fun he => ⟨b.length - (i + 1), _, [], [], by omega, ⟨i + 1, by omega, rfl, ?_, rfl, rfl⟩, ?_⟩⟩
      · have : a ≠ b := fun e => hne (by rw [e, hy] at hx; cases hx; rfl)
        simp [this]
      · rw [List.take_add_one, List.take_add_one, heq, hx, hy, he]
      · simp only [go_sem, ↓reduceIte, reduceCtorEq, Bool.false_eq_true, Bool.true_eq_false, Nat.reduceAdd, Nat.reduceLT, Nat.reduceEqDiff, Nat.reduceLeDiff, Nat.reduceSub, Nat.reduceMul]
    · have hlt' : ¬ (i : Int) < (b.length : Int) := by omega
      simp (config := {contextual := true}) only [go_sem, ↓reduceIte, reduceCtorEq, Bool.false_eq_true, Bool.true_eq_false, Nat.reduceAdd, Nat.reduceLT, Nat.reduceEqDiff, Nat.reduceLeDiff, Nat.reduceSub, Nat.reduceMul, hl, hlt']
      have : a = b := by rw [List.take_of_length_le (by omega), List.take_of_length_le (by omega)] at heq; exact heq
      simp [this]
  · have hl' : ¬ (a.length : Int) = (b.length : Int) := by omega
    have : a ≠ b := fun e => hl (by rw [e])
    simp (config := {contextual := true}) only [go_sem, ↓reduceIte, reduceCtorEq, Bool.false_eq_true, Bool.true_eq_false, Nat.reduceAdd, Nat.reduceLT, Nat.reduceEqDiff, Nat.reduceLeDiff, Nat.reduceSub, Nat.reduceMul, Try.f23, hl', this, not_false_eq_true]


theorem ofV_err {l : List Pair} {seq : Int} {n : Note} : (ofV l seq n).2 = 0 ∨ (ofV l seq n).2 = 1 ∨ (ofV l seq n).2 = 3 := by
  unfold ofV
  split
  · split
    · exact .inr (.inr rfl)
    · exact .inl rfl
  · exact .inr (.inl rfl)

set_option maxRecDepth 10000 in
set_option maxHeartbeats 16000000 in
theorem batch_Run (l : List Pair) (seq : Int) (ns : List Note) (hl : l.length ≤ 100000) (hn : ns.length ≤ 9223372036854775807) (hseq : seq ≤ 9223372036854775807) : Ct Try.prog 36 (YtjhjnphcdpjnbaaVm.ops [.row (l.map Pair.pv), .int .i64 seq, .row (ns.map Note.pv)]) (.vals [.row ((runV l seq ns).1.map Change.pv), .row ((runV l seq ns).2.1.map Pair.pv), .int .i64 (runV l seq ns).2.2]) := by
  have h2 : ∀ (l : List Pair), ∀ x ∈ l.map Pair.pv, x.cells.length = 2 := fun l x hx => by
    obtain ⟨s, _, rfl⟩ := List.mem_map.1 hx
    rfl
  have ccl := (ClonePair (l.map Pair.pv) (h2 l) (by simp; omega)).forget
  have hbad : ¬ (batchOk ns ∧ pairsOk l ∧ 0 ≤ seq ∧ seq ≤ 2147483647) → runV l seq ns = ([], l, 1) := fun h => by unfold runV; rw [if_neg h]
  refine Ct.of_V Try.func36 rfl (by simp [YtjhjnphcdpjnbaaVm.ops, Try.f36]) ?_
  refine V.exec 400 ?_
  simp (config := {contextual := true}) only [go_sem, ↓reduceIte, reduceCtorEq, Bool.false_eq_true, Bool.true_eq_false, Nat.reduceAdd, Nat.reduceLT, Nat.reduceEqDiff, Nat.reduceLeDiff, Nat.reduceSub, Nat.reduceMul, Try.f36]
  refine V.call rfl rfl (by simp [dOK]) ⟨63, [], by simp only [go_sem, ↓reduceIte, reduceCtorEq, Bool.false_eq_true, Bool.true_eq_false, Nat.reduceAdd, Nat.reduceLT, Nat.reduceEqDiff, Nat.reduceLeDiff, Nat.reduceSub, Nat.reduceMul], ⟨_, rfl, rfl, rfl⟩, .inl ⟨[.row (ns.map Note.pv)], _, .inl (by simp only [go_sem, ↓reduceIte, reduceCtorEq, Bool.false_eq_true, Bool.true_eq_false, Nat.reduceAdd, Nat.reduceLT, Nat.reduceEqDiff, Nat.reduceLeDiff, Nat.reduceSub, Nat.reduceMul]), batch_Right ns (by omega), .inl ⟨_, rfl, rfl, rfl, rfl⟩⟩⟩ ?_
  refine V.exec 400 ?_
  by_cases hb : batchOk ns
  · have hn8 : ns.length ≤ 8 := hb.1
    simp (config := {contextual := true}) only [go_sem, ↓reduceIte, reduceCtorEq, Bool.false_eq_true, Bool.true_eq_false, Nat.reduceAdd, Nat.reduceLT, Nat.reduceEqDiff, Nat.reduceLeDiff, Nat.reduceSub, Nat.reduceMul, hb]
    refine V.call rfl rfl (by simp [dOK]) ⟨46, [], by simp only [go_sem, ↓reduceIte, reduceCtorEq, Bool.false_eq_true, Bool.true_eq_false, Nat.reduceAdd, Nat.reduceLT, Nat.reduceEqDiff, Nat.reduceLeDiff, Nat.reduceSub, Nat.reduceMul], ⟨_, rfl, rfl, rfl⟩, .inl ⟨[.row (l.map Pair.pv)], _, .inl (by simp only [go_sem, ↓reduceIte, reduceCtorEq, Bool.false_eq_true, Bool.true_eq_false, Nat.reduceAdd, Nat.reduceLT, Nat.reduceEqDiff, Nat.reduceLeDiff, Nat.reduceSub, Nat.reduceMul]), leaf_Right l (by omega), .inl ⟨_, rfl, rfl, rfl, rfl⟩⟩⟩ ?_
    refine V.exec 400 ?_
    by_cases hok : pairsOk l
    · by_cases h1 : seq < 0
      · have hv := hbad fun h => by omega
        simp (config := {contextual := true}) only [go_sem, ↓reduceIte, reduceCtorEq, Bool.false_eq_true, Bool.true_eq_false, Nat.reduceAdd, Nat.reduceLT, Nat.reduceEqDiff, Nat.reduceLeDiff, Nat.reduceSub, Nat.reduceMul, hok, h1, hv, List.map_nil]
      · by_cases h2' : 2147483647 < seq
        · have hv := hbad fun h => by omega
          simp (config := {contextual := true}) only [go_sem, ↓reduceIte, reduceCtorEq, Bool.false_eq_true, Bool.true_eq_false, Nat.reduceAdd, Nat.reduceLT, Nat.reduceEqDiff, Nat.reduceLeDiff, Nat.reduceSub, Nat.reduceMul, hok, h1, h2', hv, List.map_nil]
        · have hwl : IntKind.i64.wrap (2147483647 - (ns.length : Int)) = 2147483647 - (ns.length : Int) := by rw [wrap_small3] <;> omega
          by_cases h3 : 2147483647 - (ns.length : Int) < seq
          · have hv : runV l seq ns = ([], l, 5) := by unfold runV; rw [if_pos ⟨hb, hok, by omega, by omega⟩, if_pos h3]
            simp (config := {contextual := true}) only [go_sem, ↓reduceIte, reduceCtorEq, Bool.false_eq_true, Bool.true_eq_false, Nat.reduceAdd, Nat.reduceLT, Nat.reduceEqDiff, Nat.reduceLeDiff, Nat.reduceSub, Nat.reduceMul, hok, h1, h2', hwl, h3, hv, List.map_nil]
          · have hv : runV l seq ns = ((runGo l seq [] ns).1, (runGo l seq [] ns).2, 0) := by unfold runV; rw [if_pos ⟨hb, hok, by omega, by omega⟩, if_neg h3]
            rw [hv]
            obtain ⟨RO, RP, hR⟩ : ∃ a b, runGo l seq [] ns = (a, b) := ⟨_, _, rfl⟩
            rw [hR]
            simp only
            simp (config := {contextual := true}) only [go_sem, ↓reduceIte, reduceCtorEq, Bool.false_eq_true, Bool.true_eq_false, Nat.reduceAdd, Nat.reduceLT, Nat.reduceEqDiff, Nat.reduceLeDiff, Nat.reduceSub, Nat.reduceMul, hok, h1, h2', hwl, h3]
            refine V.call rfl rfl (by simp [dOK]) ⟨45, [], by simp only [go_sem, ↓reduceIte, reduceCtorEq, Bool.false_eq_true, Bool.true_eq_false, Nat.reduceAdd, Nat.reduceLT, Nat.reduceEqDiff, Nat.reduceLeDiff, Nat.reduceSub, Nat.reduceMul], ⟨_, rfl, rfl, rfl⟩, .inl ⟨[.row (l.map Pair.pv)], _, .inl (by simp only [go_sem, ↓reduceIte, reduceCtorEq, Bool.false_eq_true, Bool.true_eq_false, Nat.reduceAdd, Nat.reduceLT, Nat.reduceEqDiff, Nat.reduceLeDiff, Nat.reduceSub, Nat.reduceMul]), ccl, .inr (.inl ⟨_, rfl, rfl, rfl⟩)⟩⟩ ?_
            refine V.exec 400 ?_
            simp (config := {contextual := true}) only [go_sem, ↓reduceIte, reduceCtorEq, Bool.false_eq_true, Bool.true_eq_false, Nat.reduceAdd, Nat.reduceLT, Nat.reduceEqDiff, Nat.reduceLeDiff, Nat.reduceSub, Nat.reduceMul]
            refine V.loop (fun m ls os => ∃ (i : Nat) (out : List Change) (cur : List Pair), i ≤ ns.length ∧ m = ns.length - i ∧ pairsOk cur ∧ cur.length ≤ l.length + i ∧ out.length ≤ i ∧ runGo cur seq out (ns.drop i) = (RO, RP) ∧
                ls = [(1, .val (.int .i64 seq)), (9, .ref 0), (10, .val (.row (cur.map Pair.pv))), (42, .val (.row (ns.map Note.pv))), (43, .val (.int .i64 ns.length)), (44, .val (.int .i64 i))] ∧ os = [.row 70 (out.map Change.pv)]) 1 ns.length
              [(1, .val (.int .i64 seq)), (9, .ref 0), (10, .val (.row (l.map Pair.pv))), (42, .val (.row (ns.map Note.pv))), (43, .val (.int .i64 ns.length)), (44, .val (.int .i64 0))] [.row 70 []] [none]
              ⟨0, [], l, Nat.zero_le _, rfl, hok, Nat.le_refl _, Nat.le_refl _, hR, rfl, rfl⟩ (by simp only [go_sem, ↓reduceIte, reduceCtorEq, Bool.false_eq_true, Bool.true_eq_false, Nat.reduceAdd, Nat.reduceLT, Nat.reduceEqDiff, Nat.reduceLeDiff, Nat.reduceSub, Nat.reduceMul]; try decide) ?_
            rintro m ls os ⟨i, out, cur, hi, rfl, hco, hcl, hol, hca, rfl, rfl⟩
            refine V.exec 400 ?_
            by_cases hlt : i < ns.length
            · have hlt' : (i : Int) < (ns.length : Int) := by omega
              obtain ⟨x, hx⟩ : ∃ x, ns[i]? = some x := ⟨_, List.getElem?_eq_getElem hlt⟩
              have hxo : x.ok := hb.2 x (List.mem_of_getElem? hx)
              have hw : IntKind.i64.wrap ((i : Int) + 1) = ((i + 1 : Nat) : Int) := by rw [wrap_small3] <;> omega
              have hw1 : IntKind.i64.wrap (seq + (out.length : Int)) = seq + (out.length : Int) := by rw [wrap_small3] <;> omega
              have hw2 : IntKind.i64.wrap (seq + (out.length : Int) + 1) = seq + (out.length : Int) + 1 := by rw [wrap_small3] <;> omega
              have co := change_Of cur (seq + (out.length : Int) + 1) x (by omega)
              have hdo := @ofV_does cur (seq + (out.length : Int) + 1) x
              rw [drop_of_get hx, runGo] at hca
              have hoo := oneV_pairsOk hco hxo
              have hol2 := oneV_len ((pairsOk_iff cur).1 hco).1 x
              obtain ⟨c, e, hC⟩ : ∃ a b, ofV cur (seq + (out.length : Int) + 1) x = (a, b) := ⟨_, _, rfl⟩
              rw [hC] at co hca hdo
              simp only at co hca hdo
              simp (config := {contextual := true}) only [go_sem, ↓reduceIte, reduceCtorEq, Bool.false_eq_true, Bool.true_eq_false, Nat.reduceAdd, Nat.reduceLT, Nat.reduceEqDiff, Nat.reduceLeDiff, Nat.reduceSub, Nat.reduceMul, hlt', hx, Note.pv, hw1, hw2]
              refine V.call rfl rfl (by simp [dOK]) ⟨64, [], by simp only [go_sem, ↓reduceIte, reduceCtorEq, Bool.false_eq_true, Bool.true_eq_false, Nat.reduceAdd, Nat.reduceLT, Nat.reduceEqDiff, Nat.reduceLeDiff, Nat.reduceSub, Nat.reduceMul], ⟨_, rfl, rfl, rfl⟩, .inl ⟨[.row (cur.map Pair.pv), .int .i64 (seq + (out.length : Int) + 1), x.pv], _, .inl (by simp only [go_sem, ↓reduceIte, reduceCtorEq, Bool.false_eq_true, Bool.true_eq_false, Nat.reduceAdd, Nat.reduceLT, Nat.reduceEqDiff, Nat.reduceLeDiff, Nat.reduceSub, Nat.reduceMul, Note.pv]), co, .inr (.inl ⟨_, rfl, rfl, rfl⟩)⟩⟩ ?_
              refine V.exec 400 ?_
              by_cases he : e = 0
              · rw [if_pos he] at hca
                have hdv := (hdo he).2.2.2.1
                have cd := change_Do cur [c] (by omega) (by simp)
                rw [hdv] at cd
                simp only at cd
                subst he
                simp (config := {contextual := true}) only [go_sem, ↓reduceIte, reduceCtorEq, Bool.false_eq_true, Bool.true_eq_false, Nat.reduceAdd, Nat.reduceLT, Nat.reduceEqDiff, Nat.reduceLeDiff, Nat.reduceSub, Nat.reduceMul, Change.pv]
                refine ⟨⟨by omega, by omega⟩, ?_⟩
                refine V.call rfl rfl (by simp [dOK]) ⟨33, [], by simp only [go_sem, ↓reduceIte, reduceCtorEq, Bool.false_eq_true, Bool.true_eq_false, Nat.reduceAdd, Nat.reduceLT, Nat.reduceEqDiff, Nat.reduceLeDiff, Nat.reduceSub, Nat.reduceMul], ⟨_, rfl, rfl, rfl⟩, .inl ⟨[.row (cur.map Pair.pv), .row ([c].map Change.pv)], _, .inl (by simp only [go_sem, ↓reduceIte, reduceCtorEq, Bool.false_eq_true, Bool.true_eq_false, Nat.reduceAdd, Nat.reduceLT, Nat.reduceEqDiff, Nat.reduceLeDiff, Nat.reduceSub, Nat.reduceMul, Change.pv, List.map_cons, List.map_nil]), cd, .inr (.inl ⟨_, rfl, rfl, rfl⟩)⟩⟩ ?_
                refine V.exec 400 ?_
                simp (config := {contextual := true}) only [go_sem, ↓reduceIte, reduceCtorEq, Bool.false_eq_true, Bool.true_eq_false, Nat.reduceAdd, Nat.reduceLT, Nat.reduceEqDiff, Nat.reduceLeDiff, Nat.reduceSub, Nat.reduceMul, hw]
                refine ⟨ns.length - (i + 1), _, _, [some 25], by omega, ⟨i + 1, out ++ [c], oneV cur x, by omega, rfl, hoo, by omega, by simp; omega, hca, rfl, rfl⟩, ?_⟩
                simp only [go_sem, ↓reduceIte, reduceCtorEq, Bool.false_eq_true, Bool.true_eq_false, Nat.reduceAdd, Nat.reduceLT, Nat.reduceEqDiff, Nat.reduceLeDiff, Nat.reduceSub, Nat.reduceMul, List.map_append, List.map_cons, List.map_nil, Change.pv]
                try decide
              · rw [if_neg he] at hca
                simp (config := {contextual := true}) only [go_sem, ↓reduceIte, reduceCtorEq, Bool.false_eq_true, Bool.true_eq_false, Nat.reduceAdd, Nat.reduceLT, Nat.reduceEqDiff, Nat.reduceLeDiff, Nat.reduceSub, Nat.reduceMul, Change.pv, he, hw]
                refine ⟨ns.length - (i + 1), _, _, [some 0], by omega, ⟨i + 1, out, cur, by omega, rfl, hco, by omega, by omega, hca, rfl, rfl⟩, ?_⟩
                simp only [go_sem, ↓reduceIte, reduceCtorEq, Bool.false_eq_true, Bool.true_eq_false, Nat.reduceAdd, Nat.reduceLT, Nat.reduceEqDiff, Nat.reduceLeDiff, Nat.reduceSub, Nat.reduceMul]
                try decide
            · have hlt' : ¬ (i : Int) < (ns.length : Int) := by omega
              have hd : ns.drop i = [] := List.drop_eq_nil_of_le (by omega)
              rw [hd, runGo, Prod.mk.injEq] at hca
              obtain ⟨rfl, rfl⟩ := hca
              simp (config := {contextual := true}) only [go_sem, ↓reduceIte, reduceCtorEq, Bool.false_eq_true, Bool.true_eq_false, Nat.reduceAdd, Nat.reduceLT, Nat.reduceEqDiff, Nat.reduceLeDiff, Nat.reduceSub, Nat.reduceMul, hlt']
    · have hv := hbad fun h => hok h.2.1
      simp (config := {contextual := true}) only [go_sem, ↓reduceIte, reduceCtorEq, Bool.false_eq_true, Bool.true_eq_false, Nat.reduceAdd, Nat.reduceLT, Nat.reduceEqDiff, Nat.reduceLeDiff, Nat.reduceSub, Nat.reduceMul, hok, hv, List.map_nil]
  · have hv := hbad fun h => hb h.1
    simp (config := {contextual := true}) only [go_sem, ↓reduceIte, reduceCtorEq, Bool.false_eq_true, Bool.true_eq_false, Nat.reduceAdd, Nat.reduceLT, Nat.reduceEqDiff, Nat.reduceLeDiff, Nat.reduceSub, Nat.reduceMul, hb, hv, List.map_nil]
end Go.Proofs.Ytjhjnphcdpjnbaa
set_option linter.unusedVariables false
set_option linter.unusedSimpArgs false
set_option maxRecDepth 8000
namespace Go.Proofs.Ytjhjnphcdpjnbaa
open Go Go.Proofs Go.Proofs.YtjhjnphcdpjnbaaVm Go.Proofs.Ytjhjnphcdpjnbaa.Ty

theorem refFindP_neg {l : List Pair} {k : List UInt8} (h : getL l k = none) : refFindP l k = -1 := by
  unfold refFindP
  have : l.findIdx? (fun s => decide (s.key = k)) = none := by
    rw [List.findIdx?_eq_none_iff]
    intro x hx
    unfold getL at h
    rw [List.find?_eq_none] at h
    simpa using h x hx
  rw [this]
theorem refFindP_some {l : List Pair} (hs : Sorted l) {k : List UInt8} {p : Pair} (h : getL l k = some p) : ∃ i : Nat, refFindP l k = (i : Int) ∧ l[i]? = some p ∧ i < l.length := by
  have hm := getL_mem h
  unfold refFindP
  cases hf : l.findIdx? (fun s => decide (s.key = k)) with
  | none =>
    rw [List.findIdx?_eq_none_iff] at hf
    have := hf p hm.1
    simp [hm.2] at this
  | some i =>
    rw [List.findIdx?_eq_some_iff_getElem] at hf
    obtain ⟨hi, hk, _⟩ := hf
    refine ⟨i, rfl, ?_, hi⟩
    have hk' : l[i].key = k := by simpa using hk
    have := getL_of_mem hs (List.getElem_mem hi)
    rw [hk', h] at this
    rw [List.getElem?_eq_getElem hi, this]

end Go.Proofs.Ytjhjnphcdpjnbaa
set_option linter.unusedVariables false
set_option linter.unusedSimpArgs false
set_option maxRecDepth 8000
namespace Go.Proofs.Ytjhjnphcdpjnbaa
open Go Go.Proofs Go.Proofs.YtjhjnphcdpjnbaaVm Go.Proofs.Ytjhjnphcdpjnbaa.Ty

theorem notes_all17 (ns : List Note) : notesOk' ns = notesAll ns := rfl
theorem one_slice {α : Type} {l : List α} {i : Nat} {x : α} (h : l[i]? = some x) : (l.take (i + 1)).drop i = [x] := by
  rw [List.take_add_one, h, List.drop_append_of_le_length (by have := (List.getElem?_eq_some_iff.1 h).1; simp; omega)]
  rw [List.drop_eq_nil_of_le (by simp; omega)]; rfl

end Go.Proofs.Ytjhjnphcdpjnbaa
set_option linter.unusedVariables false
set_option linter.unusedSimpArgs false
set_option maxRecDepth 8000
namespace Go.Proofs.Ytjhjnphcdpjnbaa
open Go Go.Proofs Go.Proofs.YtjhjnphcdpjnbaaVm Go.Proofs.Ytjhjnphcdpjnbaa.Ty

def pvZ (n : Int) : PV := .int .i64 n
def rowN (l : List Note) : PV := .row (l.map Note.pv)
theorem runGo_facts : ∀ (ns : List Note) (p : List Pair) (seq : Int) (out : List Change), pairsOk p → notesAll ns →
    (runGo p seq out ns).1.length ≤ out.length + ns.length ∧ (runGo p seq out ns).2.length ≤ p.length + ns.length ∧ pairsOk (runGo p seq out ns).2
  | [], p, seq, out, hp, _ => ⟨Nat.le_refl _, Nat.le_refl _, hp⟩
  | n :: r, p, seq, out, hp, hn => by
    have hx := hn n List.mem_cons_self
    have hr : notesAll r := fun y hy => hn y (List.mem_cons_of_mem _ hy)
    unfold runGo
    split
    · have ih := runGo_facts r (oneV p n) seq (out ++ [(ofV p (seq + out.length + 1) n).1]) (oneV_pairsOk hp hx) hr
      have hl := oneV_len ((pairsOk_iff p).1 hp).1 n
      rw [List.length_append, List.length_singleton] at ih
      rw [List.length_cons]
      exact ⟨by omega, by omega, ih.2.2⟩
    · have ih := runGo_facts r p seq out hp hr
      rw [List.length_cons]
      exact ⟨by omega, by omega, ih.2.2⟩
theorem runV_facts {l : List Pair} {seq : Int} {ns : List Note} (h : (runV l seq ns).2.2 = 0) :
    batchOk ns ∧ pairsOk l ∧ 0 ≤ seq ∧ seq + (ns.length : Int) ≤ 2147483647 ∧ (runV l seq ns).1.length ≤ ns.length ∧ (runV l seq ns).2.1.length ≤ l.length + ns.length ∧ pairsOk (runV l seq ns).2.1 ∧ runV l seq ns = ((runGo l seq [] ns).1, (runGo l seq [] ns).2, 0) := by
  unfold runV at *
  split at h
  · rename_i hc
    rw [if_pos hc]
    split at h
    · cases h
    · rename_i h3
      rw [if_neg h3]
      have hf := runGo_facts ns l seq [] hc.2.1 hc.1.2
      simp only [List.length_nil, Nat.zero_add] at hf
      exact ⟨hc.1, hc.2.1, hc.2.2.1, by omega, hf.1, hf.2.1, hf.2.2, rfl⟩
  · cases h
/-- Batches, one behind the other. -/
def allGo (l0 : List Pair) : List Pair → Int → List Change → List Int → List (List Note) → List Change × List Pair × List Int × Int
  | p, _, out, ends, [] => (out, p, ends, 0)
  | p, seq, out, ends, b :: r => if (runV p seq b).2.2 = 0 then allGo l0 (runV p seq b).2.1 (seq + ((runV p seq b).1.length : Int)) (out ++ (runV p seq b).1) (ends ++ [seq + ((runV p seq b).1.length : Int)]) r else ([], l0, [], (runV p seq b).2.2)
def allV (l : List Pair) (seq : Int) (bs : List (List Note)) : List Change × List Pair × List Int × Int := allGo l l seq [] [] bs

set_option maxRecDepth 10000 in
set_option maxHeartbeats 16000000 in
theorem batch_All (l : List Pair) (seq : Int) (bs : List (List Note)) (hl : l.length ≤ 1000) (hn : bs.length ≤ 1000) (hb : ∀ b ∈ bs, b.length ≤ 9223372036854775807) (hseq : seq ≤ 9223372036854775807) : Ct Try.prog 24 (YtjhjnphcdpjnbaaVm.ops [.row (l.map Pair.pv), .int .i64 seq, .row (bs.map rowN)]) (.vals [.row ((allV l seq bs).1.map Change.pv), .row ((allV l seq bs).2.1.map Pair.pv), .row ((allV l seq bs).2.2.1.map pvZ), .int .i64 (allV l seq bs).2.2.2]) := by
  obtain ⟨RO, RP, RE, re, hR⟩ : ∃ a b c d, allV l seq bs = (a, b, c, d) := ⟨_, _, _, _, rfl⟩
  rw [hR]
  unfold allV at hR
  simp only
  refine Ct.of_V Try.func24 rfl (by simp [YtjhjnphcdpjnbaaVm.ops, Try.f24]) ?_
  refine V.exec 400 ?_
  simp (config := {contextual := true}) only [go_sem, ↓reduceIte, reduceCtorEq, Bool.false_eq_true, Bool.true_eq_false, Nat.reduceAdd, Nat.reduceLT, Nat.reduceEqDiff, Nat.reduceLeDiff, Nat.reduceSub, Nat.reduceMul, Try.f24]
  refine V.loop (fun m ls os => ∃ (i : Nat) (out : List Change) (cur : List Pair) (ends : List Int) (sq : Int), i ≤ bs.length ∧ m = bs.length - i ∧ cur.length ≤ l.length + 8 * i ∧ out.length ≤ 8 * i ∧ ends.length ≤ i ∧ sq ≤ 9223372036854775807 ∧ allGo l cur sq out ends (bs.drop i) = (RO, RP, RE, re) ∧
      ls = [(0, .val (.row (l.map Pair.pv))), (1, .val (.int .i64 sq)), (10, .ref 0), (11, .ref 1), (12, .val (.row (cur.map Pair.pv))), (19, .val (.row (bs.map rowN))), (20, .val (.int .i64 bs.length)), (21, .val (.int .i64 i))] ∧ os = [.row 70 (out.map Change.pv), .row 3 (ends.map pvZ)]) 2 bs.length
    [(0, .val (.row (l.map Pair.pv))), (1, .val (.int .i64 seq)), (10, .ref 0), (11, .ref 1), (12, .val (.row (l.map Pair.pv))), (19, .val (.row (bs.map rowN))), (20, .val (.int .i64 bs.length)), (21, .val (.int .i64 0))] [.row 70 [], .row 3 []] [none, none]
    ⟨0, [], l, [], seq, Nat.zero_le _, rfl, Nat.le_refl _, Nat.le_refl _, Nat.le_refl _, hseq, hR, rfl, rfl⟩ (by simp only [go_sem, ↓reduceIte, reduceCtorEq, Bool.false_eq_true, Bool.true_eq_false, Nat.reduceAdd, Nat.reduceLT, Nat.reduceEqDiff, Nat.reduceLeDiff, Nat.reduceSub, Nat.reduceMul]; try decide) ?_
  rintro m ls os ⟨i, out, cur, ends, sq, hi, rfl, hcl, hol, hel, hsq, hca, rfl, rfl⟩
  refine V.exec 400 ?_
  by_cases hlt : i < bs.length
  · have hlt' : (i : Int) < (bs.length : Int) := by omega
    obtain ⟨b, hx⟩ : ∃ x, bs[i]? = some x := ⟨_, List.getElem?_eq_getElem hlt⟩
    have hbl := hb b (List.mem_of_getElem? hx)
    have hw : IntKind.i64.wrap ((i : Int) + 1) = ((i + 1 : Nat) : Int) := by rw [wrap_small3] <;> omega
    have cr := batch_Run cur sq b (by omega) (by omega) hsq
    rw [drop_of_get hx, allGo] at hca
    have hf := @runV_facts cur sq b
    obtain ⟨c, q, e, hC⟩ : ∃ a b' d, runV cur sq b = (a, b', d) := ⟨_, _, _, rfl⟩
    rw [hC] at cr hca hf
    simp only at cr hca hf
    simp (config := {contextual := true}) only [go_sem, ↓reduceIte, reduceCtorEq, Bool.false_eq_true, Bool.true_eq_false, Nat.reduceAdd, Nat.reduceLT, Nat.reduceEqDiff, Nat.reduceLeDiff, Nat.reduceSub, Nat.reduceMul, hlt', hx, rowN]
    refine V.call rfl rfl (by simp [dOK]) ⟨36, [], by simp only [go_sem, ↓reduceIte, reduceCtorEq, Bool.false_eq_true, Bool.true_eq_false, Nat.reduceAdd, Nat.reduceLT, Nat.reduceEqDiff, Nat.reduceLeDiff, Nat.reduceSub, Nat.reduceMul], ⟨_, rfl, rfl, rfl⟩, .inl ⟨[.row (cur.map Pair.pv), .int .i64 sq, .row (b.map Note.pv)], _, .inl (by simp only [go_sem, ↓reduceIte, reduceCtorEq, Bool.false_eq_true, Bool.true_eq_false, Nat.reduceAdd, Nat.reduceLT, Nat.reduceEqDiff, Nat.reduceLeDiff, Nat.reduceSub, Nat.reduceMul]), cr, .inr (.inl ⟨_, rfl, rfl, rfl⟩)⟩⟩ ?_
    refine V.exec 400 ?_
    by_cases he : e = 0
    · rw [if_pos he] at hca
      obtain ⟨f1, f2, f3, f4, f5, f6, f7, _⟩ := hf he
      have f8 := f1.1
      subst he
      have hw2 : IntKind.i64.wrap (sq + (c.length : Int)) = sq + (c.length : Int) := by rw [wrap_small3] <;> omega
      simp (config := {contextual := true}) only [go_sem, ↓reduceIte, reduceCtorEq, Bool.false_eq_true, Bool.true_eq_false, Nat.reduceAdd, Nat.reduceLT, Nat.reduceEqDiff, Nat.reduceLeDiff, Nat.reduceSub, Nat.reduceMul, hw, hw2]
      refine ⟨fun j _ => rfl, ⟨by omega, by omega⟩, ⟨by omega, by omega⟩, bs.length - (i + 1), _, _, [some 21, some 33], by omega, ⟨i + 1, out ++ c, q, ends ++ [sq + (c.length : Int)], sq + (c.length : Int), by omega, rfl, by omega, by simp; omega, by simp; omega, by omega, hca, rfl, rfl⟩, ?_⟩
      simp only [go_sem, ↓reduceIte, reduceCtorEq, Bool.false_eq_true, Bool.true_eq_false, Nat.reduceAdd, Nat.reduceLT, Nat.reduceEqDiff, Nat.reduceLeDiff, Nat.reduceSub, Nat.reduceMul, List.map_append, List.map_cons, List.map_nil, pvZ]
      try decide
    · rw [if_neg he, Prod.mk.injEq, Prod.mk.injEq, Prod.mk.injEq] at hca
      obtain ⟨rfl, rfl, rfl, rfl⟩ := hca
      simp (config := {contextual := true}) only [go_sem, ↓reduceIte, reduceCtorEq, Bool.false_eq_true, Bool.true_eq_false, Nat.reduceAdd, Nat.reduceLT, Nat.reduceEqDiff, Nat.reduceLeDiff, Nat.reduceSub, Nat.reduceMul, he, List.map_nil]
  · have hlt' : ¬ (i : Int) < (bs.length : Int) := by omega
    have hd : bs.drop i = [] := List.drop_eq_nil_of_le (by omega)
    rw [hd, allGo, Prod.mk.injEq, Prod.mk.injEq, Prod.mk.injEq] at hca
    obtain ⟨rfl, rfl, rfl, rfl⟩ := hca
    simp (config := {contextual := true}) only [go_sem, ↓reduceIte, reduceCtorEq, Bool.false_eq_true, Bool.true_eq_false, Nat.reduceAdd, Nat.reduceLT, Nat.reduceEqDiff, Nat.reduceLeDiff, Nat.reduceSub, Nat.reduceMul, hlt']
def smallP (l : List Pair) : Prop := l.length ≤ 60 ∧ ∀ p ∈ l, p.key.length ≤ 300 ∧ p.value.length ≤ 300
instance instSmallP (l : List Pair) : Decidable (smallP l) := by unfold smallP; infer_instance
def fewN (l : List Note) : Prop := l.length ≤ 20 ∧ ∀ p ∈ l, p.key.length ≤ 300 ∧ p.value.length ≤ 300
instance instFewN (l : List Note) : Decidable (fewN l) := by unfold fewN; infer_instance

end Go.Proofs.Ytjhjnphcdpjnbaa
set_option linter.unusedVariables false
set_option linter.unusedSimpArgs false
set_option maxRecDepth 8000
namespace Go.Proofs.Ytjhjnphcdpjnbaa
open Go Go.Proofs Go.Proofs.YtjhjnphcdpjnbaaVm Go.Proofs.Ytjhjnphcdpjnbaa.Ty

def aN1 : Note := ⟨1, [97], [49], 0⟩
def aN2 : Note := ⟨2, [98], [], 0⟩
def aN3 : Note := ⟨2, [97], [], 0⟩
def aN4 : Note := ⟨2, [], [], 0⟩
def aN5 : Note := ⟨1, [120], [], 0⟩
def aN0 : Note := ⟨0, [], [], 0⟩
def aC1 : Change := ⟨5, [97], false, [], true, [49]⟩
def aC2 : Change := ⟨6, [97], true, [49], false, []⟩
def aC3 : Change := ⟨1, [120], false, [], true, []⟩
def aP3 : Pair := ⟨[120], []⟩
theorem av1 : runV [] 4 [aN1, aN2, aN3] = ([aC1, aC2], [], 0) := by kernel_rfl
theorem av2 : runV [] 2147483646 [aN4, aN4] = ([], [], 5) := by kernel_rfl
theorem av3 : allV [] 0 [[aN4], [aN5]] = ([aC3], [aP3], [0, 1], 0) := by kernel_rfl
theorem av4 : batchOk [] := by decide +kernel
theorem av5 : ¬ batchOk [aN0] := by decide +kernel

end Go.Proofs.Ytjhjnphcdpjnbaa
set_option linter.unusedVariables false
set_option linter.unusedSimpArgs false
set_option maxRecDepth 8000
namespace Go.Proofs.Ytjhjnphcdpjnbaa
open Go Go.Proofs Go.Proofs.YtjhjnphcdpjnbaaVm Go.Proofs.Ytjhjnphcdpjnbaa.Ty

theorem runV_len (l : List Pair) (seq : Int) (ns : List Note) : (runV l seq ns).1.length ≤ ns.length ∧ (runV l seq ns).2.1.length ≤ l.length + ns.length := by
  by_cases h : (runV l seq ns).2.2 = 0
  · have hf := runV_facts h
    exact ⟨hf.2.2.2.2.1, hf.2.2.2.2.2.1⟩
  · unfold runV at *
    split
    · rename_i hc
      rw [if_pos hc] at h
      split
      · simp
      · rename_i h3
        rw [if_neg h3] at h
        exact absurd rfl h
    · simp

theorem note_one (qs : List PV) (hk : qs.map PV.kd = [.int .i64, .str, .str, .int .u64]) : ∃ s : Note, PV.agg qs = s.pv := by
  match qs, hk with
  | [.int k n, .str a, .str b, .int k' m], hk =>
    simp only [List.map_cons, PV.kd, List.cons.injEq, KD.int.injEq] at hk
    obtain ⟨rfl, _, _, rfl, _⟩ := hk
    exact ⟨⟨n, a, b, m⟩, by simp [Note.pv]⟩
theorem note_of (xs : List PV) (h : ∀ x ∈ xs, ∃ qs, x = .agg qs ∧ qs.map PV.kd = [.int .i64, .str, .str, .int .u64] ∧ ∀ q ∈ qs, q.wfv) : ∃ t : List Note, xs = t.map Note.pv := by
  induction xs with
  | nil => exact ⟨[], rfl⟩
  | cons x r ih =>
    obtain ⟨t, rfl⟩ := ih (fun y hy => h y (List.mem_cons_of_mem _ hy))
    obtain ⟨qs, rfl, hk, hw⟩ := h x List.mem_cons_self
    obtain ⟨s, hs⟩ := note_one qs hk
    exact ⟨s :: t, by simp [hs]⟩
theorem int_top {a : Int} (w : (Lit.int .i64 a).wf = true) : a ≤ 9223372036854775807 := by
  simp only [Lit.wf, Bool.and_eq_true, decide_eq_true_eq] at w
  have e2 : IntKind.max .i64 = 9223372036854775807 := by decide
  rw [e2] at w
  exact w.2
end Go.Proofs.Ytjhjnphcdpjnbaa
set_option linter.unusedVariables false
set_option linter.unusedSimpArgs false
set_option maxRecDepth 8000
namespace Go.Proofs.Ytjhjnphcdpjnbaa
open Go Go.Proofs Go.Proofs.YtjhjnphcdpjnbaaVm Go.Proofs.Ytjhjnphcdpjnbaa.Ty

theorem allGo_len (l0 : List Pair) : ∀ (bs : List (List Note)) (p : List Pair) (seq : Int) (out : List Change) (ends : List Int),
    (allGo l0 p seq out ends bs).1.length ≤ out.length + 8 * bs.length ∧ ((allGo l0 p seq out ends bs).2.1.length ≤ p.length + 8 * bs.length ∨ (allGo l0 p seq out ends bs).2.1 = l0) ∧ (allGo l0 p seq out ends bs).2.2.1.length ≤ ends.length + bs.length
  | [], p, seq, out, ends => by simp [allGo]
  | b :: r, p, seq, out, ends => by
    unfold allGo
    split
    · rename_i h
      have hf := runV_facts h
      have h8 := hf.1.1
      have h5 := hf.2.2.2.2.1
      have h6 := hf.2.2.2.2.2.1
      have ih := allGo_len l0 r (runV p seq b).2.1 (seq + ((runV p seq b).1.length : Int)) (out ++ (runV p seq b).1) (ends ++ [seq + ((runV p seq b).1.length : Int)])
      rw [List.length_append, List.length_append, List.length_singleton] at ih
      rw [List.length_cons]
      refine ⟨by omega, ?_, by omega⟩
      rcases ih.2.1 with h | h
      · left; omega
      · right; exact h
    · simp
theorem allV_len (l : List Pair) (seq : Int) (bs : List (List Note)) : (allV l seq bs).1.length ≤ 8 * bs.length ∧ (allV l seq bs).2.1.length ≤ l.length + 8 * bs.length ∧ (allV l seq bs).2.2.1.length ≤ bs.length := by
  have h := allGo_len l bs l seq [] []
  simp only [List.length_nil, Nat.zero_add] at h
  unfold allV
  refine ⟨h.1, ?_, h.2.2⟩
  rcases h.2.1 with g | g
  · exact g
  · rw [g]; omega

theorem notes_rows (xss : List (List PV)) (h : ∀ xs ∈ xss, xs.length ≤ maxLen ∧ ∀ x ∈ xs, ∃ qs, x = .agg qs ∧ qs.map PV.kd = [.int .i64, .str, .str, .int .u64] ∧ ∀ q ∈ qs, q.wfv) :
    ∃ bs : List (List Note), xss.map PV.row = bs.map rowN ∧ bs.length = xss.length ∧ ∀ b ∈ bs, b.length ≤ maxLen := by
  induction xss with
  | nil => exact ⟨[], rfl, rfl, by simp⟩
  | cons x r ih =>
    obtain ⟨t, ht, hl, hb⟩ := ih fun y hy => h y (List.mem_cons_of_mem _ hy)
    obtain ⟨g1, g2⟩ := h x List.mem_cons_self
    obtain ⟨n, rfl⟩ := note_of x g2
    refine ⟨n :: t, by rw [List.map_cons, List.map_cons, ht]; rfl, by simp [hl], fun b hbm => ?_⟩
    rcases List.mem_cons.1 hbm with rfl | hbm
    · simpa using g1
    · exact hb b hbm
end Go.Proofs.Ytjhjnphcdpjnbaa
set_option linter.unusedVariables false
set_option linter.unusedSimpArgs false
set_option maxRecDepth 8000
namespace Go.Proofs.Ytjhjnphcdpjnbaa
open Go Go.Proofs Go.Proofs.YtjhjnphcdpjnbaaVm Go.Proofs.Ytjhjnphcdpjnbaa.Ty

theorem allGo_cons (l0 : List Pair) {p : List Pair} {seq : Int} {x : List Note} (out : List Change) (ends : List Int) (r : List (List Note)) (h : (runV p seq x).2.2 = 0) :
    allGo l0 p seq out ends (x :: r) = allGo l0 (runV p seq x).2.1 (seq + ((runV p seq x).1.length : Int)) (out ++ (runV p seq x).1) (ends ++ [seq + ((runV p seq x).1.length : Int)]) r := by rw [allGo, if_pos h]
theorem allGo_app (l0 : List Pair) (b : List (List Note)) : ∀ (a : List (List Note)) (p : List Pair) (seq : Int) (out : List Change) (ends : List Int),
    allGo l0 p seq out ends (a ++ b) = if (allGo l0 p seq out ends a).2.2.2 = 0 then allGo l0 (allGo l0 p seq out ends a).2.1 (seq + ((allGo l0 p seq out ends a).1.length : Int) - (out.length : Int)) (allGo l0 p seq out ends a).1 (allGo l0 p seq out ends a).2.2.1 b else allGo l0 p seq out ends a
  | [], p, seq, out, ends => by
    have e : seq + (out.length : Int) - (out.length : Int) = seq := by omega
    simp only [List.nil_append, allGo, ↓reduceIte, e]
  | x :: r, p, seq, out, ends => by
    rw [List.cons_append]
    by_cases h : (runV p seq x).2.2 = 0
    · have ih := allGo_app l0 b r (runV p seq x).2.1 (seq + ((runV p seq x).1.length : Int)) (out ++ (runV p seq x).1) (ends ++ [seq + ((runV p seq x).1.length : Int)])
      rw [allGo_cons l0 out ends (r ++ b) h, allGo_cons l0 out ends r h, ih]
      have e : ∀ n : Int, seq + ((runV p seq x).1.length : Int) + n - ((out ++ (runV p seq x).1).length : Int) = seq + n - (out.length : Int) := fun n => by rw [List.length_append]; omega
      rw [e]
    · have e1 : ∀ t, allGo l0 p seq out ends (x :: t) = ([], l0, [], (runV p seq x).2.2) := fun t => by rw [allGo, if_neg h]
      rw [e1, e1, if_neg h]
theorem allGo_err (l0 : List Pair) : ∀ (a : List (List Note)) (p : List Pair) (seq : Int) (out : List Change) (ends : List Int), (allGo l0 p seq out ends a).2.2.2 ≠ 0 → allGo l0 p seq out ends a = ([], l0, [], (allGo l0 p seq out ends a).2.2.2)
  | [], p, seq, out, ends, h => absurd rfl h
  | x :: r, p, seq, out, ends, h => by
    unfold allGo at *
    by_cases h' : (runV p seq x).2.2 = 0
    · rw [if_pos h'] at *
      exact allGo_err l0 r _ _ _ _ h
    · rw [if_neg h']
theorem allGo_pre (l0 l1 : List Pair) (o : List Change) (d : List Int) : ∀ (a : List (List Note)) (p : List Pair) (seq : Int) (out : List Change) (ends : List Int),
    (allGo l0 p seq (o ++ out) (d ++ ends) a).2.2.2 = (allGo l1 p seq out ends a).2.2.2 ∧ ((allGo l1 p seq out ends a).2.2.2 = 0 → allGo l0 p seq (o ++ out) (d ++ ends) a = (o ++ (allGo l1 p seq out ends a).1, (allGo l1 p seq out ends a).2.1, d ++ (allGo l1 p seq out ends a).2.2.1, 0))
  | [], p, seq, out, ends => ⟨rfl, fun _ => rfl⟩
  | x :: r, p, seq, out, ends => by
    unfold allGo
    by_cases h : (runV p seq x).2.2 = 0
    · rw [if_pos h, if_pos h, List.append_assoc, List.append_assoc]
      exact allGo_pre l0 l1 o d r _ _ _ _
    · rw [if_neg h, if_neg h]
      exact ⟨rfl, fun g => absurd g h⟩
theorem allGo_seq (l0 : List Pair) : ∀ (a : List (List Note)) (p : List Pair) (seq : Int) (out : List Change) (ends : List Int), (allGo l0 p seq out ends a).2.2.2 = 0 →
    (allGo l0 p seq out ends a).1.length = out.length ∨ seq + ((allGo l0 p seq out ends a).1.length : Int) - (out.length : Int) ≤ 2147483647
  | [], p, seq, out, ends, _ => .inl rfl
  | x :: r, p, seq, out, ends, h => by
    unfold allGo at *
    by_cases h' : (runV p seq x).2.2 = 0
    · rw [if_pos h'] at *
      have hf := runV_facts h'
      have h4 := hf.2.2.2.1
      have h5 := hf.2.2.2.2.1
      have ih := allGo_seq l0 r _ _ _ _ h
      rw [List.length_append] at ih
      right
      rcases ih with ih | ih <;> omega
    · rw [if_neg h'] at h
      exact absurd h h'
theorem allV_seq (l : List Pair) (seq : Int) (a : List (List Note)) : (allV l seq a).1.length = 0 ∨ seq + ((allV l seq a).1.length : Int) ≤ 2147483647 := by
  unfold allV
  by_cases h : (allGo l l seq [] [] a).2.2.2 = 0
  · have := allGo_seq l a l seq [] [] h
    simpa using this
  · rw [allGo_err l a l seq [] [] h]; simp
theorem all_parts (l : List Pair) (seq : Int) (a b : List (List Note)) :
    ((allV l seq a).2.2.2 ≠ 0 → (allV l seq (a ++ b)).2.2.2 ≠ 0) ∧
    ((allV l seq a).2.2.2 = 0 → (allV l seq (a ++ b)).2.2.2 = (allV (allV l seq a).2.1 (seq + ((allV l seq a).1.length : Int)) b).2.2.2 ∧
      ((allV (allV l seq a).2.1 (seq + ((allV l seq a).1.length : Int)) b).2.2.2 = 0 → allV l seq (a ++ b) = ((allV l seq a).1 ++ (allV (allV l seq a).2.1 (seq + ((allV l seq a).1.length : Int)) b).1, (allV (allV l seq a).2.1 (seq + ((allV l seq a).1.length : Int)) b).2.1, (allV l seq a).2.2.1 ++ (allV (allV l seq a).2.1 (seq + ((allV l seq a).1.length : Int)) b).2.2.1, 0))) := by
  unfold allV
  rw [allGo_app l b a l seq [] []]
  refine ⟨fun h => by rw [if_neg h]; exact h, fun h => ?_⟩
  rw [if_pos h]
  have e : ∀ n : Int, seq + n - (([] : List Change).length : Int) = seq + n := fun n => by simp
  rw [e]
  have hp := allGo_pre l (allGo l l seq [] [] a).2.1 (allGo l l seq [] [] a).1 (allGo l l seq [] [] a).2.2.1 b (allGo l l seq [] [] a).2.1 (seq + ((allGo l l seq [] [] a).1.length : Int)) [] []
  simp only [List.append_nil] at hp
  exact hp
end Go.Proofs.Ytjhjnphcdpjnbaa
set_option linter.unusedVariables false
set_option linter.unusedSimpArgs false
set_option maxRecDepth 8000
namespace Go.Proofs.Ytjhjnphcdpjnbaa
open Go Go.Proofs Go.Proofs.YtjhjnphcdpjnbaaVm Go.Proofs.Ytjhjnphcdpjnbaa.Ty

theorem runV_err {l : List Pair} {seq : Int} {ns : List Note} (h : (runV l seq ns).2.2 ≠ 0) : (runV l seq ns).1 = [] ∧ (runV l seq ns).2.1 = l := by
  unfold runV at *
  split
  · rename_i hc
    rw [if_pos hc] at h
    split
    · exact ⟨rfl, rfl⟩
    · rename_i h3
      rw [if_neg h3] at h
      exact absurd rfl h
  · exact ⟨rfl, rfl⟩
theorem runGo_keys : ∀ (ns : List Note) (p : List Pair) (seq : Int) (out : List Change), ∃ cs, (runGo p seq out ns).1 = out ++ cs ∧ List.Sublist (cs.map Change.key) (ns.map Note.key) ∧ ∀ (j : Nat) (c : Change), cs[j]? = some c → c.seq = seq + out.length + j + 1
  | [], p, seq, out => ⟨[], by simp [runGo], List.Sublist.refl _, fun j c h => by simp at h⟩
  | n :: r, p, seq, out => by
    unfold runGo
    split
    · rename_i h
      obtain ⟨_, _, _, _, hk, hsq⟩ := ofV_does h
      obtain ⟨cs, h1, h2, h3⟩ := runGo_keys r (oneV p n) seq (out ++ [(ofV p (seq + out.length + 1) n).1])
      refine ⟨(ofV p (seq + out.length + 1) n).1 :: cs, by rw [h1]; simp, ?_, fun j c hc => ?_⟩
      · rw [List.map_cons, List.map_cons, hk]; exact h2.cons_cons _
      · cases j with
        | zero => simp at hc; subst hc; rw [hsq]; simp
        | succ j =>
          have := h3 j c (by simpa using hc)
          rw [this, List.length_append, List.length_singleton]
          omega
    · obtain ⟨cs, h1, h2, h3⟩ := runGo_keys r p seq out
      exact ⟨cs, h1, by rw [List.map_cons]; exact h2.cons _, h3⟩
theorem runV_keys {l : List Pair} {seq : Int} {ns : List Note} (h : (runV l seq ns).2.2 = 0) : List.Sublist ((runV l seq ns).1.map Change.key) (ns.map Note.key) ∧ ∀ (j : Nat) (c : Change), (runV l seq ns).1[j]? = some c → c.seq = seq + j + 1 := by
  have e := (runV_facts h).2.2.2.2.2.2.2
  rw [e]
  obtain ⟨cs, h1, h2, h3⟩ := runGo_keys ns l seq []
  rw [List.nil_append] at h1
  rw [h1]
  exact ⟨h2, fun j c hc => by have := h3 j c hc; simpa using this⟩
theorem sub_skip {α : Type} {a b : α} {l₁ l₂ : List α} (h : List.Sublist (a :: l₁) (b :: l₂)) (hne : ¬ b = a) : List.Sublist (a :: l₁) l₂ := by
  cases h with
  | cons _ h => exact h
  | cons_cons _ h => exact absurd rfl hne
def cb (c : Change) : Ob := .box true [.val (.int .i64 c.seq), .val (.str c.key), .val (.bool (decide (c.had = true))), .val (.str c.bef), .val (.bool (decide (c.has = true))), .val (.str c.aft)]

end Go.Proofs.Ytjhjnphcdpjnbaa
set_option linter.unusedVariables false
set_option linter.unusedSimpArgs false
set_option maxRecDepth 8000
namespace Go.Proofs.Ytjhjnphcdpjnbaa
open Go Go.Proofs Go.Proofs.YtjhjnphcdpjnbaaVm Go.Proofs.Ytjhjnphcdpjnbaa.Ty

def turnC (c : Change) : Change := ⟨c.seq, c.key, c.has, c.aft, c.had, c.bef⟩

set_option maxHeartbeats 4000000 in
theorem change_turned (c : Change) : Ct Try.prog 89 (YtjhjnphcdpjnbaaVm.ops [c.pv]) (.vals [(turnC c).pv]) := by
  refine Ct.of_V Try.func89 rfl (by simp [YtjhjnphcdpjnbaaVm.ops, Try.f89]) ?_
  refine V.exec 400 ?_
  simp (config := {contextual := true}) only [go_sem, ↓reduceIte, reduceCtorEq, Bool.false_eq_true, Bool.true_eq_false, Nat.reduceAdd, Nat.reduceLT, Nat.reduceEqDiff, Nat.reduceLeDiff, Nat.reduceSub, Nat.reduceMul, Try.f89, Change.pv, turnC]
  rfl

theorem Backward (xs : List PV) : Ct Try.prog 88 (YtjhjnphcdpjnbaaVm.ops [.row xs]) (.vals [.fn 99 [.ptr (.row xs)]]) := by
  refine Ct.of_V Try.func88 rfl (by simp [YtjhjnphcdpjnbaaVm.ops, Try.f88]) ?_
  refine V.exec 400 ?_
  simp (config := {contextual := true}) only [go_sem, ↓reduceIte, reduceCtorEq, Bool.false_eq_true, Bool.true_eq_false, Nat.reduceAdd, Nat.reduceLT, Nat.reduceEqDiff, Nat.reduceLeDiff, Nat.reduceSub, Nat.reduceMul, Try.f88]

def undoV (l : List Pair) (cs : List Change) : List Pair × Int := doV l (cs.reverse.map turnC)

/-- What has been put behind, when k rounds are over. -/
def backs (cs : List Change) (k : Nat) : List Change := (cs.reverse.take k).map turnC
theorem backs_succ (cs : List Change) (k : Nat) {x : Change} (h : cs[cs.length - 1 - k]? = some x) (hk : k < cs.length) : backs cs (k + 1) = backs cs k ++ [turnC x] := by
  unfold backs
  have : cs.reverse[k]? = some x := by rw [List.getElem?_reverse hk]; exact h
  rw [List.take_add_one, this]; simp
theorem backs_all (cs : List Change) : backs cs cs.length = cs.reverse.map turnC := by unfold backs; rw [List.take_of_length_le (by simp)]

theorem backs_zero (cs : List Change) : backs cs 0 = [] := rfl

def undoOs (cs : List Change) (k : Nat) : List Ob := [.box false [.ref 1], .row 70 ((backs cs k).map Change.pv)]

set_option maxRecDepth 10000 in
set_option maxHeartbeats 16000000 in
theorem change_Undo (l : List Pair) (cs : List Change) (hl : l.length ≤ 200000) (hn : cs.length ≤ 200000) : Ct Try.prog 66 (YtjhjnphcdpjnbaaVm.ops [.row (l.map Pair.pv), .row (cs.map Change.pv)]) (.vals [.row ((undoV l cs).1.map Pair.pv), .int .i64 (undoV l cs).2]) := by
  refine Ct.of_V Try.func66 rfl (by simp [YtjhjnphcdpjnbaaVm.ops, Try.f66]) ?_
  refine V.exec 400 ?_
  simp (config := {contextual := true}) only [go_sem, ↓reduceIte, reduceCtorEq, Bool.false_eq_true, Bool.true_eq_false, Nat.reduceAdd, Nat.reduceLT, Nat.reduceEqDiff, Nat.reduceLeDiff, Nat.reduceSub, Nat.reduceMul, Try.f66]
  refine V.call rfl rfl (by simp [dOK]) ⟨88, [], by simp only [go_sem, ↓reduceIte, reduceCtorEq, Bool.false_eq_true, Bool.true_eq_false, Nat.reduceAdd, Nat.reduceLT, Nat.reduceEqDiff, Nat.reduceLeDiff, Nat.reduceSub, Nat.reduceMul], ⟨_, rfl, rfl, rfl⟩, .inl ⟨[.row (cs.map Change.pv)], _, .inl (by simp only [go_sem, ↓reduceIte, reduceCtorEq, Bool.false_eq_true, Bool.true_eq_false, Nat.reduceAdd, Nat.reduceLT, Nat.reduceEqDiff, Nat.reduceLeDiff, Nat.reduceSub, Nat.reduceMul]), Backward (cs.map Change.pv), .inr (.inl ⟨_, rfl, rfl, rfl⟩)⟩⟩ ?_
  refine V.exec 400 ?_
  simp (config := {contextual := true}) only [go_sem, ↓reduceIte, reduceCtorEq, Bool.false_eq_true, Bool.true_eq_false, Nat.reduceAdd, Nat.reduceLT, Nat.reduceEqDiff, Nat.reduceLeDiff, Nat.reduceSub, Nat.reduceMul]
  refine V.cut 0 [(0, .val (.row (l.map Pair.pv))), (6, .adr 0 0), (10, .val (.fn 99 [.ptr (.row (cs.map Change.pv))]))] (undoOs cs 0) [some 4, none] (by simp only [go_sem, ↓reduceIte, reduceCtorEq, Bool.false_eq_true, Bool.true_eq_false, Nat.reduceAdd, Nat.reduceLT, Nat.reduceEqDiff, Nat.reduceLeDiff, Nat.reduceSub, Nat.reduceMul, undoOs, backs_zero, List.map_nil]; exact ⟨_, rfl, by decide⟩) ?_
  refine V.sem _ (SemCode.rangeL (x0 := .ptr (.row (cs.map Change.pv))) (fun i => i = 0) (fun ob => ob = (litSt [] (undoOs cs cs.length) 0).ob) (by simp only [go_sem, ↓reduceIte, reduceCtorEq, Bool.false_eq_true, Bool.true_eq_false, Nat.reduceAdd, Nat.reduceLT, Nat.reduceEqDiff, Nat.reduceLeDiff, Nat.reduceSub, Nat.reduceMul]) ⟨_, rfl, rfl, rfl⟩ Try.func99 rfl rfl (by simp [Try.f99]) (by decide) (by decide) ?_ ?_ 0 ?_) ?_
  · intro x hx i hi
    simp only [List.mem_cons, List.not_mem_nil, or_false] at hx
    rcases hx with rfl | rfl | rfl
    · exact hi.elim
    · exact hi.symm
    · exact hi.elim
  · rintro i rfl
    simp [litSt, undoOs]
  · intro rl rec md h1 h2 h3 h4 h5 h6 h7 h8 hYK
    refine V.exec 400 ?_
    have hw0 : IntKind.i64.wrap ((cs.length : Int) - 1) = (cs.length : Int) - 1 := by rw [wrap_small3] <;> omega
    simp (config := {contextual := true}) only [go_sem, ↓reduceIte, reduceCtorEq, Bool.false_eq_true, Bool.true_eq_false, Nat.reduceAdd, Nat.reduceLT, Nat.reduceEqDiff, Nat.reduceLeDiff, Nat.reduceSub, Nat.reduceMul, Try.f99, exec_retg, h8, hw0]
    refine V.lp (fun m σ => ∃ k, k ≤ cs.length ∧ m = cs.length - k ∧ σ.sl 0 = .val (.yld rl) ∧ σ.sl 1 = .val (.ptr (.row (cs.map Change.pv))) ∧ σ.sl 3 = .val (.int .i64 ((cs.length : Int) - 1 - k)) ∧ σ.ob = (litSt [] (undoOs cs k) 0).ob) cs.length ⟨0, Nat.zero_le _, rfl, by simp only [go_sem, ↓reduceIte, reduceCtorEq, Bool.false_eq_true, Bool.true_eq_false, Nat.reduceAdd, Nat.reduceLT, Nat.reduceEqDiff, Nat.reduceLeDiff, Nat.reduceSub, Nat.reduceMul], by simp only [go_sem, ↓reduceIte, reduceCtorEq, Bool.false_eq_true, Bool.true_eq_false, Nat.reduceAdd, Nat.reduceLT, Nat.reduceEqDiff, Nat.reduceLeDiff, Nat.reduceSub, Nat.reduceMul], by simp only [go_sem, ↓reduceIte, reduceCtorEq, Bool.false_eq_true, Bool.true_eq_false, Nat.reduceAdd, Nat.reduceLT, Nat.reduceEqDiff, Nat.reduceLeDiff, Nat.reduceSub, Nat.reduceMul, Int.sub_zero, Int.natCast_zero], rfl⟩ ?_
    rintro m σ ⟨k, hk, rfl, s0, s1, s3, so⟩
    refine V.exec 400 ?_
    by_cases hlt : k < cs.length
    · have hge : (0 : Int) ≤ (cs.length : Int) - 1 - k := by omega
      have hnat : ((cs.length : Int) - 1 - k).toNat = cs.length - 1 - k := by omega
      obtain ⟨x, hx⟩ : ∃ x, cs[cs.length - 1 - k]? = some x := ⟨_, List.getElem?_eq_getElem (by omega)⟩
      have hbs : (backs cs (k + 1)).map Change.pv = (backs cs k).map Change.pv ++ [(turnC x).pv] := by rw [backs_succ cs k hx hlt]; simp
      have hround : V .rnd Try.prog 23 (fun _ => False) [.code rec.assign, .stop (fun τ1 => V .rnd Try.prog 23 (fun τ => τ.ob 0 = .box false [.ref 106] ∧ τ.ob 106 = .row 70 ((backs cs (k + 1)).map Change.pv)) [.code rec.body] τ1)]
          (roundSt (litSt [(0, .val (.row (l.map Pair.pv))), (6, .adr 0 0), (10, .val (.fn 99 [.ptr (.row (cs.map Change.pv))]))] (undoOs cs 0) 0) 11 12 (.int .i64 ((cs.length : Int) - 1 - k)) x.pv σ.ob 100) := by
        rw [roundSt_lit _ _ _ _ _ _ _ _ (undoOs cs k) so, h5, h6]
        refine V.exec 400 ?_
        simp (config := {contextual := true}) only [go_sem, ↓reduceIte, reduceCtorEq, Bool.false_eq_true, Bool.true_eq_false, Nat.reduceAdd, Nat.reduceLT, Nat.reduceEqDiff, Nat.reduceLeDiff, Nat.reduceSub, Nat.reduceMul, undoOs, Change.pv]
        refine V.exec 400 ?_
        simp (config := {contextual := true}) only [go_sem, ↓reduceIte, reduceCtorEq, Bool.false_eq_true, Bool.true_eq_false, Nat.reduceAdd, Nat.reduceLT, Nat.reduceEqDiff, Nat.reduceLeDiff, Nat.reduceSub, Nat.reduceMul, Change.pv]
        refine DV.call [] [] (by simp only [go_sem, ↓reduceIte, reduceCtorEq, Bool.false_eq_true, Bool.true_eq_false, Nat.reduceAdd, Nat.reduceLT, Nat.reduceEqDiff, Nat.reduceLeDiff, Nat.reduceSub, Nat.reduceMul, Change.pv]) (by simp [dOK]) ⟨89, [], by simp only [go_sem, ↓reduceIte, reduceCtorEq, Bool.false_eq_true, Bool.true_eq_false, Nat.reduceAdd, Nat.reduceLT, Nat.reduceEqDiff, Nat.reduceLeDiff, Nat.reduceSub, Nat.reduceMul, Change.pv], ⟨_, rfl, rfl, rfl⟩, .inl ⟨[x.pv], _, .inl (by simp only [go_sem, ↓reduceIte, reduceCtorEq, Bool.false_eq_true, Bool.true_eq_false, Nat.reduceAdd, Nat.reduceLT, Nat.reduceEqDiff, Nat.reduceLeDiff, Nat.reduceSub, Nat.reduceMul, Change.pv]), change_turned x, .inr (.inl ⟨_, rfl, rfl, rfl⟩)⟩⟩ (by simp only [go_sem, ↓reduceIte, reduceCtorEq, Bool.false_eq_true, Bool.true_eq_false, Nat.reduceAdd, Nat.reduceLT, Nat.reduceEqDiff, Nat.reduceLeDiff, Nat.reduceSub, Nat.reduceMul, Change.pv]) (by simp only [go_sem, ↓reduceIte, reduceCtorEq, Bool.false_eq_true, Bool.true_eq_false, Nat.reduceAdd, Nat.reduceLT, Nat.reduceEqDiff, Nat.reduceLeDiff, Nat.reduceSub, Nat.reduceMul, Change.pv]) (by simp only [go_sem, ↓reduceIte, reduceCtorEq, Bool.false_eq_true, Bool.true_eq_false, Nat.reduceAdd, Nat.reduceLT, Nat.reduceEqDiff, Nat.reduceLeDiff, Nat.reduceSub, Nat.reduceMul, Change.pv]) (by simp) ?_
        refine DV.exec 400 ?_
        simp (config := {contextual := true}) only [go_sem, ↓reduceIte, reduceCtorEq, Bool.false_eq_true, Bool.true_eq_false, Nat.reduceAdd, Nat.reduceLT, Nat.reduceEqDiff, Nat.reduceLeDiff, Nat.reduceSub, Nat.reduceMul, Change.pv, turnC, hbs]
        have hbl : (backs cs k).length ≤ 200000 := by unfold backs; simp; omega
        exact ⟨⟨by omega, by omega⟩, by kernel_rfl⟩
      have hw1 : IntKind.i64.wrap ((cs.length : Int) - 1 - k - 1) = (cs.length : Int) - 1 - ((k + 1 : Nat) : Int) := by rw [wrap_small3] <;> omega
      simp (config := {contextual := true}) only [go_sem, ↓reduceIte, reduceCtorEq, Bool.false_eq_true, Bool.true_eq_false, Nat.reduceAdd, Nat.reduceLT, Nat.reduceEqDiff, Nat.reduceLeDiff, Nat.reduceSub, Nat.reduceMul, s0, s1, s3, hge, hnat, hx, Change.pv]
      simp only [Change.pv] at hround
      refine V.sop (J := fun σ' => V md _ _ _ _ σ') (SemOp.yield hYK h1 h2 h3 h4 (by decide) (by decide) rfl rfl (by simp only [go_sem, ↓reduceIte, reduceCtorEq, Bool.false_eq_true, Bool.true_eq_false, Nat.reduceAdd, Nat.reduceLT, Nat.reduceEqDiff, Nat.reduceLeDiff, Nat.reduceSub, Nat.reduceMul]) (by simp only [go_sem, ↓reduceIte, reduceCtorEq, Bool.false_eq_true, Bool.true_eq_false, Nat.reduceAdd, Nat.reduceLT, Nat.reduceEqDiff, Nat.reduceLeDiff, Nat.reduceSub, Nat.reduceMul]) (by simp only [go_sem, ↓reduceIte, reduceCtorEq, Bool.false_eq_true, Bool.true_eq_false, Nat.reduceAdd, Nat.reduceLT, Nat.reduceEqDiff, Nat.reduceLeDiff, Nat.reduceSub, Nat.reduceMul]) (by simp [dOK]) 100 hround (fun _ h => h) 0 ?_) (fun _ h => h)
      rintro ⟨sl2, ob2, ck2⟩ ⟨o1, o2⟩
      have o1 : ob2 0 = _ := o1
      have o2 : ob2 106 = _ := o2
      refine ⟨[(0, .val (.yld rl)), (1, .val (.ptr (.row (cs.map Change.pv)))), (3, .val (.int .i64 ((cs.length : Int) - 1 - k))), (17, .val (.bool true))], undoOs cs (k + 1), [some 0, some 106], 0, ?_, ?_, ?_⟩
      · simp only [go_sem, ↓reduceIte, reduceCtorEq, Bool.false_eq_true, Bool.true_eq_false, Nat.reduceAdd, Nat.reduceLT, Nat.reduceEqDiff, Nat.reduceLeDiff, Nat.reduceSub, Nat.reduceMul, s0, s1, s3, o1, o2, undoOs]
        decide
      · rintro i rfl; rfl
      · refine V.exec 400 ?_
        simp (config := {contextual := true}) only [go_sem, ↓reduceIte, reduceCtorEq, Bool.false_eq_true, Bool.true_eq_false, Nat.reduceAdd, Nat.reduceLT, Nat.reduceEqDiff, Nat.reduceLeDiff, Nat.reduceSub, Nat.reduceMul, hw1]
        exact ⟨cs.length - (k + 1), by omega, k + 1, by omega, rfl, rfl, rfl⟩
    · have hge : ¬ (0 : Int) ≤ (cs.length : Int) - 1 - k := by omega
      obtain rfl : k = cs.length := by omega
      simp (config := {contextual := true}) only [go_sem, ↓reduceIte, reduceCtorEq, Bool.false_eq_true, Bool.true_eq_false, Nat.reduceAdd, Nat.reduceLT, Nat.reduceEqDiff, Nat.reduceLeDiff, Nat.reduceSub, Nat.reduceMul, s0, s1, s3, hge]
      exact so
  · rintro ⟨sl, ob, ck⟩ ⟨hs, ho⟩
    have hs : sl = _ := hs
    have ho : ob = _ := ho
    subst hs ho
    show V _ _ _ _ _ (litSt [(0, .val (.row (l.map Pair.pv))), (6, .adr 0 0), (10, .val (.fn 99 [.ptr (.row (cs.map Change.pv))]))] (undoOs cs cs.length) ck)
    refine V.cut 10 [(0, .val (.row (l.map Pair.pv))), (6, .adr 0 0)] [.box false [.ref 1], .row 70 ((cs.reverse.map turnC).map Change.pv)] [some 0, some 1] (by simp only [go_sem, ↓reduceIte, reduceCtorEq, Bool.false_eq_true, Bool.true_eq_false, Nat.reduceAdd, Nat.reduceLT, Nat.reduceEqDiff, Nat.reduceLeDiff, Nat.reduceSub, Nat.reduceMul, undoOs, backs_all]; decide) ?_
    refine V.exec 400 ?_
    simp (config := {contextual := true}) only [go_sem, ↓reduceIte, reduceCtorEq, Bool.false_eq_true, Bool.true_eq_false, Nat.reduceAdd, Nat.reduceLT, Nat.reduceEqDiff, Nat.reduceLeDiff, Nat.reduceSub, Nat.reduceMul]
    refine V.call rfl rfl (by simp [dOK]) ⟨33, [], by simp only [go_sem, ↓reduceIte, reduceCtorEq, Bool.false_eq_true, Bool.true_eq_false, Nat.reduceAdd, Nat.reduceLT, Nat.reduceEqDiff, Nat.reduceLeDiff, Nat.reduceSub, Nat.reduceMul], ⟨_, rfl, rfl, rfl⟩, .inl ⟨[.row (l.map Pair.pv), .row ((cs.reverse.map turnC).map Change.pv)], _, .inl (by simp only [go_sem, ↓reduceIte, reduceCtorEq, Bool.false_eq_true, Bool.true_eq_false, Nat.reduceAdd, Nat.reduceLT, Nat.reduceEqDiff, Nat.reduceLeDiff, Nat.reduceSub, Nat.reduceMul]), change_Do l (cs.reverse.map turnC) hl (by simpa using hn), .inr (.inl ⟨_, rfl, rfl, rfl⟩)⟩⟩ ?_
    refine V.exec 400 ?_
    simp (config := {contextual := true}) only [go_sem, ↓reduceIte, reduceCtorEq, Bool.false_eq_true, Bool.true_eq_false, Nat.reduceAdd, Nat.reduceLT, Nat.reduceEqDiff, Nat.reduceLeDiff, Nat.reduceSub, Nat.reduceMul, undoV]
end Go.Proofs.Ytjhjnphcdpjnbaa
set_option linter.unusedVariables false
set_option linter.unusedSimpArgs false
set_option maxRecDepth 8000
namespace Go.Proofs.Ytjhjnphcdpjnbaa
open Go Go.Proofs Go.Proofs.YtjhjnphcdpjnbaaVm Go.Proofs.Ytjhjnphcdpjnbaa.Ty

def joinOk (a b : Change) : Prop := a.ok ∧ b.ok ∧ a.key = b.key ∧ a.seq < b.seq ∧ a.aft = b.bef ∧ a.has = b.had
instance instJoinOk (a b : Change) : Decidable (joinOk a b) := by unfold joinOk; infer_instance
def joinV (a b : Change) : Change × Int := if joinOk a b then madeV b.seq b.key (a.bef, a.had) (b.aft, b.has) else (Change.zero, 1)

end Go.Proofs.Ytjhjnphcdpjnbaa
set_option linter.unusedVariables false
set_option linter.unusedSimpArgs false
set_option maxRecDepth 8000
namespace Go.Proofs.Ytjhjnphcdpjnbaa
open Go Go.Proofs Go.Proofs.YtjhjnphcdpjnbaaVm Go.Proofs.Ytjhjnphcdpjnbaa.Ty

set_option maxRecDepth 4000 in
set_option maxHeartbeats 8000000 in
theorem ref13_May (c : Change) : Ct Try.prog 60 (YtjhjnphcdpjnbaaVm.ops [c.pv]) (.vals [.bool (decide c.ok)]) := by
  refine Ct.of_V Try.func60 rfl (by simp [YtjhjnphcdpjnbaaVm.ops, Try.f60]) ?_
  refine V.exec 400 ?_
  simp (config := {contextual := true}) only [go_sem, ↓reduceIte, reduceCtorEq, Bool.false_eq_true, Bool.true_eq_false, Nat.reduceAdd, Nat.reduceLT, Nat.reduceEqDiff, Nat.reduceLeDiff, Nat.reduceSub, Nat.reduceMul, Try.f60, Change.pv]
  simp only [Option.some.injEq, List.cons.injEq, PV.bool.injEq, and_true]
  (repeat' (first | (intro _) | (refine ⟨by kernel_rfl, ?_⟩) | (apply And.intro)))
  all_goals grind [Change.ok]

/-- Do pairs have a key just so? -/
def fitsP (l : List Pair) (k : List UInt8) (has : Bool) (v : List UInt8) : Prop := match getL l k with
  | some p => has = true ∧ p.value = v
  | none => has = false
instance instFitsP (l : List Pair) (k : List UInt8) (has : Bool) (v : List UInt8) : Decidable (fitsP l k has v) := by unfold fitsP; split <;> infer_instance

set_option maxHeartbeats 4000000 in
theorem ref15_fits (l : List Pair) (k : List UInt8) (has : Bool) (v : List UInt8) (hl : l.length ≤ 1000000) (hs : Sorted l) : Ct Try.prog 61 (YtjhjnphcdpjnbaaVm.ops [.row (l.map Pair.pv), .str k, .bool (decide (has = true)), .str v]) (.vals [.bool (decide (fitsP l k has v))]) := by
  have cf := ref10_Find l k hl
  cases hg : getL l k with
  | none =>
    rw [refFindP_neg hg] at cf
    have hm1 : (-1 : Int) < 0 := by decide
    have e : fitsP l k has v ↔ has = false := by unfold fitsP; rw [hg]
    refine Ct.of_V Try.func61 rfl (by simp [YtjhjnphcdpjnbaaVm.ops, Try.f61]) ?_
    refine V.exec 400 ?_
    simp (config := {contextual := true}) only [go_sem, ↓reduceIte, reduceCtorEq, Bool.false_eq_true, Bool.true_eq_false, Nat.reduceAdd, Nat.reduceLT, Nat.reduceEqDiff, Nat.reduceLeDiff, Nat.reduceSub, Nat.reduceMul, Try.f61]
    refine V.call rfl rfl (by simp [dOK]) ⟨85, [], by simp only [go_sem, ↓reduceIte, reduceCtorEq, Bool.false_eq_true, Bool.true_eq_false, Nat.reduceAdd, Nat.reduceLT, Nat.reduceEqDiff, Nat.reduceLeDiff, Nat.reduceSub, Nat.reduceMul], ⟨_, rfl, rfl, rfl⟩, .inl ⟨[.row (l.map Pair.pv), .str k], _, .inl (by simp only [go_sem, ↓reduceIte, reduceCtorEq, Bool.false_eq_true, Bool.true_eq_false, Nat.reduceAdd, Nat.reduceLT, Nat.reduceEqDiff, Nat.reduceLeDiff, Nat.reduceSub, Nat.reduceMul]), cf, .inl ⟨_, rfl, rfl, rfl, rfl⟩⟩⟩ ?_
    refine V.exec 400 ?_
    simp (config := {contextual := true}) only [go_sem, ↓reduceIte, reduceCtorEq, Bool.false_eq_true, Bool.true_eq_false, Nat.reduceAdd, Nat.reduceLT, Nat.reduceEqDiff, Nat.reduceLeDiff, Nat.reduceSub, Nat.reduceMul, hm1]
    cases has <;> simp [e]
  | some p =>
    obtain ⟨i, hfi, hpi, hil⟩ := refFindP_some hs hg
    rw [hfi] at cf
    have hil' : (i : Int) < (l.length : Int) := by omega
    have h0 : ¬ (i : Int) < 0 := by omega
    have e : ∀ b, fitsP l k b v ↔ b = true ∧ p.value = v := fun b => by unfold fitsP; rw [hg]
    refine Ct.of_V Try.func61 rfl (by simp [YtjhjnphcdpjnbaaVm.ops, Try.f61]) ?_
    refine V.exec 400 ?_
    simp (config := {contextual := true}) only [go_sem, ↓reduceIte, reduceCtorEq, Bool.false_eq_true, Bool.true_eq_false, Nat.reduceAdd, Nat.reduceLT, Nat.reduceEqDiff, Nat.reduceLeDiff, Nat.reduceSub, Nat.reduceMul, Try.f61]
    refine V.call rfl rfl (by simp [dOK]) ⟨85, [], by simp only [go_sem, ↓reduceIte, reduceCtorEq, Bool.false_eq_true, Bool.true_eq_false, Nat.reduceAdd, Nat.reduceLT, Nat.reduceEqDiff, Nat.reduceLeDiff, Nat.reduceSub, Nat.reduceMul], ⟨_, rfl, rfl, rfl⟩, .inl ⟨[.row (l.map Pair.pv), .str k], _, .inl (by simp only [go_sem, ↓reduceIte, reduceCtorEq, Bool.false_eq_true, Bool.true_eq_false, Nat.reduceAdd, Nat.reduceLT, Nat.reduceEqDiff, Nat.reduceLeDiff, Nat.reduceSub, Nat.reduceMul]), cf, .inl ⟨_, rfl, rfl, rfl, rfl⟩⟩⟩ ?_
    refine V.exec 400 ?_
    simp (config := {contextual := true}) only [go_sem, ↓reduceIte, reduceCtorEq, Bool.false_eq_true, Bool.true_eq_false, Nat.reduceAdd, Nat.reduceLT, Nat.reduceEqDiff, Nat.reduceLeDiff, Nat.reduceSub, Nat.reduceMul, h0, hpi, hil', Pair.pv]
    cases has <;> simp [e]

/-- Pairs with a key just so. -/
def insR (k v : List UInt8) : List Pair → List Pair
  | [] => [⟨k, v⟩]
  | p :: r => if slt p.key k then p :: insR k v r else ⟨k, v⟩ :: (p :: r).filter (fun p => decide (¬ p.key = k))
def setR (l : List Pair) (k : List UInt8) (has : Bool) (v : List UInt8) : List Pair := if has = true then insR k v l else l.filter (fun p => decide (¬ p.key = k))
def restR (d : Bool) (k v : List UInt8) (l : List Pair) : List Pair := if d = true then l.filter (fun p => decide (¬ p.key = k)) else insR k v l

theorem restR_len (d : Bool) (k v : List UInt8) : ∀ l : List Pair, (restR d k v l).length ≤ l.length + 1
  | [] => by cases d <;> simp [restR, insR]
  | p :: r => by
    have ih := restR_len d k v r
    unfold restR at *
    cases d with
    | true =>
      have h := List.length_filter_le (fun p => decide (¬ p.key = k)) (p :: r)
      rw [if_pos rfl]; omega
    | false =>
      rw [if_neg (by decide)] at *
      unfold insR
      split
      · simp only [List.length_cons]; omega
      · have h := List.length_filter_le (fun p => decide (¬ p.key = k)) (p :: r)
        simp only [List.length_cons] at *; omega

set_option maxRecDepth 10000 in
set_option maxHeartbeats 16000000 in
theorem ref15_set (l : List Pair) (k : List UInt8) (has : Bool) (v : List UInt8) (hl : l.length ≤ 1000000) : Ct Try.prog 62 (YtjhjnphcdpjnbaaVm.ops [.row (l.map Pair.pv), .str k, .bool (decide (has = true)), .str v]) (.vals [.row ((setR l k has v).map Pair.pv)]) := by
  have h0 : setR l k has v = restR (!has) k v l := by cases has <;> rfl
  have hd0 : (!decide (has = true)) = decide ((!has) = true) := by cases has <;> rfl
  rw [h0]
  have hca0 : [] ++ restR (!has) k v (l.drop 0) = restR (!has) k v l := by simp
  have hlen := restR_len (!has) k v l
  generalize restR (!has) k v l = RES at *
  refine Ct.of_V Try.func62 rfl (by simp [YtjhjnphcdpjnbaaVm.ops, Try.f62]) ?_
  refine V.exec 400 ?_
  simp (config := {contextual := true}) only [go_sem, ↓reduceIte, reduceCtorEq, Bool.false_eq_true, Bool.true_eq_false, Nat.reduceAdd, Nat.reduceLT, Nat.reduceEqDiff, Nat.reduceLeDiff, Nat.reduceSub, Nat.reduceMul, Try.f62, hd0]
  refine V.loop (fun m ls os => ∃ (i : Nat) (d : Bool) (out : List Pair), i ≤ l.length ∧ m = l.length - i ∧ out ++ restR d k v (l.drop i) = RES ∧
        ls = [(0, .val (.row (l.map Pair.pv))), (1, .val (.str k)), (3, .val (.str v)), (9, .ref 0), (10, .val (.bool (decide (d = true)))), (11, .val (.int .i64 i))] ∧ os = [.row 73 (out.map Pair.pv)]) 1 l.length
      [(0, .val (.row (l.map Pair.pv))), (1, .val (.str k)), (3, .val (.str v)), (9, .ref 0), (10, .val (.bool (decide ((!has) = true)))), (11, .val (.int .i64 0))] [.row 73 []] [none]
      ⟨0, !has, [], Nat.zero_le _, rfl, hca0, rfl, rfl⟩ (by simp only [go_sem, ↓reduceIte, reduceCtorEq, Bool.false_eq_true, Bool.true_eq_false, Nat.reduceAdd, Nat.reduceLT, Nat.reduceEqDiff, Nat.reduceLeDiff, Nat.reduceSub, Nat.reduceMul]; try decide) ?_
  rintro m ls os ⟨i, d, out, hi, rfl, hca, rfl, rfl⟩
  refine V.exec 400 ?_
  have hol : out.length ≤ l.length + 1 := by have := congrArg List.length hca; rw [List.length_append] at this; omega
  by_cases hlt : i < l.length
  · have hlt' : (i : Int) < (l.length : Int) := by omega
    obtain ⟨p, hp⟩ : ∃ x, l[i]? = some x := ⟨_, List.getElem?_eq_getElem hlt⟩
    have hw : IntKind.i64.wrap ((i : Int) + 1) = ((i + 1 : Nat) : Int) := by rw [wrap_small3] <;> omega
    rw [drop_of_get hp] at hca
    cases d with
    | true =>
      by_cases hk : p.key = k
      · have hn : out ++ restR true k v (l.drop (i + 1)) = RES := by rw [← hca]; simp [restR, hk]
        simp (config := {contextual := true}) only [go_sem, ↓reduceIte, reduceCtorEq, Bool.false_eq_true, Bool.true_eq_false, Nat.reduceAdd, Nat.reduceLT, Nat.reduceEqDiff, Nat.reduceLeDiff, Nat.reduceSub, Nat.reduceMul, hlt', hp, hw, hk, Pair.pv, decide_true]
        refine ⟨l.length - (i + 1), _, _, [some 0], by omega, ⟨i + 1, true, out, by omega, rfl, hn, rfl, rfl⟩, ?_⟩
        simp only [go_sem, ↓reduceIte, reduceCtorEq, Bool.false_eq_true, Bool.true_eq_false, Nat.reduceAdd, Nat.reduceLT, Nat.reduceEqDiff, Nat.reduceLeDiff, Nat.reduceSub, Nat.reduceMul, decide_true]
      · have hn : (out ++ [p]) ++ restR true k v (l.drop (i + 1)) = RES := by rw [← hca]; simp [restR, hk]
        simp (config := {contextual := true}) only [go_sem, ↓reduceIte, reduceCtorEq, Bool.false_eq_true, Bool.true_eq_false, Nat.reduceAdd, Nat.reduceLT, Nat.reduceEqDiff, Nat.reduceLeDiff, Nat.reduceSub, Nat.reduceMul, hlt', hp, hw, hk, Pair.pv, decide_true]
        refine ⟨⟨by omega, by omega⟩, l.length - (i + 1), _, _, [some 29], by omega, ⟨i + 1, true, _, by omega, rfl, hn, rfl, rfl⟩, ?_⟩
        simp only [go_sem, ↓reduceIte, reduceCtorEq, Bool.false_eq_true, Bool.true_eq_false, Nat.reduceAdd, Nat.reduceLT, Nat.reduceEqDiff, Nat.reduceLeDiff, Nat.reduceSub, Nat.reduceMul, List.map_append, List.map_cons, List.map_nil, Pair.pv, decide_true, decide_false]
    | false =>
      by_cases hs : slt p.key k
      · have hk : ¬ p.key = k := fun e => slt_irrefl k (by rw [e] at hs; exact hs)
        have hn : (out ++ [p]) ++ restR false k v (l.drop (i + 1)) = RES := by rw [← hca]; simp [restR, insR, hs]
        simp (config := {contextual := true}) only [go_sem, ↓reduceIte, reduceCtorEq, Bool.false_eq_true, Bool.true_eq_false, Nat.reduceAdd, Nat.reduceLT, Nat.reduceEqDiff, Nat.reduceLeDiff, Nat.reduceSub, Nat.reduceMul, hlt', hp, hw, hk, hs, Pair.pv, decide_true, decide_false]
        refine ⟨⟨by omega, by omega⟩, l.length - (i + 1), _, _, [some 29], by omega, ⟨i + 1, false, _, by omega, rfl, hn, rfl, rfl⟩, ?_⟩
        simp only [go_sem, ↓reduceIte, reduceCtorEq, Bool.false_eq_true, Bool.true_eq_false, Nat.reduceAdd, Nat.reduceLT, Nat.reduceEqDiff, Nat.reduceLeDiff, Nat.reduceSub, Nat.reduceMul, List.map_append, List.map_cons, List.map_nil, Pair.pv, decide_true, decide_false]
      · by_cases hk : p.key = k
        · have hn : (out ++ [⟨k, v⟩]) ++ restR true k v (l.drop (i + 1)) = RES := by rw [← hca]; rw [hk] at hs; simp [restR, insR, hs, hk]
          have hsi := slt_irrefl k
          simp (config := {contextual := true}) only [go_sem, ↓reduceIte, reduceCtorEq, Bool.false_eq_true, Bool.true_eq_false, Nat.reduceAdd, Nat.reduceLT, Nat.reduceEqDiff, Nat.reduceLeDiff, Nat.reduceSub, Nat.reduceMul, hlt', hp, hw, hk, hsi, Pair.pv, decide_true, decide_false]
          refine ⟨⟨by omega, by omega⟩, l.length - (i + 1), _, _, [some 21], by omega, ⟨i + 1, true, _, by omega, rfl, hn, rfl, rfl⟩, ?_⟩
          simp only [go_sem, ↓reduceIte, reduceCtorEq, Bool.false_eq_true, Bool.true_eq_false, Nat.reduceAdd, Nat.reduceLT, Nat.reduceEqDiff, Nat.reduceLeDiff, Nat.reduceSub, Nat.reduceMul, List.map_append, List.map_cons, List.map_nil, Pair.pv, decide_true, decide_false]
        · have hn : (out ++ [⟨k, v⟩, p]) ++ restR true k v (l.drop (i + 1)) = RES := by rw [← hca]; simp [restR, insR, hs, hk]
          simp (config := {contextual := true}) only [go_sem, ↓reduceIte, reduceCtorEq, Bool.false_eq_true, Bool.true_eq_false, Nat.reduceAdd, Nat.reduceLT, Nat.reduceEqDiff, Nat.reduceLeDiff, Nat.reduceSub, Nat.reduceMul, hlt', hp, hw, hk, hs, Pair.pv, decide_true, decide_false]
          refine ⟨⟨by omega, by omega⟩, ⟨by simp; omega, by simp; omega⟩, l.length - (i + 1), _, _, [some 37], by omega, ⟨i + 1, true, _, by omega, rfl, hn, rfl, rfl⟩, ?_⟩
          simp only [go_sem, ↓reduceIte, reduceCtorEq, Bool.false_eq_true, Bool.true_eq_false, Nat.reduceAdd, Nat.reduceLT, Nat.reduceEqDiff, Nat.reduceLeDiff, Nat.reduceSub, Nat.reduceMul, List.map_append, List.map_cons, List.map_nil, Pair.pv, decide_true, decide_false, List.append_assoc, List.cons_append, List.nil_append]
  · have hlt' : ¬ (i : Int) < (l.length : Int) := by omega
    have hd : l.drop i = [] := List.drop_eq_nil_of_le (by omega)
    rw [hd] at hca
    cases d with
    | true =>
      have : out = RES := by rw [← hca]; simp [restR]
      simp (config := {contextual := true}) only [go_sem, ↓reduceIte, reduceCtorEq, Bool.false_eq_true, Bool.true_eq_false, Nat.reduceAdd, Nat.reduceLT, Nat.reduceEqDiff, Nat.reduceLeDiff, Nat.reduceSub, Nat.reduceMul, hlt', this, decide_true]
    | false =>
      have hn : out ++ [⟨k, v⟩] = RES := by rw [← hca]; simp [restR, insR]
      simp (config := {contextual := true}) only [go_sem, ↓reduceIte, reduceCtorEq, Bool.false_eq_true, Bool.true_eq_false, Nat.reduceAdd, Nat.reduceLT, Nat.reduceEqDiff, Nat.reduceLeDiff, Nat.reduceSub, Nat.reduceMul, hlt', decide_false]
      refine ⟨⟨by omega, by omega⟩, ?_⟩
      rw [← hn]; simp [Pair.pv]
end Go.Proofs.Ytjhjnphcdpjnbaa
set_option linter.unusedVariables false
set_option linter.unusedSimpArgs false
set_option maxRecDepth 8000
namespace Go.Proofs.Ytjhjnphcdpjnbaa
open Go Go.Proofs Go.Proofs.YtjhjnphcdpjnbaaVm Go.Proofs.Ytjhjnphcdpjnbaa.Ty

theorem insR_mem {k v : List UInt8} : ∀ (l : List Pair), Sorted l → ∀ p, p ∈ insR k v l ↔ p = ⟨k, v⟩ ∨ (p ∈ l ∧ p.key ≠ k)
  | [], _, p => by simp [insR]
  | q :: r, hs, p => by
    have hs' := hs
    cases hs with
    | cons h1 h2 =>
      have ih := insR_mem (k := k) (v := v) r h2 p
      unfold insR
      split
      · rename_i hq
        have hne : q.key ≠ k := fun e => slt_irrefl k (by rw [e] at hq; exact hq)
        rw [List.mem_cons, ih, List.mem_cons]
        constructor
        · rintro (rfl | h | h)
          · exact .inr ⟨.inl rfl, hne⟩
          · exact .inl h
          · exact .inr ⟨.inr h.1, h.2⟩
        · rintro (h | ⟨rfl | h, h3⟩)
          · exact .inr (.inl h)
          · exact .inl rfl
          · exact .inr (.inr ⟨h, h3⟩)
      · rw [List.mem_cons, List.mem_filter]
        simp
theorem insR_sorted {k v : List UInt8} : ∀ (l : List Pair), Sorted l → Sorted (insR k v l)
  | [], _ => List.pairwise_singleton _ _
  | q :: r, hs => by
    have hs' := hs
    cases hs with
    | cons h1 h2 =>
      have ih := insR_sorted (k := k) (v := v) r h2
      unfold insR
      split
      · rename_i hq
        refine List.pairwise_cons.2 ⟨fun p hp => ?_, ih⟩
        rcases (insR_mem r h2 p).1 hp with rfl | hp
        · exact hq
        · exact h1 p hp.1
      · rename_i hq
        refine List.pairwise_cons.2 ⟨fun p hp => ?_, hs'.filter _⟩
        rw [List.mem_filter] at hp
        have hne : p.key ≠ k := by simpa using hp.2
        rcases slt_total k p.key with h | h | h
        · exact h
        · exact absurd h.symm hne
        · exfalso
          rcases List.mem_cons.1 hp.1 with rfl | hm
          · exact hq h
          · exact hq (slt_trans (h1 p hm) h)
theorem setR_sorted {l : List Pair} (hs : Sorted l) (k : List UInt8) (has : Bool) (v : List UInt8) : Sorted (setR l k has v) := by
  unfold setR; split
  · exact insR_sorted l hs
  · exact hs.filter _
theorem setR_val {l : List Pair} (hs : Sorted l) (k : List UInt8) (has : Bool) (v : List UInt8) (k' : List UInt8) : val (setR l k has v) k' = if k' = k then (if has = true then some v else none) else val l k' := by
  apply Option.ext
  intro w
  rw [val_iff (setR_sorted hs k has v)]
  unfold setR
  cases has with
  | true =>
    rw [if_pos rfl, insR_mem l hs]
    by_cases hk : k' = k
    · subst hk; simp [eq_comm]
    · rw [if_neg hk, val_iff hs]; simp [hk]
  | false =>
    rw [if_neg (by decide), List.mem_filter]
    by_cases hk : k' = k
    · subst hk; simp
    · rw [if_neg hk, val_iff hs]; simp [hk]
/-- What a change makes of pairs. -/
theorem setR_note {l : List Pair} (hs : Sorted l) (c : Change) : setR l c.key c.has c.aft = oneV l (noteC c) := by
  refine val_ext (setR_sorted hs _ _ _) (oneV_sorted hs _) fun k => ?_
  rw [setR_val hs, oneV_val hs, noteC_key]
  split
  · unfold noteC
    split
    · rw [stepO_put _ rfl]
    · rw [stepO_del _ rfl]
  · rfl
theorem setR_len (l : List Pair) (k : List UInt8) (has : Bool) (v : List UInt8) : (setR l k has v).length ≤ l.length + 1 := by
  have := restR_len (!has) k v l
  cases has <;> exact this
theorem fits_iff {l : List Pair} (h : pairsOk l) {c : Change} (hc : c.ok) : fitsP l c.key c.had c.bef ↔ fitC l c := by
  unfold fitsP fitC getV
  rw [if_pos h]
  cases getL l c.key with
  | none =>
    simp only [Prod.mk.injEq]
    constructor
    · intro h1
      rcases hc.2.2.2.2.2.1 with h2 | h2
      · rw [h1] at h2; cases h2
      · exact ⟨h2.symm, h1.symm⟩
    · rintro ⟨_, h2⟩; exact h2.symm
  | some p =>
    simp only [Prod.mk.injEq]
    constructor
    · rintro ⟨h1, h2⟩; exact ⟨h2, h1.symm⟩
    · rintro ⟨h1, h2⟩; exact ⟨h2.symm, h1⟩
theorem turn_ok (c : Change) : (turnC c).ok ↔ c.ok := by
  unfold Change.ok turnC
  simp only
  grind

set_option maxRecDepth 10000 in
set_option maxHeartbeats 16000000 in
theorem ref15_Do (l : List Pair) (cs : List Change) (hl : l.length ≤ 200000) (hn : cs.length ≤ 200000) : Ct Try.prog 35 (YtjhjnphcdpjnbaaVm.ops [.row (l.map Pair.pv), .row (cs.map Change.pv)]) (.vals [.row ((doV l cs).1.map Pair.pv), .bool (decide ((doV l cs).2 = 0))]) := by
  refine Ct.of_V Try.func35 rfl (by simp [YtjhjnphcdpjnbaaVm.ops, Try.f35]) ?_
  refine V.exec 400 ?_
  simp (config := {contextual := true}) only [go_sem, ↓reduceIte, reduceCtorEq, Bool.false_eq_true, Bool.true_eq_false, Nat.reduceAdd, Nat.reduceLT, Nat.reduceEqDiff, Nat.reduceLeDiff, Nat.reduceSub, Nat.reduceMul, Try.f35]
  refine V.call rfl rfl (by simp [dOK]) ⟨57, [], by simp only [go_sem, ↓reduceIte, reduceCtorEq, Bool.false_eq_true, Bool.true_eq_false, Nat.reduceAdd, Nat.reduceLT, Nat.reduceEqDiff, Nat.reduceLeDiff, Nat.reduceSub, Nat.reduceMul], ⟨_, rfl, rfl, rfl⟩, .inl ⟨[.row (l.map Pair.pv)], _, .inl (by simp only [go_sem, ↓reduceIte, reduceCtorEq, Bool.false_eq_true, Bool.true_eq_false, Nat.reduceAdd, Nat.reduceLT, Nat.reduceEqDiff, Nat.reduceLeDiff, Nat.reduceSub, Nat.reduceMul]), ref10_Right l (by omega), .inl ⟨_, rfl, rfl, rfl, rfl⟩⟩⟩ ?_
  refine V.exec 400 ?_
  simp (config := {contextual := true}) only [go_sem, ↓reduceIte, reduceCtorEq, Bool.false_eq_true, Bool.true_eq_false, Nat.reduceAdd, Nat.reduceLT, Nat.reduceEqDiff, Nat.reduceLeDiff, Nat.reduceSub, Nat.reduceMul]
  refine V.loop (fun m ls os => ∃ (i : Nat) (ok : Bool) (cur : List Pair), i ≤ cs.length ∧ m = cs.length - i ∧ (ok = true → pairsOk cur ∧ cur.length ≤ l.length + i ∧ pairsOk l ∧ doGo cur (cs.drop i) = doGo l cs) ∧ (ok = false → doV l cs = (l, 1)) ∧
        ls = [(0, .val (.row (l.map Pair.pv))), (1, .val (.row (cs.map Change.pv))), (6, .val (.bool (decide (ok = true)))), (7, .val (.row (cur.map Pair.pv))), (8, .val (.int .i64 i))] ∧ os = []) 0 cs.length
      [(0, .val (.row (l.map Pair.pv))), (1, .val (.row (cs.map Change.pv))), (6, .val (.bool (decide (decide (pairsOk l) = true)))), (7, .val (.row (l.map Pair.pv))), (8, .val (.int .i64 0))] [] []
      ⟨0, decide (pairsOk l), l, Nat.zero_le _, rfl, fun h => ⟨by simpa using h, Nat.le_refl _, by simpa using h, rfl⟩, fun h => by unfold doV; rw [if_neg (by simpa using h)], rfl, rfl⟩ (by simp only [go_sem, ↓reduceIte, reduceCtorEq, Bool.false_eq_true, Bool.true_eq_false, Nat.reduceAdd, Nat.reduceLT, Nat.reduceEqDiff, Nat.reduceLeDiff, Nat.reduceSub, Nat.reduceMul, decide_eq_true_eq]) ?_
  rintro m ls os ⟨i, ok, cur, hi, rfl, hgood, hbad, rfl, rfl⟩
  refine V.exec 400 ?_
  cases ok with
  | false =>
    have hv := hbad rfl
    by_cases hlt : (i : Int) < (cs.length : Int)
    · simp (config := {contextual := true}) only [go_sem, ↓reduceIte, reduceCtorEq, Bool.false_eq_true, Bool.true_eq_false, Nat.reduceAdd, Nat.reduceLT, Nat.reduceEqDiff, Nat.reduceLeDiff, Nat.reduceSub, Nat.reduceMul, hlt, hv, decide_false]
      rfl
    · simp (config := {contextual := true}) only [go_sem, ↓reduceIte, reduceCtorEq, Bool.false_eq_true, Bool.true_eq_false, Nat.reduceAdd, Nat.reduceLT, Nat.reduceEqDiff, Nat.reduceLeDiff, Nat.reduceSub, Nat.reduceMul, hlt, hv, decide_false]
      rfl
  | true =>
    obtain ⟨hco, hcl, hok, hca⟩ := hgood rfl
    by_cases hlt : i < cs.length
    · have hlt' : (i : Int) < (cs.length : Int) := by omega
      obtain ⟨x, hx⟩ : ∃ x, cs[i]? = some x := ⟨_, List.getElem?_eq_getElem hlt⟩
      have hw : IntKind.i64.wrap ((i : Int) + 1) = ((i + 1 : Nat) : Int) := by rw [wrap_small3] <;> omega
      have hsc := ((pairsOk_iff cur).1 hco).1
      rw [drop_of_get hx, doGo] at hca
      simp (config := {contextual := true}) only [go_sem, ↓reduceIte, reduceCtorEq, Bool.false_eq_true, Bool.true_eq_false, Nat.reduceAdd, Nat.reduceLT, Nat.reduceEqDiff, Nat.reduceLeDiff, Nat.reduceSub, Nat.reduceMul, hlt', hx, Change.pv, decide_true]
      refine DV.call [] [] (by simp only [go_sem, ↓reduceIte, reduceCtorEq, Bool.false_eq_true, Bool.true_eq_false, Nat.reduceAdd, Nat.reduceLT, Nat.reduceEqDiff, Nat.reduceLeDiff, Nat.reduceSub, Nat.reduceMul, Change.pv]) (by simp [dOK]) ⟨60, [], by simp only [go_sem, ↓reduceIte, reduceCtorEq, Bool.false_eq_true, Bool.true_eq_false, Nat.reduceAdd, Nat.reduceLT, Nat.reduceEqDiff, Nat.reduceLeDiff, Nat.reduceSub, Nat.reduceMul, Change.pv], ⟨_, rfl, rfl, rfl⟩, .inl ⟨[x.pv], _, .inl (by simp only [go_sem, ↓reduceIte, reduceCtorEq, Bool.false_eq_true, Bool.true_eq_false, Nat.reduceAdd, Nat.reduceLT, Nat.reduceEqDiff, Nat.reduceLeDiff, Nat.reduceSub, Nat.reduceMul, Change.pv]), ref13_May x, .inl ⟨_, rfl, rfl, rfl, rfl⟩⟩⟩ (by simp only [go_sem, ↓reduceIte, reduceCtorEq, Bool.false_eq_true, Bool.true_eq_false, Nat.reduceAdd, Nat.reduceLT, Nat.reduceEqDiff, Nat.reduceLeDiff, Nat.reduceSub, Nat.reduceMul, Change.pv]) (by simp only [go_sem, ↓reduceIte, reduceCtorEq, Bool.false_eq_true, Bool.true_eq_false, Nat.reduceAdd, Nat.reduceLT, Nat.reduceEqDiff, Nat.reduceLeDiff, Nat.reduceSub, Nat.reduceMul, Change.pv]) (by simp only [go_sem, ↓reduceIte, reduceCtorEq, Bool.false_eq_true, Bool.true_eq_false, Nat.reduceAdd, Nat.reduceLT, Nat.reduceEqDiff, Nat.reduceLeDiff, Nat.reduceSub, Nat.reduceMul, Change.pv]) (by simp) ?_
      refine DV.exec 400 ?_
      simp (config := {contextual := true}) only [go_sem, ↓reduceIte, reduceCtorEq, Bool.false_eq_true, Bool.true_eq_false, Nat.reduceAdd, Nat.reduceLT, Nat.reduceEqDiff, Nat.reduceLeDiff, Nat.reduceSub, Nat.reduceMul, hx, Change.pv]
      refine DV.call [] [] (by simp only [go_sem, ↓reduceIte, reduceCtorEq, Bool.false_eq_true, Bool.true_eq_false, Nat.reduceAdd, Nat.reduceLT, Nat.reduceEqDiff, Nat.reduceLeDiff, Nat.reduceSub, Nat.reduceMul]) (by simp [dOK]) ⟨61, [], by simp only [go_sem, ↓reduceIte, reduceCtorEq, Bool.false_eq_true, Bool.true_eq_false, Nat.reduceAdd, Nat.reduceLT, Nat.reduceEqDiff, Nat.reduceLeDiff, Nat.reduceSub, Nat.reduceMul], ⟨_, rfl, rfl, rfl⟩, .inl ⟨[.row (cur.map Pair.pv), .str x.key, .bool (decide (x.had = true)), .str x.bef], _, .inl (by simp only [go_sem, ↓reduceIte, reduceCtorEq, Bool.false_eq_true, Bool.true_eq_false, Nat.reduceAdd, Nat.reduceLT, Nat.reduceEqDiff, Nat.reduceLeDiff, Nat.reduceSub, Nat.reduceMul]), ref15_fits cur x.key x.had x.bef (by omega) hsc, .inl ⟨_, rfl, rfl, rfl, rfl⟩⟩⟩ (by simp only [go_sem, ↓reduceIte, reduceCtorEq, Bool.false_eq_true, Bool.true_eq_false, Nat.reduceAdd, Nat.reduceLT, Nat.reduceEqDiff, Nat.reduceLeDiff, Nat.reduceSub, Nat.reduceMul]) (by simp only [go_sem, ↓reduceIte, reduceCtorEq, Bool.false_eq_true, Bool.true_eq_false, Nat.reduceAdd, Nat.reduceLT, Nat.reduceEqDiff, Nat.reduceLeDiff, Nat.reduceSub, Nat.reduceMul]) (by simp only [go_sem, ↓reduceIte, reduceCtorEq, Bool.false_eq_true, Bool.true_eq_false, Nat.reduceAdd, Nat.reduceLT, Nat.reduceEqDiff, Nat.reduceLeDiff, Nat.reduceSub, Nat.reduceMul]) (by simp) ?_
      refine DV.exec 400 ?_
      have cs0 := ref15_set cur x.key x.has x.aft (by omega)
      have hsl := setR_len cur x.key x.has x.aft
      by_cases hm : x.ok
      · by_cases hf : fitsP cur x.key x.had x.bef
        · have hgo := if_pos (c := x.ok ∧ fitC cur x) ⟨hm, (fits_iff hco hm).1 hf⟩ ▸ hca
          rw [setR_note hsc x] at cs0 hsl
          have hoo := oneV_pairsOk hco (noteC_ok hm)
          simp (config := {contextual := true}) only [go_sem, ↓reduceIte, reduceCtorEq, Bool.false_eq_true, Bool.true_eq_false, Nat.reduceAdd, Nat.reduceLT, Nat.reduceEqDiff, Nat.reduceLeDiff, Nat.reduceSub, Nat.reduceMul, hx, hm, hf, Change.pv]
          refine ⟨by kernel_rfl, ?_⟩
          refine DV.call [] [] (by simp only [go_sem, ↓reduceIte, reduceCtorEq, Bool.false_eq_true, Bool.true_eq_false, Nat.reduceAdd, Nat.reduceLT, Nat.reduceEqDiff, Nat.reduceLeDiff, Nat.reduceSub, Nat.reduceMul]) (by simp [dOK]) ⟨62, [], by simp only [go_sem, ↓reduceIte, reduceCtorEq, Bool.false_eq_true, Bool.true_eq_false, Nat.reduceAdd, Nat.reduceLT, Nat.reduceEqDiff, Nat.reduceLeDiff, Nat.reduceSub, Nat.reduceMul], ⟨_, rfl, rfl, rfl⟩, .inl ⟨[.row (cur.map Pair.pv), .str x.key, .bool (decide (x.has = true)), .str x.aft], _, .inl (by simp only [go_sem, ↓reduceIte, reduceCtorEq, Bool.false_eq_true, Bool.true_eq_false, Nat.reduceAdd, Nat.reduceLT, Nat.reduceEqDiff, Nat.reduceLeDiff, Nat.reduceSub, Nat.reduceMul]), cs0, .inr (.inl ⟨_, rfl, rfl, rfl⟩)⟩⟩ (by simp only [go_sem, ↓reduceIte, reduceCtorEq, Bool.false_eq_true, Bool.true_eq_false, Nat.reduceAdd, Nat.reduceLT, Nat.reduceEqDiff, Nat.reduceLeDiff, Nat.reduceSub, Nat.reduceMul]) (by simp only [go_sem, ↓reduceIte, reduceCtorEq, Bool.false_eq_true, Bool.true_eq_false, Nat.reduceAdd, Nat.reduceLT, Nat.reduceEqDiff, Nat.reduceLeDiff, Nat.reduceSub, Nat.reduceMul]) (by simp only [go_sem, ↓reduceIte, reduceCtorEq, Bool.false_eq_true, Bool.true_eq_false, Nat.reduceAdd, Nat.reduceLT, Nat.reduceEqDiff, Nat.reduceLeDiff, Nat.reduceSub, Nat.reduceMul]) (by simp) ?_
          refine DV.exec 400 ?_
          simp (config := {contextual := true}) only [go_sem, ↓reduceIte, reduceCtorEq, Bool.false_eq_true, Bool.true_eq_false, Nat.reduceAdd, Nat.reduceLT, Nat.reduceEqDiff, Nat.reduceLeDiff, Nat.reduceSub, Nat.reduceMul, hw]
          refine ⟨by kernel_rfl, cs.length - (i + 1), _, [], [], by omega, ⟨i + 1, true, _, by omega, rfl, fun _ => ⟨hoo, by omega, hok, hgo⟩, fun h => (by cases h), rfl, rfl⟩, ?_⟩
          simp only [go_sem, ↓reduceIte, reduceCtorEq, Bool.false_eq_true, Bool.true_eq_false, Nat.reduceAdd, Nat.reduceLT, Nat.reduceEqDiff, Nat.reduceLeDiff, Nat.reduceSub, Nat.reduceMul, decide_true]
        · have hv : doV l cs = (l, 1) := by
            rw [if_neg (fun h => hf ((fits_iff hco h.1).2 h.2))] at hca
            unfold doV; rw [if_pos hok, ← hca]
          simp (config := {contextual := true}) only [go_sem, ↓reduceIte, reduceCtorEq, Bool.false_eq_true, Bool.true_eq_false, Nat.reduceAdd, Nat.reduceLT, Nat.reduceEqDiff, Nat.reduceLeDiff, Nat.reduceSub, Nat.reduceMul, hx, hm, hf, Change.pv]
          refine ⟨by kernel_rfl, ?_⟩
          refine DV.call [] [] (by simp only [go_sem, ↓reduceIte, reduceCtorEq, Bool.false_eq_true, Bool.true_eq_false, Nat.reduceAdd, Nat.reduceLT, Nat.reduceEqDiff, Nat.reduceLeDiff, Nat.reduceSub, Nat.reduceMul]) (by simp [dOK]) ⟨62, [], by simp only [go_sem, ↓reduceIte, reduceCtorEq, Bool.false_eq_true, Bool.true_eq_false, Nat.reduceAdd, Nat.reduceLT, Nat.reduceEqDiff, Nat.reduceLeDiff, Nat.reduceSub, Nat.reduceMul], ⟨_, rfl, rfl, rfl⟩, .inl ⟨[.row (cur.map Pair.pv), .str x.key, .bool (decide (x.has = true)), .str x.aft], _, .inl (by simp only [go_sem, ↓reduceIte, reduceCtorEq, Bool.false_eq_true, Bool.true_eq_false, Nat.reduceAdd, Nat.reduceLT, Nat.reduceEqDiff, Nat.reduceLeDiff, Nat.reduceSub, Nat.reduceMul]), cs0, .inr (.inl ⟨_, rfl, rfl, rfl⟩)⟩⟩ (by simp only [go_sem, ↓reduceIte, reduceCtorEq, Bool.false_eq_true, Bool.true_eq_false, Nat.reduceAdd, Nat.reduceLT, Nat.reduceEqDiff, Nat.reduceLeDiff, Nat.reduceSub, Nat.reduceMul]) (by simp only [go_sem, ↓reduceIte, reduceCtorEq, Bool.false_eq_true, Bool.true_eq_false, Nat.reduceAdd, Nat.reduceLT, Nat.reduceEqDiff, Nat.reduceLeDiff, Nat.reduceSub, Nat.reduceMul]) (by simp only [go_sem, ↓reduceIte, reduceCtorEq, Bool.false_eq_true, Bool.true_eq_false, Nat.reduceAdd, Nat.reduceLT, Nat.reduceEqDiff, Nat.reduceLeDiff, Nat.reduceSub, Nat.reduceMul]) (by simp) ?_
          refine DV.exec 400 ?_
          simp (config := {contextual := true}) only [go_sem, ↓reduceIte, reduceCtorEq, Bool.false_eq_true, Bool.true_eq_false, Nat.reduceAdd, Nat.reduceLT, Nat.reduceEqDiff, Nat.reduceLeDiff, Nat.reduceSub, Nat.reduceMul, hw]
          refine ⟨by kernel_rfl, cs.length - (i + 1), _, [], [], by omega, ⟨i + 1, false, setR cur x.key x.has x.aft, by omega, rfl, fun h => (by cases h), fun _ => hv, rfl, rfl⟩, ?_⟩
          simp only [go_sem, ↓reduceIte, reduceCtorEq, Bool.false_eq_true, Bool.true_eq_false, Nat.reduceAdd, Nat.reduceLT, Nat.reduceEqDiff, Nat.reduceLeDiff, Nat.reduceSub, Nat.reduceMul, decide_false]
      · have hv : doV l cs = (l, 1) := by
          rw [if_neg (fun h => hm h.1)] at hca
          unfold doV; rw [if_pos hok, ← hca]
        simp (config := {contextual := true}) only [go_sem, ↓reduceIte, reduceCtorEq, Bool.false_eq_true, Bool.true_eq_false, Nat.reduceAdd, Nat.reduceLT, Nat.reduceEqDiff, Nat.reduceLeDiff, Nat.reduceSub, Nat.reduceMul, hx, hm, Change.pv]
        refine ⟨by kernel_rfl, ?_⟩
        refine DV.call [] [] (by simp only [go_sem, ↓reduceIte, reduceCtorEq, Bool.false_eq_true, Bool.true_eq_false, Nat.reduceAdd, Nat.reduceLT, Nat.reduceEqDiff, Nat.reduceLeDiff, Nat.reduceSub, Nat.reduceMul]) (by simp [dOK]) ⟨62, [], by simp only [go_sem, ↓reduceIte, reduceCtorEq, Bool.false_eq_true, Bool.true_eq_false, Nat.reduceAdd, Nat.reduceLT, Nat.reduceEqDiff, Nat.reduceLeDiff, Nat.reduceSub, Nat.reduceMul], ⟨_, rfl, rfl, rfl⟩, .inl ⟨[.row (cur.map Pair.pv), .str x.key, .bool (decide (x.has = true)), .str x.aft], _, .inl (by simp only [go_sem, ↓reduceIte, reduceCtorEq, Bool.false_eq_true, Bool.true_eq_false, Nat.reduceAdd, Nat.reduceLT, Nat.reduceEqDiff, Nat.reduceLeDiff, Nat.reduceSub, Nat.reduceMul]), cs0, .inr (.inl ⟨_, rfl, rfl, rfl⟩)⟩⟩ (by simp only [go_sem, ↓reduceIte, reduceCtorEq, Bool.false_eq_true, Bool.true_eq_false, Nat.reduceAdd, Nat.reduceLT, Nat.reduceEqDiff, Nat.reduceLeDiff, Nat.reduceSub, Nat.reduceMul]) (by simp only [go_sem, ↓reduceIte, reduceCtorEq, Bool.false_eq_true, Bool.true_eq_false, Nat.reduceAdd, Nat.reduceLT, Nat.reduceEqDiff, Nat.reduceLeDiff, Nat.reduceSub, Nat.reduceMul]) (by simp only [go_sem, ↓reduceIte, reduceCtorEq, Bool.false_eq_true, Bool.true_eq_false, Nat.reduceAdd, Nat.reduceLT, Nat.reduceEqDiff, Nat.reduceLeDiff, Nat.reduceSub, Nat.reduceMul]) (by simp) ?_
        refine DV.exec 400 ?_
        simp (config := {contextual := true}) only [go_sem, ↓reduceIte, reduceCtorEq, Bool.false_eq_true, Bool.true_eq_false, Nat.reduceAdd, Nat.reduceLT, Nat.reduceEqDiff, Nat.reduceLeDiff, Nat.reduceSub, Nat.reduceMul, hw]
        refine ⟨by kernel_rfl, cs.length - (i + 1), _, [], [], by omega, ⟨i + 1, false, setR cur x.key x.has x.aft, by omega, rfl, fun h => (by cases h), fun _ => hv, rfl, rfl⟩, ?_⟩
        simp only [go_sem, ↓reduceIte, reduceCtorEq, Bool.false_eq_true, Bool.true_eq_false, Nat.reduceAdd, Nat.reduceLT, Nat.reduceEqDiff, Nat.reduceLeDiff, Nat.reduceSub, Nat.reduceMul, decide_false]
    · have hlt' : ¬ (i : Int) < (cs.length : Int) := by omega
      have hd : cs.drop i = [] := List.drop_eq_nil_of_le (by omega)
      rw [hd, doGo] at hca
      have hv : doV l cs = (cur, 0) := by unfold doV; rw [if_pos hok, ← hca]
      simp (config := {contextual := true}) only [go_sem, ↓reduceIte, reduceCtorEq, Bool.false_eq_true, Bool.true_eq_false, Nat.reduceAdd, Nat.reduceLT, Nat.reduceEqDiff, Nat.reduceLeDiff, Nat.reduceSub, Nat.reduceMul, hlt', hv, decide_true]
set_option maxRecDepth 10000 in
set_option maxHeartbeats 16000000 in
theorem ref15_Undo (l : List Pair) (cs : List Change) (hl : l.length ≤ 200000) (hn : cs.length ≤ 200000) : Ct Try.prog 73 (YtjhjnphcdpjnbaaVm.ops [.row (l.map Pair.pv), .row (cs.map Change.pv)]) (.vals [.row ((undoV l cs).1.map Pair.pv), .bool (decide ((undoV l cs).2 = 0))]) := by
  unfold undoV
  obtain ⟨ds, hds⟩ : ∃ ds, ds = cs.reverse.map turnC := ⟨_, rfl⟩
  have hdl : ds.length = cs.length := by rw [hds]; simp
  rw [← hds]
  have hwn : IntKind.i64.wrap ((cs.length : Int) - 1) = (cs.length : Int) - 1 := by rw [wrap_small3] <;> omega
  refine Ct.of_V Try.func73 rfl (by simp [YtjhjnphcdpjnbaaVm.ops, Try.f73]) ?_
  refine V.exec 400 ?_
  simp (config := {contextual := true}) only [go_sem, ↓reduceIte, reduceCtorEq, Bool.false_eq_true, Bool.true_eq_false, Nat.reduceAdd, Nat.reduceLT, Nat.reduceEqDiff, Nat.reduceLeDiff, Nat.reduceSub, Nat.reduceMul, Try.f73]
  refine V.call rfl rfl (by simp [dOK]) ⟨57, [], by simp only [go_sem, ↓reduceIte, reduceCtorEq, Bool.false_eq_true, Bool.true_eq_false, Nat.reduceAdd, Nat.reduceLT, Nat.reduceEqDiff, Nat.reduceLeDiff, Nat.reduceSub, Nat.reduceMul], ⟨_, rfl, rfl, rfl⟩, .inl ⟨[.row (l.map Pair.pv)], _, .inl (by simp only [go_sem, ↓reduceIte, reduceCtorEq, Bool.false_eq_true, Bool.true_eq_false, Nat.reduceAdd, Nat.reduceLT, Nat.reduceEqDiff, Nat.reduceLeDiff, Nat.reduceSub, Nat.reduceMul]), ref10_Right l (by omega), .inl ⟨_, rfl, rfl, rfl, rfl⟩⟩⟩ ?_
  refine V.exec 400 ?_
  simp (config := {contextual := true}) only [go_sem, ↓reduceIte, reduceCtorEq, Bool.false_eq_true, Bool.true_eq_false, Nat.reduceAdd, Nat.reduceLT, Nat.reduceEqDiff, Nat.reduceLeDiff, Nat.reduceSub, Nat.reduceMul, hwn]
  refine V.loop (fun m ls os => ∃ (i : Nat) (ok : Bool) (cur : List Pair), i ≤ cs.length ∧ m = cs.length - i ∧ (ok = true → pairsOk cur ∧ cur.length ≤ l.length + i ∧ pairsOk l ∧ doGo cur (ds.drop i) = doGo l ds) ∧ (ok = false → doV l ds = (l, 1)) ∧
        ls = [(0, .val (.row (l.map Pair.pv))), (1, .val (.row (cs.map Change.pv))), (6, .val (.bool (decide (ok = true)))), (7, .val (.row (cur.map Pair.pv))), (8, .val (.int .i64 ((cs.length : Int) - 1 - i)))] ∧ os = []) 0 cs.length
      [(0, .val (.row (l.map Pair.pv))), (1, .val (.row (cs.map Change.pv))), (6, .val (.bool (decide (decide (pairsOk l) = true)))), (7, .val (.row (l.map Pair.pv))), (8, .val (.int .i64 ((cs.length : Int) - 1)))] [] []
      ⟨0, decide (pairsOk l), l, Nat.zero_le _, rfl, fun h => ⟨by simpa using h, Nat.le_refl _, by simpa using h, rfl⟩, fun h => by unfold doV; rw [if_neg (by simpa using h)], by simp, rfl⟩ (by simp only [go_sem, ↓reduceIte, reduceCtorEq, Bool.false_eq_true, Bool.true_eq_false, Nat.reduceAdd, Nat.reduceLT, Nat.reduceEqDiff, Nat.reduceLeDiff, Nat.reduceSub, Nat.reduceMul, decide_eq_true_eq, Int.sub_zero, Int.natCast_zero]) ?_
  rintro m ls os ⟨i, ok, cur, hi, rfl, hgood, hbad, rfl, rfl⟩
  refine V.exec 400 ?_
  cases ok with
  | false =>
    have hv := hbad rfl
    by_cases hlt : (0 : Int) ≤ (cs.length : Int) - 1 - i
    · simp (config := {contextual := true}) only [go_sem, ↓reduceIte, reduceCtorEq, Bool.false_eq_true, Bool.true_eq_false, Nat.reduceAdd, Nat.reduceLT, Nat.reduceEqDiff, Nat.reduceLeDiff, Nat.reduceSub, Nat.reduceMul, hlt, hv, decide_false]
      rfl
    · simp (config := {contextual := true}) only [go_sem, ↓reduceIte, reduceCtorEq, Bool.false_eq_true, Bool.true_eq_false, Nat.reduceAdd, Nat.reduceLT, Nat.reduceEqDiff, Nat.reduceLeDiff, Nat.reduceSub, Nat.reduceMul, hlt, hv, decide_false]
      rfl
  | true =>
    obtain ⟨hco, hcl, hok, hca⟩ := hgood rfl
    by_cases hlt : i < cs.length
    · have hlt' : (0 : Int) ≤ (cs.length : Int) - 1 - i := by omega
      have hnat : ((cs.length : Int) - 1 - i).toNat = cs.length - 1 - i := by omega
      obtain ⟨z, hx⟩ : ∃ x, cs[cs.length - 1 - i]? = some x := ⟨_, List.getElem?_eq_getElem (by omega)⟩
      obtain ⟨x, hxz⟩ : ∃ x, x = turnC z := ⟨_, rfl⟩
      have hdx : ds[i]? = some x := by rw [hds, List.getElem?_map, List.getElem?_reverse hlt, hx, hxz]; rfl
      have hzo : z.ok ↔ x.ok := by rw [hxz]; exact (turn_ok z).symm
      have z1 : z.key = x.key := by rw [hxz]; rfl
      have z2 : z.had = x.has := by rw [hxz]; rfl
      have z3 : z.bef = x.aft := by rw [hxz]; rfl
      have z4 : z.has = x.had := by rw [hxz]; rfl
      have z5 : z.aft = x.bef := by rw [hxz]; rfl
      have hw : IntKind.i64.wrap ((cs.length : Int) - 1 - i - 1) = (cs.length : Int) - 1 - ((i + 1 : Nat) : Int) := by rw [wrap_small3] <;> omega
      have hsc := ((pairsOk_iff cur).1 hco).1
      rw [drop_of_get hdx, doGo] at hca
      simp (config := {contextual := true}) only [go_sem, ↓reduceIte, reduceCtorEq, Bool.false_eq_true, Bool.true_eq_false, Nat.reduceAdd, Nat.reduceLT, Nat.reduceEqDiff, Nat.reduceLeDiff, Nat.reduceSub, Nat.reduceMul, hlt', hnat, hx, Change.pv, decide_true]
      refine DV.call [] [] (by simp only [go_sem, ↓reduceIte, reduceCtorEq, Bool.false_eq_true, Bool.true_eq_false, Nat.reduceAdd, Nat.reduceLT, Nat.reduceEqDiff, Nat.reduceLeDiff, Nat.reduceSub, Nat.reduceMul, Change.pv]) (by simp [dOK]) ⟨60, [], by simp only [go_sem, ↓reduceIte, reduceCtorEq, Bool.false_eq_true, Bool.true_eq_false, Nat.reduceAdd, Nat.reduceLT, Nat.reduceEqDiff, Nat.reduceLeDiff, Nat.reduceSub, Nat.reduceMul, Change.pv], ⟨_, rfl, rfl, rfl⟩, .inl ⟨[z.pv], _, .inl (by simp only [go_sem, ↓reduceIte, reduceCtorEq, Bool.false_eq_true, Bool.true_eq_false, Nat.reduceAdd, Nat.reduceLT, Nat.reduceEqDiff, Nat.reduceLeDiff, Nat.reduceSub, Nat.reduceMul, Change.pv]), ref13_May z, .inl ⟨_, rfl, rfl, rfl, rfl⟩⟩⟩ (by simp only [go_sem, ↓reduceIte, reduceCtorEq, Bool.false_eq_true, Bool.true_eq_false, Nat.reduceAdd, Nat.reduceLT, Nat.reduceEqDiff, Nat.reduceLeDiff, Nat.reduceSub, Nat.reduceMul, Change.pv]) (by simp only [go_sem, ↓reduceIte, reduceCtorEq, Bool.false_eq_true, Bool.true_eq_false, Nat.reduceAdd, Nat.reduceLT, Nat.reduceEqDiff, Nat.reduceLeDiff, Nat.reduceSub, Nat.reduceMul, Change.pv]) (by simp only [go_sem, ↓reduceIte, reduceCtorEq, Bool.false_eq_true, Bool.true_eq_false, Nat.reduceAdd, Nat.reduceLT, Nat.reduceEqDiff, Nat.reduceLeDiff, Nat.reduceSub, Nat.reduceMul, Change.pv]) (by simp) ?_
      refine DV.exec 400 ?_
      rw [show decide z.ok = decide x.ok from decide_eq_decide.2 hzo]
      simp (config := {contextual := true}) only [go_sem, ↓reduceIte, reduceCtorEq, Bool.false_eq_true, Bool.true_eq_false, Nat.reduceAdd, Nat.reduceLT, Nat.reduceEqDiff, Nat.reduceLeDiff, Nat.reduceSub, Nat.reduceMul, hlt', hnat, hx, Change.pv, z1, z2, z3, z4, z5]
      refine DV.call [] [] (by simp only [go_sem, ↓reduceIte, reduceCtorEq, Bool.false_eq_true, Bool.true_eq_false, Nat.reduceAdd, Nat.reduceLT, Nat.reduceEqDiff, Nat.reduceLeDiff, Nat.reduceSub, Nat.reduceMul]) (by simp [dOK]) ⟨61, [], by simp only [go_sem, ↓reduceIte, reduceCtorEq, Bool.false_eq_true, Bool.true_eq_false, Nat.reduceAdd, Nat.reduceLT, Nat.reduceEqDiff, Nat.reduceLeDiff, Nat.reduceSub, Nat.reduceMul], ⟨_, rfl, rfl, rfl⟩, .inl ⟨[.row (cur.map Pair.pv), .str x.key, .bool (decide (x.had = true)), .str x.bef], _, .inl (by simp only [go_sem, ↓reduceIte, reduceCtorEq, Bool.false_eq_true, Bool.true_eq_false, Nat.reduceAdd, Nat.reduceLT, Nat.reduceEqDiff, Nat.reduceLeDiff, Nat.reduceSub, Nat.reduceMul]), ref15_fits cur x.key x.had x.bef (by omega) hsc, .inl ⟨_, rfl, rfl, rfl, rfl⟩⟩⟩ (by simp only [go_sem, ↓reduceIte, reduceCtorEq, Bool.false_eq_true, Bool.true_eq_false, Nat.reduceAdd, Nat.reduceLT, Nat.reduceEqDiff, Nat.reduceLeDiff, Nat.reduceSub, Nat.reduceMul]) (by simp only [go_sem, ↓reduceIte, reduceCtorEq, Bool.false_eq_true, Bool.true_eq_false, Nat.reduceAdd, Nat.reduceLT, Nat.reduceEqDiff, Nat.reduceLeDiff, Nat.reduceSub, Nat.reduceMul]) (by simp only [go_sem, ↓reduceIte, reduceCtorEq, Bool.false_eq_true, Bool.true_eq_false, Nat.reduceAdd, Nat.reduceLT, Nat.reduceEqDiff, Nat.reduceLeDiff, Nat.reduceSub, Nat.reduceMul]) (by simp) ?_
      refine DV.exec 400 ?_
      have cs0 := ref15_set cur x.key x.has x.aft (by omega)
      have hsl := setR_len cur x.key x.has x.aft
      by_cases hm : x.ok
      · by_cases hf : fitsP cur x.key x.had x.bef
        · have hgo := if_pos (c := x.ok ∧ fitC cur x) ⟨hm, (fits_iff hco hm).1 hf⟩ ▸ hca
          rw [setR_note hsc x] at cs0 hsl
          have hoo := oneV_pairsOk hco (noteC_ok hm)
          simp (config := {contextual := true}) only [go_sem, ↓reduceIte, reduceCtorEq, Bool.false_eq_true, Bool.true_eq_false, Nat.reduceAdd, Nat.reduceLT, Nat.reduceEqDiff, Nat.reduceLeDiff, Nat.reduceSub, Nat.reduceMul, hlt', hnat, hx, hm, hf, Change.pv, z1, z2, z3, z4, z5]
          refine ⟨by kernel_rfl, ?_⟩
          refine DV.call [] [] (by simp only [go_sem, ↓reduceIte, reduceCtorEq, Bool.false_eq_true, Bool.true_eq_false, Nat.reduceAdd, Nat.reduceLT, Nat.reduceEqDiff, Nat.reduceLeDiff, Nat.reduceSub, Nat.reduceMul]) (by simp [dOK]) ⟨62, [], by simp only [go_sem, ↓reduceIte, reduceCtorEq, Bool.false_eq_true, Bool.true_eq_false, Nat.reduceAdd, Nat.reduceLT, Nat.reduceEqDiff, Nat.reduceLeDiff, Nat.reduceSub, Nat.reduceMul], ⟨_, rfl, rfl, rfl⟩, .inl ⟨[.row (cur.map Pair.pv), .str x.key, .bool (decide (x.has = true)), .str x.aft], _, .inl (by simp only [go_sem, ↓reduceIte, reduceCtorEq, Bool.false_eq_true, Bool.true_eq_false, Nat.reduceAdd, Nat.reduceLT, Nat.reduceEqDiff, Nat.reduceLeDiff, Nat.reduceSub, Nat.reduceMul]), cs0, .inr (.inl ⟨_, rfl, rfl, rfl⟩)⟩⟩ (by simp only [go_sem, ↓reduceIte, reduceCtorEq, Bool.false_eq_true, Bool.true_eq_false, Nat.reduceAdd, Nat.reduceLT, Nat.reduceEqDiff, Nat.reduceLeDiff, Nat.reduceSub, Nat.reduceMul]) (by simp only [go_sem, ↓reduceIte, reduceCtorEq, Bool.false_eq_true, Bool.true_eq_false, Nat.reduceAdd, Nat.reduceLT, Nat.reduceEqDiff, Nat.reduceLeDiff, Nat.reduceSub, Nat.reduceMul]) (by simp only [go_sem, ↓reduceIte, reduceCtorEq, Bool.false_eq_true, Bool.true_eq_false, Nat.reduceAdd, Nat.reduceLT, Nat.reduceEqDiff, Nat.reduceLeDiff, Nat.reduceSub, Nat.reduceMul]) (by simp) ?_
          refine DV.exec 400 ?_
          simp (config := {contextual := true}) only [go_sem, ↓reduceIte, reduceCtorEq, Bool.false_eq_true, Bool.true_eq_false, Nat.reduceAdd, Nat.reduceLT, Nat.reduceEqDiff, Nat.reduceLeDiff, Nat.reduceSub, Nat.reduceMul, hw]
          refine ⟨by kernel_rfl, cs.length - (i + 1), _, [], [], by omega, ⟨i + 1, true, _, by omega, rfl, fun _ => ⟨hoo, by omega, hok, hgo⟩, fun h => (by cases h), rfl, rfl⟩, ?_⟩
          simp only [go_sem, ↓reduceIte, reduceCtorEq, Bool.false_eq_true, Bool.true_eq_false, Nat.reduceAdd, Nat.reduceLT, Nat.reduceEqDiff, Nat.reduceLeDiff, Nat.reduceSub, Nat.reduceMul, decide_true]
        · have hv : doV l ds = (l, 1) := by
            rw [if_neg (fun h => hf ((fits_iff hco h.1).2 h.2))] at hca
            unfold doV; rw [if_pos hok, ← hca]
          simp (config := {contextual := true}) only [go_sem, ↓reduceIte, reduceCtorEq, Bool.false_eq_true, Bool.true_eq_false, Nat.reduceAdd, Nat.reduceLT, Nat.reduceEqDiff, Nat.reduceLeDiff, Nat.reduceSub, Nat.reduceMul, hlt', hnat, hx, hm, hf, Change.pv, z1, z2, z3, z4, z5]
          refine ⟨by kernel_rfl, ?_⟩
          refine DV.call [] [] (by simp only [go_sem, ↓reduceIte, reduceCtorEq, Bool.false_eq_true, Bool.true_eq_false, Nat.reduceAdd, Nat.reduceLT, Nat.reduceEqDiff, Nat.reduceLeDiff, Nat.reduceSub, Nat.reduceMul]) (by simp [dOK]) ⟨62, [], by simp only [go_sem, ↓reduceIte, reduceCtorEq, Bool.false_eq_true, Bool.true_eq_false, Nat.reduceAdd, Nat.reduceLT, Nat.reduceEqDiff, Nat.reduceLeDiff, Nat.reduceSub, Nat.reduceMul], ⟨_, rfl, rfl, rfl⟩, .inl ⟨[.row (cur.map Pair.pv), .str x.key, .bool (decide (x.has = true)), .str x.aft], _, .inl (by simp only [go_sem, ↓reduceIte, reduceCtorEq, Bool.false_eq_true, Bool.true_eq_false, Nat.reduceAdd, Nat.reduceLT, Nat.reduceEqDiff, Nat.reduceLeDiff, Nat.reduceSub, Nat.reduceMul]), cs0, .inr (.inl ⟨_, rfl, rfl, rfl⟩)⟩⟩ (by simp only [go_sem, ↓reduceIte, reduceCtorEq, Bool.false_eq_true, Bool.true_eq_false, Nat.reduceAdd, Nat.reduceLT, Nat.reduceEqDiff, Nat.reduceLeDiff, Nat.reduceSub, Nat.reduceMul]) (by simp only [go_sem, ↓reduceIte, reduceCtorEq, Bool.false_eq_true, Bool.true_eq_false, Nat.reduceAdd, Nat.reduceLT, Nat.reduceEqDiff, Nat.reduceLeDiff, Nat.reduceSub, Nat.reduceMul]) (by simp only [go_sem, ↓reduceIte, reduceCtorEq, Bool.false_eq_true, Bool.true_eq_false, Nat.reduceAdd, Nat.reduceLT, Nat.reduceEqDiff, Nat.reduceLeDiff, Nat.reduceSub, Nat.reduceMul]) (by simp) ?_
          refine DV.exec 400 ?_
          simp (config := {contextual := true}) only [go_sem, ↓reduceIte, reduceCtorEq, Bool.false_eq_true, Bool.true_eq_false, Nat.reduceAdd, Nat.reduceLT, Nat.reduceEqDiff, Nat.reduceLeDiff, Nat.reduceSub, Nat.reduceMul, hw]
          refine ⟨by kernel_rfl, cs.length - (i + 1), _, [], [], by omega, ⟨i + 1, false, setR cur x.key x.has x.aft, by omega, rfl, fun h => (by cases h), fun _ => hv, rfl, rfl⟩, ?_⟩
          simp only [go_sem, ↓reduceIte, reduceCtorEq, Bool.false_eq_true, Bool.true_eq_false, Nat.reduceAdd, Nat.reduceLT, Nat.reduceEqDiff, Nat.reduceLeDiff, Nat.reduceSub, Nat.reduceMul, decide_false]
      · have hv : doV l ds = (l, 1) := by
          rw [if_neg (fun h => hm h.1)] at hca
          unfold doV; rw [if_pos hok, ← hca]
        simp (config := {contextual := true}) only [go_sem, ↓reduceIte, reduceCtorEq, Bool.false_eq_true, Bool.true_eq_false, Nat.reduceAdd, Nat.reduceLT, Nat.reduceEqDiff, Nat.reduceLeDiff, Nat.reduceSub, Nat.reduceMul, hlt', hnat, hx, hm, Change.pv, z1, z2, z3, z4, z5]
        refine ⟨by kernel_rfl, ?_⟩
        refine DV.call [] [] (by simp only [go_sem, ↓reduceIte, reduceCtorEq, Bool.false_eq_true, Bool.true_eq_false, Nat.reduceAdd, Nat.reduceLT, Nat.reduceEqDiff, Nat.reduceLeDiff, Nat.reduceSub, Nat.reduceMul]) (by simp [dOK]) ⟨62, [], by simp only [go_sem, ↓reduceIte, reduceCtorEq, Bool.false_eq_true, Bool.true_eq_false, Nat.reduceAdd, Nat.reduceLT, Nat.reduceEqDiff, Nat.reduceLeDiff, Nat.reduceSub, Nat.reduceMul], ⟨_, rfl, rfl, rfl⟩, .inl ⟨[.row (cur.map Pair.pv), .str x.key, .bool (decide (x.has = true)), .str x.aft], _, .inl (by simp only [go_sem, ↓reduceIte, reduceCtorEq, Bool.false_eq_true, Bool.true_eq_false, Nat.reduceAdd, Nat.reduceLT, Nat.reduceEqDiff, Nat.reduceLeDiff, Nat.reduceSub, Nat.reduceMul]), cs0, .inr (.inl ⟨_, rfl, rfl, rfl⟩)⟩⟩ (by simp only [go_sem, ↓reduceIte, reduceCtorEq, Bool.false_eq_true, Bool.true_eq_false, Nat.reduceAdd, Nat.reduceLT, Nat.reduceEqDiff, Nat.reduceLeDiff, Nat.reduceSub, Nat.reduceMul]) (by simp only [go_sem, ↓reduceIte, reduceCtorEq, Bool.false_eq_true, Bool.true_eq_false, Nat.reduceAdd, Nat.reduceLT, Nat.reduceEqDiff, Nat.reduceLeDiff, Nat.reduceSub, Nat.reduceMul]) (by simp only [go_sem, ↓reduceIte, reduceCtorEq, Bool.false_eq_true, Bool.true_eq_false, Nat.reduceAdd, Nat.reduceLT, Nat.reduceEqDiff, Nat.reduceLeDiff, Nat.reduceSub, Nat.reduceMul]) (by simp) ?_
        refine DV.exec 400 ?_
        simp (config := {contextual := true}) only [go_sem, ↓reduceIte, reduceCtorEq, Bool.false_eq_true, Bool.true_eq_false, Nat.reduceAdd, Nat.reduceLT, Nat.reduceEqDiff, Nat.reduceLeDiff, Nat.reduceSub, Nat.reduceMul, hw]
        refine ⟨by kernel_rfl, cs.length - (i + 1), _, [], [], by omega, ⟨i + 1, false, setR cur x.key x.has x.aft, by omega, rfl, fun h => (by cases h), fun _ => hv, rfl, rfl⟩, ?_⟩
        simp only [go_sem, ↓reduceIte, reduceCtorEq, Bool.false_eq_true, Bool.true_eq_false, Nat.reduceAdd, Nat.reduceLT, Nat.reduceEqDiff, Nat.reduceLeDiff, Nat.reduceSub, Nat.reduceMul, decide_false]
    · have hlt' : ¬ (0 : Int) ≤ (cs.length : Int) - 1 - i := by omega
      have hd : ds.drop i = [] := List.drop_eq_nil_of_le (by rw [hdl]; omega)
      rw [hd, doGo] at hca
      have hv : doV l ds = (cur, 0) := by unfold doV; rw [if_pos hok, ← hca]
      simp (config := {contextual := true}) only [go_sem, ↓reduceIte, reduceCtorEq, Bool.false_eq_true, Bool.true_eq_false, Nat.reduceAdd, Nat.reduceLT, Nat.reduceEqDiff, Nat.reduceLeDiff, Nat.reduceSub, Nat.reduceMul, hlt', hv, decide_true]
end Go.Proofs.Ytjhjnphcdpjnbaa
