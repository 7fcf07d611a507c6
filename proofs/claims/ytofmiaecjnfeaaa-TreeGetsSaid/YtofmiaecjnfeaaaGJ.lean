/- A part of a proof: functions of the program, walked. -/
import Derived.Test.YtofmiaecjnfeaaaGG
import Derived.Test.YtofmiaecjnfeaaaGI
set_option linter.unusedVariables false
set_option linter.unusedSimpArgs false
set_option maxRecDepth 8000
namespace Go.Proofs.Ytofmiaecjnfeaaa
open Nat renaming reduceAdd → uA, reduceLT → uB, reduceEqDiff → uC, reduceLeDiff → uD, reduceSub → uE, reduceMul → uF
open Bool renaming false_eq_true → yA, true_eq_false → yB
open Go Go.Proofs Go.Proofs.YtofmiaecjnfeaaaVm Go.Proofs.Ytofmiaecjnfeaaa.Ty

theorem notesOk_eq (ns : List Note) : notesOk' ns = notesOk ns := rfl

set_option maxRecDepth 4000 in
set_option maxHeartbeats 8000000 in
theorem ref10_Right (l : List Pair) (hl : l.length ≤ 1000000) : Ct Try.prog 28 (YtofmiaecjnfeaaaVm.ops [.row (l.map Pair.pv)]) (.vals [.bool (decide (pairsOk l))]) := by
  refine Ct.of_V Try.func28 rfl (by simp [YtofmiaecjnfeaaaVm.ops, Try.f28]) ?_
  refine V.exec 400 ?_
  simp +contextual (maxSteps := 1000000) only [go_sem, ↓reduceIte, reduceCtorEq, yA, yB, uA, uB, uC, uD, uE, uF, Try.f28]
  refine V.loop (fun m ls os => ∃ (i : Nat), i ≤ l.length ∧ m = l.length - i ∧ (pairsOk l ↔ pairsFrom (prevKey l i) (l.drop i)) ∧
        ls = [(0, .val (.row (l.map Pair.pv))), (3, .val (.int .i64 i))] ∧ os = []) 0 l.length
      [(0, .val (.row (l.map Pair.pv))), (3, .val (.int .i64 0))] [] []
      ⟨0, Nat.zero_le _, rfl, Iff.rfl, rfl, rfl⟩ (by simp only [go_sem, ↓reduceIte, reduceCtorEq, yA, yB, uA, uB, uC, uD, uE, uF]) ?_
  rintro m ls os ⟨i, hi, rfl, hiff, rfl, rfl⟩
  refine V.exec 400 ?_
  by_cases hlt : i < l.length
  · have hlt' : (i : Int) < (l.length : Int) := by omega
    obtain ⟨x, hx⟩ : ∃ x, l[i]? = some x := ⟨_, List.getElem?_eq_getElem hlt⟩
    have hw : IntKind.i64.wrap ((i : Int) + 1) = ((i + 1 : Nat) : Int) := by rw [wrap_small3] <;> omega
    rw [drop_of_get hx, pairsFrom] at hiff
    have hpk : prevKey l (i + 1) = some x.key := by simp [prevKey, hx]
    have fin : x.key.length ≤ 16 → x.value.length ≤ 32 → (∀ k, prevKey l i = some k → slt k x.key) → (pairsOk l ↔ pairsFrom (prevKey l (i + 1)) (l.drop (i + 1))) := fun a b c => by
      rw [hiff, hpk]; exact ⟨fun h => h.2.2.2, fun h => ⟨a, b, c, h⟩⟩
    have hfalse : ¬ pairsOk l → some [PV.bool false] = some [PV.bool (decide (pairsOk l))] := fun h => by simp [h]
    rcases Nat.eq_zero_or_pos i with rfl | hpos
    · have hz : ¬ (0 : Int) < ((0 : Nat) : Int) := by omega
      simp +contextual (maxSteps := 1000000) only [go_sem, ↓reduceIte, reduceCtorEq, yA, yB, uA, uB, uC, uD, uE, uF, hlt', hx, Pair.pv, hw, hz]
      (repeat' (first | (intro _) | (refine ⟨by kernel_rfl, ?_⟩) | (apply And.intro)))
      all_goals first
        | exact ⟨l.length - (0 + 1), _, [], [], by omega, ⟨1, by omega, rfl, fin (by omega) (by omega) (fun k h => by simp [prevKey] at h), rfl, rfl⟩, by simp only [go_sem, ↓reduceIte, reduceCtorEq, yA, yB, uA, uB, uC, uD, uE, uF]⟩
        | (refine hfalse fun h => ?_
           have h1 := (hiff.1 h).1
           have h2 := (hiff.1 h).2.1
           omega)
    · obtain ⟨j, rfl⟩ : ∃ j, i = j + 1 := ⟨i - 1, by omega⟩
      have hw2 : IntKind.i64.wrap (((j + 1 : Nat) : Int) - 1) = (j : Int) := by rw [wrap_small3] <;> omega
      have hjp : (0 : Int) < ((j + 1 : Nat) : Int) := by omega
      obtain ⟨y, hy⟩ : ∃ y, l[j]? = some y := ⟨_, List.getElem?_eq_getElem (by omega)⟩
      simp +contextual (maxSteps := 1000000) only [go_sem, ↓reduceIte, reduceCtorEq, yA, yB, uA, uB, uC, uD, uE, uF, hlt', hx, Pair.pv, hw, hw2, hjp, hy]
      (repeat' (first | (intro _) | (refine ⟨by kernel_rfl, ?_⟩) | (apply And.intro)))
      all_goals first
        | exact ⟨l.length - (j + 1 + 1), _, [], [], by omega, ⟨j + 1 + 1, by omega, rfl, fin (by omega) (by omega) (fun k h => by simp [prevKey, hy] at h; rw [← h]; assumption), rfl, rfl⟩, by simp only [go_sem, ↓reduceIte, reduceCtorEq, yA, yB, uA, uB, uC, uD, uE, uF]⟩
        | (refine hfalse fun h => ?_
           have h1 := (hiff.1 h).1
           have h2 := (hiff.1 h).2.1
           have h3 := (hiff.1 h).2.2.1 y.key (by simp [prevKey, hy])
           first | omega | contradiction)
  · have hlt' : ¬ (i : Int) < (l.length : Int) := by omega
    have hd : l.drop i = [] := List.drop_eq_nil_of_le (by omega)
    rw [hd, pairsFrom] at hiff
    simp +contextual (maxSteps := 1000000) only [go_sem, ↓reduceIte, reduceCtorEq, yA, yB, uA, uB, uC, uD, uE, uF, hlt']
    simp [hiff]

def refFindP (l : List Pair) (k : List UInt8) : Int := match l.findIdx? (fun s => decide (s.key = k)) with
  | some i => i
  | none => -1

set_option maxHeartbeats 4000000 in
theorem ref10_Find (l : List Pair) (k : List UInt8) (hl : l.length ≤ 1000000) : Ct Try.prog 15 (YtofmiaecjnfeaaaVm.ops [.row (l.map Pair.pv), .str k]) (.vals [.int .i64 (refFindP l k)]) := by
  refine Ct.of_V Try.func15 rfl (by simp [YtofmiaecjnfeaaaVm.ops, Try.f15]) ?_
  refine V.exec 400 ?_
  simp +contextual (maxSteps := 1000000) only [go_sem, ↓reduceIte, reduceCtorEq, yA, yB, uA, uB, uC, uD, uE, uF, Try.f15]
  refine V.loop (fun m ls os => ∃ (i : Nat), i ≤ l.length ∧ m = l.length - i ∧ (∀ s ∈ l.take i, s.key ≠ k) ∧
        ls = [(0, .val (.row (l.map Pair.pv))), (1, .val (.str k)), (5, .val (.int .i64 i))] ∧ os = []) 0 l.length
      [(0, .val (.row (l.map Pair.pv))), (1, .val (.str k)), (5, .val (.int .i64 0))] [] []
      ⟨0, Nat.zero_le _, rfl, by simp, rfl, rfl⟩ (by simp only [go_sem, ↓reduceIte, reduceCtorEq, yA, yB, uA, uB, uC, uD, uE, uF]) ?_
  rintro m ls os ⟨i, hi, rfl, hno, rfl, rfl⟩
  refine V.exec 400 ?_
  by_cases hlt : i < l.length
  · have hlt' : (i : Int) < (l.length : Int) := by omega
    obtain ⟨x, hx⟩ : ∃ x, l[i]? = some x := ⟨_, List.getElem?_eq_getElem hlt⟩
    have hxe := (List.getElem?_eq_some_iff.1 hx).2
    have hw : IntKind.i64.wrap ((i : Int) + 1) = ((i + 1 : Nat) : Int) := by rw [wrap_small3] <;> omega
    simp +contextual (maxSteps := 1000000) only [go_sem, ↓reduceIte, reduceCtorEq, yA, yB, uA, uB, uC, uD, uE, uF, hlt', hx, Pair.pv, hw]
    refine ⟨fun he => ?_, fun hne => ?_⟩
    · have hf : l.findIdx? (fun s => decide (s.key = k)) = some i := by
        rw [List.findIdx?_eq_some_iff_getElem]
        refine ⟨hlt, by rw [hxe]; simpa using he, fun j hj => ?_⟩
        have := hno l[j] (by rw [List.mem_take_iff_getElem]; exact ⟨j, by omega, rfl⟩)
        simpa using this
      have hv : refFindP l k = (i : Int) := by simp only [refFindP, hf]
      simp [hv]
    · refine ⟨l.length - (i + 1), _, [], [], by omega, ⟨i + 1, by omega, rfl, fun s hs => ?_, rfl, rfl⟩, by simp only [go_sem, ↓reduceIte, reduceCtorEq, yA, yB, uA, uB, uC, uD, uE, uF]⟩
      rw [List.take_add_one, hx] at hs
      rcases List.mem_append.1 hs with hs | hs
      · exact hno s hs
      · simp at hs; rw [hs]; exact hne
  · have hlt' : ¬ (i : Int) < (l.length : Int) := by omega
    simp +contextual (maxSteps := 1000000) only [go_sem, ↓reduceIte, reduceCtorEq, yA, yB, uA, uB, uC, uD, uE, uF, hlt']
    rw [List.take_of_length_le (by omega)] at hno
    have hf : l.findIdx? (fun s => decide (s.key = k)) = none := by
      rw [List.findIdx?_eq_none_iff]
      intro x hx
      simpa using hno x hx
    simp only [refFindP, hf]

def lessV (l : List Pair) (k : List UInt8) : Nat := (lowP l k).length
theorem lowP_snoc (l : List Pair) (x : Pair) (k : List UInt8) : lowP (l ++ [x]) k = if slt x.key k then lowP l k ++ [x] else lowP l k := by
  unfold lowP
  rw [List.filter_append]
  by_cases h : slt x.key k <;> simp [h]
theorem highP_snoc (l : List Pair) (x : Pair) (k : List UInt8) : highP (l ++ [x]) k = if slt k x.key then highP l k ++ [x] else highP l k := by
  unfold highP
  rw [List.filter_append]
  by_cases h : slt k x.key <;> simp [h]
theorem lowP_len (l : List Pair) (k : List UInt8) : (lowP l k).length ≤ l.length := List.length_filter_le _ _
theorem highP_len (l : List Pair) (k : List UInt8) : (highP l k).length ≤ l.length := List.length_filter_le _ _
theorem take_snoc {α : Type} {l : List α} {i : Nat} {x : α} (h : l[i]? = some x) : l.take (i + 1) = l.take i ++ [x] := by
  rw [List.take_add_one, h]; rfl


/-- The last value that a key has. -/
def lastV (l : List Pair) (k : List UInt8) : List UInt8 × Bool := l.foldl (fun s p => if p.key = k then (p.value, true) else s) ([], false)
theorem lastV_snoc (l : List Pair) (x : Pair) (k : List UInt8) : lastV (l ++ [x]) k = if x.key = k then (x.value, true) else lastV l k := by
  unfold lastV
  rw [List.foldl_append]; rfl
theorem lastV_none : ∀ (l : List Pair) (k : List UInt8), (∀ p ∈ l, p.key ≠ k) → ∀ s, l.foldl (fun s p => if p.key = k then (p.value, true) else s) s = (s : List UInt8 × Bool)
  | [], _, _, _ => rfl
  | p :: r, k, h, s => by
    rw [List.foldl_cons, if_neg (h p List.mem_cons_self)]
    exact lastV_none r k (fun x hx => h x (List.mem_cons_of_mem _ hx)) s
theorem lastV_val {l : List Pair} (hs : Sorted l) (k : List UInt8) : lastV l k = (match val l k with | some v => (v, true) | none => ([], false)) := by
  unfold lastV val getL
  suffices h : ∀ (s : List UInt8 × Bool), l.foldl (fun s p => if p.key = k then (p.value, true) else s) s = (match (l.find? (fun p => decide (p.key = k))).map Pair.value with | some v => (v, true) | none => s) from h _
  induction l with
  | nil => intro s; rfl
  | cons p r ih =>
    intro s
    cases hs with
    | cons h1 h2 =>
      rw [List.foldl_cons, List.find?_cons]
      by_cases he : p.key = k
      · rw [if_pos he, lastV_none r k (fun x hx e => by
          have := h1 x hx
          rw [e, he] at this
          exact slt_irrefl _ this)]
        simp [he]
      · rw [if_neg he, ih h2]
        simp [he]
theorem oneV_last {l : List Pair} (hs : Sorted l) (x : Note) : oneV l x = lowP l x.key ++ (if (doneOne (lastV l x.key) x).2 = true then [⟨x.key, (doneOne (lastV l x.key) x).1⟩] else []) ++ highP l x.key := by
  rw [lastV_val hs]
  unfold oneV mids stepO
  cases val l x.key <;> simp only <;> split <;> simp_all
end Go.Proofs.Ytofmiaecjnfeaaa
set_option linter.unusedVariables false
set_option linter.unusedSimpArgs false
set_option maxRecDepth 8000
namespace Go.Proofs.Ytofmiaecjnfeaaa
open Nat renaming reduceAdd → uA, reduceLT → uB, reduceEqDiff → uC, reduceLeDiff → uD, reduceSub → uE, reduceMul → uF
open Bool renaming false_eq_true → yA, true_eq_false → yB
open Go Go.Proofs Go.Proofs.YtofmiaecjnfeaaaVm Go.Proofs.Ytofmiaecjnfeaaa.Ty

set_option maxRecDepth 10000 in
set_option maxHeartbeats 16000000 in
theorem ref10_one (l : List Pair) (x : Note) (hl : l.length ≤ 400000) (hs : Sorted l) : Ct Try.prog 29 (YtofmiaecjnfeaaaVm.ops [.row (l.map Pair.pv), x.pv]) (.vals [.row ((oneV l x).map Pair.pv)]) := by
  refine Ct.of_V Try.func29 rfl (by simp [YtofmiaecjnfeaaaVm.ops, Try.f29]) ?_
  refine V.exec 400 ?_
  simp +contextual (maxSteps := 1000000) only [go_sem, ↓reduceIte, reduceCtorEq, yA, yB, uA, uB, uC, uD, uE, uF, Try.f29, Note.pv]
  refine V.loop (fun m ls os => ∃ (i : Nat), i ≤ l.length ∧ m = l.length - i ∧
        ls = [(0, .val (.row (l.map Pair.pv))), (3, .adr 0 0), (5, .val (.str (lastV (l.take i) x.key).1)), (6, .val (.bool (decide ((lastV (l.take i) x.key).2 = true)))), (7, .ref 1), (8, .ref 2), (9, .val (.int .i64 i))] ∧
        os = [.box true [.val (.int .i64 x.kind), .val (.str x.key), .val (.str x.value), .val (.int .u64 x.n)], .row 42 ((lowP (l.take i) x.key).map Pair.pv), .row 42 ((highP (l.take i) x.key).map Pair.pv)]) 3 l.length
      [(0, .val (.row (l.map Pair.pv))), (3, .adr 0 0), (5, .val (.str [])), (6, .val (.bool (decide (false = true)))), (7, .ref 1), (8, .ref 2), (9, .val (.int .i64 0))]
      [.box true [.val (.int .i64 x.kind), .val (.str x.key), .val (.str x.value), .val (.int .u64 x.n)], .row 42 [], .row 42 []] [some 2, none, none]
      ⟨0, Nat.zero_le _, rfl, rfl, rfl⟩ (by simp only [go_sem, ↓reduceIte, reduceCtorEq, yA, yB, uA, uB, uC, uD, uE, uF, decide_false]; try decide) ?_
  rintro m ls os ⟨i, hi, rfl, rfl, rfl⟩
  refine V.exec 400 ?_
  by_cases hlt : i < l.length
  · have hlt' : (i : Int) < (l.length : Int) := by omega
    obtain ⟨p, hp⟩ : ∃ x, l[i]? = some x := ⟨_, List.getElem?_eq_getElem hlt⟩
    have hw : IntKind.i64.wrap ((i : Int) + 1) = ((i + 1 : Nat) : Int) := by rw [wrap_small3] <;> omega
    have h1 := lowP_snoc (l.take i) p x.key
    have h2 := highP_snoc (l.take i) p x.key
    have h3 := lastV_snoc (l.take i) p x.key
    rw [← take_snoc hp] at h1 h2 h3
    have hl1 : (lowP (l.take i) x.key).length ≤ i := Nat.le_trans (lowP_len _ _) (by simp; omega)
    have hl2 : (highP (l.take i) x.key).length ≤ i := Nat.le_trans (highP_len _ _) (by simp; omega)
    by_cases ha : slt p.key x.key
    · have hb : ¬ p.key = x.key := fun e => slt_irrefl x.key (by rw [e] at ha; exact ha)
      have hc : ¬ slt x.key p.key := slt_asymm ha
      rw [if_pos ha] at h1
      rw [if_neg hc] at h2
      rw [if_neg hb] at h3
      have hd : ¬ (slt p.key x.key ∨ p.key = x.key) ↔ False := by simp [ha]
      simp +contextual (maxSteps := 1000000) only [go_sem, ↓reduceIte, reduceCtorEq, yA, yB, uA, uB, uC, uD, uE, uF, hlt', hp, Pair.pv, hw, ha, hb, true_or]
      (repeat' (first | (intro _) | (refine ⟨by kernel_rfl, ?_⟩) | (apply And.intro)))
      all_goals first
        | omega
        | (refine ⟨l.length - (i + 1), _, _, [some 0, some 21, some 2], by omega, ⟨i + 1, by omega, rfl, rfl, rfl⟩, ?_⟩
           simp only [go_sem, ↓reduceIte, reduceCtorEq, yA, yB, uA, uB, uC, uD, uE, uF, h1, h2, h3, List.map_append, List.map_cons, List.map_nil, Pair.pv, decide_true]
           try decide)
    · by_cases hb : p.key = x.key
      · have hc : ¬ slt x.key p.key := by rw [hb]; exact slt_irrefl _
        rw [if_neg ha] at h1
        rw [if_neg hc] at h2
        rw [if_pos hb] at h3
        have hsi := slt_irrefl x.key
        simp +contextual (maxSteps := 1000000) only [go_sem, ↓reduceIte, reduceCtorEq, yA, yB, uA, uB, uC, uD, uE, uF, hlt', hp, Pair.pv, hw, hb, hsi, or_true]
        (repeat' (first | (intro _) | (refine ⟨by kernel_rfl, ?_⟩) | (apply And.intro)))
        all_goals first
          | omega
          | (refine ⟨l.length - (i + 1), _, _, [some 0, some 1, some 2], by omega, ⟨i + 1, by omega, rfl, rfl, rfl⟩, ?_⟩
             simp only [go_sem, ↓reduceIte, reduceCtorEq, yA, yB, uA, uB, uC, uD, uE, uF, h1, h2, h3, List.map_append, List.map_cons, List.map_nil, Pair.pv, decide_true]
             try decide)
      · have hc : slt x.key p.key := by
          rcases slt_total p.key x.key with h | h | h
          · exact absurd h ha
          · exact absurd h hb
          · exact h
        rw [if_neg ha] at h1
        rw [if_pos hc] at h2
        rw [if_neg hb] at h3
        simp +contextual (maxSteps := 1000000) only [go_sem, ↓reduceIte, reduceCtorEq, yA, yB, uA, uB, uC, uD, uE, uF, hlt', hp, Pair.pv, hw, ha, hb, or_self]
        (repeat' (first | (intro _) | (refine ⟨by kernel_rfl, ?_⟩) | (apply And.intro)))
        all_goals first
          | omega
          | (refine ⟨l.length - (i + 1), _, _, [some 0, some 1, some 37], by omega, ⟨i + 1, by omega, rfl, rfl, rfl⟩, ?_⟩
             simp only [go_sem, ↓reduceIte, reduceCtorEq, yA, yB, uA, uB, uC, uD, uE, uF, h1, h2, h3, List.map_append, List.map_cons, List.map_nil, Pair.pv, decide_true]
             try decide)
  · have hlt' : ¬ (i : Int) < (l.length : Int) := by omega
    simp +contextual (maxSteps := 1000000) only [go_sem, ↓reduceIte, reduceCtorEq, yA, yB, uA, uB, uC, uD, uE, uF, hlt']
    rw [List.take_of_length_le (by omega)]
    have ho := oneV_last hs x
    have hl1 := lowP_len l x.key
    have hl2 := highP_len l x.key
    generalize lowP l x.key = low at *
    generalize highP l x.key = high at *
    obtain ⟨v, has, hlv⟩ : ∃ a b, lastV l x.key = (a, b) := ⟨_, _, rfl⟩
    rw [hlv] at ho ⊢
    simp only at ho ⊢
    have hfe : v = (if has = true then v else []) ∨ True := .inr trivial
    have hv0 : has = false → v = [] := fun h => by
      have := lastV_val hs x.key
      rw [hlv] at this
      cases hv : val l x.key with
      | none => rw [hv] at this; cases this; rfl
      | some w => rw [hv] at this; cases this; cases h
    have hdo := ref09_Done v has [x] (by simp)
    have hdv : doneV v has [x] = doneOne (v, has) x := by
      unfold doneV
      simp only [List.foldl_cons, List.foldl_nil]
      cases has with
      | true => rfl
      | false => rw [hv0 rfl]; rfl
    rw [hdv] at hdo
    obtain ⟨now, is', hdd⟩ : ∃ a b, doneOne (v, has) x = (a, b) := ⟨_, _, rfl⟩
    rw [hdd] at hdo ho
    simp only at hdo ho
    refine V.call rfl rfl (by simp [dOK]) ⟨46, [], by simp only [go_sem, ↓reduceIte, reduceCtorEq, yA, yB, uA, uB, uC, uD, uE, uF], ⟨_, rfl, rfl, rfl⟩, .inl ⟨[.str v, .bool (decide (has = true)), .row ([x].map Note.pv)], _, .inl (by simp only [go_sem, ↓reduceIte, reduceCtorEq, yA, yB, uA, uB, uC, uD, uE, uF, Note.pv, List.map_cons, List.map_nil]), hdo, .inr (.inl ⟨_, rfl, rfl, rfl⟩)⟩⟩ ?_
    refine V.exec 400 ?_
    cases is' with
    | true =>
      rw [if_pos rfl] at ho
      rw [ho]
      simp +contextual (maxSteps := 1000000) only [go_sem, ↓reduceIte, reduceCtorEq, yA, yB, uA, uB, uC, uD, uE, uF, decide_true]
      refine ⟨⟨by omega, by omega⟩, fun j _ => rfl, ⟨by simp; omega, by simp; omega⟩, by simp [Pair.pv]⟩
    | false =>
      rw [if_neg (by simp)] at ho
      rw [ho]
      simp +contextual (maxSteps := 1000000) only [go_sem, ↓reduceIte, reduceCtorEq, yA, yB, uA, uB, uC, uD, uE, uF, decide_false]
      refine ⟨fun j _ => rfl, ⟨by omega, by omega⟩, by simp⟩

set_option maxRecDepth 10000 in
set_option maxHeartbeats 16000000 in
theorem ref10_Apply (l : List Pair) (ns : List Note) (hl : l.length ≤ 200000) (hn : ns.length ≤ 200000) : Ct Try.prog 12 (YtofmiaecjnfeaaaVm.ops [.row (l.map Pair.pv), .row (ns.map Note.pv)]) (.vals [.row ((applyV l ns).1.map Pair.pv), .int .i64 (applyV l ns).2]) := by
  refine Ct.of_V Try.func12 rfl (by simp [YtofmiaecjnfeaaaVm.ops, Try.f12]) ?_
  refine V.exec 400 ?_
  simp +contextual (maxSteps := 1000000) only [go_sem, ↓reduceIte, reduceCtorEq, yA, yB, uA, uB, uC, uD, uE, uF, Try.f12]
  refine V.call rfl rfl (by simp [dOK]) ⟨28, [], by simp only [go_sem, ↓reduceIte, reduceCtorEq, yA, yB, uA, uB, uC, uD, uE, uF], ⟨_, rfl, rfl, rfl⟩, .inl ⟨[.row (l.map Pair.pv)], _, .inl (by simp only [go_sem, ↓reduceIte, reduceCtorEq, yA, yB, uA, uB, uC, uD, uE, uF]), ref10_Right l (by omega), .inl ⟨_, rfl, rfl, rfl, rfl⟩⟩⟩ ?_
  refine V.exec 400 ?_
  simp +contextual (maxSteps := 1000000) only [go_sem, ↓reduceIte, reduceCtorEq, yA, yB, uA, uB, uC, uD, uE, uF]
  refine V.call rfl rfl (by simp [dOK]) ⟨19, [], by simp only [go_sem, ↓reduceIte, reduceCtorEq, yA, yB, uA, uB, uC, uD, uE, uF], ⟨_, rfl, rfl, rfl⟩, .inl ⟨[.row (ns.map Note.pv)], _, .inl (by simp only [go_sem, ↓reduceIte, reduceCtorEq, yA, yB, uA, uB, uC, uD, uE, uF]), ref09_All ns (by omega), .inl ⟨_, rfl, rfl, rfl, rfl⟩⟩⟩ ?_
  refine V.exec 400 ?_
  by_cases hok : pairsOk l
  · by_cases hall : notesOk' ns
    · have hv : applyV l ns = (appV l ns, 0) := applyV_ok hok hall
      simp +contextual (maxSteps := 1000000) only [go_sem, ↓reduceIte, reduceCtorEq, yA, yB, uA, uB, uC, uD, uE, uF, hok, hall, hv]
      refine V.loop (fun m ls os => ∃ (i : Nat) (cur : List Pair), i ≤ ns.length ∧ m = ns.length - i ∧ Sorted cur ∧ cur.length ≤ l.length + i ∧ appV cur (ns.drop i) = appV l ns ∧
          ls = [(0, .val (.row (cur.map Pair.pv))), (1, .val (.row (ns.map Note.pv))), (8, .val (.int .i64 i))] ∧ os = []) 0 ns.length
        [(0, .val (.row (l.map Pair.pv))), (1, .val (.row (ns.map Note.pv))), (8, .val (.int .i64 0))] [] []
        ⟨0, l, Nat.zero_le _, rfl, ((pairsOk_iff l).1 hok).1, Nat.le_refl _, rfl, rfl, rfl⟩ (by simp only [go_sem, ↓reduceIte, reduceCtorEq, yA, yB, uA, uB, uC, uD, uE, uF]) ?_
      rintro m ls os ⟨i, cur, hi, rfl, hcs, hcl, hca, rfl, rfl⟩
      refine V.exec 400 ?_
      by_cases hlt : i < ns.length
      · have hlt' : (i : Int) < (ns.length : Int) := by omega
        obtain ⟨x, hx⟩ : ∃ x, ns[i]? = some x := ⟨_, List.getElem?_eq_getElem hlt⟩
        have hw : IntKind.i64.wrap ((i : Int) + 1) = ((i + 1 : Nat) : Int) := by rw [wrap_small3] <;> omega
        rw [drop_of_get hx, appV, List.foldl_cons] at hca
        have hol := oneV_len hcs x
        simp +contextual (maxSteps := 1000000) only [go_sem, ↓reduceIte, reduceCtorEq, yA, yB, uA, uB, uC, uD, uE, uF, hlt', hx, Note.pv]
        refine V.call rfl rfl (by simp [dOK]) ⟨29, [], by simp only [go_sem, ↓reduceIte, reduceCtorEq, yA, yB, uA, uB, uC, uD, uE, uF], ⟨_, rfl, rfl, rfl⟩, .inl ⟨[.row (cur.map Pair.pv), x.pv], _, .inl (by simp only [go_sem, ↓reduceIte, reduceCtorEq, yA, yB, uA, uB, uC, uD, uE, uF, Note.pv]), ref10_one cur x (by omega) hcs, .inr (.inl ⟨_, rfl, rfl, rfl⟩)⟩⟩ ?_
        refine V.exec 400 ?_
        simp +contextual (maxSteps := 1000000) only [go_sem, ↓reduceIte, reduceCtorEq, yA, yB, uA, uB, uC, uD, uE, uF, hw]
        exact ⟨ns.length - (i + 1), _, [], [], by omega, ⟨i + 1, oneV cur x, by omega, rfl, oneV_sorted hcs x, by omega, hca, rfl, rfl⟩, by simp only [go_sem, ↓reduceIte, reduceCtorEq, yA, yB, uA, uB, uC, uD, uE, uF]⟩
      · have hlt' : ¬ (i : Int) < (ns.length : Int) := by omega
        have hd : ns.drop i = [] := List.drop_eq_nil_of_le (by omega)
        rw [hd] at hca
        simp +contextual (maxSteps := 1000000) only [go_sem, ↓reduceIte, reduceCtorEq, yA, yB, uA, uB, uC, uD, uE, uF, hlt', ← hca]
        rfl
    · have hv : applyV l ns = (l, 1) := applyV_bad (fun h => hall h.2)
      simp +contextual (maxSteps := 1000000) only [go_sem, ↓reduceIte, reduceCtorEq, yA, yB, uA, uB, uC, uD, uE, uF, hok, hall, hv]
  · have hv : applyV l ns = (l, 1) := applyV_bad (fun h => hok h.1)
    simp +contextual (maxSteps := 1000000) only [go_sem, ↓reduceIte, reduceCtorEq, yA, yB, uA, uB, uC, uD, uE, uF, hok, hv]
end Go.Proofs.Ytofmiaecjnfeaaa
set_option linter.unusedVariables false
set_option linter.unusedSimpArgs false
set_option maxRecDepth 8000
namespace Go.Proofs.Ytofmiaecjnfeaaa
open Nat renaming reduceAdd → uA, reduceLT → uB, reduceEqDiff → uC, reduceLeDiff → uD, reduceSub → uE, reduceMul → uF
open Bool renaming false_eq_true → yA, true_eq_false → yB
open Go Go.Proofs Go.Proofs.YtofmiaecjnfeaaaVm Go.Proofs.Ytofmiaecjnfeaaa.Ty

set_option maxRecDepth 20000 in
set_option maxHeartbeats 16000000 in
theorem ref12_Well {h : Nat} {n : Nd} (w : WF h none n) (hlow : n.low = []) (hlen : (infosN 0 n).length ≤ 200000000) (hh : h ≤ 10000) :
    Ct Try.prog 31 (YtofmiaecjnfeaaaVm.ops [.row ((infosN 0 n).map Info.pv)]) (.vals [.bool true]) := by
  have c1 := ref12_deepest (infosN 0 n) hlen
  rw [deep_is w] at c1
  have c2 := ref12_end h none n 0 (infosN 0 n) [] [] w (by simp) hlen (by omega)
  rw [Nat.zero_add, List.length_nil, Nat.zero_add] at c2
  have h0 : (infosN 0 n)[0]? = some (headI 0 n) := infos_at (pre := []) (rest := []) (by simp)
  have hH : (headI 0 n).pv = .agg [.int .i64 0, .int .i64 n.kids.length, .str [], .row (n.wait.map Note.pv), .row (n.pairs.map Pair.pv)] := by
    unfold headI Info.pv
    rw [hlow]; rfl
  have hone := infosN_one 0 n
  have hne : ¬ ((infosN 0 n).length : Int) = 0 := by omega
  have hB := betw_all h 0 none n [] w (fun e _ => rfl) trivial
  rw [List.append_nil] at hB
  obtain ⟨hP, hX⟩ := info_all h 0 none n w
  have hS := info_small h 0 none n w
  have hx : ∀ (i : Nat) (x : Info), (infosN 0 n)[i]? = some x → BetwOK x ((infosN 0 n).drop (i + 1)) ∧ waitOk x.notes ∧ pairsOk x.pairs ∧ x.notes.length ≤ 6 ∧ x.pairs.length ≤ 4 := fun i x hx => by
    have hm := List.mem_of_getElem? hx
    exact ⟨allBetw_get _ i x hB hx, (hX x hm).2.1, (hX x hm).2.2, (hS x hm).1, (hS x hm).2⟩
  have hA : ∀ (i j : Nat) (x y : Info), (infosN 0 n)[i]? = some x → (infosN 0 n)[j]? = some y → i < j → ¬ slt y.low x.low ∧ ¬ (y.low = x.low ∧ y.depth ≤ x.depth) := fun i j x y hi hj hij => by
    obtain ⟨q1, rfl⟩ := List.getElem?_eq_some_iff.1 hi
    obtain ⟨q2, rfl⟩ := List.getElem?_eq_some_iff.1 hj
    exact List.pairwise_iff_getElem.1 hP i j q1 q2 hij
  rw [show ((0 : Nat) : Int) = 0 from rfl] at c2
  generalize infosN 0 n = L at *
  refine Ct.of_V Try.func31 rfl (by simp [YtofmiaecjnfeaaaVm.ops, Try.f31]) ?_
  refine V.exec 400 ?_
  simp +contextual (maxSteps := 1000000) only [go_sem, ↓reduceIte, reduceCtorEq, yA, yB, uA, uB, uC, uD, uE, uF, Try.f31, hne, h0, hH, Int.le_refl, Int.toNat_zero]
  refine V.call rfl rfl (by simp [dOK]) ⟨48, [], by simp only [go_sem, ↓reduceIte, reduceCtorEq, yA, yB, uA, uB, uC, uD, uE, uF], ⟨_, rfl, rfl, rfl⟩, .inl ⟨[.row (L.map Info.pv)], _, .inl (by simp only [go_sem, ↓reduceIte, reduceCtorEq, yA, yB, uA, uB, uC, uD, uE, uF]), c1, .inl ⟨_, rfl, rfl, rfl, rfl⟩⟩⟩ ?_
  refine V.exec 400 ?_
  simp +contextual (maxSteps := 1000000) only [go_sem, ↓reduceIte, reduceCtorEq, yA, yB, uA, uB, uC, uD, uE, uF]
  refine V.call rfl rfl (by simp [dOK]) ⟨47, [], by simp only [go_sem, ↓reduceIte, reduceCtorEq, yA, yB, uA, uB, uC, uD, uE, uF], ⟨_, rfl, rfl, rfl⟩, .inl ⟨[.row (L.map Info.pv), .int .i64 0, .int .i64 0, .int .i64 h], _, .inl (by simp only [go_sem, ↓reduceIte, reduceCtorEq, yA, yB, uA, uB, uC, uD, uE, uF]), c2, .inl ⟨_, rfl, rfl, rfl, rfl⟩⟩⟩ ?_
  refine V.exec 400 ?_
  simp +contextual (maxSteps := 1000000) only [go_sem, ↓reduceIte, reduceCtorEq, yA, yB, uA, uB, uC, uD, uE, uF]
  refine V.loop (fun m ls os => ∃ (i : Nat), i ≤ L.length ∧ m = L.length - i ∧
        ls = [(0, .val (.row (L.map Info.pv))), (3, .val (.int .i64 i))] ∧ os = []) 0 L.length
      [(0, .val (.row (L.map Info.pv))), (3, .val (.int .i64 0))] [] []
      ⟨0, Nat.zero_le _, rfl, rfl, rfl⟩ (by simp only [go_sem, ↓reduceIte, reduceCtorEq, yA, yB, uA, uB, uC, uD, uE, uF]) ?_
  rintro m ls os ⟨i, hi, rfl, rfl, rfl⟩
  refine V.exec 400 ?_
  by_cases hlt : i < L.length
  · have hlt' : (i : Int) < (L.length : Int) := by omega
    obtain ⟨x, hxi⟩ : ∃ x, L[i]? = some x := ⟨_, List.getElem?_eq_getElem hlt⟩
    have hwi : IntKind.i64.wrap ((i : Int) + 1) = ((i + 1 : Nat) : Int) := by rw [wrap_small3] <;> omega
    obtain ⟨q1, q2, q3, q4, q5⟩ := hx i x hxi
    have d1 := ref11_Right x.notes (by omega)
    have d2 := ref10_Right x.pairs (by omega)
    have d3 := ref12_between L i x hlen hxi q1 (by omega) (by omega)
    have hX2 : x.pv = .agg [.int .i64 x.depth, .int .i64 x.kids, .str x.low, .row (x.notes.map Note.pv), .row (x.pairs.map Pair.pv)] := rfl
    simp +contextual (maxSteps := 1000000) only [go_sem, ↓reduceIte, reduceCtorEq, yA, yB, uA, uB, uC, uD, uE, uF, hlt', hxi, hX2]
    refine DV.call [] [] (by simp only [go_sem, ↓reduceIte, reduceCtorEq, yA, yB, uA, uB, uC, uD, uE, uF]) (by simp [dOK]) ⟨49, [], by simp only [go_sem, ↓reduceIte, reduceCtorEq, yA, yB, uA, uB, uC, uD, uE, uF], ⟨_, rfl, rfl, rfl⟩, .inl ⟨[.row (x.notes.map Note.pv)], _, .inl (by simp only [go_sem, ↓reduceIte, reduceCtorEq, yA, yB, uA, uB, uC, uD, uE, uF]), d1, .inl ⟨_, rfl, rfl, rfl, rfl⟩⟩⟩ (by simp only [go_sem, ↓reduceIte, reduceCtorEq, yA, yB, uA, uB, uC, uD, uE, uF]) (by simp only [go_sem, ↓reduceIte, reduceCtorEq, yA, yB, uA, uB, uC, uD, uE, uF]) (by simp only [go_sem, ↓reduceIte, reduceCtorEq, yA, yB, uA, uB, uC, uD, uE, uF]) (by simp) ?_
    refine DV.exec 400 ?_
    simp +contextual (maxSteps := 1000000) only [go_sem, ↓reduceIte, reduceCtorEq, yA, yB, uA, uB, uC, uD, uE, uF, hlt', hxi, hX2]
    refine DV.call [] [] (by simp only [go_sem, ↓reduceIte, reduceCtorEq, yA, yB, uA, uB, uC, uD, uE, uF]) (by simp [dOK]) ⟨28, [], by simp only [go_sem, ↓reduceIte, reduceCtorEq, yA, yB, uA, uB, uC, uD, uE, uF], ⟨_, rfl, rfl, rfl⟩, .inl ⟨[.row (x.pairs.map Pair.pv)], _, .inl (by simp only [go_sem, ↓reduceIte, reduceCtorEq, yA, yB, uA, uB, uC, uD, uE, uF]), d2, .inl ⟨_, rfl, rfl, rfl, rfl⟩⟩⟩ (by simp only [go_sem, ↓reduceIte, reduceCtorEq, yA, yB, uA, uB, uC, uD, uE, uF]) (by simp only [go_sem, ↓reduceIte, reduceCtorEq, yA, yB, uA, uB, uC, uD, uE, uF]) (by simp only [go_sem, ↓reduceIte, reduceCtorEq, yA, yB, uA, uB, uC, uD, uE, uF]) (by simp) ?_
    refine DV.exec 400 ?_
    simp +contextual (maxSteps := 1000000) only [go_sem, ↓reduceIte, reduceCtorEq, yA, yB, uA, uB, uC, uD, uE, uF, hlt', hxi, hX2]
    refine DV.call [] [] (by simp only [go_sem, ↓reduceIte, reduceCtorEq, yA, yB, uA, uB, uC, uD, uE, uF]) (by simp [dOK]) ⟨50, [], by simp only [go_sem, ↓reduceIte, reduceCtorEq, yA, yB, uA, uB, uC, uD, uE, uF], ⟨_, rfl, rfl, rfl⟩, .inl ⟨[.row (L.map Info.pv), .int .i64 i], _, .inl (by simp only [go_sem, ↓reduceIte, reduceCtorEq, yA, yB, uA, uB, uC, uD, uE, uF]), d3, .inl ⟨_, rfl, rfl, rfl, rfl⟩⟩⟩ (by simp only [go_sem, ↓reduceIte, reduceCtorEq, yA, yB, uA, uB, uC, uD, uE, uF]) (by simp only [go_sem, ↓reduceIte, reduceCtorEq, yA, yB, uA, uB, uC, uD, uE, uF]) (by simp only [go_sem, ↓reduceIte, reduceCtorEq, yA, yB, uA, uB, uC, uD, uE, uF]) (by simp) ?_
    refine DV.exec 400 ?_
    simp +contextual (maxSteps := 1000000) only [go_sem, ↓reduceIte, reduceCtorEq, yA, yB, uA, uB, uC, uD, uE, uF, q2, q3, hwi]
    refine ⟨by kernel_rfl, ?_⟩
    refine V.loop (fun m ls os => ∃ (j : Nat), i + 1 ≤ j ∧ j ≤ L.length ∧ m = L.length - j ∧
        ls = [(0, .val (.row (L.map Info.pv))), (3, .val (.int .i64 i)), (7, .val (.int .i64 j))] ∧ os = []) 0 (L.length - (i + 1))
      [(0, .val (.row (L.map Info.pv))), (3, .val (.int .i64 i)), (7, .val (.int .i64 (i + 1 : Nat)))] [] []
      ⟨i + 1, Nat.le_refl _, hlt, rfl, rfl, rfl⟩ (by simp only [go_sem, ↓reduceIte, reduceCtorEq, yA, yB, uA, uB, uC, uD, uE, uF]) ?_
    rintro m ls os ⟨j, hj1, hj2, rfl, rfl, rfl⟩
    refine V.exec 400 ?_
    by_cases hlj : j < L.length
    · have hlj' : (j : Int) < (L.length : Int) := by omega
      obtain ⟨y, hyj⟩ : ∃ y, L[j]? = some y := ⟨_, List.getElem?_eq_getElem hlj⟩
      have hwj : IntKind.i64.wrap ((j : Int) + 1) = ((j + 1 : Nat) : Int) := by rw [wrap_small3] <;> omega
      have hY2 : y.pv = .agg [.int .i64 y.depth, .int .i64 y.kids, .str y.low, .row (y.notes.map Note.pv), .row (y.pairs.map Pair.pv)] := rfl
      obtain ⟨r1, r2⟩ := hA i j x y hxi hyj (by omega)
      by_cases hlow2 : y.low = x.low
      · have r3 : ¬ (y.depth : Int) ≤ (x.depth : Int) := fun hd => r2 ⟨hlow2, by omega⟩
        have r1' : ¬ slt x.low x.low := slt_irrefl _
        simp +contextual (maxSteps := 1000000) only [go_sem, ↓reduceIte, reduceCtorEq, yA, yB, uA, uB, uC, uD, uE, uF, hlt', hlj', hxi, hyj, hX2, hY2, r1', hlow2, r3, hwj]
        exact ⟨by kernel_rfl, L.length - (j + 1), _, _, [], by omega, ⟨j + 1, by omega, by omega, rfl, rfl, rfl⟩, by simp only [go_sem, ↓reduceIte, reduceCtorEq, yA, yB, uA, uB, uC, uD, uE, uF]⟩
      · simp +contextual (maxSteps := 1000000) only [go_sem, ↓reduceIte, reduceCtorEq, yA, yB, uA, uB, uC, uD, uE, uF, hlt', hlj', hxi, hyj, hX2, hY2, r1, hlow2, hwj]
        exact ⟨by kernel_rfl, L.length - (j + 1), _, _, [], by omega, ⟨j + 1, by omega, by omega, rfl, rfl, rfl⟩, by simp only [go_sem, ↓reduceIte, reduceCtorEq, yA, yB, uA, uB, uC, uD, uE, uF]⟩
    · have hlj' : ¬ (j : Int) < (L.length : Int) := by omega
      simp +contextual (maxSteps := 1000000) only [go_sem, ↓reduceIte, reduceCtorEq, yA, yB, uA, uB, uC, uD, uE, uF, hlj', hwi]
      exact ⟨L.length - (i + 1), _, _, [], by omega, ⟨i + 1, by omega, rfl, rfl, rfl⟩, by simp only [go_sem, ↓reduceIte, reduceCtorEq, yA, yB, uA, uB, uC, uD, uE, uF]⟩
  · have hlt' : ¬ (i : Int) < (L.length : Int) := by omega
    simp +contextual (maxSteps := 1000000) only [go_sem, ↓reduceIte, reduceCtorEq, yA, yB, uA, uB, uC, uD, uE, uF, hlt']
end Go.Proofs.Ytofmiaecjnfeaaa
set_option linter.unusedVariables false
set_option linter.unusedSimpArgs false
set_option maxRecDepth 8000
namespace Go.Proofs.Ytofmiaecjnfeaaa
open Nat renaming reduceAdd → uA, reduceLT → uB, reduceEqDiff → uC, reduceLeDiff → uD, reduceSub → uE, reduceMul → uF
open Bool renaming false_eq_true → yA, true_eq_false → yB
open Go Go.Proofs Go.Proofs.YtofmiaecjnfeaaaVm Go.Proofs.Ytofmiaecjnfeaaa.Ty

set_option maxRecDepth 20000 in
set_option maxHeartbeats 16000000 in
theorem ref12_Pairs {h : Nat} {n : Nd} (w : WF h none n) (hlen : (infosN 0 n).length ≤ 200000000) (hh : h ≤ 10000) (hm : n.mass ≤ 10000) :
    Ct Try.prog 32 (YtofmiaecjnfeaaaVm.ops [.row ((infosN 0 n).map Info.pv)]) (.vals [.row (n.all.map Pair.pv)]) := by
  have c1 := ref12_deepest (infosN 0 n) hlen
  rw [deep_is w] at c1
  have hfin := pairs_is w
  have hok : pairsOk (leafP (infosN 0 n)) := by
    have := leafP_ok (h := h) (n := n) (hi := none) h 0 [n] ⟨w, trivial⟩
    simpa [infosL] using this
  have hvol := info_vol h 0 none n w
  have hut := upTo_le h (infosN 0 n)
  have hX := (info_all h 0 none n w).2
  have hS := info_small h 0 none n w
  have hx : ∀ (i : Nat) (x : Info), (infosN 0 n)[i]? = some x → notesOk x.notes ∧ x.notes.length ≤ 6 := fun i x hx => by
    have hmm := List.mem_of_getElem? hx
    exact ⟨((waitOk_iff _).1 (hX x hmm).2.1).2, (hS x hmm).1⟩
  have hNo : ∀ (e i : Nat), ∀ x ∈ atD e ((infosN 0 n).take i), x.ok := fun e i x hx' => by
    unfold atD at hx'
    obtain ⟨y, hy, hxy⟩ := List.mem_flatMap.1 hx'
    have hy2 := List.mem_of_mem_take (List.mem_filter.1 hy).1
    exact ((waitOk_iff _).1 (hX y hy2).2.1).2 x hxy
  generalize infosN 0 n = L at *
  generalize n.all = A at *
  refine Ct.of_V Try.func32 rfl (by simp [YtofmiaecjnfeaaaVm.ops, Try.f32]) ?_
  refine V.exec 400 ?_
  simp +contextual (maxSteps := 1000000) only [go_sem, ↓reduceIte, reduceCtorEq, yA, yB, uA, uB, uC, uD, uE, uF, Try.f32]
  refine V.loop (fun m ls os => ∃ (i : Nat), i ≤ L.length ∧ m = L.length - i ∧
        ls = [(0, .val (.row (L.map Info.pv))), (3, .ref 0), (4, .val (.int .i64 i))] ∧ os = [.row 42 ((leafP (L.take i)).map Pair.pv)]) 1 L.length
      [(0, .val (.row (L.map Info.pv))), (3, .ref 0), (4, .val (.int .i64 0))] [.row 42 []] [none]
      ⟨0, Nat.zero_le _, rfl, rfl, rfl⟩ (by simp only [go_sem, ↓reduceIte, reduceCtorEq, yA, yB, uA, uB, uC, uD, uE, uF]; try decide) ?_
  rintro m ls os ⟨i, hi, rfl, rfl, rfl⟩
  refine V.exec 400 ?_
  by_cases hlt : i < L.length
  · have hlt' : (i : Int) < (L.length : Int) := by omega
    obtain ⟨x, hxi⟩ : ∃ x, L[i]? = some x := ⟨_, List.getElem?_eq_getElem hlt⟩
    have hwi : IntKind.i64.wrap ((i : Int) + 1) = ((i + 1 : Nat) : Int) := by rw [wrap_small3] <;> omega
    have hX2 : x.pv = .agg [.int .i64 x.depth, .int .i64 x.kids, .str x.low, .row (x.notes.map Note.pv), .row (x.pairs.map Pair.pv)] := rfl
    have hlf := leafP_take L i x hxi
    have hl1 := leafP_take_le L (i + 1)
    rw [hlf, List.length_append] at hl1
    simp +contextual (maxSteps := 1000000) only [go_sem, ↓reduceIte, reduceCtorEq, yA, yB, uA, uB, uC, uD, uE, uF, hlt', hxi, hX2, hwi]
    exact ⟨fun j _ => rfl, ⟨by omega, by omega⟩, L.length - (i + 1), _, _, [some 11], by omega, ⟨i + 1, by omega, rfl, rfl, rfl⟩, by simp only [go_sem, ↓reduceIte, reduceCtorEq, yA, yB, uA, uB, uC, uD, uE, uF, hlf, List.map_append]; try decide⟩
  · have hlt' : ¬ (i : Int) < (L.length : Int) := by omega
    rw [List.take_of_length_le (by omega)]
    simp +contextual (maxSteps := 1000000) only [go_sem, ↓reduceIte, reduceCtorEq, yA, yB, uA, uB, uC, uD, uE, uF, hlt']
    refine V.call rfl rfl (by simp [dOK]) ⟨48, [], by simp only [go_sem, ↓reduceIte, reduceCtorEq, yA, yB, uA, uB, uC, uD, uE, uF], ⟨_, rfl, rfl, rfl⟩, .inl ⟨[.row (L.map Info.pv)], _, .inl (by simp only [go_sem, ↓reduceIte, reduceCtorEq, yA, yB, uA, uB, uC, uD, uE, uF]), c1, .inl ⟨_, rfl, rfl, rfl, rfl⟩⟩⟩ ?_
    refine V.exec 400 ?_
    simp +contextual (maxSteps := 1000000) only [go_sem, ↓reduceIte, reduceCtorEq, yA, yB, uA, uB, uC, uD, uE, uF]
    refine V.loop (fun m ls os => ∃ (dz : Int) (out : List Pair), m = (dz + 1).toNat ∧ ((∃ e : Nat, dz = e ∧ e ≤ h ∧ pairsOk out ∧ out.length + (upTo e L).length ≤ 40000 ∧ downTo L 0 e out = A) ∨ (dz = -1 ∧ out = A)) ∧ ((ls = [(0, .val (.row (L.map Info.pv))), (3, .ref 0), (5, .val (.int .i64 dz))] ∧ os = [.row 42 (out.map Pair.pv)]) ∨ (ls = [(0, .val (.row (L.map Info.pv))), (3, .val (.row (out.map Pair.pv))), (5, .val (.int .i64 dz))] ∧ os = []))) 1 (((h : Int) + 1).toNat)
      [(0, .val (.row (L.map Info.pv))), (3, .ref 0), (5, .val (.int .i64 h))] [.row 42 ((leafP L).map Pair.pv)] [some 0]
      ⟨h, leafP L, rfl, .inl ⟨h, rfl, Nat.le_refl _, hok, by omega, hfin⟩, .inl ⟨rfl, rfl⟩⟩ (by simp only [go_sem, ↓reduceIte, reduceCtorEq, yA, yB, uA, uB, uC, uD, uE, uF]; try decide) ?_
    rintro m ls os ⟨dz, out, rfl, hst, hk⟩
    rcases hst with ⟨e, rfl, he, ok, ln, dn⟩ | ⟨rfl, rfl⟩
    · have he0 : (0 : Int) ≤ (e : Int) := by omega
      have hwe : IntKind.i64.wrap ((e : Int) - 1) = (e : Int) - 1 := by rw [wrap_small3] <;> omega
      have hle : (atD e L).length ≤ (upTo e L).length := by
        cases e with
        | zero => rw [upTo_zero]; exact Nat.le_refl _
        | succ e => rw [upTo_succ]; omega
      rcases hk with ⟨rfl, rfl⟩ | ⟨rfl, rfl⟩
      · refine V.exec 400 ?_
        simp +contextual (maxSteps := 1000000) only [go_sem, ↓reduceIte, reduceCtorEq, yA, yB, uA, uB, uC, uD, uE, uF, he0]
        refine V.loop (fun m ls os => ∃ (i : Nat), i ≤ L.length ∧ m = L.length - i ∧ ((ls = [(0, .val (.row (L.map Info.pv))), (3, .ref 0), (5, .val (.int .i64 e)), (6, .val (.int .i64 i))] ∧ os = [.row 42 ((appV out (atD e (L.take i))).map Pair.pv)]) ∨ (ls = [(0, .val (.row (L.map Info.pv))), (3, .val (.row ((appV out (atD e (L.take i))).map Pair.pv))), (5, .val (.int .i64 e)), (6, .val (.int .i64 i))] ∧ os = []))) 1 L.length
          [(0, .val (.row (L.map Info.pv))), (3, .ref 0), (5, .val (.int .i64 e)), (6, .val (.int .i64 0))] [.row 42 (out.map Pair.pv)] [some 0]
          ⟨0, Nat.zero_le _, rfl, .inl ⟨rfl, rfl⟩⟩ (by simp only [go_sem, ↓reduceIte, reduceCtorEq, yA, yB, uA, uB, uC, uD, uE, uF]; try decide) ?_
        rintro m ls os ⟨i, hi, rfl, hk⟩
        have oka : pairsOk (appV out (atD e (L.take i))) := appV_ok _ ok (hNo e i)
        have lna := appV_len (atD e (L.take i)) ((pairsOk_iff _).1 ok).1
        have lnt := atD_take_le e L i
        by_cases hlt : i < L.length
        · have hlt' : (i : Int) < (L.length : Int) := by omega
          obtain ⟨x, hxi⟩ : ∃ x, L[i]? = some x := ⟨_, List.getElem?_eq_getElem hlt⟩
          have hwi : IntKind.i64.wrap ((i : Int) + 1) = ((i + 1 : Nat) : Int) := by rw [wrap_small3] <;> omega
          have hX2 : x.pv = .agg [.int .i64 x.depth, .int .i64 x.kids, .str x.low, .row (x.notes.map Note.pv), .row (x.pairs.map Pair.pv)] := rfl
          obtain ⟨y1, y2⟩ := hx i x hxi
          have hat := atD_take e L i x hxi
          have hap := ref10_Apply (appV out (atD e (L.take i))) x.notes (by omega) (by omega)
          rw [applyV_ok oka y1] at hap
          by_cases hde : x.depth = e
          · have hde' : (x.depth : Int) = (e : Int) := by omega
            rw [if_pos hde] at hat
            have hat2 : appV out (atD e (L.take (i + 1))) = appV (appV out (atD e (L.take i))) x.notes := by rw [hat, appV_app]
            rcases hk with ⟨rfl, rfl⟩ | ⟨rfl, rfl⟩
            all_goals (
              refine V.exec 400 ?_
              simp +contextual (maxSteps := 1000000) only [go_sem, ↓reduceIte, reduceCtorEq, yA, yB, uA, uB, uC, uD, uE, uF, hlt', hxi, hX2, hde']
              refine V.call rfl rfl (by simp [dOK]) ⟨12, [], by simp only [go_sem, ↓reduceIte, reduceCtorEq, yA, yB, uA, uB, uC, uD, uE, uF], ⟨_, rfl, rfl, rfl⟩, .inl ⟨[.row ((appV out (atD e (L.take i))).map Pair.pv), .row (x.notes.map Note.pv)], _, .inl (by simp only [go_sem, ↓reduceIte, reduceCtorEq, yA, yB, uA, uB, uC, uD, uE, uF]), hap, .inr (.inl ⟨_, rfl, rfl, rfl⟩)⟩⟩ ?_
              refine V.exec 400 ?_
              simp +contextual (maxSteps := 1000000) only [go_sem, ↓reduceIte, reduceCtorEq, yA, yB, uA, uB, uC, uD, uE, uF, hwi]
              exact ⟨L.length - (i + 1), _, _, [], by omega, ⟨i + 1, by omega, rfl, .inr ⟨rfl, rfl⟩⟩, by simp only [go_sem, ↓reduceIte, reduceCtorEq, yA, yB, uA, uB, uC, uD, uE, uF, hat2]⟩)
          · have hde' : ¬ (x.depth : Int) = (e : Int) := by omega
            rw [if_neg hde, List.append_nil] at hat
            rcases hk with ⟨rfl, rfl⟩ | ⟨rfl, rfl⟩
            · refine V.exec 400 ?_
              simp +contextual (maxSteps := 1000000) only [go_sem, ↓reduceIte, reduceCtorEq, yA, yB, uA, uB, uC, uD, uE, uF, hlt', hxi, hX2, hde', hwi]
              exact ⟨L.length - (i + 1), _, _, [some 0], by omega, ⟨i + 1, by omega, rfl, .inl ⟨rfl, rfl⟩⟩, by simp only [go_sem, ↓reduceIte, reduceCtorEq, yA, yB, uA, uB, uC, uD, uE, uF, hat]; try decide⟩
            · refine V.exec 400 ?_
              simp +contextual (maxSteps := 1000000) only [go_sem, ↓reduceIte, reduceCtorEq, yA, yB, uA, uB, uC, uD, uE, uF, hlt', hxi, hX2, hde', hwi]
              exact ⟨L.length - (i + 1), _, _, [], by omega, ⟨i + 1, by omega, rfl, .inr ⟨rfl, rfl⟩⟩, by simp only [go_sem, ↓reduceIte, reduceCtorEq, yA, yB, uA, uB, uC, uD, uE, uF, hat]⟩
        · have hlt' : ¬ (i : Int) < (L.length : Int) := by omega
          obtain rfl : i = L.length := by omega
          have et : L.take L.length = L := List.take_length
          rw [et] at hk oka lna
          have hnext : ((∃ e' : Nat, ((e : Int) - 1) = e' ∧ e' ≤ h ∧ pairsOk (appV out (atD e L)) ∧ (appV out (atD e L)).length + (upTo e' L).length ≤ 40000 ∧ downTo L 0 e' (appV out (atD e L)) = A) ∨ (((e : Int) - 1) = -1 ∧ appV out (atD e L) = A)) := by
            cases e with
            | zero => exact .inr ⟨by omega, dn⟩
            | succ e =>
              have hu := upTo_succ e L
              rw [downTo, Nat.zero_add] at dn
              exact .inl ⟨e, by omega, by omega, oka, by omega, dn⟩
          rcases hk with ⟨rfl, rfl⟩ | ⟨rfl, rfl⟩
          · refine V.exec 400 ?_
            simp +contextual (maxSteps := 1000000) only [go_sem, ↓reduceIte, reduceCtorEq, yA, yB, uA, uB, uC, uD, uE, uF, hlt', hwe]
            exact ⟨e, _, _, [some 0], by omega, ⟨(e : Int) - 1, appV out (atD e L), by omega, hnext, .inl ⟨rfl, rfl⟩⟩, by simp only [go_sem, ↓reduceIte, reduceCtorEq, yA, yB, uA, uB, uC, uD, uE, uF]; try decide⟩
          · refine V.exec 400 ?_
            simp +contextual (maxSteps := 1000000) only [go_sem, ↓reduceIte, reduceCtorEq, yA, yB, uA, uB, uC, uD, uE, uF, hlt', hwe]
            exact ⟨e, _, _, [], by omega, ⟨(e : Int) - 1, appV out (atD e L), by omega, hnext, .inr ⟨rfl, rfl⟩⟩, by simp only [go_sem, ↓reduceIte, reduceCtorEq, yA, yB, uA, uB, uC, uD, uE, uF]⟩
      · refine V.exec 400 ?_
        simp +contextual (maxSteps := 1000000) only [go_sem, ↓reduceIte, reduceCtorEq, yA, yB, uA, uB, uC, uD, uE, uF, he0]
        refine V.loop (fun m ls os => ∃ (i : Nat), i ≤ L.length ∧ m = L.length - i ∧ ((ls = [(0, .val (.row (L.map Info.pv))), (3, .ref 0), (5, .val (.int .i64 e)), (6, .val (.int .i64 i))] ∧ os = [.row 42 ((appV out (atD e (L.take i))).map Pair.pv)]) ∨ (ls = [(0, .val (.row (L.map Info.pv))), (3, .val (.row ((appV out (atD e (L.take i))).map Pair.pv))), (5, .val (.int .i64 e)), (6, .val (.int .i64 i))] ∧ os = []))) 1 L.length
          [(0, .val (.row (L.map Info.pv))), (3, .val (.row (out.map Pair.pv))), (5, .val (.int .i64 e)), (6, .val (.int .i64 0))] [] []
          ⟨0, Nat.zero_le _, rfl, .inr ⟨rfl, rfl⟩⟩ (by simp only [go_sem, ↓reduceIte, reduceCtorEq, yA, yB, uA, uB, uC, uD, uE, uF]; try decide) ?_
        rintro m ls os ⟨i, hi, rfl, hk⟩
        have oka : pairsOk (appV out (atD e (L.take i))) := appV_ok _ ok (hNo e i)
        have lna := appV_len (atD e (L.take i)) ((pairsOk_iff _).1 ok).1
        have lnt := atD_take_le e L i
        by_cases hlt : i < L.length
        · have hlt' : (i : Int) < (L.length : Int) := by omega
          obtain ⟨x, hxi⟩ : ∃ x, L[i]? = some x := ⟨_, List.getElem?_eq_getElem hlt⟩
          have hwi : IntKind.i64.wrap ((i : Int) + 1) = ((i + 1 : Nat) : Int) := by rw [wrap_small3] <;> omega
          have hX2 : x.pv = .agg [.int .i64 x.depth, .int .i64 x.kids, .str x.low, .row (x.notes.map Note.pv), .row (x.pairs.map Pair.pv)] := rfl
          obtain ⟨y1, y2⟩ := hx i x hxi
          have hat := atD_take e L i x hxi
          have hap := ref10_Apply (appV out (atD e (L.take i))) x.notes (by omega) (by omega)
          rw [applyV_ok oka y1] at hap
          by_cases hde : x.depth = e
          · have hde' : (x.depth : Int) = (e : Int) := by omega
            rw [if_pos hde] at hat
            have hat2 : appV out (atD e (L.take (i + 1))) = appV (appV out (atD e (L.take i))) x.notes := by rw [hat, appV_app]
            rcases hk with ⟨rfl, rfl⟩ | ⟨rfl, rfl⟩
            all_goals (
              refine V.exec 400 ?_
              simp +contextual (maxSteps := 1000000) only [go_sem, ↓reduceIte, reduceCtorEq, yA, yB, uA, uB, uC, uD, uE, uF, hlt', hxi, hX2, hde']
              refine V.call rfl rfl (by simp [dOK]) ⟨12, [], by simp only [go_sem, ↓reduceIte, reduceCtorEq, yA, yB, uA, uB, uC, uD, uE, uF], ⟨_, rfl, rfl, rfl⟩, .inl ⟨[.row ((appV out (atD e (L.take i))).map Pair.pv), .row (x.notes.map Note.pv)], _, .inl (by simp only [go_sem, ↓reduceIte, reduceCtorEq, yA, yB, uA, uB, uC, uD, uE, uF]), hap, .inr (.inl ⟨_, rfl, rfl, rfl⟩)⟩⟩ ?_
              refine V.exec 400 ?_
              simp +contextual (maxSteps := 1000000) only [go_sem, ↓reduceIte, reduceCtorEq, yA, yB, uA, uB, uC, uD, uE, uF, hwi]
              exact ⟨L.length - (i + 1), _, _, [], by omega, ⟨i + 1, by omega, rfl, .inr ⟨rfl, rfl⟩⟩, by simp only [go_sem, ↓reduceIte, reduceCtorEq, yA, yB, uA, uB, uC, uD, uE, uF, hat2]⟩)
          · have hde' : ¬ (x.depth : Int) = (e : Int) := by omega
            rw [if_neg hde, List.append_nil] at hat
            rcases hk with ⟨rfl, rfl⟩ | ⟨rfl, rfl⟩
            · refine V.exec 400 ?_
              simp +contextual (maxSteps := 1000000) only [go_sem, ↓reduceIte, reduceCtorEq, yA, yB, uA, uB, uC, uD, uE, uF, hlt', hxi, hX2, hde', hwi]
              exact ⟨L.length - (i + 1), _, _, [some 0], by omega, ⟨i + 1, by omega, rfl, .inl ⟨rfl, rfl⟩⟩, by simp only [go_sem, ↓reduceIte, reduceCtorEq, yA, yB, uA, uB, uC, uD, uE, uF, hat]; try decide⟩
            · refine V.exec 400 ?_
              simp +contextual (maxSteps := 1000000) only [go_sem, ↓reduceIte, reduceCtorEq, yA, yB, uA, uB, uC, uD, uE, uF, hlt', hxi, hX2, hde', hwi]
              exact ⟨L.length - (i + 1), _, _, [], by omega, ⟨i + 1, by omega, rfl, .inr ⟨rfl, rfl⟩⟩, by simp only [go_sem, ↓reduceIte, reduceCtorEq, yA, yB, uA, uB, uC, uD, uE, uF, hat]⟩
        · have hlt' : ¬ (i : Int) < (L.length : Int) := by omega
          obtain rfl : i = L.length := by omega
          have et : L.take L.length = L := List.take_length
          rw [et] at hk oka lna
          have hnext : ((∃ e' : Nat, ((e : Int) - 1) = e' ∧ e' ≤ h ∧ pairsOk (appV out (atD e L)) ∧ (appV out (atD e L)).length + (upTo e' L).length ≤ 40000 ∧ downTo L 0 e' (appV out (atD e L)) = A) ∨ (((e : Int) - 1) = -1 ∧ appV out (atD e L) = A)) := by
            cases e with
            | zero => exact .inr ⟨by omega, dn⟩
            | succ e =>
              have hu := upTo_succ e L
              rw [downTo, Nat.zero_add] at dn
              exact .inl ⟨e, by omega, by omega, oka, by omega, dn⟩
          rcases hk with ⟨rfl, rfl⟩ | ⟨rfl, rfl⟩
          · refine V.exec 400 ?_
            simp +contextual (maxSteps := 1000000) only [go_sem, ↓reduceIte, reduceCtorEq, yA, yB, uA, uB, uC, uD, uE, uF, hlt', hwe]
            exact ⟨e, _, _, [some 0], by omega, ⟨(e : Int) - 1, appV out (atD e L), by omega, hnext, .inl ⟨rfl, rfl⟩⟩, by simp only [go_sem, ↓reduceIte, reduceCtorEq, yA, yB, uA, uB, uC, uD, uE, uF]; try decide⟩
          · refine V.exec 400 ?_
            simp +contextual (maxSteps := 1000000) only [go_sem, ↓reduceIte, reduceCtorEq, yA, yB, uA, uB, uC, uD, uE, uF, hlt', hwe]
            exact ⟨e, _, _, [], by omega, ⟨(e : Int) - 1, appV out (atD e L), by omega, hnext, .inr ⟨rfl, rfl⟩⟩, by simp only [go_sem, ↓reduceIte, reduceCtorEq, yA, yB, uA, uB, uC, uD, uE, uF]⟩
    · have hm1 : ¬ (0 : Int) ≤ -1 := by decide
      rcases hk with ⟨rfl, rfl⟩ | ⟨rfl, rfl⟩
      · refine V.exec 400 ?_
        simp +contextual (maxSteps := 1000000) only [go_sem, ↓reduceIte, reduceCtorEq, yA, yB, uA, uB, uC, uD, uE, uF, hm1]
      · refine V.exec 400 ?_
        simp +contextual (maxSteps := 1000000) only [go_sem, ↓reduceIte, reduceCtorEq, yA, yB, uA, uB, uC, uD, uE, uF, hm1]
end Go.Proofs.Ytofmiaecjnfeaaa
set_option linter.unusedVariables false
set_option linter.unusedSimpArgs false
set_option maxRecDepth 8000
namespace Go.Proofs.Ytofmiaecjnfeaaa
open Nat renaming reduceAdd → uA, reduceLT → uB, reduceEqDiff → uC, reduceLeDiff → uD, reduceSub → uE, reduceMul → uF
open Bool renaming false_eq_true → yA, true_eq_false → yB
open Go Go.Proofs Go.Proofs.YtofmiaecjnfeaaaVm Go.Proofs.Ytofmiaecjnfeaaa.Ty

def allR : Range := ⟨[], [], true⟩
theorem pickV_all (L : List Pair) : pickV allR L = L := by
  unfold pickV
  refine List.filter_eq_self.2 fun p _ => ?_
  simp [Range.isIn, allR, slt_nil]
set_option maxRecDepth 20000 in
set_option maxHeartbeats 16000000 in
theorem law12_infos (t : Tr) (I : List Info) (hI : I.length ≤ 200000000) (c : Ct Try.prog 20 (YtofmiaecjnfeaaaVm.ops [Tr.pv t]) (.vals [.row (I.map Info.pv)])) : Ct Try.prog 30 (YtofmiaecjnfeaaaVm.ops [Tr.pv t]) (.vals [.row (I.map Info.pv)]) := by
  obtain ⟨x, ex, ex2, ex3⟩ := trPv t
  rw [ex] at c ⊢
  refine Ct.of_V Try.func30 rfl (by simp [YtofmiaecjnfeaaaVm.ops, Try.f30]) ?_
  refine V.exec 400 ?_
  simp +contextual (maxSteps := 1000000) only [go_sem, ↓reduceIte, reduceCtorEq, yA, yB, uA, uB, uC, uD, uE, uF, Try.f30, ex2, ex3]
  refine V.call rfl rfl (by simp [dOK]) ⟨20, [], by simp only [go_sem, ↓reduceIte, reduceCtorEq, yA, yB, uA, uB, uC, uD, uE, uF], ⟨_, rfl, rfl, rfl⟩, .inl ⟨[.agg [x]], _, .inl (by simp only [go_sem, ↓reduceIte, reduceCtorEq, yA, yB, uA, uB, uC, uD, uE, uF]), c, .inr (.inl ⟨_, rfl, rfl, rfl⟩)⟩⟩ ?_
  refine V.exec 400 ?_
  simp +contextual (maxSteps := 1000000) only [go_sem, ↓reduceIte, reduceCtorEq, yA, yB, uA, uB, uC, uD, uE, uF, ex2, ex3]
  refine V.loop (fun m ls os => ∃ (i : Nat), i ≤ I.length ∧ m = I.length - i ∧
        ls = [(3, .ref 0), (7, .val (.row (I.map Info.pv))), (8, .val (.int .i64 I.length)), (9, .val (.int .i64 i))] ∧ os = [.row 87 ((I.take i).map Info.pv)]) 1 I.length
      [(3, .ref 0), (7, .val (.row (I.map Info.pv))), (8, .val (.int .i64 I.length)), (9, .val (.int .i64 0))] [.row 87 []] [none]
      ⟨0, Nat.zero_le _, rfl, rfl, rfl⟩ (by simp only [go_sem, ↓reduceIte, reduceCtorEq, yA, yB, uA, uB, uC, uD, uE, uF]; try decide) ?_
  rintro m ls os ⟨i, hi, rfl, rfl, rfl⟩
  refine V.exec 400 ?_
  by_cases hlt : i < I.length
  · have hlt' : (i : Int) < (I.length : Int) := by omega
    obtain ⟨y, hy⟩ : ∃ y, I[i]? = some y := ⟨_, List.getElem?_eq_getElem hlt⟩
    have hw : IntKind.i64.wrap ((i : Int) + 1) = ((i + 1 : Nat) : Int) := by rw [wrap_small3] <;> omega
    have ht2 : I.take (i + 1) = I.take i ++ [y] := by rw [List.take_add_one, hy]; rfl
    have htl : (I.take i).length ≤ I.length := by rw [List.length_take]; omega
    generalize hT : I.take i = T at *
    have hY : y.pv = .agg [.int .i64 y.depth, .int .i64 y.kids, .str y.low, .row (y.notes.map Note.pv), .row (y.pairs.map Pair.pv)] := rfl
    simp +contextual (maxSteps := 1000000) only [go_sem, ↓reduceIte, reduceCtorEq, yA, yB, uA, uB, uC, uD, uE, uF, hlt', hy, hY, hw]
    exact ⟨⟨by omega, by omega⟩, I.length - (i + 1), _, _, [some 9], by omega, ⟨i + 1, by omega, rfl, rfl, rfl⟩, by simp only [go_sem, ↓reduceIte, reduceCtorEq, yA, yB, uA, uB, uC, uD, uE, uF, ht2, List.map_append, List.map_cons, List.map_nil, hY]; try decide⟩
  · have hlt' : ¬ (i : Int) < (I.length : Int) := by omega
    rw [List.take_of_length_le (by omega)]
    simp +contextual (maxSteps := 1000000) only [go_sem, ↓reduceIte, reduceCtorEq, yA, yB, uA, uB, uC, uD, uE, uF, hlt']
set_option maxRecDepth 20000 in
set_option maxHeartbeats 16000000 in
theorem law12_is {t : Tr} {L : List Pair} {H M : Nat} (g : GoodT t L H M) (hH : H ≤ 10000) (hM : M ≤ 10000) (l : List Pair) (hl : l.length ≤ 1000000) :
    Ct Try.prog 13 (YtofmiaecjnfeaaaVm.ops [Tr.pv t, .row (l.map Pair.pv)]) (.vals [.bool (decide (L = l))]) := by
  have cs := tree_Scan t L H M allR g hM
  rw [pickV_all] at cs
  have ci0 := tree_Infos t L H M g hH hM
  obtain ⟨h, hh, r⟩ := g
  have hlen : (infosN 0 (topN t)).length ≤ 200000000 := Nat.le_trans (infos_len h 0 none (topN t) r.wf) (Nat.le_trans (Nat.mul_le_mul (show h + 1 ≤ 10001 by omega) (Nat.le_trans r.mass hM)) (by decide))
  have ci := law12_infos t _ hlen ci0
  have cw := ref12_Well r.wf r.low hlen (by omega)
  have cp := ref12_Pairs r.wf hlen (by omega) (Nat.le_trans r.mass hM)
  rw [r.all] at cp
  have c3 := ref03_Same L l hl
  generalize infosN 0 (topN t) = I at *
  obtain ⟨x, ex, ex2, ex3⟩ := trPv t
  rw [ex] at ci cs ⊢
  refine Ct.of_V Try.func13 rfl (by simp [YtofmiaecjnfeaaaVm.ops, Try.f13]) ?_
  refine V.exec 400 ?_
  simp +contextual (maxSteps := 1000000) only [go_sem, ↓reduceIte, reduceCtorEq, yA, yB, uA, uB, uC, uD, uE, uF, Try.f13, ex2, ex3]
  refine V.call rfl rfl (by simp [dOK]) ⟨30, [], by simp only [go_sem, ↓reduceIte, reduceCtorEq, yA, yB, uA, uB, uC, uD, uE, uF], ⟨_, rfl, rfl, rfl⟩, .inl ⟨[.agg [x]], _, .inl (by simp only [go_sem, ↓reduceIte, reduceCtorEq, yA, yB, uA, uB, uC, uD, uE, uF]), ci, .inr (.inl ⟨_, rfl, rfl, rfl⟩)⟩⟩ ?_
  refine V.exec 400 ?_
  simp +contextual (maxSteps := 1000000) only [go_sem, ↓reduceIte, reduceCtorEq, yA, yB, uA, uB, uC, uD, uE, uF, ex2, ex3]
  refine V.call rfl rfl (by simp [dOK]) ⟨31, [], by simp only [go_sem, ↓reduceIte, reduceCtorEq, yA, yB, uA, uB, uC, uD, uE, uF], ⟨_, rfl, rfl, rfl⟩, .inl ⟨[.row (I.map Info.pv)], _, .inl (by simp only [go_sem, ↓reduceIte, reduceCtorEq, yA, yB, uA, uB, uC, uD, uE, uF]), cw, .inl ⟨_, rfl, rfl, rfl, rfl⟩⟩⟩ ?_
  refine V.exec 400 ?_
  simp +contextual (maxSteps := 1000000) only [go_sem, ↓reduceIte, reduceCtorEq, yA, yB, uA, uB, uC, uD, uE, uF, ex2, ex3]
  refine V.call rfl rfl (by simp [dOK]) ⟨32, [], by simp only [go_sem, ↓reduceIte, reduceCtorEq, yA, yB, uA, uB, uC, uD, uE, uF], ⟨_, rfl, rfl, rfl⟩, .inl ⟨[.row (I.map Info.pv)], _, .inl (by simp only [go_sem, ↓reduceIte, reduceCtorEq, yA, yB, uA, uB, uC, uD, uE, uF]), cp, .inr (.inl ⟨_, rfl, rfl, rfl⟩)⟩⟩ ?_
  refine V.exec 400 ?_
  simp +contextual (maxSteps := 1000000) only [go_sem, ↓reduceIte, reduceCtorEq, yA, yB, uA, uB, uC, uD, uE, uF, ex2, ex3]
  refine V.call rfl rfl (by simp [dOK]) ⟨16, [], by simp only [go_sem, ↓reduceIte, reduceCtorEq, yA, yB, uA, uB, uC, uD, uE, uF], ⟨_, rfl, rfl, rfl⟩, .inl ⟨[.row (L.map Pair.pv), .row (l.map Pair.pv)], _, .inl (by simp only [go_sem, ↓reduceIte, reduceCtorEq, yA, yB, uA, uB, uC, uD, uE, uF]), c3, .inl ⟨_, rfl, rfl, rfl, rfl⟩⟩⟩ ?_
  refine V.exec 400 ?_
  by_cases he : L = l
  · subst he
    have c4 := ref03_Same L L hl
    simp +contextual (maxSteps := 1000000) only [go_sem, ↓reduceIte, reduceCtorEq, yA, yB, uA, uB, uC, uD, uE, uF, ex2, ex3]
    refine V.call rfl rfl (by simp [dOK]) ⟨17, [], by simp only [go_sem, ↓reduceIte, reduceCtorEq, yA, yB, uA, uB, uC, uD, uE, uF], ⟨_, rfl, rfl, rfl⟩, .inl ⟨[.agg [x], allR.pv], _, .inl (by simp only [go_sem, ↓reduceIte, reduceCtorEq, yA, yB, uA, uB, uC, uD, uE, uF, Range.pv, allR]), cs, .inr (.inl ⟨_, rfl, rfl, rfl⟩)⟩⟩ ?_
    refine V.exec 400 ?_
    simp +contextual (maxSteps := 1000000) only [go_sem, ↓reduceIte, reduceCtorEq, yA, yB, uA, uB, uC, uD, uE, uF, ex2, ex3]
    refine V.call rfl rfl (by simp [dOK]) ⟨16, [], by simp only [go_sem, ↓reduceIte, reduceCtorEq, yA, yB, uA, uB, uC, uD, uE, uF], ⟨_, rfl, rfl, rfl⟩, .inl ⟨[.row (L.map Pair.pv), .row (L.map Pair.pv)], _, .inl (by simp only [go_sem, ↓reduceIte, reduceCtorEq, yA, yB, uA, uB, uC, uD, uE, uF]), c4, .inl ⟨_, rfl, rfl, rfl, rfl⟩⟩⟩ ?_
    refine V.exec 400 ?_
    simp +contextual (maxSteps := 1000000) only [go_sem, ↓reduceIte, reduceCtorEq, yA, yB, uA, uB, uC, uD, uE, uF, ex2, ex3]
  · simp +contextual (maxSteps := 1000000) only [go_sem, ↓reduceIte, reduceCtorEq, yA, yB, uA, uB, uC, uD, uE, uF, ex2, ex3, he]
end Go.Proofs.Ytofmiaecjnfeaaa
set_option linter.unusedVariables false
set_option linter.unusedSimpArgs false
set_option maxRecDepth 8000
namespace Go.Proofs.Ytofmiaecjnfeaaa
open Nat renaming reduceAdd → uA, reduceLT → uB, reduceEqDiff → uC, reduceLeDiff → uD, reduceSub → uE, reduceMul → uF
open Bool renaming false_eq_true → yA, true_eq_false → yB
open Go Go.Proofs Go.Proofs.YtofmiaecjnfeaaaVm Go.Proofs.Ytofmiaecjnfeaaa.Ty

def twN : List Note := [⟨1, [98], [50], 0⟩, ⟨1, [97], [49], 0⟩]
def twL : List Pair := [⟨[97], [49]⟩, ⟨[98], [50]⟩]
def badN : List Note := [⟨0, [], [], 0⟩]
def fromB : Range := ⟨[98], [], true⟩
theorem twN_ok : notesOk twN := by decide
theorem badN_bad : ¬ notesOk badN := by decide
theorem twN_app : appV [] twN = twL := by decide
theorem twL_get : getV twL [98] = ([50], true) := by decide
theorem twL_pick : pickV fromB twL = [⟨[98], [50]⟩] := by decide
theorem none_infos : (infosN 0 (topN none)).map Info.pv = [.agg [.int .i64 0, .int .i64 0, .str [], .row [], .row []]] := by
  simp [topN, infosN, infosL, Info.pv]
set_option maxRecDepth 20000 in
set_option maxHeartbeats 16000000 in
theorem awake : Ct Try.prog 9 [] (.vals [.bool true]) := by
  obtain ⟨t, c1, g⟩ := tree_Apply GoodT.empty twN (by decide)
  rw [if_pos twN_ok] at c1
  rw [if_pos twN_ok, twN_app] at g
  obtain ⟨u, c2, gu⟩ := tree_Apply g badN (by decide)
  rw [if_neg badN_bad] at c2 gu
  have c3 := tree_Get t twL _ _ [98] g
  rw [twL_get] at c3
  have c4 := tree_Scan t twL _ _ allR g (by decide)
  rw [pickV_all] at c4
  have c5 := tree_Scan u twL _ _ fromB gu (by decide)
  rw [twL_pick] at c5
  have c6 := tree_Infos none [] 0 1 GoodT.empty (by decide) (by decide)
  rw [none_infos] at c6
  obtain ⟨x, ex, ex2, ex3⟩ := trPv t
  obtain ⟨y, ey, ey2, ey3⟩ := trPv u
  rw [ex] at c1 c2 c3 c4
  rw [ey] at c2 c5
  have e0 : Tr.pv none = .agg [.nilp] := rfl
  rw [e0] at c1 c6
  refine Ct.of_V Try.func9 rfl (by simp [YtofmiaecjnfeaaaVm.ops, Try.f9]) ?_
  refine V.exec 400 ?_
  simp +contextual (maxSteps := 1000000) only [go_sem, ↓reduceIte, reduceCtorEq, yA, yB, uA, uB, uC, uD, uE, uF, Try.f9, ex2, ex3]
  refine V.call rfl rfl (by simp [dOK]) ⟨11, [], by simp only [go_sem, ↓reduceIte, reduceCtorEq, yA, yB, uA, uB, uC, uD, uE, uF], ⟨_, rfl, rfl, rfl⟩, .inl ⟨[.agg [.nilp], .row (twN.map Note.pv)], _, .inl (by simp only [go_sem, ↓reduceIte, reduceCtorEq, yA, yB, uA, uB, uC, uD, uE, uF, twN, Note.pv, List.map_cons, List.map_nil]), c1, .inr (.inl ⟨_, rfl, rfl, rfl⟩)⟩⟩ ?_
  refine V.exec 400 ?_
  simp +contextual (maxSteps := 1000000) only [go_sem, ↓reduceIte, reduceCtorEq, yA, yB, uA, uB, uC, uD, uE, uF, ex2, ex3]
  refine V.call rfl rfl (by simp [dOK]) ⟨14, [], by simp only [go_sem, ↓reduceIte, reduceCtorEq, yA, yB, uA, uB, uC, uD, uE, uF], ⟨_, rfl, rfl, rfl⟩, .inl ⟨[.agg [x], .str [98]], _, .inl (by simp only [go_sem, ↓reduceIte, reduceCtorEq, yA, yB, uA, uB, uC, uD, uE, uF]), c3, .inl ⟨_, rfl, rfl, rfl, rfl⟩⟩⟩ ?_
  refine V.exec 400 ?_
  simp +contextual (maxSteps := 1000000) only [go_sem, ↓reduceIte, reduceCtorEq, yA, yB, uA, uB, uC, uD, uE, uF, ex2, ex3]
  refine V.call rfl rfl (by simp [dOK]) ⟨17, [], by simp only [go_sem, ↓reduceIte, reduceCtorEq, yA, yB, uA, uB, uC, uD, uE, uF], ⟨_, rfl, rfl, rfl⟩, .inl ⟨[.agg [x], allR.pv], _, .inl (by simp only [go_sem, ↓reduceIte, reduceCtorEq, yA, yB, uA, uB, uC, uD, uE, uF, Range.pv, allR]), c4, .inr (.inl ⟨_, rfl, rfl, rfl⟩)⟩⟩ ?_
  refine V.exec 400 ?_
  simp +contextual (maxSteps := 1000000) only [go_sem, ↓reduceIte, reduceCtorEq, yA, yB, uA, uB, uC, uD, uE, uF, ex2, ex3]
  refine V.call rfl rfl (by simp [dOK]) ⟨11, [], by simp only [go_sem, ↓reduceIte, reduceCtorEq, yA, yB, uA, uB, uC, uD, uE, uF], ⟨_, rfl, rfl, rfl⟩, .inl ⟨[.agg [x], .row (badN.map Note.pv)], _, .inl (by simp only [go_sem, ↓reduceIte, reduceCtorEq, yA, yB, uA, uB, uC, uD, uE, uF, badN, Note.pv, List.map_cons, List.map_nil]), c2, .inr (.inl ⟨_, rfl, rfl, rfl⟩)⟩⟩ ?_
  refine V.exec 400 ?_
  have h22 : ((2 : Nat) : Int) = 2 := rfl
  have h11 : ((1 : Nat) : Int) = 1 := rfl
  simp +contextual (maxSteps := 1000000) only [go_sem, ↓reduceIte, reduceCtorEq, yA, yB, uA, uB, uC, uD, uE, uF, ex2, ex3, ey2, ey3, twL, List.map_cons, List.map_nil, Pair.pv, List.length_cons, List.length_nil, h22, h11, Int.le_refl, Int.toNat_zero, List.getElem?_cons_zero]
  refine V.call rfl rfl (by simp [dOK]) ⟨17, [], by simp only [go_sem, ↓reduceIte, reduceCtorEq, yA, yB, uA, uB, uC, uD, uE, uF], ⟨_, rfl, rfl, rfl⟩, .inl ⟨[.agg [y], fromB.pv], _, .inl (by simp only [go_sem, ↓reduceIte, reduceCtorEq, yA, yB, uA, uB, uC, uD, uE, uF, Range.pv, fromB]), c5, .inr (.inl ⟨_, rfl, rfl, rfl⟩)⟩⟩ ?_
  refine V.exec 400 ?_
  simp +contextual (maxSteps := 1000000) only [go_sem, ↓reduceIte, reduceCtorEq, yA, yB, uA, uB, uC, uD, uE, uF, ex2, ex3, ey2, ey3, List.map_cons, List.map_nil, Pair.pv, List.length_cons, List.length_nil, h22, h11]
  refine V.call rfl rfl (by simp [dOK]) ⟨20, [], by simp only [go_sem, ↓reduceIte, reduceCtorEq, yA, yB, uA, uB, uC, uD, uE, uF], ⟨_, rfl, rfl, rfl⟩, .inl ⟨[.agg [.nilp]], _, .inl (by simp only [go_sem, ↓reduceIte, reduceCtorEq, yA, yB, uA, uB, uC, uD, uE, uF]), c6, .inr (.inl ⟨_, rfl, rfl, rfl⟩)⟩⟩ ?_
  refine V.exec 400 ?_
  simp +contextual (maxSteps := 1000000) only [go_sem, ↓reduceIte, reduceCtorEq, yA, yB, uA, uB, uC, uD, uE, uF, ex2, ex3, ey2, ey3, List.length_cons, List.length_nil, h11]
end Go.Proofs.Ytofmiaecjnfeaaa
set_option linter.unusedVariables false
set_option linter.unusedSimpArgs false
set_option maxRecDepth 8000
namespace Go.Proofs.Ytofmiaecjnfeaaa
open Go Go.Proofs Go.Proofs.YtofmiaecjnfeaaaVm Go.Proofs.Ytofmiaecjnfeaaa.Ty

theorem refFindP_neg {l : List Pair} {k : List UInt8} : refFindP l k < 0 ↔ getL l k = none := by
  unfold refFindP getL
  cases h : l.findIdx? (fun s => decide (s.key = k)) with
  | none =>
    have h2 : l.find? (fun s => decide (s.key = k)) = none := by
      rw [List.find?_eq_none]
      intro x hx
      have := List.findIdx?_eq_none_iff.1 h x hx
      simpa using this
    simp [h2]
  | some i =>
    obtain ⟨hlt, hp, _⟩ := List.findIdx?_eq_some_iff_getElem.1 h
    have h2 : l.find? (fun s => decide (s.key = k)) ≠ none := by
      rw [Ne, List.find?_eq_none]
      intro hn
      have := hn l[i] (List.getElem_mem hlt)
      exact this hp
    simp [h2]
theorem refFindP_at {l : List Pair} (hs : Sorted l) {k : List UInt8} {p : Pair} (h : getL l k = some p) : ∃ i : Nat, refFindP l k = (i : Int) ∧ l[i]? = some p ∧ i < l.length := by
  unfold refFindP
  cases hx : l.findIdx? (fun s => decide (s.key = k)) with
  | none =>
    exfalso
    have h2 : getL l k = none := by
      unfold getL
      rw [List.find?_eq_none]
      intro x hm
      have := List.findIdx?_eq_none_iff.1 hx x hm
      simpa using this
    rw [h2] at h; cases h
  | some i =>
    obtain ⟨hlt, hp, hq⟩ := List.findIdx?_eq_some_iff_getElem.1 hx
    refine ⟨i, rfl, ?_, hlt⟩
    have h1 := getL_of_mem hs (List.getElem_mem hlt)
    have h2 : l[i].key = k := by simpa using hp
    rw [h2, h] at h1
    rw [List.getElem?_eq_getElem hlt, h1]
theorem notes_rows (xs : List (List PV)) (h : ∀ ys ∈ xs, ys.length ≤ maxLen ∧ ∀ x ∈ ys, ∃ qs, x = .agg qs ∧ qs.map PV.kd = [.int .i64, .str, .str, .int .u64] ∧ ∀ q ∈ qs, q.wfv) :
    ∃ t : List (List Note), xs.map PV.row = t.map (fun l => PV.row (l.map Note.pv)) ∧ t.length = xs.length ∧ ∀ l ∈ t, l.length ≤ maxLen := by
  induction xs with
  | nil => exact ⟨[], rfl, rfl, by simp⟩
  | cons x r ih =>
    obtain ⟨t, ht, hl, hb⟩ := ih (fun y hy => h y (List.mem_cons_of_mem _ hy))
    obtain ⟨h1, h2⟩ := h x List.mem_cons_self
    obtain ⟨s, rfl⟩ := note_of x h2
    refine ⟨s :: t, by simp [ht], by simp [hl], fun l hl => ?_⟩
    rcases List.mem_cons.1 hl with rfl | hl
    · simpa using h1
    · exact hb l hl
theorem range_one (qs : List PV) (hk : qs.map PV.kd = [.str, .str, .bool]) : ∃ s : Range, PV.agg qs = s.pv := by
  match qs, hk with
  | [.str a, .str b, .bool c], hk => exact ⟨⟨a, b, c⟩, by simp [Range.pv]⟩
def trX : Tr → PV
  | none => .nilp
  | some n => n.pv
theorem trX_pv (t : Tr) : Tr.pv t = .agg [trX t] := by cases t <;> rfl
theorem trX_cells (t : Tr) : (trX t).cells = [trX t] := by
  cases t with
  | none => rfl
  | some n => exact Nd.pv_cells n
theorem trX_agg (t : Tr) : (trX t).isAgg = false := by
  cases t with
  | none => rfl
  | some n => exact Nd.pv_isAgg n
theorem GoodT.len {t : Tr} {L : List Pair} {H M : Nat} (g : GoodT t L H M) : L.length ≤ 5 * M := by
  obtain ⟨h, _, r⟩ := g
  have := all_len h none (topN t) r.wf
  rw [r.all] at this
  exact Nat.le_trans this (Nat.mul_le_mul_left 5 r.mass)
/-- What a key is told. -/
theorem get_find {L : List Pair} (ok : pairsOk L) (k : List UInt8) : (refFindP L k < 0 ∧ getV L k = ([], false)) ∨ ∃ i : Nat, ∃ p, refFindP L k = (i : Int) ∧ L[i]? = some p ∧ i < L.length ∧ getV L k = (p.value, true) := by
  have hs := ((pairsOk_iff L).1 ok).1
  cases hg : getL L k with
  | none => exact .inl ⟨refFindP_neg.2 hg, by unfold getV; rw [if_pos ok, hg]⟩
  | some p =>
    obtain ⟨i, a, b, c⟩ := refFindP_at hs hg
    exact .inr ⟨i, p, a, b, c, by unfold getV; rw [if_pos ok, hg]⟩
theorem pickV_low (L : List Pair) (k : List UInt8) (hs : Sorted L) : pickV ⟨[], k, false⟩ L ++ pickV ⟨k, [], true⟩ L = L := by
  induction L with
  | nil => rfl
  | cons x l ih =>
    have h1 := List.pairwise_cons.1 hs
    have ihl := ih h1.2
    unfold pickV at *
    rw [List.filter_cons, List.filter_cons]
    by_cases hx : slt x.key k
    · have a1 : decide (Range.isIn ⟨[], k, false⟩ x.key) = true := by simp [Range.isIn, slt_nil, hx]
      have a2 : decide (Range.isIn ⟨k, [], true⟩ x.key) = false := by simp [Range.isIn, hx]
      rw [if_pos a1, a2]
      simp only [Bool.false_eq_true, if_false, List.cons_append]
      rw [ihl]
    · have a1 : decide (Range.isIn ⟨[], k, false⟩ x.key) = false := by simp [Range.isIn, hx]
      have a2 : decide (Range.isIn ⟨k, [], true⟩ x.key) = true := by simp [Range.isIn, hx]
      have hall : ∀ y ∈ l, ¬ slt y.key k := fun y hy hc => hx (slt_trans (h1.1 y hy) hc)
      have hf : l.filter (fun p => decide (Range.isIn ⟨[], k, false⟩ p.key)) = [] := List.filter_eq_nil_iff.2 fun y hy => by simp [Range.isIn, hall y hy]
      rw [a1, a2, hf] 
      rw [hf] at ihl
      simpa using ihl
end Go.Proofs.Ytofmiaecjnfeaaa
