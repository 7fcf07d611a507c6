/- A part of a proof: functions of the program, walked. -/
import Derived.Test.YtglpemnejngkaaaL17G1
import Derived.Test.YtglpemnejngkaaaL17LibPair
set_option linter.unusedVariables false
set_option linter.unusedSimpArgs false
namespace Go.Proofs.Ytglpemnejngkaaa
open Go Go.Proofs Go.Proofs.YtglpemnejngkaaaVm Go.Proofs.Ytglpemnejngkaaa.Ty

def cmpStr (a b : List UInt8) : Int := if slt a b then -1 else if slt b a then 1 else 0
theorem isNaN_str (a : List UInt8) : Ct Try.prog 61 (YtglpemnejngkaaaVm.ops [.str a]) (.vals [.bool false]) := by
  refine Ct.of_V Try.func61 rfl (by simp [YtglpemnejngkaaaVm.ops, Try.f61]) ?_
  refine V.exec 400 ?_
  simp (config := {contextual := true}) only [go_sem, ↓reduceIte, reduceCtorEq, Bool.false_eq_true, Bool.true_eq_false, Nat.reduceAdd, Nat.reduceLT, Nat.reduceEqDiff, Nat.reduceLeDiff, Nat.reduceSub, Nat.reduceMul, Try.f61]
theorem Compare_str (a b : List UInt8) : Ct Try.prog 53 (YtglpemnejngkaaaVm.ops [.str a, .str b]) (.vals [.int .i64 (cmpStr a b)]) := by
  refine Ct.of_V Try.func53 rfl (by simp [YtglpemnejngkaaaVm.ops, Try.f53]) ?_
  refine V.exec 400 ?_
  simp (config := {contextual := true}) only [go_sem, ↓reduceIte, reduceCtorEq, Bool.false_eq_true, Bool.true_eq_false, Nat.reduceAdd, Nat.reduceLT, Nat.reduceEqDiff, Nat.reduceLeDiff, Nat.reduceSub, Nat.reduceMul, Try.f53]
  refine V.call rfl rfl (by simp [dOK]) ⟨61, [], by simp only [go_sem, ↓reduceIte, reduceCtorEq, Bool.false_eq_true, Bool.true_eq_false, Nat.reduceAdd, Nat.reduceLT, Nat.reduceEqDiff, Nat.reduceLeDiff, Nat.reduceSub, Nat.reduceMul], ⟨_, rfl, rfl, rfl⟩, .inl ⟨[.str a], _, .inl (by simp only [go_sem, ↓reduceIte, reduceCtorEq, Bool.false_eq_true, Bool.true_eq_false, Nat.reduceAdd, Nat.reduceLT, Nat.reduceEqDiff, Nat.reduceLeDiff, Nat.reduceSub, Nat.reduceMul]), isNaN_str a, .inl ⟨_, rfl, rfl, rfl, rfl⟩⟩⟩ ?_
  refine V.exec 400 ?_
  simp (config := {contextual := true}) only [go_sem, ↓reduceIte, reduceCtorEq, Bool.false_eq_true, Bool.true_eq_false, Nat.reduceAdd, Nat.reduceLT, Nat.reduceEqDiff, Nat.reduceLeDiff, Nat.reduceSub, Nat.reduceMul]
  refine V.call rfl rfl (by simp [dOK]) ⟨61, [], by simp only [go_sem, ↓reduceIte, reduceCtorEq, Bool.false_eq_true, Bool.true_eq_false, Nat.reduceAdd, Nat.reduceLT, Nat.reduceEqDiff, Nat.reduceLeDiff, Nat.reduceSub, Nat.reduceMul], ⟨_, rfl, rfl, rfl⟩, .inl ⟨[.str b], _, .inl (by simp only [go_sem, ↓reduceIte, reduceCtorEq, Bool.false_eq_true, Bool.true_eq_false, Nat.reduceAdd, Nat.reduceLT, Nat.reduceEqDiff, Nat.reduceLeDiff, Nat.reduceSub, Nat.reduceMul]), isNaN_str b, .inl ⟨_, rfl, rfl, rfl, rfl⟩⟩⟩ ?_
  refine V.exec 400 ?_
  simp (config := {contextual := true}) only [go_sem, ↓reduceIte, reduceCtorEq, Bool.false_eq_true, Bool.true_eq_false, Nat.reduceAdd, Nat.reduceLT, Nat.reduceEqDiff, Nat.reduceLeDiff, Nat.reduceSub, Nat.reduceMul]
  have e := slt_total a b
  have e2 := @slt_asymm a b
  have e3 := slt_irrefl b
  (repeat' (first | (intro _) | (refine ⟨by kernel_rfl, ?_⟩) | (apply And.intro)))
  all_goals grind [cmpStr]
theorem cmpStr_neg {a b : List UInt8} : cmpStr a b < 0 ↔ slt a b := by unfold cmpStr; split <;> (try split) <;> simp_all
theorem cmpStr_zero {a b : List UInt8} : cmpStr a b = 0 ↔ a = b := by
  have e := slt_total a b
  have e3 := slt_irrefl b
  unfold cmpStr
  constructor
  · intro h
    split at h
    · cases h
    · split at h
      · cases h
      · rcases e with e | e | e <;> first | exact e | contradiction
  · rintro rfl
    simp [e3]
theorem leaf_place1 (p : Pair) (k : List UInt8) : Ct Try.prog 52 (YtglpemnejngkaaaVm.ops [p.pv, .str k]) (.vals [.int .i64 (cmpStr p.key k)]) := by
  refine Ct.of_V Try.func52 rfl (by simp [YtglpemnejngkaaaVm.ops, Try.f52]) ?_
  refine V.exec 400 ?_
  simp (config := {contextual := true}) only [go_sem, ↓reduceIte, reduceCtorEq, Bool.false_eq_true, Bool.true_eq_false, Nat.reduceAdd, Nat.reduceLT, Nat.reduceEqDiff, Nat.reduceLeDiff, Nat.reduceSub, Nat.reduceMul, Try.f52, Pair.pv]
  refine V.call rfl rfl (by simp [dOK]) ⟨53, [], by simp only [go_sem, ↓reduceIte, reduceCtorEq, Bool.false_eq_true, Bool.true_eq_false, Nat.reduceAdd, Nat.reduceLT, Nat.reduceEqDiff, Nat.reduceLeDiff, Nat.reduceSub, Nat.reduceMul], ⟨_, rfl, rfl, rfl⟩, .inl ⟨[.str p.key, .str k], _, .inl (by simp only [go_sem, ↓reduceIte, reduceCtorEq, Bool.false_eq_true, Bool.true_eq_false, Nat.reduceAdd, Nat.reduceLT, Nat.reduceEqDiff, Nat.reduceLeDiff, Nat.reduceSub, Nat.reduceMul]), Compare_str p.key k, .inl ⟨_, rfl, rfl, rfl, rfl⟩⟩⟩ ?_
  refine V.exec 400 ?_
  simp (config := {contextual := true}) only [go_sem, ↓reduceIte, reduceCtorEq, Bool.false_eq_true, Bool.true_eq_false, Nat.reduceAdd, Nat.reduceLT, Nat.reduceEqDiff, Nat.reduceLeDiff, Nat.reduceSub, Nat.reduceMul]

def kOf (k : List UInt8) : PV → Int
  | .agg (.str a :: _) => cmpStr a k
  | _ => 0
/-- Where a search for a key ends. -/
def posA (l : List Pair) (k : List UInt8) : Nat := bsI (cAt (kOf k) (l.map Pair.pv)) 0 l.length
theorem posA_le (l : List Pair) (k : List UInt8) : posA l k ≤ l.length := bsI_le _ _ _ (Nat.zero_le _)

set_option maxHeartbeats 2000000 in
theorem leaf_place (l : List Pair) (k : List UInt8) (hl : l.length ≤ 1000000) :
    Ct Try.prog 36 (YtglpemnejngkaaaVm.ops [.row (l.map Pair.pv), .str k]) (.vals [.int .i64 (posA l k), .bool (decide (∃ x, l[posA l k]? = some x ∧ x.key = k))]) := by
  have hb := BSearchPair_any (l.map Pair.pv) (.str k) 52 [] (kOf k) (fun x hx => by
      obtain ⟨s, _, rfl⟩ := List.mem_map.1 hx
      exact ⟨rfl, rfl⟩) (by simpa using hl) ⟨_, rfl, rfl, rfl⟩ (fun x hx => by
      obtain ⟨s, _, rfl⟩ := List.mem_map.1 hx
      exact leaf_place1 s k)
  have e0 : bsI (cAt (kOf k) (l.map Pair.pv)) 0 (l.map Pair.pv).length = posA l k := by rw [List.length_map]; rfl
  rw [e0] at hb
  have e1 : (∃ x, (l.map Pair.pv)[posA l k]? = some x ∧ kOf k x = 0) ↔ ∃ x, l[posA l k]? = some x ∧ x.key = k := by
    constructor
    · rintro ⟨x, hx, hc⟩
      rw [List.getElem?_map, Option.map_eq_some_iff] at hx
      obtain ⟨s, hs', rfl⟩ := hx
      exact ⟨s, hs', cmpStr_zero.1 hc⟩
    · rintro ⟨s, hs', hc⟩
      exact ⟨s.pv, by rw [List.getElem?_map, hs']; rfl, cmpStr_zero.2 hc⟩
  simp only [e1] at hb
  refine Ct.of_V Try.func36 rfl (by simp [YtglpemnejngkaaaVm.ops, Try.f36]) ?_
  refine V.exec 400 ?_
  simp (config := {contextual := true}) only [go_sem, ↓reduceIte, reduceCtorEq, Bool.false_eq_true, Bool.true_eq_false, Nat.reduceAdd, Nat.reduceLT, Nat.reduceEqDiff, Nat.reduceLeDiff, Nat.reduceSub, Nat.reduceMul, Try.f36]
  refine V.call rfl rfl (by simp [dOK]) ⟨51, [], by simp only [go_sem, ↓reduceIte, reduceCtorEq, Bool.false_eq_true, Bool.true_eq_false, Nat.reduceAdd, Nat.reduceLT, Nat.reduceEqDiff, Nat.reduceLeDiff, Nat.reduceSub, Nat.reduceMul], ⟨_, rfl, rfl, rfl⟩, .inl ⟨[.row (l.map Pair.pv), .str k, .fn 52 []], _, .inl (by simp only [go_sem, ↓reduceIte, reduceCtorEq, Bool.false_eq_true, Bool.true_eq_false, Nat.reduceAdd, Nat.reduceLT, Nat.reduceEqDiff, Nat.reduceLeDiff, Nat.reduceSub, Nat.reduceMul]), hb, .inl ⟨_, rfl, rfl, rfl, rfl⟩⟩⟩ ?_
  refine V.exec 400 ?_
  simp (config := {contextual := true}) only [go_sem, ↓reduceIte, reduceCtorEq, Bool.false_eq_true, Bool.true_eq_false, Nat.reduceAdd, Nat.reduceLT, Nat.reduceEqDiff, Nat.reduceLeDiff, Nat.reduceSub, Nat.reduceMul]

/-- How many keys are less; who has a key. -/
def below (k : List UInt8) : List Pair → Nat
  | [] => 0
  | p :: r => if slt p.key k then below k r + 1 else 0
def getL (l : List Pair) (k : List UInt8) : Option Pair := l.find? fun p => decide (p.key = k)
theorem below_le (k : List UInt8) : ∀ l : List Pair, below k l ≤ l.length
  | [] => Nat.le_refl _
  | p :: r => by unfold below; split <;> simp; exact below_le k r
theorem below_lt {k : List UInt8} : ∀ (l : List Pair) (i : Nat) (x : Pair), i < below k l → l[i]? = some x → slt x.key k
  | p :: r, i, x, hi, hx => by
    unfold below at hi
    split at hi
    · cases i with
      | zero => simp at hx; subst hx; assumption
      | succ i => exact below_lt r i x (by omega) (by simpa using hx)
    · omega
/-- Keys that rise. -/
def rising : Option (List UInt8) → List Pair → Prop
  | _, [] => True
  | last, p :: r => (∀ k, last = some k → slt k p.key) ∧ rising (some p.key) r
theorem rising_of : ∀ (l : List Pair) (last : Option (List UInt8)), pairsFrom last l → rising last l
  | [], _, _ => trivial
  | p :: r, last, h => ⟨h.2.2.1, rising_of r _ h.2.2.2⟩
theorem rising_above : ∀ (l : List Pair) (k : List UInt8), rising (some k) l → ∀ x ∈ l, slt k x.key
  | p :: r, k, h, x, hx => by
    have h1 := h.1 k rfl
    rcases List.mem_cons.1 hx with rfl | hx
    · exact h1
    · exact slt_trans h1 (rising_above r p.key h.2 x hx)
theorem below_ge {k : List UInt8} : ∀ (l : List Pair) (last : Option (List UInt8)), rising last l → ∀ (i : Nat) (x : Pair), below k l ≤ i → l[i]? = some x → ¬ slt x.key k
  | p :: r, last, h, i, x, hi, hx => by
    unfold below at hi
    split at hi
    · cases i with
      | zero => omega
      | succ i => exact below_ge r _ h.2 i x (by omega) (by simpa using hx)
    · rename_i hn
      cases i with
      | zero => simp at hx; subst hx; exact hn
      | succ i =>
        have h2 := rising_above r p.key h.2 x (List.mem_of_getElem? (i := i) (by simpa using hx))
        intro hc
        exact hn (slt_trans h2 hc)
theorem posA_eq {l : List Pair} (h : rising none l) (k : List UInt8) : posA l k = below k l := by
  refine bsI_eq _ _ _ _ (Nat.zero_le _) (below_le k l) (fun m _ hm => ?_) (fun m hm hm2 => ?_)
  · obtain ⟨x, hx⟩ : ∃ x, l[m]? = some x := ⟨_, List.getElem?_eq_getElem (by have := below_le k l; omega)⟩
    have := below_lt l m x hm hx
    simp only [cAt, List.getElem?_map, hx, Option.map_some]
    exact cmpStr_neg.2 this
  · obtain ⟨x, hx⟩ : ∃ x, l[m]? = some x := ⟨_, List.getElem?_eq_getElem hm2⟩
    have := below_ge l none h m x hm hx
    simp only [cAt, List.getElem?_map, hx, Option.map_some]
    exact fun hc => this (cmpStr_neg.1 hc)
theorem below_find {k : List UInt8} : ∀ (l : List Pair) (last : Option (List UInt8)), rising last l → ∀ x, (l[below k l]? = some x ∧ x.key = k) ↔ getL l k = some x
  | [], _, _, x => by simp [below, getL]
  | p :: r, last, h, x => by
    unfold below getL
    by_cases hk : slt p.key k
    · have hne : ¬ p.key = k := fun e => slt_irrefl k (by rw [e] at hk; exact hk)
      rw [if_pos hk, List.find?_cons, decide_eq_false hne]
      simpa [getL] using below_find r _ h.2 x
    · rw [if_neg hk, List.find?_cons]
      by_cases he : p.key = k
      · simp [he]
        rintro rfl; exact he
      · have hr : getL r k = none := by
          unfold getL
          rw [List.find?_eq_none]
          intro y hy
          have h2 := rising_above r p.key h.2 y hy
          simp
          rintro rfl
          exact hk h2
        unfold getL at hr
        simp [he, hr]
        rintro rfl; exact he
def getV (l : List Pair) (k : List UInt8) : List UInt8 × Bool := if pairsOk l then match getL l k with | some p => (p.value, true) | none => ([], false) else ([], false)
def nextV (l : List Pair) (k : List UInt8) : Int := if pairsOk l then below k l else 0

set_option maxHeartbeats 2000000 in
theorem leaf_Get (l : List Pair) (k : List UInt8) (hl : l.length ≤ 1000000) : Ct Try.prog 22 (YtglpemnejngkaaaVm.ops [.row (l.map Pair.pv), .str k]) (.vals [.str (getV l k).1, .bool (decide ((getV l k).2 = true))]) := by
  refine Ct.of_V Try.func22 rfl (by simp [YtglpemnejngkaaaVm.ops, Try.f22]) ?_
  refine V.exec 400 ?_
  simp (config := {contextual := true}) only [go_sem, ↓reduceIte, reduceCtorEq, Bool.false_eq_true, Bool.true_eq_false, Nat.reduceAdd, Nat.reduceLT, Nat.reduceEqDiff, Nat.reduceLeDiff, Nat.reduceSub, Nat.reduceMul, Try.f22]
  refine V.call rfl rfl (by simp [dOK]) ⟨36, [], by simp only [go_sem, ↓reduceIte, reduceCtorEq, Bool.false_eq_true, Bool.true_eq_false, Nat.reduceAdd, Nat.reduceLT, Nat.reduceEqDiff, Nat.reduceLeDiff, Nat.reduceSub, Nat.reduceMul], ⟨_, rfl, rfl, rfl⟩, .inl ⟨[.row (l.map Pair.pv), .str k], _, .inl (by simp only [go_sem, ↓reduceIte, reduceCtorEq, Bool.false_eq_true, Bool.true_eq_false, Nat.reduceAdd, Nat.reduceLT, Nat.reduceEqDiff, Nat.reduceLeDiff, Nat.reduceSub, Nat.reduceMul]), leaf_place l k hl, .inl ⟨_, rfl, rfl, rfl, rfl⟩⟩⟩ ?_
  refine V.exec 400 ?_
  by_cases he : ∃ x, l[posA l k]? = some x ∧ x.key = k
  · obtain ⟨x, hx⟩ := he
    have he : (∃ x, l[posA l k]? = some x ∧ x.key = k) := ⟨x, hx⟩
    have hlt := (List.getElem?_eq_some_iff.1 hx.1).1
    have hlt' : ((posA l k : Nat) : Int) < (l.length : Int) := by omega
    have hE : (∃ y, some x = some y ∧ y.key = k) := ⟨x, rfl, hx.2⟩
    simp (config := {contextual := true}) only [go_sem, ↓reduceIte, reduceCtorEq, Bool.false_eq_true, Bool.true_eq_false, Nat.reduceAdd, Nat.reduceLT, Nat.reduceEqDiff, Nat.reduceLeDiff, Nat.reduceSub, Nat.reduceMul, hx.1, hE]
    refine V.call rfl rfl (by simp [dOK]) ⟨21, [], by simp only [go_sem, ↓reduceIte, reduceCtorEq, Bool.false_eq_true, Bool.true_eq_false, Nat.reduceAdd, Nat.reduceLT, Nat.reduceEqDiff, Nat.reduceLeDiff, Nat.reduceSub, Nat.reduceMul], ⟨_, rfl, rfl, rfl⟩, .inl ⟨[.row (l.map Pair.pv)], _, .inl (by simp only [go_sem, ↓reduceIte, reduceCtorEq, Bool.false_eq_true, Bool.true_eq_false, Nat.reduceAdd, Nat.reduceLT, Nat.reduceEqDiff, Nat.reduceLeDiff, Nat.reduceSub, Nat.reduceMul]), leaf_Right l hl, .inl ⟨_, rfl, rfl, rfl, rfl⟩⟩⟩ ?_
    refine V.exec 400 ?_
    by_cases hok : pairsOk l
    · have hr := rising_of l none hok
      have hp := posA_eq hr k
      have hg := (below_find l none hr x).1 (by rw [← hp]; exact hx)
      have hv : getV l k = (x.value, true) := by simp [getV, hok, hg]
      simp (config := {contextual := true}) only [go_sem, ↓reduceIte, reduceCtorEq, Bool.false_eq_true, Bool.true_eq_false, Nat.reduceAdd, Nat.reduceLT, Nat.reduceEqDiff, Nat.reduceLeDiff, Nat.reduceSub, Nat.reduceMul, hok, hx.1, hlt', hv, Pair.pv]
    · have hv : getV l k = ([], false) := by simp [getV, hok]
      simp (config := {contextual := true}) only [go_sem, ↓reduceIte, reduceCtorEq, Bool.false_eq_true, Bool.true_eq_false, Nat.reduceAdd, Nat.reduceLT, Nat.reduceEqDiff, Nat.reduceLeDiff, Nat.reduceSub, Nat.reduceMul, hok, hv]
  · have hv : getV l k = ([], false) := by
      unfold getV
      split
      · rename_i hok
        have hr := rising_of l none hok
        have hp := posA_eq hr k
        cases hg : getL l k with
        | none => rfl
        | some x => exact absurd ⟨x, by rw [hp]; exact (below_find l none hr x).2 hg⟩ he
      · rfl
    simp (config := {contextual := true}) only [go_sem, ↓reduceIte, reduceCtorEq, Bool.false_eq_true, Bool.true_eq_false, Nat.reduceAdd, Nat.reduceLT, Nat.reduceEqDiff, Nat.reduceLeDiff, Nat.reduceSub, Nat.reduceMul, he, hv]

end Go.Proofs.Ytglpemnejngkaaa
