/- A part of a proof: functions of the program, walked. -/
import Derived.Test.YtbciecmoadjigaaL11B1
import Derived.Test.YtbciecmoadjigaaL11K1
import Derived.Test.YtbciecmoadjigaaL11LibNote
import Derived.Test.YtbciecmoadjigaaL11N3
set_option linter.unusedVariables false
set_option linter.unusedSimpArgs false
namespace Go.Proofs.Ytbciecmoadjigaa
open Go Go.Proofs Go.Proofs.YtbciecmoadjigaaVm Go.Proofs.Ytbciecmoadjigaa.Ty

/-- Notes that wait well. -/
def noteFrom : Option (List UInt8) → List Note → Prop
  | _, [] => True
  | last, p :: r => p.ok ∧ (∀ k, last = some k → slt k p.key) ∧ noteFrom (some p.key) r
def waitOk (l : List Note) : Prop := noteFrom none l
instance instNF : ∀ (last : Option (List UInt8)) (l : List Note), Decidable (noteFrom last l)
  | _, [] => isTrue trivial
  | none, s :: r => by
    unfold noteFrom
    have := instNF (some s.key) r
    have : Decidable (∀ k, none = some k → slt k s.key) := isTrue (fun k h => by cases h)
    infer_instance
  | some k, s :: r => by
    unfold noteFrom
    have := instNF (some s.key) r
    have : Decidable (∀ k', some k = some k' → slt k' s.key) := decidable_of_iff (slt k s.key) ⟨fun h k' e => by cases e; exact h, fun h => h k rfl⟩
    infer_instance
instance instWaitOk (l : List Note) : Decidable (waitOk l) := by unfold waitOk; infer_instance
def prevNote (l : List Note) (i : Nat) : Option (List UInt8) := if i = 0 then none else (l[i - 1]?).map Note.key
theorem noteFrom_iff : ∀ (l : List Note) (last : Option (List UInt8)), noteFrom last l ↔ (∀ k, last = some k → ∀ x ∈ l, slt k x.key) ∧ gSorted Note.key l ∧ ∀ x ∈ l, x.ok
  | [], last => by simp [noteFrom, gSorted]
  | p :: r, last => by
    rw [noteFrom, noteFrom_iff r]
    unfold gSorted
    rw [List.pairwise_cons]
    constructor
    · rintro ⟨h1, h2, h3, h4, h5⟩
      refine ⟨fun k hk x hx => ?_, ⟨fun x hx => h3 _ rfl x hx, h4⟩, fun x hx => ?_⟩
      · rcases List.mem_cons.1 hx with rfl | hx
        · exact h2 k hk
        · exact slt_trans (h2 k hk) (h3 _ rfl x hx)
      · rcases List.mem_cons.1 hx with rfl | hx
        · exact h1
        · exact h5 x hx
    · rintro ⟨h1, ⟨h2, h3⟩, h4⟩
      exact ⟨h4 p List.mem_cons_self, fun k hk => h1 k hk p List.mem_cons_self, fun k hk x hx => by cases hk; exact h2 x hx, h3, fun x hx => h4 x (List.mem_cons_of_mem _ hx)⟩
theorem waitOk_iff (l : List Note) : waitOk l ↔ gSorted Note.key l ∧ ∀ x ∈ l, x.ok := by
  unfold waitOk
  rw [noteFrom_iff]
  simp

set_option maxRecDepth 4000 in
set_option maxHeartbeats 8000000 in
theorem pend_Right (l : List Note) (hl : l.length ≤ 1000000) : Ct Try.prog 15 (YtbciecmoadjigaaVm.ops [.row (l.map Note.pv)]) (.vals [.bool (decide (waitOk l))]) := by
  refine Ct.of_V Try.func15 rfl (by simp [YtbciecmoadjigaaVm.ops, Try.f15]) ?_
  refine V.exec 400 ?_
  simp (config := {contextual := true}) only [go_sem, ↓reduceIte, reduceCtorEq, Bool.false_eq_true, Bool.true_eq_false, Nat.reduceAdd, Nat.reduceLT, Nat.reduceEqDiff, Nat.reduceLeDiff, Nat.reduceSub, Nat.reduceMul, Try.f15]
  refine V.loop (fun m ls os => ∃ (i : Nat), i ≤ l.length ∧ m = l.length - i ∧ (waitOk l ↔ noteFrom (prevNote l i) (l.drop i)) ∧
        ls = [(0, .val (.row (l.map Note.pv))), (5, .val (.row (l.map Note.pv))), (6, .val (.int .i64 l.length)), (7, .val (.int .i64 i))] ∧ os = []) 0 l.length
      [(0, .val (.row (l.map Note.pv))), (5, .val (.row (l.map Note.pv))), (6, .val (.int .i64 l.length)), (7, .val (.int .i64 0))] [] []
      ⟨0, Nat.zero_le _, rfl, Iff.rfl, rfl, rfl⟩ (by simp only [go_sem, ↓reduceIte, reduceCtorEq, Bool.false_eq_true, Bool.true_eq_false, Nat.reduceAdd, Nat.reduceLT, Nat.reduceEqDiff, Nat.reduceLeDiff, Nat.reduceSub, Nat.reduceMul]) ?_
  rintro m ls os ⟨i, hi, rfl, hiff, rfl, rfl⟩
  refine V.exec 400 ?_
  by_cases hlt : i < l.length
  · have hlt' : (i : Int) < (l.length : Int) := by omega
    obtain ⟨x, hx⟩ : ∃ x, l[i]? = some x := ⟨_, List.getElem?_eq_getElem hlt⟩
    have hw : IntKind.i64.wrap ((i : Int) + 1) = ((i + 1 : Nat) : Int) := by rw [wrap_small3] <;> omega
    rw [drop_of_get hx, noteFrom] at hiff
    have hpk : prevNote l (i + 1) = some x.key := by simp [prevNote, hx]
    have fin : x.ok → (∀ k, prevNote l i = some k → slt k x.key) → (waitOk l ↔ noteFrom (prevNote l (i + 1)) (l.drop (i + 1))) := fun a b => by
      rw [hiff, hpk]; exact ⟨fun h => h.2.2, fun h => ⟨a, b, h⟩⟩
    have hfalse : ¬ waitOk l → some [PV.bool false] = some [PV.bool (decide (waitOk l))] := fun h => by simp [h]
    simp (config := {contextual := true}) only [go_sem, ↓reduceIte, reduceCtorEq, Bool.false_eq_true, Bool.true_eq_false, Nat.reduceAdd, Nat.reduceLT, Nat.reduceEqDiff, Nat.reduceLeDiff, Nat.reduceSub, Nat.reduceMul, hlt', hx, Note.pv]
    refine DV.call [] [] (by simp only [go_sem, ↓reduceIte, reduceCtorEq, Bool.false_eq_true, Bool.true_eq_false, Nat.reduceAdd, Nat.reduceLT, Nat.reduceEqDiff, Nat.reduceLeDiff, Nat.reduceSub, Nat.reduceMul, Note.pv]) (by simp [dOK]) ⟨28, [], by simp only [go_sem, ↓reduceIte, reduceCtorEq, Bool.false_eq_true, Bool.true_eq_false, Nat.reduceAdd, Nat.reduceLT, Nat.reduceEqDiff, Nat.reduceLeDiff, Nat.reduceSub, Nat.reduceMul, Note.pv], ⟨_, rfl, rfl, rfl⟩, .inl ⟨[x.pv], _, .inl (by simp only [go_sem, ↓reduceIte, reduceCtorEq, Bool.false_eq_true, Bool.true_eq_false, Nat.reduceAdd, Nat.reduceLT, Nat.reduceEqDiff, Nat.reduceLeDiff, Nat.reduceSub, Nat.reduceMul, Note.pv]), note_Right x, .inl ⟨_, rfl, rfl, rfl, rfl⟩⟩⟩ (by simp only [go_sem, ↓reduceIte, reduceCtorEq, Bool.false_eq_true, Bool.true_eq_false, Nat.reduceAdd, Nat.reduceLT, Nat.reduceEqDiff, Nat.reduceLeDiff, Nat.reduceSub, Nat.reduceMul, Note.pv]) (by simp only [go_sem, ↓reduceIte, reduceCtorEq, Bool.false_eq_true, Bool.true_eq_false, Nat.reduceAdd, Nat.reduceLT, Nat.reduceEqDiff, Nat.reduceLeDiff, Nat.reduceSub, Nat.reduceMul, Note.pv]) (by simp only [go_sem, ↓reduceIte, reduceCtorEq, Bool.false_eq_true, Bool.true_eq_false, Nat.reduceAdd, Nat.reduceLT, Nat.reduceEqDiff, Nat.reduceLeDiff, Nat.reduceSub, Nat.reduceMul, Note.pv]) (by simp) ?_
    refine DV.exec 400 ?_
    by_cases hok : x.ok
    · rcases Nat.eq_zero_or_pos i with rfl | hpos
      · have hz : ¬ (0 : Int) < ((0 : Nat) : Int) := by omega
        simp (config := {contextual := true}) only [go_sem, ↓reduceIte, reduceCtorEq, Bool.false_eq_true, Bool.true_eq_false, Nat.reduceAdd, Nat.reduceLT, Nat.reduceEqDiff, Nat.reduceLeDiff, Nat.reduceSub, Nat.reduceMul, hlt', hx, Note.pv, hw, hz, hok]
        (repeat' (first | (intro _) | (refine ⟨by kernel_rfl, ?_⟩) | (apply And.intro)))
        exact ⟨l.length - (0 + 1), _, [], [], by omega, ⟨1, by omega, rfl, fin hok (fun k h => by simp [prevNote] at h), rfl, rfl⟩, by simp only [go_sem, ↓reduceIte, reduceCtorEq, Bool.false_eq_true, Bool.true_eq_false, Nat.reduceAdd, Nat.reduceLT, Nat.reduceEqDiff, Nat.reduceLeDiff, Nat.reduceSub, Nat.reduceMul]⟩
      · obtain ⟨j, rfl⟩ : ∃ j, i = j + 1 := ⟨i - 1, by omega⟩
        have hw2 : IntKind.i64.wrap (((j + 1 : Nat) : Int) - 1) = (j : Int) := by rw [wrap_small3] <;> omega
        have hjp : (0 : Int) < ((j + 1 : Nat) : Int) := by omega
        obtain ⟨y, hy⟩ : ∃ y, l[j]? = some y := ⟨_, List.getElem?_eq_getElem (by omega)⟩
        simp (config := {contextual := true}) only [go_sem, ↓reduceIte, reduceCtorEq, Bool.false_eq_true, Bool.true_eq_false, Nat.reduceAdd, Nat.reduceLT, Nat.reduceEqDiff, Nat.reduceLeDiff, Nat.reduceSub, Nat.reduceMul, hlt', hx, Note.pv, hw, hw2, hjp, hy, hok]
        (repeat' (first | (intro _) | (refine ⟨by kernel_rfl, ?_⟩) | (apply And.intro)))
        all_goals first
          | exact ⟨l.length - (j + 1 + 1), _, [], [], by omega, ⟨j + 1 + 1, by omega, rfl, fin hok (fun k h => by simp [prevNote, hy] at h; rw [← h]; assumption), rfl, rfl⟩, by simp only [go_sem, ↓reduceIte, reduceCtorEq, Bool.false_eq_true, Bool.true_eq_false, Nat.reduceAdd, Nat.reduceLT, Nat.reduceEqDiff, Nat.reduceLeDiff, Nat.reduceSub, Nat.reduceMul]⟩
          | (refine hfalse fun h => ?_
             have := (hiff.1 h).2.1 y.key (by simp [prevNote, hy])
             contradiction)
    · simp (config := {contextual := true}) only [go_sem, ↓reduceIte, reduceCtorEq, Bool.false_eq_true, Bool.true_eq_false, Nat.reduceAdd, Nat.reduceLT, Nat.reduceEqDiff, Nat.reduceLeDiff, Nat.reduceSub, Nat.reduceMul, hlt', hx, Note.pv, hw, hok]
      (repeat' (first | (intro _) | (refine ⟨by kernel_rfl, ?_⟩) | (apply And.intro)))
      all_goals exact hfalse fun h => hok (hiff.1 h).1
  · have hlt' : ¬ (i : Int) < (l.length : Int) := by omega
    have hd : l.drop i = [] := List.drop_eq_nil_of_le (by omega)
    rw [hd, noteFrom] at hiff
    simp (config := {contextual := true}) only [go_sem, ↓reduceIte, reduceCtorEq, Bool.false_eq_true, Bool.true_eq_false, Nat.reduceAdd, Nat.reduceLT, Nat.reduceEqDiff, Nat.reduceLeDiff, Nat.reduceSub, Nat.reduceMul, hlt']
    simp [hiff]

theorem pend_place1 (p : Note) (k : List UInt8) : Ct Try.prog 45 (YtbciecmoadjigaaVm.ops [p.pv, .str k]) (.vals [.int .i64 (cmpStr p.key k)]) := by
  refine Ct.of_V Try.func45 rfl (by simp [YtbciecmoadjigaaVm.ops, Try.f45]) ?_
  refine V.exec 400 ?_
  simp (config := {contextual := true}) only [go_sem, ↓reduceIte, reduceCtorEq, Bool.false_eq_true, Bool.true_eq_false, Nat.reduceAdd, Nat.reduceLT, Nat.reduceEqDiff, Nat.reduceLeDiff, Nat.reduceSub, Nat.reduceMul, Try.f45, Note.pv]
  refine V.call rfl rfl (by simp [dOK]) ⟨46, [], by simp only [go_sem, ↓reduceIte, reduceCtorEq, Bool.false_eq_true, Bool.true_eq_false, Nat.reduceAdd, Nat.reduceLT, Nat.reduceEqDiff, Nat.reduceLeDiff, Nat.reduceSub, Nat.reduceMul], ⟨_, rfl, rfl, rfl⟩, .inl ⟨[.str p.key, .str k], _, .inl (by simp only [go_sem, ↓reduceIte, reduceCtorEq, Bool.false_eq_true, Bool.true_eq_false, Nat.reduceAdd, Nat.reduceLT, Nat.reduceEqDiff, Nat.reduceLeDiff, Nat.reduceSub, Nat.reduceMul]), Compare_str p.key k, .inl ⟨_, rfl, rfl, rfl, rfl⟩⟩⟩ ?_
  refine V.exec 400 ?_
  simp (config := {contextual := true}) only [go_sem, ↓reduceIte, reduceCtorEq, Bool.false_eq_true, Bool.true_eq_false, Nat.reduceAdd, Nat.reduceLT, Nat.reduceEqDiff, Nat.reduceLeDiff, Nat.reduceSub, Nat.reduceMul]
def kOfN (k : List UInt8) : PV → Int
  | .agg (_ :: .str a :: _) => cmpStr a k
  | _ => 0
def posN (l : List Note) (k : List UInt8) : Nat := bsI (cAt (kOfN k) (l.map Note.pv)) 0 l.length
theorem posN_le (l : List Note) (k : List UInt8) : posN l k ≤ l.length := bsI_le _ _ _ (Nat.zero_le _)

set_option maxHeartbeats 2000000 in
theorem pend_place (l : List Note) (k : List UInt8) (hl : l.length ≤ 1000000) :
    Ct Try.prog 29 (YtbciecmoadjigaaVm.ops [.row (l.map Note.pv), .str k]) (.vals [.int .i64 (posN l k), .bool (decide (∃ x, l[posN l k]? = some x ∧ x.key = k))]) := by
  have hb := BSearchNote_any (l.map Note.pv) (.str k) 45 [] (kOfN k) (fun x hx => by
      obtain ⟨s, _, rfl⟩ := List.mem_map.1 hx
      exact ⟨rfl, rfl⟩) (by simpa using hl) ⟨_, rfl, rfl, rfl⟩ (fun x hx => by
      obtain ⟨s, _, rfl⟩ := List.mem_map.1 hx
      exact pend_place1 s k)
  have e0 : bsI (cAt (kOfN k) (l.map Note.pv)) 0 (l.map Note.pv).length = posN l k := by rw [List.length_map]; rfl
  rw [e0] at hb
  have e1 : (∃ x, (l.map Note.pv)[posN l k]? = some x ∧ kOfN k x = 0) ↔ ∃ x, l[posN l k]? = some x ∧ x.key = k := by
    constructor
    · rintro ⟨x, hx, hc⟩
      rw [List.getElem?_map, Option.map_eq_some_iff] at hx
      obtain ⟨s, hs', rfl⟩ := hx
      exact ⟨s, hs', cmpStr_zero.1 hc⟩
    · rintro ⟨s, hs', hc⟩
      exact ⟨s.pv, by rw [List.getElem?_map, hs']; rfl, cmpStr_zero.2 hc⟩
  simp only [e1] at hb
  refine Ct.of_V Try.func29 rfl (by simp [YtbciecmoadjigaaVm.ops, Try.f29]) ?_
  refine V.exec 400 ?_
  simp (config := {contextual := true}) only [go_sem, ↓reduceIte, reduceCtorEq, Bool.false_eq_true, Bool.true_eq_false, Nat.reduceAdd, Nat.reduceLT, Nat.reduceEqDiff, Nat.reduceLeDiff, Nat.reduceSub, Nat.reduceMul, Try.f29]
  refine V.call rfl rfl (by simp [dOK]) ⟨44, [], by simp only [go_sem, ↓reduceIte, reduceCtorEq, Bool.false_eq_true, Bool.true_eq_false, Nat.reduceAdd, Nat.reduceLT, Nat.reduceEqDiff, Nat.reduceLeDiff, Nat.reduceSub, Nat.reduceMul], ⟨_, rfl, rfl, rfl⟩, .inl ⟨[.row (l.map Note.pv), .str k, .fn 45 []], _, .inl (by simp only [go_sem, ↓reduceIte, reduceCtorEq, Bool.false_eq_true, Bool.true_eq_false, Nat.reduceAdd, Nat.reduceLT, Nat.reduceEqDiff, Nat.reduceLeDiff, Nat.reduceSub, Nat.reduceMul]), hb, .inl ⟨_, rfl, rfl, rfl, rfl⟩⟩⟩ ?_
  refine V.exec 400 ?_
  simp (config := {contextual := true}) only [go_sem, ↓reduceIte, reduceCtorEq, Bool.false_eq_true, Bool.true_eq_false, Nat.reduceAdd, Nat.reduceLT, Nat.reduceEqDiff, Nat.reduceLeDiff, Nat.reduceSub, Nat.reduceMul]
theorem posN_eq {l : List Note} (h : gSorted Note.key l) (k : List UInt8) : posN l k = gBelow Note.key k l := by
  refine bsI_eq _ _ _ _ (Nat.zero_le _) (gBelow_le Note.key k l) (fun m _ hm => ?_) (fun m hm hm2 => ?_)
  · obtain ⟨x, hx⟩ : ∃ x, l[m]? = some x := ⟨_, List.getElem?_eq_getElem (by have := gBelow_le Note.key k l; omega)⟩
    have := gBelow_lt Note.key l m x hm hx
    simp only [cAt, List.getElem?_map, hx, Option.map_some]
    exact cmpStr_neg.2 this
  · obtain ⟨x, hx⟩ : ∃ x, l[m]? = some x := ⟨_, List.getElem?_eq_getElem hm2⟩
    have := gBelow_ge Note.key l h m x hm hx
    simp only [cAt, List.getElem?_map, hx, Option.map_some]
    exact fun hc => this (cmpStr_neg.1 hc)

def Note.zero : Note := ⟨0, [], [], 0⟩
def findN (l : List Note) (k : List UInt8) : Note × Bool := if waitOk l then match gGet Note.key l k with | some p => (p, true) | none => (Note.zero, false) else (Note.zero, false)

set_option maxHeartbeats 2000000 in
theorem pend_Find (l : List Note) (k : List UInt8) (hl : l.length ≤ 1000000) : Ct Try.prog 13 (YtbciecmoadjigaaVm.ops [.row (l.map Note.pv), .str k]) (.vals [(findN l k).1.pv, .bool (decide ((findN l k).2 = true))]) := by
  refine Ct.of_V Try.func13 rfl (by simp [YtbciecmoadjigaaVm.ops, Try.f13]) ?_
  refine V.exec 400 ?_
  simp (config := {contextual := true}) only [go_sem, ↓reduceIte, reduceCtorEq, Bool.false_eq_true, Bool.true_eq_false, Nat.reduceAdd, Nat.reduceLT, Nat.reduceEqDiff, Nat.reduceLeDiff, Nat.reduceSub, Nat.reduceMul, Try.f13]
  refine V.call rfl rfl (by simp [dOK]) ⟨29, [], by simp only [go_sem, ↓reduceIte, reduceCtorEq, Bool.false_eq_true, Bool.true_eq_false, Nat.reduceAdd, Nat.reduceLT, Nat.reduceEqDiff, Nat.reduceLeDiff, Nat.reduceSub, Nat.reduceMul], ⟨_, rfl, rfl, rfl⟩, .inl ⟨[.row (l.map Note.pv), .str k], _, .inl (by simp only [go_sem, ↓reduceIte, reduceCtorEq, Bool.false_eq_true, Bool.true_eq_false, Nat.reduceAdd, Nat.reduceLT, Nat.reduceEqDiff, Nat.reduceLeDiff, Nat.reduceSub, Nat.reduceMul]), pend_place l k hl, .inl ⟨_, rfl, rfl, rfl, rfl⟩⟩⟩ ?_
  refine V.exec 400 ?_
  by_cases he : ∃ x, l[posN l k]? = some x ∧ x.key = k
  · obtain ⟨x, hx⟩ := he
    have he : (∃ x, l[posN l k]? = some x ∧ x.key = k) := ⟨x, hx⟩
    have hlt := (List.getElem?_eq_some_iff.1 hx.1).1
    have hlt' : ((posN l k : Nat) : Int) < (l.length : Int) := by omega
    have hE : (∃ y, some x = some y ∧ y.key = k) := ⟨x, rfl, hx.2⟩
    simp (config := {contextual := true}) only [go_sem, ↓reduceIte, reduceCtorEq, Bool.false_eq_true, Bool.true_eq_false, Nat.reduceAdd, Nat.reduceLT, Nat.reduceEqDiff, Nat.reduceLeDiff, Nat.reduceSub, Nat.reduceMul, hx.1, hE]
    refine V.call rfl rfl (by simp [dOK]) ⟨15, [], by simp only [go_sem, ↓reduceIte, reduceCtorEq, Bool.false_eq_true, Bool.true_eq_false, Nat.reduceAdd, Nat.reduceLT, Nat.reduceEqDiff, Nat.reduceLeDiff, Nat.reduceSub, Nat.reduceMul], ⟨_, rfl, rfl, rfl⟩, .inl ⟨[.row (l.map Note.pv)], _, .inl (by simp only [go_sem, ↓reduceIte, reduceCtorEq, Bool.false_eq_true, Bool.true_eq_false, Nat.reduceAdd, Nat.reduceLT, Nat.reduceEqDiff, Nat.reduceLeDiff, Nat.reduceSub, Nat.reduceMul]), pend_Right l hl, .inl ⟨_, rfl, rfl, rfl, rfl⟩⟩⟩ ?_
    refine V.exec 400 ?_
    by_cases hok : waitOk l
    · have hr := ((waitOk_iff l).1 hok).1
      have hp := posN_eq hr k
      have hg := (gBelow_find Note.key l hr x).1 (by rw [← hp]; exact hx)
      have hv : findN l k = (x, true) := by simp [findN, hok, hg]
      simp (config := {contextual := true}) only [go_sem, ↓reduceIte, reduceCtorEq, Bool.false_eq_true, Bool.true_eq_false, Nat.reduceAdd, Nat.reduceLT, Nat.reduceEqDiff, Nat.reduceLeDiff, Nat.reduceSub, Nat.reduceMul, hok, hx.1, hlt', hv, Note.pv]
    · have hv : findN l k = (Note.zero, false) := by simp [findN, hok]
      simp (config := {contextual := true}) only [go_sem, ↓reduceIte, reduceCtorEq, Bool.false_eq_true, Bool.true_eq_false, Nat.reduceAdd, Nat.reduceLT, Nat.reduceEqDiff, Nat.reduceLeDiff, Nat.reduceSub, Nat.reduceMul, hok, hv, Note.zero, Note.pv]
  · have hv : findN l k = (Note.zero, false) := by
      unfold findN
      split
      · rename_i hok
        have hr := ((waitOk_iff l).1 hok).1
        have hp := posN_eq hr k
        cases hg : gGet Note.key l k with
        | none => rfl
        | some x => exact absurd ⟨x, by rw [hp]; exact (gBelow_find Note.key l hr x).2 hg⟩ he
      · rfl
    simp (config := {contextual := true}) only [go_sem, ↓reduceIte, reduceCtorEq, Bool.false_eq_true, Bool.true_eq_false, Nat.reduceAdd, Nat.reduceLT, Nat.reduceEqDiff, Nat.reduceLeDiff, Nat.reduceSub, Nat.reduceMul, he, hv, Note.zero, Note.pv]
end Go.Proofs.Ytbciecmoadjigaa
