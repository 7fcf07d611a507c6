/- A part of a proof: functions of the program, walked. -/
import Derived.Test.YtjbfcmaiejlnbaaH2
import Derived.Test.YtjbfcmaiejlnbaaH1
set_option linter.unusedVariables false
set_option linter.unusedSimpArgs false
namespace Go.Proofs.Ytjbfcmaiejlnbaa
open Go Go.Proofs Go.Proofs.YtjbfcmaiejlnbaaVm Go.Proofs.Ytjbfcmaiejlnbaa.Ty

/-- The least of the head and all Cursors is what the floor is. -/
theorem floorOf_iff : ∀ (l : List Sub) (h m : Int), floorOf h l = m ↔ (m ≤ h ∧ (∀ s ∈ l, m ≤ s.cur)) ∧ (m = h ∨ ∃ s ∈ l, m = s.cur)
  | [], h, m => by simp [floorOf]; omega
  | s :: r, h, m => by
    rw [floorOf, floorOf_iff r]
    constructor
    · rintro ⟨⟨a, b⟩, c⟩
      refine ⟨⟨by omega, fun x hx => ?_⟩, ?_⟩
      · rcases List.mem_cons.1 hx with rfl | hx
        · omega
        · exact b x hx
      · rcases c with c | ⟨x, hx, c⟩
        · by_cases hh : h ≤ s.cur
          · exact .inl (by omega)
          · exact .inr ⟨s, List.mem_cons_self, by omega⟩
        · exact .inr ⟨x, List.mem_cons_of_mem _ hx, c⟩
    · rintro ⟨⟨a, b⟩, c⟩
      have hs := b s List.mem_cons_self
      refine ⟨⟨by omega, fun x hx => b x (List.mem_cons_of_mem _ hx)⟩, ?_⟩
      rcases c with c | ⟨x, hx, c⟩
      · exact .inl (by omega)
      · rcases List.mem_cons.1 hx with rfl | hx
        · exact .inl (by omega)
        · exact .inr ⟨x, hx, c⟩
theorem floorOf_congr {l l' : List Sub} (h : Int) (h1 : ∀ s ∈ l', s ∈ l) (h2 : ∀ s ∈ l, s ∈ l') : floorOf h l' = floorOf h l := by
  have := (floorOf_iff l h (floorOf h l)).1 rfl
  rw [floorOf_iff]
  exact ⟨⟨this.1.1, fun s hs => this.1.2 s (h1 s hs)⟩, this.2.imp id fun ⟨s, hs, e⟩ => ⟨s, h2 s hs, e⟩⟩
theorem floorOf_snoc (l : List Sub) (h : Int) (s : Sub) : floorOf h (l ++ [s]) = min (floorOf h l) s.cur := by
  induction l generalizing h with
  | nil => rfl
  | cons c r ih => simp only [List.cons_append, floorOf, ih]
theorem floorOf_idem (l : List Sub) (h : Int) : floorOf (floorOf h l) l = floorOf h l := by
  have := (floorOf_iff l h (floorOf h l)).1 rfl
  rw [floorOf_iff]
  exact ⟨⟨Int.le_refl _, this.1.2⟩, .inl rfl⟩
/-- The list, turned: the place i has what stood at n - i + by, modulo n. -/
def turned (l : List Sub) (b : Nat) : List Sub := (List.range l.length).filterMap fun i => l[(l.length - i + b) % l.length]?
theorem turned_mem (l : List Sub) (b : Nat) (s : Sub) : s ∈ turned l b ↔ s ∈ l := by
  unfold turned
  rw [List.mem_filterMap]
  constructor
  · rintro ⟨i, _, h⟩
    exact List.mem_of_getElem? h
  · intro h
    obtain ⟨j, hj, rfl⟩ := List.mem_iff_getElem.1 h
    -- i with (n - i + b) % n = j
    have hn : 0 < l.length := by omega
    refine ⟨(l.length + b - j) % l.length, List.mem_range.2 (Nat.mod_lt _ hn), ?_⟩
    have hi : (l.length + b - j) % l.length < l.length := Nat.mod_lt _ hn
    have e : (l.length - (l.length + b - j) % l.length + b) % l.length = j := by
      have hd := Nat.div_add_mod (l.length + b - j) l.length
      generalize (l.length + b - j) % l.length = m at *
      generalize (l.length + b - j) / l.length = q at *
      have : l.length - m + b = l.length * q + j := by omega
      rw [this, Nat.mul_add_mod, Nat.mod_eq_of_lt hj]
    rw [e, List.getElem?_eq_getElem hj]

def tn (l : List Sub) (b i : Nat) : List Sub := (List.range i).filterMap fun i => l[(l.length - i + b) % l.length]?
theorem tn_succ {l : List Sub} {b i : Nat} {x : Sub} (h : l[(l.length - i + b) % l.length]? = some x) : tn l b (i + 1) = tn l b i ++ [x] := by
  unfold tn
  rw [List.range_succ, List.filterMap_append]
  simp [h]
theorem tn_len (l : List Sub) (b i : Nat) : (tn l b i).length ≤ i := by
  unfold tn
  refine Nat.le_trans (List.length_filterMap_le _ _) ?_
  simp

set_option maxRecDepth 10000 in
set_option maxHeartbeats 16000000 in
theorem law_Order (head : Int) (l : List Sub) (s : Sub) (b : Nat) (hb : b ≤ 255) (hl : l.length ≤ maxLen) :
    Ct Try.prog 4 (YtjbfcmaiejlnbaaVm.ops [.int .i64 head, .row (l.map Sub.pv), s.pv, .int .u8 b]) (.vals [.bool true]) := by
  have aw := law_awake
  refine Ct.of_V Try.func4 rfl (by simp [YtjbfcmaiejlnbaaVm.ops, Try.f4]) ?_
  refine V.exec 400 ?_
  simp (config := {contextual := true}) only [go_sem, ↓reduceIte, reduceCtorEq, Bool.false_eq_true, Bool.true_eq_false, Nat.reduceAdd, Nat.reduceLT, Nat.reduceEqDiff, Nat.reduceLeDiff, Nat.reduceSub, Nat.reduceMul, Try.f4, Sub.pv]
  refine V.call rfl rfl (by simp [dOK]) ⟨15, [], by simp only [go_sem, ↓reduceIte, reduceCtorEq, Bool.false_eq_true, Bool.true_eq_false, Nat.reduceAdd, Nat.reduceLT, Nat.reduceEqDiff, Nat.reduceLeDiff, Nat.reduceSub, Nat.reduceMul], ⟨_, rfl, rfl, rfl⟩, .inl ⟨[.row (l.map Sub.pv)], _, .inl (by simp only [go_sem, ↓reduceIte, reduceCtorEq, Bool.false_eq_true, Bool.true_eq_false, Nat.reduceAdd, Nat.reduceLT, Nat.reduceEqDiff, Nat.reduceLeDiff, Nat.reduceSub, Nat.reduceMul]), law_small l (by simp only [maxLen] at hl; omega), .inl ⟨_, rfl, rfl, rfl, rfl⟩⟩⟩ ?_
  refine V.exec 400 ?_
  by_cases h1 : smallV l
  · simp (config := {contextual := true}) only [go_sem, ↓reduceIte, reduceCtorEq, Bool.false_eq_true, Bool.true_eq_false, Nat.reduceAdd, Nat.reduceLT, Nat.reduceEqDiff, Nat.reduceLeDiff, Nat.reduceSub, Nat.reduceMul, h1]
    refine V.call rfl rfl (by simp [dOK]) ⟨15, [], by simp only [go_sem, ↓reduceIte, reduceCtorEq, Bool.false_eq_true, Bool.true_eq_false, Nat.reduceAdd, Nat.reduceLT, Nat.reduceEqDiff, Nat.reduceLeDiff, Nat.reduceSub, Nat.reduceMul], ⟨_, rfl, rfl, rfl⟩, .inl ⟨[.row ([s].map Sub.pv)], _, .inl (by simp only [go_sem, ↓reduceIte, reduceCtorEq, Bool.false_eq_true, Bool.true_eq_false, Nat.reduceAdd, Nat.reduceLT, Nat.reduceEqDiff, Nat.reduceLeDiff, Nat.reduceSub, Nat.reduceMul, Sub.pv, List.map_cons, List.map_nil]), law_small [s] (by simp), .inl ⟨_, rfl, rfl, rfl, rfl⟩⟩⟩ ?_
    refine V.exec 400 ?_
    by_cases h2 : smallV [s]
    · by_cases h3 : l.length = 0
      · have h3' : (l.length : Int) = 0 := by omega
        simp (config := {contextual := true}) only [go_sem, ↓reduceIte, reduceCtorEq, Bool.false_eq_true, Bool.true_eq_false, Nat.reduceAdd, Nat.reduceLT, Nat.reduceEqDiff, Nat.reduceLeDiff, Nat.reduceSub, Nat.reduceMul, h2, h3']
        refine V.call rfl rfl (by simp [dOK]) ⟨9, [], by simp only [go_sem, ↓reduceIte, reduceCtorEq, Bool.false_eq_true, Bool.true_eq_false, Nat.reduceAdd, Nat.reduceLT, Nat.reduceEqDiff, Nat.reduceLeDiff, Nat.reduceSub, Nat.reduceMul], ⟨_, rfl, rfl, rfl⟩, .inl ⟨[], _, .inl (by simp only [go_sem, ↓reduceIte, reduceCtorEq, Bool.false_eq_true, Bool.true_eq_false, Nat.reduceAdd, Nat.reduceLT, Nat.reduceEqDiff, Nat.reduceLeDiff, Nat.reduceSub, Nat.reduceMul]), aw, .inl ⟨_, rfl, rfl, rfl, rfl⟩⟩⟩ ?_
        refine V.exec 400 ?_
        simp (config := {contextual := true}) only [go_sem, ↓reduceIte, reduceCtorEq, Bool.false_eq_true, Bool.true_eq_false, Nat.reduceAdd, Nat.reduceLT, Nat.reduceEqDiff, Nat.reduceLeDiff, Nat.reduceSub, Nat.reduceMul]
      · have h3' : ¬ (l.length : Int) = 0 := by omega
        have hl20 := h1.2
        have hll : l.length ≤ 1000000 := by omega
        simp (config := {contextual := true}) only [go_sem, ↓reduceIte, reduceCtorEq, Bool.false_eq_true, Bool.true_eq_false, Nat.reduceAdd, Nat.reduceLT, Nat.reduceEqDiff, Nat.reduceLeDiff, Nat.reduceSub, Nat.reduceMul, h2, h3']
        refine V.loop (fun m ls os => ∃ i : Nat, i ≤ l.length ∧ m = l.length - i ∧
            ls = [(0, .val (.int .i64 head)), (1, .val (.row (l.map Sub.pv))), (3, .val (.int .u8 b)), (6, .adr 0 0), (9, .ref 1), (28, .val (.row (l.map Sub.pv))), (29, .val (.int .i64 l.length)), (30, .val (.int .i64 i))] ∧
            os = [.box true [.val (.int .i64 s.id), .val (.str s.r.lo), .val (.str s.r.hi), .val (.bool (decide (s.r.op = true))), .val (.bool (decide (s.live = true))), .val (.str s.next), .val (.int .i64 s.cur)], .row 37 ((tn l b i).map Sub.pv)]) 2 l.length
          [(0, .val (.int .i64 head)), (1, .val (.row (l.map Sub.pv))), (3, .val (.int .u8 b)), (6, .adr 0 0), (9, .ref 1), (28, .val (.row (l.map Sub.pv))), (29, .val (.int .i64 l.length)), (30, .val (.int .i64 0))] [.box true [.val (.int .i64 s.id), .val (.str s.r.lo), .val (.str s.r.hi), .val (.bool (decide (s.r.op = true))), .val (.bool (decide (s.live = true))), .val (.str s.next), .val (.int .i64 s.cur)], .row 37 []] [some 4, none]
          ⟨0, Nat.zero_le _, rfl, rfl, rfl⟩ (by simp only [go_sem, ↓reduceIte, reduceCtorEq, Bool.false_eq_true, Bool.true_eq_false, Nat.reduceAdd, Nat.reduceLT, Nat.reduceEqDiff, Nat.reduceLeDiff, Nat.reduceSub, Nat.reduceMul]; try decide) ?_
        rintro m ls os ⟨i, hi, rfl, rfl, rfl⟩
        refine V.exec 400 ?_
        by_cases hlt : i < l.length
        · have hlt' : (i : Int) < (l.length : Int) := by omega
          have hmod : (l.length - i + b) % l.length < l.length := Nat.mod_lt _ (by omega)
          obtain ⟨x, hx⟩ : ∃ x, l[(l.length - i + b) % l.length]? = some x := ⟨_, List.getElem?_eq_getElem hmod⟩
          have hw : IntKind.i64.wrap ((i : Int) + 1) = ((i + 1 : Nat) : Int) := by rw [wrap_small3] <;> omega
          have hwa : IntKind.i64.wrap ((l.length : Int) - (i : Int)) = ((l.length - i : Nat) : Int) := by rw [wrap_small3] <;> omega
          have hwb : IntKind.i64.wrap (b : Int) = (b : Int) := by rw [wrap_small3] <;> omega
          have hwc : IntKind.i64.wrap (((l.length - i : Nat) : Int) + (b : Int)) = ((l.length - i + b : Nat) : Int) := by rw [wrap_small3] <;> omega
          have hwd : (((l.length - i + b : Nat) : Int)).tmod (l.length : Int) = (((l.length - i + b) % l.length : Nat) : Int) := rfl
          have hts := tn_succ hx
          have htl := tn_len l b i
          simp (config := {contextual := true}) only [go_sem, ↓reduceIte, reduceCtorEq, Bool.false_eq_true, Bool.true_eq_false, Nat.reduceAdd, Nat.reduceLT, Nat.reduceEqDiff, Nat.reduceLeDiff, Nat.reduceSub, Nat.reduceMul, hlt', hwa, hwb, hwc, hwd, h3', hx, Sub.pv, hw]
          refine ⟨⟨by omega, by omega⟩, l.length - (i + 1), _, _, [some 0, some 20], by omega, ⟨i + 1, by omega, rfl, rfl, rfl⟩, ?_⟩
          simp only [go_sem, ↓reduceIte, reduceCtorEq, Bool.false_eq_true, Bool.true_eq_false, Nat.reduceAdd, Nat.reduceLT, Nat.reduceEqDiff, Nat.reduceLeDiff, Nat.reduceSub, Nat.reduceMul, hts, List.map_append, List.map_cons, List.map_nil, Sub.pv]
          try decide
        · have hlt' : ¬ (i : Int) < (l.length : Int) := by omega
          obtain rfl : i = l.length := by omega
          have hot : floorOf head (tn l b l.length) = floorOf head l := floorOf_congr head (fun s hs => (turned_mem l b s).1 hs) (fun s hs => (turned_mem l b s).2 hs)
          have htl := tn_len l b l.length
          simp (config := {contextual := true}) only [go_sem, ↓reduceIte, reduceCtorEq, Bool.false_eq_true, Bool.true_eq_false, Nat.reduceAdd, Nat.reduceLT, Nat.reduceEqDiff, Nat.reduceLeDiff, Nat.reduceSub, Nat.reduceMul, hlt']
          refine V.call rfl rfl (by simp [dOK]) ⟨14, [], by simp only [go_sem, ↓reduceIte, reduceCtorEq, Bool.false_eq_true, Bool.true_eq_false, Nat.reduceAdd, Nat.reduceLT, Nat.reduceEqDiff, Nat.reduceLeDiff, Nat.reduceSub, Nat.reduceMul], ⟨_, rfl, rfl, rfl⟩, .inl ⟨[.int .i64 head, .row (l.map Sub.pv)], _, .inl (by simp only [go_sem, ↓reduceIte, reduceCtorEq, Bool.false_eq_true, Bool.true_eq_false, Nat.reduceAdd, Nat.reduceLT, Nat.reduceEqDiff, Nat.reduceLeDiff, Nat.reduceSub, Nat.reduceMul]), floor_Of head l hll, .inl ⟨_, rfl, rfl, rfl, rfl⟩⟩⟩ ?_
          refine V.exec 400 ?_
          simp (config := {contextual := true}) only [go_sem, ↓reduceIte, reduceCtorEq, Bool.false_eq_true, Bool.true_eq_false, Nat.reduceAdd, Nat.reduceLT, Nat.reduceEqDiff, Nat.reduceLeDiff, Nat.reduceSub, Nat.reduceMul]
          refine ⟨fun j _ => rfl, ⟨by omega, by omega⟩, ⟨by omega, by omega⟩, ?_⟩
          refine DV.call [13] [] (by simp only [go_sem, ↓reduceIte, reduceCtorEq, Bool.false_eq_true, Bool.true_eq_false, Nat.reduceAdd, Nat.reduceLT, Nat.reduceEqDiff, Nat.reduceLeDiff, Nat.reduceSub, Nat.reduceMul, List.map_append, List.map_cons, List.map_nil, Sub.pv]) (by simp [dOK]) ⟨14, [], by simp only [go_sem, ↓reduceIte, reduceCtorEq, Bool.false_eq_true, Bool.true_eq_false, Nat.reduceAdd, Nat.reduceLT, Nat.reduceEqDiff, Nat.reduceLeDiff, Nat.reduceSub, Nat.reduceMul, List.map_append, List.map_cons, List.map_nil, Sub.pv], ⟨_, rfl, rfl, rfl⟩, .inl ⟨[.int .i64 head, .row ((l ++ [s]).map Sub.pv)], _, .inl (by simp only [go_sem, ↓reduceIte, reduceCtorEq, Bool.false_eq_true, Bool.true_eq_false, Nat.reduceAdd, Nat.reduceLT, Nat.reduceEqDiff, Nat.reduceLeDiff, Nat.reduceSub, Nat.reduceMul, List.map_append, List.map_cons, List.map_nil, Sub.pv]), floor_Of head (l ++ [s]) (by simp; omega), .inl ⟨_, rfl, rfl, rfl, rfl⟩⟩⟩ (by simp only [go_sem, ↓reduceIte, reduceCtorEq, Bool.false_eq_true, Bool.true_eq_false, Nat.reduceAdd, Nat.reduceLT, Nat.reduceEqDiff, Nat.reduceLeDiff, Nat.reduceSub, Nat.reduceMul, List.map_append, List.map_cons, List.map_nil, Sub.pv]) (by simp only [go_sem, ↓reduceIte, reduceCtorEq, Bool.false_eq_true, Bool.true_eq_false, Nat.reduceAdd, Nat.reduceLT, Nat.reduceEqDiff, Nat.reduceLeDiff, Nat.reduceSub, Nat.reduceMul, List.map_append, List.map_cons, List.map_nil, Sub.pv]) (by simp only [go_sem, ↓reduceIte, reduceCtorEq, Bool.false_eq_true, Bool.true_eq_false, Nat.reduceAdd, Nat.reduceLT, Nat.reduceEqDiff, Nat.reduceLeDiff, Nat.reduceSub, Nat.reduceMul, List.map_append, List.map_cons, List.map_nil, Sub.pv]) (by simp) ?_
          refine DV.exec 400 ?_
          simp (config := {contextual := true}) only [go_sem, ↓reduceIte, reduceCtorEq, Bool.false_eq_true, Bool.true_eq_false, Nat.reduceAdd, Nat.reduceLT, Nat.reduceEqDiff, Nat.reduceLeDiff, Nat.reduceSub, Nat.reduceMul, floorOf_snoc, minI]
          refine ⟨by kernel_rfl, ?_⟩
          refine V.call rfl rfl (by simp [dOK]) ⟨14, [], by simp only [go_sem, ↓reduceIte, reduceCtorEq, Bool.false_eq_true, Bool.true_eq_false, Nat.reduceAdd, Nat.reduceLT, Nat.reduceEqDiff, Nat.reduceLeDiff, Nat.reduceSub, Nat.reduceMul], ⟨_, rfl, rfl, rfl⟩, .inl ⟨[.int .i64 head, .row ((tn l b l.length).map Sub.pv)], _, .inl (by simp only [go_sem, ↓reduceIte, reduceCtorEq, Bool.false_eq_true, Bool.true_eq_false, Nat.reduceAdd, Nat.reduceLT, Nat.reduceEqDiff, Nat.reduceLeDiff, Nat.reduceSub, Nat.reduceMul]), floor_Of head (tn l b l.length) (by omega), .inl ⟨_, rfl, rfl, rfl, rfl⟩⟩⟩ ?_
          refine V.exec 400 ?_
          have hnh : floorOf head l ≤ head := floorOf_le_head l head
          simp (config := {contextual := true}) only [go_sem, ↓reduceIte, reduceCtorEq, Bool.false_eq_true, Bool.true_eq_false, Nat.reduceAdd, Nat.reduceLT, Nat.reduceEqDiff, Nat.reduceLeDiff, Nat.reduceSub, Nat.reduceMul, hot, minI, hnh]
          refine V.call rfl rfl (by simp [dOK]) ⟨14, [], by simp only [go_sem, ↓reduceIte, reduceCtorEq, Bool.false_eq_true, Bool.true_eq_false, Nat.reduceAdd, Nat.reduceLT, Nat.reduceEqDiff, Nat.reduceLeDiff, Nat.reduceSub, Nat.reduceMul], ⟨_, rfl, rfl, rfl⟩, .inl ⟨[.int .i64 (floorOf head l), .row (l.map Sub.pv)], _, .inl (by simp only [go_sem, ↓reduceIte, reduceCtorEq, Bool.false_eq_true, Bool.true_eq_false, Nat.reduceAdd, Nat.reduceLT, Nat.reduceEqDiff, Nat.reduceLeDiff, Nat.reduceSub, Nat.reduceMul]), floor_Of (floorOf head l) l hll, .inl ⟨_, rfl, rfl, rfl, rfl⟩⟩⟩ ?_
          refine V.exec 400 ?_
          simp (config := {contextual := true}) only [go_sem, ↓reduceIte, reduceCtorEq, Bool.false_eq_true, Bool.true_eq_false, Nat.reduceAdd, Nat.reduceLT, Nat.reduceEqDiff, Nat.reduceLeDiff, Nat.reduceSub, Nat.reduceMul, floorOf_idem]
          refine V.call rfl rfl (by simp [dOK]) ⟨9, [], by simp only [go_sem, ↓reduceIte, reduceCtorEq, Bool.false_eq_true, Bool.true_eq_false, Nat.reduceAdd, Nat.reduceLT, Nat.reduceEqDiff, Nat.reduceLeDiff, Nat.reduceSub, Nat.reduceMul], ⟨_, rfl, rfl, rfl⟩, .inl ⟨[], _, .inl (by simp only [go_sem, ↓reduceIte, reduceCtorEq, Bool.false_eq_true, Bool.true_eq_false, Nat.reduceAdd, Nat.reduceLT, Nat.reduceEqDiff, Nat.reduceLeDiff, Nat.reduceSub, Nat.reduceMul]), aw, .inl ⟨_, rfl, rfl, rfl, rfl⟩⟩⟩ ?_
          refine V.exec 400 ?_
          simp (config := {contextual := true}) only [go_sem, ↓reduceIte, reduceCtorEq, Bool.false_eq_true, Bool.true_eq_false, Nat.reduceAdd, Nat.reduceLT, Nat.reduceEqDiff, Nat.reduceLeDiff, Nat.reduceSub, Nat.reduceMul]
    · simp (config := {contextual := true}) only [go_sem, ↓reduceIte, reduceCtorEq, Bool.false_eq_true, Bool.true_eq_false, Nat.reduceAdd, Nat.reduceLT, Nat.reduceEqDiff, Nat.reduceLeDiff, Nat.reduceSub, Nat.reduceMul, h2]
      refine V.call rfl rfl (by simp [dOK]) ⟨9, [], by simp only [go_sem, ↓reduceIte, reduceCtorEq, Bool.false_eq_true, Bool.true_eq_false, Nat.reduceAdd, Nat.reduceLT, Nat.reduceEqDiff, Nat.reduceLeDiff, Nat.reduceSub, Nat.reduceMul], ⟨_, rfl, rfl, rfl⟩, .inl ⟨[], _, .inl (by simp only [go_sem, ↓reduceIte, reduceCtorEq, Bool.false_eq_true, Bool.true_eq_false, Nat.reduceAdd, Nat.reduceLT, Nat.reduceEqDiff, Nat.reduceLeDiff, Nat.reduceSub, Nat.reduceMul]), aw, .inl ⟨_, rfl, rfl, rfl, rfl⟩⟩⟩ ?_
      refine V.exec 400 ?_
      simp (config := {contextual := true}) only [go_sem, ↓reduceIte, reduceCtorEq, Bool.false_eq_true, Bool.true_eq_false, Nat.reduceAdd, Nat.reduceLT, Nat.reduceEqDiff, Nat.reduceLeDiff, Nat.reduceSub, Nat.reduceMul]
  · simp (config := {contextual := true}) only [go_sem, ↓reduceIte, reduceCtorEq, Bool.false_eq_true, Bool.true_eq_false, Nat.reduceAdd, Nat.reduceLT, Nat.reduceEqDiff, Nat.reduceLeDiff, Nat.reduceSub, Nat.reduceMul, h1]
    refine V.call rfl rfl (by simp [dOK]) ⟨9, [], by simp only [go_sem, ↓reduceIte, reduceCtorEq, Bool.false_eq_true, Bool.true_eq_false, Nat.reduceAdd, Nat.reduceLT, Nat.reduceEqDiff, Nat.reduceLeDiff, Nat.reduceSub, Nat.reduceMul], ⟨_, rfl, rfl, rfl⟩, .inl ⟨[], _, .inl (by simp only [go_sem, ↓reduceIte, reduceCtorEq, Bool.false_eq_true, Bool.true_eq_false, Nat.reduceAdd, Nat.reduceLT, Nat.reduceEqDiff, Nat.reduceLeDiff, Nat.reduceSub, Nat.reduceMul]), aw, .inl ⟨_, rfl, rfl, rfl, rfl⟩⟩⟩ ?_
    refine V.exec 400 ?_
    simp (config := {contextual := true}) only [go_sem, ↓reduceIte, reduceCtorEq, Bool.false_eq_true, Bool.true_eq_false, Nat.reduceAdd, Nat.reduceLT, Nat.reduceEqDiff, Nat.reduceLeDiff, Nat.reduceSub, Nat.reduceMul]

theorem ctOrder (a0 : Int) (w0 : (Lit.int .i64 a0).wf = true) (xs0 : List PV) (l0 : xs0.length ≤ maxLen) (h0 : ∀ x ∈ xs0, ∃ qs, x = .agg qs ∧ qs.map PV.kd = [.int .i64, .str, .str, .bool, .bool, .str, .int .i64] ∧ ∀ q ∈ qs, q.wfv)
    (xs1 : List PV) (h1 : xs1.map PV.kd = [.int .i64, .str, .str, .bool, .bool, .str, .int .i64]) (w1 : ∀ q ∈ xs1, q.wfv) (a3 : Int) (w3 : (Lit.int .u8 a3).wf = true) :
    Ct Try.prog 4 (YtjbfcmaiejlnbaaVm.ops [.int .i64 a0, .row xs0, .agg xs1, .int .u8 a3]) (.vals [.bool true]) := by
  obtain ⟨l, rfl⟩ := sub_of xs0 h0
  obtain ⟨s, hs⟩ := sub_one xs1 h1
  rw [hs]
  have hr : 0 ≤ a3 ∧ a3 ≤ 255 := by
    simp only [Lit.wf, Bool.and_eq_true, decide_eq_true_eq] at w3
    have e1 : IntKind.min .u8 = 0 := by decide
    have e2 : IntKind.max .u8 = 255 := by decide
    rw [e1, e2] at w3
    exact w3
  obtain ⟨b, rfl⟩ : ∃ b : Nat, a3 = b := ⟨a3.toNat, by omega⟩
  exact law_Order a0 l s b (by omega) (by simpa using l0)
end Go.Proofs.Ytjbfcmaiejlnbaa
