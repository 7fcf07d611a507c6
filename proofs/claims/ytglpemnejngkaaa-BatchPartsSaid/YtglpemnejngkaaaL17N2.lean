/- A part of a proof: functions of the program, walked. -/
import Derived.Test.YtglpemnejngkaaaL17N1
set_option linter.unusedVariables false
set_option linter.unusedSimpArgs false
namespace Go.Proofs.Ytglpemnejngkaaa
open Go Go.Proofs Go.Proofs.YtglpemnejngkaaaVm Go.Proofs.Ytglpemnejngkaaa.Ty

theorem pack_fits (n : Int) : Ct Try.prog 62 (YtglpemnejngkaaaVm.ops [.int .i64 n]) (.vals [.bool (decide (1 ≤ n ∧ n ≤ 8))]) := by
  refine Ct.of_V Try.func62 rfl (by simp [YtglpemnejngkaaaVm.ops, Try.f62]) ?_
  refine V.exec 400 ?_
  simp (config := {contextual := true}) only [go_sem, ↓reduceIte, reduceCtorEq, Bool.false_eq_true, Bool.true_eq_false, Nat.reduceAdd, Nat.reduceLT, Nat.reduceEqDiff, Nat.reduceLeDiff, Nat.reduceSub, Nat.reduceMul, Try.f62]
  simp only [Option.some.injEq, List.cons.injEq, PV.bool.injEq, and_true]
  grind

set_option maxHeartbeats 4000000 in
theorem pack_Take (s : List UInt8) (hl : s.length = 8) : Ct Try.prog 63 (YtglpemnejngkaaaVm.ops [.str s, .int .i64 8]) (.vals [.int .u64 (beN s), .str [], .int .i64 0]) := by
  refine Ct.of_V Try.func63 rfl (by simp [YtglpemnejngkaaaVm.ops, Try.f63]) ?_
  refine V.exec 400 ?_
  simp (config := {contextual := true}) only [go_sem, ↓reduceIte, reduceCtorEq, Bool.false_eq_true, Bool.true_eq_false, Nat.reduceAdd, Nat.reduceLT, Nat.reduceEqDiff, Nat.reduceLeDiff, Nat.reduceSub, Nat.reduceMul, Try.f63]
  refine V.call rfl rfl (by simp [dOK]) ⟨62, [], by simp only [go_sem, ↓reduceIte, reduceCtorEq, Bool.false_eq_true, Bool.true_eq_false, Nat.reduceAdd, Nat.reduceLT, Nat.reduceEqDiff, Nat.reduceLeDiff, Nat.reduceSub, Nat.reduceMul], ⟨_, rfl, rfl, rfl⟩, .inl ⟨[.int .i64 8], _, .inl (by simp only [go_sem, ↓reduceIte, reduceCtorEq, Bool.false_eq_true, Bool.true_eq_false, Nat.reduceAdd, Nat.reduceLT, Nat.reduceEqDiff, Nat.reduceLeDiff, Nat.reduceSub, Nat.reduceMul]), pack_fits 8, .inl ⟨_, rfl, rfl, rfl, rfl⟩⟩⟩ ?_
  refine V.exec 400 ?_
  have hd : (1 : Int) ≤ 8 ∧ (8 : Int) ≤ 8 := by decide
  have hl' : ¬ (s.length : Int) < 8 := by omega
  simp (config := {contextual := true}) only [go_sem, ↓reduceIte, reduceCtorEq, Bool.false_eq_true, Bool.true_eq_false, Nat.reduceAdd, Nat.reduceLT, Nat.reduceEqDiff, Nat.reduceLeDiff, Nat.reduceSub, Nat.reduceMul, hd, hl', and_true]
  refine V.loop (fun m ls os => ∃ (i : Nat), i ≤ 8 ∧ m = 8 - i ∧
        ls = [(0, .val (.str s)), (1, .val (.int .i64 8)), (7, .val (.int .u64 (beN (s.take i)))), (18, .val (.int .i64 8)), (19, .val (.int .i64 i))] ∧ os = []) 0 8
      [(0, .val (.str s)), (1, .val (.int .i64 8)), (7, .val (.int .u64 0)), (18, .val (.int .i64 8)), (19, .val (.int .i64 0))] [] []
      ⟨0, Nat.zero_le _, rfl, rfl, rfl⟩ (by simp only [go_sem, ↓reduceIte, reduceCtorEq, Bool.false_eq_true, Bool.true_eq_false, Nat.reduceAdd, Nat.reduceLT, Nat.reduceEqDiff, Nat.reduceLeDiff, Nat.reduceSub, Nat.reduceMul]) ?_
  rintro m ls os ⟨i, hi, rfl, rfl, rfl⟩
  refine V.exec 400 ?_
  by_cases hlt : i < 8
  · have hlt' : (i : Int) < 8 := by omega
    obtain ⟨x, hx⟩ : ∃ x, s[i]? = some x := ⟨_, List.getElem?_eq_getElem (by omega)⟩
    have hw : IntKind.i64.wrap ((i : Int) + 1) = ((i + 1 : Nat) : Int) := by rw [wrap_small3] <;> omega
    have hb0 := beN_nonneg (s.take i)
    have hb1 : beN (s.take i) < 72057594037927936 := by
      have h1 := beN_lt (s.take i)
      have h2 : (s.take i).length ≤ 7 := by simp; omega
      have h3 : ∀ k : Fin 8, (256 : Int) ^ k.val ≤ 72057594037927936 := by decide
      have := h3 ⟨(s.take i).length, by omega⟩
      exact Int.lt_of_lt_of_le h1 this
    have hsn : beN (s.take (i + 1)) = beN (s.take i) * 256 + (x.toNat : Int) := by rw [List.take_add_one, hx]; exact beN_snoc _ _
    have hsh : IntKind.u64.wrap (beN (s.take i) * 2 ^ min (Int.toNat 8) 64) = beN (s.take i) * 256 := by
      have : (2 : Int) ^ min (Int.toNat 8) 64 = 256 := by decide
      rw [this, wrap_u64] <;> omega
    have hcv : IntKind.u64.wrap (x.toNat : Int) = (x.toNat : Int) := by have := x.toNat_lt; rw [wrap_u64] <;> omega
    have hor := or_byte hb0 hb1 x
    have h8 : (0 : Int) ≤ 8 := by decide
    simp (config := {contextual := true}) only [go_sem, ↓reduceIte, reduceCtorEq, Bool.false_eq_true, Bool.true_eq_false, Nat.reduceAdd, Nat.reduceLT, Nat.reduceEqDiff, Nat.reduceLeDiff, Nat.reduceSub, Nat.reduceMul, hlt', hx, hw, hsh, hcv, hor, h8, ← hsn]
    exact ⟨8 - (i + 1), _, [], [], by omega, ⟨i + 1, by omega, rfl, rfl, rfl⟩, by simp only [go_sem, ↓reduceIte, reduceCtorEq, Bool.false_eq_true, Bool.true_eq_false, Nat.reduceAdd, Nat.reduceLT, Nat.reduceEqDiff, Nat.reduceLeDiff, Nat.reduceSub, Nat.reduceMul]⟩
  · have hlt' : ¬ (i : Int) < 8 := by omega
    obtain rfl : i = 8 := by omega
    simp (config := {contextual := true}) only [go_sem, ↓reduceIte, reduceCtorEq, Bool.false_eq_true, Bool.true_eq_false, Nat.reduceAdd, Nat.reduceLT, Nat.reduceEqDiff, Nat.reduceLeDiff, Nat.reduceSub, Nat.reduceMul, hlt']
    refine ⟨⟨by decide, by omega⟩, by kernel_rfl, ?_⟩
    rw [List.take_of_length_le (by omega), List.drop_eq_nil_of_le (by simp; omega)]

def numV (v : List UInt8) : Int := if v.length = 8 then beN v else 0
theorem note_Number (v : List UInt8) : Ct Try.prog 56 (YtglpemnejngkaaaVm.ops [.str v]) (.vals [.int .u64 (numV v)]) := by
  refine Ct.of_V Try.func56 rfl (by simp [YtglpemnejngkaaaVm.ops, Try.f56]) ?_
  refine V.exec 400 ?_
  simp (config := {contextual := true}) only [go_sem, ↓reduceIte, reduceCtorEq, Bool.false_eq_true, Bool.true_eq_false, Nat.reduceAdd, Nat.reduceLT, Nat.reduceEqDiff, Nat.reduceLeDiff, Nat.reduceSub, Nat.reduceMul, Try.f56]
  by_cases h : v.length = 8
  · have h' : (v.length : Int) = 8 := by omega
    simp (config := {contextual := true}) only [go_sem, ↓reduceIte, reduceCtorEq, Bool.false_eq_true, Bool.true_eq_false, Nat.reduceAdd, Nat.reduceLT, Nat.reduceEqDiff, Nat.reduceLeDiff, Nat.reduceSub, Nat.reduceMul, h', not_true_eq_false]
    refine V.call rfl rfl (by simp [dOK]) ⟨63, [], by simp only [go_sem, ↓reduceIte, reduceCtorEq, Bool.false_eq_true, Bool.true_eq_false, Nat.reduceAdd, Nat.reduceLT, Nat.reduceEqDiff, Nat.reduceLeDiff, Nat.reduceSub, Nat.reduceMul], ⟨_, rfl, rfl, rfl⟩, .inl ⟨[.str v, .int .i64 8], _, .inl (by simp only [go_sem, ↓reduceIte, reduceCtorEq, Bool.false_eq_true, Bool.true_eq_false, Nat.reduceAdd, Nat.reduceLT, Nat.reduceEqDiff, Nat.reduceLeDiff, Nat.reduceSub, Nat.reduceMul]), pack_Take v h, .inr (.inl ⟨_, rfl, rfl, rfl⟩)⟩⟩ ?_
    refine V.exec 400 ?_
    simp (config := {contextual := true}) only [go_sem, ↓reduceIte, reduceCtorEq, Bool.false_eq_true, Bool.true_eq_false, Nat.reduceAdd, Nat.reduceLT, Nat.reduceEqDiff, Nat.reduceLeDiff, Nat.reduceSub, Nat.reduceMul]
    simp [numV, h]
  · have h' : ¬ (v.length : Int) = 8 := by omega
    simp (config := {contextual := true}) only [go_sem, ↓reduceIte, reduceCtorEq, Bool.false_eq_true, Bool.true_eq_false, Nat.reduceAdd, Nat.reduceLT, Nat.reduceEqDiff, Nat.reduceLeDiff, Nat.reduceSub, Nat.reduceMul, h']
    simp [numV, h]

def numRow (n : Int) (i : Nat) : List PV := (List.range 8).map fun j => if 7 - j < i then PV.int .u8 (n / 256 ^ (7 - j) % 256) else PV.int .u8 0
theorem numRow_len (n : Int) (i : Nat) : (numRow n i).length = 8 := by simp [numRow]
theorem numRow_zero (n : Int) : numRow n 0 = List.replicate 8 (PV.int .u8 0) := by rfl
theorem numRow_set (n : Int) (i : Nat) (hi : i < 8) : (numRow n i).set (7 - i) (PV.int .u8 (n / 256 ^ i % 256)) = numRow n (i + 1) := by
  apply List.ext_getElem?
  intro j
  by_cases hj : j < 8
  · rw [List.getElem?_set]
    by_cases he : 7 - i = j
    · subst he
      have e : 7 - (7 - i) = i := by omega
      have e2 : 7 - i < 8 := by omega
      simp [numRow, e, e2, hi]
    · simp [he, numRow, hj]
      have : (7 - j < i) ↔ (7 - j < i + 1) := by omega
      simp [this]
  · rw [List.getElem?_eq_none (by simp [numRow]; omega), List.getElem?_eq_none (by simp [numRow]; omega)]
theorem bytesOf_map : ∀ (l : List Int), bytesOf (l.map (PV.int .u8)) = some (l.map fun n => UInt8.ofNat n.toNat)
  | [] => rfl
  | n :: l => by simp only [List.map_cons, bytesOf, bytesOf_map l]
theorem numRow_bytes (n : Int) : bytesOf (numRow n 8) = some (beB n 8) := by
  have e : numRow n 8 = ((List.range 8).map fun j => n / 256 ^ (7 - j) % 256).map (PV.int .u8) := by
    unfold numRow
    rw [List.map_map]
    apply List.map_congr_left
    intro j hj
    have := List.mem_range.1 hj
    rw [if_pos (by omega)]; rfl
  rw [e, bytesOf_map]
  simp [beB]

set_option maxHeartbeats 4000000 in
theorem pack_Num (n : Int) (h0 : 0 ≤ n) : Ct Try.prog 55 (YtglpemnejngkaaaVm.ops [.int .u64 n, .int .i64 8]) (.vals [.str (beB n 8), .int .i64 0]) := by
  refine Ct.of_V Try.func55 rfl (by simp [YtglpemnejngkaaaVm.ops, Try.f55]) ?_
  refine V.exec 400 ?_
  simp (config := {contextual := true}) only [go_sem, ↓reduceIte, reduceCtorEq, Bool.false_eq_true, Bool.true_eq_false, Nat.reduceAdd, Nat.reduceLT, Nat.reduceEqDiff, Nat.reduceLeDiff, Nat.reduceSub, Nat.reduceMul, Try.f55]
  refine V.call rfl rfl (by simp [dOK]) ⟨62, [], by simp only [go_sem, ↓reduceIte, reduceCtorEq, Bool.false_eq_true, Bool.true_eq_false, Nat.reduceAdd, Nat.reduceLT, Nat.reduceEqDiff, Nat.reduceLeDiff, Nat.reduceSub, Nat.reduceMul], ⟨_, rfl, rfl, rfl⟩, .inl ⟨[.int .i64 8], _, .inl (by simp only [go_sem, ↓reduceIte, reduceCtorEq, Bool.false_eq_true, Bool.true_eq_false, Nat.reduceAdd, Nat.reduceLT, Nat.reduceEqDiff, Nat.reduceLeDiff, Nat.reduceSub, Nat.reduceMul]), pack_fits 8, .inl ⟨_, rfl, rfl, rfl, rfl⟩⟩⟩ ?_
  refine V.exec 400 ?_
  have hd : (1 : Int) ≤ 8 ∧ (8 : Int) ≤ 8 := by decide
  have hl' : ¬ (8 : Int) < 8 := by decide
  simp (config := {contextual := true}) only [go_sem, ↓reduceIte, reduceCtorEq, Bool.false_eq_true, Bool.true_eq_false, Nat.reduceAdd, Nat.reduceLT, Nat.reduceEqDiff, Nat.reduceLeDiff, Nat.reduceSub, Nat.reduceMul, hd, hl', and_true]
  refine ⟨⟨by decide, by decide, by decide⟩, ?_⟩
  refine V.loop (fun m ls os => ∃ (i : Nat), i ≤ 8 ∧ m = 8 - i ∧
        ls = [(0, .val (.int .u64 n)), (1, .val (.int .i64 8)), (6, .ref 0), (25, .val (.int .i64 8)), (26, .val (.int .i64 i))] ∧ os = [.row 5 (numRow n i)]) 1 8
      [(0, .val (.int .u64 n)), (1, .val (.int .i64 8)), (6, .ref 0), (25, .val (.int .i64 8)), (26, .val (.int .i64 0))] [.row 5 (numRow n 0)] [some 19]
      ⟨0, Nat.zero_le _, rfl, rfl, rfl⟩ (by simp only [go_sem, ↓reduceIte, reduceCtorEq, Bool.false_eq_true, Bool.true_eq_false, Nat.reduceAdd, Nat.reduceLT, Nat.reduceEqDiff, Nat.reduceLeDiff, Nat.reduceSub, Nat.reduceMul, numRow_zero]; exact ⟨rfl, rfl⟩) ?_
  rintro m ls os ⟨i, hi, rfl, rfl, rfl⟩
  refine V.exec 400 ?_
  by_cases hlt : i < 8
  · have hlt' : (i : Int) < 8 := by omega
    have hw : IntKind.i64.wrap ((i : Int) + 1) = ((i + 1 : Nat) : Int) := by rw [wrap_small3] <;> omega
    have hw1 : IntKind.i64.wrap (8 * (i : Int)) = ((8 * i : Nat) : Int) := by rw [wrap_small3] <;> omega
    have hw2 : IntKind.i64.wrap (8 - 1) = 7 := by decide
    have hw3 : IntKind.i64.wrap (7 - (i : Int)) = ((7 - i : Nat) : Int) := by rw [wrap_small3] <;> omega
    have hsr : n / 2 ^ min (8 * i) 64 = n / 256 ^ i := by
      rw [Nat.min_eq_left (by omega), Int.pow_mul]; rfl
    have hcv : IntKind.u8.wrap (n / 256 ^ i) = n / 256 ^ i % 256 := by simp [IntKind.wrap, IntKind.bits, IntKind.signed]
    have hlen := numRow_len n i
    have hz : (numRow n i)[7 - i]? = some (PV.int .u8 0) := by
      have e : 7 - (7 - i) = i := by omega
      have e2 : 7 - i < 8 := by omega
      simp [numRow, e, e2]
    have hset := numRow_set n i hlt
    simp (config := {contextual := true}) only [go_sem, ↓reduceIte, reduceCtorEq, Bool.false_eq_true, Bool.true_eq_false, Nat.reduceAdd, Nat.reduceLT, Nat.reduceEqDiff, Nat.reduceLeDiff, Nat.reduceSub, Nat.reduceMul, hlt', hw, hw1, hw2, hw3, hsr, hcv, hlen, hz, hset]
    exact ⟨8 - (i + 1), _, _, [some 0], by omega, ⟨i + 1, by omega, rfl, rfl, rfl⟩, by simp only [go_sem, ↓reduceIte, reduceCtorEq, Bool.false_eq_true, Bool.true_eq_false, Nat.reduceAdd, Nat.reduceLT, Nat.reduceEqDiff, Nat.reduceLeDiff, Nat.reduceSub, Nat.reduceMul]⟩
  · have hlt' : ¬ (i : Int) < 8 := by omega
    obtain rfl : i = 8 := by omega
    simp (config := {contextual := true}) only [go_sem, ↓reduceIte, reduceCtorEq, Bool.false_eq_true, Bool.true_eq_false, Nat.reduceAdd, Nat.reduceLT, Nat.reduceEqDiff, Nat.reduceLeDiff, Nat.reduceSub, Nat.reduceMul, hlt', numRow_bytes]

/-- What becomes of a key by one note. -/
def doneOne (st : List UInt8 × Bool) (x : Note) : List UInt8 × Bool :=
  if x.kind = 1 then (x.value, true) else if x.kind = 2 then ([], false) else if x.kind = 3 then (beB (IntKind.u64.wrap (numV st.1 + x.n)) 8, true) else st
def doneV (v : List UInt8) (has : Bool) (l : List Note) : List UInt8 × Bool := l.foldl doneOne (if has = true then v else [], has)

theorem u64_wrap_nonneg (x : Int) : 0 ≤ IntKind.u64.wrap x := by simp [IntKind.wrap, IntKind.bits, IntKind.signed]; omega

set_option maxRecDepth 4000 in
set_option maxHeartbeats 8000000 in
theorem note_Done (v : List UInt8) (has : Bool) (l : List Note) (hl : l.length ≤ 1000000) : Ct Try.prog 43 (YtglpemnejngkaaaVm.ops [.str v, .bool (decide (has = true)), .row (l.map Note.pv)])
    (.vals [.str (doneV v has l).1, .bool (decide ((doneV v has l).2 = true))]) := by
  generalize hD : doneV v has l = D
  unfold doneV at hD
  refine Ct.of_V Try.func43 rfl (by simp [YtglpemnejngkaaaVm.ops, Try.f43]) ?_
  refine V.exec 400 ?_
  cases has
  all_goals simp only [Bool.false_eq_true, ↓reduceIte] at hD
  all_goals simp (config := {contextual := true}) only [go_sem, ↓reduceIte, reduceCtorEq, Bool.false_eq_true, Bool.true_eq_false, Nat.reduceAdd, Nat.reduceLT, Nat.reduceEqDiff, Nat.reduceLeDiff, Nat.reduceSub, Nat.reduceMul, Try.f43, decide_true, decide_false]
  all_goals refine V.loop (fun m ls os => ∃ (i : Nat) (u : List UInt8) (h : Bool), i ≤ l.length ∧ m = l.length - i ∧ (l.drop i).foldl doneOne (u, h) = D ∧ ls = [(0, .val (.str u)), (1, .val (.bool (decide (h = true)))), (14, .val (.row (l.map Note.pv))), (15, .val (.int .i64 l.length)), (16, .val (.int .i64 i))] ∧ os = []) 0 l.length _ _ [] ⟨0, _, _, Nat.zero_le _, rfl, hD, rfl, rfl⟩ (by simp only [go_sem, ↓reduceIte, reduceCtorEq, Bool.false_eq_true, Bool.true_eq_false, Nat.reduceAdd, Nat.reduceLT, Nat.reduceEqDiff, Nat.reduceLeDiff, Nat.reduceSub, Nat.reduceMul, decide_true, decide_false]; try rfl) ?_
  all_goals rintro m ls os ⟨i, u, h, hi, rfl, hf, rfl, rfl⟩
  all_goals refine V.exec 400 ?_
  all_goals by_cases hlt : i < l.length
  case neg => 
    have hlt' : ¬ (i : Int) < (l.length : Int) := by omega
    have hd : l.drop i = [] := List.drop_eq_nil_of_le (by omega)
    rw [hd, List.foldl_nil] at hf
    subst hf
    simp (config := {contextual := true}) only [go_sem, ↓reduceIte, reduceCtorEq, Bool.false_eq_true, Bool.true_eq_false, Nat.reduceAdd, Nat.reduceLT, Nat.reduceEqDiff, Nat.reduceLeDiff, Nat.reduceSub, Nat.reduceMul, hlt']
  case neg => 
    have hlt' : ¬ (i : Int) < (l.length : Int) := by omega
    have hd : l.drop i = [] := List.drop_eq_nil_of_le (by omega)
    rw [hd, List.foldl_nil] at hf
    subst hf
    simp (config := {contextual := true}) only [go_sem, ↓reduceIte, reduceCtorEq, Bool.false_eq_true, Bool.true_eq_false, Nat.reduceAdd, Nat.reduceLT, Nat.reduceEqDiff, Nat.reduceLeDiff, Nat.reduceSub, Nat.reduceMul, hlt']
  all_goals
    have hlt' : (i : Int) < (l.length : Int) := by omega
    obtain ⟨x, hx⟩ : ∃ x, l[i]? = some x := ⟨_, List.getElem?_eq_getElem hlt⟩
    have hw : IntKind.i64.wrap ((i : Int) + 1) = ((i + 1 : Nat) : Int) := by rw [wrap_small3] <;> omega
    rw [drop_of_get hx, List.foldl_cons] at hf
    have h21 : ¬ (2 : Int) = 1 := by decide
    have h31 : ¬ (3 : Int) = 1 := by decide
    have h32 : ¬ (3 : Int) = 2 := by decide
    by_cases h1 : x.kind = 1
    · have e : doneOne (u, h) x = (x.value, true) := by simp [doneOne, h1]
      rw [e] at hf
      simp (config := {contextual := true}) only [go_sem, ↓reduceIte, reduceCtorEq, Bool.false_eq_true, Bool.true_eq_false, Nat.reduceAdd, Nat.reduceLT, Nat.reduceEqDiff, Nat.reduceLeDiff, Nat.reduceSub, Nat.reduceMul, hlt', hx, Note.pv, hw, h1]
      exact ⟨l.length - (i + 1), _, [], [], by omega, ⟨i + 1, _, _, by omega, rfl, hf, rfl, rfl⟩, by simp only [go_sem, ↓reduceIte, reduceCtorEq, Bool.false_eq_true, Bool.true_eq_false, Nat.reduceAdd, Nat.reduceLT, Nat.reduceEqDiff, Nat.reduceLeDiff, Nat.reduceSub, Nat.reduceMul, decide_true]⟩
    · by_cases h2 : x.kind = 2
      · have e : doneOne (u, h) x = ([], false) := by simp [doneOne, h2]
        rw [e] at hf
        simp (config := {contextual := true}) only [go_sem, ↓reduceIte, reduceCtorEq, Bool.false_eq_true, Bool.true_eq_false, Nat.reduceAdd, Nat.reduceLT, Nat.reduceEqDiff, Nat.reduceLeDiff, Nat.reduceSub, Nat.reduceMul, hlt', hx, Note.pv, hw, h2, h21]
        exact ⟨l.length - (i + 1), _, [], [], by omega, ⟨i + 1, _, _, by omega, rfl, hf, rfl, rfl⟩, by simp only [go_sem, ↓reduceIte, reduceCtorEq, Bool.false_eq_true, Bool.true_eq_false, Nat.reduceAdd, Nat.reduceLT, Nat.reduceEqDiff, Nat.reduceLeDiff, Nat.reduceSub, Nat.reduceMul, decide_false]⟩
      · by_cases h3 : x.kind = 3
        · have e : doneOne (u, h) x = (beB (IntKind.u64.wrap (numV u + x.n)) 8, true) := by simp [doneOne, h3]
          rw [e] at hf
          have hn := pack_Num _ (u64_wrap_nonneg (numV u + x.n))
          simp (config := {contextual := true}) only [go_sem, ↓reduceIte, reduceCtorEq, Bool.false_eq_true, Bool.true_eq_false, Nat.reduceAdd, Nat.reduceLT, Nat.reduceEqDiff, Nat.reduceLeDiff, Nat.reduceSub, Nat.reduceMul, hlt', hx, Note.pv, hw, h3, h31, h32]
          refine DV.call [] [] (by simp only [go_sem, ↓reduceIte, reduceCtorEq, Bool.false_eq_true, Bool.true_eq_false, Nat.reduceAdd, Nat.reduceLT, Nat.reduceEqDiff, Nat.reduceLeDiff, Nat.reduceSub, Nat.reduceMul]) (by simp [dOK]) ⟨56, [], by simp only [go_sem, ↓reduceIte, reduceCtorEq, Bool.false_eq_true, Bool.true_eq_false, Nat.reduceAdd, Nat.reduceLT, Nat.reduceEqDiff, Nat.reduceLeDiff, Nat.reduceSub, Nat.reduceMul], ⟨_, rfl, rfl, rfl⟩, .inl ⟨[.str u], _, .inl (by simp only [go_sem, ↓reduceIte, reduceCtorEq, Bool.false_eq_true, Bool.true_eq_false, Nat.reduceAdd, Nat.reduceLT, Nat.reduceEqDiff, Nat.reduceLeDiff, Nat.reduceSub, Nat.reduceMul]), note_Number u, .inl ⟨_, rfl, rfl, rfl, rfl⟩⟩⟩ (by simp only [go_sem, ↓reduceIte, reduceCtorEq, Bool.false_eq_true, Bool.true_eq_false, Nat.reduceAdd, Nat.reduceLT, Nat.reduceEqDiff, Nat.reduceLeDiff, Nat.reduceSub, Nat.reduceMul]) (by simp only [go_sem, ↓reduceIte, reduceCtorEq, Bool.false_eq_true, Bool.true_eq_false, Nat.reduceAdd, Nat.reduceLT, Nat.reduceEqDiff, Nat.reduceLeDiff, Nat.reduceSub, Nat.reduceMul]) (by simp only [go_sem, ↓reduceIte, reduceCtorEq, Bool.false_eq_true, Bool.true_eq_false, Nat.reduceAdd, Nat.reduceLT, Nat.reduceEqDiff, Nat.reduceLeDiff, Nat.reduceSub, Nat.reduceMul]) (by simp) ?_
          refine DV.exec 400 ?_
          simp (config := {contextual := true}) only [go_sem, ↓reduceIte, reduceCtorEq, Bool.false_eq_true, Bool.true_eq_false, Nat.reduceAdd, Nat.reduceLT, Nat.reduceEqDiff, Nat.reduceLeDiff, Nat.reduceSub, Nat.reduceMul]
          refine DV.call [] [] (by simp only [go_sem, ↓reduceIte, reduceCtorEq, Bool.false_eq_true, Bool.true_eq_false, Nat.reduceAdd, Nat.reduceLT, Nat.reduceEqDiff, Nat.reduceLeDiff, Nat.reduceSub, Nat.reduceMul]) (by simp [dOK]) ⟨55, [], by simp only [go_sem, ↓reduceIte, reduceCtorEq, Bool.false_eq_true, Bool.true_eq_false, Nat.reduceAdd, Nat.reduceLT, Nat.reduceEqDiff, Nat.reduceLeDiff, Nat.reduceSub, Nat.reduceMul], ⟨_, rfl, rfl, rfl⟩, .inl ⟨[.int .u64 (IntKind.u64.wrap (numV u + x.n)), .int .i64 8], _, .inl (by simp only [go_sem, ↓reduceIte, reduceCtorEq, Bool.false_eq_true, Bool.true_eq_false, Nat.reduceAdd, Nat.reduceLT, Nat.reduceEqDiff, Nat.reduceLeDiff, Nat.reduceSub, Nat.reduceMul]), hn, .inr (.inl ⟨_, rfl, rfl, rfl⟩)⟩⟩ (by simp only [go_sem, ↓reduceIte, reduceCtorEq, Bool.false_eq_true, Bool.true_eq_false, Nat.reduceAdd, Nat.reduceLT, Nat.reduceEqDiff, Nat.reduceLeDiff, Nat.reduceSub, Nat.reduceMul]) (by simp only [go_sem, ↓reduceIte, reduceCtorEq, Bool.false_eq_true, Bool.true_eq_false, Nat.reduceAdd, Nat.reduceLT, Nat.reduceEqDiff, Nat.reduceLeDiff, Nat.reduceSub, Nat.reduceMul]) (by simp only [go_sem, ↓reduceIte, reduceCtorEq, Bool.false_eq_true, Bool.true_eq_false, Nat.reduceAdd, Nat.reduceLT, Nat.reduceEqDiff, Nat.reduceLeDiff, Nat.reduceSub, Nat.reduceMul]) (by simp) ?_
          refine DV.exec 400 ?_
          simp (config := {contextual := true}) only [go_sem, ↓reduceIte, reduceCtorEq, Bool.false_eq_true, Bool.true_eq_false, Nat.reduceAdd, Nat.reduceLT, Nat.reduceEqDiff, Nat.reduceLeDiff, Nat.reduceSub, Nat.reduceMul, hw]
          (repeat' (first | (intro _) | (refine ⟨by kernel_rfl, ?_⟩) | (apply And.intro)))
          exact ⟨l.length - (i + 1), _, [], [], by omega, ⟨i + 1, _, _, by omega, rfl, hf, rfl, rfl⟩, by simp only [go_sem, ↓reduceIte, reduceCtorEq, Bool.false_eq_true, Bool.true_eq_false, Nat.reduceAdd, Nat.reduceLT, Nat.reduceEqDiff, Nat.reduceLeDiff, Nat.reduceSub, Nat.reduceMul, decide_true]⟩
        · have e : doneOne (u, h) x = (u, h) := by simp [doneOne, h1, h2, h3]
          rw [e] at hf
          simp (config := {contextual := true}) only [go_sem, ↓reduceIte, reduceCtorEq, Bool.false_eq_true, Bool.true_eq_false, Nat.reduceAdd, Nat.reduceLT, Nat.reduceEqDiff, Nat.reduceLeDiff, Nat.reduceSub, Nat.reduceMul, hlt', hx, Note.pv, hw, h1, h2, h3]
          exact ⟨l.length - (i + 1), _, [], [], by omega, ⟨i + 1, _, _, by omega, rfl, hf, rfl, rfl⟩, by simp only [go_sem, ↓reduceIte, reduceCtorEq, Bool.false_eq_true, Bool.true_eq_false, Nat.reduceAdd, Nat.reduceLT, Nat.reduceEqDiff, Nat.reduceLeDiff, Nat.reduceSub, Nat.reduceMul]⟩
end Go.Proofs.Ytglpemnejngkaaa
