/- A part of a proof: functions of the program, walked. -/
import Derived.Test.YtglpemnejngkaaaL17N2
set_option linter.unusedVariables false
set_option linter.unusedSimpArgs false
namespace Go.Proofs.Ytglpemnejngkaaa
open Go Go.Proofs Go.Proofs.YtglpemnejngkaaaVm Go.Proofs.Ytglpemnejngkaaa.Ty

set_option maxHeartbeats 4000000 in
theorem ref01_Take (s : List UInt8) (hl : s.length = 8) : Ct Try.prog 65 (YtglpemnejngkaaaVm.ops [.str s, .int .i64 8]) (.vals [.int .u64 (beN s), .str [], .int .i64 0]) := by
  refine Ct.of_V Try.func65 rfl (by simp [YtglpemnejngkaaaVm.ops, Try.f65]) ?_
  refine V.exec 400 ?_
  have h1 : ¬ (8 : Int) < 1 := by decide
  have h2 : ¬ (8 : Int) < 8 := by decide
  have hl' : ¬ (s.length : Int) < 8 := by omega
  simp (config := {contextual := true}) only [go_sem, ↓reduceIte, reduceCtorEq, Bool.false_eq_true, Bool.true_eq_false, Nat.reduceAdd, Nat.reduceLT, Nat.reduceEqDiff, Nat.reduceLeDiff, Nat.reduceSub, Nat.reduceMul, Try.f65, h1, h2, hl']
  refine V.loop (fun m ls os => ∃ (i : Nat), i ≤ 8 ∧ m = 8 - i ∧
        ls = [(0, .val (.str s)), (1, .val (.int .i64 8)), (7, .val (.int .u64 (beN (s.take i)))), (8, .val (.int .i64 i))] ∧ os = []) 0 8
      [(0, .val (.str s)), (1, .val (.int .i64 8)), (7, .val (.int .u64 0)), (8, .val (.int .i64 0))] [] []
      ⟨0, Nat.zero_le _, rfl, rfl, rfl⟩ (by simp only [go_sem, ↓reduceIte, reduceCtorEq, Bool.false_eq_true, Bool.true_eq_false, Nat.reduceAdd, Nat.reduceLT, Nat.reduceEqDiff, Nat.reduceLeDiff, Nat.reduceSub, Nat.reduceMul]) ?_
  rintro m ls os ⟨i, hi, rfl, rfl, rfl⟩
  refine V.exec 400 ?_
  by_cases hlt : i < 8
  · have hlt' : (i : Int) < 8 := by omega
    obtain ⟨x, hx⟩ : ∃ x, s[i]? = some x := ⟨_, List.getElem?_eq_getElem (by omega)⟩
    have hw : IntKind.i64.wrap ((i : Int) + 1) = ((i + 1 : Nat) : Int) := by rw [wrap_small3] <;> omega
    have hb0 := beN_nonneg (s.take i)
    have hb1 : beN (s.take i) < 72057594037927936 := by
      have h1 := beN_lt (s.take i)
      have h2 : (s.take i).length ≤ 7 := by simp; omega
      have h3 : ∀ k : Fin 8, (256 : Int) ^ k.val ≤ 72057594037927936 := by decide
      have := h3 ⟨(s.take i).length, by omega⟩
      exact Int.lt_of_lt_of_le h1 this
    have hsn : beN (s.take (i + 1)) = beN (s.take i) * 256 + (x.toNat : Int) := by rw [List.take_add_one, hx]; exact beN_snoc _ _
    have hxl := x.toNat_lt
    have hsh : IntKind.u64.wrap (beN (s.take i) * 256) = beN (s.take i) * 256 := by rw [wrap_u64] <;> omega
    have hcv : IntKind.u64.wrap (x.toNat : Int) = (x.toNat : Int) := by rw [wrap_u64] <;> omega
    have had : IntKind.u64.wrap (beN (s.take i) * 256 + (x.toNat : Int)) = beN (s.take i) * 256 + (x.toNat : Int) := by rw [wrap_u64] <;> omega
    rw [← hsn] at had
    simp (config := {contextual := true}) only [go_sem, ↓reduceIte, reduceCtorEq, Bool.false_eq_true, Bool.true_eq_false, Nat.reduceAdd, Nat.reduceLT, Nat.reduceEqDiff, Nat.reduceLeDiff, Nat.reduceSub, Nat.reduceMul, hlt', hx, hw, hsh, hcv, ← hsn, had]
    exact ⟨8 - (i + 1), _, [], [], by omega, ⟨i + 1, by omega, rfl, rfl, rfl⟩, by simp only [go_sem, ↓reduceIte, reduceCtorEq, Bool.false_eq_true, Bool.true_eq_false, Nat.reduceAdd, Nat.reduceLT, Nat.reduceEqDiff, Nat.reduceLeDiff, Nat.reduceSub, Nat.reduceMul]⟩
  · have hlt' : ¬ (i : Int) < 8 := by omega
    obtain rfl : i = 8 := by omega
    simp (config := {contextual := true}) only [go_sem, ↓reduceIte, reduceCtorEq, Bool.false_eq_true, Bool.true_eq_false, Nat.reduceAdd, Nat.reduceLT, Nat.reduceEqDiff, Nat.reduceLeDiff, Nat.reduceSub, Nat.reduceMul, hlt']
    refine ⟨⟨by decide, by omega⟩, by kernel_rfl, ?_⟩
    rw [List.take_of_length_le (by omega), List.drop_eq_nil_of_le (by simp; omega)]

theorem ref09_Number (v : List UInt8) : Ct Try.prog 60 (YtglpemnejngkaaaVm.ops [.str v]) (.vals [.int .u64 (numV v)]) := by
  refine Ct.of_V Try.func60 rfl (by simp [YtglpemnejngkaaaVm.ops, Try.f60]) ?_
  refine V.exec 400 ?_
  by_cases h : v.length = 8
  · have h' : (v.length : Int) = 8 := by omega
    simp (config := {contextual := true}) only [go_sem, ↓reduceIte, reduceCtorEq, Bool.false_eq_true, Bool.true_eq_false, Nat.reduceAdd, Nat.reduceLT, Nat.reduceEqDiff, Nat.reduceLeDiff, Nat.reduceSub, Nat.reduceMul, Try.f60, h', not_true_eq_false]
    refine V.call rfl rfl (by simp [dOK]) ⟨65, [], by simp only [go_sem, ↓reduceIte, reduceCtorEq, Bool.false_eq_true, Bool.true_eq_false, Nat.reduceAdd, Nat.reduceLT, Nat.reduceEqDiff, Nat.reduceLeDiff, Nat.reduceSub, Nat.reduceMul], ⟨_, rfl, rfl, rfl⟩, .inl ⟨[.str v, .int .i64 8], _, .inl (by simp only [go_sem, ↓reduceIte, reduceCtorEq, Bool.false_eq_true, Bool.true_eq_false, Nat.reduceAdd, Nat.reduceLT, Nat.reduceEqDiff, Nat.reduceLeDiff, Nat.reduceSub, Nat.reduceMul]), ref01_Take v h, .inr (.inl ⟨_, rfl, rfl, rfl⟩)⟩⟩ ?_
    refine V.exec 400 ?_
    simp (config := {contextual := true}) only [go_sem, ↓reduceIte, reduceCtorEq, Bool.false_eq_true, Bool.true_eq_false, Nat.reduceAdd, Nat.reduceLT, Nat.reduceEqDiff, Nat.reduceLeDiff, Nat.reduceSub, Nat.reduceMul]
    simp [numV, h]
  · have h' : ¬ (v.length : Int) = 8 := by omega
    simp (config := {contextual := true}) only [go_sem, ↓reduceIte, reduceCtorEq, Bool.false_eq_true, Bool.true_eq_false, Nat.reduceAdd, Nat.reduceLT, Nat.reduceEqDiff, Nat.reduceLeDiff, Nat.reduceSub, Nat.reduceMul, Try.f60, h']
    simp [numV, h]

set_option maxHeartbeats 4000000 in
theorem ref01_Num (n : Int) (h0 : 0 ≤ n) (hn : n < 18446744073709551616) : Ct Try.prog 59 (YtglpemnejngkaaaVm.ops [.int .u64 n, .int .i64 8]) (.vals [.str (beB n 8), .int .i64 0]) := by
  refine Ct.of_V Try.func59 rfl (by simp [YtglpemnejngkaaaVm.ops, Try.f59]) ?_
  refine V.exec 400 ?_
  have h1 : ¬ (8 : Int) < 1 := by decide
  have h2 : ¬ (8 : Int) < 8 := by decide
  simp (config := {contextual := true}) only [go_sem, ↓reduceIte, reduceCtorEq, Bool.false_eq_true, Bool.true_eq_false, Nat.reduceAdd, Nat.reduceLT, Nat.reduceEqDiff, Nat.reduceLeDiff, Nat.reduceSub, Nat.reduceMul, Try.f59, h1, h2]
  refine V.loop (fun m ls os => ∃ (i : Nat), i ≤ 8 ∧ m = 8 - i ∧
        ls = [(0, .val (.int .u64 (n / 256 ^ i))), (1, .val (.int .i64 8)), (6, .val (.str (beB n i))), (7, .val (.int .i64 i))] ∧ os = []) 0 8
      [(0, .val (.int .u64 n)), (1, .val (.int .i64 8)), (6, .val (.str [])), (7, .val (.int .i64 0))] [] []
      ⟨0, Nat.zero_le _, rfl, by simp [beB], rfl⟩ (by simp only [go_sem, ↓reduceIte, reduceCtorEq, Bool.false_eq_true, Bool.true_eq_false, Nat.reduceAdd, Nat.reduceLT, Nat.reduceEqDiff, Nat.reduceLeDiff, Nat.reduceSub, Nat.reduceMul]) ?_
  rintro m ls os ⟨i, hi, rfl, rfl, rfl⟩
  refine V.exec 400 ?_
  by_cases hlt : i < 8
  · have hlt' : (i : Int) < 8 := by omega
    have hw : IntKind.i64.wrap ((i : Int) + 1) = ((i + 1 : Nat) : Int) := by rw [wrap_small3] <;> omega
    have hq0 : 0 ≤ n / 256 ^ i := Int.ediv_nonneg h0 (Int.le_of_lt (Int.pow_pos (by decide)))
    have hql : n / 256 ^ i ≤ n := Int.ediv_le_self _ h0
    have hmod : (n / 256 ^ i).tmod 256 = n / 256 ^ i % 256 := Int.tmod_eq_emod_of_nonneg hq0
    have hdiv : (n / 256 ^ i).tdiv 256 = n / 256 ^ (i + 1) := by
      rw [Int.tdiv_eq_ediv_of_nonneg hq0, Int.pow_succ, Int.ediv_ediv_of_nonneg (Int.le_of_lt (Int.pow_pos (by decide)))]
    have hqn : 0 ≤ n / 256 ^ (i + 1) := Int.ediv_nonneg h0 (Int.le_of_lt (Int.pow_pos (by decide)))
    have hqm : n / 256 ^ (i + 1) ≤ n := Int.ediv_le_self _ h0
    have hwq : IntKind.u64.wrap (n / 256 ^ (i + 1)) = n / 256 ^ (i + 1) := by rw [wrap_u64] <;> omega
    have hc8 : IntKind.u8.wrap (n / 256 ^ i % 256) = n / 256 ^ i % 256 := by simp [IntKind.wrap, IntKind.bits, IntKind.signed]
    have h256 : ¬ (256 : Int) = 0 := by decide
    have hbs := beB_succ n i
    have hbl := beB_len n i
    have hby : bytesOf [PV.int .u8 (n / 256 ^ i % 256)] = some [UInt8.ofNat (n / 256 ^ i % 256).toNat] := rfl
    simp (config := {contextual := true}) only [go_sem, ↓reduceIte, reduceCtorEq, Bool.false_eq_true, Bool.true_eq_false, Nat.reduceAdd, Nat.reduceLT, Nat.reduceEqDiff, Nat.reduceLeDiff, Nat.reduceSub, Nat.reduceMul, hlt', hw, hmod, hdiv, hwq, hc8, h256, hby, hbl, List.cons_append, ← hbs]
    exact ⟨by omega, 8 - (i + 1), _, [], [], by omega, ⟨i + 1, by omega, rfl, rfl, rfl⟩, by simp only [go_sem, ↓reduceIte, reduceCtorEq, Bool.false_eq_true, Bool.true_eq_false, Nat.reduceAdd, Nat.reduceLT, Nat.reduceEqDiff, Nat.reduceLeDiff, Nat.reduceSub, Nat.reduceMul]⟩
  · have hlt' : ¬ (i : Int) < 8 := by omega
    obtain rfl : i = 8 := by omega
    have hz : n / 256 ^ 8 = 0 := by omega
    have hz' : ¬ (0 : Int) < 0 := by decide
    simp (config := {contextual := true}) only [go_sem, ↓reduceIte, reduceCtorEq, Bool.false_eq_true, Bool.true_eq_false, Nat.reduceAdd, Nat.reduceLT, Nat.reduceEqDiff, Nat.reduceLeDiff, Nat.reduceSub, Nat.reduceMul, hlt', hz, hz']

theorem u64_wrap_lt (x : Int) : IntKind.u64.wrap x < 18446744073709551616 := by simp [IntKind.wrap, IntKind.bits, IntKind.signed]; omega

set_option maxHeartbeats 4000000 in
theorem ref09_Right (x : Note) : Ct Try.prog 35 (YtglpemnejngkaaaVm.ops [x.pv]) (.vals [.bool (decide x.ok)]) := by
  refine Ct.of_V Try.func35 rfl (by simp [YtglpemnejngkaaaVm.ops, Try.f35]) ?_
  refine V.exec 400 ?_
  simp (config := {contextual := true}) only [go_sem, ↓reduceIte, reduceCtorEq, Bool.false_eq_true, Bool.true_eq_false, Nat.reduceAdd, Nat.reduceLT, Nat.reduceEqDiff, Nat.reduceLeDiff, Nat.reduceSub, Nat.reduceMul, Try.f35, Note.pv]
  simp only [Option.some.injEq, List.cons.injEq, PV.bool.injEq, and_true]
  (repeat' (first | (intro _) | (refine ⟨by kernel_rfl, ?_⟩) | (apply And.intro)))
  all_goals grind [Note.ok]

def notesOk' (ns : List Note) : Prop := ∀ x ∈ ns, x.ok
instance instNotesOk' (ns : List Note) : Decidable (notesOk' ns) := by unfold notesOk'; infer_instance

set_option maxHeartbeats 4000000 in
theorem ref09_All (l : List Note) (hl : l.length ≤ 1000000) : Ct Try.prog 15 (YtglpemnejngkaaaVm.ops [.row (l.map Note.pv)]) (.vals [.bool (decide (notesOk' l))]) := by
  refine Ct.of_V Try.func15 rfl (by simp [YtglpemnejngkaaaVm.ops, Try.f15]) ?_
  refine V.exec 400 ?_
  simp (config := {contextual := true}) only [go_sem, ↓reduceIte, reduceCtorEq, Bool.false_eq_true, Bool.true_eq_false, Nat.reduceAdd, Nat.reduceLT, Nat.reduceEqDiff, Nat.reduceLeDiff, Nat.reduceSub, Nat.reduceMul, Try.f15]
  refine V.loop (fun m ls os => ∃ (i : Nat), i ≤ l.length ∧ m = l.length - i ∧ (∀ x ∈ l.take i, x.ok) ∧
        ls = [(0, .val (.row (l.map Note.pv))), (3, .val (.int .i64 i))] ∧ os = []) 0 l.length
      [(0, .val (.row (l.map Note.pv))), (3, .val (.int .i64 0))] [] []
      ⟨0, Nat.zero_le _, rfl, by simp, rfl, rfl⟩ (by simp only [go_sem, ↓reduceIte, reduceCtorEq, Bool.false_eq_true, Bool.true_eq_false, Nat.reduceAdd, Nat.reduceLT, Nat.reduceEqDiff, Nat.reduceLeDiff, Nat.reduceSub, Nat.reduceMul]) ?_
  rintro m ls os ⟨i, hi, rfl, hno, rfl, rfl⟩
  refine V.exec 400 ?_
  by_cases hlt : i < l.length
  · have hlt' : (i : Int) < (l.length : Int) := by omega
    obtain ⟨x, hx⟩ : ∃ x, l[i]? = some x := ⟨_, List.getElem?_eq_getElem hlt⟩
    have hw : IntKind.i64.wrap ((i : Int) + 1) = ((i + 1 : Nat) : Int) := by rw [wrap_small3] <;> omega
    simp (config := {contextual := true}) only [go_sem, ↓reduceIte, reduceCtorEq, Bool.false_eq_true, Bool.true_eq_false, Nat.reduceAdd, Nat.reduceLT, Nat.reduceEqDiff, Nat.reduceLeDiff, Nat.reduceSub, Nat.reduceMul, hlt', hx, Note.pv]
    refine V.call rfl rfl (by simp [dOK]) ⟨35, [], by simp only [go_sem, ↓reduceIte, reduceCtorEq, Bool.false_eq_true, Bool.true_eq_false, Nat.reduceAdd, Nat.reduceLT, Nat.reduceEqDiff, Nat.reduceLeDiff, Nat.reduceSub, Nat.reduceMul], ⟨_, rfl, rfl, rfl⟩, .inl ⟨[x.pv], _, .inl (by simp only [go_sem, ↓reduceIte, reduceCtorEq, Bool.false_eq_true, Bool.true_eq_false, Nat.reduceAdd, Nat.reduceLT, Nat.reduceEqDiff, Nat.reduceLeDiff, Nat.reduceSub, Nat.reduceMul, Note.pv]), ref09_Right x, .inl ⟨_, rfl, rfl, rfl, rfl⟩⟩⟩ ?_
    refine V.exec 400 ?_
    by_cases hk : x.ok
    · simp (config := {contextual := true}) only [go_sem, ↓reduceIte, reduceCtorEq, Bool.false_eq_true, Bool.true_eq_false, Nat.reduceAdd, Nat.reduceLT, Nat.reduceEqDiff, Nat.reduceLeDiff, Nat.reduceSub, Nat.reduceMul, hk, hw]
      refine ⟨l.length - (i + 1), _, [], [], by omega, ⟨i + 1, by omega, rfl, fun s hs => ?_, rfl, rfl⟩, by simp only [go_sem, ↓reduceIte, reduceCtorEq, Bool.false_eq_true, Bool.true_eq_false, Nat.reduceAdd, Nat.reduceLT, Nat.reduceEqDiff, Nat.reduceLeDiff, Nat.reduceSub, Nat.reduceMul]⟩
      rw [List.take_add_one, hx] at hs
      rcases List.mem_append.1 hs with hs | hs
      · exact hno s hs
      · simp at hs; rw [hs]; exact hk
    · have : ¬ notesOk' l := fun h => hk (h x (List.mem_of_getElem? hx))
      simp (config := {contextual := true}) only [go_sem, ↓reduceIte, reduceCtorEq, Bool.false_eq_true, Bool.true_eq_false, Nat.reduceAdd, Nat.reduceLT, Nat.reduceEqDiff, Nat.reduceLeDiff, Nat.reduceSub, Nat.reduceMul, hk, this]
  · have hlt' : ¬ (i : Int) < (l.length : Int) := by omega
    rw [List.take_of_length_le (by omega)] at hno
    have : notesOk' l := hno
    simp (config := {contextual := true}) only [go_sem, ↓reduceIte, reduceCtorEq, Bool.false_eq_true, Bool.true_eq_false, Nat.reduceAdd, Nat.reduceLT, Nat.reduceEqDiff, Nat.reduceLeDiff, Nat.reduceSub, Nat.reduceMul, hlt', this, decide_true]

set_option maxRecDepth 4000 in
set_option maxHeartbeats 8000000 in
theorem ref09_Done (v : List UInt8) (has : Bool) (l : List Note) (hl : l.length ≤ 1000000) : Ct Try.prog 48 (YtglpemnejngkaaaVm.ops [.str v, .bool (decide (has = true)), .row (l.map Note.pv)])
    (.vals [.str (doneV v has l).1, .bool (decide ((doneV v has l).2 = true))]) := by
  generalize hD : doneV v has l = D
  unfold doneV at hD
  refine Ct.of_V Try.func48 rfl (by simp [YtglpemnejngkaaaVm.ops, Try.f48]) ?_
  refine V.exec 400 ?_
  cases has
  all_goals simp only [Bool.false_eq_true, ↓reduceIte] at hD
  all_goals simp (config := {contextual := true}) only [go_sem, ↓reduceIte, reduceCtorEq, Bool.false_eq_true, Bool.true_eq_false, Nat.reduceAdd, Nat.reduceLT, Nat.reduceEqDiff, Nat.reduceLeDiff, Nat.reduceSub, Nat.reduceMul, Try.f48, decide_true, decide_false]
  all_goals refine V.loop (fun m ls os => ∃ (i : Nat) (u : List UInt8) (h : Bool), i ≤ l.length ∧ m = l.length - i ∧ (l.drop i).foldl doneOne (u, h) = D ∧ ls = [(0, .val (.str u)), (1, .val (.bool (decide (h = true)))), (2, .val (.row (l.map Note.pv))), (8, .val (.int .i64 i))] ∧ os = []) 0 l.length _ _ [] ⟨0, _, _, Nat.zero_le _, rfl, hD, rfl, rfl⟩ (by simp only [go_sem, ↓reduceIte, reduceCtorEq, Bool.false_eq_true, Bool.true_eq_false, Nat.reduceAdd, Nat.reduceLT, Nat.reduceEqDiff, Nat.reduceLeDiff, Nat.reduceSub, Nat.reduceMul, decide_true, decide_false]; try rfl) ?_
  all_goals rintro m ls os ⟨i, u, h, hi, rfl, hf, rfl, rfl⟩
  all_goals refine V.exec 400 ?_
  all_goals by_cases hlt : i < l.length
  case neg =>
    have hlt' : ¬ (i : Int) < (l.length : Int) := by omega
    have hd : l.drop i = [] := List.drop_eq_nil_of_le (by omega)
    rw [hd, List.foldl_nil] at hf
    subst hf
    simp (config := {contextual := true}) only [go_sem, ↓reduceIte, reduceCtorEq, Bool.false_eq_true, Bool.true_eq_false, Nat.reduceAdd, Nat.reduceLT, Nat.reduceEqDiff, Nat.reduceLeDiff, Nat.reduceSub, Nat.reduceMul, hlt']
  case neg =>
    have hlt' : ¬ (i : Int) < (l.length : Int) := by omega
    have hd : l.drop i = [] := List.drop_eq_nil_of_le (by omega)
    rw [hd, List.foldl_nil] at hf
    subst hf
    simp (config := {contextual := true}) only [go_sem, ↓reduceIte, reduceCtorEq, Bool.false_eq_true, Bool.true_eq_false, Nat.reduceAdd, Nat.reduceLT, Nat.reduceEqDiff, Nat.reduceLeDiff, Nat.reduceSub, Nat.reduceMul, hlt']
  all_goals
    have hlt' : (i : Int) < (l.length : Int) := by omega
    obtain ⟨x, hx⟩ : ∃ x, l[i]? = some x := ⟨_, List.getElem?_eq_getElem hlt⟩
    have hw : IntKind.i64.wrap ((i : Int) + 1) = ((i + 1 : Nat) : Int) := by rw [wrap_small3] <;> omega
    rw [drop_of_get hx, List.foldl_cons] at hf
    have h12 : ¬ (1 : Int) = 2 := by decide
    have h13 : ¬ (1 : Int) = 3 := by decide
    have h23 : ¬ (2 : Int) = 3 := by decide
    have h21 : ¬ (2 : Int) = 1 := by decide
    have h31 : ¬ (3 : Int) = 1 := by decide
    have h32 : ¬ (3 : Int) = 2 := by decide
    by_cases h1 : x.kind = 1
    · have e : doneOne (u, h) x = (x.value, true) := by simp [doneOne, h1]
      rw [e] at hf
      simp (config := {contextual := true}) only [go_sem, ↓reduceIte, reduceCtorEq, Bool.false_eq_true, Bool.true_eq_false, Nat.reduceAdd, Nat.reduceLT, Nat.reduceEqDiff, Nat.reduceLeDiff, Nat.reduceSub, Nat.reduceMul, hlt', hx, Note.pv, hw, h1, h12, h13]
      exact ⟨l.length - (i + 1), _, [], [], by omega, ⟨i + 1, _, _, by omega, rfl, hf, rfl, rfl⟩, by simp only [go_sem, ↓reduceIte, reduceCtorEq, Bool.false_eq_true, Bool.true_eq_false, Nat.reduceAdd, Nat.reduceLT, Nat.reduceEqDiff, Nat.reduceLeDiff, Nat.reduceSub, Nat.reduceMul, decide_true]⟩
    · by_cases h2 : x.kind = 2
      · have e : doneOne (u, h) x = ([], false) := by simp [doneOne, h2]
        rw [e] at hf
        simp (config := {contextual := true}) only [go_sem, ↓reduceIte, reduceCtorEq, Bool.false_eq_true, Bool.true_eq_false, Nat.reduceAdd, Nat.reduceLT, Nat.reduceEqDiff, Nat.reduceLeDiff, Nat.reduceSub, Nat.reduceMul, hlt', hx, Note.pv, hw, h2, h21, h23]
        exact ⟨l.length - (i + 1), _, [], [], by omega, ⟨i + 1, _, _, by omega, rfl, hf, rfl, rfl⟩, by simp only [go_sem, ↓reduceIte, reduceCtorEq, Bool.false_eq_true, Bool.true_eq_false, Nat.reduceAdd, Nat.reduceLT, Nat.reduceEqDiff, Nat.reduceLeDiff, Nat.reduceSub, Nat.reduceMul, decide_false]⟩
      · by_cases h3 : x.kind = 3
        · have e : doneOne (u, h) x = (beB (IntKind.u64.wrap (numV u + x.n)) 8, true) := by simp [doneOne, h3]
          rw [e] at hf
          have hn := ref01_Num _ (u64_wrap_nonneg (numV u + x.n)) (u64_wrap_lt (numV u + x.n))
          simp (config := {contextual := true}) only [go_sem, ↓reduceIte, reduceCtorEq, Bool.false_eq_true, Bool.true_eq_false, Nat.reduceAdd, Nat.reduceLT, Nat.reduceEqDiff, Nat.reduceLeDiff, Nat.reduceSub, Nat.reduceMul, hlt', hx, Note.pv, hw, h3, h31, h32]
          refine DV.call [] [] (by simp only [go_sem, ↓reduceIte, reduceCtorEq, Bool.false_eq_true, Bool.true_eq_false, Nat.reduceAdd, Nat.reduceLT, Nat.reduceEqDiff, Nat.reduceLeDiff, Nat.reduceSub, Nat.reduceMul]) (by simp [dOK]) ⟨60, [], by simp only [go_sem, ↓reduceIte, reduceCtorEq, Bool.false_eq_true, Bool.true_eq_false, Nat.reduceAdd, Nat.reduceLT, Nat.reduceEqDiff, Nat.reduceLeDiff, Nat.reduceSub, Nat.reduceMul], ⟨_, rfl, rfl, rfl⟩, .inl ⟨[.str u], _, .inl (by simp only [go_sem, ↓reduceIte, reduceCtorEq, Bool.false_eq_true, Bool.true_eq_false, Nat.reduceAdd, Nat.reduceLT, Nat.reduceEqDiff, Nat.reduceLeDiff, Nat.reduceSub, Nat.reduceMul]), ref09_Number u, .inl ⟨_, rfl, rfl, rfl, rfl⟩⟩⟩ (by simp only [go_sem, ↓reduceIte, reduceCtorEq, Bool.false_eq_true, Bool.true_eq_false, Nat.reduceAdd, Nat.reduceLT, Nat.reduceEqDiff, Nat.reduceLeDiff, Nat.reduceSub, Nat.reduceMul]) (by simp only [go_sem, ↓reduceIte, reduceCtorEq, Bool.false_eq_true, Bool.true_eq_false, Nat.reduceAdd, Nat.reduceLT, Nat.reduceEqDiff, Nat.reduceLeDiff, Nat.reduceSub, Nat.reduceMul]) (by simp only [go_sem, ↓reduceIte, reduceCtorEq, Bool.false_eq_true, Bool.true_eq_false, Nat.reduceAdd, Nat.reduceLT, Nat.reduceEqDiff, Nat.reduceLeDiff, Nat.reduceSub, Nat.reduceMul]) (by simp) ?_
          refine DV.exec 400 ?_
          simp (config := {contextual := true}) only [go_sem, ↓reduceIte, reduceCtorEq, Bool.false_eq_true, Bool.true_eq_false, Nat.reduceAdd, Nat.reduceLT, Nat.reduceEqDiff, Nat.reduceLeDiff, Nat.reduceSub, Nat.reduceMul, hlt', hx, Note.pv]
          refine DV.call [] [] (by simp only [go_sem, ↓reduceIte, reduceCtorEq, Bool.false_eq_true, Bool.true_eq_false, Nat.reduceAdd, Nat.reduceLT, Nat.reduceEqDiff, Nat.reduceLeDiff, Nat.reduceSub, Nat.reduceMul]) (by simp [dOK]) ⟨59, [], by simp only [go_sem, ↓reduceIte, reduceCtorEq, Bool.false_eq_true, Bool.true_eq_false, Nat.reduceAdd, Nat.reduceLT, Nat.reduceEqDiff, Nat.reduceLeDiff, Nat.reduceSub, Nat.reduceMul], ⟨_, rfl, rfl, rfl⟩, .inl ⟨[.int .u64 (IntKind.u64.wrap (numV u + x.n)), .int .i64 8], _, .inl (by simp only [go_sem, ↓reduceIte, reduceCtorEq, Bool.false_eq_true, Bool.true_eq_false, Nat.reduceAdd, Nat.reduceLT, Nat.reduceEqDiff, Nat.reduceLeDiff, Nat.reduceSub, Nat.reduceMul]), hn, .inr (.inl ⟨_, rfl, rfl, rfl⟩)⟩⟩ (by simp only [go_sem, ↓reduceIte, reduceCtorEq, Bool.false_eq_true, Bool.true_eq_false, Nat.reduceAdd, Nat.reduceLT, Nat.reduceEqDiff, Nat.reduceLeDiff, Nat.reduceSub, Nat.reduceMul]) (by simp only [go_sem, ↓reduceIte, reduceCtorEq, Bool.false_eq_true, Bool.true_eq_false, Nat.reduceAdd, Nat.reduceLT, Nat.reduceEqDiff, Nat.reduceLeDiff, Nat.reduceSub, Nat.reduceMul]) (by simp only [go_sem, ↓reduceIte, reduceCtorEq, Bool.false_eq_true, Bool.true_eq_false, Nat.reduceAdd, Nat.reduceLT, Nat.reduceEqDiff, Nat.reduceLeDiff, Nat.reduceSub, Nat.reduceMul]) (by simp) ?_
          refine DV.exec 400 ?_
          simp (config := {contextual := true}) only [go_sem, ↓reduceIte, reduceCtorEq, Bool.false_eq_true, Bool.true_eq_false, Nat.reduceAdd, Nat.reduceLT, Nat.reduceEqDiff, Nat.reduceLeDiff, Nat.reduceSub, Nat.reduceMul, hw]
          (repeat' (first | (intro _) | (refine ⟨by kernel_rfl, ?_⟩) | (apply And.intro)))
          exact ⟨l.length - (i + 1), _, [], [], by omega, ⟨i + 1, _, _, by omega, rfl, hf, rfl, rfl⟩, by simp only [go_sem, ↓reduceIte, reduceCtorEq, Bool.false_eq_true, Bool.true_eq_false, Nat.reduceAdd, Nat.reduceLT, Nat.reduceEqDiff, Nat.reduceLeDiff, Nat.reduceSub, Nat.reduceMul, decide_true]⟩
        · have e : doneOne (u, h) x = (u, h) := by simp [doneOne, h1, h2, h3]
          rw [e] at hf
          simp (config := {contextual := true}) only [go_sem, ↓reduceIte, reduceCtorEq, Bool.false_eq_true, Bool.true_eq_false, Nat.reduceAdd, Nat.reduceLT, Nat.reduceEqDiff, Nat.reduceLeDiff, Nat.reduceSub, Nat.reduceMul, hlt', hx, Note.pv, hw, h1, h2, h3]
          exact ⟨l.length - (i + 1), _, [], [], by omega, ⟨i + 1, _, _, by omega, rfl, hf, rfl, rfl⟩, by simp only [go_sem, ↓reduceIte, reduceCtorEq, Bool.false_eq_true, Bool.true_eq_false, Nat.reduceAdd, Nat.reduceLT, Nat.reduceEqDiff, Nat.reduceLeDiff, Nat.reduceSub, Nat.reduceMul]⟩
end Go.Proofs.Ytglpemnejngkaaa
