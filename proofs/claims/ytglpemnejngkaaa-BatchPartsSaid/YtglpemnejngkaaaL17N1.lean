/- A part of a proof: functions of the program, walked. -/
import Derived.Test.YtglpemnejngkaaaL17Base
set_option linter.unusedVariables false
set_option linter.unusedSimpArgs false
namespace Go.Proofs.Ytglpemnejngkaaa
open Go Go.Proofs Go.Proofs.YtglpemnejngkaaaVm Go.Proofs.Ytglpemnejngkaaa.Ty

structure Note where
  kind : Int
  key : List UInt8
  value : List UInt8
  n : Int
  deriving DecidableEq
def Note.pv (x : Note) : PV := .agg [.int .i64 x.kind, .str x.key, .str x.value, .int .u64 x.n]
/-- Is it a note? -/
def Note.ok (x : Note) : Prop := x.key.length ≤ 16 ∧ x.value.length ≤ 32 ∧ ((x.kind = 1 ∧ x.n = 0) ∨ (x.kind = 2 ∧ x.n = 0 ∧ x.value = []) ∨ (x.kind = 3 ∧ x.value = []))
instance Note.instOk (x : Note) : Decidable x.ok := by unfold Note.ok; infer_instance

set_option maxHeartbeats 4000000 in
theorem note_Right (x : Note) : Ct Try.prog 34 (YtglpemnejngkaaaVm.ops [x.pv]) (.vals [.bool (decide x.ok)]) := by
  refine Ct.of_V Try.func34 rfl (by simp [YtglpemnejngkaaaVm.ops, Try.f34]) ?_
  refine V.exec 400 ?_
  simp (config := {contextual := true}) only [go_sem, ↓reduceIte, reduceCtorEq, Bool.false_eq_true, Bool.true_eq_false, Nat.reduceAdd, Nat.reduceLT, Nat.reduceEqDiff, Nat.reduceLeDiff, Nat.reduceSub, Nat.reduceMul, Try.f34, Note.pv]
  simp only [Option.some.injEq, List.cons.injEq, PV.bool.injEq, and_true]
  (repeat' (first | (intro _) | (refine ⟨by kernel_rfl, ?_⟩) | (apply And.intro)))
  all_goals grind [Note.ok]

theorem wrap_u64 {n : Int} (h : 0 ≤ n) (h' : n < 18446744073709551616) : IntKind.u64.wrap n = n := by
  simp [IntKind.wrap, IntKind.bits, IntKind.signed]; omega
/-- Bytes, as a number. -/
def beN (l : List UInt8) : Int := l.foldl (fun n b => n * 256 + (b.toNat : Int)) 0
theorem beN_snoc (l : List UInt8) (b : UInt8) : beN (l ++ [b]) = beN l * 256 + (b.toNat : Int) := by simp [beN]
theorem beN_acc : ∀ (l : List UInt8) (a : Int), 0 ≤ a → 0 ≤ l.foldl (fun n b => n * 256 + (b.toNat : Int)) a ∧ l.foldl (fun n b => n * 256 + (b.toNat : Int)) a < (a + 1) * 256 ^ l.length
  | [], a, h => by simp; omega
  | b :: r, a, h => by
    have hb := b.toNat_lt
    obtain ⟨h1, h2⟩ := beN_acc r (a * 256 + (b.toNat : Int)) (by omega)
    refine ⟨h1, Int.lt_of_lt_of_le h2 ?_⟩
    rw [List.length_cons, Int.pow_succ, Int.mul_comm (256 ^ r.length), ← Int.mul_assoc]
    exact Int.mul_le_mul_of_nonneg_right (by omega) (Int.le_of_lt (Int.pow_pos (by decide)))
theorem beN_nonneg (l : List UInt8) : 0 ≤ beN l := (beN_acc l 0 (by decide)).1
theorem beN_lt (l : List UInt8) : beN l < 256 ^ l.length := by have := (beN_acc l 0 (by decide)).2; simpa [beN] using this
theorem or_byte {n : Int} (h0 : 0 ≤ n) (h1 : n < 72057594037927936) (b : UInt8) :
    IntKind.u64.wrap (orI .u64 (n * 256) (b.toNat : Int)) = n * 256 + (b.toNat : Int) := by
  obtain ⟨m, rfl⟩ : ∃ m : Nat, n = m := ⟨n.toNat, by omega⟩
  have hb := b.toNat_lt
  have e1 : BitVec.ofInt 64 ((m : Int) * 256) = BitVec.ofNat 64 (m * 256) := by
    rw [show (m : Int) * 256 = ((m * 256 : Nat) : Int) by omega, BitVec.ofInt_natCast]
  have e2 : BitVec.ofInt 64 (b.toNat : Int) = BitVec.ofNat 64 b.toNat := by
    rw [BitVec.ofInt_natCast]
  have e3 : (BitVec.ofNat 64 (m * 256) ||| BitVec.ofNat 64 b.toNat : BitVec 64).toNat = m * 256 + b.toNat := by
    rw [BitVec.toNat_or, BitVec.toNat_ofNat, BitVec.toNat_ofNat, Nat.mod_eq_of_lt (by omega), Nat.mod_eq_of_lt (by omega)]
    have := Nat.shiftLeft_add_eq_or_of_lt (b := b.toNat) (i := 8) (by omega) m
    rw [Nat.shiftLeft_eq] at this
    exact this.symm
  show IntKind.u64.wrap ((BitVec.ofInt 64 ((m : Int) * 256) ||| BitVec.ofInt 64 (b.toNat : Int) : BitVec 64).toNat : Int) = _
  rw [e1, e2, e3]
  have h3 : (0 : Int) ≤ ((m * 256 + b.toNat : Nat) : Int) := by omega
  have h4 : ((m * 256 + b.toNat : Nat) : Int) < 18446744073709551616 := by omega
  rw [IntKind.wrap]
  simp [IntKind.bits, IntKind.signed]
  omega
/-- A number, as so many bytes. -/
def beB (n : Int) (k : Nat) : List UInt8 := (List.range k).map fun j => UInt8.ofNat (n / 256 ^ (k - 1 - j) % 256).toNat
theorem beB_len (n : Int) (k : Nat) : (beB n k).length = k := by simp [beB]
theorem beB_succ (n : Int) (k : Nat) : beB n (k + 1) = UInt8.ofNat (n / 256 ^ k % 256).toNat :: beB n k := by
  unfold beB
  rw [List.range_succ_eq_map, List.map_cons, List.map_map]
  congr 1
  apply List.map_congr_left
  intro j hj
  have := List.mem_range.1 hj
  simp only [Function.comp]
  rw [show k + 1 - 1 - (j + 1) = k - 1 - j by omega]
end Go.Proofs.Ytglpemnejngkaaa
