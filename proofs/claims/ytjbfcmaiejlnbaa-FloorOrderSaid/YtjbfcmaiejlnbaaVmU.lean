/- A call inside a region whose order is drawn. -/
import Derived.Test.YtjbfcmaiejlnbaaVmT
set_option linter.unusedVariables false
namespace Go.Proofs.YtjbfcmaiejlnbaaVm
open Go Go.Proofs
variable {P : Program} {n : Nat} {R : St → Prop} {σ : St} {k : List It}

theorem lk_call {all : List Oper} {d t p af g fx xs ts} : lk all { dst := d, op := .call { callee := .value fx, args := xs, argTypes := ts }, type := t, pos := p, after := af, guard := g } = tms (fx :: xs.toList) ++ gsl all g := by
  unfold lk
  congr 1
  simp [Op.operands, Call.operands]
theorem DV.call {all : List Oper} {b i : Nat} {d t p af g fx xs ts} {rest : List Oper} {aM aW : List (List Nat)} {ck : Nat} (M W : List Nat) {σ' : St} {v : AV}
    (hg : runs σ all { dst := d, op := .call { callee := .value fx, args := xs, argTypes := ts }, type := t, pos := p, after := af, guard := g } = some true) (hd : dOK n d)
    (hc : CallStep P (σ.restr (tms (fx :: xs.toList) ++ gsl all g) M (b + i)) (b + i)
      ((σ.restr (tms (fx :: xs.toList) ++ gsl all g) M (b + i)).ev fx)
      ((σ.restr (tms (fx :: xs.toList) ++ gsl all g) M (b + i)).evs xs.toList) σ' v)
    (h1 : Chg (σ.restr (tms (fx :: xs.toList) ++ gsl all g) M (b + i)) σ' W)
    (h2 : mok σ (tms (fx :: xs.toList) ++ gsl all g) (b + i) v)
    (h3 : pln σ' W) (h4 : ∀ k, k ∈ W → k ∈ M ∨ k = b + i)
    (h : DV P n R all b (i + 1) rest (aM ++ [M]) (aW ++ [W]) ck k (σ.patch (σ'.put d v) W d)) :
    DV P n R all b i ({ dst := d, op := .call { callee := .value fx, args := xs, argTypes := ts }, type := t, pos := p, after := af, guard := g } :: rest) aM aW ck k σ := by
  rw [← lk_call (all := all) (d := d) (t := t) (p := p) (af := af) (ts := ts)] at *
  refine DV.op M W (.call (by rw [runs_restr]; exact hg) rfl hd hc) (Within.of h1 h2 h3 h4) h
theorem slt_nil (a : List UInt8) : ¬ slt a [] := by cases a <;> simp [slt, strLt, Op.bytesLess]
theorem nil_slt (a : UInt8) (x : List UInt8) : slt [] (a :: x) := by simp [slt, strLt, Op.bytesLess]
theorem slt_cons (a b : UInt8) (x y : List UInt8) : slt (a :: x) (b :: y) ↔ a < b ∨ (a = b ∧ slt x y) := by simp [slt, strLt, Op.bytesLess]
theorem slt_irrefl : ∀ a : List UInt8, ¬ slt a a
  | [] => slt_nil _
  | a :: x => fun h => by
    rcases (slt_cons a a x x).1 h with h | h
    · exact absurd h (UInt8.lt_irrefl a)
    · exact slt_irrefl x h.2
theorem slt_trans : ∀ {a b c : List UInt8}, slt a b → slt b c → slt a c
  | a, b, [], _, h => absurd h (slt_nil b)
  | [], _, c :: z, _, _ => nil_slt c z
  | a :: x, [], c :: z, h, _ => absurd h (slt_nil _)
  | a :: x, b :: y, c :: z, h, g => by
    rw [slt_cons] at *
    rcases h with h | ⟨rfl, h⟩
    · rcases g with g | ⟨rfl, g⟩
      · exact .inl (UInt8.lt_trans h g)
      · exact .inl h
    · rcases g with g | ⟨rfl, g⟩
      · exact .inl g
      · exact .inr ⟨rfl, slt_trans h g⟩
theorem slt_total : ∀ (a b : List UInt8), slt a b ∨ a = b ∨ slt b a
  | [], [] => .inr (.inl rfl)
  | [], b :: y => .inl (nil_slt b y)
  | a :: x, [] => .inr (.inr (nil_slt a x))
  | a :: x, b :: y => by
    rw [slt_cons, slt_cons]
    rcases UInt8.lt_or_lt_of_ne (a := a) (b := b) |> fun h => (Decidable.em (a = b)).imp_right h with rfl | h | h
    · rcases slt_total x y with h | rfl | h
      · exact .inl (.inr ⟨rfl, h⟩)
      · exact .inr (.inl rfl)
      · exact .inr (.inr (.inr ⟨rfl, h⟩))
    · exact .inl (.inl h)
    · exact .inr (.inr (.inl h))
theorem slt_asymm {a b : List UInt8} (h : slt a b) : ¬ slt b a := fun g => slt_irrefl a (slt_trans h g)
theorem Reps.toAgg {w : World} {F : Nat → Prop} {qs : List PV} {cs : List Value} (h : Reps w F qs cs) (ha : ∀ q ∈ qs, q.isAgg = false) : Rep w F (.agg qs) (.agg ⟨cs⟩) :=
  .agg qs cs h.1 ha h.2
attribute [go_sem] List.range_zero List.nil_append true_implies
end Go.Proofs.YtjbfcmaiejlnbaaVm
