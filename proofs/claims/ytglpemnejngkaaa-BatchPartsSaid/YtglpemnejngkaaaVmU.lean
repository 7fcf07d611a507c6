/- A call inside a region whose order is drawn. -/
import Derived.Test.YtglpemnejngkaaaVmT
set_option linter.unusedVariables false
namespace Go.Proofs.YtglpemnejngkaaaVm
open Go Go.Proofs
variable {P : Program} {n : Nat} {R : St → Prop} {σ : St} {k : List It}

theorem lk_call {all : List Oper} {d t p af g fx xs ts} : lk all { dst := d, op := .call { callee := .value fx, args := xs, argTypes := ts }, type := t, pos := p, after := af, guard := g } = tms (fx :: xs.toList) ++ gsl all g := by
  unfold lk
  congr 1
  simp [Op.operands, Call.operands]
theorem DV.call {all : List Oper} {b i : Nat} {d t p af g fx xs ts} {rest : List Oper} {aM aW : List (List Nat)} {ck : Nat} (M W : List Nat) {σ' : St} {v : AV}
    (hg : runs σ all { dst := d, op := .call { callee := .value fx, args := xs, argTypes := ts }, type := t, pos := p, after := af, guard := g } = some true) (hd : dOK n d)
    (hc : CallStep P (σ.restr (tms (fx :: xs.toList) ++ gsl all g) M (b + i)) (b + i)
      ((σ.restr (tms (fx :: xs.toList) ++ gsl all g) M (b + i)).ev fx)
      ((σ.restr (tms (fx :: xs.toList) ++ gsl all g) M (b + i)).evs xs.toList) σ' v)
    (h1 : Chg (σ.restr (tms (fx :: xs.toList) ++ gsl all g) M (b + i)) σ' W)
    (h2 : mok σ (tms (fx :: xs.toList) ++ gsl all g) (b + i) v)
    (h3 : pln σ' W) (h4 : ∀ k, k ∈ W → k ∈ M ∨ k = b + i)
    (h : DV P n R all b (i + 1) rest (aM ++ [M]) (aW ++ [W]) ck k (σ.patch (σ'.put d v) W d)) :
    DV P n R all b i ({ dst := d, op := .call { callee := .value fx, args := xs, argTypes := ts }, type := t, pos := p, after := af, guard := g } :: rest) aM aW ck k σ := by
  rw [← lk_call (all := all) (d := d) (t := t) (p := p) (af := af) (ts := ts)] at *
  refine DV.op M W (.call (by rw [runs_restr]; exact hg) rfl hd hc) (Within.of h1 h2 h3 h4) h
theorem slt_nil (a : List UInt8) : ¬ slt a [] := by cases a <;> simp [slt, strLt, Op.bytesLess]
theorem nil_slt (a : UInt8) (x : List UInt8) : slt [] (a :: x) := by simp [slt, strLt, Op.bytesLess]
theorem slt_cons (a b : UInt8) (x y : List UInt8) : slt (a :: x) (b :: y) ↔ a < b ∨ (a = b ∧ slt x y) := by simp [slt, strLt, Op.bytesLess]
theorem slt_irrefl : ∀ a : List UInt8, ¬ slt a a
  | [] => slt_nil _
  | a :: x => fun h => by
    rcases (slt_cons a a x x).1 h with h | h
    · exact absurd h (UInt8.lt_irrefl a)
    · exact slt_irrefl x h.2
theorem slt_trans : ∀ {a b c : List UInt8}, slt a b → slt b c → slt a c
  | a, b, [], _, h => absurd h (slt_nil b)
  | [], _, c :: z, _, _ => nil_slt c z
  | a :: x, [], c :: z, h, _ => absurd h (slt_nil _)
  | a :: x, b :: y, c :: z, h, g => by
    rw [slt_cons] at *
    rcases h with h | ⟨rfl, h⟩
    · rcases g with g | ⟨rfl, g⟩
      · exact .inl (UInt8.lt_trans h g)
      · exact .inl h
    · rcases g with g | ⟨rfl, g⟩
      · exact .inl g
      · exact .inr ⟨rfl, slt_trans h g⟩
theorem slt_total : ∀ (a b : List UInt8), slt a b ∨ a = b ∨ slt b a
  | [], [] => .inr (.inl rfl)
  | [], b :: y => .inl (nil_slt b y)
  | a :: x, [] => .inr (.inr (nil_slt a x))
  | a :: x, b :: y => by
    rw [slt_cons, slt_cons]
    rcases UInt8.lt_or_lt_of_ne (a := a) (b := b) |> fun h => (Decidable.em (a = b)).imp_right h with rfl | h | h
    · rcases slt_total x y with h | rfl | h
      · exact .inl (.inr ⟨rfl, h⟩)
      · exact .inr (.inl rfl)
      · exact .inr (.inr (.inr ⟨rfl, h⟩))
    · exact .inl (.inl h)
    · exact .inr (.inr (.inl h))
theorem slt_asymm {a b : List UInt8} (h : slt a b) : ¬ slt b a := fun g => slt_irrefl a (slt_trans h g)
/-- A row of the call's own, handed back as a plain one. -/
theorem Ct.forget {P : Program} {f : FuncId} {args : List Arg} {e : TypeId} {xs : List PV} (h : Ct P f args (.own e xs)) : Ct P f args (.vals [.row xs]) := fun w F vs hF ha =>
  (h w F vs hF ha).mono fun ev w' ⟨v, hv, ho⟩ => ⟨v, hv, ⟨ho.os, ho.tape, ho.output, ho.size, ho.old,
    ⟨[v], rfl, Reps.cons (rep_of_ownRow ho.res.1 (fun b hb => hb.1) (fun b hb => .inr (ho.res.2 b hb))) (Reps.nil _ _)⟩⟩⟩
theorem Opens.str {P : Program} {w : World} {d : Nat} {t : TypeId} {cs : List Value} (h : Opens P w (d + 1) t cs) (hu : P.underlying t = some .string) : ∃ l, Reps w (Fw w) [.str l] cs := by
  obtain ⟨ps, h1, h2, h3, h4⟩ := h
  simp only [PTy, hu] at h2
  obtain ⟨l, rfl, hl⟩ := h2
  exact ⟨l, h1⟩
theorem Reps.toAgg {w : World} {F : Nat → Prop} {qs : List PV} {cs : List Value} (h : Reps w F qs cs) (ha : ∀ q ∈ qs, q.isAgg = false) : Rep w F (.agg qs) (.agg ⟨cs⟩) :=
  .agg qs cs h.1 ha h.2
def ixS (σ : St) : Option TypeDesc → AV → AV → Option (St × AV)
  | some .string, .val (.str l), .val (.int _ n) => if 0 ≤ n then match l[n.toNat]? with
    | some c => some (σ, .val (.int .u8 c.toNat))
    | none => none else none
  | _, _, _ => none
def ixc (σ : St) : Option UInt8 → Option (St × AV)
  | some c => some (σ, .val (.int .u8 c.toNat))
  | none => none
theorem step_index {i t x j} : stepOp P σ i (.index t x j) = ixS σ (P.underlying t) (σ.ev x) (σ.ev j) := rfl
theorem ixS_str {l k n} : ixS σ (some .string) (.val (.str l)) (.val (.int k n)) = if 0 ≤ n then ixc σ l[n.toNat]? else none := rfl
theorem ixc_some {c} : ixc σ (some c) = some (σ, .val (.int .u8 c.toNat)) := rfl
open Classical in
theorem slice_str_hi {t s k n} : stSlice P σ t (.val (.str s)) none (some (.val (.int k n))) = if 0 ≤ n ∧ n ≤ s.length ∧ P.underlying t = some .string then some (σ, .val (.str (s.take n.toNat))) else none := rfl
open Classical in
theorem slice_str_lo {t s k n} : stSlice P σ t (.val (.str s)) (some (.val (.int k n))) none = if 0 ≤ n ∧ n ≤ s.length ∧ P.underlying t = some .string then some (σ, .val (.str (s.drop n.toNat))) else none := rfl
open Classical in
theorem slice_str_both {t s k m k' n} : stSlice P σ t (.val (.str s)) (some (.val (.int k m))) (some (.val (.int k' n))) = if 0 ≤ m ∧ m ≤ n ∧ n ≤ s.length ∧ P.underlying t = some .string then some (σ, .val (.str ((s.take n.toNat).drop m.toNat))) else none := rfl
def mk1 (P : Program) (σ : St) (i : Nat) (n m : Int) : Option TypeId → Option (St × AV)
  | some e => match szOf P e, byOf P e, zeroOf P e with
    | some sz, some nb, some [z] => match z.pure? with
      | some p => if sz = 1 ∧ m = n ∧ 0 ≤ n ∧ nb * n.toNat ≤ 281474976710656 ∧ n ≤ 4611686018427387904 ∧ z.cell = true ∧ σ.isFree i = true then some (σ.setOb i (.row e (List.replicate n.toNat p)), .ref i) else none
      | none => none
    | _, _, _ => none
  | none => none
def mk2 (σ : St) (i : Nat) (e : TypeId) (n m : Int) : Option Nat → Option Nat → Option (List AV) → Option (St × AV)
  | some sz, some nb, some [z] => match z.pure? with
      | some p => if sz = 1 ∧ m = n ∧ 0 ≤ n ∧ nb * n.toNat ≤ 281474976710656 ∧ n ≤ 4611686018427387904 ∧ z.cell = true ∧ σ.isFree i = true then some (σ.setOb i (.row e (List.replicate n.toNat p)), .ref i) else none
      | none => none
  | _, _, _ => none
theorem make_eq {i t k n k' m} : stMake P σ i t (.val (.int k n)) (.val (.int k' m)) = mk1 P σ i n m (elOf P t) := by
  unfold stMake mk1
  cases elOf P t <;> rfl
theorem mk1_some {i n m e} : mk1 P σ i n m (some e) = mk2 σ i e n m (szOf P e) (byOf P e) (zeroOf P e) := rfl
theorem mk2_some {i e n m sz nb p} : mk2 σ i e n m (some sz) (some nb) (some [.val p]) = if sz = 1 ∧ m = n ∧ 0 ≤ n ∧ nb * n.toNat ≤ 281474976710656 ∧ n ≤ 4611686018427387904 ∧ p.isAgg = false ∧ σ.isFree i = true then some (σ.setOb i (.row e (List.replicate n.toNat p)), .ref i) else none := by
  cases h : p.isAgg <;> simp [mk2, AV.pure?, AV.cell, h]
theorem mk2_nils {i e n m sz nb} : mk2 σ i e n m (some sz) (some nb) (some [.nils]) = if sz = 1 ∧ m = n ∧ 0 ≤ n ∧ nb * n.toNat ≤ 281474976710656 ∧ n ≤ 4611686018427387904 ∧ σ.isFree i = true then some (σ.setOb i (.row e (List.replicate n.toNat (PV.row []))), .ref i) else none := by
  simp [mk2, AV.pure?, AV.cell]
attribute [go_sem] make_eq mk1_some mk2_some mk2_nils
theorem bin_shr1 {t k k' x} : binPV P .shr t (.int k x) (.int k' 1) = some (.int k (x / 2)) := by
  have hb : min (1 : Nat) k.bits = 1 := by cases k <;> rfl
  simp [binPV, hb]
attribute [go_sem high] bin_shr1
theorem exec_dres_choose {m : Nat} {sp : List Nat} {c : Prop} [Decidable c] {e1 e2 M W S dst all b i rest aM aW ck} : exec P n R sp (m + 1) (.dres (choose2 c e1 e2) M W S dst all b i rest aM aW ck k) σ =
    ((c → exec P n R sp (m + 1) (.dres e1 M W S dst all b i rest aM aW ck k) σ) ∧ (¬c → exec P n R sp (m + 1) (.dres e2 M W S dst all b i rest aM aW ck k) σ)) := by
  by_cases h : c <;> simp [h, choose2]
attribute [go_sem] exec_dres_choose
attribute [go_sem] step_index ixS_str ixc_some slice_str_hi slice_str_lo slice_str_both
attribute [go_sem] List.range_zero List.nil_append true_implies
end Go.Proofs.YtglpemnejngkaaaVm
