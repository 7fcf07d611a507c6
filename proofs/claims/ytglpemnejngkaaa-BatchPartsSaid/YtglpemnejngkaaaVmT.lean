/- What comes in, taken as plain values. -/
import Derived.Test.YtglpemnejngkaaaVmS
import Derived.ChangeArms
import Derived.DataElems
import Derived.Below
set_option linter.unusedVariables false
set_option linter.unusedSimpArgs false
namespace Go.Proofs.YtglpemnejngkaaaVm
open Go Go.RowKit Classical

def fsOK (P : Program) (K : TypeId → Bool) : Nat → List Field → Option Nat
  | o, [] => some o
  | o, f :: fs => if f.offset = o ∧ K f.type = true then fsOK P K (o + P.cellsOf f.type) fs else none
/-- Types of bools, numbers, texts, structs and slices of such. -/
def tyOK (P : Program) : Nat → TypeId → Bool
  | 0, _ => false
  | d + 1, t => match P.underlying t with
    | some .bool | some (.int _) | some .string => P.cellsOf t == 1 && aggOf P t == some false
    | some (.slice e) => P.cellsOf t == 1 && aggOf P t == some false && tyOK P d e && decide (0 < P.cellsOf e)
    | some (.struct fs) => fsOK P (tyOK P d) 0 fs.toList == some (P.cellsOf t) && aggOf P t == some true
    | _ => false

def PFs (P : Program) (T : TypeId → List PV → Prop) : List Field → List PV → Prop
  | [], ps => ps = []
  | f :: fs, ps => T f.type (ps.take (P.cellsOf f.type)) ∧ PFs P T fs (ps.drop (P.cellsOf f.type))
/-- Cells that read as a value of a type. -/
def PTy (P : Program) : Nat → TypeId → List PV → Prop
  | 0, _, _ => False
  | d + 1, t, ps => match P.underlying t with
    | some .bool => ∃ b, ps = [.bool b]
    | some (.int k) => ∃ n, ps = [.int k n] ∧ (Lit.int k n).wf = true
    | some .string => ∃ l, ps = [.str l] ∧ l.length ≤ maxLen
    | some (.slice e) => ∃ xs, ps = [.row xs] ∧ xs.length ≤ maxLen ∧ ∀ x ∈ xs, PTy P d e x.cells ∧ aggOf P e = some x.isAgg
    | some (.struct fs) => PFs P (PTy P d) fs.toList ps
    | _ => False

section
variable {P : Program} {w : World}

abbrev Fw (w : World) : Nat → Prop := fun b => b < w.heap.size

def Opens (P : Program) (w : World) (d : Nat) (t : TypeId) (cs : List Value) : Prop :=
  ∃ ps, Reps w (Fw w) ps cs ∧ PTy P d t ps ∧ (∀ p ∈ ps, p.isAgg = false) ∧ ps.length = P.cellsOf t

theorem opens_fields {d : Nat} {cs : List Value} {K : TypeId → Bool} : ∀ (fs : List Field) (o T : Nat), fsOK P K o fs = some T → o ≤ cs.length → cs.length = T →
    (∀ f ∈ fs, Opens P w d f.type ((cs.drop f.offset).take (P.cellsOf f.type))) → ∃ ps, Reps w (Fw w) ps (cs.drop o) ∧ PFs P (PTy P d) fs ps ∧ ∀ p ∈ ps, p.isAgg = false := by
  intro fs
  induction fs with
  | nil =>
    intro o T h ho hl _
    simp only [fsOK, Option.some.injEq] at h
    have : cs.drop o = [] := List.drop_eq_nil_of_le (by omega)
    rw [this]
    exact ⟨[], Reps.nil _ _, rfl, by simp⟩
  | cons f fs ih =>
    intro o T h ho hl hf
    simp only [fsOK] at h
    split at h
    · rename_i hc
      obtain ⟨rfl, hK⟩ := hc
      obtain ⟨ps, h1, h2, h3, h4⟩ := hf f (by simp)
      have hlen : ((cs.drop f.offset).take (P.cellsOf f.type)).length = P.cellsOf f.type := by rw [h1.1, h4]
      have ho2 : f.offset + P.cellsOf f.type ≤ cs.length := by
        simp only [List.length_take, List.length_drop] at hlen; omega
      obtain ⟨qs, g1, g2, g3⟩ := ih (f.offset + P.cellsOf f.type) T h ho2 hl (fun f' hf' => hf f' (List.mem_cons_of_mem _ hf'))
      refine ⟨ps ++ qs, ?_, ⟨?_, ?_⟩, fun p hp => ?_⟩
      · have := h1.append g1
        rw [← List.drop_drop, List.take_append_drop] at this
        exact this
      · rw [List.take_append_of_le_length (by omega), List.take_of_length_le (by omega)]; exact h2
      · rw [List.drop_append_of_le_length (by omega), List.drop_eq_nil_of_le (by omega), List.nil_append]; exact g2
      · rcases List.mem_append.1 hp with hp | hp
        · exact h3 p hp
        · exact g3 p hp
    · cases h

theorem fsOK_mem {K : TypeId → Bool} : ∀ (fs : List Field) (o T : Nat), fsOK P K o fs = some T → ∀ f ∈ fs, K f.type = true := by
  intro fs
  induction fs with
  | nil => intro o T _ f hf; simp at hf
  | cons g fs ih =>
    intro o T h f hf
    simp only [fsOK] at h
    split at h
    · rename_i hc
      rcases List.mem_cons.1 hf with rfl | hf
      · exact hc.2
      · exact ih _ _ h f hf
    · cases h

theorem open_trod {H : Type} {enc : TypeId × Value → H} {spare : Nat → Bool} {held : Bool} : ∀ (d fuel : Nat) (t : TypeId) (cs : List Value) (x : DataW H × List MemPlace), tyOK P d t = true →
    DataW.trod enc P w 0 spare held fuel t cs = some x → Opens P w d t cs := by
  intro d
  induction d with
  | zero => intro fuel t cs x h; cases h
  | succ d ih =>
    intro fuel t cs x h hx
    simp only [tyOK] at h
    split at h
    · rename_i hu
      simp only [Bool.and_eq_true, beq_iff_eq] at h
      obtain ⟨b, rfl, _⟩ := DataW.trod_bool hu hx
      exact ⟨[.bool b], Reps.cons (.bool b) (Reps.nil _ _), by simp only [PTy, hu]; exact ⟨b, rfl⟩, by simp [PV.isAgg], h.1.symm⟩
    · rename_i k hu
      simp only [Bool.and_eq_true, beq_iff_eq] at h
      obtain ⟨n, rfl, _, hw⟩ := DataW.trod_int hu hx
      exact ⟨[.int k n], Reps.cons (.int k n) (Reps.nil _ _), by simp only [PTy, hu]; exact ⟨n, rfl, hw⟩, by simp [PV.isAgg], h.1.symm⟩
    · rename_i hu
      simp only [Bool.and_eq_true, beq_iff_eq] at h
      obtain ⟨s, rfl, _, hw⟩ := DataW.trod_string hu hx
      obtain ⟨⟨l⟩⟩ := s
      exact ⟨[.str l], Reps.cons (.str l) (Reps.nil _ _), by simp only [PTy, hu]; exact ⟨l, rfl, hw⟩, by simp [PV.isAgg], h.1.symm⟩
    · rename_i e hu
      simp only [Bool.and_eq_true, beq_iff_eq, decide_eq_true_eq] at h
      obtain ⟨⟨⟨hc1, hag⟩, hte⟩, hpos⟩ := h
      rcases DataW.trod_slice hu hx with ⟨rfl, _⟩ | ⟨a, len, cap, elems, rest, n, _, rfl, _, hb, hlc, hcm, hel, hget, _⟩
      · exact ⟨[.row []], Reps.cons .rowNil (Reps.nil _ _), by simp only [PTy, hu]; exact ⟨[], rfl, by simp, by simp⟩, by simp [PV.isAgg], hc1.symm⟩
      · have hage : ∃ ag, aggOf P e = some ag ∧ (ag = false → P.cellsOf e = 1) := by
          cases d with
          | zero => cases hte
          | succ d =>
            simp only [tyOK] at hte
            split at hte
            · simp only [Bool.and_eq_true, beq_iff_eq] at hte; exact ⟨false, hte.2, fun _ => hte.1⟩
            · simp only [Bool.and_eq_true, beq_iff_eq] at hte; exact ⟨false, hte.2, fun _ => hte.1⟩
            · simp only [Bool.and_eq_true, beq_iff_eq] at hte; exact ⟨false, hte.2, fun _ => hte.1⟩
            · simp only [Bool.and_eq_true, beq_iff_eq] at hte; exact ⟨false, hte.1.1.2, fun _ => hte.1.1.1⟩
            · simp only [Bool.and_eq_true, beq_iff_eq] at hte; exact ⟨true, hte.2, fun e => by cases e⟩
            · cases hte
        obtain ⟨ag, hage, hone⟩ := hage
        have main : ∀ m, m ≤ len → ∃ (xs : List PV) (cv : List Value), xs.length = m ∧ (∀ x ∈ xs, x.cells.length = P.cellsOf e) ∧ (∀ x ∈ xs, PTy P d e x.cells ∧ aggOf P e = some x.isAgg) ∧ Reps w (Fw w) (flat xs) cv ∧ (∀ c ∈ flat xs, c.isAgg = false) ∧
            (∀ (j : Nat) (v : Value), cv[j]? = some v → w.cell? (a.add j) = some v) ∧ cv.length = m * P.cellsOf e ∧ (0 < m → a.block < w.heap.size) := by
          intro m
          induction m with
          | zero => intro _; exact ⟨[], [], rfl, by simp, by simp, by simpa [flat] using Reps.nil _ _, by simp [flat], by simp, by simp, by omega⟩
          | succ m ihm =>
            intro hm
            obtain ⟨xs, cv, q1, q2, q3, q4, q5, q6, q7, _⟩ := ihm (by omega)
            have hg := hget m (by omega)
            have hlt : m < elems.length := by omega
            rw [List.getElem?_eq_getElem hlt, Option.bind_eq_some_iff] at hg
            obtain ⟨cs', hcs, htr⟩ := hg
            obtain ⟨ps, p1, p2, p3, p4⟩ := ih n e cs' _ hte htr
            obtain ⟨_, hcl, hcell⟩ := World.cells?_some hcs
            obtain ⟨y, hy, hyag⟩ : ∃ y : PV, y.cells = ps ∧ y.isAgg = ag := by
              cases ag with
              | true => exact ⟨.agg ps, rfl, rfl⟩
              | false =>
                have := hone rfl
                match ps, p4, p3 with
                | [p], _, p3 =>
                  have hp := p3 p (by simp)
                  refine ⟨p, ?_, hp⟩
                  cases p <;> first | rfl | simp [PV.isAgg] at hp
                | [], h0, _ => simp at h0; omega
                | _ :: _ :: _, h0, _ => simp at h0; omega
            have hfl : flat (xs ++ [y]) = flat xs ++ ps := by rw [flat_append]; simp [flat, hy]
            refine ⟨xs ++ [y], cv ++ cs', by simp [q1], fun x hx => ?_, fun x hx => ?_, by rw [hfl]; exact q4.append p1, fun c hc => ?_, fun j v hj => ?_, ?_, fun _ => ?_⟩
            · rcases List.mem_append.1 hx with hx | hx
              · exact q2 x hx
              · simp at hx; subst hx; rw [hy, p4]
            · rcases List.mem_append.1 hx with hx | hx
              · exact q3 x hx
              · simp at hx; subst hx; rw [hy]; exact ⟨p2, by rw [hage, hyag]⟩
            · rw [hfl] at hc
              rcases List.mem_append.1 hc with hc | hc
              · exact q5 c hc
              · exact p3 c hc
            · rcases Nat.lt_or_ge j cv.length with h | h
              · rw [List.getElem?_append_left h] at hj; exact q6 j v hj
              · rw [List.getElem?_append_right h] at hj
                have hjl : j - cv.length < P.cellsOf e := by rw [← hcl]; exact (List.getElem?_eq_some_iff.1 hj).1
                have := hcell (j - cv.length) hjl
                rw [Addr.add_add, hj] at this
                rw [show m * P.cellsOf e + (j - cv.length) = j by omega] at this
                exact this
            · rw [List.length_append, q7, hcl, Nat.add_mul, Nat.one_mul]
            · have h0 := hcell 0 hpos
              have h1 : cs'[0]? = some cs'[0] := List.getElem?_eq_getElem (by omega)
              rw [h1, Addr.add_add] at h0
              have := block_lt_of_cell h0
              rwa [add_block] at this
        obtain ⟨xs, cv, q1, q2, q3, q4, q5, q6, q7, q8⟩ := main len (Nat.le_refl _)
        refine ⟨[.row xs], Reps.cons ?_ (Reps.nil _ _), by simp only [PTy, hu]; exact ⟨xs, rfl, by omega, q3⟩, by simp [PV.isAgg], hc1.symm⟩
        rw [← q1]
        refine .row xs a cap (P.cellsOf e) cv (by omega) q2 ?_ q4.1 q6 q5 q4.2
        cases xs with
        | nil => exact .inl rfl
        | cons x xs => exact .inr (q8 (by simp at q1; omega))
    · rename_i fs hu
      simp only [Bool.and_eq_true, beq_iff_eq] at h
      obtain ⟨xs, n, _, _, hl, hxl, hget⟩ := DataW.trod_struct hu hx
      have hfs : ∀ f ∈ fs.toList, Opens P w d f.type ((cs.drop f.offset).take (P.cellsOf f.type)) := by
        intro f hf
        obtain ⟨i, hi⟩ := List.getElem?_of_mem hf
        have hi' : fs[i]? = some f := by simpa using hi
        have hg := hget i f hi'
        have hlt : i < xs.length := by rw [hxl]; exact (Array.getElem?_eq_some_iff.1 hi').1
        rw [List.getElem?_eq_getElem hlt] at hg
        exact ih n f.type _ _ (fsOK_mem fs.toList 0 _ h.1 f hf) hg
      obtain ⟨ps, h1, h2, h3⟩ := opens_fields (cs := cs) fs.toList 0 (P.cellsOf t) h.1 (Nat.zero_le _) hl hfs
      rw [List.drop_zero] at h1
      exact ⟨ps, h1, by simp only [PTy, hu]; exact h2, h3, by rw [← h1.1, hl]⟩
    · cases h

/-- Numbers of their kinds, texts that memory bears. -/
def PV.wfv : PV → Prop
  | .int k n => (Lit.int k n).wf = true
  | .str l => l.length ≤ maxLen
  | _ => True

theorem cellsOf_sz {t : TypeId} {n : Nat} (h : szOf P t = some n) : P.cellsOf t = n := by
  unfold szOf at h
  simp [Program.cellsOf, h]

theorem PTy.kinds : ∀ (d : Nat) (t : TypeId) (ps : List PV), PTy P d t ps → ∀ (d' : Nat) (ks : List KD), eqK P d' t = some ks → ps.map PV.kd = ks ∧ ∀ p ∈ ps, p.wfv := by
  intro d
  induction d with
  | zero => intro t ps h; exact h.elim
  | succ d ih =>
    intro t ps h d' ks hk
    cases d' with
    | zero => cases hk
    | succ d' =>
      simp only [PTy] at h
      simp only [eqK] at hk
      split at h
      · rename_i hu
        rw [hu] at hk
        obtain rfl := Option.some.inj hk
        obtain ⟨b, rfl⟩ := h
        exact ⟨rfl, by simp [PV.wfv]⟩
      · rename_i k hu
        rw [hu] at hk
        obtain rfl := Option.some.inj hk
        obtain ⟨n, rfl, hw⟩ := h
        exact ⟨rfl, by simpa [PV.wfv] using hw⟩
      · rename_i hu
        rw [hu] at hk
        obtain rfl := Option.some.inj hk
        obtain ⟨l, rfl, hw⟩ := h
        exact ⟨rfl, by simpa [PV.wfv] using hw⟩
      · rename_i e hu
        rw [hu] at hk
        cases hk
      · rename_i fs hu
        rw [hu] at hk
        simp only at hk
        split at hk
        · cases hk
        · have key : ∀ (fs : List Field) (o : Nat) (ps : List PV) (r : List KD), PFs P (PTy P d) fs ps → eqFs P (eqK P d') o fs = some r → ps.map PV.kd = r ∧ ∀ p ∈ ps, p.wfv := by
            intro fs
            induction fs with
            | nil =>
              intro o ps r h hk
              simp only [eqFs, Option.some.injEq] at hk
              obtain rfl : ps = [] := h
              subst hk
              exact ⟨rfl, by simp⟩
            | cons f fs ihf =>
              intro o ps r h hk
              obtain ⟨h1, h2⟩ := h
              simp only [eqFs] at hk
              split at hk
              · cases hk
              · split at hk
                · rename_i ks' hks
                  split at hk
                  · rename_i hsz
                    split at hk
                    · rename_i r' hr'
                      obtain rfl := Option.some.inj hk
                      obtain ⟨a1, a2⟩ := ih f.type _ h1 d' ks' hks
                      obtain ⟨b1, b2⟩ := ihf _ _ _ h2 hr'
                      refine ⟨?_, fun p hp => ?_⟩
                      · rw [← a1, ← b1, ← List.map_append, List.take_append_drop]
                      · rw [← List.take_append_drop (P.cellsOf f.type) ps] at hp
                        rcases List.mem_append.1 hp with hp | hp
                        · exact a2 p hp
                        · exact b2 p hp
                    · cases hk
                  · cases hk
                · cases hk
          exact key fs.toList 0 ps ks h hk
      · exact h.elim

/-- Opened at the type of a slice. -/
theorem Opens.slice {d : Nat} {t e : TypeId} {cs : List Value} {ks : List KD} {d' : Nat} (h : Opens P w (d + 1) t cs) (hu : P.underlying t = some (.slice e)) (hk : eqK P d' e = some ks) (hag : aggOf P e = some true) :
    ∃ xs : List PV, Reps w (Fw w) [.row xs] cs ∧ xs.length ≤ maxLen ∧ ∀ x ∈ xs, ∃ qs, x = .agg qs ∧ qs.map PV.kd = ks ∧ ∀ q ∈ qs, q.wfv := by
  obtain ⟨ps, h1, h2, h3, h4⟩ := h
  simp only [PTy, hu] at h2
  obtain ⟨xs, rfl, hl, hx⟩ := h2
  refine ⟨xs, h1, hl, fun x hxm => ?_⟩
  obtain ⟨g1, g2⟩ := hx x hxm
  rw [hag] at g2
  obtain ⟨k1, k2⟩ := PTy.kinds d e _ g1 d' ks hk
  cases x with
  | agg qs => exact ⟨qs, rfl, k1, k2⟩
  | _ => cases g2

/-- Opened at the type of a struct. -/
theorem Opens.struct {d : Nat} {t : TypeId} {cs : List Value} {ks : List KD} {d' : Nat} (h : Opens P w d t cs) (hk : eqK P d' t = some ks) : ∃ qs, Reps w (Fw w) qs cs ∧ qs.map PV.kd = ks ∧ (∀ q ∈ qs, q.wfv) ∧ ∀ q ∈ qs, q.isAgg = false := by
  obtain ⟨ps, h1, h2, h3, h4⟩ := h
  obtain ⟨k1, k2⟩ := PTy.kinds d t ps h2 d' ks hk
  exact ⟨ps, h1, k1, k2, h3⟩

/-- A list of values of one form. -/
theorem map_of {α : Type} {f : α → PV} {Q : PV → Prop} (hQ : ∀ x, Q x → ∃ a, x = f a) : ∀ (xs : List PV), (∀ x ∈ xs, Q x) → ∃ l : List α, xs = l.map f := by
  intro xs
  induction xs with
  | nil => intro _; exact ⟨[], rfl⟩
  | cons x xs ih =>
    intro h
    obtain ⟨a, rfl⟩ := hQ x (h x (by simp))
    obtain ⟨l, rfl⟩ := ih (fun y hy => h y (List.mem_cons_of_mem _ hy))
    exact ⟨a :: l, rfl⟩

/-- A law, out of its contract: called, it says true, and what was stays. -/
theorem Ct.law {f : FuncId} {ps : List PV} {vs : List Value} {w : World} (h : Ct P f (ops ps) (.vals [.bool true])) (hr : Reps w (Fw w) ps vs) :
    Calls P f ⟨vs⟩ w fun e w' => e = .returned (.bool true) ∧ Below w.heap.size w w' := by
  refine (h w (Fw w) vs (fun b hb => hb) (argsRep_ops hr)).mono fun e w' hh => ?_
  obtain ⟨v, rfl, ho⟩ := hh
  obtain ⟨us, rfl, hus⟩ := ho.res
  refine ⟨?_, ho.os, ho.tape, ho.output, ho.size, fun k hk => ho.old k hk given_ops⟩
  match us, hus with
  | [u], hus =>
    have := (hus.tail).1
    cases this
    rfl

end
end Go.Proofs.YtglpemnejngkaaaVm
