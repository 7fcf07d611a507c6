/- '==' on struct types, out of what the types are. -/
import Derived.Test.YtglpemnejngkaaaVmN
import Derived.Laws.StructEq
set_option linter.unusedVariables false
set_option linter.unusedSimpArgs false
namespace Go.Proofs.YtglpemnejngkaaaVm
open Go Classical

def eqFs (P : Program) (K : TypeId → Option (List KD)) : Nat → List Field → Option (List KD)
  | _, [] => some []
  | o, f :: fs => if (f.name == "_") = true ∨ f.offset ≠ o then none else match K f.type with
    | some ks => if szOf P f.type = some ks.length then match eqFs P K (o + ks.length) fs with
      | some r => some (ks ++ r)
      | none => none else none
    | none => none
/-- The kinds of a type's cells, if '==' on it is '==' on them. -/
def eqK (P : Program) : Nat → TypeId → Option (List KD)
  | 0, _ => none
  | d + 1, t => match P.underlying t with
    | some (.int k) => some [.int k]
    | some .bool => some [.bool]
    | some .string => some [.str]
    | some (.struct fs) => if P.stoodInHeld t = true then none else eqFs P (eqK P d) 0 fs.toList
    | _ => none

def wrapV (ag : Bool) (vs : List Value) : Value := if ag = true then .agg ⟨vs⟩ else vs.headD undef

section
variable {P : Program}

def EqOK (P : Program) (t : TypeId) (d : Nat) (ks : List KD) : Prop :=
  ∃ ag, aggOf P t = some ag ∧ (ag = false → ks.length = 1) ∧ ∀ (D : Nat) (w : World) (F : Nat → Prop) (ps qs : List PV) (vs us : List Value), d ≤ D → Reps w F ps vs → Reps w F qs us → ps.map PV.kd = ks → qs.map PV.kd = ks →
    (Op.equalIn D t (wrapV ag vs) (wrapV ag us)).run P w = .ok (decide (ps = qs)) w

theorem one_of_map {ps : List PV} {k : KD} (h : ps.map PV.kd = [k]) : ∃ p, ps = [p] ∧ p.kd = k := by
  match ps, h with
  | [p], h => exact ⟨p, rfl, by simpa using h⟩

theorem reps_one {w : World} {F : Nat → Prop} {p : PV} {vs : List Value} (h : Reps w F [p] vs) : ∃ v, vs = [v] ∧ Rep w F p v := by
  match vs, h with
  | [v], h => exact ⟨v, rfl, h.tail.1⟩
  | [], h => cases h.1
  | _ :: _ :: _, h => cases h.1

theorem run_part_wrap {t : TypeId} {ag : Bool} {n : Nat} {w : World} {vs : List Value} {o : Nat} (hag : aggOf P t = some ag) (hn : szOf P t = some n) (h1 : ag = false → n = 1) (hl : o + n ≤ vs.length) :
    (part t ⟨vs⟩ o).run P w = .ok (wrapV ag ((vs.drop o).take n)) w := by
  cases ag
  · obtain rfl := h1 rfl
    have hv : vs[o]? = some vs[o] := List.getElem?_eq_getElem (by omega)
    have e : (vs.drop o).take 1 = [vs[o]] := by
      rw [List.take_one, List.head?_drop, hv]; rfl
    simp [part, run_isAgg hag, hv, wrapV, e]
  · simp [part, run_isAgg hag, run_sizeOf hn, wrapV]
    

theorem eqFs_ok {K : TypeId → Option (List KD)} {d D : Nat} (hK : ∀ t ks, K t = some ks → EqOK P t d ks) (hD : d ≤ D) {w : World} {F : Nat → Prop} {ps qs : List PV} {vs us : List Value} (hp : Reps w F ps vs) (hq : Reps w F qs us) :
    ∀ (fs : List Field) (o : Nat) (r : List KD), eqFs P K o fs = some r → (ps.drop o).map PV.kd = r → (qs.drop o).map PV.kd = r → o ≤ ps.length → o ≤ qs.length →
    (Op.eqFields D ⟨vs⟩ ⟨us⟩ fs).run P w = .ok (decide (ps.drop o = qs.drop o)) w := by
  intro fs
  induction fs with
  | nil =>
    intro o r h h1 h2 _ _
    simp only [eqFs, Option.some.injEq] at h
    subst h
    have e1 : ps.drop o = [] := by simpa using h1
    have e2 : qs.drop o = [] := by simpa using h2
    simp [Op.eqFields, e1, e2]
  | cons f fs ih =>
    intro o r h h1 h2 l1 l2
    simp only [eqFs] at h
    split at h
    · cases h
    rename_i hno
    have hname : f.name ≠ "_" := fun e => hno (.inl (by simp [e]))
    have hoff : f.offset = o := Classical.byContradiction fun e => hno (.inr e)
    split at h
    · rename_i ks hks
      split at h
      · rename_i hsz
        split at h
        · rename_i r' hr'
          obtain rfl := Option.some.inj h
          obtain ⟨ag, hag, hone, heq⟩ := hK _ _ hks
          have n1 : ks.length ≤ (ps.drop o).length := by have := congrArg List.length h1; simp at this ⊢; omega
          have n2 : ks.length ≤ (qs.drop o).length := by have := congrArg List.length h2; simp at this ⊢; omega
          have m1 : o + ks.length ≤ ps.length := by simp at n1; omega
          have m2 : o + ks.length ≤ qs.length := by simp at n2; omega
          have a1 : ((ps.drop o).take ks.length).map PV.kd = ks := by rw [List.map_take, h1]; simp
          have a2 : ((qs.drop o).take ks.length).map PV.kd = ks := by rw [List.map_take, h2]; simp
          have b1 : (ps.drop (o + ks.length)).map PV.kd = r' := by rw [← List.drop_drop, List.map_drop, h1]; simp
          have b2 : (qs.drop (o + ks.length)).map PV.kd = r' := by rw [← List.drop_drop, List.map_drop, h2]; simp
          have hh := heq D w F _ _ _ _ hD ((hp.drop o).take ks.length) ((hq.drop o).take ks.length) a1 a2
          have ht := ih (o + ks.length) r' hr' b1 b2 m1 m2
          have p1 := run_part_wrap (P := P) (w := w) (vs := vs) (o := o) hag hsz hone (by rw [hp.1]; exact m1)
          have p2 := run_part_wrap (P := P) (w := w) (vs := us) (o := o) hag hsz hone (by rw [hq.1]; exact m2)
          have key : (ps.drop o = qs.drop o) ↔ ((ps.drop o).take ks.length = (qs.drop o).take ks.length ∧ ps.drop (o + ks.length) = qs.drop (o + ks.length)) := by
            rw [← List.drop_drop, ← List.drop_drop]
            constructor
            · intro e; rw [e]; exact ⟨rfl, rfl⟩
            · rintro ⟨e1, e2⟩
              rw [← List.take_append_drop ks.length (ps.drop o), ← List.take_append_drop ks.length (qs.drop o), e1, e2]
          simp only [Op.eqFields, ne_eq, hname, not_false_eq_true, if_true, Sem.run_bind, hoff, p1, p2, Result.andThen_ok, hh]
          by_cases hc : (ps.drop o).take ks.length = (qs.drop o).take ks.length
          · simp only [hc, decide_true, Bool.not_true, Bool.false_eq_true, if_false, ht, key, true_and]
          · simp only [hc, decide_false, Bool.not_false, if_true, key, false_and, Sem.run_pure]
        · cases h
      · cases h
    · cases h

theorem eqK_ok : ∀ (d : Nat) (t : TypeId) (ks : List KD), eqK P d t = some ks → EqOK P t d ks := by
  intro d
  induction d with
  | zero => intro t ks h; cases h
  | succ d ih =>
    intro t ks h
    simp only [eqK] at h
    split at h
    · rename_i k hu
      obtain rfl := Option.some.inj h
      refine ⟨false, by simp [aggOf, hu], fun _ => rfl, fun D w F ps qs vs us hD hp hq e1 e2 => ?_⟩
      obtain ⟨p, rfl, hpk⟩ := one_of_map e1
      obtain ⟨q, rfl, hqk⟩ := one_of_map e2
      obtain ⟨v, rfl, hv⟩ := reps_one hp
      obtain ⟨u, rfl, hu'⟩ := reps_one hq
      obtain ⟨D, rfl⟩ : ∃ D', D = D' + 1 := ⟨D - 1, by omega⟩
      cases hv <;> simp [PV.kd] at hpk
      cases hu' <;> simp [PV.kd] at hqk
      subst hpk; subst hqk
      simp only [wrapV, Bool.false_eq_true, if_false, List.headD_cons]
      rw [run_equalIn_int w D t _ _ _ _ hu]
      simp [beq_decide]
    · rename_i hu
      obtain rfl := Option.some.inj h
      refine ⟨false, by simp [aggOf, hu], fun _ => rfl, fun D w F ps qs vs us hD hp hq e1 e2 => ?_⟩
      obtain ⟨p, rfl, hpk⟩ := one_of_map e1
      obtain ⟨q, rfl, hqk⟩ := one_of_map e2
      obtain ⟨v, rfl, hv⟩ := reps_one hp
      obtain ⟨u, rfl, hu'⟩ := reps_one hq
      obtain ⟨D, rfl⟩ : ∃ D', D = D' + 1 := ⟨D - 1, by omega⟩
      cases hv <;> simp [PV.kd] at hpk
      cases hu' <;> simp [PV.kd] at hqk
      simp only [wrapV, Bool.false_eq_true, if_false, List.headD_cons]
      rw [run_equalIn_bool' w D t _ _ hu]
      simp [beq_decide]
    · rename_i hu
      obtain rfl := Option.some.inj h
      refine ⟨false, by simp [aggOf, hu], fun _ => rfl, fun D w F ps qs vs us hD hp hq e1 e2 => ?_⟩
      obtain ⟨p, rfl, hpk⟩ := one_of_map e1
      obtain ⟨q, rfl, hqk⟩ := one_of_map e2
      obtain ⟨v, rfl, hv⟩ := reps_one hp
      obtain ⟨u, rfl, hu'⟩ := reps_one hq
      obtain ⟨D, rfl⟩ : ∃ D', D = D' + 1 := ⟨D - 1, by omega⟩
      cases hv <;> simp [PV.kd] at hpk
      cases hu' <;> simp [PV.kd] at hqk
      simp only [wrapV, Bool.false_eq_true, if_false, List.headD_cons]
      rw [run_equalIn_string w D t _ _ hu, bytes_toList, bytes_toList]
      simp [beq_decide]
    · rename_i fs hu
      split at h
      · cases h
      rename_i hst
      refine ⟨true, by simp [aggOf, hu], fun e => (by cases e), fun D w F ps qs vs us hD hp hq e1 e2 => ?_⟩
      obtain ⟨D, rfl⟩ : ∃ D', D = D' + 1 := ⟨D - 1, by omega⟩
      have hf : P.fieldsOf t = fs := by simp [Program.fieldsOf, hu]
      simp only [wrapV, if_true]
      rw [run_equalIn_struct w D t _ _ (by rw [hf]; exact hu) (by simpa using hst), hf]
      have := eqFs_ok (P := P) (K := eqK P d) (d := d) (D := D) ih (by omega) hp hq fs.toList 0 ks h (by simpa using e1) (by simpa using e2) (Nat.zero_le _) (Nat.zero_le _)
      simpa using this
    · cases h

theorem EqT.of {t : TypeId} {ks : List KD} (h : eqK P 20 t = some ks) (hag : aggOf P t = some true) (hg : P.eqGuardType P.depth t = false) : EqT P t ks := by
  obtain ⟨ag, h1, _, h2⟩ := eqK_ok 20 t ks h
  rw [hag] at h1
  obtain rfl := Option.some.inj h1
  intro w F x y ps qs vs us hp hq e1 e2
  have := h2 10000 w F ps qs vs us (by omega) hp hq e1 e2
  simp only [wrapV, if_true] at this
  constructor
  · simp only [Sem.run_bind, run_eqGuard_agg w .eql t x y _ _ hg, Result.andThen_ok, run_eql_struct, this]
  · simp only [Sem.run_bind, run_eqGuard_agg w .neq t x y _ _ hg, Result.andThen_ok, run_neq_struct, this]

end
end Go.Proofs.YtglpemnejngkaaaVm
