/- How objects come, turn, and are let go. -/
import Derived.Test.YtglpemnejngkaaaVmB
set_option linter.unusedVariables false
set_option linter.unusedSimpArgs false
namespace Go.Proofs.YtglpemnejngkaaaVm
open Go

theorem blkOf_ownBlock {v : Value} {b : Nat} (h : v.ownBlock = some b) : blkOf v = some b := by
  cases v with
  | slice x n c => cases x <;> simp_all [Value.ownBlock, blkOf]
  | _ => simp [Value.ownBlock] at h

section
variable {P : Program} {C : Ctx} {σ : St} {a : Act} {w : World} {cv : Nat → Value}

/-- A new object, in a new block. -/
theorem Rel.new (h : Rel P C σ a w cv) (i : Nat) (hfree : σ.ob i = .free) (o : Ob) (arr : List Value) (ty : TypeId) (v : Value)
    (hb : blkOf v = some w.heap.size) (hl : o.live = true)
    (hrep : ∀ (F' : Nat → Prop) (cv' : Nat → Value), (∀ b, FS C σ.ob cv w b → F' b) → cv' i = v → (∀ j, j ≠ i → cv' j = cv j) → ObRep P (w.alloc (.cells ⟨arr⟩ ty)) F' cv' i o)
    (hm : ∀ j, o.ment j → σ.ob j ≠ .free) (hmi : ¬ o.ment i) :
    Rel P C (σ.setOb i o) a (w.alloc (.cells ⟨arr⟩ ty)) (fun j => if j = i then v else cv j) := by
  have hsame : ∀ k, k < w.heap.size → (w.alloc (.cells ⟨arr⟩ ty)).heap[k]? = w.heap[k]? := fun k hk => heap_alloc_old w _ k hk
  have hliv : ∀ j b, Live (σ.setOb i o).ob (fun j => if j = i then v else cv j) j b → (j = i ∧ b = w.heap.size) ∨ (j ≠ i ∧ Live σ.ob cv j b) := by
    intro j b hlb
    obtain ⟨h1, h2⟩ := hlb
    by_cases e : j = i
    · subst e
      simp only [if_true] at h2
      rw [hb] at h2
      exact .inl ⟨rfl, (Option.some.inj h2).symm⟩
    · simp only [St.setOb, if_neg e] at h1 h2
      exact .inr ⟨e, h1, h2⟩
  refine h.upd rfl rfl rfl (by simp) (fun k hk _ => hsame k (by have := h.size; omega)) ?_ ?_ ?_ ?_ ?_ ?_ ?_ ?_
  · intro j b hlb
    rcases hliv j b hlb with ⟨rfl, rfl⟩ | ⟨_, hl'⟩
    · exact ⟨.inl h.size, by simp⟩
    · have := h.live j b hl'; exact ⟨this.1, by have := this.2; simp; omega⟩
  · intro j k b h1 h2
    rcases hliv j b h1 with ⟨rfl, rfl⟩ | ⟨e1, h1'⟩ <;> rcases hliv k _ h2 with ⟨rfl, hb2⟩ | ⟨e2, h2'⟩
    · rfl
    · have := (h.live k _ h2').2; omega
    · have := (h.live j b h1').2; omega
    · exact h.inj j k b h1' h2'
  · intro b hbF; exact hsame b (h.fs_lt hbF)
  · intro j b hbF hlb
    rcases hliv j b hlb with ⟨rfl, rfl⟩ | ⟨_, hl'⟩
    · have := h.fs_lt hbF; omega
    · exact h.fs_live hbF hl'
  · intro hF j
    by_cases e : j = i
    · subst e
      simp only [St.setOb, if_true]
      exact hrep _ _ hF (by simp) (fun k hk => by simp [hk])
    · simp only [St.setOb, if_neg e]
      refine (h.obs j).mono (fun b hbF => hsame b (h.fs_lt hbF)) hF (by simp [e]) (fun k hk => ?_) (fun hlj b hjb => hsame b (h.live j b ⟨hlj, hjb⟩).2)
      have := h.mento j k hk
      have hk' : k ≠ i := fun e' => this (e' ▸ hfree)
      simp [hk']
  · intro j hj
    have : j ≠ i := fun e => hj (e ▸ hfree)
    simp [this]
  · intro j hj
    by_cases e : j = i
    · subst e; exact hfree
    · simpa [St.setOb, e] using hj
  · intro j k hk
    have hi : (σ.setOb i o).ob i ≠ .free := by simp only [St.setOb, if_true]; intro e; rw [e] at hl; simp [Ob.live] at hl
    by_cases e : j = i
    · subst e
      simp only [St.setOb, if_true] at hk
      by_cases e2 : k = j
      · subst e2; exact hi
      · simp only [St.setOb, if_neg e2]; exact hm k hk
    · simp only [St.setOb, if_neg e] at hk
      by_cases e2 : k = i
      · subst e2; exact hi
      · simp only [St.setOb, if_neg e2]; exact h.mento j k hk

/-- An object turns in its own block, or is let go; or comes to lie in a new block. -/
theorem Rel.mod (h : Rel P C σ a w cv) (i : Nat) (hli : (σ.ob i).live = true) (o : Ob) (ho : o ≠ .free) {w' : World} {row : Option Nat} (hg : w.grownBy w' row)
    (hrow : ∀ b, row = some b → blkOf (cv i) = some b)
    (hrep : ∀ F', (∀ b, FS C σ.ob cv w b → F' b) → ((o.live = false → ∀ b, blkOf (cv i) = some b → F' b)) → Same (FS C σ.ob cv w) w w' → ObRep P w' F' cv i o)
    (hm : ∀ j, o.ment j → σ.ob j ≠ .free) :
    Rel P C (σ.setOb i o) a w' cv := by
  have hsame : ∀ k, k < w.heap.size → blkOf (cv i) ≠ some k → w'.heap[k]? = w.heap[k]? := fun k hk hne => hg.block k hk (fun e => hne (hrow k e.symm))
  have hliv : ∀ j b, Live (σ.setOb i o).ob cv j b → Live σ.ob cv j b := by
    intro j b hlb
    obtain ⟨h1, h2⟩ := hlb
    by_cases e : j = i
    · subst e; exact ⟨hli, h2⟩
    · simp only [St.setOb, if_neg e] at h1; exact ⟨h1, h2⟩
  have hSame : Same (FS C σ.ob cv w) w w' := fun b hbF => hsame b (h.fs_lt hbF) (fun e => h.fs_live hbF ⟨hli, e⟩)
  refine h.upd hg.os hg.tape hg.output hg.size ?_ ?_ ?_ hSame ?_ ?_ (fun _ _ => rfl) ?_ ?_
  · intro k hk hO
    refine hsame k (by have := h.size; omega) (fun e => ?_)
    rcases (h.live i k ⟨hli, e⟩).1 with h1 | h1
    · omega
    · exact hO h1
  · intro j b hlb
    have := h.live j b (hliv j b hlb)
    exact ⟨this.1, by have := this.2; have := hg.size; omega⟩
  · intro j k b h1 h2; exact h.inj j k b (hliv j b h1) (hliv k b h2)
  · intro j b hbF hlb; exact h.fs_live hbF (hliv j b hlb)
  · intro hF j
    by_cases e : j = i
    · subst e
      simp only [St.setOb, if_true]
      refine hrep _ hF (fun hlo b hb => ?_) hSame
      refine .inr ⟨(h.live j b ⟨hli, hb⟩).1, by have := (h.live j b ⟨hli, hb⟩).2; have := hg.size; omega, fun k hk => ?_⟩
      have hkj := h.inj k j b (hliv k b hk) ⟨hli, hb⟩
      subst hkj
      have := hk.1
      simp [St.setOb, hlo] at this
    · simp only [St.setOb, if_neg e]
      refine (h.obs j).mono hSame hF rfl (fun _ _ => rfl) (fun hlj b hjb => hsame b (h.live j b ⟨hlj, hjb⟩).2 (fun e' => e ?_))
      exact h.inj j i b ⟨hlj, hjb⟩ ⟨hli, e'⟩
  · intro j hj
    by_cases e : j = i
    · subst e; simp only [St.setOb, if_true] at hj; exact absurd hj ho
    · simpa [St.setOb, e] using hj
  · intro j k hk
    have hi : (σ.setOb i o).ob i ≠ .free := by simpa [St.setOb] using ho
    by_cases e2 : k = i
    · subst e2; exact hi
    simp only [St.setOb, if_neg e2]
    by_cases e : j = i
    · subst e
      simp only [St.setOb, if_true] at hk
      exact hm k hk
    · simp only [St.setOb, if_neg e] at hk
      exact h.mento j k hk

end

/-- What a slot reads as, if it is plain. -/
def AV.pure? : AV → Option PV
  | .val p => some p
  | .nils => some (.row [])
  | _ => none

def purs : List AV → Option (List PV)
  | [] => some []
  | c :: cs => match c.pure?, purs cs with
    | some p, some ps => some (p :: ps)
    | _, _ => none

def boxPV (ag : Bool) (cs : List AV) : Option PV :=
  match purs cs with
  | some ps => if ag then some (.agg ps) else match ps with
    | [p] => some p
    | _ => none
  | none => none

def St.pv (σ : St) : AV → Option PV
  | .val p => some p
  | .nils => some (.row [])
  | .ref i => match σ.ob i with
    | .row _ xs => some (.row xs)
    | .prow xs => some (.row xs)
    | _ => none
  | .adr i o => match σ.ob i with
    | .pbox x => if o = 0 then some (.ptr x) else none
    | .box ag cs => if o = 0 then match boxPV ag cs with
      | some x => some (.ptr x)
      | none => none else none
    | _ => none
  | _ => none

def St.pub (σ : St) : AV → St
  | .ref i => match σ.ob i with
    | .row _ xs => σ.setOb i (.prow xs)
    | _ => σ
  | .adr i _ => match σ.ob i with
    | .box ag cs => match boxPV ag cs with
      | some x => σ.setOb i (.pbox x)
      | none => σ
    | _ => σ
  | _ => σ

theorem purs_reps {w : World} {F : Nat → Prop} {cv : Nat → Value} : ∀ {cs : List AV} {ps : List PV} {vs : List Value}, purs cs = some ps → vs.length = cs.length →
    (∀ (j : Nat) (c : AV) (v : Value), cs[j]? = some c → vs[j]? = some v → SRep w F cv c v) → Reps w F ps vs
  | [], ps, vs, h, hl, hr => by
    simp [purs] at h; subst h
    obtain rfl : vs = [] := by simpa using hl
    exact Reps.nil _ _
  | c :: cs, ps, vs, h, hl, hr => by
    cases vs with
    | nil => simp at hl
    | cons v vs =>
      simp only [purs] at h
      split at h
      · rename_i p qs hp hq
        obtain rfl := Option.some.inj h
        have ih := purs_reps (vs := vs) hq (by simpa using hl) (fun j c v hc hv => hr (j + 1) c v (by simpa using hc) (by simpa using hv))
        refine Reps.cons ?_ ih
        have := hr 0 c v rfl rfl
        cases c <;> simp [AV.pure?] at hp
        · subst hp; exact this
        · subst hp; have e : v = .slice none 0 0 := this; rw [e]; exact .rowNil
      · cases h

theorem purs_noagg : ∀ {cs : List AV} {ps : List PV}, purs cs = some ps → (∀ c ∈ cs, c.cell = true) → ∀ p ∈ ps, p.isAgg = false
  | [], ps, h, _ => by simp [purs] at h; subst h; simp
  | c :: cs, ps, h, hc => by
    simp only [purs] at h
    split at h
    · rename_i p qs hp hq
      obtain rfl := Option.some.inj h
      intro x hx
      rcases List.mem_cons.1 hx with rfl | hx
      · have := hc c (List.mem_cons_self ..)
        cases c <;> simp [AV.pure?] at hp
        · subst hp; simpa [AV.cell] using this
        · subst hp; rfl
      · exact purs_noagg hq (fun c h => hc c (List.mem_cons_of_mem _ h)) x hx
    · cases h

theorem boxPV_cells {ag : Bool} {cs : List AV} {x : PV} (h : boxPV ag cs = some x) (hc : ∀ c ∈ cs, c.cell = true) : purs cs = some x.cells := by
  unfold boxPV at h
  split at h
  · rename_i ps hps
    split at h
    · obtain rfl := Option.some.inj h; exact hps
    · split at h
      · rename_i p
        obtain rfl := Option.some.inj h
        have := purs_noagg hps hc p (List.mem_cons_self ..)
        rw [hps]
        cases p <;> first | rfl | (simp [PV.isAgg] at this)
      · cases h
  · cases h

theorem Addr_add_lit (b o j : Nat) : (⟨b, o, none⟩ : Addr).add j = ⟨b, o + j, none⟩ := by unfold Addr.add; split <;> simp_all

section
variable {P : Program} {C : Ctx} {σ : St} {a : Act} {w : World} {cv : Nat → Value}

theorem rep_of_ownRow {F : Nat → Prop} {v : Value} {e : TypeId} {xs : List PV} (h : OwnRow P w F v e xs) {F' : Nat → Prop} (hF : ∀ b, F b → F' b) (hb : ∀ b, blkOf v = some b → F' b) : Rep w F' (.row xs) v := by
  obtain ⟨sz, cells, h1, h2, h3, h4, h5, h6⟩ := h
  have h5' := h5.mono (fun _ _ => rfl : Same F w w) hF
  rcases h4.2 with ⟨rfl, hn⟩ | ⟨g, cap, cur, rfl, hb0, hg, hnc, hcm, hcs, ht⟩
  · obtain rfl : xs = [] := List.eq_nil_of_length_eq_zero hn
    exact .rowNil
  · refine .row xs ⟨g, 0, none⟩ cap sz cells hnc h3 (.inr (hb g rfl)) h5'.1 (fun j v hj => ?_) h6 h5'.2
    have := h4.cells (g := g) rfl j v hj
    exact this

/-- What is let go stays for ever: a row, or a variable, that a value takes along. -/
theorem Rel.pub (h : Rel P C σ a w cv) (v : AV) :
    Rel P C (σ.pub v) a w cv ∧ (∀ b, FS C σ.ob cv w b → FS C (σ.pub v).ob cv w b) := by
  have key : ∀ (i : Nat) (o : Ob), (σ.ob i).live = true → o.live = false → o ≠ .free → (∀ j, ¬ o.ment j) →
      (∀ F', (∀ b, FS C σ.ob cv w b → F' b) → (∀ b, blkOf (cv i) = some b → F' b) → ObRep P w F' cv i o) →
      Rel P C (σ.setOb i o) a w cv ∧ (∀ b, FS C σ.ob cv w b → FS C (σ.setOb i o).ob cv w b) := by
    intro i o hli hlo hof hm hrep
    refine ⟨h.mod i hli o hof (row := none) ⟨rfl, rfl, rfl, Nat.le_refl _, fun _ _ _ => rfl⟩ (by simp) (fun F' hF hb _ => hrep F' hF (hb hlo)) (fun j hj => absurd hj (hm j)), fun b hb => ?_⟩
    rcases hb with hb | hb
    · exact .inl hb
    · refine .inr ⟨hb.1, hb.2.1, fun k hk => hb.2.2 k ?_⟩
      obtain ⟨h1, h2⟩ := hk
      by_cases e : k = i
      · subst e; simp [St.setOb, hlo] at h1
      · simp only [St.setOb, if_neg e] at h1; exact ⟨h1, h2⟩
  cases v with
  | ref i =>
    simp only [St.pub]
    split
    · rename_i e xs he
      have ho := h.obs i
      rw [he] at ho
      exact key i (.prow xs) (by rw [he]; rfl) rfl (by simp) (fun j hj => hj) (fun F' hF hb => rep_of_ownRow ho hF hb)
    · exact ⟨h, fun b hb => hb⟩
  | adr i o =>
    simp only [St.pub]
    split
    · rename_i ag cs he
      split
      · rename_i x hx
        have ho := h.obs i
        rw [he] at ho
        obtain ⟨b, ty, arr, h1, h2, h3, h4, h5⟩ := ho
        refine key i (.pbox x) (by rw [he]; rfl) rfl (by simp) (fun j hj => hj) (fun F' hF hb => ?_)
        have hp := boxPV_cells hx h4
        have hr : Reps w F' x.cells arr := (purs_reps hp h3 (fun j c v hc hv => (h5 j c v hc hv).1)).mono (fun _ _ => rfl : Same (FS C σ.ob cv w) w w) hF
        show Rep w F' (.ptr x) (cv i)
        rw [h1]
        refine .ptr x ⟨b, 0, none⟩ arr (hb b (by rw [h1]; rfl)) hr.1 (fun j v hj => ?_) (purs_noagg hp h4) hr.2
        rw [Addr_add_lit, Nat.zero_add, cell_of_row w b j ⟨arr⟩ ty (0, 0) h2]
        simpa using hj
      · exact ⟨h, fun b hb => hb⟩
    · exact ⟨h, fun b hb => hb⟩
  | _ => exact ⟨h, fun b hb => hb⟩

theorem pub_pub_ob (v : AV) : ∀ i, (σ.pub v).ob i = .free → σ.ob i = .free := by
  intro i hi
  cases v <;> simp only [St.pub] at hi <;> try exact hi
  · split at hi
    · rename_i j e xs he
      simp only [St.setOb] at hi
      split at hi
      · cases hi
      · exact hi
    · exact hi
  · split at hi
    · split at hi
      · simp only [St.setOb] at hi
        split at hi
        · cases hi
        · exact hi
      · exact hi
    · exact hi

/-- A slot's value, taken as a plain one, once it is let go. -/
theorem Rel.pv (h : Rel P C σ a w cv) {v : AV} {p : PV} {u : Value} (hp : σ.pv v = some p) (hv : SRep w (FS C σ.ob cv w) cv v u) : Rep w (FS C (σ.pub v).ob cv w) p u := by
  have hpub := h.pub v
  cases v with
  | any => simp [St.pv] at hp
  | val q => simp [St.pv] at hp; subst hp; exact hv
  | nils => simp [St.pv] at hp; subst hp; have e : u = .slice none 0 0 := hv; rw [e]; exact .rowNil
  | ref i =>
    have e : u = cv i := hv
    subst e
    have ho := hpub.1.obs i
    simp only [St.pv] at hp
    split at hp
    · rename_i e xs he
      obtain rfl := Option.some.inj hp
      simp only [St.pub, he] at ho ⊢
      simpa [St.setOb, ObRep] using ho
    · rename_i xs he
      obtain rfl := Option.some.inj hp
      simp only [St.pub, he] at ho ⊢
      exact ho
    · cases hp
  | adr i o =>
    obtain ⟨b, hb, rfl⟩ := hv
    have ho := hpub.1.obs i
    simp only [St.pv] at hp
    split at hp
    · rename_i x he
      split at hp
      · rename_i h0
        subst h0
        obtain rfl := Option.some.inj hp
        simp only [St.pub, he] at ho ⊢
        rw [ObRep, hb] at ho
        exact ho
      · cases hp
    · rename_i ag cs he
      split at hp
      · rename_i h0
        subst h0
        split at hp
        · rename_i x hx
          obtain rfl := Option.some.inj hp
          simp only [St.pub, he, hx] at ho ⊢
          have ho' : Rep w (FS C (σ.setOb i (.pbox x)).ob cv w) (.ptr x) (cv i) := by simpa [St.setOb, ObRep] using ho
          rw [hb] at ho'
          exact ho'
        · cases hp
      · cases hp
    · cases hp
  | ead i sz k o => simp [St.pv] at hp
  | tup ps => simp [St.pv] at hp
  | vw _ _ _ _ => simp [St.pv] at hp

end

end Go.Proofs.YtglpemnejngkaaaVm
