/- The machine follows the walk; contracts out of walks. -/
import Derived.Test.YtglpemnejngkaaaVmK
import Derived.Lib.Overlaps
set_option linter.unusedVariables false
set_option linter.unusedSimpArgs false
namespace Go.Proofs.YtglpemnejngkaaaVm
open Go Classical

/-- The machine comes to the function's return, in a state that reads as R says. -/
def Good (P : Program) (C : Ctx) (R : St → Prop) (items : List Item) (a : Act) (w : World) : Prop :=
  ∀ (b : Frame) (cs : List Frame), ∃ σ' a' w' cv' todo', R σ' ∧ Rel P C σ' a' w' cv' ∧ Steps P (lone (b.at a items) cs w) (lone { b.at a' todo' with mode := .returning } cs w')

section
variable {P : Program} {C : Ctx} {R : St → Prop} {σ : St} {a : Act} {w : World} {cv : Nat → Value}

theorem Good.step {items items' : List Item} {a' : Act} {w' : World} (hs : ∀ (b : Frame) (cs : List Frame), Steps P (lone (b.at a items) cs w) (lone (b.at a' items') cs w')) (h : Good P C R items' a' w') : Good P C R items a w := by
  intro b cs
  obtain ⟨σ', a2, w2, cv', todo', h1, h2, h3⟩ := h b cs
  exact ⟨σ', a2, w2, cv', todo', h1, h2, (hs b cs).trans h3⟩

inductive Conc (P : Program) (C : Ctx) (R : St → Prop) : List It → List Item → Prop
  | nil : Conc P C R [] []
  | code {k m} (c : Code) (h : Conc P C R k m) : Conc P C R (.code c :: k) (.code c :: m)
  | ops {k m all b i rest} (hr : rest = all.drop i) (h : Conc P C R k m) : Conc P C R (.ops all b i rest :: k) (.inRegion all.toArray (List.range' i rest.length) :: m)
  | blk {k m id} (h : Conc P C R k m) : Conc P C R (.blk id :: k) (.inBlock id :: m)
  | again {k m J c} (h : Conc P C R k m) (hJ : ∀ σ a w cv, J σ → Rel P C σ a w cv → Good P C R (.inLoop c :: m) a w) : Conc P C R (.again J :: k) (.inLoop c :: m)

theorem exit_conc {id : Nat} {k k' : List It} {m : List Item} (hc : Conc P C R k m) (he : exitIt id k = some k') : ∃ m', exitTo id m = some m' ∧ Conc P C R k' m' := by
  induction hc with
  | nil => simp [exitIt] at he
  | code c h ih => simp only [exitIt] at he; simpa [exitTo] using ih he
  | ops hr h ih => simp only [exitIt] at he; simpa [exitTo] using ih he
  | blk h ih =>
    rename_i k m j
    simp only [exitIt] at he
    split at he
    · rename_i e
      subst e
      cases he
      exact ⟨m, by simp [exitTo], h⟩
    · rename_i e
      simpa [exitTo, e] using ih he
  | again h hJ ih => simp only [exitIt] at he; simpa [exitTo] using ih he

theorem runs_wanted (h : Rel P C σ a w cv) {all : List Oper} {o : Oper} {g : Bool} (hg : runs σ all o = some g) : Region.wanted o (yielded all.toArray a.tmps) = g := by
  unfold runs at hg
  unfold Region.wanted
  split at hg
  · rename_i e
    rw [e]
    cases hg; rfl
  · rename_i j want e
    rw [e]
    simp only
    unfold gres gslot at hg
    unfold yielded
    cases hj : all[j]? with
    | none => simp [hj] at hg
    | some x =>
      simp only [hj] at hg
      cases hd : x.dst with
      | none => simp [hd] at hg
      | some t =>
        simp only [hd] at hg
        simp only [List.getElem?_toArray, hj, Option.bind_some, hd]
        have hs := h.slots t
        split at hg
        · rename_i b hb
          cases hg
          rw [hb] at hs
          have hs : Rep w (FS C σ.ob cv w) (.bool b) (a.tmps.getD t undef) := hs
          have e2 : a.tmps[t]? = some (.bool b) := by
            cases hq : a.tmps[t]? with
            | none => simp [Array.getD_eq_getD_getElem?, hq, undef] at hs; cases hs
            | some v => simp [Array.getD_eq_getD_getElem?, hq] at hs; cases hs; rfl
          simp [e2]
        · rename_i hb
          cases hg
          rw [hb] at hs
          obtain ⟨vs, h1, h2⟩ := hs
          obtain rfl : vs = [] := List.eq_nil_of_length_eq_zero h2.1
          cases hq : a.tmps[t]? with
          | none => simp
          | some v => simp [Array.getD_eq_getD_getElem?, hq] at h1; subst h1; simp
        · cases hg

theorem put_rel (h : Rel P C σ a w cv) {d : Option Nat} (hd : dOK C.n d) {v : AV} {u : Value} (hv : SRep w (FS C σ.ob cv w) cv v u) (hm : ∀ i, v.ment i → σ.ob i ≠ .free) : Rel P C (σ.put d v) (a.put d u) w cv := by
  have := h.set d (fun t ht => by subst ht; exact hd) hv hm
  cases d <;> exact this

theorem ck_rel (h : Rel P C σ a w cv) (ck : Nat) : Rel P C { σ with ck := ck } a w cv :=
  { os := h.os, tape := h.tape, output := h.output, size := h.size, old := h.old, f0 := h.f0, o0 := h.o0, live := h.live, inj := h.inj, obs := h.obs, slots := h.slots, ments := h.ments, mento := h.mento, defers := h.defers, ntmps := h.ntmps, pin := h.pin }

/-- One operation, that is done. -/
theorem oper_steps {all : List Oper} {i : Nat} {o : Oper} {rest : List Nat} {m : List Item} (ho : all[i]? = some o) (hw : Region.wanted o (yielded all.toArray a.tmps) = true) {u : Value} {w' : World}
    (hr : (execOp a.eval o).run P w = .ok (.value u) w' ∨ ((execOp a.eval o).run P w = .ok .skip w' ∧ u = undef)) (b : Frame) (cs : List Frame) :
    Steps P (lone (b.at a (.inRegion all.toArray (i :: rest) :: m)) cs w) (lone (b.at (a.put o.dst u) (.inRegion all.toArray rest :: m)) cs w') := by
  have ho' : all.toArray[i]? = some o := by simpa using ho
  have hg := stepG_op (P := P) (b := b) (k := m) (cs := cs) (w := w) (rest := rest) ho' hw
  have hfin : ∀ v, (b.at a (.inRegion all.toArray (i :: rest) :: m)).finish v = b.at (a.put o.dst v) (.inRegion all.toArray rest :: m) := by
    intro v; rw [Frame.finish_at, ho']; rfl
  refine .one (step_lone_go ?_)
  rcases hr with hr | ⟨hr, rfl⟩
  · rw [hg, ← hfin]; simp [stepG.apply, hr]
  · rw [hg, ← hfin]; simp [stepG.apply, hr]

theorem pass_steps {all : List Oper} {i : Nat} {o : Oper} {rest : List Nat} {m : List Item} (ho : all[i]? = some o) (hw : Region.wanted o (yielded all.toArray a.tmps) = false) (b : Frame) (cs : List Frame) :
    Steps P (lone (b.at a (.inRegion all.toArray (i :: rest) :: m)) cs w) (lone (b.at (a.put o.dst undef) (.inRegion all.toArray rest :: m)) cs w) := by
  have ho' : all.toArray[i]? = some o := by simpa using ho
  have hs := step_op_skip (P := P) (b := b) (a := a) (k := m) (cs := cs) (w := w) (ops := all.toArray) (i := i) (rest := rest) (by rw [ho']; simpa using hw)
  rw [ho'] at hs
  exact .one hs

theorem call_steps {all : List Oper} {i : Nat} {o : Oper} {rest : List Nat} {m : List Item} (ho : all[i]? = some o) (hw : Region.wanted o (yielded all.toArray a.tmps) = true) {f : FuncId} {args : Array Value}
    (hr : (execOp a.eval o).run P w = .ok (.enter f args) w) {S : Value → World → Prop} (hc : Calls P f args w fun e w' => ∃ u, e = .returned u ∧ S u w') (b : Frame) (cs : List Frame) :
    ∃ u w', S u w' ∧ Steps P (lone (b.at a (.inRegion all.toArray (i :: rest) :: m)) cs w) (lone (b.at (a.put o.dst u) (.inRegion all.toArray rest :: m)) cs w') := by
  have ho' : all.toArray[i]? = some o := by simpa using ho
  have hg := stepG_op (P := P) (b := b) (k := m) (cs := cs) (w := w) (rest := rest) ho' hw
  have hfin : ∀ v, (b.at a (.inRegion all.toArray (i :: rest) :: m)).finish v = b.at (a.put o.dst v) (.inRegion all.toArray rest :: m) := by
    intro v; rw [Frame.finish_at, ho']; rfl
  obtain ⟨e, w', fr, ⟨u, rfl, hS⟩, hsteps, _, hleave⟩ := hc (b.at a (.inRegion all.toArray (i :: rest) :: m) :: cs)
  have henter : step P (lone (b.at a (.inRegion all.toArray (i :: rest) :: m)) cs w) =
      .next (lone (Frame.enter P f args .normal) (b.at a (.inRegion all.toArray (i :: rest) :: m) :: cs) w) :=
    step_lone_go (by rw [hg]; simp [stepG.apply, hr, Frame.at])
  refine ⟨u, w', hS, .head henter (Steps.trans hsteps (.one ?_))⟩
  rw [← hfin]; exact step_leave_returned hleave

theorem put_getD {d : Option Nat} {u : Value} {t : Nat} (h : d ≠ some t) : (a.put d u).tmps.getD t undef = a.tmps.getD t undef := by
  cases d with
  | none => rfl
  | some t' =>
    have e : t' ≠ t := fun e => h (by rw [e])
    simp only [Act.put, Array.getD_eq_getD_getElem?]
    rw [Array.getElem?_setIfInBounds_ne e]

theorem isMent_iff {v : AV} {i : Nat} : v.isMent i = true ↔ v.ment i := by
  cases v <;> simp [AV.isMent, AV.ment]

theorem noMent_ment {o : Ob} (h : o.noMent = true) (j : Nat) : ¬ o.ment j := by
  cases o with
  | box ag cs =>
    rintro ⟨c, hc, hj⟩
    have := List.all_eq_true.1 h c hc
    cases c <;> simp_all [AV.ment, AV.noMent]
  | _ => exact fun h => h

/-- The context of one operation that is let see a part of the state. -/
noncomputable def ctxOf (C : Ctx) (σ : St) (w : World) (cv : Nat → Value) (M : List Nat) (nid : Nat) : Ctx where
  w0 := w
  F0 := FS C σ.ob cv w
  O0 := fun b => ∃ k, (M.contains k || k == nid) = true ∧ Live σ.ob cv k b
  n := C.n
  pin := fun k => if σ.ob k = .free then none else some (cv k)

theorem restr_keep {σ : St} {S M : List Nat} {nid k : Nat} (h : (M.contains k || k == nid) = true) : (σ.restr S M nid).ob k = σ.ob k := if_pos h
theorem restr_drop {σ : St} {S M : List Nat} {nid k : Nat} (h : ¬ (M.contains k || k == nid) = true) : (σ.restr S M nid).ob k = .gone := if_neg h

theorem restr_live {S M : List Nat} {nid k b : Nat} (h : Live (σ.restr S M nid).ob cv k b) : (M.contains k || k == nid) = true ∧ Live σ.ob cv k b := by
  obtain ⟨h1, h2⟩ := h
  by_cases hk : (M.contains k || k == nid) = true
  · rw [restr_keep hk] at h1; exact ⟨hk, h1, h2⟩
  · rw [restr_drop hk] at h1; cases h1

theorem Rel.restr (h : Rel P C σ a w cv) (S M : List Nat) (nid : Nat) : Rel P (ctxOf C σ w cv M nid) (σ.restr S M nid) a w cv := by
  have hF : ∀ b, FS C σ.ob cv w b → FS (ctxOf C σ w cv M nid) (σ.restr S M nid).ob cv w b := fun b hb => .inl hb
  have hS : Same (FS C σ.ob cv w) w w := fun _ _ => rfl
  have hnf : ∀ i, σ.ob i ≠ .free → (σ.restr S M nid).ob i ≠ .free := by
    intro i hi
    by_cases hk : (M.contains i || i == nid) = true
    · rw [restr_keep hk]; exact hi
    · rw [restr_drop hk]; simp
  exact {
    os := rfl, tape := rfl, output := rfl, size := Nat.le_refl _, old := fun _ _ _ => rfl
    f0 := fun b hb => ⟨h.fs_lt hb, fun ⟨k, _, hl⟩ => h.fs_live hb hl⟩
    o0 := fun b ⟨k, _, hl⟩ => (h.live k b hl).2
    live := fun i b hl => by
      obtain ⟨h1, h2⟩ := restr_live hl
      exact ⟨.inr ⟨i, h1, h2⟩, (h.live i b h2).2⟩
    inj := fun i j b hi hj => h.inj i j b (restr_live hi).2 (restr_live hj).2
    obs := fun i => by
      by_cases hk : (M.contains i || i == nid) = true
      · rw [restr_keep hk]; exact (h.obs i).mono hS hF rfl (fun _ _ => rfl) (fun _ _ _ => rfl)
      · rw [restr_drop hk]; trivial
    slots := fun t => by
      show SRep w _ cv (if S.contains t = true then σ.sl t else .any) _
      split
      · exact (h.slots t).mono hS hF (fun _ _ => rfl)
      · trivial
    ments := fun t i hi => by
      have hi : (if S.contains t = true then σ.sl t else .any).ment i := hi
      split at hi
      · exact hnf i (h.ments t i hi)
      · exact hi.elim
    mento := fun j i hi => by
      by_cases hk : (M.contains j || j == nid) = true
      · rw [restr_keep hk] at hi; exact hnf i (h.mento j i hi)
      · rw [restr_drop hk] at hi; exact hi.elim
    defers := h.defers, ntmps := h.ntmps
    pin := fun i v hv => by
      simp only [ctxOf] at hv
      split at hv
      · cases hv
      · rename_i hn; cases hv; exact ⟨hnf i hn, rfl⟩ }

/-- What one operation did to its part, done to the whole. -/
theorem Rel.patch (h : Rel P C σ a w cv) {S M W : List Nat} {nid : Nat} {d : Option Nat} {σ' : St} {a' : Act} {w' : World} {cv' : Nat → Value} (h' : Rel P (ctxOf C σ w cv M nid) σ' a' w' cv')
    (ha : ∀ t, d ≠ some t → a'.tmps.getD t undef = a.tmps.getD t undef) (hw : Within σ σ' M W S nid d) : Rel P C (σ.patch σ' W d) a' w' cv' := by
  have hpin : ∀ i, σ.ob i ≠ .free → σ'.ob i ≠ .free ∧ cv' i = cv i := fun i hi => h'.pin i (cv i) (by simp [ctxOf, hi])
  have hkeep : ∀ k, k ∈ W → (M.contains k || k == nid) = true := fun k hk => by
    rcases hw.sub k hk with h1 | h1
    · simp [h1]
    · simp [h1]
  -- the objects of the whole
  have hobK : ∀ k, (M.contains k || k == nid) = true → (σ.patch σ' W d).ob k = σ'.ob k := by
    intro k hk
    rw [patch_ob]
    split
    · rfl
    · rename_i hn
      rw [hw.same k (by simpa using hn), restr_keep hk]
  have hobU : ∀ k, ¬ (M.contains k || k == nid) = true → (σ.patch σ' W d).ob k = σ.ob k := by
    intro k hk
    rw [patch_ob, if_neg]
    intro hc
    exact hk (hkeep k (by simpa using hc))
  have hliveU : ∀ k b, ¬ (M.contains k || k == nid) = true → Live (σ.patch σ' W d).ob cv' k b → Live σ.ob cv k b := by
    intro k b hk ⟨h1, h2⟩
    rw [hobU k hk] at h1
    have hnf : σ.ob k ≠ .free := fun e => by rw [e] at h1; cases h1
    rw [(hpin k hnf).2] at h2
    exact ⟨h1, h2⟩
  have hliveK : ∀ k b, (M.contains k || k == nid) = true → Live (σ.patch σ' W d).ob cv' k b → Live σ'.ob cv' k b := by
    intro k b hk ⟨h1, h2⟩
    rw [hobK k hk] at h1
    exact ⟨h1, h2⟩
  have hbK : ∀ k b, Live σ'.ob cv' k b → w.heap.size ≤ b ∨ ∃ k', (M.contains k' || k' == nid) = true ∧ Live σ.ob cv k' b := fun k b hl => (h'.live k b hl).1
  have hold : ∀ b, b < w.heap.size → (∀ k, (M.contains k || k == nid) = true → ¬ Live σ.ob cv k b) → w'.heap[b]? = w.heap[b]? := fun b hb hn => h'.old b hb (fun ⟨k, h1, h2⟩ => hn k h1 h2)
  have hS : Same (FS C σ.ob cv w) w w' := fun b hb => hold b (h.fs_lt hb) (fun k _ hl => h.fs_live hb hl)
  have hnl : ∀ b, b < w.heap.size → (∀ k, ¬ Live σ.ob cv k b) → ∀ i, ¬ Live (σ.patch σ' W d).ob cv' i b := by
    intro b hb hn i hl
    by_cases hk : (M.contains i || i == nid) = true
    · rcases hbK i b (hliveK i b hk hl) with h1 | ⟨k', _, h2⟩
      · omega
      · exact hn k' h2
    · exact hn i (hliveU i b hk hl)
  have hsz : w.heap.size ≤ w'.heap.size := h'.size
  have hF : ∀ b, FS C σ.ob cv w b → FS C (σ.patch σ' W d).ob cv' w' b := by
    intro b hb
    have hlt := h.fs_lt hb
    have hn := hnl b hlt (fun k => h.fs_live hb)
    rcases hb with hb | hb
    · exact .inl hb
    · exact .inr ⟨hb.1, by omega, hn⟩
  have hF' : ∀ b, FS (ctxOf C σ w cv M nid) σ'.ob cv' w' b → FS C (σ.patch σ' W d).ob cv' w' b := by
    intro b hb
    rcases hb with hb | ⟨hb, hlt, hn⟩
    · exact hF b hb
    · refine .inr ⟨?_, hlt, fun i hl => ?_⟩
      · rcases hb with hb | ⟨k, _, hl⟩
        · exact .inl (Nat.le_trans h.size hb)
        · exact (h.live k b hl).1
      · by_cases hk : (M.contains i || i == nid) = true
        · exact hn i (hliveK i b hk hl)
        · have hl2 := hliveU i b hk hl
          rcases hb with hb | ⟨k, hk', hl'⟩
          · have := (h.live i b hl2).2; have hb : w.heap.size ≤ b := hb; omega
          · have := h.inj i k b hl2 hl'
            subst this; exact hk hk'
  have hS' : Same (FS (ctxOf C σ w cv M nid) σ'.ob cv' w') w' w' := fun _ _ => rfl
  have hnf : ∀ i, σ.ob i ≠ .free → (σ.patch σ' W d).ob i ≠ .free := by
    intro i hi
    by_cases hk : (M.contains i || i == nid) = true
    · rw [hobK i hk]; exact (hpin i hi).1
    · rw [hobU i hk]; exact hi
  exact {
    os := h'.os.trans h.os, tape := h'.tape.trans h.tape, output := h'.output.trans h.output, size := Nat.le_trans h.size hsz
    old := fun k hk hO => by
      rw [← h.old k hk hO]
      refine hold k (Nat.lt_of_lt_of_le hk h.size) (fun i _ hl => ?_)
      rcases (h.live i k hl).1 with h1 | h1
      · omega
      · exact hO h1
    f0 := h.f0, o0 := h.o0
    live := fun i b hl => by
      by_cases hk : (M.contains i || i == nid) = true
      · have hl' := hliveK i b hk hl
        refine ⟨?_, (h'.live i b hl').2⟩
        rcases hbK i b hl' with h1 | ⟨k', _, h2⟩
        · exact .inl (Nat.le_trans h.size h1)
        · exact (h.live k' b h2).1
      · have hl' := h.live i b (hliveU i b hk hl)
        exact ⟨hl'.1, Nat.lt_of_lt_of_le hl'.2 hsz⟩
    inj := fun i j b hi hj => by
      by_cases hki : (M.contains i || i == nid) = true <;> by_cases hkj : (M.contains j || j == nid) = true
      · exact h'.inj i j b (hliveK i b hki hi) (hliveK j b hkj hj)
      · exfalso
        have hlj := hliveU j b hkj hj
        rcases hbK i b (hliveK i b hki hi) with h1 | ⟨k', hk', h2⟩
        · have := (h.live j b hlj).2; omega
        · have := h.inj j k' b hlj h2; subst this; exact hkj hk'
      · exfalso
        have hli := hliveU i b hki hi
        rcases hbK j b (hliveK j b hkj hj) with h1 | ⟨k', hk', h2⟩
        · have := (h.live i b hli).2; omega
        · have := h.inj i k' b hli h2; subst this; exact hki hk'
      · exact h.inj i j b (hliveU i b hki hi) (hliveU j b hkj hj)
    obs := fun i => by
      by_cases hk : (M.contains i || i == nid) = true
      · rw [hobK i hk]; exact (h'.obs i).mono hS' hF' rfl (fun _ _ => rfl) (fun _ _ _ => rfl)
      · rw [hobU i hk]
        by_cases hf : σ.ob i = .free
        · rw [hf]; trivial
        · refine (h.obs i).mono hS hF (hpin i hf).2 (fun j hj => (hpin j (h.mento i j hj)).2) (fun hl b hb => ?_)
          have hli : Live σ.ob cv i b := ⟨hl, hb⟩
          refine hold b (h.live i b hli).2 (fun k hk' hl' => ?_)
          have := h.inj i k b hli hl'
          subst this; exact hk hk'
    slots := fun t => by
      rw [patch_sl]
      by_cases ht : d = some t
      · rw [if_pos ht]; exact (h'.slots t).mono hS' hF' (fun _ _ => rfl)
      · rw [if_neg ht, ha t ht]; exact (h.slots t).mono hS hF (fun i hi => (hpin i (h.ments t i hi)).2)
    ments := fun t i hi => by
      rw [patch_sl] at hi
      by_cases ht : d = some t
      · rw [if_pos ht] at hi
        rcases hw.ment t ht i (isMent_iff.2 hi) with rfl | ⟨t', h1, h2⟩
        · rw [hobK i (by simp)]; exact h'.ments t i hi
        · exact hnf i (h.ments t' i (isMent_iff.1 h2))
      · rw [if_neg ht] at hi; exact hnf i (h.ments t i hi)
    mento := fun j i hi => by
      rw [patch_ob] at hi
      split at hi
      · rename_i hc; exact absurd hi (noMent_ment (hw.plain j (by simpa using hc)) i)
      · exact hnf i (h.mento j i hi)
    defers := h'.defers, ntmps := h'.ntmps
    pin := fun i v hv => by
      obtain ⟨h1, h2⟩ := h.pin i v hv
      exact ⟨hnf i h1, (hpin i h1).2.trans h2⟩ }

theorem Ev.sound {C : Ctx} {all : List Oper} {nid j : Nat} {o : Oper} {σ' : St} (ho : all[j]? = some o) (he : Ev P C.n all nid o σ σ') (h : Rel P C σ a w cv) (rest : List Nat) (m : List Item) (b : Frame) (cs : List Frame) :
    ∃ u w' cv', Rel P C σ' (a.put o.dst u) w' cv' ∧ Steps P (lone (b.at a (.inRegion all.toArray (j :: rest) :: m)) cs w) (lone (b.at (a.put o.dst u) (.inRegion all.toArray rest :: m)) cs w') := by
  cases he with
  | run hg hs hd =>
    obtain ⟨u, w', cv', h1, h2, h3, h4⟩ := step_sound h hs
    exact ⟨u, w', cv', put_rel h2 hd h3 h4, oper_steps ho (runs_wanted h hg) h1 b cs⟩
  | pass hg hd => exact ⟨undef, w, cv, put_rel h hd (v := .tup []) ⟨[], rfl, Reps.nil _ _⟩ (fun i hi => hi.elim), pass_steps ho (runs_wanted h hg) b cs⟩
  | call hg hop hd hc =>
    obtain ⟨f, args, h1, h2⟩ := call_sound h hc
    obtain ⟨u, w', ⟨cv', h3, h4, h5⟩, h6⟩ := call_steps ho (runs_wanted h hg) (h1 _ _ hop) (S := fun u w' => ∃ cv', Rel P C _ a w' cv' ∧ SRep w' (FS C _ cv' w') cv' _ u ∧ ∀ i, _ → _) (h2.mono fun e w' ⟨u, cv', he, hh⟩ => ⟨u, he, cv', hh⟩) b cs
    exact ⟨u, w', cv', put_rel h3 hd h4 h5, h6⟩

theorem EvR.sound {C : Ctx} {all : List Oper} {bs j : Nat} {M W : List (List Nat)} {τ τ' : St} (he : EvR P C.n all bs M W j τ τ') (h : Rel P C τ a w cv) (rest : List Nat) (m : List Item) (b : Frame) (cs : List Frame) :
    ∃ a' w' cv', Rel P C τ' a' w' cv' ∧ Steps P (lone (b.at a (.inRegion all.toArray (j :: rest) :: m)) cs w) (lone (b.at a' (.inRegion all.toArray rest :: m)) cs w') := by
  obtain ⟨o, ho, σ', e1, hw, rfl⟩ := he
  obtain ⟨u, w', cv', h1, h2⟩ := Ev.sound (C := ctxOf C τ w cv (at_ M j) (bs + j)) ho e1 (h.restr _ _ _) rest m b cs
  exact ⟨_, w', cv', h.patch h1 (fun t ht => put_getD ht) hw, h2⟩

theorem RunS.sound {C : Ctx} {all : List Oper} {bs : Nat} {M W : List (List Nat)} : ∀ (l : List Nat) {τ fin : St} {a : Act} {w : World} {cv : Nat → Value}, RunS P C.n all bs M W l τ fin → Rel P C τ a w cv → ∀ (m : List Item) (b : Frame) (cs : List Frame),
    ∃ a' w' cv', Rel P C fin a' w' cv' ∧ Steps P (lone (b.at a (.inRegion all.toArray l :: m)) cs w) (lone (b.at a' m) cs w') := by
  intro l
  induction l with
  | nil => intro τ fin a w cv h hr m b cs; obtain rfl := h; exact ⟨a, w, cv, hr, .one step_region_end⟩
  | cons i l ih =>
    intro τ fin a w cv ⟨τ1, h1, h2⟩ hr m b cs
    obtain ⟨a1, w1, cv1, g1, g2⟩ := h1.sound hr l m b cs
    obtain ⟨a2, w2, cv2, k1, k2⟩ := ih h2 g1 m b cs
    exact ⟨a2, w2, cv2, k1, g2.trans k2⟩

theorem drop_head {α : Type} {l : List α} {i : Nat} {x : α} {r : List α} (h : x :: r = l.drop i) : l[i]? = some x ∧ r = l.drop (i + 1) := by
  have h1 : (l.drop i)[0]? = some x := by rw [← h]; rfl
  rw [List.getElem?_drop] at h1
  refine ⟨by simpa using h1, ?_⟩
  rw [← List.tail_drop, ← h]; rfl

theorem Rel.opn (h : Rel P C σ a w cv) {id sz : Nat} {e : TypeId} {xs : List PV} (ho : σ.ob id = .row e xs) (hsz : szOf P e = some sz) : ∃ q, Rel P C (σ.opn id sz xs.length e xs q) a w cv := by
  have ho' := h.obs id
  rw [ho] at ho'
  obtain ⟨sz', cells, h1, h2, h3, h4, h5, h6⟩ := ho'
  obtain rfl : sz' = sz := Option.some.inj (h1.symm.trans hsz)
  -- the capacity
  obtain ⟨q, hq⟩ : ∃ q, ∀ F', (∀ b, FS C σ.ob cv w b → F' b) → OwnRowK P w F' (cv id) e xs q := by
    rcases h4.2 with ⟨e1, hn⟩ | ⟨g, cap, cur, e1, hb0, hg, hnc, hcm, hcs, ht⟩
    · exact ⟨0, fun F' hF => ⟨sz', cells, h1, h2, h3, h4.1, h5.mono (fun _ _ => rfl : Same (FS C σ.ob cv w) w w) hF, h6, .inl ⟨e1, List.eq_nil_of_length_eq_zero hn, rfl⟩⟩⟩
    · have hx : xs.length + (cap - xs.length) = cap := by omega
      exact ⟨cap - xs.length, fun F' hF => ⟨sz', cells, h1, h2, h3, h4.1, h5.mono (fun _ _ => rfl : Same (FS C σ.ob cv w) w w) hF, h6, .inr ⟨g, xs.length, cur, by rw [hx]; exact e1, hg, by rw [hx]; exact hcm, by rw [hx]; exact hcs, ht⟩⟩⟩
  have h2' := h.mod id (by rw [ho]; rfl) (.rowk e xs q) (by simp) (w' := w) (row := none) ⟨rfl, rfl, rfl, Nat.le_refl _, fun _ _ _ => rfl⟩ (by simp) (fun F' hF _ _ => hq F' hF) (fun j hj => hj.elim)
  have hs : (σ.opn id sz' xs.length e xs q).ob = (σ.setOb id (.rowk e xs q)).ob := rfl
  refine ⟨q, { os := h2'.os, tape := h2'.tape, output := h2'.output, size := h2'.size, old := h2'.old, f0 := h2'.f0, o0 := h2'.o0, live := h2'.live, inj := h2'.inj, obs := h2'.obs, slots := fun t => ?_, ments := fun t i hi => ?_, mento := h2'.mento, defers := h2'.defers, ntmps := h2'.ntmps, pin := h2'.pin }⟩
  · have hst := h2'.slots t
    show SRep w (FS C (σ.setOb id (.rowk e xs q)).ob cv w) cv (opnA id sz' xs.length (σ.sl t)) _
    have hst : SRep w (FS C (σ.setOb id (.rowk e xs q)).ob cv w) cv (σ.sl t) (a.tmps.getD t undef) := hst
    unfold opnA
    split
    · rename_i j hj
      split
      · rename_i hji
        subst hji
        rw [hj] at hst
        have hst : a.tmps.getD t undef = cv j := hst
        rw [hst]
        rcases h4.2 with ⟨e1, hn⟩ | ⟨g, cap, cur, e1, hb0, hg, hnc, hcm, hcs, ht⟩
        · exact .inl ⟨e1, rfl, hn, e1⟩
        · exact .inr ⟨g, xs.length, cap, 0, e1, by omega, .inl (by simp), by simpa using e1⟩
      · rw [hj] at hst; exact hst
    · exact hst
  · have hi : (opnA id sz' xs.length (σ.sl t)).ment i := hi
    refine h2'.ments t i ?_
    show (σ.sl t).ment i
    revert hi
    unfold opnA
    split
    · rename_i j hj
      rw [hj]
      split
      · rename_i hji; subst hji; exact fun hh => hh
      · exact fun hh => hh
    · exact fun hh => hh

theorem run_eqIn_snil (d : Nat) {t e : TypeId} (hu : P.underlying t = some (.slice e)) (n c n' c' : Nat) (b : Option Addr) : (Op.equalIn (d + 1) t (.slice none n c) (.slice b n' c')).run P w = .ok b.isNone w := by
  simp [Op.equalIn, run_underlying hu]
theorem run_eqIn_ssome (d : Nat) {t e : TypeId} (hu : P.underlying t = some (.slice e)) (n c n' c' : Nat) (b : Addr) : (Op.equalIn (d + 1) t (.slice (some b) n c) (.slice none n' c')).run P w = .ok false w := by
  simp [Op.equalIn, run_underlying hu]
theorem run_eql_slice {t : TypeId} {p q : Option Addr} {n c n' c' : Nat} {b : Bool} (h : (Op.equalIn (9999 + 1) t (.slice p n c) (.slice q n' c')).run P w = .ok b w) (neg : Bool) :
    (binOp (if neg = true then .neq else .eql) t (.slice p n c) (.slice q n' c')).run P w = .ok (.bool (if neg = true then !b else b)) w := by
  cases neg
  · simp only [Bool.false_eq_true, if_false, binOp]
    simp [Op.equal, Op.maxDepth, h]
  · simp only [if_true, binOp]
    simp [Op.equal, Op.maxDepth, h]

theorem run_nilq {t e : TypeId} {op : BinOp} {x y : Operand} {u : Value} {ys : List PV} {v : AV} (h : Rel P C σ a w cv) (hop : op = .eql ∨ op = .neq) (hu : P.underlying t = some (.slice e)) (hp : σ.pv v = some (.row ys)) (hv : SRep w (FS C σ.ob cv w) cv v u) :
    ∃ c : Prop, (c → ys = []) ∧ (do eqGuard op t x y u (.slice none 0 0); binOp op t u (.slice none 0 0) : Sem Value).run P w = .ok (.bool (if op = .eql then decide c else !decide c)) w := by
  have hg : ∀ (p : Option Addr) (n c : Nat), (eqGuard op t x y (.slice p n c) (.slice none 0 0)).run P w = .ok () w := fun p n c => by
    unfold eqGuard
    rcases hop with rfl | rfl <;> simp
  rcases h.rowRead hp hv with ⟨rfl, rfl⟩ | ⟨ad, c, sz, cells, rfl, _⟩
  · refine ⟨True, fun _ => rfl, ?_⟩
    rw [Sem.run_bind, hg]
    have := run_eql_slice (P := P) (w := w) (run_eqIn_snil 9999 hu 0 0 0 0 none)
    rcases hop with rfl | rfl
    · simpa using this false
    · simpa using this true
  · refine ⟨False, fun hf => hf.elim, ?_⟩
    rw [Sem.run_bind, hg]
    have := run_eql_slice (P := P) (w := w) (run_eqIn_ssome 9999 hu ys.length c 0 0 ad)
    rcases hop with rfl | rfl
    · simpa using this false
    · simpa using this true

theorem run_ovl (h : Rel P C σ a w cv) {f : FuncId} {fn : Func} {tS tR e : TypeId} (hf : P.funcs[f]? = some fn) (hn : (fn.name == "runtime.NumGoroutine") = false) (hb : fn.body.isNone = true) (hfn : Extern.findNext fn = none)
    (hfe : Extern.find fn = some (Extern.SlicesOverlaps.overlaps #[tS, tS] #[tR])) (hu : P.underlying tS = some (.slice e)) {id sz l len q : Nat} {xs zs : List PV} (hsz : szOf P e = some sz) {u v : Value}
    (hx : SRep w (FS C σ.ob cv w) cv (.val (.rowp zs)) u) (hy : SRep w (FS C σ.ob cv w) cv (.vw id sz l len) v) (ho : σ.ob id = .rowk e xs q) (hq : 0 < xs.length + q) : (callFunc f #[u, v]).run P w = .ok (.value (.bool false)) w := by
  rw [run_callFunc_extern hf hn hb hfn hfe]
  have ho' := h.obs id
  rw [ho] at ho'
  obtain ⟨sz', cells, h1, h2, h3, h4, h5, h6, h7⟩ := ho'
  obtain rfl : sz' = sz := Option.some.inj (h1.symm.trans hsz)
  have key : (Extern.SlicesOverlaps.overlaps #[tS, tS] #[tR] #[u, v]).run P w = .ok (.bool false) w := by
    have hx : Rep w (FS C σ.ob cv w) (.rowp zs) u := hx
    cases hx
    rename_i hp hr
    rcases hy with ⟨c1, rfl, rfl, rfl⟩ | ⟨b, n', c, o, c1, c2, c3, rfl⟩
    · rcases h7 with ⟨_, hxs, hk⟩ | ⟨g, n, cur, c1', _⟩
      · subst hxs hk; simp at hq
      · rw [c1] at c1'; cases c1'
    · rcases h7 with ⟨c1', _⟩ | ⟨g, n, cur, c1', hg, hm, hcs, ht⟩
      · rw [c1] at c1'; cases c1'
      · rw [c1] at c1'; cases c1'
        rcases hp with rfl | ⟨ad, m, cc, cur2, ty, rfl, hF, hh⟩
        · change Sem.run P (α := Value) (do
            let some t := (#[tS, tS] : Array TypeId)[0]? | stuck "slices.overlaps: no parameter types"
            let .slice elem ← underlying t | stuck "slices.overlaps: slice type expected"
            let size ← sizeOf elem
            pure (Value.bool false)) w = _
          simp [run_underlying hu, run_sizeOf hsz]
        · have hne : ad.block ≠ b := fun e1 => by
            subst e1
            exact h.fs_live (i := id) hF ⟨by rw [ho]; rfl, by rw [c1]; rfl⟩
          refine Lib.run_overlaps_apart w tS tR e hu sz' (fun w => run_sizeOf hsz) ad ⟨b, o, none⟩ m cc len _ hne ty e cur2.size cur.size ?_ ?_ ?_ ?_ ?_
          · simp [World.shape?, hh]
          · simp [World.shape?, hg]
          · rw [hcs]
            exact Nat.ne_of_gt (Nat.mul_pos hq h2)
          · simp [World.frozen?, hh]
          · simp [World.frozen?, hh]
  rw [key]
  rfl

/-- THE MACHINE FOLLOWS THE WALK. -/
theorem V.sound {k : List It} (hpin : ∀ i, C.pin i = none) (hv : V P C.n R k σ) : ∀ (m : List Item), Conc P C R k m → ∀ (a : Act) (w : World) (cv : Nat → Value), Rel P C σ a w cv → Good P C R m a w := by
  generalize hn : C.n = n at hv
  induction hv with
  | done h =>
    intro m hc a w cv hr b cs
    cases hc
    exact ⟨_, a, w, cv, [], h, hr, .one step_end⟩
  | ret h =>
    intro m hc a w cv hr b cs
    cases hc
    rename_i m hc
    exact ⟨_, a, w, cv, .code .ret :: m, h, hr, .one step_ret⟩
  | skip h ih =>
    intro m hc a w cv hr
    cases hc
    rename_i m hc
    exact Good.step (fun b cs => .one step_skip) (ih _ hc a w cv hr)
  | seq h ih =>
    intro m hc a w cv hr
    cases hc
    rename_i m hc
    exact Good.step (fun b cs => .one step_seq) (ih _ (.code _ (.code _ hc)) a w cv hr)
  | cond hcv ht hf iht ihf =>
    intro m hc a w cv hr
    cases hc
    rename_i m hc
    rename_i k σ c x y v
    have hx := (hr.ev c).1
    rw [hcv] at hx
    have hx : a.eval c = .bool v := by
      generalize a.eval c = u at hx
      have hx : Rep w (FS C σ.ob cv w) (.bool v) u := hx
      cases hx; rfl
    cases v
    · exact Good.step (fun b cs => .one (step_cond hx)) (ihf rfl _ (.code _ hc) a w cv hr)
    · exact Good.step (fun b cs => .one (step_cond hx)) (iht rfl _ (.code _ hc) a w cv hr)
  | block h ih =>
    intro m hc a w cv hr
    cases hc
    rename_i m hc
    exact Good.step (fun b cs => .one step_block) (ih _ (.code _ (.blk hc)) a w cv hr)
  | blk h ih =>
    intro m hc a w cv hr
    cases hc
    rename_i m hc
    exact Good.step (fun b cs => .one step_inBlock) (ih _ hc a w cv hr)
  | exit he h ih =>
    intro m hc a w cv hr
    cases hc
    rename_i m hc
    obtain ⟨m', h1, h2⟩ := exit_conc hc he
    exact Good.step (fun b cs => .one (step_exit h1)) (ih _ h2 a w cv hr)
  | region h ih =>
    intro m hc a w cv hr
    cases hc
    rename_i m hc
    rename_i k σ id os
    have := ih _ (.ops (all := os.toList) (b := σ.ck) (i := 0) (by simp) hc) a w cv (ck_rel hr _)
    refine Good.step (fun b cs => .one ?_) this
    rw [step_region]
    simp [List.range_eq_range']
  | draw M W hm hB ht h ih =>
    intro m hc a w cv hr b cs
    cases hc
    rename_i m hc
    rename_i k σ σ' id os
    have hsch := TRun.sched hB ht hm (w.tape w.drawn (.order b.fn id))
    obtain ⟨a1, w1, cv1, g1, g2⟩ := RunS.sound (C := C) _ (by rw [hn]; exact hsch) hr.drew m b cs
    obtain ⟨σ2, a2, w2, cv2, todo2, k1, k2, k3⟩ := ih _ hc a1 w1 cv1 (ck_rel g1 _) b cs
    refine ⟨σ2, a2, w2, cv2, todo2, k1, k2, .head step_region_draw (Steps.trans ?_ k3)⟩
    simpa using g2
  | nil h ih =>
    intro m hc a w cv hr
    cases hc
    rename_i m hrest hc
    exact Good.step (fun b cs => .one step_region_end) (ih _ hc a w cv hr)
  | run hg hs hd h ih =>
    intro m hc a w cv hr
    cases hc
    rename_i m hrest hc
    obtain ⟨ho, hrest'⟩ := drop_head hrest
    obtain ⟨u, w', cv', h1, h2, h3, h4⟩ := step_sound hr hs
    have hw := runs_wanted hr hg
    have := ih _ (.ops hrest' hc) _ w' cv' (put_rel h2 (by rw [hn]; exact hd) h3 h4)
    exact Good.step (fun b cs => oper_steps ho hw h1 b cs) this
  | pass hg hd h ih =>
    intro m hc a w cv hr
    cases hc
    rename_i m hrest hc
    obtain ⟨ho, hrest'⟩ := drop_head hrest
    have hw := runs_wanted hr hg
    have := ih _ (.ops hrest' hc) _ w cv (put_rel hr (by rw [hn]; exact hd) (v := .tup []) (u := undef) ⟨[], rfl, Reps.nil _ _⟩ (fun i hi => hi.elim))
    exact Good.step (fun b cs => pass_steps ho hw b cs) this
  | call hg hop hd hcs h ih =>
    intro m hc a w cv hr
    cases hc
    rename_i m hrest hc
    obtain ⟨ho, hrest'⟩ := drop_head hrest
    have hw := runs_wanted hr hg
    obtain ⟨f, args, h1, h2⟩ := call_sound hr hcs
    intro b cs
    obtain ⟨u, w', ⟨cv', h3, h4, h5⟩, h6⟩ := call_steps ho hw (h1 _ _ hop) (S := fun u w' => ∃ cv', Rel P C _ a w' cv' ∧ SRep w' (FS C _ cv' w') cv' _ u ∧ ∀ i, _ → _) (h2.mono fun e w' ⟨u, cv', he, hh⟩ => ⟨u, he, cv', hh⟩) b cs
    obtain ⟨σ', a2, w2, cv2, todo2, g1, g2, g3⟩ := ih _ (.ops hrest' hc) _ w' cv' (put_rel h3 (by rw [hn]; exact hd) h4 h5) b cs
    exact ⟨σ', a2, w2, cv2, todo2, g1, g2, h6.trans g3⟩
  | nilq hg ho hop hx hu hd h ih =>
    intro m hc a w cv hr
    cases hc
    rename_i m hrest hc
    obtain ⟨hoo, hrest'⟩ := drop_head hrest
    rename_i k σ all b i o rest op t x u e xs
    obtain ⟨c, hcx, hrun⟩ := run_nilq (x := x) (y := .const (.slice none 0 0)) hr hop hu hx (hr.ev x).1
    have hrr : (execOp a.eval o).run P w = .ok (.value (.bool (if op = .eql then decide c else !decide c))) w := by
      have e1 : execOp a.eval o = (do pure (.value (← (do eqGuard op t x (.const (.slice none 0 0)) (a.eval x) (a.eval (.const (.slice none 0 0))); binOp op t (a.eval x) (a.eval (.const (.slice none 0 0)))))) : Sem Next) := by
        unfold execOp; rw [ho]
      rw [e1, Sem.run_bind]
      have e2 : a.eval (.const (.slice none 0 0)) = .slice none 0 0 := rfl
      rw [e2, hrun]
      rfl
    have := ih c hcx _ (.ops hrest' hc) _ w cv (put_rel hr (by rw [hn]; exact hd) (v := .val (.bool (if op = .eql then decide c else !decide c))) (u := .bool (if op = .eql then decide c else !decide c)) (Rep.bool _) (fun i hi => hi.elim))
    exact Good.step (fun b cs => oper_steps hoo (runs_wanted hr hg) (.inl hrr) b cs) this
  | ovl hg ho hd hfx hf hnn hb hfn hfe hu hsz hx hy ho2 hq h ih =>
    intro m hc a w cv hr
    cases hc
    rename_i m hrest hc
    obtain ⟨hoo, hrest'⟩ := drop_head hrest
    rename_i k σ all b i o rest fx x y ts f fn tS tR e zs id sz l len xs q
    have hsx := (hr.ev x).1
    have hsy := (hr.ev y).1
    have hsf := (hr.ev fx).1
    rw [hx] at hsx
    rw [hy] at hsy
    rw [hfx] at hsf
    have hfv : a.eval fx = .func (.func f) #[] #[] := by
      have hsf : Rep w (FS C σ.ob cv w) (.fn f []) (a.eval fx) := hsf
      generalize a.eval fx = u at hsf
      cases hsf
      rename_i vs hl _
      obtain rfl := List.eq_nil_of_length_eq_zero hl
      rfl
    have hrun := run_ovl hr hf hnn hb hfn hfe hu hsz hsx hsy ho2 hq
    have hrr : (execOp a.eval o).run P w = .ok (.value (.bool false)) w := by
      simp only [execOp, ho, resolve, Sem.run_bind, Deferred.ofValue, hfv, Sem.run_pure, Result.andThen_ok, invoke]
      simpa using hrun
    have := ih _ (.ops hrest' hc) _ w cv (put_rel hr (by rw [hn]; exact hd) (v := .val (.bool false)) (u := .bool false) (Rep.bool _) (fun i hi => hi.elim))
    exact Good.step (fun b cs => oper_steps hoo (runs_wanted hr hg) (.inl hrr) b cs) this
  | opn id sz e xs ho hsz h ih =>
    intro m hc a w cv hr
    obtain ⟨q, hq⟩ := hr.opn ho hsz
    exact ih q _ hc a w cv hq
  | again h =>
    intro m hc a w cv hr
    cases hc with
    | again hc hJ => exact hJ _ a w cv h hr
  | loop I ck m0 ls os ρ h0 hm hrd ih =>
    intro m hc a w cv hr
    cases hc
    rename_i m hc
    rename_i k σ c
    have key : ∀ (q : Nat) (ls : List (Nat × AV)) (os : List Ob) (a : Act) (w : World) (cv : Nat → Value), I q ls os → Rel P C (litSt ls os ck) a w cv → Good P C R (.code c :: .inLoop c :: m) a w := by
      intro q
      induction q using Nat.strongRecOn with
      | _ q ihq =>
        intro ls os a w cv hI hrel
        refine ih q ls os hI _ (.code _ (.again hc fun σ' a' w' cv' hJ hrel' => ?_)) a w cv hrel
        obtain ⟨q', ls', os', ρ', hlt, hI', hm'⟩ := hJ
        obtain ⟨cv2, hrel2⟩ := hrel'.rename hm' ck hpin
        exact Good.step (fun b cs => .one step_inLoop) (ihq q' hlt ls' os' a' w' cv2 hI' hrel2)
    obtain ⟨cv2, hrel2⟩ := hr.rename hm ck hpin
    exact Good.step (fun b cs => .one step_loop) (key m0 ls os a w cv2 h0 hrel2)
  | cut ck ls os ρ hm h ih =>
    intro m hc a w cv hr
    obtain ⟨cv2, hrel2⟩ := hr.rename hm ck hpin
    exact ih _ hc a w cv2 hrel2

end
end Go.Proofs.YtglpemnejngkaaaVm
