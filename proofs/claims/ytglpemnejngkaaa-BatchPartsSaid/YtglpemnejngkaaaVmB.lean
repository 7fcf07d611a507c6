/- The symbolic machine's states, and how they stand to the machine's own. -/
import Derived.Test.YtglpemnejngkaaaVmA
set_option linter.unusedVariables false
set_option linter.unusedSimpArgs false
namespace Go.Proofs.YtglpemnejngkaaaVm
open Go

/-- What a slot holds. -/
inductive AV where
  | any
  | val (p : PV)
  | nils
  | ref (id : Nat)
  | adr (id : Nat) (o : Nat)
  | ead (id : Nat) (sz : Nat) (i : Nat) (o : Nat)
  | tup (ps : List PV)
  | vw (id : Nat) (sz : Nat) (lo : Nat) (len : Nat)

/-- An object that the call owns, or has let go. -/
inductive Ob where
  | free
  | gone
  | row (e : TypeId) (xs : List PV)
  | box (ag : Bool) (cs : List AV)
  | prow (xs : List PV)
  | pbox (x : PV)
  | rowk (e : TypeId) (xs : List PV) (k : Nat)

def Ob.live : Ob → Bool
  | .row .. | .box .. | .rowk .. => true
  | _ => false

structure St where
  sl : Nat → AV
  ob : Nat → Ob
  ck : Nat

def St.get (σ : St) (t : Nat) : AV := σ.sl t
def St.set (σ : St) (d : Nat) (v : AV) : St := { σ with sl := fun t => if t = d then v else σ.sl t }
def St.setOb (σ : St) (i : Nat) (o : Ob) : St := { σ with ob := fun j => if j = i then o else σ.ob j }

def AV.ment : AV → Nat → Prop
  | .ref i, j | .adr i _, j | .ead i _ _ _, j | .vw i _ _ _, j => i = j
  | _, _ => False

def Ob.ment : Ob → Nat → Prop
  | .box _ cs, j => ∃ c ∈ cs, c.ment j
  | _, _ => False

def blkOf : Value → Option Nat
  | .slice (some a) _ _ => some a.block
  | .pointer (some a) => some a.block
  | _ => none

structure Ctx where
  w0 : World
  F0 : Nat → Prop
  O0 : Nat → Prop
  n : Nat
  pin : Nat → Option Value

def Live (ob : Nat → Ob) (cv : Nat → Value) (i b : Nat) : Prop := (ob i).live = true ∧ blkOf (cv i) = some b

/-- What stays as it is, whatever the call still does. -/
def FS (C : Ctx) (ob : Nat → Ob) (cv : Nat → Value) (w : World) (b : Nat) : Prop :=
  C.F0 b ∨ ((C.w0.heap.size ≤ b ∨ C.O0 b) ∧ b < w.heap.size ∧ ∀ i, ¬ Live ob cv i b)

def SRep (w : World) (F : Nat → Prop) (cv : Nat → Value) : AV → Value → Prop
  | .any, _ => True
  | .val p, v => Rep w F p v
  | .nils, v => v = .slice none 0 0
  | .ref i, v => v = cv i
  | .adr i o, v => ∃ b, cv i = .pointer (some ⟨b, 0, none⟩) ∧ v = .pointer (some ⟨b, o, none⟩)
  | .ead i sz k o, v => ∃ b n c, cv i = .slice (some ⟨b, 0, none⟩) n c ∧ v = .pointer (some ⟨b, k * sz + o, none⟩)
  | .tup ps, v => ∃ vs, v = .tuple ⟨vs⟩ ∧ Reps w F ps vs
  | .vw i sz lo len, v => (cv i = .slice none 0 0 ∧ lo = 0 ∧ len = 0 ∧ v = .slice none 0 0) ∨
      ∃ b n c o, cv i = .slice (some ⟨b, 0, none⟩) n c ∧ lo + len ≤ c ∧ (o = lo * sz ∨ (c = lo ∧ len = 0 ∧ 0 < lo)) ∧ v = .slice (some ⟨b, o, none⟩) len (c - lo)

/-- A cell of a variable. -/
def AV.cell : AV → Bool
  | .val p => !p.isAgg
  | .nils | .ref _ | .adr .. => true
  | _ => false

def szOf (P : Program) (t : TypeId) : Option Nat := (P.info? t).map (·.size)

def OwnRow (P : Program) (w : World) (F : Nat → Prop) (v : Value) (e : TypeId) (xs : List PV) : Prop :=
  ∃ sz cells, szOf P e = some sz ∧ 0 < sz ∧ (∀ x ∈ xs, x.cells.length = sz) ∧ w.ownsRow 0 e sz v xs.length cells ∧ Reps w F (flat xs) cells ∧ ∀ c ∈ flat xs, c.isAgg = false

/-- A row whose capacity is known: behind its elements lie k places more. -/
def OwnRowK (P : Program) (w : World) (F : Nat → Prop) (v : Value) (e : TypeId) (xs : List PV) (k : Nat) : Prop :=
  ∃ sz cells, szOf P e = some sz ∧ 0 < sz ∧ (∀ x ∈ xs, x.cells.length = sz) ∧ cells.length = xs.length * sz ∧ Reps w F (flat xs) cells ∧ (∀ c ∈ flat xs, c.isAgg = false) ∧
    ((v = .slice none 0 0 ∧ xs = [] ∧ k = 0) ∨
     ∃ g n cur, v = .slice (some ⟨g, 0, none⟩) n (xs.length + k) ∧ w.heap[g]? = some (.cells cur e (0, 0)) ∧ xs.length + k ≤ maxLen ∧ cur.size = (xs.length + k) * sz ∧ cur.toList.take (xs.length * sz) = cells)

theorem OwnRowK.mono {P : Program} {w w' : World} {F F' : Nat → Prop} {v : Value} {e : TypeId} {xs : List PV} {k : Nat} (h : OwnRowK P w F v e xs k) (hs : Same F w w') (hF : ∀ b, F b → F' b)
    (hb : ∀ b, blkOf v = some b → w'.heap[b]? = w.heap[b]?) : OwnRowK P w' F' v e xs k := by
  obtain ⟨sz, cells, h1, h2, h3, h4, h5, h6, h7⟩ := h
  refine ⟨sz, cells, h1, h2, h3, h4, h5.mono hs hF, h6, ?_⟩
  rcases h7 with h7 | ⟨g, n, cur, rfl, hg, rest⟩
  · exact .inl h7
  · exact .inr ⟨g, n, cur, rfl, by rw [hb g rfl]; exact hg, rest⟩

def ObRep (P : Program) (w : World) (F : Nat → Prop) (cv : Nat → Value) (i : Nat) : Ob → Prop
  | .free | .gone => True
  | .row e xs => OwnRow P w F (cv i) e xs
  | .box _ cs => ∃ b ty arr, cv i = .pointer (some ⟨b, 0, none⟩) ∧ w.heap[b]? = some (.cells ⟨arr⟩ ty (0, 0)) ∧ arr.length = cs.length ∧
      (∀ c ∈ cs, c.cell = true) ∧ ∀ (j : Nat) (c : AV) (v : Value), cs[j]? = some c → arr[j]? = some v → SRep w F cv c v ∧ v.oneCell' = true
  | .prow xs => Rep w F (.row xs) (cv i)
  | .pbox x => Rep w F (.ptr x) (cv i)
  | .rowk e xs k => OwnRowK P w F (cv i) e xs k

structure Rel (P : Program) (C : Ctx) (σ : St) (a : Act) (w : World) (cv : Nat → Value) : Prop where
  os : w.os = C.w0.os
  tape : w.tape = C.w0.tape
  output : w.output = C.w0.output
  size : C.w0.heap.size ≤ w.heap.size
  old : ∀ k, k < C.w0.heap.size → ¬ C.O0 k → w.heap[k]? = C.w0.heap[k]?
  f0 : ∀ b, C.F0 b → b < C.w0.heap.size ∧ ¬ C.O0 b
  o0 : ∀ b, C.O0 b → b < C.w0.heap.size
  live : ∀ i b, Live σ.ob cv i b → (C.w0.heap.size ≤ b ∨ C.O0 b) ∧ b < w.heap.size
  inj : ∀ i j b, Live σ.ob cv i b → Live σ.ob cv j b → i = j
  obs : ∀ i, ObRep P w (FS C σ.ob cv w) cv i (σ.ob i)
  slots : ∀ t, SRep w (FS C σ.ob cv w) cv (σ.sl t) (a.tmps.getD t undef)
  ments : ∀ t i, (σ.sl t).ment i → σ.ob i ≠ .free
  mento : ∀ j i, (σ.ob j).ment i → σ.ob i ≠ .free
  defers : a.defers = []
  ntmps : a.tmps.size = C.n
  pin : ∀ i v, C.pin i = some v → σ.ob i ≠ .free ∧ cv i = v

theorem SRep.mono {w w' : World} {F F' : Nat → Prop} {cv cv' : Nat → Value} {v : AV} {u : Value} (h : SRep w F cv v u) (hs : Same F w w') (hF : ∀ b, F b → F' b)
    (hcv : ∀ i, v.ment i → cv' i = cv i) : SRep w' F' cv' v u := by
  cases v with
  | any => trivial
  | val p => exact Rep.mono h hs hF
  | nils => exact h
  | ref i => exact h.trans (hcv i rfl).symm
  | adr i o => obtain ⟨b, h1, h2⟩ := h; exact ⟨b, (hcv i rfl).trans h1, h2⟩
  | ead i sz k o => obtain ⟨b, n, c, h1, h2⟩ := h; exact ⟨b, n, c, (hcv i rfl).trans h1, h2⟩
  | tup ps => obtain ⟨vs, h1, h2⟩ := h; exact ⟨vs, h1, h2.mono hs hF⟩
  | vw i sz lo len =>
    rcases h with ⟨h1, h2⟩ | ⟨b, n, c, o, h1, h2⟩
    · exact .inl ⟨(hcv i rfl).trans h1, h2⟩
    · exact .inr ⟨b, n, c, o, (hcv i rfl).trans h1, h2⟩

theorem ownsRow_same {w w' : World} {base : Nat} {e : TypeId} {size : Nat} {v : Value} {n : Nat} {xs : List Value} (h : w.ownsRow base e size v n xs)
    (hs : ∀ b, v.ownBlock = some b → w'.heap[b]? = w.heap[b]?) : w'.ownsRow base e size v n xs := by
  obtain ⟨h1, h2⟩ := h
  refine ⟨h1, ?_⟩
  rcases h2 with h2 | ⟨g, cap, cur, rfl, hb, hg, rest⟩
  · exact .inl h2
  · exact .inr ⟨g, cap, cur, rfl, hb, by rw [hs g rfl]; exact hg, rest⟩

theorem OwnRow.mono {P : Program} {w w' : World} {F F' : Nat → Prop} {v : Value} {e : TypeId} {xs : List PV} (h : OwnRow P w F v e xs) (hs : Same F w w') (hF : ∀ b, F b → F' b)
    (hb : ∀ b, blkOf v = some b → w'.heap[b]? = w.heap[b]?) : OwnRow P w' F' v e xs := by
  obtain ⟨sz, cells, h1, h2, h3, h4, h5, h6⟩ := h
  refine ⟨sz, cells, h1, h2, h3, ownsRow_same h4 fun b hv => hb b ?_, h5.mono hs hF, h6⟩
  cases v <;> simp [Value.ownBlock, blkOf] at * <;> (rename_i x _ _; cases x <;> simp_all [Value.ownBlock, blkOf])

theorem ObRep.mono {P : Program} {w w' : World} {F F' : Nat → Prop} {cv cv' : Nat → Value} {i : Nat} {o : Ob} (h : ObRep P w F cv i o) (hs : Same F w w') (hF : ∀ b, F b → F' b)
    (hi : cv' i = cv i) (hcv : ∀ j, o.ment j → cv' j = cv j) (hb : o.live = true → ∀ b, blkOf (cv i) = some b → w'.heap[b]? = w.heap[b]?) : ObRep P w' F' cv' i o := by
  cases o with
  | free => trivial
  | gone => trivial
  | row e xs => show OwnRow P w' F' (cv' i) e xs; rw [hi]; exact OwnRow.mono h hs hF (hb rfl)
  | box ag cs =>
    obtain ⟨b, ty, arr, h1, h2, h3, h4, h5⟩ := h
    refine ⟨b, ty, arr, hi.trans h1, ?_, h3, h4, fun j c v hc hv => ⟨((h5 j c v hc hv).1).mono hs hF fun k hk => hcv k ⟨c, List.mem_of_getElem? hc, hk⟩, (h5 j c v hc hv).2⟩⟩
    rw [hb rfl b (by rw [h1]; rfl)]; exact h2
  | prow xs => show Rep w' F' _ (cv' i); rw [hi]; exact Rep.mono h hs hF
  | pbox x => show Rep w' F' _ (cv' i); rw [hi]; exact Rep.mono h hs hF
  | rowk e xs k => show OwnRowK P w' F' (cv' i) e xs k; rw [hi]; exact OwnRowK.mono h hs hF (hb rfl)

section
variable {P : Program} {C : Ctx} {σ : St} {a : Act} {w : World} {cv : Nat → Value}

theorem Rel.fs_lt (h : Rel P C σ a w cv) {b : Nat} (hb : FS C σ.ob cv w b) : b < w.heap.size := by
  rcases hb with hb | hb
  · have := (h.f0 b hb).1; have := h.size; omega
  · exact hb.2.1

theorem Rel.fs_live (h : Rel P C σ a w cv) {b i : Nat} (hb : FS C σ.ob cv w b) : ¬ Live σ.ob cv i b := by
  intro hl
  rcases hb with hb | hb
  · have h1 := (h.live i b hl).1; have h2 := h.f0 b hb; rcases h1 with h1 | h1
    · omega
    · exact h2.2 h1
  · exact hb.2.2 i hl

/-- The whole step: objects and memory turn; the slots stay. -/
theorem Rel.upd (h : Rel P C σ a w cv) {ob' : Nat → Ob} {w' : World} {cv' : Nat → Value}
    (hos : w'.os = w.os) (htape : w'.tape = w.tape) (hout : w'.output = w.output) (hsize : w.heap.size ≤ w'.heap.size)
    (hold : ∀ k, k < C.w0.heap.size → ¬ C.O0 k → w'.heap[k]? = w.heap[k]?)
    (hlive : ∀ i b, Live ob' cv' i b → (C.w0.heap.size ≤ b ∨ C.O0 b) ∧ b < w'.heap.size)
    (hinj : ∀ i j b, Live ob' cv' i b → Live ob' cv' j b → i = j)
    (hS : Same (FS C σ.ob cv w) w w') (hnew : ∀ i b, FS C σ.ob cv w b → ¬ Live ob' cv' i b)
    (hobs : (∀ b, FS C σ.ob cv w b → FS C ob' cv' w' b) → ∀ i, ObRep P w' (FS C ob' cv' w') cv' i (ob' i))
    (hcv : ∀ i, σ.ob i ≠ .free → cv' i = cv i) (hfree : ∀ i, ob' i = .free → σ.ob i = .free)
    (hmento : ∀ j i, (ob' j).ment i → ob' i ≠ .free) : Rel P C { σ with ob := ob' } a w' cv' := by
  have hF : ∀ b, FS C σ.ob cv w b → FS C ob' cv' w' b := by
    intro b hb
    have hn := fun i => hnew i b hb
    rcases hb with hb | hb
    · exact .inl hb
    · exact .inr ⟨hb.1, by have := hb.2.1; omega, hn⟩
  exact {
    os := hos.trans h.os, tape := htape.trans h.tape, output := hout.trans h.output, size := Nat.le_trans h.size hsize
    old := fun k hk ho => (hold k hk ho).trans (h.old k hk ho)
    f0 := h.f0, o0 := h.o0, live := hlive, inj := hinj
    obs := hobs hF
    slots := fun t => (h.slots t).mono hS hF fun i hi => hcv i (h.ments t i hi)
    ments := fun t i hi hf => h.ments t i hi (hfree i hf)
    mento := hmento, defers := h.defers, ntmps := h.ntmps
    pin := fun i v hv => ⟨fun hf => (h.pin i v hv).1 (hfree i hf), (hcv i (h.pin i v hv).1).trans (h.pin i v hv).2⟩ }

theorem Rel.set (h : Rel P C σ a w cv) (d : Option Nat) (hd : ∀ t, d = some t → t < C.n) {v : AV} {u : Value} (hv : SRep w (FS C σ.ob cv w) cv v u) (hm : ∀ i, v.ment i → σ.ob i ≠ .free) :
    Rel P C (match d with | some t => σ.set t v | none => σ) (a.put d u) w cv := by
  cases d with
  | none => exact { os := h.os, tape := h.tape, output := h.output, size := h.size, old := h.old, f0 := h.f0, o0 := h.o0, live := h.live, inj := h.inj, obs := h.obs, slots := h.slots, ments := h.ments, mento := h.mento, defers := h.defers, ntmps := h.ntmps, pin := h.pin }
  | some t =>
    have ht := hd t rfl
    refine { os := h.os, tape := h.tape, output := h.output, size := h.size, old := h.old, f0 := h.f0, o0 := h.o0, live := h.live, inj := h.inj, obs := h.obs, slots := ?_, ments := ?_, mento := h.mento, defers := h.defers, ntmps := by simp [Act.put, h.ntmps], pin := h.pin }
    · intro t'
      simp only [St.set, Act.put]
      by_cases e : t' = t
      · subst e
        rw [if_pos rfl]
        rw [show (a.tmps.setIfInBounds t' u).getD t' undef = u by simp [Array.getD, h.ntmps, ht]]
        exact hv
      · rw [if_neg e]
        rw [show (a.tmps.setIfInBounds t u).getD t' undef = a.tmps.getD t' undef by
          simp only [Array.getD_eq_getD_getElem?]
          rw [Array.getElem?_setIfInBounds]
          rw [if_neg (fun e' => e e'.symm)]]
        exact h.slots t'
    · intro t' i
      simp only [St.set]
      by_cases e : t' = t
      · rw [if_pos e]; exact hm i
      · rw [if_neg e]; exact h.ments t' i

theorem Rel.drew (h : Rel P C σ a w cv) : Rel P C σ a w.drew cv :=
  { os := h.os, tape := h.tape, output := h.output, size := h.size, old := h.old, f0 := h.f0, o0 := h.o0, live := h.live, inj := h.inj,
    obs := fun i => (h.obs i).mono (fun _ _ => rfl) (fun _ hb => hb) rfl (fun _ _ => rfl) (fun _ _ _ => rfl)
    slots := fun t => (h.slots t).mono (fun _ _ => rfl) (fun _ hb => hb) (fun _ _ => rfl)
    ments := h.ments, mento := h.mento, defers := h.defers, ntmps := h.ntmps, pin := h.pin }

end

end Go.Proofs.YtglpemnejngkaaaVm
