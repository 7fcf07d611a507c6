/- Contracts, and calls by contract. -/
import Derived.Test.YtglpemnejngkaaaVmI
set_option linter.unusedVariables false
set_option linter.unusedSimpArgs false
namespace Go.Proofs.YtglpemnejngkaaaVm
open Go Classical

inductive Arg where
  | p (x : PV)
  | o (e : TypeId) (xs : List PV)
inductive Res where
  | vals (ps : List PV)
  | own (e : TypeId) (xs : List PV)

def tupV : List Value → Value
  | [u] => u
  | us => .tuple ⟨us⟩

def ArgRep (P : Program) (w : World) (F : Nat → Prop) : Arg → Value → Prop
  | .p x, v => Rep w F x v
  | .o e xs, v => OwnRow P w F v e xs

/-- The blocks that are handed over. -/
def Given (args : List Arg) (vs : List Value) (b : Nat) : Prop := ∃ (i : Nat) (e : TypeId) (xs : List PV) (v : Value), args[i]? = some (.o e xs) ∧ vs[i]? = some v ∧ blkOf v = some b

structure ArgsRep (P : Program) (w : World) (F : Nat → Prop) (args : List Arg) (vs : List Value) : Prop where
  len : vs.length = args.length
  reps : ∀ (i : Nat) (x : Arg) (v : Value), args[i]? = some x → vs[i]? = some v → ArgRep P w F x v
  off : ∀ b, Given args vs b → ¬ F b
  one : ∀ (i j : Nat) (e e' : TypeId) (xs ys : List PV), args[i]? = some (.o e xs) → args[j]? = some (.o e' ys) → i = j

/-- What is stable behind a call: what was, and what is new. -/
def FN (w w' : World) (F : Nat → Prop) (args : List Arg) (vs : List Value) (b : Nat) : Prop := F b ∨ ((w.heap.size ≤ b ∨ Given args vs b) ∧ b < w'.heap.size)

def ResRep (P : Program) (w w' : World) (F : Nat → Prop) (args : List Arg) (vs : List Value) : Res → Value → Prop
  | .vals ps, v => ∃ us, v = tupV us ∧ Reps w' (FN w w' F args vs) ps us
  | .own e xs, v => OwnRow P w' (fun b => FN w w' F args vs b ∧ blkOf v ≠ some b) v e xs ∧ ∀ b, blkOf v = some b → (w.heap.size ≤ b ∨ Given args vs b) ∧ b < w'.heap.size

structure Out (P : Program) (w : World) (F : Nat → Prop) (args : List Arg) (vs : List Value) (w' : World) (r : Res) (v : Value) : Prop where
  os : w'.os = w.os
  tape : w'.tape = w.tape
  output : w'.output = w.output
  size : w.heap.size ≤ w'.heap.size
  old : ∀ k, k < w.heap.size → ¬ Given args vs k → w'.heap[k]? = w.heap[k]?
  res : ResRep P w w' F args vs r v

/-- A function's contract: called with arguments that read as 'args', it hands back what reads as 'r'. -/
def Ct (P : Program) (f : FuncId) (args : List Arg) (r : Res) : Prop :=
  ∀ (w : World) (F : Nat → Prop) (vs : List Value), (∀ b, F b → b < w.heap.size) → ArgsRep P w F args vs →
    Calls P f ⟨vs⟩ w fun e w' => ∃ v, e = .returned v ∧ Out P w F args vs w' r v

/-- The function is one that is entered. -/
def Entered (P : Program) (f : FuncId) : Prop := ∃ fn, P.funcs[f]? = some fn ∧ (fn.name == "runtime.NumGoroutine") = false ∧ fn.body.isNone = false

def resAV : List PV → AV
  | [p] => .val p
  | ps => .tup ps

def ops (ps : List PV) : List Arg := ps.map .p

theorem ops_o {ps : List PV} {i : Nat} {e : TypeId} {xs : List PV} (h : (ops ps)[i]? = some (.o e xs)) : False := by
  unfold ops at h
  rw [List.getElem?_map] at h
  cases hp : ps[i]? <;> simp [hp] at h

theorem given_ops {ps : List PV} {vs : List Value} {b : Nat} : ¬ Given (ops ps) vs b := by
  rintro ⟨i, e, xs, v, h, _⟩
  simp [ops] at h

section
variable {P : Program} {C : Ctx} {σ : St} {a : Act} {w : World} {cv : Nat → Value}

/-- Arguments that are only read. -/
theorem argsRep_ops {F : Nat → Prop} {ps : List PV} {vs : List Value} (h : Reps w F ps vs) : ArgsRep P w F (ops ps) vs where
  len := by simp [ops, h.1]
  reps := fun i x v hx hv => by
    simp only [ops, List.getElem?_map] at hx
    cases hp : ps[i]? with
    | none => simp [hp] at hx
    | some p => simp [hp] at hx; subst hx; exact h.2 i p v hp hv
  off := fun b hb => absurd hb given_ops
  one := fun i j e e' xs ys hi => by simp [ops] at hi

theorem resAV_rep {F : Nat → Prop} {qs : List PV} {us : List Value} (h : Reps w F qs us) : SRep w F cv (resAV qs) (tupV us) := by
  match qs, us, h with
  | [q], [u], h => exact h.tail.1
  | [], [], h => exact ⟨[], rfl, h⟩
  | q :: q' :: qs, u :: u' :: us, h => exact ⟨_, rfl, h⟩
  | [], u :: us, h => exact absurd h.1 (by simp)
  | [q], [], h => exact absurd h.1 (by simp)
  | [q], u :: u' :: us, h => exact absurd h.1 (by simp)
  | q :: q' :: qs, [], h => exact absurd h.1 (by simp)
  | q :: q' :: qs, [u], h => exact absurd h.1 (by simp)

theorem resAV_ment {qs : List PV} {i : Nat} : ¬ (resAV qs).ment i := by
  match qs with
  | [q] => exact fun h => h
  | [] => exact fun h => h
  | q :: q' :: qs => exact fun h => h

/-- Memory beyond what was has come; all else is as it was. -/
theorem Rel.more (h : Rel P C σ a w cv) {w' : World} (hos : w'.os = w.os) (htape : w'.tape = w.tape) (hout : w'.output = w.output) (hsize : w.heap.size ≤ w'.heap.size)
    (hold : ∀ k, k < w.heap.size → w'.heap[k]? = w.heap[k]?) :
    Rel P C σ a w' cv ∧ (∀ b, FS C σ.ob cv w b → FS C σ.ob cv w' b) ∧ (∀ b, w.heap.size ≤ b → b < w'.heap.size → FS C σ.ob cv w' b) := by
  have hS : Same (FS C σ.ob cv w) w w' := fun b hb => hold b (h.fs_lt hb)
  refine ⟨?_, fun b hb => ?_, fun b hb hlt => .inr ⟨.inl (Nat.le_trans h.size hb), hlt, fun i hi => ?_⟩⟩
  · refine h.upd (ob' := σ.ob) hos htape hout hsize (fun k hk _ => hold k (Nat.lt_of_lt_of_le hk h.size)) (fun i b hl => ⟨(h.live i b hl).1, Nat.lt_of_lt_of_le (h.live i b hl).2 hsize⟩) h.inj hS
      (fun i b hb hl => h.fs_live hb hl) (fun hF i => ?_) (fun _ _ => rfl) (fun _ hi => hi) h.mento
    exact (h.obs i).mono hS hF rfl (fun _ _ => rfl) (fun hl b hb => hold b (h.live i b ⟨hl, hb⟩).2)
  · rcases hb with hb | hb
    · exact .inl hb
    · exact .inr ⟨hb.1, Nat.lt_of_lt_of_le hb.2.1 hsize, hb.2.2⟩
  · have := (h.live i b hi).2; omega

/-- What is handed to a call; the last one may be a row of the caller's own, that is known to lie in plain memory. -/
def PvsX (σ : St) (avs : List AV) (ps : List PV) : Prop :=
  σ.pvs avs = some ps ∨ ∃ mid j e xs qs, avs = mid ++ [.ref j] ∧ σ.pvs mid = some qs ∧ (σ.pubs mid).ob j = .row e xs ∧ ps = qs ++ [.rowp xs]

theorem pubs_snoc : ∀ (cs : List AV) (c : AV) (σ : St), σ.pubs (cs ++ [c]) = (σ.pubs cs).pub c
  | [], c, σ => rfl
  | d :: cs, c, σ => by simp only [List.cons_append, St.pubs]; exact pubs_snoc cs c (σ.pub d)

theorem Rel.pvsX (h : Rel P C σ a w cv) {cs : List AV} {ps : List PV} {vs : List Value} (hp : PvsX σ cs ps) (hl : vs.length = cs.length)
    (hr : ∀ (j : Nat) (c : AV) (v : Value), cs[j]? = some c → vs[j]? = some v → SRep w (FS C σ.ob cv w) cv c v) : Reps w (FS C (σ.pubs cs).ob cv w) ps vs := by
  rcases hp with hp | ⟨mid, j, e, xs, qs, rfl, hq, ho, rfl⟩
  · exact h.pvs hp hl hr
  · simp only [List.length_append, List.length_singleton] at hl
    obtain ⟨vm, v, rfl⟩ : ∃ vm v, vs = vm ++ [v] := by
      have hne : vs ≠ [] := fun e => by subst e; simp at hl
      exact ⟨vs.dropLast, vs.getLast hne, (List.dropLast_concat_getLast hne).symm⟩
    have hlm : vm.length = mid.length := by simp at hl; exact hl
    have h1 := h.pvs hq hlm (fun i c u hc hu => hr i c u (by rw [List.getElem?_append_left (List.getElem?_eq_some_iff.1 hc).1]; exact hc) (by rw [List.getElem?_append_left (List.getElem?_eq_some_iff.1 hu).1]; exact hu))
    have hv : SRep w (FS C σ.ob cv w) cv (.ref j) v := hr mid.length _ v (by simp) (by rw [← hlm]; simp)
    obtain rfl : v = cv j := hv
    rw [pubs_snoc]
    have h2 := (h.pubs mid).1
    have hpub := h2.pub (.ref j)
    have hown := h2.obs j
    rw [ho] at hown
    have hrow : Rep w (FS C ((σ.pubs mid).pub (.ref j)).ob cv w) (.row xs) (cv j) := h2.pv (v := .ref j) (by simp [St.pv, ho]) rfl
    refine (h1.mono (fun _ _ => rfl : Same (FS C (σ.pubs mid).ob cv w) w w) hpub.2).append (Reps.cons (.rowp xs _ hrow ?_) (Reps.nil _ _))
    obtain ⟨sz, cells, q1, q2, q3, q4, q5, q6⟩ := hown
    rcases q4.2 with ⟨e1, hn⟩ | ⟨g, cap, cur, e1, hb0, hg, _⟩
    · exact .inl e1
    · refine .inr ⟨⟨g, 0, none⟩, xs.length, cap, cur, e, e1, ?_, hg⟩
      have hl : Live (σ.pubs mid).ob cv j g := ⟨by rw [ho]; rfl, by rw [e1]; rfl⟩
      have hpo : ((σ.pubs mid).pub (.ref j)) = (σ.pubs mid).setOb j (.prow xs) := by simp [St.pub, ho]
      refine .inr ⟨(h2.live j g hl).1, (h2.live j g hl).2, fun i hi => ?_⟩
      rw [hpo] at hi
      by_cases e2 : i = j
      · subst e2; have := hi.1; simp [St.setOb, Ob.live] at this
      · have hi' : Live (σ.pubs mid).ob cv i g := ⟨by have := hi.1; simpa [St.setOb, e2] using this, hi.2⟩
        exact e2 (h2.inj i j g hi' hl)

/-- A call, on symbolic states. -/
def CallStep (P : Program) (σ : St) (nid : Nat) (fx : AV) (avs : List AV) (σ' : St) (v : AV) : Prop :=
  ∃ f caps, fx = .val (.fn f caps) ∧ Entered P f ∧
    ((∃ ps r, PvsX σ avs ps ∧ Ct P f (ops (ps ++ caps)) r ∧
        ((∃ qs, r = .vals qs ∧ qs.all PV.isFlat = true ∧ σ' = σ ∧ v = resAV qs) ∨
         (∃ qs, r = .vals qs ∧ σ' = σ.pubs avs ∧ v = resAV qs) ∨
         (∃ e xs, r = .own e xs ∧ σ.isFree nid = true ∧ σ' = (σ.pubs avs).setOb nid (.row e xs) ∧ v = .ref nid))) ∨
     (∃ j e xs rest ps e' ys, avs = .ref j :: rest ∧ (σ.pubs rest).ob j = .row e xs ∧ PvsX σ rest ps ∧ Ct P f (.o e xs :: ops (ps ++ caps)) (.own e' ys) ∧ σ.isFree nid = true ∧
        σ' = ((σ.pubs rest).setOb j .gone).setOb nid (.row e' ys) ∧ v = .ref nid))

theorem getD_of_some {α : Type} {xs : Array α} {i : Nat} {x d : α} (h : xs[i]? = some x) : xs.getD i d = x := by
  simp [Array.getD_eq_getD_getElem?, h]

theorem evs_two (h : Rel P C σ a w cv) (xs : List Operand) : ∀ (j : Nat) (c : AV) (v : Value), (σ.evs xs)[j]? = some c → (xs.map a.eval)[j]? = some v → SRep w (FS C σ.ob cv w) cv c v := by
  intro j c v hc hv
  simp only [St.evs, List.getElem?_map] at hc hv
  cases hx : xs[j]? with
  | none => simp [hx] at hc
  | some x =>
    simp only [hx, Option.map_some, Option.some.injEq] at hc hv
    subst hc; subst hv
    exact (h.ev x).1

/-- What the machine does at a call. -/
theorem call_sound (h : Rel P C σ a w cv) {fx : Operand} {xs : Array Operand} {nid : Nat} {σ' : St} {v : AV} (hc : CallStep P σ nid (σ.ev fx) (σ.evs xs.toList) σ' v) :
    ∃ (f : FuncId) (args : Array Value), (∀ o : Oper, ∀ ts, o.op = .call { callee := .value fx, args := xs, argTypes := ts } → (execOp a.eval o).run P w = .ok (.enter f args) w) ∧
      Calls P f args w fun e w' => ∃ u cv', e = .returned u ∧ Rel P C σ' a w' cv' ∧ SRep w' (FS C σ'.ob cv' w') cv' v u ∧ ∀ i, v.ment i → σ'.ob i ≠ .free := by
  obtain ⟨f, caps, hfx, hent, hc⟩ := hc
  have hfv := (h.ev fx).1
  rw [hfx] at hfv
  obtain ⟨cvs, hfe, hcaps⟩ : ∃ cvs : List Value, a.eval fx = .func (.func f) #[] ⟨cvs⟩ ∧ Reps w (FS C σ.ob cv w) caps cvs := by
    generalize a.eval fx = u at hfv
    cases hfv with
    | fn _ _ vs hl hh => exact ⟨vs, rfl, hl, hh⟩
  have hmap : xs.map a.eval = ⟨xs.toList.map a.eval⟩ := by apply Array.ext'; simp
  refine ⟨f, ⟨xs.toList.map a.eval ++ cvs⟩, fun o ts ho => ?_, ?_⟩
  · obtain ⟨fn, hf, hn, hb⟩ := hent
    simp only [execOp, ho, resolve, Sem.run_bind, Deferred.ofValue, hfe, Sem.run_pure, Result.andThen_ok, invoke, callFunc, run_program, hf, hn, hb, Bool.false_eq_true, if_false, hmap]
    try simp [hn, hb]
  · rcases hc with ⟨ps, r, hps, hfn, hres⟩ | ⟨j, e, ys, rest, ps, e', zs, havs, hj, hps, hfn, hfree, rfl, rfl⟩
    · have h1 := (h.pubs (σ.evs xs.toList)).1
      have hF1 := (h.pubs (σ.evs xs.toList)).2
      have hrp := Rel.pvsX h (vs := xs.toList.map a.eval) hps (by simp [St.evs]) (evs_two h xs.toList)
      have hra := hrp.append (hcaps.mono (fun _ _ => rfl : Same (FS C σ.ob cv w) w w) hF1)
      refine (hfn w (FS C (σ.pubs (σ.evs xs.toList)).ob cv w) _ (fun b hb => h1.fs_lt hb) (argsRep_ops hra)).mono fun e w' hh => ?_
      obtain ⟨u, rfl, ho⟩ := hh
      have hold : ∀ k, k < w.heap.size → w'.heap[k]? = w.heap[k]? := fun k hk => ho.old k hk given_ops
      rcases hres with ⟨qs, rfl, hflat, rfl, rfl⟩ | ⟨qs, rfl, rfl, rfl⟩ | ⟨e, ys, rfl, hfr, rfl, rfl⟩
      · obtain ⟨us, rfl, hr⟩ := ho.res
        obtain ⟨h2, _, _⟩ := h.more ho.os ho.tape ho.output ho.size hold
        refine ⟨_, cv, rfl, h2, resAV_rep ⟨hr.1, fun i p v hp hv => ?_⟩, fun i hi => absurd hi resAV_ment⟩
        exact (hr.2 i p v hp hv).flat (List.all_eq_true.1 hflat p (List.mem_of_getElem? hp))
      · obtain ⟨us, rfl, hr⟩ := ho.res
        obtain ⟨h2, h3, h4⟩ := h1.more ho.os ho.tape ho.output ho.size hold
        refine ⟨_, cv, rfl, h2, resAV_rep (hr.mono (fun _ _ => rfl : Same (FN w w' _ _ _) w' w') fun b hb => ?_), fun i hi => absurd hi resAV_ment⟩
        rcases hb with hb | ⟨hb, hlt⟩
        · exact h3 b hb
        · rcases hb with hb | hb
          · exact h4 b hb hlt
          · exact absurd hb given_ops
      · obtain ⟨hown, hblk⟩ := ho.res
        have hA : ∀ F' : Nat → Prop, (∀ b, FS C (σ.pubs (σ.evs xs.toList)).ob cv w b → F' b) → (∀ b, (w.heap.size ≤ b ∨ some b = none) → b < w'.heap.size → blkOf u ≠ some b → F' b) →
            Same (FS C (σ.pubs (σ.evs xs.toList)).ob cv w) w w' → OwnRow P w' F' u e ys := by
          intro F' hF hN hS
          refine hown.mono (fun _ _ => rfl : Same _ w' w') (fun b hb => ?_) (fun _ _ => rfl)
          obtain ⟨hb, hne⟩ := hb
          rcases hb with hb | ⟨hb, hlt⟩
          · exact hF b hb
          · rcases hb with hb | hb
            · exact hN b (.inl hb) hlt hne
            · exact absurd hb given_ops
        have hB : ∀ b, blkOf u = some b → (some b = none ∨ w.heap.size ≤ b) ∧ b < w'.heap.size := by
          intro b hb
          obtain ⟨hb1, hb2⟩ := hblk b hb
          refine ⟨?_, hb2⟩
          rcases hb1 with hb1 | hb1
          · exact .inr hb1
          · exact absurd hb1 given_ops
        obtain ⟨cv', h2, h3⟩ := h1.grow (i := nid) (pubs_free _ _ _ (isFree_free hfr)) none (fun j hj => by cases hj) (w' := w') (row := none)
          ⟨ho.os, ho.tape, ho.output, ho.size, fun k hk _ => hold k hk⟩ (fun b hb => by cases hb) hA hB
        refine ⟨u, cv', rfl, h2, h3.symm, fun i hi => ?_⟩
        have e1 : nid = i := hi
        subst e1
        simp [St.setOb]
    · -- the first argument is handed over
      obtain ⟨x0, xr, hxs⟩ : ∃ x0 xr, xs.toList = x0 :: xr := by
        match hx : xs.toList, havs with
        | x0 :: xr, _ => exact ⟨x0, xr, rfl⟩
        | [], ha => simp [St.evs, hx] at ha
      rw [hxs] at havs ⊢
      simp only [St.evs, List.map_cons, List.cons.injEq] at havs
      obtain ⟨hx0, hrest⟩ := havs
      have hv0 := (h.ev x0).1
      rw [hx0] at hv0
      have hv0 : a.eval x0 = cv j := hv0
      have h1 := (h.pubs rest).1
      have hF1 := (h.pubs rest).2
      have hrp := Rel.pvsX h (cs := rest) (vs := xr.map a.eval) hps (by simp [← hrest]) (by
        intro k c v hc hv
        refine evs_two h xr k c v ?_ hv
        simp only [St.evs, hrest]; exact hc)
      have hra := hrp.append (hcaps.mono (fun _ _ => rfl : Same (FS C σ.ob cv w) w w) hF1)
      have ho1 := h1.obs j
      rw [hj] at ho1
      have hlj : ((σ.pubs rest).ob j).live = true := by rw [hj]; rfl
      have hgiv : ∀ b, Given (.o e ys :: ops (ps ++ caps)) (cv j :: (xr.map a.eval ++ cvs)) b → blkOf (cv j) = some b := by
        rintro b ⟨i, e0, xs0, v, hi, hv, hb⟩
        cases i with
        | zero => simp at hv; rw [hv]; exact hb
        | succ i => exact (ops_o (by simpa using hi)).elim
      have hargs : ArgsRep P w (FS C (σ.pubs rest).ob cv w) (.o e ys :: ops (ps ++ caps)) (cv j :: (xr.map a.eval ++ cvs)) := {
        len := by have := hra.1; simp [ops] at this ⊢; omega
        reps := fun i x v hx hv => by
          cases i with
          | zero => simp at hx hv; subst hx; subst hv; exact ho1
          | succ i => exact (argsRep_ops (P := P) hra).reps i x v (by simpa using hx) (by simpa using hv)
        off := fun b hb hF => h1.fs_live hF ⟨hlj, hgiv b hb⟩
        one := fun i k e0 e1 xs0 ys0 hi hk => by
          cases i with
          | zero => cases k with
            | zero => rfl
            | succ k => exact (ops_o (by simpa using hk)).elim
          | succ i => exact (ops_o (by simpa using hi)).elim }
      simp only [List.map_cons, List.cons_append, hv0]
      refine (hfn w _ _ (fun b hb => h1.fs_lt hb) hargs).mono fun e w' hh => ?_
      obtain ⟨u, rfl, ho⟩ := hh
      obtain ⟨hown, hblk⟩ := ho.res
      have hgiv2 : ∀ b, blkOf (cv j) = some b → Given (.o e ys :: ops (ps ++ caps)) (cv j :: (xr.map a.eval ++ cvs)) b := fun b hb => ⟨0, e, ys, cv j, rfl, rfl, hb⟩
      have hA : ∀ F' : Nat → Prop, (∀ b, FS C (σ.pubs rest).ob cv w b → F' b) → (∀ b, (w.heap.size ≤ b ∨ some b = blkOf (cv j)) → b < w'.heap.size → blkOf u ≠ some b → F' b) →
          Same (FS C (σ.pubs rest).ob cv w) w w' → OwnRow P w' F' u e' zs := by
        intro F' hF hN hS
        refine hown.mono (fun _ _ => rfl : Same _ w' w') (fun b hb => ?_) (fun _ _ => rfl)
        obtain ⟨hb, hne⟩ := hb
        rcases hb with hb | ⟨hb, hlt⟩
        · exact hF b hb
        · rcases hb with hb | hb
          · exact hN b (.inl hb) hlt hne
          · exact hN b (.inr (hgiv b hb).symm) hlt hne
      have hB : ∀ b, blkOf u = some b → (some b = blkOf (cv j) ∨ w.heap.size ≤ b) ∧ b < w'.heap.size := by
        intro b hb
        obtain ⟨hb1, hb2⟩ := hblk b hb
        refine ⟨?_, hb2⟩
        rcases hb1 with hb1 | hb1
        · exact .inr hb1
        · exact .inl (hgiv b hb1).symm
      obtain ⟨cv', h2, h3⟩ := h1.grow (i := nid) (pubs_free _ _ _ (isFree_free hfree)) (some j) (fun k hk => by cases hk; exact hlj) (w' := w') (row := blkOf (cv j))
        ⟨ho.os, ho.tape, ho.output, ho.size, fun k hk hne => ho.old k hk (fun hg => hne (hgiv k hg).symm)⟩ (fun b hb => ⟨j, rfl, hb⟩) hA hB
      refine ⟨u, cv', rfl, h2, h3.symm, fun i hi => ?_⟩
      have e1 : nid = i := hi
      subst e1
      simp [St.setOb]

end
end Go.Proofs.YtglpemnejngkaaaVm
