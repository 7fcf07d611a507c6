/- The operations, on symbolic states, and that the machine does what they say: reading. -/
import Derived.Test.YtglpemnejngkaaaVmC
import Derived.Laws.Rows
import Derived.Laws.Strings
set_option linter.unusedVariables false
set_option linter.unusedSimpArgs false
namespace Go.Proofs.YtglpemnejngkaaaVm
open Go Classical

def cAV : Value → AV
  | .int k n => .val (.int k n)
  | .bool b => .val (.bool b)
  | .string s => .val (.str s.data.toList)
  | .slice none 0 0 => .nils
  | .pointer none => .val .nilp
  | _ => .any

def St.ev (σ : St) : Operand → AV
  | .tmp t => σ.sl t
  | .const v => cAV v
  | .func f => .val (.fn f [])
  | .global _ => .any

theorem cAV_rep (w : World) (F : Nat → Prop) (cv : Nat → Value) (v : Value) : SRep w F cv (cAV v) v := by
  unfold cAV
  split
  · exact .int _ _
  · exact .bool _
  · rename_i s; exact Rep.str s.data.toList
  · rfl
  · exact .nilp
  · trivial

theorem cAV_ment (v : Value) (i : Nat) : ¬ (cAV v).ment i := by
  unfold cAV; split <;> exact fun h => h

def aggOf (P : Program) (t : TypeId) : Option Bool :=
  match P.underlying t with
  | some (.struct _) => some true
  | some (.array _ _) => some true
  | some _ => some false
  | none => none
def elOf (P : Program) (t : TypeId) : Option TypeId :=
  match P.underlying t with
  | some (.slice e) => some e
  | _ => none
def fldOf (P : Program) (t : TypeId) (f : Nat) : Option (Nat × TypeId) :=
  match P.underlying t with
  | some (.struct fs) => match fs[f]? with
    | some x => some (x.offset, x.type)
    | none => none
  | _ => none
def byOf (P : Program) (t : TypeId) : Option Nat := (P.info? t).map (·.bytes)
def zeroOf (P : Program) (t : TypeId) : Option (List AV) :=
  match P.info? t with
  | some i => match i.zero with
    | some z => some (z.cells.toList.map cAV)
    | none => none
  | none => none

section
variable {P : Program} {C : Ctx} {σ : St} {a : Act} {w : World} {cv : Nat → Value}

theorem Rel.ev (h : Rel P C σ a w cv) (x : Operand) : SRep w (FS C σ.ob cv w) cv (σ.ev x) (a.eval x) ∧ ∀ i, (σ.ev x).ment i → σ.ob i ≠ .free := by
  cases x with
  | tmp t => exact ⟨h.slots t, h.ments t⟩
  | const v => exact ⟨cAV_rep _ _ _ v, fun i hi => absurd hi (cAV_ment v i)⟩
  | global g => exact ⟨trivial, fun i hi => hi.elim⟩
  | func f => exact ⟨Rep.fn f [] [] rfl (fun i c v hc => by simp at hc), fun i hi => hi.elim⟩

theorem run_isAgg {t : TypeId} {ag : Bool} (h : aggOf P t = some ag) : (isAgg t).run P w = .ok ag w := by
  unfold aggOf at h
  split at h
  all_goals first
    | (rename_i hu; obtain rfl := Option.some.inj h; simp [isAgg, underlying, hu]; done)
    | (rename_i d hd1 hd2 hu; obtain rfl := Option.some.inj h; simp [isAgg, underlying]; rw [hu]; simp only [Sem.run_pure, Result.andThen_ok]; split <;> simp_all)
    | cases h
theorem run_sizeOf {t : TypeId} {n : Nat} (h : szOf P t = some n) : (sizeOf t).run P w = .ok n w := by
  unfold szOf at h
  cases hi : P.info? t with
  | none => simp [hi] at h
  | some i => simp [hi] at h; simp [sizeOf, typeInfo, hi, h]

/-- What the call has done to an operation: its value, and the state. -/
def OpOK (P : Program) (C : Ctx) (a : Act) (s : Sem Next) (w : World) (σ' : St) (v : AV) : Prop :=
  ∃ u w' cv', (s.run P w = .ok (.value u) w' ∨ (s.run P w = .ok .skip w' ∧ u = undef)) ∧ Rel P C σ' a w' cv' ∧ SRep w' (FS C σ'.ob cv' w') cv' v u ∧ ∀ i, v.ment i → σ'.ob i ≠ .free

/-! Loads. -/
def partPV (ag : Bool) (n : Nat) (cs : List PV) (o : Nat) : Option PV :=
  if ag = true then (if o + n ≤ cs.length then some (.agg ((cs.drop o).take n)) else none) else cs[o]?

def ldAt (P : Program) (t : TypeId) (x : PV) (o : Nat) : Option PV :=
  match aggOf P t, szOf P t with
  | some ag, some n =>
    if o = 0 ∧ x.isAgg = ag ∧ x.cells.length = n then some x else partPV ag n x.cells o
  | _, _ => none

theorem Reps.drop_take {w : World} {F : Nat → Prop} {ps : List PV} {vs : List Value} (h : Reps w F ps vs) (o n : Nat) : Reps w F ((ps.drop o).take n) ((vs.drop o).take n) :=
  (h.drop o).take n

theorem noagg_sub {ps : List PV} (h : ∀ p ∈ ps, p.isAgg = false) (o n : Nat) : ∀ p ∈ (ps.drop o).take n, p.isAgg = false :=
  fun p hp => h p (List.mem_of_mem_drop (List.mem_of_mem_take hp))

theorem run_ldAt {F : Nat → Prop} {t : TypeId} {x y : PV} {o : Nat} (hy : ldAt P t x o = some y) {ad : Addr} {vs : List Value} (hr : Reps w F x.cells vs)
    (ha : ∀ c ∈ x.cells, c.isAgg = false) (hcell : ∀ (j : Nat) (v : Value), vs[j]? = some v → w.cell? (ad.add j) = some v) :
    ∃ u, (loadVar t (ad.add o)).run P w = .ok u w ∧ Rep w F y u := by
  unfold ldAt at hy
  split at hy
  · rename_i ag n hag hn
    have hpart : ∀ z, partPV ag n x.cells o = some z → ∃ u, (loadVar t (ad.add o)).run P w = .ok u w ∧ Rep w F z u := by
      intro z hz
      unfold partPV at hz
      split at hz
      · rename_i e
        subst e
        split at hz
        · rename_i hle
          obtain rfl := Option.some.inj hz
          have hs := hr.drop_take o n
          have hl : ((vs.drop o).take n).length = n := by rw [hs.1, List.length_take, List.length_drop]; omega
          have hc := cells_add hcell o n
          have hrun := run_loadCells_list (P := P) w (ad.add o) ((vs.drop o).take n) hc
          rw [hl] at hrun
          refine ⟨.agg ⟨(vs.drop o).take n⟩, ?_, .agg _ _ hs.1 (noagg_sub ha o n) hs.2⟩
          simp [loadVar, run_isAgg hag, run_sizeOf hn, hrun]
        · cases hz
      · rename_i e
        have e : ag = false := by simpa using e
        subst e
        obtain ⟨v, hv, hrep⟩ := hr.get hz
        refine ⟨v, ?_, hrep⟩
        simp [loadVar, run_isAgg hag, hcell o v hv]
    split at hy
    · rename_i hc
      obtain ⟨rfl, h1, h2⟩ := hc
      obtain rfl := Option.some.inj hy
      cases ag with
      | true =>
        cases x with
        | agg cs =>
          refine hpart _ ?_
          simp only [PV.cells] at h2
          simp [partPV, PV.cells, h2]
          exact List.take_of_length_le (by omega)
        | _ => simp [PV.isAgg] at h1
      | false =>
        refine hpart _ ?_
        cases x <;> simp [PV.isAgg, partPV, PV.cells] at *
    · exact hpart y hy
  · cases hy

def St.pvs (σ : St) : List AV → Option (List PV)
  | [] => some []
  | c :: cs => match σ.pv c, σ.pvs cs with
    | some p, some ps => some (p :: ps)
    | _, _ => none
def St.pubs (σ : St) : List AV → St
  | [] => σ
  | c :: cs => (σ.pub c).pubs cs

theorem pub_pv (σ : St) (v c : AV) : (σ.pub v).pv c = σ.pv c := by
  have key : ∀ (i : Nat) (o : Ob), (∀ (j : Nat), (σ.setOb i o).pv (.ref j) = σ.pv (.ref j)) → (∀ (j k : Nat), (σ.setOb i o).pv (.adr j k) = σ.pv (.adr j k)) → (σ.setOb i o).pv c = σ.pv c := by
    intro i o h1 h2
    cases c <;> first | rfl | exact h1 _ | exact h2 _ _
  cases v <;> try rfl
  · rename_i i
    simp only [St.pub]
    split
    · rename_i e xs he
      refine key i _ (fun j => ?_) (fun j k => ?_)
      · simp only [St.pv, St.setOb]
        by_cases ej : j = i
        · subst ej; simp [he]
        · simp [ej]
      · simp only [St.pv, St.setOb]
        by_cases ej : j = i
        · subst ej; simp [he]
        · simp [ej]
    · rfl
  · rename_i i o
    simp only [St.pub]
    split
    · rename_i ag cs he
      split
      · rename_i x hx
        refine key i _ (fun j => ?_) (fun j k => ?_)
        · simp only [St.pv, St.setOb]
          by_cases ej : j = i
          · subst ej; simp [he]
          · simp [ej]
        · simp only [St.pv, St.setOb]
          by_cases ej : j = i
          · subst ej; simp [he, hx]
          · simp [ej]
      · rfl
    · rfl

theorem pub_pvs (σ : St) (v : AV) : ∀ cs, (σ.pub v).pvs cs = σ.pvs cs
  | [] => rfl
  | c :: cs => by simp only [St.pvs, pub_pv, pub_pvs σ v cs]

theorem Rel.pubs : ∀ {σ : St} (h : Rel P C σ a w cv) (cs : List AV), Rel P C (σ.pubs cs) a w cv ∧ (∀ b, FS C σ.ob cv w b → FS C (σ.pubs cs).ob cv w b)
  | _, h, [] => ⟨h, fun _ hb => hb⟩
  | _, h, c :: cs => by
    have h1 := h.pub c
    have h2 := Rel.pubs h1.1 cs
    exact ⟨h2.1, fun b hb => h2.2 b (h1.2 b hb)⟩

theorem pubs_ob : ∀ (cs : List AV) (σ : St) (i : Nat), (σ.pubs cs).ob i = .free → σ.ob i = .free
  | [], _, _, h => h
  | c :: cs, σ, i, h => pub_pub_ob c i (pubs_ob cs (σ.pub c) i h)

theorem Rel.pvs : ∀ {cs : List AV} {σ : St} (h : Rel P C σ a w cv) {ps : List PV} {vs : List Value}, σ.pvs cs = some ps → vs.length = cs.length →
    (∀ (j : Nat) (c : AV) (v : Value), cs[j]? = some c → vs[j]? = some v → SRep w (FS C σ.ob cv w) cv c v) → Reps w (FS C (σ.pubs cs).ob cv w) ps vs
  | [], σ, h, ps, vs, hp, hl, hr => by
    simp [St.pvs] at hp; subst hp
    obtain rfl : vs = [] := by simpa using hl
    exact Reps.nil _ _
  | c :: cs, σ, h, ps, vs, hp, hl, hr => by
    cases vs with
    | nil => simp at hl
    | cons v vs =>
      simp only [St.pvs] at hp
      split at hp
      · rename_i p qs h1 h2
        obtain rfl := Option.some.inj hp
        have hpub := h.pub c
        have hv := h.pv h1 (hr 0 c v rfl rfl)
        have hps := (Rel.pubs hpub.1 cs).2
        refine Reps.cons (hv.mono (fun _ _ => rfl : Same (FS C (σ.pub c).ob cv w) w w) hps) ?_
        refine Rel.pvs hpub.1 (by rw [pub_pvs]; exact h2) (by simpa using hl) (fun j d u hd hu => ?_)
        exact (hr (j + 1) d u (by simpa using hd) (by simpa using hu)).mono (fun _ _ => rfl : Same (FS C σ.ob cv w) w w) hpub.2 (fun _ _ => rfl)
      · cases hp

def stLoad (P : Program) (σ : St) (t : TypeId) : AV → Option (St × AV)
  | .val (.ptr x) => match ldAt P t x 0 with
    | some y => some (σ, .val y)
    | none => none
  | .adr i o => match σ.ob i with
    | .pbox x => match ldAt P t x o with
      | some y => some (σ, .val y)
      | none => none
    | .box _ cs => match aggOf P t, szOf P t with
      | some true, some n => if o + n ≤ cs.length then match σ.pvs ((cs.drop o).take n) with
        | some ps => if ∀ p ∈ ps, p.isAgg = false then some (σ.pubs ((cs.drop o).take n), .val (.agg ps)) else none
        | none => none else none
      | some false, some _ => match cs[o]? with
        | some c => some (σ, c)
        | none => none
      | _, _ => none
    | _ => none
  | .ead i sz k o => match σ.ob i with
    | .row _ xs => match xs[k]? with
      | some x => if x.cells.length = sz then match ldAt P t x o with
        | some y => some (σ, .val y)
        | none => none else none
      | none => none
    | _ => none
  | _ => none

theorem box_cell {i b : Nat} {cs : List AV} {ty : TypeId} {arr : List Value} (h2 : w.heap[b]? = some (.cells ⟨arr⟩ ty (0, 0))) : ∀ (j : Nat) (v : Value), arr[j]? = some v → w.cell? ((⟨b, 0, none⟩ : Addr).add j) = some v := by
  intro j v hj
  rw [Addr_add_lit, Nat.zero_add, cell_of_row w b j ⟨arr⟩ ty (0, 0) h2]
  simpa using hj

theorem add_zero (ad : Addr) : ad.add 0 = ad := by unfold Addr.add; simp

theorem Rel.load (h : Rel P C σ a w cv) {t : TypeId} {v : AV} {u : Value} (hv : SRep w (FS C σ.ob cv w) cv v u) {σ' : St} {r : AV} (hst : stLoad P σ t v = some (σ', r)) :
    ∃ x, (Instr.loadAt t u).run P w = .ok x w ∧ Rel P C σ' a w cv ∧ SRep w (FS C σ'.ob cv w) cv r x ∧ ∀ i, r.ment i → σ'.ob i ≠ .free := by
  have nom : ∀ p i, (AV.val p).ment i → σ.ob i ≠ .free := fun p i hi => hi.elim
  unfold stLoad at hst
  split at hst
  · rename_i x
    split at hst
    · rename_i y hy
      obtain ⟨rfl, rfl⟩ := Prod.mk.inj (Option.some.inj hst)
      cases hv with
      | ptr _ ad cvs hF hl hcell ha hh =>
        obtain ⟨z, h1, h2⟩ := run_ldAt (P := P) hy ⟨hl, hh⟩ ha hcell
        rw [add_zero] at h1
        exact ⟨z, by simp [Instr.loadAt, Instr.sureAddr, h1], h, h2, fun i hi => hi.elim⟩
    · cases hst
  · rename_i i o
    obtain ⟨b, hb, rfl⟩ := hv
    have ho := h.obs i
    split at hst
    · rename_i x he
      split at hst
      · rename_i y hy
        obtain ⟨rfl, rfl⟩ := Prod.mk.inj (Option.some.inj hst)
        rw [he, ObRep, hb] at ho
        cases ho with
        | ptr _ ad cvs hF hl hcell ha hh =>
          obtain ⟨z, h1, h2⟩ := run_ldAt (P := P) hy ⟨hl, hh⟩ ha hcell
          rw [Addr_add_lit, Nat.zero_add] at h1
          exact ⟨z, by simp [Instr.loadAt, Instr.sureAddr, h1], h, h2, fun i hi => hi.elim⟩
      · cases hst
    · rename_i ag cs he
      rw [he] at ho
      obtain ⟨b', ty, arr, h1, h2, h3, h4, h5⟩ := ho
      rw [hb] at h1
      cases h1
      have hcell := box_cell (i := i) (cs := cs) h2
      split at hst
      · rename_i n hag hn
        split at hst
        · rename_i hle
          split at hst
          · rename_i ps hps
            split at hst
            · rename_i hnoag
              obtain ⟨rfl, rfl⟩ := Prod.mk.inj (Option.some.inj hst)
              have hl : ((arr.drop o).take n).length = ((cs.drop o).take n).length := by simp [h3]
              have hl2 : ((arr.drop o).take n).length = n := by simp [h3]; omega
              have hr := Rel.pvs h (vs := (arr.drop o).take n) hps hl (fun j c v hc hv => by
                rw [List.getElem?_take] at hc hv
                split at hc
                · rename_i hjn
                  rw [if_pos hjn] at hv
                  rw [List.getElem?_drop] at hc hv
                  exact (h5 _ c v hc hv).1
                · cases hc)
              have hrun := run_loadCells_list (P := P) w ((⟨b, 0, none⟩ : Addr).add o) ((arr.drop o).take n) (cells_add hcell o n)
              rw [hl2, Addr_add_lit, Nat.zero_add] at hrun
              exact ⟨.agg ⟨(arr.drop o).take n⟩, by simp [Instr.loadAt, Instr.sureAddr, loadVar, run_isAgg hag, run_sizeOf hn, hrun], (h.pubs _).1, .agg _ _ hr.1 hnoag hr.2, fun i hi => hi.elim⟩
            · cases hst
          · cases hst
        · cases hst
      · rename_i n hag hn
        split at hst
        · rename_i c hc
          obtain ⟨rfl, rfl⟩ := Prod.mk.inj (Option.some.inj hst)
          have hlt : o < arr.length := by rw [h3]; exact (List.getElem?_eq_some_iff.1 hc).1
          have hg := List.getElem?_eq_getElem hlt
          have hcl := hcell o _ hg
          rw [Addr_add_lit, Nat.zero_add] at hcl
          exact ⟨arr[o], by simp [Instr.loadAt, Instr.sureAddr, loadVar, run_isAgg hag, hcl], h, (h5 o c _ hc hg).1, fun j hj => h.mento i j (by rw [he]; exact ⟨c, List.mem_of_getElem? hc, hj⟩)⟩
        · cases hst
      · cases hst
    · cases hst
  · rename_i i sz k o
    obtain ⟨b, n, c, hb, rfl⟩ := hv
    have ho := h.obs i
    split at hst
    · rename_i e xs he
      rw [he] at ho
      split at hst
      · rename_i x hx
        split at hst
        · rename_i hsz
          split at hst
          · rename_i y hy
            obtain ⟨rfl, rfl⟩ := Prod.mk.inj (Option.some.inj hst)
            obtain ⟨sz', cells, g1, g2, g3, g4, g5, g6⟩ := ho
            have hszz : sz' = sz := by rw [← g3 x (List.mem_of_getElem? hx)]; exact hsz
            subst hszz
            have hcell : ∀ (j : Nat) (v : Value), cells[j]? = some v → w.cell? ((⟨b, 0, none⟩ : Addr).add j) = some v := g4.cells (by rw [hb]; rfl)
            have hxc := flat_elem g3 hx
            have hr := (g5.drop_take (k * sz') sz')
            rw [hxc] at hr
            have hcell2 := cells_add hcell (k * sz') sz'
            obtain ⟨z, h1, h2⟩ := run_ldAt (P := P) hy hr (fun c hc => g6 c (by rw [← hxc] at hc; exact List.mem_of_mem_drop (List.mem_of_mem_take hc))) hcell2
            rw [Addr_add_lit, Addr_add_lit, Nat.zero_add] at h1
            exact ⟨z, by simp [Instr.loadAt, Instr.sureAddr, h1], h, h2, fun i hi => hi.elim⟩
          · cases hst
        · cases hst
      · cases hst
    · cases hst
  · cases hst

end
end Go.Proofs.YtglpemnejngkaaaVm
