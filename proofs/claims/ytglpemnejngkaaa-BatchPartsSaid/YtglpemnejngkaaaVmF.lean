/- The operations, on symbolic states: new variables, rows, structs, and what is appended. -/
import Derived.Test.YtglpemnejngkaaaVmE
set_option linter.unusedVariables false
set_option linter.unusedSimpArgs false
namespace Go.Proofs.YtglpemnejngkaaaVm
open Go Classical

section
variable {P : Program} {C : Ctx} {σ : St} {a : Act} {w : World} {cv : Nat → Value}

def St.isFree (σ : St) (i : Nat) : Bool :=
  match σ.ob i with
  | .free => true
  | _ => false
theorem isFree_free {i : Nat} (h : σ.isFree i = true) : σ.ob i = .free := by
  unfold St.isFree at h; split at h <;> first | assumption | cases h

theorem Rel.newPtr (h : Rel P C σ a w cv) {i : Nat} (hf : σ.ob i = .free) {ag : Bool} {cs : List AV} {vs : List Value} {ty : TypeId}
    (h2 : Two (fun c v => SRep w (FS C σ.ob cv w) cv c v ∧ v.oneCell' = true) cs vs) (hc : ∀ c ∈ cs, c.cell = true) (hm : ∀ c ∈ cs, ∀ j, c.ment j → σ.ob j ≠ .free) :
    ∃ cv', Rel P C (σ.setOb i (.box ag cs)) a (w.alloc (.cells ⟨vs⟩ ty)) cv' ∧ SRep (w.alloc (.cells ⟨vs⟩ ty)) (FS C (σ.setOb i (.box ag cs)).ob cv' (w.alloc (.cells ⟨vs⟩ ty))) cv' (.adr i 0) (.pointer (some ⟨w.heap.size, 0, none⟩)) := by
  have hmi : ∀ j, (Ob.box ag cs).ment j → σ.ob j ≠ .free := fun j ⟨c, hcm, hj⟩ => hm c hcm j hj
  have hs : Same (FS C σ.ob cv w) w (w.alloc (.cells ⟨vs⟩ ty)) := fun b hb => heap_alloc_old w _ b (h.fs_lt hb)
  refine ⟨_, h.new i hf (.box ag cs) vs ty (.pointer (some ⟨w.heap.size, 0, none⟩)) rfl rfl (fun F' cv' hF hi hcv => ?_) hmi (fun hj => hmi i hj hf), ⟨w.heap.size, by simp, rfl⟩⟩
  refine ⟨w.heap.size, ty, vs, hi, heap_alloc_new w _, h2.1, hc, fun j c v hjc hjv => ⟨((h2.2 j c v hjc hjv).1).mono hs hF fun k hk => hcv k (fun e => ?_), (h2.2 j c v hjc hjv).2⟩⟩
  exact hm c (List.mem_of_getElem? hjc) k hk (e ▸ hf)

/-! ### alloc, box -/
def stAlloc (P : Program) (σ : St) (i : Nat) (t : TypeId) : Option (St × AV) :=
  match zeroOf P t, aggOf P t with
  | some zs, some ag => if zs.all AV.cell = true ∧ σ.isFree i = true then some (σ.setOb i (.box ag zs), .adr i 0) else none
  | _, _ => none

theorem Rel.allocOp (h : Rel P C σ a w cv) {i : Nat} {t : TypeId} {σ' : St} {r : AV} (hst : stAlloc P σ i t = some (σ', r)) :
    RunOK P C a (Instr.alloc t true (.tuple #[])) w σ' r := by
  unfold stAlloc at hst
  split at hst
  · rename_i zs ag hz hag
    split at hst
    · rename_i hc
      obtain ⟨hc, hfr⟩ := hc
      obtain ⟨rfl, rfl⟩ := Prod.mk.inj (Option.some.inj hst)
      unfold zeroOf at hz
      split at hz
      · rename_i inf hi
        split at hz
        · rename_i z hzz
          obtain rfl := Option.some.inj hz
          have hcell : ∀ v ∈ z.cells.toList, (cAV v).cell = true := fun v hv => List.all_eq_true.1 hc _ (List.mem_map_of_mem hv)
          obtain ⟨cv', h1, h2⟩ := h.newPtr (ag := ag) (cs := z.cells.toList.map cAV) (vs := z.cells.toList) (ty := t) (isFree_free hfr)
            ⟨by simp, fun j c v hj hv => by
              simp only [List.getElem?_map, hv, Option.map_some, Option.some.injEq] at hj
              subst hj
              exact ⟨cAV_rep _ _ _ v, cAV_oneCell (hcell v (List.mem_of_getElem? hv))⟩⟩
            (fun c hcm => List.all_eq_true.1 hc c hcm) (fun c hcm j hj => by
              obtain ⟨v, _, rfl⟩ := List.mem_map.1 hcm
              exact absurd hj (cAV_ment v j))
          refine ⟨_, _, cv', ?_, h1, h2, fun j hj => ?_⟩
          · simp [Instr.alloc, zeroValue, typeInfo, hi, hzz, newVar, Go.newRow]
          · have e : i = j := hj
            subst e
            simp [St.setOb]
        · cases hz
      · cases hz
    · cases hst
  · cases hst

def stBox (P : Program) (σ : St) (i : Nat) (t : TypeId) (v : AV) : Option (St × AV) :=
  match aggOf P t with
  | some true => match v with
    | .val x => if x.isAgg = true ∧ σ.isFree i = true then some (σ.setOb i (.box true (x.cells.map .val)), .adr i 0) else none
    | _ => none
  | some false => if σ.okCell v = true ∧ σ.isFree i = true then some (σ.setOb i (.box false [v]), .adr i 0) else none
  | none => none

theorem Rel.boxOp (h : Rel P C σ a w cv) {i : Nat} {t : TypeId} {v : AV} {u : Value} (hv : SRep w (FS C σ.ob cv w) cv v u) (hm : ∀ i, v.ment i → σ.ob i ≠ .free)
    {σ' : St} {r : AV} (hst : stBox P σ i t v = some (σ', r)) : RunOK P C a (Instr.box t u) w σ' r := by
  unfold stBox at hst
  split at hst
  · rename_i hag
    split at hst
    · rename_i x
      split at hst
      · rename_i hc
        obtain ⟨hx, hfr⟩ := hc
        obtain ⟨rfl, rfl⟩ := Prod.mk.inj (Option.some.inj hst)
        obtain ⟨vs, rfl, hr, hna⟩ := Rep.cells_of_agg hv hx
        obtain ⟨cv', h1, h2⟩ := h.newPtr (ag := true) (ty := t) (isFree_free hfr) (Two.val (cv := cv) hr hna)
          (fun c hc => by obtain ⟨q, hq, rfl⟩ := List.mem_map.1 hc; simp [AV.cell, hna q hq]) (fun c hc j hj => by obtain ⟨q, hq, rfl⟩ := List.mem_map.1 hc; exact hj.elim)
        refine ⟨_, _, cv', ?_, h1, h2, fun j hj => ?_⟩
        · simp [Instr.box, newVar, Go.newRow, Value.cells]
        · have e : i = j := hj
          subst e
          simp [St.setOb]
      · cases hst
    · cases hst
  · rename_i hag
    split at hst
    · rename_i hc
      obtain ⟨hok, hfr⟩ := hc
      obtain ⟨rfl, rfl⟩ := Prod.mk.inj (Option.some.inj hst)
      have h1 := h.okCell hok hv
      obtain ⟨cv', g1, g2⟩ := h.newPtr (ag := false) (cs := [v]) (vs := [u]) (ty := t) (isFree_free hfr) (Two.one ⟨hv, h1⟩)
        (fun c hc => by rw [List.mem_singleton.1 hc]; exact okCell_cell hok) (fun c hc j hj => by rw [List.mem_singleton.1 hc] at hj; exact hm j hj)
      refine ⟨_, _, cv', ?_, g1, g2, fun j hj => ?_⟩
      · simp [Instr.box, newVar, Go.newRow, oneCell_cells h1]
      · have e : i = j := hj
        subst e
        simp [St.setOb]
    · cases hst
  · cases hst

/-! ### struct literals -/
def plOf (P : Program) (t : TypeId) : Option (List (Nat × Nat)) :=
  match P.underlying t with
  | some (.struct fs) => fs.toList.mapM (fun f => (P.info? f.type).map fun i => (f.offset, i.size))
  | _ => none

def fillP (places : List (Nat × Nat)) : List PV → List (Nat × PV) → Option (List PV)
  | cs, [] => some cs
  | cs, (i, p) :: rest => match places[i]? with
    | some (o, n) => if p.cells.length = n ∧ o + n ≤ cs.length then fillP places (cs.take o ++ p.cells ++ cs.drop (o + n)) rest else none
    | none => none

def idxs (parts : List (Nat × Operand)) : List Nat := parts.map (·.1)
def opers (parts : List (Nat × Operand)) : List Operand := parts.map (·.2)
def St.evs (σ : St) (xs : List Operand) : List AV := xs.map σ.ev

def stBuild (P : Program) (σ : St) (t : TypeId) (parts : List (Nat × Operand)) : Option (St × AV) :=
  match zeroOf P t, plOf P t, σ.pvs (σ.evs (opers parts)) with
  | some zs, some places, some ps => match purs zs with
    | some z => match fillP places z ((idxs parts).zip ps) with
      | some cs => if (∀ p ∈ z, p.isAgg = false) ∧ aggOf P t = some true then some (σ.pubs (σ.evs (opers parts)), .val (.agg cs)) else none
      | none => none
    | none => none
  | _, _, _ => none

theorem fold_splice (vs : List Value) (o : Nat) (cs : Array Value) (h : o + vs.length ≤ cs.size) :
    ((vs.toArray.zipIdx.foldl (fun cs (x : Value × Nat) => cs.setIfInBounds (o + x.2) x.1) cs)).toList = cs.toList.take o ++ vs ++ cs.toList.drop (o + vs.length) := by
  have e : vs.toArray.zipIdx.foldl (fun cs (x : Value × Nat) => cs.setIfInBounds (o + x.2) x.1) cs = (vs.zipIdx 0).foldl (fun cs (x : Value × Nat) => cs.setIfInBounds (o + x.2) x.1) cs := by
    rw [← Array.foldl_toList, Array.toList_zipIdx]
  rw [e]
  obtain ⟨h1, h2⟩ := Great.foldl_set o vs 0 cs
  apply List.ext_getElem?
  intro k
  have := h2 k
  have hcl := Array.length_toList (xs := cs)
  rw [← Array.getElem?_toList] at this
  rw [this]
  simp only [Nat.add_zero]
  by_cases hk1 : k < o
  · rw [if_neg (by omega)]
    rw [List.append_assoc, List.getElem?_append_left (by rw [List.length_take]; omega), List.getElem?_take, if_pos hk1]
    simp
  · by_cases hk2 : k < o + vs.length
    · rw [if_pos ⟨by omega, hk2, by omega⟩]
      rw [List.append_assoc, List.getElem?_append_right (by rw [List.length_take]; omega), List.length_take]
      rw [show min o cs.toList.length = o by omega, List.getElem?_append_left (by omega)]
    · rw [if_neg (by omega)]
      rw [List.getElem?_append_right (by rw [List.length_append, List.length_take]; omega), List.length_append, List.length_take]
      rw [show min o cs.toList.length = o by omega, List.getElem?_drop, show o + vs.length + (k - (o + vs.length)) = k by omega]
      simp

theorem fillP_reps {F : Nat → Prop} {places : List (Nat × Nat)} : ∀ {idx : List Nat} {ps : List PV} {vs : List Value} {zs cs : List PV} {zv : List Value}, fillP places zs (idx.zip ps) = some cs →
    idx.length = ps.length → Reps w F ps vs → Reps w F zs zv → (∀ p ∈ zs, p.isAgg = false) →
    ∃ cvs : List Value, Instr.fill (places.toArray[·]?) ⟨zv⟩ (idx.zip vs) = some ⟨cvs⟩ ∧ Reps w F cs cvs ∧ ∀ p ∈ cs, p.isAgg = false
  | [], ps, vs, zs, cs, zv, h, hl, hp, hz, hn => by
    simp only [List.zip_nil_left, fillP] at h
    obtain rfl := Option.some.inj h
    exact ⟨zv, by simp [Instr.fill], hz, hn⟩
  | i :: idx, [], vs, zs, cs, zv, h, hl, hp, hz, hn => by simp at hl
  | i :: idx, p :: ps, [], zs, cs, zv, h, hl, hp, hz, hn => by have := hp.1; simp at this
  | i :: idx, p :: ps, v :: vs, zs, cs, zv, h, hl, hp, hz, hn => by
    simp only [List.zip_cons_cons, fillP] at h
    split at h
    · rename_i o n hpl
      split at h
      · rename_i hc
        obtain ⟨hpn, hle⟩ := hc
        obtain ⟨hv, hps⟩ := hp.tail
        obtain ⟨r1, r2⟩ := hv.cells
        have hvl : v.cells.toList.length = n := by rw [r1.1, hpn]
        have hvs : v.cells.size = n := by rw [← Array.length_toList]; exact hvl
        have hzl := hz.1
        have hnew : Reps w F (zs.take o ++ p.cells ++ zs.drop (o + n)) (zv.take o ++ v.cells.toList ++ zv.drop (o + n)) := ((hz.take o).append r1).append (hz.drop _)
        obtain ⟨cvs, g1, g2, g3⟩ := fillP_reps (idx := idx) h (by simpa using hl) hps hnew (fun q hq => by
          rcases List.mem_append.1 hq with hq | hq
          · rcases List.mem_append.1 hq with hq | hq
            · exact hn q (List.mem_of_mem_take hq)
            · exact r2 q hq
          · exact hn q (List.mem_of_mem_drop hq))
        refine ⟨cvs, ?_, g2, g3⟩
        simp only [List.zip_cons_cons]
        unfold Instr.fill
        simp only [List.getElem?_toArray, hpl]
        rw [if_neg (by simp only [hvs, List.size_toArray, Bool.or_eq_true, decide_eq_true_eq, not_or]; exact ⟨fun e => e rfl, by show ¬ o + n > zv.length; omega⟩)]
        rw [← g1]
        have hf := fold_splice v.cells.toList o ⟨zv⟩ (by show o + _ ≤ zv.length; omega)
        rw [hvl] at hf
        congr 1
        · funext x; simp
        · apply Array.ext'
          exact hf
      · cases h
    · cases h

theorem Rel.buildOp (h : Rel P C σ a w cv) {t : TypeId} {parts : Array (Nat × Operand)} {σ' : St} {r : AV} (hst : stBuild P σ t parts.toList = some (σ', r)) :
    RunOK P C a (Instr.build t (parts.map fun (i, x) => (i, a.eval x))) w σ' r := by
  unfold stBuild at hst
  split at hst
  · rename_i zs places ps hz hpl hps
    split at hst
    · rename_i z hzp
      split at hst
      · rename_i cs hcs
        split at hst
        · rename_i hna
          obtain ⟨hna, hag⟩ := hna
          obtain ⟨rfl, rfl⟩ := Prod.mk.inj (Option.some.inj hst)
          unfold zeroOf at hz
          split at hz
          · rename_i inf hi
            split at hz
            · rename_i zval hzz
              obtain rfl := Option.some.inj hz
              have hpubs := h.pubs (σ.evs (opers parts.toList))
              have hrp := Rel.pvs h (vs := (opers parts.toList).map a.eval) hps (by simp [St.evs]) (fun j c v hc hv => by
                simp only [St.evs, List.getElem?_map] at hc hv
                cases hx : (opers parts.toList)[j]? with
                | none => simp [hx] at hc
                | some x =>
                  simp only [hx, Option.map_some, Option.some.injEq] at hc hv
                  subst hc; subst hv
                  exact (h.ev x).1)
              have hrz : Reps w (FS C (σ.pubs (σ.evs (opers parts.toList))).ob cv w) z zval.cells.toList := purs_reps (cv := cv) hzp (by simp) (fun j c v hc hv => by
                simp only [List.getElem?_map, hv, Option.map_some, Option.some.injEq] at hc
                subst hc
                exact cAV_rep _ _ _ v)
              obtain ⟨cvs, g1, g2, g3⟩ := fillP_reps hcs (by have := hrp.1; simp only [List.length_map] at this; simp [idxs, opers] at *; omega) hrp hrz hna
              refine ⟨_, w, cv, ?_, hpubs.1, Rep.agg cs cvs g2.1 g3 g2.2, fun i hi => hi.elim⟩
              refine run_build w t _ ⟨cvs⟩ ?_
              unfold plOf at hpl
              split at hpl
              · rename_i fs hu
                unfold Program.built
                simp only [hi, hu, hzz, hpl]
                have e : (parts.map fun (x : Nat × Operand) => (x.1, a.eval x.2)).toList = (idxs parts.toList).zip ((opers parts.toList).map a.eval) := by
                  simp only [Array.toList_map, idxs, opers]
                  generalize parts.toList = l
                  induction l with
                  | nil => rfl
                  | cons x l ih => simp [ih]
                rw [e]
                exact g1
              · cases hpl
            · cases hz
          · cases hz
        · cases hst
      · cases hst
    · cases hst
  · cases hst

/-! ### slice literals -/
def stBuildSlice (P : Program) (σ : St) (i : Nat) (t : TypeId) (len : Nat) (parts : List (Nat × Operand)) : Option (St × AV) :=
  match elOf P t with
  | some e => match szOf P e, σ.pvs (σ.evs (opers parts)) with
    | some sz, some ps => if 0 < sz ∧ len * sz ≤ 16777216 ∧ idxs parts = List.range len ∧ (∀ p ∈ ps, p.cells.length = sz) ∧ (zeroOf P e).isSome = true ∧ σ.isFree i = true then
        some ((σ.pubs (σ.evs (opers parts))).setOb i (.row e ps), .ref i) else none
    | _, _ => none
  | none => none

theorem pubs_free : ∀ (cs : List AV) (σ : St) (i : Nat), σ.ob i = .free → (σ.pubs cs).ob i = .free
  | [], _, _, h => h
  | c :: cs, σ, i, h => pubs_free cs (σ.pub c) i (by
      cases c <;> simp only [St.pub] <;> try exact h
      · split
        · rename_i j e xs he
          simp only [St.setOb]
          rw [if_neg (fun e => by subst e; rw [he] at h; cases h)]
          exact h
        · exact h
      · split
        · rename_i j o ag cs he
          split
          · simp only [St.setOb]
            rw [if_neg (fun e => by subst e; rw [he] at h; cases h)]
            exact h
          · exact h
        · exact h)

theorem Rel.newRow (h : Rel P C σ a w cv) {i : Nat} (hf : σ.ob i = .free) {e : TypeId} {xs : List PV} {sz : Nat} (hsz : szOf P e = some sz) (h0 : 0 < sz) (hxs : ∀ x ∈ xs, x.cells.length = sz) {vs : List Value}
    (hr : Reps w (FS C σ.ob cv w) (flat xs) vs) (hna : ∀ c ∈ flat xs, c.isAgg = false) (hm : xs.length ≤ maxLen) :
    ∃ cv', Rel P C (σ.setOb i (.row e xs)) a (w.alloc (.cells ⟨vs⟩ e)) cv' ∧ cv' i = .slice (some ⟨w.heap.size, 0, none⟩) xs.length xs.length := by
  have hs : Same (FS C σ.ob cv w) w (w.alloc (.cells ⟨vs⟩ e)) := fun b hb => heap_alloc_old w _ b (h.fs_lt hb)
  refine ⟨_, h.new i hf (.row e xs) vs e (.slice (some ⟨w.heap.size, 0, none⟩) xs.length xs.length) rfl rfl (fun F' cv' hF hi hcv => ?_) (fun j hj => hj.elim) (fun hj => hj), by simp⟩
  show OwnRow P _ _ (cv' i) e xs
  rw [hi]
  have hl : (⟨vs⟩ : Array Value).size = xs.length * sz := by show vs.length = _; rw [hr.1, flat_length hxs]
  exact ⟨sz, vs, hsz, h0, hxs, World.ownsRow_lit w ⟨vs⟩ xs.length (Nat.zero_le _) hm hl, hr.mono hs hF, hna⟩

theorem flat_cells {F : Nat → Prop} : ∀ {ps : List PV} {vs : List Value}, Reps w F ps vs → Reps w F (flat ps) (vs.flatMap fun v => v.cells.toList) ∧ ∀ c ∈ flat ps, c.isAgg = false
  | [], [], h => ⟨Reps.nil _ _, by simp [flat]⟩
  | [], v :: vs, h => by have := h.1; simp at this
  | p :: ps, [], h => by have := h.1; simp at this
  | p :: ps, v :: vs, h => by
    obtain ⟨hv, hps⟩ := h.tail
    obtain ⟨r1, r2⟩ := hv.cells
    obtain ⟨r3, r4⟩ := flat_cells hps
    refine ⟨by simp only [flat, List.flatMap_cons] at *; exact r1.append r3, fun c hc => ?_⟩
    simp only [flat, List.flatMap_cons] at hc
    rcases List.mem_append.1 hc with hc | hc
    · exact r2 c hc
    · exact r4 c hc

theorem zip_range : ∀ (vs : List Value) (i0 : Nat), (List.range' i0 vs.length).zip vs = (vs.zipIdx i0).map fun x => (x.2, x.1)
  | [], _ => rfl
  | v :: vs, i0 => by simp only [List.length_cons, List.range'_succ, List.zip_cons_cons, List.zipIdx_cons, List.map_cons]; rw [zip_range vs (i0 + 1)]

theorem Rel.buildSliceOp (h : Rel P C σ a w cv) {i : Nat} {t : TypeId} {len : Nat} {parts : Array (Nat × Operand)} {σ' : St} {r : AV} (hst : stBuildSlice P σ i t len parts.toList = some (σ', r)) :
    RunOK P C a (Instr.buildSlice t len (parts.map fun (i, x) => (i, a.eval x))) w σ' r := by
  unfold stBuildSlice at hst
  split at hst
  · rename_i e he
    split at hst
    · rename_i sz ps hsz hps
      split at hst
      · rename_i hc
        obtain ⟨h0, hsm, hidx, hpc, hzs, hfr⟩ := hc
        obtain ⟨rfl, rfl⟩ := Prod.mk.inj (Option.some.inj hst)
        have hu : P.underlying t = some (.slice e) := by unfold elOf at he; split at he <;> first | (rename_i hu; cases he; exact hu) | cases he
        have hpubs := h.pubs (σ.evs (opers parts.toList))
        have hrp := Rel.pvs h (vs := (opers parts.toList).map a.eval) hps (by simp [St.evs]) (fun j c v hc hv => by
          simp only [St.evs, List.getElem?_map] at hc hv
          cases hx : (opers parts.toList)[j]? with
          | none => simp [hx] at hc
          | some x =>
            simp only [hx, Option.map_some, Option.some.injEq] at hc hv
            subst hc; subst hv
            exact (h.ev x).1)
        have hlen : ps.length = len := by
          have := hrp.1; simp only [List.length_map] at this
          have h2 : (idxs parts.toList).length = len := by rw [hidx]; simp
          simp [idxs, opers] at *; omega
        obtain ⟨r1, r2⟩ := flat_cells hrp
        have hml : ps.length ≤ maxLen := by
          have := Nat.le_mul_of_pos_right len h0
          simp only [maxLen]; omega
        obtain ⟨cv', g1, g2⟩ := hpubs.1.newRow (i := i) (e := e) (pubs_free _ _ _ (isFree_free hfr)) hsz h0 hpc r1 r2 hml
        refine ⟨.slice (some ⟨w.heap.size, 0, none⟩) len len, w.alloc (.cells ⟨((opers parts.toList).map a.eval).flatMap fun v => v.cells.toList⟩ e), cv', ?_, g1, ?_, fun j hj => ?_⟩
        · unfold szOf at hsz
          cases hi : P.info? e with
          | none => simp [hi] at hsz
          | some inf =>
            simp only [hi, Option.map_some, Option.some.injEq] at hsz
            subst hsz
            by_cases hl0 : len = 0
            · subst hl0
              have hp0 : parts.toList = [] := by
                have : (idxs parts.toList) = [] := by rw [hidx]; rfl
                simpa [idxs] using this
              have hp1 : parts = #[] := by cases parts; simpa using hp0
              subst hp1
              simp [Instr.buildSlice, run_underlying hu, sizeOf, typeInfo, hi, Go.newRow, opers, Instr.fill, Array.range_zero']
            · have hz : ∃ z, inf.zero = some z := by
                unfold zeroOf at hzs
                simp only [hi] at hzs
                cases hz : inf.zero with
                | none => simp [hz] at hzs
                | some z => exact ⟨z, rfl⟩
              obtain ⟨z, hz⟩ := hz
              refine run_buildSlice w t e len _ _ inf z hu hi hz (by omega) (Nat.mul_ne_zero hl0 (by omega)) ?_
              have e1 : (parts.map fun (x : Nat × Operand) => (x.1, a.eval x.2)).toList = (idxs parts.toList).zip ((opers parts.toList).map a.eval) := by
                simp only [Array.toList_map, idxs, opers]
                generalize parts.toList = l
                induction l with
                | nil => rfl
                | cons x l ih => simp [ih]
              have e2 : ((opers parts.toList).map a.eval).length = len := by rw [hrp.1, hlen]
              have e3 : (idxs parts.toList).zip ((opers parts.toList).map a.eval) = (((opers parts.toList).map a.eval).zipIdx 0).map fun x => (x.2, x.1) := by
                rw [← zip_range, e2, hidx, List.range_eq_range']
              rw [e1, e3]
              refine Great.fill_whole h0 _ _ (fun v hv => ?_) (by rw [e2]; simp)
              obtain ⟨j, hj⟩ := List.mem_iff_getElem?.1 hv
              have hjl : j < ps.length := by rw [← hrp.1]; exact (List.getElem?_eq_some_iff.1 hj).1
              have := (hrp.2 j _ v (List.getElem?_eq_getElem hjl) hj).cells.1.1
              rw [← Array.length_toList, this]
              exact hpc _ (List.getElem_mem hjl)
        · show _ = cv' i
          rw [g2, hlen]
        · have e : i = j := hj
          subst e
          simp [St.setOb]
      · cases hst
    · cases hst
  · cases hst

end
end Go.Proofs.YtglpemnejngkaaaVm
