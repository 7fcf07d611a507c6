/- The operations, on symbolic states: writing and making. -/
import Derived.Test.YtglpemnejngkaaaVmD
import Derived.Great.BuildSlice
set_option linter.unusedVariables false
set_option linter.unusedSimpArgs false
namespace Go.Proofs.YtglpemnejngkaaaVm
open Go Classical

section
variable {P : Program} {C : Ctx} {σ : St} {a : Act} {w : World} {cv : Nat → Value}

/-- What an operation's run comes to. -/
def RunOK (P : Program) (C : Ctx) (a : Act) (s : Sem Value) (w : World) (σ' : St) (r : AV) : Prop :=
  ∃ u w' cv', s.run P w = .ok u w' ∧ Rel P C σ' a w' cv' ∧ SRep w' (FS C σ'.ob cv' w') cv' r u ∧ ∀ i, r.ment i → σ'.ob i ≠ .free

/-! ### Cells -/
def St.okCell (σ : St) : AV → Bool
  | .val p => !p.isAgg
  | .nils => true
  | .ref i => match σ.ob i with
    | .row .. | .prow _ => true
    | _ => false
  | .adr .. => true
  | _ => false

theorem okCell_cell {v : AV} (h : σ.okCell v = true) : v.cell = true := by
  cases v <;> simp_all [St.okCell, AV.cell]

theorem Rel.okCell (h : Rel P C σ a w cv) {v : AV} {u : Value} (hc : σ.okCell v = true) (hv : SRep w (FS C σ.ob cv w) cv v u) : u.oneCell' = true := by
  cases v with
  | any => simp [St.okCell] at hc
  | val p => exact Rep.oneCell hv (by simpa [St.okCell] using hc)
  | nils => have e : u = .slice none 0 0 := hv; subst e; rfl
  | ref i =>
    have e : u = cv i := hv
    subst e
    have ho := h.obs i
    simp only [St.okCell] at hc
    split at hc
    · rename_i e xs he
      rw [he] at ho
      obtain ⟨sz, cells, _, _, _, h4, _⟩ := ho
      rcases h4.2 with ⟨e, _⟩ | ⟨g, cap, cur, e, _⟩ <;> rw [e] <;> rfl
    · rename_i xs he
      rw [he] at ho
      exact Rep.oneCell ho rfl
    · cases hc
  | adr i o => obtain ⟨b, _, rfl⟩ := hv; rfl
  | ead i sz k o => simp [St.okCell] at hc
  | tup ps => simp [St.okCell] at hc
  | vw _ _ _ _ => simp [St.okCell] at hc

theorem cAV_oneCell {v : Value} (h : (cAV v).cell = true) : v.oneCell' = true := by
  unfold cAV at h
  split at h <;> first | rfl | simp [AV.cell] at h

/-- Lists that stand to each other one by one. -/
def Two {α β : Type} (R : α → β → Prop) (xs : List α) (ys : List β) : Prop :=
  ys.length = xs.length ∧ ∀ (j : Nat) (x : α) (y : β), xs[j]? = some x → ys[j]? = some y → R x y

theorem Two.append {α β : Type} {R : α → β → Prop} {xs xs' : List α} {ys ys' : List β} (h : Two R xs ys) (k : Two R xs' ys') : Two R (xs ++ xs') (ys ++ ys') := by
  refine ⟨by simp [h.1, k.1], fun i p v hp hv => ?_⟩
  by_cases hi : i < xs.length
  · rw [List.getElem?_append_left hi] at hp
    rw [List.getElem?_append_left (by rw [h.1]; exact hi)] at hv
    exact h.2 i p v hp hv
  · rw [List.getElem?_append_right (by omega)] at hp
    rw [List.getElem?_append_right (by rw [h.1]; omega), h.1] at hv
    exact k.2 _ p v hp hv

theorem Two.take {α β : Type} {R : α → β → Prop} {xs : List α} {ys : List β} (h : Two R xs ys) (n : Nat) : Two R (xs.take n) (ys.take n) := by
  refine ⟨by simp [h.1], fun i p v hp hv => ?_⟩
  rw [List.getElem?_take] at hp hv
  split at hp
  · rename_i hi
    rw [if_pos hi] at hv
    exact h.2 i p v hp hv
  · cases hp

theorem Two.drop {α β : Type} {R : α → β → Prop} {xs : List α} {ys : List β} (h : Two R xs ys) (n : Nat) : Two R (xs.drop n) (ys.drop n) := by
  refine ⟨by simp [h.1], fun i p v hp hv => ?_⟩
  rw [List.getElem?_drop] at hp hv
  exact h.2 _ p v hp hv

theorem Two.one {α β : Type} {R : α → β → Prop} {x : α} {y : β} (h : R x y) : Two R [x] [y] := by
  refine ⟨rfl, fun i p v hp hv => ?_⟩
  cases i with
  | zero => simp at hp hv; subst hp; subst hv; exact h
  | succ i => simp at hp

/-! ### Stores -/
theorem storeCells_at {b o : Nat} {arr : List Value} {ty : TypeId} (hg : w.heap[b]? = some (.cells ⟨arr⟩ ty (0, 0))) (vs : List Value) (hl : o + vs.length ≤ arr.length) (h1 : ∀ v ∈ vs, v.oneCell' = true) :
    (storeCells ⟨b, o, none⟩ vs).run P w = .ok () (w.setRow b ⟨arr.take o ++ vs ++ arr.drop (o + vs.length)⟩) := by
  have := run_storeCells_at P b o ty vs 0 ⟨arr⟩ w hg (by simpa using hl) h1
  simpa using this

theorem grown_setRow (w : World) (b : Nat) (cs : Array Value) : w.grownBy (w.setRow b cs) (some b) :=
  ⟨rfl, rfl, rfl, by simp, fun k _ hk => setRow_other w b k _ (fun e => hk (by rw [e]))⟩

def stElem (ag : Bool) (n sz : Nat) (x q : PV) (o : Nat) : Option PV :=
  if x.cells.length = sz then
    if o = 0 ∧ n = sz ∧ q.cells.length = sz ∧ q.isAgg = ag then some q
    else if ag = false ∧ q.isAgg = false ∧ n = 1 ∧ x.isAgg = true ∧ o < sz then some (.agg (x.cells.set o q)) else none
  else none

def stStore (P : Program) (σ : St) (t : TypeId) (p v : AV) : Option St :=
  match p with
  | .adr i o => match σ.ob i with
    | .box ag cs => match aggOf P t, szOf P t with
      | some true, some n => match v with
        | .val x => if x.isAgg = true ∧ x.cells.length = n ∧ o + n ≤ cs.length then some (σ.setOb i (.box ag (cs.take o ++ x.cells.map .val ++ cs.drop (o + n)))) else none
        | _ => none
      | some false, some n => if n = 1 ∧ o < cs.length ∧ σ.okCell v = true then some (σ.setOb i (.box ag (cs.set o v))) else none
      | _, _ => none
    | _ => none
  | .ead i sz k o => match (σ.pub v).ob i with
    | .row e xs => match xs[k]?, aggOf P t, szOf P t, σ.pv v with
      | some x, some ag, some n, some q => match stElem ag n sz x q o with
        | some y => some ((σ.pub v).setOb i (.row e (xs.set k y)))
        | none => none
      | _, _, _, _ => none
    | _ => none
  | _ => none

theorem set_take_drop {α : Type} (l : List α) (o : Nat) (x : α) (h : o < l.length) : l.set o x = l.take o ++ [x] ++ l.drop (o + 1) := by
  rw [List.set_eq_take_append_cons_drop, if_pos h]; simp

theorem Two.val {w : World} {F : Nat → Prop} {cv : Nat → Value} {ps : List PV} {vs : List Value} (h : Reps w F ps vs) (ha : ∀ p ∈ ps, p.isAgg = false) :
    Two (fun c v => SRep w F cv c v ∧ v.oneCell' = true) (ps.map AV.val) vs := by
  refine ⟨by simp [h.1], fun j c v hc hv => ?_⟩
  simp at hc
  obtain ⟨p, hp, rfl⟩ := hc
  have := h.2 j p v hp hv
  exact ⟨this, this.oneCell (ha p (List.mem_of_getElem? hp))⟩

theorem Rep.cells_of_agg {w : World} {F : Nat → Prop} {x : PV} {u : Value} (h : Rep w F x u) (hx : x.isAgg = true) : ∃ vs : List Value, u = .agg ⟨vs⟩ ∧ Reps w F x.cells vs ∧ ∀ c ∈ x.cells, c.isAgg = false := by
  cases h <;> first | (simp [PV.isAgg] at hx; done) | skip
  rename_i cs vs hl ha hh
  exact ⟨vs, rfl, ⟨hl, hh⟩, ha⟩

theorem Rep.cells {w : World} {F : Nat → Prop} {x : PV} {u : Value} (h : Rep w F x u) : Reps w F x.cells u.cells.toList ∧ ∀ c ∈ x.cells, c.isAgg = false := by
  by_cases hx : x.isAgg = true
  · obtain ⟨vs, rfl, h1, h2⟩ := h.cells_of_agg hx
    exact ⟨h1, h2⟩
  · have hx : x.isAgg = false := by simpa using hx
    have h1 := h.oneCell hx
    have e1 : x.cells = [x] := by cases x <;> first | rfl | (simp [PV.isAgg] at hx)
    have e2 : u.cells = #[u] := by cases u <;> first | rfl | (simp [Value.oneCell'] at h1)
    rw [e1, e2]
    exact ⟨Reps.cons h (Reps.nil _ _), by simpa using hx⟩

theorem oneCell_cells {u : Value} (h : u.oneCell' = true) : u.cells = #[u] := by cases u <;> first | rfl | (simp [Value.oneCell'] at h)

theorem flat_set {xs : List PV} {sz : Nat} (h : ∀ x ∈ xs, x.cells.length = sz) {k : Nat} (hk : k < xs.length) {y : PV} (hy : y.cells.length = sz) :
    flat (xs.set k y) = (flat xs).take (k * sz) ++ y.cells ++ (flat xs).drop (k * sz + sz) := by
  rw [List.set_eq_take_append_cons_drop, if_pos hk]
  rw [flat_append, flat_take h]
  have e : k * sz + sz = (k + 1) * sz := by rw [Nat.add_mul]; omega
  rw [e, ← flat_drop h (k + 1)]
  simp [flat]

/-- A store into a row that the call owns: some of one element's cells. -/
theorem ownRow_store {b n cap e sz : Nat} {cells : List Value} (h4 : w.ownsRow 0 e sz (.slice (some ⟨b, 0, none⟩) n cap) n cells) (p : Nat) (vs : List Value)
    (hle : p + vs.length ≤ n * sz) (h1 : ∀ v ∈ vs, v.oneCell' = true) :
    ∃ w', (storeCells ⟨b, p, none⟩ vs).run P w = .ok () w' ∧ w.grownBy w' (some b) ∧ w'.ownsRow 0 e sz (.slice (some ⟨b, 0, none⟩) n cap) n (cells.take p ++ vs ++ cells.drop (p + vs.length)) := by
  obtain ⟨hl, h5⟩ := h4
  rcases h5 with ⟨h5, _⟩ | ⟨g, cap', cur, h5, _, hg, hnc, hcm, hcs, ht⟩
  · cases h5
  · cases h5
    have hcur : n * sz ≤ cur.toList.length := by rw [Array.length_toList, hcs]; exact Nat.mul_le_mul_right _ hnc
    have hrun := storeCells_at (P := P) (arr := cur.toList) (by simpa using hg) vs (Nat.le_trans hle hcur) h1
    refine ⟨_, hrun, grown_setRow w _ _, ?_, .inr ⟨b, cap, _, rfl, Nat.zero_le _, setRow_heap w b cur _ e _ hg, hnc, hcm, ?_, ?_⟩⟩
    · simp only [List.length_append, List.length_take, List.length_drop, hl]; omega
    · show (cur.toList.take p ++ vs ++ cur.toList.drop (p + vs.length)).length = _
      simp only [List.length_append, List.length_take, List.length_drop, ← hcs]
      have := Array.length_toList (xs := cur)
      omega
    · show (cur.toList.take p ++ vs ++ cur.toList.drop (p + vs.length)).take (n * sz) = _
      have e1 : List.take p (List.take (n * sz) cur.toList) = List.take p cur.toList := by rw [List.take_take]; congr 1; omega
      rw [← ht, e1]
      rw [List.take_append, List.take_append, List.take_take]
      simp only [List.length_append, List.length_take]
      rw [show min p cur.toList.length = p by omega, show min (n * sz) p = p by omega]
      rw [List.take_of_length_le (show vs.length ≤ n * sz - p by omega), List.drop_take]

theorem splice {α : Type} (l : List α) (k s o : Nat) (ds : List α) (hle : o + ds.length ≤ s) :
    l.take k ++ (((l.drop k).take s).take o ++ ds ++ ((l.drop k).take s).drop (o + ds.length)) ++ l.drop (k + s) = l.take (k + o) ++ ds ++ l.drop (k + o + ds.length) := by
  have e1 : ((l.drop k).take s).take o = (l.drop k).take o := by rw [List.take_take]; congr 1; omega
  have e2 : ((l.drop k).take s).drop (o + ds.length) = (l.drop (k + o + ds.length)).take (s - (o + ds.length)) := by rw [List.drop_take, List.drop_drop]; congr 2; omega
  have e3 : l.drop (k + s) = (l.drop (k + o + ds.length)).drop (s - (o + ds.length)) := by rw [List.drop_drop]; congr 1; omega
  rw [e1, e2, e3, List.take_add]
  simp only [List.append_assoc, List.take_append_drop]

theorem Rel.store (h : Rel P C σ a w cv) {t : TypeId} {p v : AV} {up uv : Value} (hp : SRep w (FS C σ.ob cv w) cv p up) (hv : SRep w (FS C σ.ob cv w) cv v uv) (hm : ∀ i, v.ment i → σ.ob i ≠ .free)
    {σ' : St} (hst : stStore P σ t p v = some σ') : ∃ w', (Instr.storeAt t up uv).run P w = .ok () w' ∧ Rel P C σ' a w' cv := by
  unfold stStore at hst
  split at hst
  · rename_i i o
    obtain ⟨b, hb, rfl⟩ := hp
    have ho := h.obs i
    split at hst
    · rename_i ag cs he
      rw [he] at ho
      obtain ⟨b', ty, arr, h1, h2, h3, h4, h5⟩ := ho
      rw [hb] at h1
      cases h1
      have hmo := h.mento i
      rw [he] at hmo
      have fin : ∀ (ds : List AV) (vs : List Value), Two (fun c v => SRep w (FS C σ.ob cv w) cv c v ∧ v.oneCell' = true) ds vs → (∀ d ∈ ds, d.cell = true) → o + ds.length ≤ cs.length →
          (∀ d ∈ ds, ∀ j, d.ment j → σ.ob j ≠ .free) → (storeCells ⟨b, o, none⟩ vs).run P w = .ok () (w.setRow b ⟨arr.take o ++ vs ++ arr.drop (o + vs.length)⟩) ∧
          Rel P C (σ.setOb i (.box ag (cs.take o ++ ds ++ cs.drop (o + ds.length)))) a (w.setRow b ⟨arr.take o ++ vs ++ arr.drop (o + vs.length)⟩) cv := by
        intro ds vs htwo hcell hle hmd
        refine ⟨storeCells_at h2 vs (by rw [htwo.1, h3]; exact hle) (fun u hu => ?_), ?_⟩
        · obtain ⟨j, hj⟩ := List.mem_iff_getElem?.1 hu
          have hjl : j < ds.length := by rw [← htwo.1]; exact (List.getElem?_eq_some_iff.1 hj).1
          exact (htwo.2 j _ u (List.getElem?_eq_getElem hjl) hj).2
        · refine h.mod i (by rw [he]; rfl) _ (by simp) (grown_setRow w b _) (fun b' hb' => by cases hb'; rw [hb]; rfl) (fun F' hF _ hS => ?_) (fun j hj => ?_)
          · have hall : Two (fun c v => SRep w (FS C σ.ob cv w) cv c v ∧ v.oneCell' = true) (cs.take o ++ ds ++ cs.drop (o + ds.length)) (arr.take o ++ vs ++ arr.drop (o + vs.length)) := by
              have hcs : Two (fun c v => SRep w (FS C σ.ob cv w) cv c v ∧ v.oneCell' = true) cs arr := ⟨h3, h5⟩
              rw [htwo.1]
              exact ((hcs.take o).append htwo).append (hcs.drop _)
            refine ⟨b, ty, _, hb, setRow_heap w b ⟨arr⟩ _ ty _ h2, hall.1, fun c hc => ?_, fun j c v hc hv => ⟨((hall.2 j c v hc hv).1).mono hS hF (fun _ _ => rfl), (hall.2 j c v hc hv).2⟩⟩
            rcases List.mem_append.1 hc with hc | hc
            · rcases List.mem_append.1 hc with hc | hc
              · exact h4 c (List.mem_of_mem_take hc)
              · exact hcell c hc
            · exact h4 c (List.mem_of_mem_drop hc)
          · obtain ⟨c, hc, hcj⟩ := hj
            rcases List.mem_append.1 hc with hc | hc
            · rcases List.mem_append.1 hc with hc | hc
              · exact hmo j ⟨c, List.mem_of_mem_take hc, hcj⟩
              · exact hmd c hc j hcj
            · exact hmo j ⟨c, List.mem_of_mem_drop hc, hcj⟩
      split at hst
      · rename_i n hag hn
        split at hst
        · rename_i x
          split at hst
          · rename_i hc
            obtain ⟨hx, hxn, hle⟩ := hc
            obtain rfl := Option.some.inj hst
            obtain ⟨vs, rfl, hr, hna⟩ := Rep.cells_of_agg hv hx
            have htwo := Two.val (cv := cv) hr hna
            obtain ⟨g1, g2⟩ := fin (x.cells.map .val) vs htwo (fun d hd => by
                obtain ⟨q, hq, rfl⟩ := List.mem_map.1 hd
                simp [AV.cell, hna q hq]) (by simpa [hxn] using hle) (fun d hd j hj => by
                obtain ⟨q, hq, rfl⟩ := List.mem_map.1 hd
                exact hj.elim)
            simp only [List.length_map, hxn] at g2
            refine ⟨_, ?_, g2⟩
            have hvl : vs.length = n := by rw [hr.1, hxn]
            simp [Instr.storeAt, Instr.sureAddr, storeVar, run_sizeOf hn, Value.cells, hvl, g1]
          · cases hst
        · cases hst
      · rename_i n hag hn
        split at hst
        · rename_i hc
          obtain ⟨rfl, hlt, hok⟩ := hc
          obtain rfl := Option.some.inj hst
          have h1 := h.okCell hok hv
          obtain ⟨g1, g2⟩ := fin [v] [uv] (Two.one ⟨hv, h1⟩) (fun d hd => by rw [List.mem_singleton.1 hd]; exact okCell_cell hok) (by simp; omega) (fun d hd j hj => by rw [List.mem_singleton.1 hd] at hj; exact hm j hj)
          rw [set_take_drop _ _ _ hlt]
          refine ⟨_, ?_, g2⟩
          simp [Instr.storeAt, Instr.sureAddr, storeVar, run_sizeOf hn, oneCell_cells h1, g1]
        · cases hst
      · cases hst
    · cases hst
  · rename_i i sz k o
    obtain ⟨b, n, c, hb, rfl⟩ := hp
    have hpub := h.pub v
    have ho := hpub.1.obs i
    split at hst
    · rename_i e xs he
      rw [he] at ho
      split at hst
      · rename_i x ag m q hx hag hm' hq
        have hrq := h.pv hq hv
        split at hst
        · rename_i y hy
          obtain rfl := Option.some.inj hst
          obtain ⟨sz', cells, g1, g2, g3, g4, g5, g6⟩ := ho
          have hxm := List.mem_of_getElem? hx
          have hk : k < xs.length := (List.getElem?_eq_some_iff.1 hx).1
          unfold stElem at hy
          split at hy
          · rename_i hxs
            have hszz : sz' = sz := by rw [← g3 x hxm]; exact hxs
            subst hszz
            have hxf := flat_elem g3 hx
            rw [hb] at g4
            have hn : n = xs.length := by
              rcases g4.2 with ⟨g4', _⟩ | ⟨g, cap', cur, g4', _⟩ <;> cases g4' ; rfl
            subst hn
            have hsz1 : k * sz' + sz' ≤ xs.length * sz' := by
              have : (k + 1) * sz' ≤ xs.length * sz' := Nat.mul_le_mul_right _ hk
              rw [Nat.add_mul] at this; omega
            -- the value's cells, and the element that it makes
            have main : ∃ (o' : Nat) (ds : List PV) (vs : List Value), (∀ w' : World, (storeVar t ⟨b, k * sz' + o, none⟩ uv).run P w = (storeCells ⟨b, k * sz' + o', none⟩ vs).run P w) ∧ Reps w (FS C (σ.pub v).ob cv w) ds vs ∧ (∀ d ∈ ds, d.isAgg = false) ∧
                o' + ds.length ≤ sz' ∧ y.cells = x.cells.take o' ++ ds ++ x.cells.drop (o' + ds.length) := by
              split at hy
              · rename_i hc
                obtain ⟨rfl, rfl, hq1, hq2⟩ := hc
                obtain rfl := Option.some.inj hy
                obtain ⟨r1, r2⟩ := hrq.cells
                refine ⟨0, q.cells, uv.cells.toList, fun _ => ?_, r1, r2, by omega, ?_⟩
                · have : uv.cells.size = m := by have := r1.1; rw [Array.length_toList] at this; omega
                  simp [storeVar, run_sizeOf hm', this]
                · rw [List.drop_of_length_le (by omega)]; simp
              · split at hy
                · rename_i hc
                  obtain ⟨rfl, hq1, rfl, hxa, hos⟩ := hc
                  obtain rfl := Option.some.inj hy
                  have h1 := hrq.oneCell hq1
                  refine ⟨o, [q], [uv], fun _ => ?_, Reps.cons hrq (Reps.nil _ _), by simpa using hq1, (by simp; omega), ?_⟩
                  · simp [storeVar, run_sizeOf hm', oneCell_cells h1]
                  · show x.cells.set o q = _
                    exact set_take_drop _ _ _ (by omega)
                · cases hy
            obtain ⟨o', ds, vs, hrun, hrd, hna, hle, hyc⟩ := main
            have hvl := hrd.1
            have hone : ∀ u ∈ vs, u.oneCell' = true := fun u hu => by
              obtain ⟨j, hj⟩ := List.mem_iff_getElem?.1 hu
              have hjl : j < ds.length := by rw [← hvl]; exact (List.getElem?_eq_some_iff.1 hj).1
              exact (hrd.2 j _ u (List.getElem?_eq_getElem hjl) hj).oneCell (hna _ (List.getElem_mem hjl))
            obtain ⟨w', r1, r2, r3⟩ := ownRow_store (P := P) g4 (k * sz' + o') vs (by rw [hvl]; omega) hone
            refine ⟨w', ?_, ?_⟩
            · simp only [Instr.storeAt, Instr.sureAddr, Sem.run_bind, Sem.run_pure, Result.andThen_ok, hrun w, r1]
            · have hyl : y.cells.length = sz' := by
                rw [hyc]; simp only [List.length_append, List.length_take, List.length_drop, hxs]; omega
              have hfl : flat (xs.set k y) = (flat xs).take (k * sz' + o') ++ ds ++ (flat xs).drop (k * sz' + o' + ds.length) := by
                rw [flat_set g3 hk hyl, hyc, ← hxf]
                exact splice _ _ _ _ _ hle
              refine hpub.1.mod i (by rw [he]; rfl) _ (by simp) r2 (fun b' hb' => by cases hb'; rw [hb]; rfl) (fun F' hF _ hS => ?_) (fun j hj => hj.elim)
              refine ⟨sz', _, g1, g2, fun z hz => ?_, by rw [hb, List.length_set]; exact r3, ?_, ?_⟩
              · rcases List.mem_or_eq_of_mem_set hz with hz | rfl
                · exact g3 z hz
                · exact hyl
              · rw [hfl, hvl]
                exact (((g5.take _).append hrd).append (g5.drop _)).mono hS hF
              · intro c hc
                rw [hfl] at hc
                rcases List.mem_append.1 hc with hc | hc
                · rcases List.mem_append.1 hc with hc | hc
                  · exact g6 c (List.mem_of_mem_take hc)
                  · exact hna c hc
                · exact g6 c (List.mem_of_mem_drop hc)
          · cases hy
        · cases hst
      · cases hst
    · cases hst
  · cases hst

end
end Go.Proofs.YtglpemnejngkaaaVm
