/- Values, their reading in memory, and what is kept of memory: the ground of a small symbolic machine over any program. -/
import Derived.Calls
import Derived.Below
import Derived.Laws.AppendOwn
import Derived.Laws.OwnMore
import Derived.Laws.MakeOwn
import Derived.Laws.StructEq
import Derived.Laws.Slices
import Derived.Laws.Tables
import Derived.IntWalk
set_option linter.unusedVariables false
set_option linter.unusedSimpArgs false
namespace Go.Proofs.YtglpemnejngkaaaVm
open Go

/-- Plain values: what a Go value reads as. -/
inductive PV where
  | int (k : IntKind) (n : Int)
  | bool (b : Bool)
  | str (l : List UInt8)
  | agg (cs : List PV)
  | row (xs : List PV)
  | ptr (x : PV)
  | nilp
  | fn (f : FuncId) (caps : List PV)
  | rowp (xs : List PV)

def PV.cells : PV → List PV
  | .agg cs => cs
  | p => [p]

def PV.isAgg : PV → Bool
  | .agg _ => true
  | _ => false

def flat (xs : List PV) : List PV := xs.flatMap PV.cells

/-- A value reads as a plain value; all memory that it takes lies in blocks of F. -/
inductive Rep (w : World) (F : Nat → Prop) : PV → Value → Prop
  | int (k : IntKind) (n : Int) : Rep w F (.int k n) (.int k n)
  | bool (b : Bool) : Rep w F (.bool b) (.bool b)
  | str (l : List UInt8) : Rep w F (.str l) (.string ⟨⟨l⟩⟩)
  | agg (cs : List PV) (vs : List Value) (hl : vs.length = cs.length) (ha : ∀ c ∈ cs, c.isAgg = false)
      (h : ∀ (i : Nat) (c : PV) (v : Value), cs[i]? = some c → vs[i]? = some v → Rep w F c v) : Rep w F (.agg cs) (.agg ⟨vs⟩)
  | rowNil : Rep w F (.row []) (.slice none 0 0)
  | row (xs : List PV) (ad : Addr) (c sz : Nat) (cv : List Value) (hc : xs.length ≤ c) (hsz : ∀ x ∈ xs, x.cells.length = sz)
      (hF : xs = [] ∨ F ad.block) (hl : cv.length = (flat xs).length) (hcell : ∀ (j : Nat) (v : Value), cv[j]? = some v → w.cell? (ad.add j) = some v)
      (ha : ∀ c ∈ flat xs, c.isAgg = false)
      (h : ∀ (i : Nat) (p : PV) (v : Value), (flat xs)[i]? = some p → cv[i]? = some v → Rep w F p v) : Rep w F (.row xs) (.slice (some ad) xs.length c)
  | ptr (x : PV) (ad : Addr) (cv : List Value) (hF : F ad.block) (hl : cv.length = x.cells.length)
      (hcell : ∀ (j : Nat) (v : Value), cv[j]? = some v → w.cell? (ad.add j) = some v)
      (ha : ∀ c ∈ x.cells, c.isAgg = false)
      (h : ∀ (i : Nat) (p : PV) (v : Value), x.cells[i]? = some p → cv[i]? = some v → Rep w F p v) : Rep w F (.ptr x) (.pointer (some ad))
  | nilp : Rep w F .nilp (.pointer none)
  | fn (f : FuncId) (caps : List PV) (vs : List Value) (hl : vs.length = caps.length)
      (h : ∀ (i : Nat) (c : PV) (v : Value), caps[i]? = some c → vs[i]? = some v → Rep w F c v) : Rep w F (.fn f caps) (.func (.func f) #[] ⟨vs⟩)
  | rowp (xs : List PV) (v : Value) (h : Rep w F (.row xs) v) (hp : v = .slice none 0 0 ∨ ∃ (ad : Addr) (n c : Nat) (cur : Array Value) (ty : TypeId), v = .slice (some ad) n c ∧ F ad.block ∧ w.heap[ad.block]? = some (.cells cur ty (0, 0))) : Rep w F (.rowp xs) v

/-- The blocks of F are as they were. -/
def Same (F : Nat → Prop) (w w' : World) : Prop := ∀ b, F b → w'.heap[b]? = w.heap[b]?

theorem Same.cell {F : Nat → Prop} {w w' : World} (h : Same F w w') {ad : Addr} (hF : F ad.block) : w'.cell? ad = w.cell? ad := World.cell?_of_block (h _ hF)

theorem add_block (ad : Addr) (j : Nat) : (ad.add j).block = ad.block := by unfold Addr.add; split <;> rfl

theorem Rep.mono {w w' : World} {F F' : Nat → Prop} {p : PV} {v : Value} (h : Rep w F p v) (hs : Same F w w') (hF : ∀ b, F b → F' b) : Rep w' F' p v := by
  induction h with
  | int k n => exact .int k n
  | bool b => exact .bool b
  | str l => exact .str l
  | agg cs vs hl ha h ih => exact .agg cs vs hl ha ih
  | rowNil => exact .rowNil
  | row xs ad c sz cv hc hsz hFb hl hcell ha h ih =>
    refine .row xs ad c sz cv hc hsz (hFb.imp id (hF _)) hl (fun j v hj => ?_) ha ih
    rcases hFb with rfl | hFb
    · have : cv = [] := List.eq_nil_of_length_eq_zero (by simpa [flat] using hl)
      subst this
      simp at hj
    · rw [hs.cell (by rw [add_block]; exact hFb)]; exact hcell j v hj
  | ptr x ad cv hFb hl hcell ha h ih =>
    exact .ptr x ad cv (hF _ hFb) hl (fun j v hj => by rw [hs.cell (by rw [add_block]; exact hFb)]; exact hcell j v hj) ha ih
  | nilp => exact .nilp
  | fn f caps vs hl h ih => exact .fn f caps vs hl ih
  | rowp xs v h hp ih =>
    refine .rowp xs v ih ?_
    rcases hp with hp | ⟨ad, n, c, cur, ty, h1, h2, h3⟩
    · exact .inl hp
    · exact .inr ⟨ad, n, c, cur, ty, h1, hF _ h2, by rw [hs _ h2]; exact h3⟩

/-- Flat values take no memory. -/
def PV.isFlat : PV → Bool
  | .int .. | .bool _ | .str _ => true
  | _ => false

theorem Rep.flat {w w' : World} {F F' : Nat → Prop} {p : PV} {v : Value} (h : Rep w F p v) (hf : p.isFlat = true) : Rep w' F' p v := by
  cases h <;> first | (simp [PV.isFlat] at hf; done) | constructor

theorem Rep.oneCell {w : World} {F : Nat → Prop} {p : PV} {v : Value} (h : Rep w F p v) (ha : p.isAgg = false) : v.oneCell' = true := by
  cases h <;> first | (simp [PV.isAgg] at ha; done) | rfl | (rename_i h _; cases h <;> rfl)

/-- Lists of values that read as lists of plain values, one by one. -/
def Reps (w : World) (F : Nat → Prop) (ps : List PV) (vs : List Value) : Prop :=
  vs.length = ps.length ∧ ∀ (i : Nat) (p : PV) (v : Value), ps[i]? = some p → vs[i]? = some v → Rep w F p v

theorem Reps.mono {w w' : World} {F F' : Nat → Prop} {ps : List PV} {vs : List Value} (h : Reps w F ps vs) (hs : Same F w w') (hF : ∀ b, F b → F' b) : Reps w' F' ps vs :=
  ⟨h.1, fun i p v hp hv => (h.2 i p v hp hv).mono hs hF⟩

theorem Reps.nil (w : World) (F : Nat → Prop) : Reps w F [] [] := ⟨rfl, fun i p v hp => by simp at hp⟩

theorem Reps.cons {w : World} {F : Nat → Prop} {p : PV} {v : Value} {ps : List PV} {vs : List Value} (h : Rep w F p v) (hs : Reps w F ps vs) : Reps w F (p :: ps) (v :: vs) := by
  refine ⟨by simp [hs.1], fun i q u hq hu => ?_⟩
  cases i with
  | zero => simp at hq hu; subst hq; subst hu; exact h
  | succ i => simp at hq hu; exact hs.2 i q u hq hu

theorem Reps.tail {w : World} {F : Nat → Prop} {p : PV} {v : Value} {ps : List PV} {vs : List Value} (h : Reps w F (p :: ps) (v :: vs)) : Rep w F p v ∧ Reps w F ps vs :=
  ⟨h.2 0 p v rfl rfl, by have := h.1; simpa using this, fun i q u hq hu => h.2 (i + 1) q u (by simpa using hq) (by simpa using hu)⟩

theorem Reps.append {w : World} {F : Nat → Prop} {ps qs : List PV} {vs us : List Value} (h : Reps w F ps vs) (k : Reps w F qs us) : Reps w F (ps ++ qs) (vs ++ us) := by
  refine ⟨by simp [h.1, k.1], fun i p v hp hv => ?_⟩
  by_cases hi : i < ps.length
  · rw [List.getElem?_append_left hi] at hp
    rw [List.getElem?_append_left (by rw [h.1]; exact hi)] at hv
    exact h.2 i p v hp hv
  · rw [List.getElem?_append_right (by omega)] at hp
    rw [List.getElem?_append_right (by rw [h.1]; omega), h.1] at hv
    exact k.2 _ p v hp hv

theorem Reps.take {w : World} {F : Nat → Prop} {ps : List PV} {vs : List Value} (h : Reps w F ps vs) (n : Nat) : Reps w F (ps.take n) (vs.take n) := by
  refine ⟨by simp [h.1], fun i p v hp hv => ?_⟩
  rw [List.getElem?_take] at hp hv
  split at hp
  · rename_i hi
    rw [if_pos hi] at hv
    exact h.2 i p v hp hv
  · cases hp

theorem Reps.drop {w : World} {F : Nat → Prop} {ps : List PV} {vs : List Value} (h : Reps w F ps vs) (n : Nat) : Reps w F (ps.drop n) (vs.drop n) := by
  refine ⟨by simp [h.1], fun i p v hp hv => ?_⟩
  rw [List.getElem?_drop] at hp hv
  exact h.2 _ p v hp hv

theorem Reps.set {w : World} {F : Nat → Prop} {ps : List PV} {vs : List Value} (h : Reps w F ps vs) (n : Nat) {p : PV} {v : Value} (hp : Rep w F p v) : Reps w F (ps.set n p) (vs.set n v) := by
  refine ⟨by simp [h.1], fun i q u hq hu => ?_⟩
  rw [List.getElem?_set] at hq hu
  split at hq
  · rename_i hi
    rw [if_pos hi] at hu
    split at hq
    · rename_i hl
      rw [if_pos (by rw [h.1]; exact hl)] at hu
      simp at hq hu; subst hq; subst hu; exact hp
    · simp at hq
  · rename_i hi
    rw [if_neg hi] at hu
    exact h.2 i q u hq hu

theorem Reps.get {w : World} {F : Nat → Prop} {ps : List PV} {vs : List Value} (h : Reps w F ps vs) {i : Nat} {p : PV} (hp : ps[i]? = some p) : ∃ v, vs[i]? = some v ∧ Rep w F p v := by
  have hi : i < vs.length := by rw [h.1]; exact (List.getElem?_eq_some_iff.1 hp).1
  exact ⟨vs[i], List.getElem?_eq_getElem hi, h.2 i p _ hp (List.getElem?_eq_getElem hi)⟩

/-- A list of cells read from a place on. -/
theorem cells_add {w : World} {ad : Addr} {cv : List Value} (hcell : ∀ (j : Nat) (v : Value), cv[j]? = some v → w.cell? (ad.add j) = some v) (o n : Nat) :
    ∀ (j : Nat) (v : Value), ((cv.drop o).take n)[j]? = some v → w.cell? ((ad.add o).add j) = some v := by
  intro j v hj
  rw [List.getElem?_take] at hj
  split at hj
  · rw [List.getElem?_drop] at hj
    have := hcell (o + j) v hj
    have e : (ad.add o).add j = ad.add (o + j) := by
      unfold Addr.add
      by_cases h1 : o = 0
      · subst h1; simp
      · by_cases h2 : j = 0
        · subst h2; simp [h1]
        · rw [if_neg h1, if_neg h2, if_neg (by omega)]; simp [Nat.add_assoc]
    rw [e]; exact this
  · cases hj

theorem flat_length {xs : List PV} {sz : Nat} (h : ∀ x ∈ xs, x.cells.length = sz) : (flat xs).length = xs.length * sz := by
  induction xs with
  | nil => simp [flat]
  | cons x xs ih =>
    have := ih fun y hy => h y (List.mem_cons_of_mem _ hy)
    simp only [flat, List.flatMap_cons, List.length_append, List.length_cons] at *
    rw [this, h x (List.mem_cons_self ..), Nat.add_mul]; omega

theorem flat_append (xs ys : List PV) : flat (xs ++ ys) = flat xs ++ flat ys := by simp [flat]

theorem flat_drop {xs : List PV} {sz : Nat} (h : ∀ x ∈ xs, x.cells.length = sz) (i : Nat) : flat (xs.drop i) = (flat xs).drop (i * sz) := by
  induction i generalizing xs with
  | zero => simp
  | succ i ih =>
    cases xs with
    | nil => simp [flat]
    | cons x xs =>
      have := ih fun y hy => h y (List.mem_cons_of_mem _ hy)
      have hx := h x (List.mem_cons_self ..)
      have e : (i + 1) * sz - sz = i * sz := by rw [Nat.add_mul]; omega
      have e2 : x.cells.drop ((i + 1) * sz) = [] := List.drop_eq_nil_of_le (by rw [hx, Nat.add_mul]; omega)
      simp only [List.drop_succ_cons, this, flat, List.flatMap_cons]
      rw [List.drop_append, hx, e, e2, List.nil_append]; exact this

theorem flat_take {xs : List PV} {sz : Nat} (h : ∀ x ∈ xs, x.cells.length = sz) (i : Nat) : flat (xs.take i) = (flat xs).take (i * sz) := by
  induction i generalizing xs with
  | zero => simp [flat]
  | succ i ih =>
    cases xs with
    | nil => simp [flat]
    | cons x xs =>
      have := ih fun y hy => h y (List.mem_cons_of_mem _ hy)
      have hx := h x (List.mem_cons_self ..)
      have e : (i + 1) * sz - sz = i * sz := by rw [Nat.add_mul]; omega
      have e2 : x.cells.take ((i + 1) * sz) = x.cells := List.take_of_length_le (by rw [hx, Nat.add_mul]; omega)
      simp only [List.take_succ_cons, flat, List.flatMap_cons] at *
      rw [this, List.take_append, hx, e, e2]

/-- An element's cells in a row's cells. -/
theorem flat_elem {xs : List PV} {sz : Nat} (h : ∀ x ∈ xs, x.cells.length = sz) {i : Nat} {x : PV} (hx : xs[i]? = some x) : ((flat xs).drop (i * sz)).take sz = x.cells := by
  rw [← flat_drop h]
  have hi := (List.getElem?_eq_some_iff.1 hx)
  obtain ⟨hi, rfl⟩ := hi
  rw [List.drop_eq_getElem_cons hi]
  simp only [flat, List.flatMap_cons]
  rw [List.take_append, h xs[i] (List.getElem_mem hi), Nat.sub_self, List.take_of_length_le (by rw [h xs[i] (List.getElem_mem hi)]; omega)]; simp

end Go.Proofs.YtglpemnejngkaaaVm
