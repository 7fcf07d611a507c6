/- A part of a proof: functions of the program, walked. -/
import Derived.Calls
import Derived.Below
import Derived.Laws.AppendOwn
import Derived.Laws.OwnMore
import Derived.Laws.MakeOwn
import Derived.Laws.StructEq
import Derived.Laws.Slices
import Derived.Laws.Tables
import Derived.IntWalk
import Derived.Laws.Rows
import Derived.Laws.Strings
import Derived.Great.BuildSlice
set_option linter.unusedVariables false
set_option linter.unusedSimpArgs false
namespace Go.Proofs.YtjbfcmaiejlnbaaVm
open Go

/-- Plain values: what a Go value reads as. -/
inductive PV where
  | int (k : IntKind) (n : Int)
  | bool (b : Bool)
  | str (l : List UInt8)
  | agg (cs : List PV)
  | row (xs : List PV)
  | ptr (x : PV)
  | nilp
  | fn (f : FuncId) (caps : List PV)
  | rowp (xs : List PV)
  | yld (l : Nat)
  | raw (v : Value)

def PV.cells : PV → List PV
  | .agg cs => cs
  | p => [p]

def PV.isAgg : PV → Bool
  | .agg _ => true
  | _ => false

def flat (xs : List PV) : List PV := xs.flatMap PV.cells

/-- A value reads as a plain value; all memory that it takes lies in blocks of F. -/
inductive Rep (w : World) (F : Nat → Prop) : PV → Value → Prop
  | int (k : IntKind) (n : Int) : Rep w F (.int k n) (.int k n)
  | bool (b : Bool) : Rep w F (.bool b) (.bool b)
  | str (l : List UInt8) : Rep w F (.str l) (.string ⟨⟨l⟩⟩)
  | agg (cs : List PV) (vs : List Value) (hl : vs.length = cs.length) (ha : ∀ c ∈ cs, c.isAgg = false)
      (h : ∀ (i : Nat) (c : PV) (v : Value), cs[i]? = some c → vs[i]? = some v → Rep w F c v) : Rep w F (.agg cs) (.agg ⟨vs⟩)
  | rowNil : Rep w F (.row []) (.slice none 0 0)
  | row (xs : List PV) (ad : Addr) (c sz : Nat) (cv : List Value) (hc : xs.length ≤ c) (hsz : ∀ x ∈ xs, x.cells.length = sz)
      (hF : flat xs = [] ∨ F ad.block) (hl : cv.length = (flat xs).length) (hcell : ∀ (j : Nat) (v : Value), cv[j]? = some v → w.cell? (ad.add j) = some v)
      (ha : ∀ c ∈ flat xs, c.isAgg = false)
      (h : ∀ (i : Nat) (p : PV) (v : Value), (flat xs)[i]? = some p → cv[i]? = some v → Rep w F p v) : Rep w F (.row xs) (.slice (some ad) xs.length c)
  | ptr (x : PV) (ad : Addr) (cv : List Value) (hF : x.cells = [] ∨ F ad.block) (hl : cv.length = x.cells.length)
      (hcell : ∀ (j : Nat) (v : Value), cv[j]? = some v → w.cell? (ad.add j) = some v)
      (ha : ∀ c ∈ x.cells, c.isAgg = false)
      (h : ∀ (i : Nat) (p : PV) (v : Value), x.cells[i]? = some p → cv[i]? = some v → Rep w F p v) : Rep w F (.ptr x) (.pointer (some ad))
  | nilp : Rep w F .nilp (.pointer none)
  | fn (f : FuncId) (caps : List PV) (vs : List Value) (hl : vs.length = caps.length)
      (h : ∀ (i : Nat) (c : PV) (v : Value), caps[i]? = some c → vs[i]? = some v → Rep w F c v) : Rep w F (.fn f caps) (.func (.func f) #[] ⟨vs⟩)
  | yld (l : Nat) : Rep w F (.yld l) (.func (.yield l) #[] #[])
  | raw (v : Value) (h : v.oneCell' = true) : Rep w F (.raw v) v
  | rowp (xs : List PV) (v : Value) (h : Rep w F (.row xs) v) (hp : v = .slice none 0 0 ∨ ∃ (ad : Addr) (n c : Nat) (cur : Array Value) (ty : TypeId), v = .slice (some ad) n c ∧ F ad.block ∧ w.heap[ad.block]? = some (.cells cur ty (0, 0))) : Rep w F (.rowp xs) v

/-- The blocks of F are as they were. -/
def Same (F : Nat → Prop) (w w' : World) : Prop := ∀ b, F b → w'.heap[b]? = w.heap[b]?

theorem Same.cell {F : Nat → Prop} {w w' : World} (h : Same F w w') {ad : Addr} (hF : F ad.block) : w'.cell? ad = w.cell? ad := World.cell?_of_block (h _ hF)

theorem add_block (ad : Addr) (j : Nat) : (ad.add j).block = ad.block := by unfold Addr.add; split <;> rfl

theorem Rep.mono {w w' : World} {F F' : Nat → Prop} {p : PV} {v : Value} (h : Rep w F p v) (hs : Same F w w') (hF : ∀ b, F b → F' b) : Rep w' F' p v := by
  induction h with
  | int k n => exact .int k n
  | bool b => exact .bool b
  | str l => exact .str l
  | agg cs vs hl ha h ih => exact .agg cs vs hl ha ih
  | rowNil => exact .rowNil
  | row xs ad c sz cv hc hsz hFb hl hcell ha h ih =>
    refine .row xs ad c sz cv hc hsz (hFb.imp id (hF _)) hl (fun j v hj => ?_) ha ih
    rcases hFb with hFb | hFb
    · have : cv = [] := List.eq_nil_of_length_eq_zero (by rw [hl, hFb]; rfl)
      subst this
      simp at hj
    · rw [hs.cell (by rw [add_block]; exact hFb)]; exact hcell j v hj
  | ptr x ad cv hFb hl hcell ha h ih =>
    refine .ptr x ad cv (hFb.imp id (hF _)) hl (fun j v hj => ?_) ha ih
    rcases hFb with hFb | hFb
    · have : cv = [] := List.eq_nil_of_length_eq_zero (by rw [hl, hFb]; rfl)
      subst this
      simp at hj
    · rw [hs.cell (by rw [add_block]; exact hFb)]; exact hcell j v hj
  | nilp => exact .nilp
  | yld l => exact .yld l
  | raw v h => exact .raw v h
  | fn f caps vs hl h ih => exact .fn f caps vs hl ih
  | rowp xs v h hp ih =>
    refine .rowp xs v ih ?_
    rcases hp with hp | ⟨ad, n, c, cur, ty, h1, h2, h3⟩
    · exact .inl hp
    · exact .inr ⟨ad, n, c, cur, ty, h1, hF _ h2, by rw [hs _ h2]; exact h3⟩

/-- Only blocks of cells matter. -/
def hard : Obj → Bool
  | .cells .. | .map .. | .mapIter .. => true
  | _ => false
def isC (w : World) (b : Nat) : Prop := ∃ o, w.heap[b]? = some o ∧ hard o = true
theorem isC_of_cell {w : World} {ad : Addr} {v : Value} (h : w.cell? ad = some v) : isC w ad.block := by
  unfold World.cell? at h
  cases ho : w.heap[ad.block]? with
  | none => simp [ho] at h
  | some o => cases o with
    | cells c t g => exact ⟨_, ho, rfl⟩
    | _ => simp [ho] at h
theorem isC_lit {w : World} {b : Nat} {c : Array Value} {t : TypeId} {g : Nat × Nat} (h : w.heap[b]? = some (.cells c t g)) : isC w b := ⟨_, h, rfl⟩
theorem not_isC {w : World} {b : Nat} {o : Obj} (h : w.heap[b]? = some o) (hh : hard o = false) : ¬ isC w b := by
  rintro ⟨o', ho, hc⟩; rw [h] at ho; cases ho; rw [hh] at hc; cases hc

theorem Rep.cellsOnly {w : World} {F : Nat → Prop} {p : PV} {v : Value} (h : Rep w F p v) : Rep w (fun b => F b ∧ isC w b) p v := by
  induction h with
  | int k n => exact .int k n
  | bool b => exact .bool b
  | str l => exact .str l
  | agg cs vs hl ha h ih => exact .agg cs vs hl ha ih
  | rowNil => exact .rowNil
  | row xs ad c sz cv hc hsz hFb hl hcell ha h ih =>
    refine .row xs ad c sz cv hc hsz ?_ hl hcell ha ih
    by_cases he : flat xs = []
    · exact .inl he
    · have hlt : 0 < cv.length := by rw [hl]; exact List.length_pos_iff.2 he
      have := isC_of_cell (hcell 0 cv[0] (List.getElem?_eq_getElem hlt))
      rw [add_block] at this
      exact .inr ⟨hFb.resolve_left he, this⟩
  | ptr x ad cv hFb hl hcell ha h ih =>
    refine .ptr x ad cv ?_ hl hcell ha ih
    by_cases he : x.cells = []
    · exact .inl he
    · have hlt : 0 < cv.length := by rw [hl]; exact List.length_pos_iff.2 he
      have := isC_of_cell (hcell 0 cv[0] (List.getElem?_eq_getElem hlt))
      rw [add_block] at this
      exact .inr ⟨hFb.resolve_left he, this⟩
  | nilp => exact .nilp
  | yld l => exact .yld l
  | raw v h => exact .raw v h
  | fn f caps vs hl h ih => exact .fn f caps vs hl ih
  | rowp xs v h hp ih =>
    refine .rowp xs v ih ?_
    rcases hp with hp | ⟨ad, n, c, cur, ty, h1, h2, h3⟩
    · exact .inl hp
    · exact .inr ⟨ad, n, c, cur, ty, h1, ⟨h2, isC_lit h3⟩, h3⟩

/-- Flat values take no memory. -/
def PV.isFlat : PV → Bool
  | .int .. | .bool _ | .str _ => true
  | _ => false

theorem Rep.flat {w w' : World} {F F' : Nat → Prop} {p : PV} {v : Value} (h : Rep w F p v) (hf : p.isFlat = true) : Rep w' F' p v := by
  cases h <;> first | (simp [PV.isFlat] at hf; done) | constructor

theorem Rep.oneCell {w : World} {F : Nat → Prop} {p : PV} {v : Value} (h : Rep w F p v) (ha : p.isAgg = false) : v.oneCell' = true := by
  cases h <;> first | (simp [PV.isAgg] at ha; done) | rfl | assumption | (rename_i h _; cases h <;> rfl)

/-- Lists of values that read as lists of plain values, one by one. -/
def Reps (w : World) (F : Nat → Prop) (ps : List PV) (vs : List Value) : Prop :=
  vs.length = ps.length ∧ ∀ (i : Nat) (p : PV) (v : Value), ps[i]? = some p → vs[i]? = some v → Rep w F p v

theorem Reps.mono {w w' : World} {F F' : Nat → Prop} {ps : List PV} {vs : List Value} (h : Reps w F ps vs) (hs : Same F w w') (hF : ∀ b, F b → F' b) : Reps w' F' ps vs :=
  ⟨h.1, fun i p v hp hv => (h.2 i p v hp hv).mono hs hF⟩

theorem Reps.nil (w : World) (F : Nat → Prop) : Reps w F [] [] := ⟨rfl, fun i p v hp => by simp at hp⟩

theorem Reps.cons {w : World} {F : Nat → Prop} {p : PV} {v : Value} {ps : List PV} {vs : List Value} (h : Rep w F p v) (hs : Reps w F ps vs) : Reps w F (p :: ps) (v :: vs) := by
  refine ⟨by simp [hs.1], fun i q u hq hu => ?_⟩
  cases i with
  | zero => simp at hq hu; subst hq; subst hu; exact h
  | succ i => simp at hq hu; exact hs.2 i q u hq hu

theorem Reps.tail {w : World} {F : Nat → Prop} {p : PV} {v : Value} {ps : List PV} {vs : List Value} (h : Reps w F (p :: ps) (v :: vs)) : Rep w F p v ∧ Reps w F ps vs :=
  ⟨h.2 0 p v rfl rfl, by have := h.1; simpa using this, fun i q u hq hu => h.2 (i + 1) q u (by simpa using hq) (by simpa using hu)⟩

theorem Reps.append {w : World} {F : Nat → Prop} {ps qs : List PV} {vs us : List Value} (h : Reps w F ps vs) (k : Reps w F qs us) : Reps w F (ps ++ qs) (vs ++ us) := by
  refine ⟨by simp [h.1, k.1], fun i p v hp hv => ?_⟩
  by_cases hi : i < ps.length
  · rw [List.getElem?_append_left hi] at hp
    rw [List.getElem?_append_left (by rw [h.1]; exact hi)] at hv
    exact h.2 i p v hp hv
  · rw [List.getElem?_append_right (by omega)] at hp
    rw [List.getElem?_append_right (by rw [h.1]; omega), h.1] at hv
    exact k.2 _ p v hp hv

theorem Reps.take {w : World} {F : Nat → Prop} {ps : List PV} {vs : List Value} (h : Reps w F ps vs) (n : Nat) : Reps w F (ps.take n) (vs.take n) := by
  refine ⟨by simp [h.1], fun i p v hp hv => ?_⟩
  rw [List.getElem?_take] at hp hv
  split at hp
  · rename_i hi
    rw [if_pos hi] at hv
    exact h.2 i p v hp hv
  · cases hp

theorem Reps.drop {w : World} {F : Nat → Prop} {ps : List PV} {vs : List Value} (h : Reps w F ps vs) (n : Nat) : Reps w F (ps.drop n) (vs.drop n) := by
  refine ⟨by simp [h.1], fun i p v hp hv => ?_⟩
  rw [List.getElem?_drop] at hp hv
  exact h.2 _ p v hp hv

theorem Reps.set {w : World} {F : Nat → Prop} {ps : List PV} {vs : List Value} (h : Reps w F ps vs) (n : Nat) {p : PV} {v : Value} (hp : Rep w F p v) : Reps w F (ps.set n p) (vs.set n v) := by
  refine ⟨by simp [h.1], fun i q u hq hu => ?_⟩
  rw [List.getElem?_set] at hq hu
  split at hq
  · rename_i hi
    rw [if_pos hi] at hu
    split at hq
    · rename_i hl
      rw [if_pos (by rw [h.1]; exact hl)] at hu
      simp at hq hu; subst hq; subst hu; exact hp
    · simp at hq
  · rename_i hi
    rw [if_neg hi] at hu
    exact h.2 i q u hq hu

theorem Reps.get {w : World} {F : Nat → Prop} {ps : List PV} {vs : List Value} (h : Reps w F ps vs) {i : Nat} {p : PV} (hp : ps[i]? = some p) : ∃ v, vs[i]? = some v ∧ Rep w F p v := by
  have hi : i < vs.length := by rw [h.1]; exact (List.getElem?_eq_some_iff.1 hp).1
  exact ⟨vs[i], List.getElem?_eq_getElem hi, h.2 i p _ hp (List.getElem?_eq_getElem hi)⟩

/-- A list of cells read from a place on. -/
theorem cells_add {w : World} {ad : Addr} {cv : List Value} (hcell : ∀ (j : Nat) (v : Value), cv[j]? = some v → w.cell? (ad.add j) = some v) (o n : Nat) :
    ∀ (j : Nat) (v : Value), ((cv.drop o).take n)[j]? = some v → w.cell? ((ad.add o).add j) = some v := by
  intro j v hj
  rw [List.getElem?_take] at hj
  split at hj
  · rw [List.getElem?_drop] at hj
    have := hcell (o + j) v hj
    have e : (ad.add o).add j = ad.add (o + j) := by
      unfold Addr.add
      by_cases h1 : o = 0
      · subst h1; simp
      · by_cases h2 : j = 0
        · subst h2; simp [h1]
        · rw [if_neg h1, if_neg h2, if_neg (by omega)]; simp [Nat.add_assoc]
    rw [e]; exact this
  · cases hj

theorem flat_length {xs : List PV} {sz : Nat} (h : ∀ x ∈ xs, x.cells.length = sz) : (flat xs).length = xs.length * sz := by
  induction xs with
  | nil => simp [flat]
  | cons x xs ih =>
    have := ih fun y hy => h y (List.mem_cons_of_mem _ hy)
    simp only [flat, List.flatMap_cons, List.length_append, List.length_cons] at *
    rw [this, h x (List.mem_cons_self ..), Nat.add_mul]; omega

theorem flat_append (xs ys : List PV) : flat (xs ++ ys) = flat xs ++ flat ys := by simp [flat]

theorem flat_drop {xs : List PV} {sz : Nat} (h : ∀ x ∈ xs, x.cells.length = sz) (i : Nat) : flat (xs.drop i) = (flat xs).drop (i * sz) := by
  induction i generalizing xs with
  | zero => simp
  | succ i ih =>
    cases xs with
    | nil => simp [flat]
    | cons x xs =>
      have := ih fun y hy => h y (List.mem_cons_of_mem _ hy)
      have hx := h x (List.mem_cons_self ..)
      have e : (i + 1) * sz - sz = i * sz := by rw [Nat.add_mul]; omega
      have e2 : x.cells.drop ((i + 1) * sz) = [] := List.drop_eq_nil_of_le (by rw [hx, Nat.add_mul]; omega)
      simp only [List.drop_succ_cons, this, flat, List.flatMap_cons]
      rw [List.drop_append, hx, e, e2, List.nil_append]; exact this

theorem flat_take {xs : List PV} {sz : Nat} (h : ∀ x ∈ xs, x.cells.length = sz) (i : Nat) : flat (xs.take i) = (flat xs).take (i * sz) := by
  induction i generalizing xs with
  | zero => simp [flat]
  | succ i ih =>
    cases xs with
    | nil => simp [flat]
    | cons x xs =>
      have := ih fun y hy => h y (List.mem_cons_of_mem _ hy)
      have hx := h x (List.mem_cons_self ..)
      have e : (i + 1) * sz - sz = i * sz := by rw [Nat.add_mul]; omega
      have e2 : x.cells.take ((i + 1) * sz) = x.cells := List.take_of_length_le (by rw [hx, Nat.add_mul]; omega)
      simp only [List.take_succ_cons, flat, List.flatMap_cons] at *
      rw [this, List.take_append, hx, e, e2]

/-- An element's cells in a row's cells. -/
theorem flat_elem {xs : List PV} {sz : Nat} (h : ∀ x ∈ xs, x.cells.length = sz) {i : Nat} {x : PV} (hx : xs[i]? = some x) : ((flat xs).drop (i * sz)).take sz = x.cells := by
  rw [← flat_drop h]
  have hi := (List.getElem?_eq_some_iff.1 hx)
  obtain ⟨hi, rfl⟩ := hi
  rw [List.drop_eq_getElem_cons hi]
  simp only [flat, List.flatMap_cons]
  rw [List.take_append, h xs[i] (List.getElem_mem hi), Nat.sub_self, List.take_of_length_le (by rw [h xs[i] (List.getElem_mem hi)]; omega)]; simp

end Go.Proofs.YtjbfcmaiejlnbaaVm
set_option linter.unusedVariables false
set_option linter.unusedSimpArgs false
namespace Go.Proofs.YtjbfcmaiejlnbaaVm
open Go

/-- What a slot holds. -/
inductive AV where
  | any
  | val (p : PV)
  | nils
  | ref (id : Nat)
  | adr (id : Nat) (o : Nat)
  | ead (id : Nat) (sz : Nat) (i : Nat) (o : Nat)
  | tup (ps : List PV)
  | vw (id : Nat) (sz : Nat) (lo : Nat) (len : Nat)
  | agr (ps : List PV) (k : Nat) (id : Nat)

/-- An object that the call owns, or has let go. -/
inductive Ob where
  | free
  | gone
  | row (e : TypeId) (xs : List PV)
  | box (ag : Bool) (cs : List AV)
  | prow (xs : List PV)
  | pbox (x : PV)
  | rowk (e : TypeId) (xs : List PV) (k : Nat)
  | imap (es : List (Int × Int × Nat)) (clock : Nat)
  | iter (m since : Nat) (seen : List Nat) (last : Nat)

def Ob.live : Ob → Bool
  | .row .. | .box .. | .rowk .. | .imap .. | .iter .. => true
  | _ => false

structure St where
  sl : Nat → AV
  ob : Nat → Ob
  ck : Nat

def St.get (σ : St) (t : Nat) : AV := σ.sl t
def St.set (σ : St) (d : Nat) (v : AV) : St := { σ with sl := fun t => if t = d then v else σ.sl t }
def St.setOb (σ : St) (i : Nat) (o : Ob) : St := { σ with ob := fun j => if j = i then o else σ.ob j }

def AV.ment : AV → Nat → Prop
  | .ref i, j | .adr i _, j | .ead i _ _ _, j | .vw i _ _ _, j | .agr _ _ i, j => i = j
  | _, _ => False

def Ob.ment : Ob → Nat → Prop
  | .box _ cs, j => ∃ c ∈ cs, c.ment j
  | .iter m _ _ _, j => m = j
  | _, _ => False

def blkOf : Value → Option Nat
  | .slice (some a) _ _ => some a.block
  | .pointer (some a) => some a.block
  | .map (some b) => some b
  | _ => none

/-- A map's entries. -/
def mEnt (e : Int × Int × Nat) : MapEntry := ⟨.int .i64 e.1, .int .i64 e.2.1, e.2.2⟩

structure Ctx where
  w0 : World
  F0 : Nat → Prop
  O0 : Nat → Prop
  n : Nat
  pin : Nat → Option Value
  lvl : Nat

def Live (ob : Nat → Ob) (cv : Nat → Value) (i b : Nat) : Prop := (ob i).live = true ∧ blkOf (cv i) = some b

/-- What stays as it is, whatever the call still does. -/
def FS (C : Ctx) (ob : Nat → Ob) (cv : Nat → Value) (w : World) (b : Nat) : Prop :=
  C.F0 b ∨ ((C.w0.heap.size ≤ b ∨ C.O0 b) ∧ b < w.heap.size ∧ ∀ i, ¬ Live ob cv i b)

def SRep (w : World) (F : Nat → Prop) (cv : Nat → Value) : AV → Value → Prop
  | .any, _ => True
  | .val p, v => Rep w F p v
  | .nils, v => v = .slice none 0 0
  | .ref i, v => v = cv i
  | .adr i o, v => ∃ b, cv i = .pointer (some ⟨b, 0, none⟩) ∧ v = .pointer (some ⟨b, o, none⟩)
  | .ead i sz k o, v => ∃ b n c, cv i = .slice (some ⟨b, 0, none⟩) n c ∧ v = .pointer (some ⟨b, k * sz + o, none⟩)
  | .tup ps, v => ∃ vs, v = .tuple ⟨vs⟩ ∧ Reps w F ps vs
  | .vw i sz lo len, v => (cv i = .slice none 0 0 ∧ lo = 0 ∧ len = 0 ∧ v = .slice none 0 0) ∨
      ∃ b n c o, cv i = .slice (some ⟨b, 0, none⟩) n c ∧ lo + len ≤ c ∧ (o = lo * sz ∨ (c = lo ∧ len = 0 ∧ 0 < lo)) ∧ v = .slice (some ⟨b, o, none⟩) len (c - lo)
  | .agr ps k i, v => ∃ vs, v = .agg ⟨vs⟩ ∧ vs.length = ps.length ∧ vs[k]? = some (cv i) ∧ (cv i).oneCell' = true ∧ ∀ j p u, j ≠ k → ps[j]? = some p → vs[j]? = some u → Rep w F p u

/-- A cell of a variable. -/
def AV.cell : AV → Bool
  | .val p => !p.isAgg
  | .nils | .ref _ | .adr .. => true
  | _ => false

def szOf (P : Program) (t : TypeId) : Option Nat := (P.info? t).map (·.size)

def OwnRow (P : Program) (w : World) (F : Nat → Prop) (v : Value) (e : TypeId) (xs : List PV) : Prop :=
  ∃ sz cells, szOf P e = some sz ∧ 0 < sz ∧ (∀ x ∈ xs, x.cells.length = sz) ∧ w.ownsRow 0 e sz v xs.length cells ∧ Reps w F (flat xs) cells ∧ ∀ c ∈ flat xs, c.isAgg = false

/-- A row whose capacity is known: behind its elements lie k places more. -/
def OwnRowK (P : Program) (w : World) (F : Nat → Prop) (v : Value) (e : TypeId) (xs : List PV) (k : Nat) : Prop :=
  ∃ sz cells, szOf P e = some sz ∧ 0 < sz ∧ (∀ x ∈ xs, x.cells.length = sz) ∧ cells.length = xs.length * sz ∧ Reps w F (flat xs) cells ∧ (∀ c ∈ flat xs, c.isAgg = false) ∧
    ((v = .slice none 0 0 ∧ xs = [] ∧ k = 0) ∨
     ∃ g n cur, v = .slice (some ⟨g, 0, none⟩) n (xs.length + k) ∧ w.heap[g]? = some (.cells cur e (0, 0)) ∧ xs.length + k ≤ maxLen ∧ cur.size = (xs.length + k) * sz ∧ cur.toList.take (xs.length * sz) = cells)

theorem OwnRowK.mono {P : Program} {w w' : World} {F F' : Nat → Prop} {v : Value} {e : TypeId} {xs : List PV} {k : Nat} (h : OwnRowK P w F v e xs k) (hs : Same F w w') (hF : ∀ b, F b → F' b)
    (hb : ∀ b, blkOf v = some b → w'.heap[b]? = w.heap[b]?) : OwnRowK P w' F' v e xs k := by
  obtain ⟨sz, cells, h1, h2, h3, h4, h5, h6, h7⟩ := h
  refine ⟨sz, cells, h1, h2, h3, h4, h5.mono hs hF, h6, ?_⟩
  rcases h7 with h7 | ⟨g, n, cur, rfl, hg, rest⟩
  · exact .inl h7
  · exact .inr ⟨g, n, cur, rfl, by rw [hb g rfl]; exact hg, rest⟩

def ObRep (P : Program) (w : World) (F : Nat → Prop) (cv : Nat → Value) (i : Nat) : Ob → Prop
  | .free | .gone => True
  | .row e xs => OwnRow P w F (cv i) e xs
  | .box _ cs => ∃ b ty arr, cv i = .pointer (some ⟨b, 0, none⟩) ∧ w.heap[b]? = some (.cells ⟨arr⟩ ty (0, 0)) ∧ arr.length = cs.length ∧
      (∀ c ∈ cs, c.cell = true) ∧ ∀ (j : Nat) (c : AV) (v : Value), cs[j]? = some c → arr[j]? = some v → SRep w F cv c v ∧ v.oneCell' = true
  | .prow xs => Rep w F (.row xs) (cv i)
  | .pbox x => Rep w F (.ptr x) (cv i)
  | .rowk e xs k => OwnRowK P w F (cv i) e xs k
  | .imap es clock => ∃ b, cv i = .map (some b) ∧ w.heap[b]? = some (.map ⟨es.map mEnt⟩ clock)
  | .iter m since seen last => ∃ b bm, cv i = .pointer (some ⟨b, 0, none⟩) ∧ cv m = .map (some bm) ∧ w.heap[b]? = some (.mapIter (some bm) since ⟨seen⟩ last)

/-- What is left to do at the end is nothing: blocks of deferred calls that hold none. -/
def DefOK (C : Ctx) (F : Nat → Prop) (w : World) (ds : List Deferred) : Prop :=
  (C.lvl = 0 → ds = []) ∧ ds.Nodup ∧ ∀ d ∈ ds, ∃ D, d = { target := .collected D, args := #[] } ∧ F D ∧ w.heap[D]? = some (.deferred (some [])) ∧ (C.lvl = 2 → C.w0.heap.size ≤ D)

theorem DefOK.mono {C : Ctx} {F F' : Nat → Prop} {w w' : World} {ds : List Deferred} (h : DefOK C F w ds) (hF : ∀ b, F b → F' b) (hS : Same F w w') : DefOK C F' w' ds :=
  ⟨h.1, h.2.1, fun d hd => by obtain ⟨D, h1, h2, h3, h4⟩ := h.2.2 d hd; exact ⟨D, h1, hF D h2, by rw [hS D h2]; exact h3, h4⟩⟩
theorem DefOK.low {C C' : Ctx} {F F' : Nat → Prop} {w w' : World} {ds : List Deferred} (h : DefOK C F w ds) (hF : ∀ b, F b → F' b) (hS : Same F w w') (ht : C'.lvl = 1) : DefOK C' F' w' ds :=
  ⟨fun e => (by rw [ht] at e; cases e), h.2.1, fun d hd => by obtain ⟨D, h1, h2, h3, h4⟩ := h.2.2 d hd; exact ⟨D, h1, hF D h2, by rw [hS D h2]; exact h3, fun e => by rw [ht] at e; cases e⟩⟩
theorem DefOK.nil {C : Ctx} {F : Nat → Prop} {w : World} : DefOK C F w [] := ⟨fun _ => rfl, List.nodup_nil, fun d hd => by cases hd⟩

structure Rel (P : Program) (C : Ctx) (σ : St) (a : Act) (w : World) (cv : Nat → Value) : Prop where
  os : w.os = C.w0.os
  tape : w.tape = C.w0.tape
  output : w.output = C.w0.output
  size : C.w0.heap.size ≤ w.heap.size
  old : ∀ k, k < C.w0.heap.size → ¬ C.O0 k → w.heap[k]? = C.w0.heap[k]?
  f0 : ∀ b, C.F0 b → b < C.w0.heap.size ∧ ¬ C.O0 b
  o0 : ∀ b, C.O0 b → b < C.w0.heap.size
  live : ∀ i b, Live σ.ob cv i b → (C.w0.heap.size ≤ b ∨ C.O0 b) ∧ b < w.heap.size
  inj : ∀ i j b, Live σ.ob cv i b → Live σ.ob cv j b → i = j
  obs : ∀ i, ObRep P w (FS C σ.ob cv w) cv i (σ.ob i)
  slots : ∀ t, SRep w (FS C σ.ob cv w) cv (σ.sl t) (a.tmps.getD t undef)
  ments : ∀ t i, (σ.sl t).ment i → σ.ob i ≠ .free
  mento : ∀ j i, (σ.ob j).ment i → σ.ob i ≠ .free
  defers : DefOK C (FS C σ.ob cv w) w a.defers
  ntmps : a.tmps.size = C.n
  pin : ∀ i v, C.pin i = some v → σ.ob i ≠ .free ∧ cv i = v

theorem SRep.mono {w w' : World} {F F' : Nat → Prop} {cv cv' : Nat → Value} {v : AV} {u : Value} (h : SRep w F cv v u) (hs : Same F w w') (hF : ∀ b, F b → F' b)
    (hcv : ∀ i, v.ment i → cv' i = cv i) : SRep w' F' cv' v u := by
  cases v with
  | any => trivial
  | val p => exact Rep.mono h hs hF
  | nils => exact h
  | ref i => exact h.trans (hcv i rfl).symm
  | adr i o => obtain ⟨b, h1, h2⟩ := h; exact ⟨b, (hcv i rfl).trans h1, h2⟩
  | ead i sz k o => obtain ⟨b, n, c, h1, h2⟩ := h; exact ⟨b, n, c, (hcv i rfl).trans h1, h2⟩
  | tup ps => obtain ⟨vs, h1, h2⟩ := h; exact ⟨vs, h1, h2.mono hs hF⟩
  | vw i sz lo len =>
    rcases h with ⟨h1, h2⟩ | ⟨b, n, c, o, h1, h2⟩
    · exact .inl ⟨(hcv i rfl).trans h1, h2⟩
    · exact .inr ⟨b, n, c, o, (hcv i rfl).trans h1, h2⟩
  | agr ps k i =>
    obtain ⟨vs, h1, h2, h3, h4, h5⟩ := h
    exact ⟨vs, h1, h2, by rw [hcv i rfl]; exact h3, by rw [hcv i rfl]; exact h4, fun j p u hj hp hu => (h5 j p u hj hp hu).mono hs hF⟩

theorem ownsRow_same {w w' : World} {base : Nat} {e : TypeId} {size : Nat} {v : Value} {n : Nat} {xs : List Value} (h : w.ownsRow base e size v n xs)
    (hs : ∀ b, v.ownBlock = some b → w'.heap[b]? = w.heap[b]?) : w'.ownsRow base e size v n xs := by
  obtain ⟨h1, h2⟩ := h
  refine ⟨h1, ?_⟩
  rcases h2 with h2 | ⟨g, cap, cur, rfl, hb, hg, rest⟩
  · exact .inl h2
  · exact .inr ⟨g, cap, cur, rfl, hb, by rw [hs g rfl]; exact hg, rest⟩

theorem OwnRow.mono {P : Program} {w w' : World} {F F' : Nat → Prop} {v : Value} {e : TypeId} {xs : List PV} (h : OwnRow P w F v e xs) (hs : Same F w w') (hF : ∀ b, F b → F' b)
    (hb : ∀ b, blkOf v = some b → w'.heap[b]? = w.heap[b]?) : OwnRow P w' F' v e xs := by
  obtain ⟨sz, cells, h1, h2, h3, h4, h5, h6⟩ := h
  refine ⟨sz, cells, h1, h2, h3, ownsRow_same h4 fun b hv => hb b ?_, h5.mono hs hF, h6⟩
  cases v <;> simp [Value.ownBlock, blkOf] at * <;> (rename_i x _ _; cases x <;> simp_all [Value.ownBlock, blkOf])

theorem ObRep.mono {P : Program} {w w' : World} {F F' : Nat → Prop} {cv cv' : Nat → Value} {i : Nat} {o : Ob} (h : ObRep P w F cv i o) (hs : Same F w w') (hF : ∀ b, F b → F' b)
    (hi : cv' i = cv i) (hcv : ∀ j, o.ment j → cv' j = cv j) (hb : o.live = true → ∀ b, blkOf (cv i) = some b → w'.heap[b]? = w.heap[b]?) : ObRep P w' F' cv' i o := by
  cases o with
  | free => trivial
  | gone => trivial
  | row e xs => show OwnRow P w' F' (cv' i) e xs; rw [hi]; exact OwnRow.mono h hs hF (hb rfl)
  | box ag cs =>
    obtain ⟨b, ty, arr, h1, h2, h3, h4, h5⟩ := h
    refine ⟨b, ty, arr, hi.trans h1, ?_, h3, h4, fun j c v hc hv => ⟨((h5 j c v hc hv).1).mono hs hF fun k hk => hcv k ⟨c, List.mem_of_getElem? hc, hk⟩, (h5 j c v hc hv).2⟩⟩
    rw [hb rfl b (by rw [h1]; rfl)]; exact h2
  | prow xs => show Rep w' F' _ (cv' i); rw [hi]; exact Rep.mono h hs hF
  | pbox x => show Rep w' F' _ (cv' i); rw [hi]; exact Rep.mono h hs hF
  | rowk e xs k => show OwnRowK P w' F' (cv' i) e xs k; rw [hi]; exact OwnRowK.mono h hs hF (hb rfl)
  | imap es clock =>
    obtain ⟨b, h1, h2⟩ := h
    exact ⟨b, hi.trans h1, by rw [hb rfl b (by rw [h1]; rfl)]; exact h2⟩
  | iter m since seen last =>
    obtain ⟨b, bm, h1, h2, h3⟩ := h
    exact ⟨b, bm, hi.trans h1, (hcv m rfl).trans h2, by rw [hb rfl b (by rw [h1]; rfl)]; exact h3⟩

section
variable {P : Program} {C : Ctx} {σ : St} {a : Act} {w : World} {cv : Nat → Value}

theorem Rel.fs_lt (h : Rel P C σ a w cv) {b : Nat} (hb : FS C σ.ob cv w b) : b < w.heap.size := by
  rcases hb with hb | hb
  · have := (h.f0 b hb).1; have := h.size; omega
  · exact hb.2.1

theorem Rel.fs_live (h : Rel P C σ a w cv) {b i : Nat} (hb : FS C σ.ob cv w b) : ¬ Live σ.ob cv i b := by
  intro hl
  rcases hb with hb | hb
  · have h1 := (h.live i b hl).1; have h2 := h.f0 b hb; rcases h1 with h1 | h1
    · omega
    · exact h2.2 h1
  · exact hb.2.2 i hl

/-- The whole step: objects and memory turn; the slots stay. -/
theorem Rel.upd (h : Rel P C σ a w cv) {ob' : Nat → Ob} {w' : World} {cv' : Nat → Value}
    (hos : w'.os = w.os) (htape : w'.tape = w.tape) (hout : w'.output = w.output) (hsize : w.heap.size ≤ w'.heap.size)
    (hold : ∀ k, k < C.w0.heap.size → ¬ C.O0 k → w'.heap[k]? = w.heap[k]?)
    (hlive : ∀ i b, Live ob' cv' i b → (C.w0.heap.size ≤ b ∨ C.O0 b) ∧ b < w'.heap.size)
    (hinj : ∀ i j b, Live ob' cv' i b → Live ob' cv' j b → i = j)
    (hS : Same (FS C σ.ob cv w) w w') (hnew : ∀ i b, FS C σ.ob cv w b → ¬ Live ob' cv' i b)
    (hobs : (∀ b, FS C σ.ob cv w b → FS C ob' cv' w' b) → ∀ i, ObRep P w' (FS C ob' cv' w') cv' i (ob' i))
    (hcv : ∀ i, σ.ob i ≠ .free → cv' i = cv i) (hfree : ∀ i, ob' i = .free → σ.ob i = .free)
    (hmento : ∀ j i, (ob' j).ment i → ob' i ≠ .free) : Rel P C { σ with ob := ob' } a w' cv' := by
  have hF : ∀ b, FS C σ.ob cv w b → FS C ob' cv' w' b := by
    intro b hb
    have hn := fun i => hnew i b hb
    rcases hb with hb | hb
    · exact .inl hb
    · exact .inr ⟨hb.1, by have := hb.2.1; omega, hn⟩
  exact {
    os := hos.trans h.os, tape := htape.trans h.tape, output := hout.trans h.output, size := Nat.le_trans h.size hsize
    old := fun k hk ho => (hold k hk ho).trans (h.old k hk ho)
    f0 := h.f0, o0 := h.o0, live := hlive, inj := hinj
    obs := hobs hF
    slots := fun t => (h.slots t).mono hS hF fun i hi => hcv i (h.ments t i hi)
    ments := fun t i hi hf => h.ments t i hi (hfree i hf)
    mento := hmento
    defers := h.defers.mono hF hS
    ntmps := h.ntmps
    pin := fun i v hv => ⟨fun hf => (h.pin i v hv).1 (hfree i hf), (hcv i (h.pin i v hv).1).trans (h.pin i v hv).2⟩ }

theorem Rel.set (h : Rel P C σ a w cv) (d : Option Nat) (hd : ∀ t, d = some t → t < C.n) {v : AV} {u : Value} (hv : SRep w (FS C σ.ob cv w) cv v u) (hm : ∀ i, v.ment i → σ.ob i ≠ .free) :
    Rel P C (match d with | some t => σ.set t v | none => σ) (a.put d u) w cv := by
  cases d with
  | none => exact { os := h.os, tape := h.tape, output := h.output, size := h.size, old := h.old, f0 := h.f0, o0 := h.o0, live := h.live, inj := h.inj, obs := h.obs, slots := h.slots, ments := h.ments, mento := h.mento, defers := h.defers, ntmps := h.ntmps, pin := h.pin }
  | some t =>
    have ht := hd t rfl
    refine { os := h.os, tape := h.tape, output := h.output, size := h.size, old := h.old, f0 := h.f0, o0 := h.o0, live := h.live, inj := h.inj, obs := h.obs, slots := ?_, ments := ?_, mento := h.mento, defers := h.defers, ntmps := by simp [Act.put, h.ntmps], pin := h.pin }
    · intro t'
      simp only [St.set, Act.put]
      by_cases e : t' = t
      · subst e
        rw [if_pos rfl]
        rw [show (a.tmps.setIfInBounds t' u).getD t' undef = u by simp [Array.getD, h.ntmps, ht]]
        exact hv
      · rw [if_neg e]
        rw [show (a.tmps.setIfInBounds t u).getD t' undef = a.tmps.getD t' undef by
          simp only [Array.getD_eq_getD_getElem?]
          rw [Array.getElem?_setIfInBounds]
          rw [if_neg (fun e' => e e'.symm)]]
        exact h.slots t'
    · intro t' i
      simp only [St.set]
      by_cases e : t' = t
      · rw [if_pos e]; exact hm i
      · rw [if_neg e]; exact h.ments t' i

theorem Rel.drew (h : Rel P C σ a w cv) : Rel P C σ a w.drew cv :=
  { os := h.os, tape := h.tape, output := h.output, size := h.size, old := h.old, f0 := h.f0, o0 := h.o0, live := h.live, inj := h.inj,
    obs := fun i => (h.obs i).mono (fun _ _ => rfl) (fun _ hb => hb) rfl (fun _ _ => rfl) (fun _ _ _ => rfl)
    slots := fun t => (h.slots t).mono (fun _ _ => rfl) (fun _ hb => hb) (fun _ _ => rfl)
    ments := h.ments, mento := h.mento, defers := h.defers, ntmps := h.ntmps, pin := h.pin }

end

end Go.Proofs.YtjbfcmaiejlnbaaVm
set_option linter.unusedVariables false
set_option linter.unusedSimpArgs false
namespace Go.Proofs.YtjbfcmaiejlnbaaVm
open Go

theorem blkOf_ownBlock {v : Value} {b : Nat} (h : v.ownBlock = some b) : blkOf v = some b := by
  cases v with
  | slice x n c => cases x <;> simp_all [Value.ownBlock, blkOf]
  | _ => simp [Value.ownBlock] at h

section
variable {P : Program} {C : Ctx} {σ : St} {a : Act} {w : World} {cv : Nat → Value}

/-- A new object, in a new block. -/
theorem Rel.newO (h : Rel P C σ a w cv) (i : Nat) (hfree : σ.ob i = .free) (o : Ob) (bo : Obj) (v : Value)
    (hb : blkOf v = some w.heap.size) (hl : o.live = true)
    (hrep : ∀ (F' : Nat → Prop) (cv' : Nat → Value), (∀ b, FS C σ.ob cv w b → F' b) → cv' i = v → (∀ j, j ≠ i → cv' j = cv j) → ObRep P (w.alloc bo) F' cv' i o)
    (hm : ∀ j, o.ment j → σ.ob j ≠ .free) (hmi : ¬ o.ment i) :
    Rel P C (σ.setOb i o) a (w.alloc bo) (fun j => if j = i then v else cv j) := by
  have hsame : ∀ k, k < w.heap.size → (w.alloc bo).heap[k]? = w.heap[k]? := fun k hk => heap_alloc_old w _ k hk
  have hliv : ∀ j b, Live (σ.setOb i o).ob (fun j => if j = i then v else cv j) j b → (j = i ∧ b = w.heap.size) ∨ (j ≠ i ∧ Live σ.ob cv j b) := by
    intro j b hlb
    obtain ⟨h1, h2⟩ := hlb
    by_cases e : j = i
    · subst e
      simp only [if_true] at h2
      rw [hb] at h2
      exact .inl ⟨rfl, (Option.some.inj h2).symm⟩
    · simp only [St.setOb, if_neg e] at h1 h2
      exact .inr ⟨e, h1, h2⟩
  refine h.upd rfl rfl rfl (by simp) (fun k hk _ => hsame k (by have := h.size; omega)) ?_ ?_ ?_ ?_ ?_ ?_ ?_ ?_
  · intro j b hlb
    rcases hliv j b hlb with ⟨rfl, rfl⟩ | ⟨_, hl'⟩
    · exact ⟨.inl h.size, by simp⟩
    · have := h.live j b hl'; exact ⟨this.1, by have := this.2; simp; omega⟩
  · intro j k b h1 h2
    rcases hliv j b h1 with ⟨rfl, rfl⟩ | ⟨e1, h1'⟩ <;> rcases hliv k _ h2 with ⟨rfl, hb2⟩ | ⟨e2, h2'⟩
    · rfl
    · have := (h.live k _ h2').2; omega
    · have := (h.live j b h1').2; omega
    · exact h.inj j k b h1' h2'
  · intro b hbF; exact hsame b (h.fs_lt hbF)
  · intro j b hbF hlb
    rcases hliv j b hlb with ⟨rfl, rfl⟩ | ⟨_, hl'⟩
    · have := h.fs_lt hbF; omega
    · exact h.fs_live hbF hl'
  · intro hF j
    by_cases e : j = i
    · subst e
      simp only [St.setOb, if_true]
      exact hrep _ _ hF (by simp) (fun k hk => by simp [hk])
    · simp only [St.setOb, if_neg e]
      refine (h.obs j).mono (fun b hbF => hsame b (h.fs_lt hbF)) hF (by simp [e]) (fun k hk => ?_) (fun hlj b hjb => hsame b (h.live j b ⟨hlj, hjb⟩).2)
      have := h.mento j k hk
      have hk' : k ≠ i := fun e' => this (e' ▸ hfree)
      simp [hk']
  · intro j hj
    have : j ≠ i := fun e => hj (e ▸ hfree)
    simp [this]
  · intro j hj
    by_cases e : j = i
    · subst e; exact hfree
    · simpa [St.setOb, e] using hj
  · intro j k hk
    have hi : (σ.setOb i o).ob i ≠ .free := by simp only [St.setOb, if_true]; intro e; rw [e] at hl; simp [Ob.live] at hl
    by_cases e : j = i
    · subst e
      simp only [St.setOb, if_true] at hk
      by_cases e2 : k = j
      · subst e2; exact hi
      · simp only [St.setOb, if_neg e2]; exact hm k hk
    · simp only [St.setOb, if_neg e] at hk
      by_cases e2 : k = i
      · subst e2; exact hi
      · simp only [St.setOb, if_neg e2]; exact h.mento j k hk

theorem Rel.new (h : Rel P C σ a w cv) (i : Nat) (hfree : σ.ob i = .free) (o : Ob) (arr : List Value) (ty : TypeId) (v : Value)
    (hb : blkOf v = some w.heap.size) (hl : o.live = true)
    (hrep : ∀ (F' : Nat → Prop) (cv' : Nat → Value), (∀ b, FS C σ.ob cv w b → F' b) → cv' i = v → (∀ j, j ≠ i → cv' j = cv j) → ObRep P (w.alloc (.cells ⟨arr⟩ ty)) F' cv' i o)
    (hm : ∀ j, o.ment j → σ.ob j ≠ .free) (hmi : ¬ o.ment i) :
    Rel P C (σ.setOb i o) a (w.alloc (.cells ⟨arr⟩ ty)) (fun j => if j = i then v else cv j) :=
  h.newO i hfree o (.cells ⟨arr⟩ ty) v hb hl hrep hm hmi

/-- An object turns in its own block, or is let go; or comes to lie in a new block. -/
theorem Rel.mod (h : Rel P C σ a w cv) (i : Nat) (hli : (σ.ob i).live = true) (o : Ob) (ho : o ≠ .free) {w' : World} {row : Option Nat} (hg : w.grownBy w' row)
    (hrow : ∀ b, row = some b → blkOf (cv i) = some b)
    (hrep : ∀ F', (∀ b, FS C σ.ob cv w b → F' b) → ((o.live = false → ∀ b, blkOf (cv i) = some b → F' b)) → Same (FS C σ.ob cv w) w w' → ObRep P w' F' cv i o)
    (hm : ∀ j, o.ment j → σ.ob j ≠ .free) :
    Rel P C (σ.setOb i o) a w' cv := by
  have hsame : ∀ k, k < w.heap.size → blkOf (cv i) ≠ some k → w'.heap[k]? = w.heap[k]? := fun k hk hne => hg.block k hk (fun e => hne (hrow k e.symm))
  have hliv : ∀ j b, Live (σ.setOb i o).ob cv j b → Live σ.ob cv j b := by
    intro j b hlb
    obtain ⟨h1, h2⟩ := hlb
    by_cases e : j = i
    · subst e; exact ⟨hli, h2⟩
    · simp only [St.setOb, if_neg e] at h1; exact ⟨h1, h2⟩
  have hSame : Same (FS C σ.ob cv w) w w' := fun b hbF => hsame b (h.fs_lt hbF) (fun e => h.fs_live hbF ⟨hli, e⟩)
  refine h.upd hg.os hg.tape hg.output hg.size ?_ ?_ ?_ hSame ?_ ?_ (fun _ _ => rfl) ?_ ?_
  · intro k hk hO
    refine hsame k (by have := h.size; omega) (fun e => ?_)
    rcases (h.live i k ⟨hli, e⟩).1 with h1 | h1
    · omega
    · exact hO h1
  · intro j b hlb
    have := h.live j b (hliv j b hlb)
    exact ⟨this.1, by have := this.2; have := hg.size; omega⟩
  · intro j k b h1 h2; exact h.inj j k b (hliv j b h1) (hliv k b h2)
  · intro j b hbF hlb; exact h.fs_live hbF (hliv j b hlb)
  · intro hF j
    by_cases e : j = i
    · subst e
      simp only [St.setOb, if_true]
      refine hrep _ hF (fun hlo b hb => ?_) hSame
      refine .inr ⟨(h.live j b ⟨hli, hb⟩).1, by have := (h.live j b ⟨hli, hb⟩).2; have := hg.size; omega, fun k hk => ?_⟩
      have hkj := h.inj k j b (hliv k b hk) ⟨hli, hb⟩
      subst hkj
      have := hk.1
      simp [St.setOb, hlo] at this
    · simp only [St.setOb, if_neg e]
      refine (h.obs j).mono hSame hF rfl (fun _ _ => rfl) (fun hlj b hjb => hsame b (h.live j b ⟨hlj, hjb⟩).2 (fun e' => e ?_))
      exact h.inj j i b ⟨hlj, hjb⟩ ⟨hli, e'⟩
  · intro j hj
    by_cases e : j = i
    · subst e; simp only [St.setOb, if_true] at hj; exact absurd hj ho
    · simpa [St.setOb, e] using hj
  · intro j k hk
    have hi : (σ.setOb i o).ob i ≠ .free := by simpa [St.setOb] using ho
    by_cases e2 : k = i
    · subst e2; exact hi
    simp only [St.setOb, if_neg e2]
    by_cases e : j = i
    · subst e
      simp only [St.setOb, if_true] at hk
      exact hm k hk
    · simp only [St.setOb, if_neg e] at hk
      exact h.mento j k hk

end

/-- What a slot reads as, if it is plain. -/
def AV.pure? : AV → Option PV
  | .val p => some p
  | .nils => some (.row [])
  | _ => none

def purs : List AV → Option (List PV)
  | [] => some []
  | c :: cs => match c.pure?, purs cs with
    | some p, some ps => some (p :: ps)
    | _, _ => none

def boxPV (ag : Bool) (cs : List AV) : Option PV :=
  match purs cs with
  | some ps => if ag then some (.agg ps) else match ps with
    | [p] => some p
    | _ => none
  | none => none

def St.pv (σ : St) : AV → Option PV
  | .val p => some p
  | .nils => some (.row [])
  | .ref i => match σ.ob i with
    | .row _ xs => some (.row xs)
    | .prow xs => some (.row xs)
    | _ => none
  | .adr i o => match σ.ob i with
    | .pbox x => if o = 0 then some (.ptr x) else none
    | .box ag cs => if o = 0 then match boxPV ag cs with
      | some x => some (.ptr x)
      | none => none else none
    | _ => none
  | _ => none

def St.pub (σ : St) : AV → St
  | .ref i => match σ.ob i with
    | .row _ xs => σ.setOb i (.prow xs)
    | _ => σ
  | .adr i _ => match σ.ob i with
    | .box ag cs => match boxPV ag cs with
      | some x => σ.setOb i (.pbox x)
      | none => σ
    | _ => σ
  | _ => σ

theorem purs_reps {w : World} {F : Nat → Prop} {cv : Nat → Value} : ∀ {cs : List AV} {ps : List PV} {vs : List Value}, purs cs = some ps → vs.length = cs.length →
    (∀ (j : Nat) (c : AV) (v : Value), cs[j]? = some c → vs[j]? = some v → SRep w F cv c v) → Reps w F ps vs
  | [], ps, vs, h, hl, hr => by
    simp [purs] at h; subst h
    obtain rfl : vs = [] := by simpa using hl
    exact Reps.nil _ _
  | c :: cs, ps, vs, h, hl, hr => by
    cases vs with
    | nil => simp at hl
    | cons v vs =>
      simp only [purs] at h
      split at h
      · rename_i p qs hp hq
        obtain rfl := Option.some.inj h
        have ih := purs_reps (vs := vs) hq (by simpa using hl) (fun j c v hc hv => hr (j + 1) c v (by simpa using hc) (by simpa using hv))
        refine Reps.cons ?_ ih
        have := hr 0 c v rfl rfl
        cases c <;> simp [AV.pure?] at hp
        · subst hp; exact this
        · subst hp; have e : v = .slice none 0 0 := this; rw [e]; exact .rowNil
      · cases h

theorem purs_noagg : ∀ {cs : List AV} {ps : List PV}, purs cs = some ps → (∀ c ∈ cs, c.cell = true) → ∀ p ∈ ps, p.isAgg = false
  | [], ps, h, _ => by simp [purs] at h; subst h; simp
  | c :: cs, ps, h, hc => by
    simp only [purs] at h
    split at h
    · rename_i p qs hp hq
      obtain rfl := Option.some.inj h
      intro x hx
      rcases List.mem_cons.1 hx with rfl | hx
      · have := hc c (List.mem_cons_self ..)
        cases c <;> simp [AV.pure?] at hp
        · subst hp; simpa [AV.cell] using this
        · subst hp; rfl
      · exact purs_noagg hq (fun c h => hc c (List.mem_cons_of_mem _ h)) x hx
    · cases h

theorem boxPV_cells {ag : Bool} {cs : List AV} {x : PV} (h : boxPV ag cs = some x) (hc : ∀ c ∈ cs, c.cell = true) : purs cs = some x.cells := by
  unfold boxPV at h
  split at h
  · rename_i ps hps
    split at h
    · obtain rfl := Option.some.inj h; exact hps
    · split at h
      · rename_i p
        obtain rfl := Option.some.inj h
        have := purs_noagg hps hc p (List.mem_cons_self ..)
        rw [hps]
        cases p <;> first | rfl | (simp [PV.isAgg] at this)
      · cases h
  · cases h

theorem Addr_add_lit (b o j : Nat) : (⟨b, o, none⟩ : Addr).add j = ⟨b, o + j, none⟩ := by unfold Addr.add; split <;> simp_all

section
variable {P : Program} {C : Ctx} {σ : St} {a : Act} {w : World} {cv : Nat → Value}

theorem rep_of_ownRow {F : Nat → Prop} {v : Value} {e : TypeId} {xs : List PV} (h : OwnRow P w F v e xs) {F' : Nat → Prop} (hF : ∀ b, F b → F' b) (hb : ∀ b, blkOf v = some b → F' b) : Rep w F' (.row xs) v := by
  obtain ⟨sz, cells, h1, h2, h3, h4, h5, h6⟩ := h
  have h5' := h5.mono (fun _ _ => rfl : Same F w w) hF
  rcases h4.2 with ⟨rfl, hn⟩ | ⟨g, cap, cur, rfl, hb0, hg, hnc, hcm, hcs, ht⟩
  · obtain rfl : xs = [] := List.eq_nil_of_length_eq_zero hn
    exact .rowNil
  · refine .row xs ⟨g, 0, none⟩ cap sz cells hnc h3 (.inr (hb g rfl)) h5'.1 (fun j v hj => ?_) h6 h5'.2
    have := h4.cells (g := g) rfl j v hj
    exact this

/-- What is let go stays for ever: a row, or a variable, that a value takes along. -/
theorem Rel.pub (h : Rel P C σ a w cv) (v : AV) :
    Rel P C (σ.pub v) a w cv ∧ (∀ b, FS C σ.ob cv w b → FS C (σ.pub v).ob cv w b) := by
  have key : ∀ (i : Nat) (o : Ob), (σ.ob i).live = true → o.live = false → o ≠ .free → (∀ j, ¬ o.ment j) →
      (∀ F', (∀ b, FS C σ.ob cv w b → F' b) → (∀ b, blkOf (cv i) = some b → F' b) → ObRep P w F' cv i o) →
      Rel P C (σ.setOb i o) a w cv ∧ (∀ b, FS C σ.ob cv w b → FS C (σ.setOb i o).ob cv w b) := by
    intro i o hli hlo hof hm hrep
    refine ⟨h.mod i hli o hof (row := none) ⟨rfl, rfl, rfl, Nat.le_refl _, fun _ _ _ => rfl⟩ (by simp) (fun F' hF hb _ => hrep F' hF (hb hlo)) (fun j hj => absurd hj (hm j)), fun b hb => ?_⟩
    rcases hb with hb | hb
    · exact .inl hb
    · refine .inr ⟨hb.1, hb.2.1, fun k hk => hb.2.2 k ?_⟩
      obtain ⟨h1, h2⟩ := hk
      by_cases e : k = i
      · subst e; simp [St.setOb, hlo] at h1
      · simp only [St.setOb, if_neg e] at h1; exact ⟨h1, h2⟩
  cases v with
  | ref i =>
    simp only [St.pub]
    split
    · rename_i e xs he
      have ho := h.obs i
      rw [he] at ho
      exact key i (.prow xs) (by rw [he]; rfl) rfl (by simp) (fun j hj => hj) (fun F' hF hb => rep_of_ownRow ho hF hb)
    · exact ⟨h, fun b hb => hb⟩
  | adr i o =>
    simp only [St.pub]
    split
    · rename_i ag cs he
      split
      · rename_i x hx
        have ho := h.obs i
        rw [he] at ho
        obtain ⟨b, ty, arr, h1, h2, h3, h4, h5⟩ := ho
        refine key i (.pbox x) (by rw [he]; rfl) rfl (by simp) (fun j hj => hj) (fun F' hF hb => ?_)
        have hp := boxPV_cells hx h4
        have hr : Reps w F' x.cells arr := (purs_reps hp h3 (fun j c v hc hv => (h5 j c v hc hv).1)).mono (fun _ _ => rfl : Same (FS C σ.ob cv w) w w) hF
        show Rep w F' (.ptr x) (cv i)
        rw [h1]
        refine .ptr x ⟨b, 0, none⟩ arr (.inr (hb b (by rw [h1]; rfl))) hr.1 (fun j v hj => ?_) (purs_noagg hp h4) hr.2
        rw [Addr_add_lit, Nat.zero_add, cell_of_row w b j ⟨arr⟩ ty (0, 0) h2]
        simpa using hj
      · exact ⟨h, fun b hb => hb⟩
    · exact ⟨h, fun b hb => hb⟩
  | _ => exact ⟨h, fun b hb => hb⟩

theorem pub_pub_ob (v : AV) : ∀ i, (σ.pub v).ob i = .free → σ.ob i = .free := by
  intro i hi
  cases v <;> simp only [St.pub] at hi <;> try exact hi
  · split at hi
    · rename_i j e xs he
      simp only [St.setOb] at hi
      split at hi
      · cases hi
      · exact hi
    · exact hi
  · split at hi
    · split at hi
      · simp only [St.setOb] at hi
        split at hi
        · cases hi
        · exact hi
      · exact hi
    · exact hi

/-- A slot's value, taken as a plain one, once it is let go. -/
theorem Rel.pv (h : Rel P C σ a w cv) {v : AV} {p : PV} {u : Value} (hp : σ.pv v = some p) (hv : SRep w (FS C σ.ob cv w) cv v u) : Rep w (FS C (σ.pub v).ob cv w) p u := by
  have hpub := h.pub v
  cases v with
  | any => simp [St.pv] at hp
  | val q => simp [St.pv] at hp; subst hp; exact hv
  | nils => simp [St.pv] at hp; subst hp; have e : u = .slice none 0 0 := hv; rw [e]; exact .rowNil
  | ref i =>
    have e : u = cv i := hv
    subst e
    have ho := hpub.1.obs i
    simp only [St.pv] at hp
    split at hp
    · rename_i e xs he
      obtain rfl := Option.some.inj hp
      simp only [St.pub, he] at ho ⊢
      simpa [St.setOb, ObRep] using ho
    · rename_i xs he
      obtain rfl := Option.some.inj hp
      simp only [St.pub, he] at ho ⊢
      exact ho
    · cases hp
  | adr i o =>
    obtain ⟨b, hb, rfl⟩ := hv
    have ho := hpub.1.obs i
    simp only [St.pv] at hp
    split at hp
    · rename_i x he
      split at hp
      · rename_i h0
        subst h0
        obtain rfl := Option.some.inj hp
        simp only [St.pub, he] at ho ⊢
        rw [ObRep, hb] at ho
        exact ho
      · cases hp
    · rename_i ag cs he
      split at hp
      · rename_i h0
        subst h0
        split at hp
        · rename_i x hx
          obtain rfl := Option.some.inj hp
          simp only [St.pub, he, hx] at ho ⊢
          have ho' : Rep w (FS C (σ.setOb i (.pbox x)).ob cv w) (.ptr x) (cv i) := by simpa [St.setOb, ObRep] using ho
          rw [hb] at ho'
          exact ho'
        · cases hp
      · cases hp
    · cases hp
  | agr ps k i => simp [St.pv] at hp
  | ead i sz k o => simp [St.pv] at hp
  | tup ps => simp [St.pv] at hp
  | vw _ _ _ _ => simp [St.pv] at hp

end

end Go.Proofs.YtjbfcmaiejlnbaaVm
set_option linter.unusedVariables false
set_option linter.unusedSimpArgs false
namespace Go.Proofs.YtjbfcmaiejlnbaaVm
open Go Classical

def cAV : Value → AV
  | .int k n => .val (.int k n)
  | .bool b => .val (.bool b)
  | .string s => .val (.str s.data.toList)
  | .slice none 0 0 => .nils
  | .pointer none => .val .nilp
  | _ => .any

def St.ev (σ : St) : Operand → AV
  | .tmp t => σ.sl t
  | .const v => cAV v
  | .func f => .val (.fn f [])
  | .global _ => .any

theorem cAV_rep (w : World) (F : Nat → Prop) (cv : Nat → Value) (v : Value) : SRep w F cv (cAV v) v := by
  unfold cAV
  split
  · exact .int _ _
  · exact .bool _
  · rename_i s; exact Rep.str s.data.toList
  · rfl
  · exact .nilp
  · trivial

theorem cAV_ment (v : Value) (i : Nat) : ¬ (cAV v).ment i := by
  unfold cAV; split <;> exact fun h => h

def aggOf (P : Program) (t : TypeId) : Option Bool :=
  match P.underlying t with
  | some (.struct _) => some true
  | some (.array _ _) => some true
  | some _ => some false
  | none => none
def elOf (P : Program) (t : TypeId) : Option TypeId :=
  match P.underlying t with
  | some (.slice e) => some e
  | _ => none
def fldOf (P : Program) (t : TypeId) (f : Nat) : Option (Nat × TypeId) :=
  match P.underlying t with
  | some (.struct fs) => match fs[f]? with
    | some x => some (x.offset, x.type)
    | none => none
  | _ => none
def byOf (P : Program) (t : TypeId) : Option Nat := (P.info? t).map (·.bytes)
def zeroOf (P : Program) (t : TypeId) : Option (List AV) :=
  match P.info? t with
  | some i => match i.zero with
    | some z => some (z.cells.toList.map cAV)
    | none => none
  | none => none

section
variable {P : Program} {C : Ctx} {σ : St} {a : Act} {w : World} {cv : Nat → Value}

theorem Rel.ev (h : Rel P C σ a w cv) (x : Operand) : SRep w (FS C σ.ob cv w) cv (σ.ev x) (a.eval x) ∧ ∀ i, (σ.ev x).ment i → σ.ob i ≠ .free := by
  cases x with
  | tmp t => exact ⟨h.slots t, h.ments t⟩
  | const v => exact ⟨cAV_rep _ _ _ v, fun i hi => absurd hi (cAV_ment v i)⟩
  | global g => exact ⟨trivial, fun i hi => hi.elim⟩
  | func f => exact ⟨Rep.fn f [] [] rfl (fun i c v hc => by simp at hc), fun i hi => hi.elim⟩

theorem run_isAgg {t : TypeId} {ag : Bool} (h : aggOf P t = some ag) : (isAgg t).run P w = .ok ag w := by
  unfold aggOf at h
  split at h
  all_goals first
    | (rename_i hu; obtain rfl := Option.some.inj h; simp [isAgg, underlying, hu]; done)
    | (rename_i d hd1 hd2 hu; obtain rfl := Option.some.inj h; simp [isAgg, underlying]; rw [hu]; simp only [Sem.run_pure, Result.andThen_ok]; split <;> simp_all)
    | cases h
theorem run_sizeOf {t : TypeId} {n : Nat} (h : szOf P t = some n) : (sizeOf t).run P w = .ok n w := by
  unfold szOf at h
  cases hi : P.info? t with
  | none => simp [hi] at h
  | some i => simp [hi] at h; simp [sizeOf, typeInfo, hi, h]

/-- What the call has done to an operation: its value, and the state. -/
def OpOK (P : Program) (C : Ctx) (a : Act) (s : Sem Next) (w : World) (σ' : St) (v : AV) : Prop :=
  ∃ u w' cv', (s.run P w = .ok (.value u) w' ∨ (s.run P w = .ok .skip w' ∧ u = undef)) ∧ Rel P C σ' a w' cv' ∧ SRep w' (FS C σ'.ob cv' w') cv' v u ∧ ∀ i, v.ment i → σ'.ob i ≠ .free

/-! Loads. -/
def partPV (ag : Bool) (n : Nat) (cs : List PV) (o : Nat) : Option PV :=
  if ag = true then (if o + n ≤ cs.length then some (.agg ((cs.drop o).take n)) else none) else cs[o]?

def ldAt (P : Program) (t : TypeId) (x : PV) (o : Nat) : Option PV :=
  match aggOf P t, szOf P t with
  | some ag, some n =>
    if o = 0 ∧ x.isAgg = ag ∧ x.cells.length = n then some x else partPV ag n x.cells o
  | _, _ => none

theorem Reps.drop_take {w : World} {F : Nat → Prop} {ps : List PV} {vs : List Value} (h : Reps w F ps vs) (o n : Nat) : Reps w F ((ps.drop o).take n) ((vs.drop o).take n) :=
  (h.drop o).take n

theorem noagg_sub {ps : List PV} (h : ∀ p ∈ ps, p.isAgg = false) (o n : Nat) : ∀ p ∈ (ps.drop o).take n, p.isAgg = false :=
  fun p hp => h p (List.mem_of_mem_drop (List.mem_of_mem_take hp))

theorem run_ldAt {F : Nat → Prop} {t : TypeId} {x y : PV} {o : Nat} (hy : ldAt P t x o = some y) {ad : Addr} {vs : List Value} (hr : Reps w F x.cells vs)
    (ha : ∀ c ∈ x.cells, c.isAgg = false) (hcell : ∀ (j : Nat) (v : Value), vs[j]? = some v → w.cell? (ad.add j) = some v) :
    ∃ u, (loadVar t (ad.add o)).run P w = .ok u w ∧ Rep w F y u := by
  unfold ldAt at hy
  split at hy
  · rename_i ag n hag hn
    have hpart : ∀ z, partPV ag n x.cells o = some z → ∃ u, (loadVar t (ad.add o)).run P w = .ok u w ∧ Rep w F z u := by
      intro z hz
      unfold partPV at hz
      split at hz
      · rename_i e
        subst e
        split at hz
        · rename_i hle
          obtain rfl := Option.some.inj hz
          have hs := hr.drop_take o n
          have hl : ((vs.drop o).take n).length = n := by rw [hs.1, List.length_take, List.length_drop]; omega
          have hc := cells_add hcell o n
          have hrun := run_loadCells_list (P := P) w (ad.add o) ((vs.drop o).take n) hc
          rw [hl] at hrun
          refine ⟨.agg ⟨(vs.drop o).take n⟩, ?_, .agg _ _ hs.1 (noagg_sub ha o n) hs.2⟩
          simp [loadVar, run_isAgg hag, run_sizeOf hn, hrun]
        · cases hz
      · rename_i e
        have e : ag = false := by simpa using e
        subst e
        obtain ⟨v, hv, hrep⟩ := hr.get hz
        refine ⟨v, ?_, hrep⟩
        simp [loadVar, run_isAgg hag, hcell o v hv]
    split at hy
    · rename_i hc
      obtain ⟨rfl, h1, h2⟩ := hc
      obtain rfl := Option.some.inj hy
      cases ag with
      | true =>
        cases x with
        | agg cs =>
          refine hpart _ ?_
          simp only [PV.cells] at h2
          simp [partPV, PV.cells, h2]
          exact List.take_of_length_le (by omega)
        | _ => simp [PV.isAgg] at h1
      | false =>
        refine hpart _ ?_
        cases x <;> simp [PV.isAgg, partPV, PV.cells] at *
    · exact hpart y hy
  · cases hy

def St.pvs (σ : St) : List AV → Option (List PV)
  | [] => some []
  | c :: cs => match σ.pv c, σ.pvs cs with
    | some p, some ps => some (p :: ps)
    | _, _ => none
def St.pubs (σ : St) : List AV → St
  | [] => σ
  | c :: cs => (σ.pub c).pubs cs

theorem pub_pv (σ : St) (v c : AV) : (σ.pub v).pv c = σ.pv c := by
  have key : ∀ (i : Nat) (o : Ob), (∀ (j : Nat), (σ.setOb i o).pv (.ref j) = σ.pv (.ref j)) → (∀ (j k : Nat), (σ.setOb i o).pv (.adr j k) = σ.pv (.adr j k)) → (σ.setOb i o).pv c = σ.pv c := by
    intro i o h1 h2
    cases c <;> first | rfl | exact h1 _ | exact h2 _ _
  cases v <;> try rfl
  · rename_i i
    simp only [St.pub]
    split
    · rename_i e xs he
      refine key i _ (fun j => ?_) (fun j k => ?_)
      · simp only [St.pv, St.setOb]
        by_cases ej : j = i
        · subst ej; simp [he]
        · simp [ej]
      · simp only [St.pv, St.setOb]
        by_cases ej : j = i
        · subst ej; simp [he]
        · simp [ej]
    · rfl
  · rename_i i o
    simp only [St.pub]
    split
    · rename_i ag cs he
      split
      · rename_i x hx
        refine key i _ (fun j => ?_) (fun j k => ?_)
        · simp only [St.pv, St.setOb]
          by_cases ej : j = i
          · subst ej; simp [he]
          · simp [ej]
        · simp only [St.pv, St.setOb]
          by_cases ej : j = i
          · subst ej; simp [he, hx]
          · simp [ej]
      · rfl
    · rfl

theorem pub_pvs (σ : St) (v : AV) : ∀ cs, (σ.pub v).pvs cs = σ.pvs cs
  | [] => rfl
  | c :: cs => by simp only [St.pvs, pub_pv, pub_pvs σ v cs]

theorem Rel.pubs : ∀ {σ : St} (h : Rel P C σ a w cv) (cs : List AV), Rel P C (σ.pubs cs) a w cv ∧ (∀ b, FS C σ.ob cv w b → FS C (σ.pubs cs).ob cv w b)
  | _, h, [] => ⟨h, fun _ hb => hb⟩
  | _, h, c :: cs => by
    have h1 := h.pub c
    have h2 := Rel.pubs h1.1 cs
    exact ⟨h2.1, fun b hb => h2.2 b (h1.2 b hb)⟩

theorem pubs_ob : ∀ (cs : List AV) (σ : St) (i : Nat), (σ.pubs cs).ob i = .free → σ.ob i = .free
  | [], _, _, h => h
  | c :: cs, σ, i, h => pub_pub_ob c i (pubs_ob cs (σ.pub c) i h)

theorem Rel.pvs : ∀ {cs : List AV} {σ : St} (h : Rel P C σ a w cv) {ps : List PV} {vs : List Value}, σ.pvs cs = some ps → vs.length = cs.length →
    (∀ (j : Nat) (c : AV) (v : Value), cs[j]? = some c → vs[j]? = some v → SRep w (FS C σ.ob cv w) cv c v) → Reps w (FS C (σ.pubs cs).ob cv w) ps vs
  | [], σ, h, ps, vs, hp, hl, hr => by
    simp [St.pvs] at hp; subst hp
    obtain rfl : vs = [] := by simpa using hl
    exact Reps.nil _ _
  | c :: cs, σ, h, ps, vs, hp, hl, hr => by
    cases vs with
    | nil => simp at hl
    | cons v vs =>
      simp only [St.pvs] at hp
      split at hp
      · rename_i p qs h1 h2
        obtain rfl := Option.some.inj hp
        have hpub := h.pub c
        have hv := h.pv h1 (hr 0 c v rfl rfl)
        have hps := (Rel.pubs hpub.1 cs).2
        refine Reps.cons (hv.mono (fun _ _ => rfl : Same (FS C (σ.pub c).ob cv w) w w) hps) ?_
        refine Rel.pvs hpub.1 (by rw [pub_pvs]; exact h2) (by simpa using hl) (fun j d u hd hu => ?_)
        exact (hr (j + 1) d u (by simpa using hd) (by simpa using hu)).mono (fun _ _ => rfl : Same (FS C σ.ob cv w) w w) hpub.2 (fun _ _ => rfl)
      · cases hp

def stLoad (P : Program) (σ : St) (t : TypeId) : AV → Option (St × AV)
  | .val (.ptr x) => match ldAt P t x 0 with
    | some y => some (σ, .val y)
    | none => none
  | .adr i o => match σ.ob i with
    | .pbox x => match ldAt P t x o with
      | some y => some (σ, .val y)
      | none => none
    | .box _ cs => match aggOf P t, szOf P t with
      | some true, some n => if o + n ≤ cs.length then match σ.pvs ((cs.drop o).take n) with
        | some ps => if ∀ p ∈ ps, p.isAgg = false then some (σ.pubs ((cs.drop o).take n), .val (.agg ps)) else none
        | none => none else none
      | some false, some _ => match cs[o]? with
        | some c => some (σ, c)
        | none => none
      | _, _ => none
    | _ => none
  | .ead i sz k o => match σ.ob i with
    | .row _ xs => match xs[k]? with
      | some x => if x.cells.length = sz then match ldAt P t x o with
        | some y => some (σ, .val y)
        | none => none else none
      | none => none
    | _ => none
  | _ => none

theorem box_cell {i b : Nat} {cs : List AV} {ty : TypeId} {arr : List Value} (h2 : w.heap[b]? = some (.cells ⟨arr⟩ ty (0, 0))) : ∀ (j : Nat) (v : Value), arr[j]? = some v → w.cell? ((⟨b, 0, none⟩ : Addr).add j) = some v := by
  intro j v hj
  rw [Addr_add_lit, Nat.zero_add, cell_of_row w b j ⟨arr⟩ ty (0, 0) h2]
  simpa using hj

theorem add_zero (ad : Addr) : ad.add 0 = ad := by unfold Addr.add; simp

theorem Rel.load (h : Rel P C σ a w cv) {t : TypeId} {v : AV} {u : Value} (hv : SRep w (FS C σ.ob cv w) cv v u) {σ' : St} {r : AV} (hst : stLoad P σ t v = some (σ', r)) :
    ∃ x, (Instr.loadAt t u).run P w = .ok x w ∧ Rel P C σ' a w cv ∧ SRep w (FS C σ'.ob cv w) cv r x ∧ ∀ i, r.ment i → σ'.ob i ≠ .free := by
  have nom : ∀ p i, (AV.val p).ment i → σ.ob i ≠ .free := fun p i hi => hi.elim
  unfold stLoad at hst
  split at hst
  · rename_i x
    split at hst
    · rename_i y hy
      obtain ⟨rfl, rfl⟩ := Prod.mk.inj (Option.some.inj hst)
      cases hv with
      | ptr _ ad cvs hF hl hcell ha hh =>
        obtain ⟨z, h1, h2⟩ := run_ldAt (P := P) hy ⟨hl, hh⟩ ha hcell
        rw [add_zero] at h1
        exact ⟨z, by simp [Instr.loadAt, Instr.sureAddr, h1], h, h2, fun i hi => hi.elim⟩
    · cases hst
  · rename_i i o
    obtain ⟨b, hb, rfl⟩ := hv
    have ho := h.obs i
    split at hst
    · rename_i x he
      split at hst
      · rename_i y hy
        obtain ⟨rfl, rfl⟩ := Prod.mk.inj (Option.some.inj hst)
        rw [he, ObRep, hb] at ho
        cases ho with
        | ptr _ ad cvs hF hl hcell ha hh =>
          obtain ⟨z, h1, h2⟩ := run_ldAt (P := P) hy ⟨hl, hh⟩ ha hcell
          rw [Addr_add_lit, Nat.zero_add] at h1
          exact ⟨z, by simp [Instr.loadAt, Instr.sureAddr, h1], h, h2, fun i hi => hi.elim⟩
      · cases hst
    · rename_i ag cs he
      rw [he] at ho
      obtain ⟨b', ty, arr, h1, h2, h3, h4, h5⟩ := ho
      rw [hb] at h1
      cases h1
      have hcell := box_cell (i := i) (cs := cs) h2
      split at hst
      · rename_i n hag hn
        split at hst
        · rename_i hle
          split at hst
          · rename_i ps hps
            split at hst
            · rename_i hnoag
              obtain ⟨rfl, rfl⟩ := Prod.mk.inj (Option.some.inj hst)
              have hl : ((arr.drop o).take n).length = ((cs.drop o).take n).length := by simp [h3]
              have hl2 : ((arr.drop o).take n).length = n := by simp [h3]; omega
              have hr := Rel.pvs h (vs := (arr.drop o).take n) hps hl (fun j c v hc hv => by
                rw [List.getElem?_take] at hc hv
                split at hc
                · rename_i hjn
                  rw [if_pos hjn] at hv
                  rw [List.getElem?_drop] at hc hv
                  exact (h5 _ c v hc hv).1
                · cases hc)
              have hrun := run_loadCells_list (P := P) w ((⟨b, 0, none⟩ : Addr).add o) ((arr.drop o).take n) (cells_add hcell o n)
              rw [hl2, Addr_add_lit, Nat.zero_add] at hrun
              exact ⟨.agg ⟨(arr.drop o).take n⟩, by simp [Instr.loadAt, Instr.sureAddr, loadVar, run_isAgg hag, run_sizeOf hn, hrun], (h.pubs _).1, .agg _ _ hr.1 hnoag hr.2, fun i hi => hi.elim⟩
            · cases hst
          · cases hst
        · cases hst
      · rename_i n hag hn
        split at hst
        · rename_i c hc
          obtain ⟨rfl, rfl⟩ := Prod.mk.inj (Option.some.inj hst)
          have hlt : o < arr.length := by rw [h3]; exact (List.getElem?_eq_some_iff.1 hc).1
          have hg := List.getElem?_eq_getElem hlt
          have hcl := hcell o _ hg
          rw [Addr_add_lit, Nat.zero_add] at hcl
          exact ⟨arr[o], by simp [Instr.loadAt, Instr.sureAddr, loadVar, run_isAgg hag, hcl], h, (h5 o c _ hc hg).1, fun j hj => h.mento i j (by rw [he]; exact ⟨c, List.mem_of_getElem? hc, hj⟩)⟩
        · cases hst
      · cases hst
    · cases hst
  · rename_i i sz k o
    obtain ⟨b, n, c, hb, rfl⟩ := hv
    have ho := h.obs i
    split at hst
    · rename_i e xs he
      rw [he] at ho
      split at hst
      · rename_i x hx
        split at hst
        · rename_i hsz
          split at hst
          · rename_i y hy
            obtain ⟨rfl, rfl⟩ := Prod.mk.inj (Option.some.inj hst)
            obtain ⟨sz', cells, g1, g2, g3, g4, g5, g6⟩ := ho
            have hszz : sz' = sz := by rw [← g3 x (List.mem_of_getElem? hx)]; exact hsz
            subst hszz
            have hcell : ∀ (j : Nat) (v : Value), cells[j]? = some v → w.cell? ((⟨b, 0, none⟩ : Addr).add j) = some v := g4.cells (by rw [hb]; rfl)
            have hxc := flat_elem g3 hx
            have hr := (g5.drop_take (k * sz') sz')
            rw [hxc] at hr
            have hcell2 := cells_add hcell (k * sz') sz'
            obtain ⟨z, h1, h2⟩ := run_ldAt (P := P) hy hr (fun c hc => g6 c (by rw [← hxc] at hc; exact List.mem_of_mem_drop (List.mem_of_mem_take hc))) hcell2
            rw [Addr_add_lit, Addr_add_lit, Nat.zero_add] at h1
            exact ⟨z, by simp [Instr.loadAt, Instr.sureAddr, h1], h, h2, fun i hi => hi.elim⟩
          · cases hst
        · cases hst
      · cases hst
    · cases hst
  · cases hst

end
end Go.Proofs.YtjbfcmaiejlnbaaVm
set_option linter.unusedVariables false
set_option linter.unusedSimpArgs false
namespace Go.Proofs.YtjbfcmaiejlnbaaVm
open Go Classical

section
variable {P : Program} {C : Ctx} {σ : St} {a : Act} {w : World} {cv : Nat → Value}

/-- What an operation's run comes to. -/
def RunOK (P : Program) (C : Ctx) (a : Act) (s : Sem Value) (w : World) (σ' : St) (r : AV) : Prop :=
  ∃ u w' cv', s.run P w = .ok u w' ∧ Rel P C σ' a w' cv' ∧ SRep w' (FS C σ'.ob cv' w') cv' r u ∧ ∀ i, r.ment i → σ'.ob i ≠ .free

/-! ### Cells -/
def St.okCell (σ : St) : AV → Bool
  | .val p => !p.isAgg
  | .nils => true
  | .ref i => match σ.ob i with
    | .row .. | .prow _ => true
    | _ => false
  | .adr .. => true
  | _ => false

theorem okCell_cell {v : AV} (h : σ.okCell v = true) : v.cell = true := by
  cases v <;> simp_all [St.okCell, AV.cell]

theorem Rel.okCell (h : Rel P C σ a w cv) {v : AV} {u : Value} (hc : σ.okCell v = true) (hv : SRep w (FS C σ.ob cv w) cv v u) : u.oneCell' = true := by
  cases v with
  | any => simp [St.okCell] at hc
  | val p => exact Rep.oneCell hv (by simpa [St.okCell] using hc)
  | nils => have e : u = .slice none 0 0 := hv; subst e; rfl
  | ref i =>
    have e : u = cv i := hv
    subst e
    have ho := h.obs i
    simp only [St.okCell] at hc
    split at hc
    · rename_i e xs he
      rw [he] at ho
      obtain ⟨sz, cells, _, _, _, h4, _⟩ := ho
      rcases h4.2 with ⟨e, _⟩ | ⟨g, cap, cur, e, _⟩ <;> rw [e] <;> rfl
    · rename_i xs he
      rw [he] at ho
      exact Rep.oneCell ho rfl
    · cases hc
  | adr i o => obtain ⟨b, _, rfl⟩ := hv; rfl
  | agr ps k i => simp [St.okCell] at hc
  | ead i sz k o => simp [St.okCell] at hc
  | tup ps => simp [St.okCell] at hc
  | vw _ _ _ _ => simp [St.okCell] at hc

theorem cAV_oneCell {v : Value} (h : (cAV v).cell = true) : v.oneCell' = true := by
  unfold cAV at h
  split at h <;> first | rfl | simp [AV.cell] at h

/-- Lists that stand to each other one by one. -/
def Two {α β : Type} (R : α → β → Prop) (xs : List α) (ys : List β) : Prop :=
  ys.length = xs.length ∧ ∀ (j : Nat) (x : α) (y : β), xs[j]? = some x → ys[j]? = some y → R x y

theorem Two.append {α β : Type} {R : α → β → Prop} {xs xs' : List α} {ys ys' : List β} (h : Two R xs ys) (k : Two R xs' ys') : Two R (xs ++ xs') (ys ++ ys') := by
  refine ⟨by simp [h.1, k.1], fun i p v hp hv => ?_⟩
  by_cases hi : i < xs.length
  · rw [List.getElem?_append_left hi] at hp
    rw [List.getElem?_append_left (by rw [h.1]; exact hi)] at hv
    exact h.2 i p v hp hv
  · rw [List.getElem?_append_right (by omega)] at hp
    rw [List.getElem?_append_right (by rw [h.1]; omega), h.1] at hv
    exact k.2 _ p v hp hv

theorem Two.take {α β : Type} {R : α → β → Prop} {xs : List α} {ys : List β} (h : Two R xs ys) (n : Nat) : Two R (xs.take n) (ys.take n) := by
  refine ⟨by simp [h.1], fun i p v hp hv => ?_⟩
  rw [List.getElem?_take] at hp hv
  split at hp
  · rename_i hi
    rw [if_pos hi] at hv
    exact h.2 i p v hp hv
  · cases hp

theorem Two.drop {α β : Type} {R : α → β → Prop} {xs : List α} {ys : List β} (h : Two R xs ys) (n : Nat) : Two R (xs.drop n) (ys.drop n) := by
  refine ⟨by simp [h.1], fun i p v hp hv => ?_⟩
  rw [List.getElem?_drop] at hp hv
  exact h.2 _ p v hp hv

theorem Two.one {α β : Type} {R : α → β → Prop} {x : α} {y : β} (h : R x y) : Two R [x] [y] := by
  refine ⟨rfl, fun i p v hp hv => ?_⟩
  cases i with
  | zero => simp at hp hv; subst hp; subst hv; exact h
  | succ i => simp at hp

/-! ### Stores -/
theorem storeCells_at {b o : Nat} {arr : List Value} {ty : TypeId} (hg : w.heap[b]? = some (.cells ⟨arr⟩ ty (0, 0))) (vs : List Value) (hl : o + vs.length ≤ arr.length) (h1 : ∀ v ∈ vs, v.oneCell' = true) :
    (storeCells ⟨b, o, none⟩ vs).run P w = .ok () (w.setRow b ⟨arr.take o ++ vs ++ arr.drop (o + vs.length)⟩) := by
  have := run_storeCells_at P b o ty vs 0 ⟨arr⟩ w hg (by simpa using hl) h1
  simpa using this

theorem grown_setRow (w : World) (b : Nat) (cs : Array Value) : w.grownBy (w.setRow b cs) (some b) :=
  ⟨rfl, rfl, rfl, by simp, fun k _ hk => setRow_other w b k _ (fun e => hk (by rw [e]))⟩

def stElem (ag : Bool) (n sz : Nat) (x q : PV) (o : Nat) : Option PV :=
  if x.cells.length = sz then
    if o = 0 ∧ n = sz ∧ q.cells.length = sz ∧ q.isAgg = ag then some q
    else if ag = false ∧ q.isAgg = false ∧ n = 1 ∧ x.isAgg = true ∧ o < sz then some (.agg (x.cells.set o q)) else none
  else none

def stStore (P : Program) (σ : St) (t : TypeId) (p v : AV) : Option St :=
  match p with
  | .adr i o => match σ.ob i with
    | .box ag cs => match aggOf P t, szOf P t with
      | some true, some n => match v with
        | .val x => if x.isAgg = true ∧ x.cells.length = n ∧ o + n ≤ cs.length then some (σ.setOb i (.box ag (cs.take o ++ x.cells.map .val ++ cs.drop (o + n)))) else none
        | _ => none
      | some false, some n => if n = 1 ∧ o < cs.length ∧ σ.okCell v = true then some (σ.setOb i (.box ag (cs.set o v))) else none
      | _, _ => none
    | _ => none
  | .ead i sz k o => match (σ.pub v).ob i with
    | .row e xs => match xs[k]?, aggOf P t, szOf P t, σ.pv v with
      | some x, some ag, some n, some q => match stElem ag n sz x q o with
        | some y => some ((σ.pub v).setOb i (.row e (xs.set k y)))
        | none => none
      | _, _, _, _ => none
    | _ => none
  | _ => none

theorem set_take_drop {α : Type} (l : List α) (o : Nat) (x : α) (h : o < l.length) : l.set o x = l.take o ++ [x] ++ l.drop (o + 1) := by
  rw [List.set_eq_take_append_cons_drop, if_pos h]; simp

theorem Two.val {w : World} {F : Nat → Prop} {cv : Nat → Value} {ps : List PV} {vs : List Value} (h : Reps w F ps vs) (ha : ∀ p ∈ ps, p.isAgg = false) :
    Two (fun c v => SRep w F cv c v ∧ v.oneCell' = true) (ps.map AV.val) vs := by
  refine ⟨by simp [h.1], fun j c v hc hv => ?_⟩
  simp at hc
  obtain ⟨p, hp, rfl⟩ := hc
  have := h.2 j p v hp hv
  exact ⟨this, this.oneCell (ha p (List.mem_of_getElem? hp))⟩

theorem Rep.cells_of_agg {w : World} {F : Nat → Prop} {x : PV} {u : Value} (h : Rep w F x u) (hx : x.isAgg = true) : ∃ vs : List Value, u = .agg ⟨vs⟩ ∧ Reps w F x.cells vs ∧ ∀ c ∈ x.cells, c.isAgg = false := by
  cases h <;> first | (simp [PV.isAgg] at hx; done) | skip
  rename_i cs vs hl ha hh
  exact ⟨vs, rfl, ⟨hl, hh⟩, ha⟩

theorem Rep.cells {w : World} {F : Nat → Prop} {x : PV} {u : Value} (h : Rep w F x u) : Reps w F x.cells u.cells.toList ∧ ∀ c ∈ x.cells, c.isAgg = false := by
  by_cases hx : x.isAgg = true
  · obtain ⟨vs, rfl, h1, h2⟩ := h.cells_of_agg hx
    exact ⟨h1, h2⟩
  · have hx : x.isAgg = false := by simpa using hx
    have h1 := h.oneCell hx
    have e1 : x.cells = [x] := by cases x <;> first | rfl | (simp [PV.isAgg] at hx)
    have e2 : u.cells = #[u] := by cases u <;> first | rfl | (simp [Value.oneCell'] at h1)
    rw [e1, e2]
    exact ⟨Reps.cons h (Reps.nil _ _), by simpa using hx⟩

theorem oneCell_cells {u : Value} (h : u.oneCell' = true) : u.cells = #[u] := by cases u <;> first | rfl | (simp [Value.oneCell'] at h)

theorem flat_set {xs : List PV} {sz : Nat} (h : ∀ x ∈ xs, x.cells.length = sz) {k : Nat} (hk : k < xs.length) {y : PV} (hy : y.cells.length = sz) :
    flat (xs.set k y) = (flat xs).take (k * sz) ++ y.cells ++ (flat xs).drop (k * sz + sz) := by
  rw [List.set_eq_take_append_cons_drop, if_pos hk]
  rw [flat_append, flat_take h]
  have e : k * sz + sz = (k + 1) * sz := by rw [Nat.add_mul]; omega
  rw [e, ← flat_drop h (k + 1)]
  simp [flat]

/-- A store into a row that the call owns: some of one element's cells. -/
theorem ownRow_store {b n cap e sz : Nat} {cells : List Value} (h4 : w.ownsRow 0 e sz (.slice (some ⟨b, 0, none⟩) n cap) n cells) (p : Nat) (vs : List Value)
    (hle : p + vs.length ≤ n * sz) (h1 : ∀ v ∈ vs, v.oneCell' = true) :
    ∃ w', (storeCells ⟨b, p, none⟩ vs).run P w = .ok () w' ∧ w.grownBy w' (some b) ∧ w'.ownsRow 0 e sz (.slice (some ⟨b, 0, none⟩) n cap) n (cells.take p ++ vs ++ cells.drop (p + vs.length)) := by
  obtain ⟨hl, h5⟩ := h4
  rcases h5 with ⟨h5, _⟩ | ⟨g, cap', cur, h5, _, hg, hnc, hcm, hcs, ht⟩
  · cases h5
  · cases h5
    have hcur : n * sz ≤ cur.toList.length := by rw [Array.length_toList, hcs]; exact Nat.mul_le_mul_right _ hnc
    have hrun := storeCells_at (P := P) (arr := cur.toList) (by simpa using hg) vs (Nat.le_trans hle hcur) h1
    refine ⟨_, hrun, grown_setRow w _ _, ?_, .inr ⟨b, cap, _, rfl, Nat.zero_le _, setRow_heap w b cur _ e _ hg, hnc, hcm, ?_, ?_⟩⟩
    · simp only [List.length_append, List.length_take, List.length_drop, hl]; omega
    · show (cur.toList.take p ++ vs ++ cur.toList.drop (p + vs.length)).length = _
      simp only [List.length_append, List.length_take, List.length_drop, ← hcs]
      have := Array.length_toList (xs := cur)
      omega
    · show (cur.toList.take p ++ vs ++ cur.toList.drop (p + vs.length)).take (n * sz) = _
      have e1 : List.take p (List.take (n * sz) cur.toList) = List.take p cur.toList := by rw [List.take_take]; congr 1; omega
      rw [← ht, e1]
      rw [List.take_append, List.take_append, List.take_take]
      simp only [List.length_append, List.length_take]
      rw [show min p cur.toList.length = p by omega, show min (n * sz) p = p by omega]
      rw [List.take_of_length_le (show vs.length ≤ n * sz - p by omega), List.drop_take]

theorem splice {α : Type} (l : List α) (k s o : Nat) (ds : List α) (hle : o + ds.length ≤ s) :
    l.take k ++ (((l.drop k).take s).take o ++ ds ++ ((l.drop k).take s).drop (o + ds.length)) ++ l.drop (k + s) = l.take (k + o) ++ ds ++ l.drop (k + o + ds.length) := by
  have e1 : ((l.drop k).take s).take o = (l.drop k).take o := by rw [List.take_take]; congr 1; omega
  have e2 : ((l.drop k).take s).drop (o + ds.length) = (l.drop (k + o + ds.length)).take (s - (o + ds.length)) := by rw [List.drop_take, List.drop_drop]; congr 2; omega
  have e3 : l.drop (k + s) = (l.drop (k + o + ds.length)).drop (s - (o + ds.length)) := by rw [List.drop_drop]; congr 1; omega
  rw [e1, e2, e3, List.take_add]
  simp only [List.append_assoc, List.take_append_drop]

theorem Rel.store (h : Rel P C σ a w cv) {t : TypeId} {p v : AV} {up uv : Value} (hp : SRep w (FS C σ.ob cv w) cv p up) (hv : SRep w (FS C σ.ob cv w) cv v uv) (hm : ∀ i, v.ment i → σ.ob i ≠ .free)
    {σ' : St} (hst : stStore P σ t p v = some σ') : ∃ w', (Instr.storeAt t up uv).run P w = .ok () w' ∧ Rel P C σ' a w' cv := by
  unfold stStore at hst
  split at hst
  · rename_i i o
    obtain ⟨b, hb, rfl⟩ := hp
    have ho := h.obs i
    split at hst
    · rename_i ag cs he
      rw [he] at ho
      obtain ⟨b', ty, arr, h1, h2, h3, h4, h5⟩ := ho
      rw [hb] at h1
      cases h1
      have hmo := h.mento i
      rw [he] at hmo
      have fin : ∀ (ds : List AV) (vs : List Value), Two (fun c v => SRep w (FS C σ.ob cv w) cv c v ∧ v.oneCell' = true) ds vs → (∀ d ∈ ds, d.cell = true) → o + ds.length ≤ cs.length →
          (∀ d ∈ ds, ∀ j, d.ment j → σ.ob j ≠ .free) → (storeCells ⟨b, o, none⟩ vs).run P w = .ok () (w.setRow b ⟨arr.take o ++ vs ++ arr.drop (o + vs.length)⟩) ∧
          Rel P C (σ.setOb i (.box ag (cs.take o ++ ds ++ cs.drop (o + ds.length)))) a (w.setRow b ⟨arr.take o ++ vs ++ arr.drop (o + vs.length)⟩) cv := by
        intro ds vs htwo hcell hle hmd
        refine ⟨storeCells_at h2 vs (by rw [htwo.1, h3]; exact hle) (fun u hu => ?_), ?_⟩
        · obtain ⟨j, hj⟩ := List.mem_iff_getElem?.1 hu
          have hjl : j < ds.length := by rw [← htwo.1]; exact (List.getElem?_eq_some_iff.1 hj).1
          exact (htwo.2 j _ u (List.getElem?_eq_getElem hjl) hj).2
        · refine h.mod i (by rw [he]; rfl) _ (by simp) (grown_setRow w b _) (fun b' hb' => by cases hb'; rw [hb]; rfl) (fun F' hF _ hS => ?_) (fun j hj => ?_)
          · have hall : Two (fun c v => SRep w (FS C σ.ob cv w) cv c v ∧ v.oneCell' = true) (cs.take o ++ ds ++ cs.drop (o + ds.length)) (arr.take o ++ vs ++ arr.drop (o + vs.length)) := by
              have hcs : Two (fun c v => SRep w (FS C σ.ob cv w) cv c v ∧ v.oneCell' = true) cs arr := ⟨h3, h5⟩
              rw [htwo.1]
              exact ((hcs.take o).append htwo).append (hcs.drop _)
            refine ⟨b, ty, _, hb, setRow_heap w b ⟨arr⟩ _ ty _ h2, hall.1, fun c hc => ?_, fun j c v hc hv => ⟨((hall.2 j c v hc hv).1).mono hS hF (fun _ _ => rfl), (hall.2 j c v hc hv).2⟩⟩
            rcases List.mem_append.1 hc with hc | hc
            · rcases List.mem_append.1 hc with hc | hc
              · exact h4 c (List.mem_of_mem_take hc)
              · exact hcell c hc
            · exact h4 c (List.mem_of_mem_drop hc)
          · obtain ⟨c, hc, hcj⟩ := hj
            rcases List.mem_append.1 hc with hc | hc
            · rcases List.mem_append.1 hc with hc | hc
              · exact hmo j ⟨c, List.mem_of_mem_take hc, hcj⟩
              · exact hmd c hc j hcj
            · exact hmo j ⟨c, List.mem_of_mem_drop hc, hcj⟩
      split at hst
      · rename_i n hag hn
        split at hst
        · rename_i x
          split at hst
          · rename_i hc
            obtain ⟨hx, hxn, hle⟩ := hc
            obtain rfl := Option.some.inj hst
            obtain ⟨vs, rfl, hr, hna⟩ := Rep.cells_of_agg hv hx
            have htwo := Two.val (cv := cv) hr hna
            obtain ⟨g1, g2⟩ := fin (x.cells.map .val) vs htwo (fun d hd => by
                obtain ⟨q, hq, rfl⟩ := List.mem_map.1 hd
                simp [AV.cell, hna q hq]) (by simpa [hxn] using hle) (fun d hd j hj => by
                obtain ⟨q, hq, rfl⟩ := List.mem_map.1 hd
                exact hj.elim)
            simp only [List.length_map, hxn] at g2
            refine ⟨_, ?_, g2⟩
            have hvl : vs.length = n := by rw [hr.1, hxn]
            simp [Instr.storeAt, Instr.sureAddr, storeVar, run_sizeOf hn, Value.cells, hvl, g1]
          · cases hst
        · cases hst
      · rename_i n hag hn
        split at hst
        · rename_i hc
          obtain ⟨rfl, hlt, hok⟩ := hc
          obtain rfl := Option.some.inj hst
          have h1 := h.okCell hok hv
          obtain ⟨g1, g2⟩ := fin [v] [uv] (Two.one ⟨hv, h1⟩) (fun d hd => by rw [List.mem_singleton.1 hd]; exact okCell_cell hok) (by simp; omega) (fun d hd j hj => by rw [List.mem_singleton.1 hd] at hj; exact hm j hj)
          rw [set_take_drop _ _ _ hlt]
          refine ⟨_, ?_, g2⟩
          simp [Instr.storeAt, Instr.sureAddr, storeVar, run_sizeOf hn, oneCell_cells h1, g1]
        · cases hst
      · cases hst
    · cases hst
  · rename_i i sz k o
    obtain ⟨b, n, c, hb, rfl⟩ := hp
    have hpub := h.pub v
    have ho := hpub.1.obs i
    split at hst
    · rename_i e xs he
      rw [he] at ho
      split at hst
      · rename_i x ag m q hx hag hm' hq
        have hrq := h.pv hq hv
        split at hst
        · rename_i y hy
          obtain rfl := Option.some.inj hst
          obtain ⟨sz', cells, g1, g2, g3, g4, g5, g6⟩ := ho
          have hxm := List.mem_of_getElem? hx
          have hk : k < xs.length := (List.getElem?_eq_some_iff.1 hx).1
          unfold stElem at hy
          split at hy
          · rename_i hxs
            have hszz : sz' = sz := by rw [← g3 x hxm]; exact hxs
            subst hszz
            have hxf := flat_elem g3 hx
            rw [hb] at g4
            have hn : n = xs.length := by
              rcases g4.2 with ⟨g4', _⟩ | ⟨g, cap', cur, g4', _⟩ <;> cases g4' ; rfl
            subst hn
            have hsz1 : k * sz' + sz' ≤ xs.length * sz' := by
              have : (k + 1) * sz' ≤ xs.length * sz' := Nat.mul_le_mul_right _ hk
              rw [Nat.add_mul] at this; omega
            -- the value's cells, and the element that it makes
            have main : ∃ (o' : Nat) (ds : List PV) (vs : List Value), (∀ w' : World, (storeVar t ⟨b, k * sz' + o, none⟩ uv).run P w = (storeCells ⟨b, k * sz' + o', none⟩ vs).run P w) ∧ Reps w (FS C (σ.pub v).ob cv w) ds vs ∧ (∀ d ∈ ds, d.isAgg = false) ∧
                o' + ds.length ≤ sz' ∧ y.cells = x.cells.take o' ++ ds ++ x.cells.drop (o' + ds.length) := by
              split at hy
              · rename_i hc
                obtain ⟨rfl, rfl, hq1, hq2⟩ := hc
                obtain rfl := Option.some.inj hy
                obtain ⟨r1, r2⟩ := hrq.cells
                refine ⟨0, q.cells, uv.cells.toList, fun _ => ?_, r1, r2, by omega, ?_⟩
                · have : uv.cells.size = m := by have := r1.1; rw [Array.length_toList] at this; omega
                  simp [storeVar, run_sizeOf hm', this]
                · rw [List.drop_of_length_le (by omega)]; simp
              · split at hy
                · rename_i hc
                  obtain ⟨rfl, hq1, rfl, hxa, hos⟩ := hc
                  obtain rfl := Option.some.inj hy
                  have h1 := hrq.oneCell hq1
                  refine ⟨o, [q], [uv], fun _ => ?_, Reps.cons hrq (Reps.nil _ _), by simpa using hq1, (by simp; omega), ?_⟩
                  · simp [storeVar, run_sizeOf hm', oneCell_cells h1]
                  · show x.cells.set o q = _
                    exact set_take_drop _ _ _ (by omega)
                · cases hy
            obtain ⟨o', ds, vs, hrun, hrd, hna, hle, hyc⟩ := main
            have hvl := hrd.1
            have hone : ∀ u ∈ vs, u.oneCell' = true := fun u hu => by
              obtain ⟨j, hj⟩ := List.mem_iff_getElem?.1 hu
              have hjl : j < ds.length := by rw [← hvl]; exact (List.getElem?_eq_some_iff.1 hj).1
              exact (hrd.2 j _ u (List.getElem?_eq_getElem hjl) hj).oneCell (hna _ (List.getElem_mem hjl))
            obtain ⟨w', r1, r2, r3⟩ := ownRow_store (P := P) g4 (k * sz' + o') vs (by rw [hvl]; omega) hone
            refine ⟨w', ?_, ?_⟩
            · simp only [Instr.storeAt, Instr.sureAddr, Sem.run_bind, Sem.run_pure, Result.andThen_ok, hrun w, r1]
            · have hyl : y.cells.length = sz' := by
                rw [hyc]; simp only [List.length_append, List.length_take, List.length_drop, hxs]; omega
              have hfl : flat (xs.set k y) = (flat xs).take (k * sz' + o') ++ ds ++ (flat xs).drop (k * sz' + o' + ds.length) := by
                rw [flat_set g3 hk hyl, hyc, ← hxf]
                exact splice _ _ _ _ _ hle
              refine hpub.1.mod i (by rw [he]; rfl) _ (by simp) r2 (fun b' hb' => by cases hb'; rw [hb]; rfl) (fun F' hF _ hS => ?_) (fun j hj => hj.elim)
              refine ⟨sz', _, g1, g2, fun z hz => ?_, by rw [hb, List.length_set]; exact r3, ?_, ?_⟩
              · rcases List.mem_or_eq_of_mem_set hz with hz | rfl
                · exact g3 z hz
                · exact hyl
              · rw [hfl, hvl]
                exact (((g5.take _).append hrd).append (g5.drop _)).mono hS hF
              · intro c hc
                rw [hfl] at hc
                rcases List.mem_append.1 hc with hc | hc
                · rcases List.mem_append.1 hc with hc | hc
                  · exact g6 c (List.mem_of_mem_take hc)
                  · exact hna c hc
                · exact g6 c (List.mem_of_mem_drop hc)
          · cases hy
        · cases hst
      · cases hst
    · cases hst
  · cases hst

end
end Go.Proofs.YtjbfcmaiejlnbaaVm
set_option linter.unusedVariables false
set_option linter.unusedSimpArgs false
namespace Go.Proofs.YtjbfcmaiejlnbaaVm
open Go Classical

section
variable {P : Program} {C : Ctx} {σ : St} {a : Act} {w : World} {cv : Nat → Value}

def St.isFree (σ : St) (i : Nat) : Bool :=
  match σ.ob i with
  | .free => true
  | _ => false
theorem isFree_free {i : Nat} (h : σ.isFree i = true) : σ.ob i = .free := by
  unfold St.isFree at h; split at h <;> first | assumption | cases h

theorem Rel.newPtr (h : Rel P C σ a w cv) {i : Nat} (hf : σ.ob i = .free) {ag : Bool} {cs : List AV} {vs : List Value} {ty : TypeId}
    (h2 : Two (fun c v => SRep w (FS C σ.ob cv w) cv c v ∧ v.oneCell' = true) cs vs) (hc : ∀ c ∈ cs, c.cell = true) (hm : ∀ c ∈ cs, ∀ j, c.ment j → σ.ob j ≠ .free) :
    ∃ cv', Rel P C (σ.setOb i (.box ag cs)) a (w.alloc (.cells ⟨vs⟩ ty)) cv' ∧ SRep (w.alloc (.cells ⟨vs⟩ ty)) (FS C (σ.setOb i (.box ag cs)).ob cv' (w.alloc (.cells ⟨vs⟩ ty))) cv' (.adr i 0) (.pointer (some ⟨w.heap.size, 0, none⟩)) := by
  have hmi : ∀ j, (Ob.box ag cs).ment j → σ.ob j ≠ .free := fun j ⟨c, hcm, hj⟩ => hm c hcm j hj
  have hs : Same (FS C σ.ob cv w) w (w.alloc (.cells ⟨vs⟩ ty)) := fun b hb => heap_alloc_old w _ b (h.fs_lt hb)
  refine ⟨_, h.new i hf (.box ag cs) vs ty (.pointer (some ⟨w.heap.size, 0, none⟩)) rfl rfl (fun F' cv' hF hi hcv => ?_) hmi (fun hj => hmi i hj hf), ⟨w.heap.size, by simp, rfl⟩⟩
  refine ⟨w.heap.size, ty, vs, hi, heap_alloc_new w _, h2.1, hc, fun j c v hjc hjv => ⟨((h2.2 j c v hjc hjv).1).mono hs hF fun k hk => hcv k (fun e => ?_), (h2.2 j c v hjc hjv).2⟩⟩
  exact hm c (List.mem_of_getElem? hjc) k hk (e ▸ hf)

/-! ### alloc, box -/
def stAlloc (P : Program) (σ : St) (i : Nat) (t : TypeId) : Option (St × AV) :=
  match zeroOf P t, aggOf P t with
  | some zs, some ag => if zs.all AV.cell = true ∧ σ.isFree i = true then some (σ.setOb i (.box ag zs), .adr i 0) else none
  | _, _ => none

theorem Rel.allocOp (h : Rel P C σ a w cv) {i : Nat} {t : TypeId} {σ' : St} {r : AV} (hst : stAlloc P σ i t = some (σ', r)) :
    RunOK P C a (Instr.alloc t true (.tuple #[])) w σ' r := by
  unfold stAlloc at hst
  split at hst
  · rename_i zs ag hz hag
    split at hst
    · rename_i hc
      obtain ⟨hc, hfr⟩ := hc
      obtain ⟨rfl, rfl⟩ := Prod.mk.inj (Option.some.inj hst)
      unfold zeroOf at hz
      split at hz
      · rename_i inf hi
        split at hz
        · rename_i z hzz
          obtain rfl := Option.some.inj hz
          have hcell : ∀ v ∈ z.cells.toList, (cAV v).cell = true := fun v hv => List.all_eq_true.1 hc _ (List.mem_map_of_mem hv)
          obtain ⟨cv', h1, h2⟩ := h.newPtr (ag := ag) (cs := z.cells.toList.map cAV) (vs := z.cells.toList) (ty := t) (isFree_free hfr)
            ⟨by simp, fun j c v hj hv => by
              simp only [List.getElem?_map, hv, Option.map_some, Option.some.injEq] at hj
              subst hj
              exact ⟨cAV_rep _ _ _ v, cAV_oneCell (hcell v (List.mem_of_getElem? hv))⟩⟩
            (fun c hcm => List.all_eq_true.1 hc c hcm) (fun c hcm j hj => by
              obtain ⟨v, _, rfl⟩ := List.mem_map.1 hcm
              exact absurd hj (cAV_ment v j))
          refine ⟨_, _, cv', ?_, h1, h2, fun j hj => ?_⟩
          · simp [Instr.alloc, zeroValue, typeInfo, hi, hzz, newVar, Go.newRow]
          · have e : i = j := hj
            subst e
            simp [St.setOb]
        · cases hz
      · cases hz
    · cases hst
  · cases hst

def stBox (P : Program) (σ : St) (i : Nat) (t : TypeId) (v : AV) : Option (St × AV) :=
  match aggOf P t with
  | some true => match v with
    | .val x => if x.isAgg = true ∧ σ.isFree i = true then some (σ.setOb i (.box true (x.cells.map .val)), .adr i 0) else none
    | .agr ps k id => if (ps.all fun p => !p.isAgg) = true ∧ k < ps.length ∧ σ.isFree i = true then some (σ.setOb i (.box true ((ps.map .val).set k (.ref id))), .adr i 0) else none
    | _ => none
  | some false => if σ.okCell v = true ∧ σ.isFree i = true then some (σ.setOb i (.box false [v]), .adr i 0) else none
  | none => none

theorem Rel.boxOp (h : Rel P C σ a w cv) {i : Nat} {t : TypeId} {v : AV} {u : Value} (hv : SRep w (FS C σ.ob cv w) cv v u) (hm : ∀ i, v.ment i → σ.ob i ≠ .free)
    {σ' : St} {r : AV} (hst : stBox P σ i t v = some (σ', r)) : RunOK P C a (Instr.box t u) w σ' r := by
  unfold stBox at hst
  split at hst
  · rename_i hag
    split at hst
    · rename_i x
      split at hst
      · rename_i hc
        obtain ⟨hx, hfr⟩ := hc
        obtain ⟨rfl, rfl⟩ := Prod.mk.inj (Option.some.inj hst)
        obtain ⟨vs, rfl, hr, hna⟩ := Rep.cells_of_agg hv hx
        obtain ⟨cv', h1, h2⟩ := h.newPtr (ag := true) (ty := t) (isFree_free hfr) (Two.val (cv := cv) hr hna)
          (fun c hc => by obtain ⟨q, hq, rfl⟩ := List.mem_map.1 hc; simp [AV.cell, hna q hq]) (fun c hc j hj => by obtain ⟨q, hq, rfl⟩ := List.mem_map.1 hc; exact hj.elim)
        refine ⟨_, _, cv', ?_, h1, h2, fun j hj => ?_⟩
        · simp [Instr.box, newVar, Go.newRow, Value.cells]
        · have e : i = j := hj
          subst e
          simp [St.setOb]
      · cases hst
    · rename_i ps k id
      split at hst
      · rename_i hc
        obtain ⟨hna, hk, hfr⟩ := hc
        obtain ⟨rfl, rfl⟩ := Prod.mk.inj (Option.some.inj hst)
        obtain ⟨vs, rfl, hl, hvk, hone, hrest⟩ := hv
        have hnf := hm id rfl
        have hna' : ∀ p ∈ ps, p.isAgg = false := fun p hp => by simpa using List.all_eq_true.1 hna p hp
        have h2 : Two (fun c v => SRep w (FS C σ.ob cv w) cv c v ∧ v.oneCell' = true) ((ps.map AV.val).set k (.ref id)) vs := by
          refine ⟨by simp [hl], fun j c v hc hv => ?_⟩
          rw [List.getElem?_set] at hc
          split at hc
          · rename_i e
            subst e
            split at hc
            · cases hc
              rw [hvk] at hv
              cases hv
              exact ⟨rfl, hone⟩
            · cases hc
          · rename_i hne
            rw [List.getElem?_map] at hc
            cases hp : ps[j]? with
            | none => rw [hp] at hc; cases hc
            | some p =>
              rw [hp] at hc
              cases hc
              have := hrest j p v (fun e => hne e.symm) hp hv
              exact ⟨this, this.oneCell (hna' p (List.mem_of_getElem? hp))⟩
        have hset : ∀ c ∈ (ps.map AV.val).set k (.ref id), c = .ref id ∨ ∃ p ∈ ps, c = .val p := fun c hc => by
          rcases List.mem_or_eq_of_mem_set hc with hc | hc
          · obtain ⟨p, hp, rfl⟩ := List.mem_map.1 hc
            exact .inr ⟨p, hp, rfl⟩
          · exact .inl hc
        obtain ⟨cv', h3, h4⟩ := h.newPtr (ag := true) (ty := t) (isFree_free hfr) h2
          (fun c hc => by
            rcases hset c hc with rfl | ⟨p, hp, rfl⟩
            · rfl
            · simp [AV.cell, hna' p hp]) (fun c hc j hj => by
            rcases hset c hc with rfl | ⟨p, hp, rfl⟩
            · have e : id = j := hj
              subst e; exact hnf
            · exact hj.elim)
        refine ⟨_, _, cv', ?_, h3, h4, fun j hj => ?_⟩
        · simp [Instr.box, newVar, Go.newRow, Value.cells]
        · have e : i = j := hj
          subst e
          simp [St.setOb]
      · cases hst
    · cases hst
  · rename_i hag
    split at hst
    · rename_i hc
      obtain ⟨hok, hfr⟩ := hc
      obtain ⟨rfl, rfl⟩ := Prod.mk.inj (Option.some.inj hst)
      have h1 := h.okCell hok hv
      obtain ⟨cv', g1, g2⟩ := h.newPtr (ag := false) (cs := [v]) (vs := [u]) (ty := t) (isFree_free hfr) (Two.one ⟨hv, h1⟩)
        (fun c hc => by rw [List.mem_singleton.1 hc]; exact okCell_cell hok) (fun c hc j hj => by rw [List.mem_singleton.1 hc] at hj; exact hm j hj)
      refine ⟨_, _, cv', ?_, g1, g2, fun j hj => ?_⟩
      · simp [Instr.box, newVar, Go.newRow, oneCell_cells h1]
      · have e : i = j := hj
        subst e
        simp [St.setOb]
    · cases hst
  · cases hst

/-! ### struct literals -/
def plOf (P : Program) (t : TypeId) : Option (List (Nat × Nat)) :=
  match P.underlying t with
  | some (.struct fs) => fs.toList.mapM (fun f => (P.info? f.type).map fun i => (f.offset, i.size))
  | _ => none

def fillP (places : List (Nat × Nat)) : List PV → List (Nat × PV) → Option (List PV)
  | cs, [] => some cs
  | cs, (i, p) :: rest => match places[i]? with
    | some (o, n) => if p.cells.length = n ∧ o + n ≤ cs.length then fillP places (cs.take o ++ p.cells ++ cs.drop (o + n)) rest else none
    | none => none

def idxs (parts : List (Nat × Operand)) : List Nat := parts.map (·.1)
def opers (parts : List (Nat × Operand)) : List Operand := parts.map (·.2)
def St.evs (σ : St) (xs : List Operand) : List AV := xs.map σ.ev

def stBuild (P : Program) (σ : St) (t : TypeId) (parts : List (Nat × Operand)) : Option (St × AV) :=
  match zeroOf P t, plOf P t, σ.pvs (σ.evs (opers parts)) with
  | some zs, some places, some ps => match purs zs with
    | some z => match fillP places z ((idxs parts).zip ps) with
      | some cs => if (∀ p ∈ z, p.isAgg = false) ∧ aggOf P t = some true then some (σ.pubs (σ.evs (opers parts)), .val (.agg cs)) else none
      | none => none
    | none => none
  | _, _, _ => none

theorem fold_splice (vs : List Value) (o : Nat) (cs : Array Value) (h : o + vs.length ≤ cs.size) :
    ((vs.toArray.zipIdx.foldl (fun cs (x : Value × Nat) => cs.setIfInBounds (o + x.2) x.1) cs)).toList = cs.toList.take o ++ vs ++ cs.toList.drop (o + vs.length) := by
  have e : vs.toArray.zipIdx.foldl (fun cs (x : Value × Nat) => cs.setIfInBounds (o + x.2) x.1) cs = (vs.zipIdx 0).foldl (fun cs (x : Value × Nat) => cs.setIfInBounds (o + x.2) x.1) cs := by
    rw [← Array.foldl_toList, Array.toList_zipIdx]
  rw [e]
  obtain ⟨h1, h2⟩ := Great.foldl_set o vs 0 cs
  apply List.ext_getElem?
  intro k
  have := h2 k
  have hcl := Array.length_toList (xs := cs)
  rw [← Array.getElem?_toList] at this
  rw [this]
  simp only [Nat.add_zero]
  by_cases hk1 : k < o
  · rw [if_neg (by omega)]
    rw [List.append_assoc, List.getElem?_append_left (by rw [List.length_take]; omega), List.getElem?_take, if_pos hk1]
    simp
  · by_cases hk2 : k < o + vs.length
    · rw [if_pos ⟨by omega, hk2, by omega⟩]
      rw [List.append_assoc, List.getElem?_append_right (by rw [List.length_take]; omega), List.length_take]
      rw [show min o cs.toList.length = o by omega, List.getElem?_append_left (by omega)]
    · rw [if_neg (by omega)]
      rw [List.getElem?_append_right (by rw [List.length_append, List.length_take]; omega), List.length_append, List.length_take]
      rw [show min o cs.toList.length = o by omega, List.getElem?_drop, show o + vs.length + (k - (o + vs.length)) = k by omega]
      simp

theorem fillP_reps {F : Nat → Prop} {places : List (Nat × Nat)} : ∀ {idx : List Nat} {ps : List PV} {vs : List Value} {zs cs : List PV} {zv : List Value}, fillP places zs (idx.zip ps) = some cs →
    idx.length = ps.length → Reps w F ps vs → Reps w F zs zv → (∀ p ∈ zs, p.isAgg = false) →
    ∃ cvs : List Value, Instr.fill (places.toArray[·]?) ⟨zv⟩ (idx.zip vs) = some ⟨cvs⟩ ∧ Reps w F cs cvs ∧ ∀ p ∈ cs, p.isAgg = false
  | [], ps, vs, zs, cs, zv, h, hl, hp, hz, hn => by
    simp only [List.zip_nil_left, fillP] at h
    obtain rfl := Option.some.inj h
    exact ⟨zv, by simp [Instr.fill], hz, hn⟩
  | i :: idx, [], vs, zs, cs, zv, h, hl, hp, hz, hn => by simp at hl
  | i :: idx, p :: ps, [], zs, cs, zv, h, hl, hp, hz, hn => by have := hp.1; simp at this
  | i :: idx, p :: ps, v :: vs, zs, cs, zv, h, hl, hp, hz, hn => by
    simp only [List.zip_cons_cons, fillP] at h
    split at h
    · rename_i o n hpl
      split at h
      · rename_i hc
        obtain ⟨hpn, hle⟩ := hc
        obtain ⟨hv, hps⟩ := hp.tail
        obtain ⟨r1, r2⟩ := hv.cells
        have hvl : v.cells.toList.length = n := by rw [r1.1, hpn]
        have hvs : v.cells.size = n := by rw [← Array.length_toList]; exact hvl
        have hzl := hz.1
        have hnew : Reps w F (zs.take o ++ p.cells ++ zs.drop (o + n)) (zv.take o ++ v.cells.toList ++ zv.drop (o + n)) := ((hz.take o).append r1).append (hz.drop _)
        obtain ⟨cvs, g1, g2, g3⟩ := fillP_reps (idx := idx) h (by simpa using hl) hps hnew (fun q hq => by
          rcases List.mem_append.1 hq with hq | hq
          · rcases List.mem_append.1 hq with hq | hq
            · exact hn q (List.mem_of_mem_take hq)
            · exact r2 q hq
          · exact hn q (List.mem_of_mem_drop hq))
        refine ⟨cvs, ?_, g2, g3⟩
        simp only [List.zip_cons_cons]
        unfold Instr.fill
        simp only [List.getElem?_toArray, hpl]
        rw [if_neg (by simp only [hvs, List.size_toArray, Bool.or_eq_true, decide_eq_true_eq, not_or]; exact ⟨fun e => e rfl, by show ¬ o + n > zv.length; omega⟩)]
        rw [← g1]
        have hf := fold_splice v.cells.toList o ⟨zv⟩ (by show o + _ ≤ zv.length; omega)
        rw [hvl] at hf
        congr 1
        · funext x; simp
        · apply Array.ext'
          exact hf
      · cases h
    · cases h

theorem Rel.buildOp (h : Rel P C σ a w cv) {t : TypeId} {parts : Array (Nat × Operand)} {σ' : St} {r : AV} (hst : stBuild P σ t parts.toList = some (σ', r)) :
    RunOK P C a (Instr.build t (parts.map fun (i, x) => (i, a.eval x))) w σ' r := by
  unfold stBuild at hst
  split at hst
  · rename_i zs places ps hz hpl hps
    split at hst
    · rename_i z hzp
      split at hst
      · rename_i cs hcs
        split at hst
        · rename_i hna
          obtain ⟨hna, hag⟩ := hna
          obtain ⟨rfl, rfl⟩ := Prod.mk.inj (Option.some.inj hst)
          unfold zeroOf at hz
          split at hz
          · rename_i inf hi
            split at hz
            · rename_i zval hzz
              obtain rfl := Option.some.inj hz
              have hpubs := h.pubs (σ.evs (opers parts.toList))
              have hrp := Rel.pvs h (vs := (opers parts.toList).map a.eval) hps (by simp [St.evs]) (fun j c v hc hv => by
                simp only [St.evs, List.getElem?_map] at hc hv
                cases hx : (opers parts.toList)[j]? with
                | none => simp [hx] at hc
                | some x =>
                  simp only [hx, Option.map_some, Option.some.injEq] at hc hv
                  subst hc; subst hv
                  exact (h.ev x).1)
              have hrz : Reps w (FS C (σ.pubs (σ.evs (opers parts.toList))).ob cv w) z zval.cells.toList := purs_reps (cv := cv) hzp (by simp) (fun j c v hc hv => by
                simp only [List.getElem?_map, hv, Option.map_some, Option.some.injEq] at hc
                subst hc
                exact cAV_rep _ _ _ v)
              obtain ⟨cvs, g1, g2, g3⟩ := fillP_reps hcs (by have := hrp.1; simp only [List.length_map] at this; simp [idxs, opers] at *; omega) hrp hrz hna
              refine ⟨_, w, cv, ?_, hpubs.1, Rep.agg cs cvs g2.1 g3 g2.2, fun i hi => hi.elim⟩
              refine run_build w t _ ⟨cvs⟩ ?_
              unfold plOf at hpl
              split at hpl
              · rename_i fs hu
                unfold Program.built
                simp only [hi, hu, hzz, hpl]
                have e : (parts.map fun (x : Nat × Operand) => (x.1, a.eval x.2)).toList = (idxs parts.toList).zip ((opers parts.toList).map a.eval) := by
                  simp only [Array.toList_map, idxs, opers]
                  generalize parts.toList = l
                  induction l with
                  | nil => rfl
                  | cons x l ih => simp [ih]
                rw [e]
                exact g1
              · cases hpl
            · cases hz
          · cases hz
        · cases hst
      · cases hst
    · cases hst
  · cases hst

theorem fillP_two {places : List (Nat × Nat)} {z cs : List PV} {i0 i1 k : Nat} {p0 q : PV} (hcs : fillP places z [(i0, p0), (i1, .row [])] = some cs) (hk : places[i1]? = some (k, 1)) (hq : q.cells.length = 1) :
    ∃ cs', fillP places z [(i0, p0), (i1, q)] = some cs' ∧ cs'.length = cs.length ∧ k < cs.length ∧ cs'[k]? = q.cells[0]? ∧ ∀ j, j ≠ k → cs'[j]? = cs[j]? := by
  unfold fillP at hcs ⊢
  split at hcs
  · rename_i o n hp0
    split at hcs
    · rename_i hc0
      unfold fillP at hcs
      rw [hk] at hcs
      simp only at hcs
      split at hcs
      · rename_i hc1
        have e1 : (PV.row []).cells = [.row []] := rfl
        unfold fillP at hcs
        simp only [Option.some.injEq] at hcs
        rw [e1] at hcs hc1
        obtain ⟨c, hqc⟩ : ∃ c, q.cells = [c] := by
          match hqq : q.cells, hq with
          | [c], _ => exact ⟨c, rfl⟩
        refine ⟨(z.take o ++ p0.cells ++ z.drop (o + n)).take k ++ q.cells ++ (z.take o ++ p0.cells ++ z.drop (o + n)).drop (k + 1), ?_, ?_, ?_, ?_, ?_⟩
        · rw [if_pos hc0]
          unfold fillP
          rw [hk]
          simp only
          rw [if_pos ⟨by rw [hqc]; rfl, hc1.2⟩]
          unfold fillP
          rfl
        all_goals
          generalize z.take o ++ p0.cells ++ z.drop (o + n) = L at *
          have hlt : k < L.length := by have := hc1.2; omega
          rw [← set_take_drop L k _ hlt] at hcs
          subst hcs
          try rw [hqc, ← set_take_drop L k c hlt]
        · simp
        · simp; exact hlt
        · simp [hlt]
        · intro j hj
          rw [List.getElem?_set_ne (fun e => hj e.symm), List.getElem?_set_ne (fun e => hj e.symm)]
      · cases hcs
    · cases hcs
  · cases hcs
/-- A struct one of whose cells is a row of the call's own. -/
theorem Rel.buildRef (h : Rel P C σ a w cv) {t : TypeId} {i0 i1 : Nat} {x y : Operand} {p0 : PV} {id : Nat} {e : TypeId} {ys : List PV} {zs : List AV} {places : List (Nat × Nat)} {z cs : List PV} {k : Nat} (hx : σ.ev x = .val p0) (hy : σ.ev y = .ref id) (hob : σ.ob id = .row e ys)
    (hz : zeroOf P t = some zs) (hpl : plOf P t = some places) (hp : purs zs = some z) (hna : ∀ p ∈ z, p.isAgg = false) (hcs : fillP places z [(i0, p0), (i1, .row [])] = some cs) (hk : places[i1]? = some (k, 1)) :
    ∃ u, (Instr.build t (#[(i0, x), (i1, y)].map fun (i, x) => (i, a.eval x))).run P w = .ok u w ∧ SRep w (FS C σ.ob cv w) cv (.agr cs k id) u ∧ ∀ i, (AV.agr cs k id).ment i → σ.ob i ≠ .free := by
  have hvx := (h.ev x).1
  have hvy := (h.ev y).1
  rw [hx] at hvx
  rw [hy] at hvy
  have hvx : Rep w (FS C σ.ob cv w) p0 (a.eval x) := hvx
  have hvy : a.eval y = cv id := hvy
  have hone : (cv id).oneCell' = true := by
    have ho := h.obs id
    rw [hob] at ho
    obtain ⟨sz, cells, _, _, _, h4, _⟩ := ho
    rcases h4.2 with ⟨e1, _⟩ | ⟨g, cap, cur, e1, _⟩ <;> (rw [e1]; rfl)
  obtain ⟨cs', g1, g2, g3, g4, g5⟩ := fillP_two hcs hk (q := .raw (cv id)) rfl
  unfold zeroOf at hz
  split at hz
  · rename_i inf hi
    split at hz
    · rename_i zval hzz
      obtain rfl := Option.some.inj hz
      have hrz : Reps w (FS C σ.ob cv w) z zval.cells.toList := purs_reps (cv := cv) hp (by simp) (fun j c v hc hv => by
        simp only [List.getElem?_map, hv, Option.map_some, Option.some.injEq] at hc
        subst hc
        exact cAV_rep _ _ _ v)
      have hrp : Reps w (FS C σ.ob cv w) [p0, .raw (cv id)] [a.eval x, cv id] := Reps.cons hvx (Reps.cons (Rep.raw _ hone) (Reps.nil _ _))
      obtain ⟨cvs, q1, q2, q3⟩ := fillP_reps (idx := [i0, i1]) (ps := [p0, .raw (cv id)]) (vs := [a.eval x, cv id]) (by simpa using g1) rfl hrp hrz hna
      refine ⟨.agg ⟨cvs⟩, run_build w t _ ⟨cvs⟩ ?_, ⟨cvs, rfl, by rw [q2.1, g2], ?_, hone, fun j p u hj hpj hu => ?_⟩, fun i hi => ?_⟩
      · unfold plOf at hpl
        split at hpl
        · rename_i fs hu
          unfold Program.built
          simp only [hi, hu, hzz, hpl]
          have e2 : (#[(i0, x), (i1, y)].map fun (x : Nat × Operand) => (x.1, a.eval x.2)).toList = [i0, i1].zip [a.eval x, cv id] := by simp [hvy]
          rw [e2]
          exact q1
        · cases hpl
      · have hl : k < cvs.length := by rw [q2.1, g2]; exact g3
        have h1 : cs'[k]? = some (.raw (cv id)) := by rw [g4]; rfl
        have h2 := q2.2 k _ cvs[k] h1 (List.getElem?_eq_getElem hl)
        rw [List.getElem?_eq_getElem hl]
        congr 1
        generalize cvs[k] = u at *
        cases h2; rfl
      · exact q2.2 j p u (by rw [g5 j hj]; exact hpj) hu
      · have e2 : id = i := hi
        subst e2
        rw [hob]; simp
    · cases hz
  · cases hz

/-! ### slice literals -/
def stBuildSlice (P : Program) (σ : St) (i : Nat) (t : TypeId) (len : Nat) (parts : List (Nat × Operand)) : Option (St × AV) :=
  match elOf P t with
  | some e => match szOf P e, σ.pvs (σ.evs (opers parts)) with
    | some sz, some ps => if 0 < sz ∧ len * sz ≤ 16777216 ∧ idxs parts = List.range len ∧ (∀ p ∈ ps, p.cells.length = sz) ∧ (zeroOf P e).isSome = true ∧ σ.isFree i = true then
        some ((σ.pubs (σ.evs (opers parts))).setOb i (.row e ps), .ref i) else none
    | _, _ => none
  | none => none

theorem pubs_free : ∀ (cs : List AV) (σ : St) (i : Nat), σ.ob i = .free → (σ.pubs cs).ob i = .free
  | [], _, _, h => h
  | c :: cs, σ, i, h => pubs_free cs (σ.pub c) i (by
      cases c <;> simp only [St.pub] <;> try exact h
      · split
        · rename_i j e xs he
          simp only [St.setOb]
          rw [if_neg (fun e => by subst e; rw [he] at h; cases h)]
          exact h
        · exact h
      · split
        · rename_i j o ag cs he
          split
          · simp only [St.setOb]
            rw [if_neg (fun e => by subst e; rw [he] at h; cases h)]
            exact h
          · exact h
        · exact h)

theorem Rel.newRow (h : Rel P C σ a w cv) {i : Nat} (hf : σ.ob i = .free) {e : TypeId} {xs : List PV} {sz : Nat} (hsz : szOf P e = some sz) (h0 : 0 < sz) (hxs : ∀ x ∈ xs, x.cells.length = sz) {vs : List Value}
    (hr : Reps w (FS C σ.ob cv w) (flat xs) vs) (hna : ∀ c ∈ flat xs, c.isAgg = false) (hm : xs.length ≤ maxLen) :
    ∃ cv', Rel P C (σ.setOb i (.row e xs)) a (w.alloc (.cells ⟨vs⟩ e)) cv' ∧ cv' i = .slice (some ⟨w.heap.size, 0, none⟩) xs.length xs.length := by
  have hs : Same (FS C σ.ob cv w) w (w.alloc (.cells ⟨vs⟩ e)) := fun b hb => heap_alloc_old w _ b (h.fs_lt hb)
  refine ⟨_, h.new i hf (.row e xs) vs e (.slice (some ⟨w.heap.size, 0, none⟩) xs.length xs.length) rfl rfl (fun F' cv' hF hi hcv => ?_) (fun j hj => hj.elim) (fun hj => hj), by simp⟩
  show OwnRow P _ _ (cv' i) e xs
  rw [hi]
  have hl : (⟨vs⟩ : Array Value).size = xs.length * sz := by show vs.length = _; rw [hr.1, flat_length hxs]
  exact ⟨sz, vs, hsz, h0, hxs, World.ownsRow_lit w ⟨vs⟩ xs.length (Nat.zero_le _) hm hl, hr.mono hs hF, hna⟩

theorem flat_cells {F : Nat → Prop} : ∀ {ps : List PV} {vs : List Value}, Reps w F ps vs → Reps w F (flat ps) (vs.flatMap fun v => v.cells.toList) ∧ ∀ c ∈ flat ps, c.isAgg = false
  | [], [], h => ⟨Reps.nil _ _, by simp [flat]⟩
  | [], v :: vs, h => by have := h.1; simp at this
  | p :: ps, [], h => by have := h.1; simp at this
  | p :: ps, v :: vs, h => by
    obtain ⟨hv, hps⟩ := h.tail
    obtain ⟨r1, r2⟩ := hv.cells
    obtain ⟨r3, r4⟩ := flat_cells hps
    refine ⟨by simp only [flat, List.flatMap_cons] at *; exact r1.append r3, fun c hc => ?_⟩
    simp only [flat, List.flatMap_cons] at hc
    rcases List.mem_append.1 hc with hc | hc
    · exact r2 c hc
    · exact r4 c hc

theorem zip_range : ∀ (vs : List Value) (i0 : Nat), (List.range' i0 vs.length).zip vs = (vs.zipIdx i0).map fun x => (x.2, x.1)
  | [], _ => rfl
  | v :: vs, i0 => by simp only [List.length_cons, List.range'_succ, List.zip_cons_cons, List.zipIdx_cons, List.map_cons]; rw [zip_range vs (i0 + 1)]

theorem Rel.buildSliceOp (h : Rel P C σ a w cv) {i : Nat} {t : TypeId} {len : Nat} {parts : Array (Nat × Operand)} {σ' : St} {r : AV} (hst : stBuildSlice P σ i t len parts.toList = some (σ', r)) :
    RunOK P C a (Instr.buildSlice t len (parts.map fun (i, x) => (i, a.eval x))) w σ' r := by
  unfold stBuildSlice at hst
  split at hst
  · rename_i e he
    split at hst
    · rename_i sz ps hsz hps
      split at hst
      · rename_i hc
        obtain ⟨h0, hsm, hidx, hpc, hzs, hfr⟩ := hc
        obtain ⟨rfl, rfl⟩ := Prod.mk.inj (Option.some.inj hst)
        have hu : P.underlying t = some (.slice e) := by unfold elOf at he; split at he <;> first | (rename_i hu; cases he; exact hu) | cases he
        have hpubs := h.pubs (σ.evs (opers parts.toList))
        have hrp := Rel.pvs h (vs := (opers parts.toList).map a.eval) hps (by simp [St.evs]) (fun j c v hc hv => by
          simp only [St.evs, List.getElem?_map] at hc hv
          cases hx : (opers parts.toList)[j]? with
          | none => simp [hx] at hc
          | some x =>
            simp only [hx, Option.map_some, Option.some.injEq] at hc hv
            subst hc; subst hv
            exact (h.ev x).1)
        have hlen : ps.length = len := by
          have := hrp.1; simp only [List.length_map] at this
          have h2 : (idxs parts.toList).length = len := by rw [hidx]; simp
          simp [idxs, opers] at *; omega
        obtain ⟨r1, r2⟩ := flat_cells hrp
        have hml : ps.length ≤ maxLen := by
          have := Nat.le_mul_of_pos_right len h0
          simp only [maxLen]; omega
        obtain ⟨cv', g1, g2⟩ := hpubs.1.newRow (i := i) (e := e) (pubs_free _ _ _ (isFree_free hfr)) hsz h0 hpc r1 r2 hml
        refine ⟨.slice (some ⟨w.heap.size, 0, none⟩) len len, w.alloc (.cells ⟨((opers parts.toList).map a.eval).flatMap fun v => v.cells.toList⟩ e), cv', ?_, g1, ?_, fun j hj => ?_⟩
        · unfold szOf at hsz
          cases hi : P.info? e with
          | none => simp [hi] at hsz
          | some inf =>
            simp only [hi, Option.map_some, Option.some.injEq] at hsz
            subst hsz
            by_cases hl0 : len = 0
            · subst hl0
              have hp0 : parts.toList = [] := by
                have : (idxs parts.toList) = [] := by rw [hidx]; rfl
                simpa [idxs] using this
              have hp1 : parts = #[] := by cases parts; simpa using hp0
              subst hp1
              simp [Instr.buildSlice, run_underlying hu, sizeOf, typeInfo, hi, Go.newRow, opers, Instr.fill, Array.range_zero']
            · have hz : ∃ z, inf.zero = some z := by
                unfold zeroOf at hzs
                simp only [hi] at hzs
                cases hz : inf.zero with
                | none => simp [hz] at hzs
                | some z => exact ⟨z, rfl⟩
              obtain ⟨z, hz⟩ := hz
              refine run_buildSlice w t e len _ _ inf z hu hi hz (by omega) (Nat.mul_ne_zero hl0 (by omega)) ?_
              have e1 : (parts.map fun (x : Nat × Operand) => (x.1, a.eval x.2)).toList = (idxs parts.toList).zip ((opers parts.toList).map a.eval) := by
                simp only [Array.toList_map, idxs, opers]
                generalize parts.toList = l
                induction l with
                | nil => rfl
                | cons x l ih => simp [ih]
              have e2 : ((opers parts.toList).map a.eval).length = len := by rw [hrp.1, hlen]
              have e3 : (idxs parts.toList).zip ((opers parts.toList).map a.eval) = (((opers parts.toList).map a.eval).zipIdx 0).map fun x => (x.2, x.1) := by
                rw [← zip_range, e2, hidx, List.range_eq_range']
              rw [e1, e3]
              refine Great.fill_whole h0 _ _ (fun v hv => ?_) (by rw [e2]; simp)
              obtain ⟨j, hj⟩ := List.mem_iff_getElem?.1 hv
              have hjl : j < ps.length := by rw [← hrp.1]; exact (List.getElem?_eq_some_iff.1 hj).1
              have := (hrp.2 j _ v (List.getElem?_eq_getElem hjl) hj).cells.1.1
              rw [← Array.length_toList, this]
              exact hpc _ (List.getElem_mem hjl)
        · show _ = cv' i
          rw [g2, hlen]
        · have e : i = j := hj
          subst e
          simp [St.setOb]
      · cases hst
    · cases hst
  · cases hst

end
end Go.Proofs.YtjbfcmaiejlnbaaVm
set_option linter.unusedVariables false
set_option linter.unusedSimpArgs false
namespace Go.Proofs.YtjbfcmaiejlnbaaVm
open Go Classical

section
variable {P : Program} {C : Ctx} {σ : St} {a : Act} {w : World} {cv : Nat → Value}

def St.drop (σ : St) : Option Nat → St
  | some j => σ.setOb j .gone
  | none => σ

/-- A row that grows: in its place, or in a new block. -/
theorem Rel.grow (h : Rel P C σ a w cv) {i : Nat} (hfree : σ.ob i = .free) (src : Option Nat) (hsrc : ∀ j, src = some j → (σ.ob j).live = true)
    {w' : World} {row : Option Nat} (hg : w.grownBy w' row) (hrow : ∀ b, row = some b → ∃ j, src = some j ∧ blkOf (cv j) = some b)
    {e : TypeId} {ys : List PV} {v' : Value} (hown : ∀ F' : Nat → Prop, (∀ b, FS C σ.ob cv w b → F' b) → (∀ b, (w.heap.size ≤ b ∨ some b = row) → b < w'.heap.size → blkOf v' ≠ some b → F' b) → Same (FS C σ.ob cv w) w w' → OwnRow P w' F' v' e ys)
    (hv' : ∀ b, blkOf v' = some b → (some b = row ∨ w.heap.size ≤ b) ∧ b < w'.heap.size) :
    ∃ cv', Rel P C ((σ.drop src).setOb i (.row e ys)) a w' cv' ∧ cv' i = v' := by
  have hi : ∀ j, src = some j → j ≠ i := fun j hj e => by have := hsrc j hj; rw [e, hfree] at this; cases this
  have hob : ∀ k, k ≠ i → ((σ.drop src).setOb i (.row e ys)).ob k = if src = some k then .gone else σ.ob k := by
    intro k hk
    simp only [St.setOb, if_neg hk]
    cases src with
    | none => simp [St.drop]
    | some j => simp only [St.drop, St.setOb, Option.some.injEq]; by_cases e : k = j <;> simp [e, eq_comm]
  have hobi : ((σ.drop src).setOb i (.row e ys)).ob i = .row e ys := by simp [St.setOb]
  have hliv : ∀ k b, Live ((σ.drop src).setOb i (.row e ys)).ob (fun j => if j = i then v' else cv j) k b → (k = i ∧ blkOf v' = some b) ∨ (k ≠ i ∧ src ≠ some k ∧ Live σ.ob cv k b) := by
    intro k b ⟨h1, h2⟩
    by_cases ek : k = i
    · subst ek; simp only [if_true] at h2; exact .inl ⟨rfl, h2⟩
    · rw [hob k ek] at h1
      simp only [if_neg ek] at h2
      by_cases es : src = some k
      · rw [if_pos es] at h1; cases h1
      · rw [if_neg es] at h1; exact .inr ⟨ek, es, h1, h2⟩
  have hrl : ∀ b, some b = row → ∃ j, src = some j ∧ Live σ.ob cv j b := fun b hb => by
    obtain ⟨j, h1, h2⟩ := hrow b hb.symm
    exact ⟨j, h1, hsrc j h1, h2⟩
  have hsame : ∀ k, k < w.heap.size → some k ≠ row → w'.heap[k]? = w.heap[k]? := hg.block
  have hS : Same (FS C σ.ob cv w) w w' := fun b hb => hsame b (h.fs_lt hb) (fun e => by obtain ⟨j, _, hl⟩ := hrl b e; exact h.fs_live hb hl)
  have hst : ({ σ with ob := ((σ.drop src).setOb i (.row e ys)).ob } : St) = (σ.drop src).setOb i (.row e ys) := by cases src <;> rfl
  refine ⟨fun j => if j = i then v' else cv j, ?_, by simp⟩
  rw [← hst]
  refine h.upd hg.os hg.tape hg.output hg.size ?_ ?_ ?_ hS ?_ ?_ ?_ ?_ ?_
  · intro k hk hO
    refine hsame k (by have := h.size; omega) (fun e => ?_)
    obtain ⟨j, _, hl⟩ := hrl k e
    rcases (h.live j k hl).1 with h1 | h1
    · omega
    · exact hO h1
  · intro k b hk
    rcases hliv k b hk with ⟨rfl, hb⟩ | ⟨_, _, hl⟩
    · obtain ⟨h1, h2⟩ := hv' b hb
      refine ⟨?_, h2⟩
      rcases h1 with h1 | h1
      · obtain ⟨j, _, hl⟩ := hrl b h1; exact (h.live j b hl).1
      · exact .inl (Nat.le_trans h.size h1)
    · have := h.live k b hl; exact ⟨this.1, Nat.lt_of_lt_of_le this.2 hg.size⟩
  · intro k l b hk hl
    rcases hliv k b hk with ⟨rfl, hb⟩ | ⟨ek, es, hk'⟩ <;> rcases hliv l b hl with ⟨rfl, hb'⟩ | ⟨el, es', hl'⟩
    · rfl
    · exfalso
      rcases (hv' b hb).1 with h1 | h1
      · obtain ⟨j, hj, hlj⟩ := hrl b h1
        have := h.inj j l b hlj hl'
        subst this; exact es' hj
      · have := (h.live l b hl').2; omega
    · exfalso
      rcases (hv' b hb').1 with h1 | h1
      · obtain ⟨j, hj, hlj⟩ := hrl b h1
        have := h.inj j k b hlj hk'
        subst this; exact es hj
      · have := (h.live k b hk').2; omega
    · exact h.inj k l b hk' hl'
  · intro k b hb hk
    rcases hliv k b hk with ⟨rfl, hb'⟩ | ⟨_, _, hl⟩
    · rcases (hv' b hb').1 with h1 | h1
      · obtain ⟨j, _, hlj⟩ := hrl b h1; exact h.fs_live hb hlj
      · have := h.fs_lt hb; omega
    · exact h.fs_live hb hl
  · intro hF k
    by_cases ek : k = i
    · subst ek
      rw [hobi]
      show OwnRow P w' _ (if k = k then v' else cv k) e ys
      rw [if_pos rfl]
      refine hown _ hF (fun b hb hlt hne => .inr ⟨?_, hlt, fun m hm => ?_⟩) hS
      · rcases hb with hb | hb
        · exact .inl (Nat.le_trans h.size hb)
        · obtain ⟨j, _, hl⟩ := hrl b hb; exact (h.live j b hl).1
      · rcases hliv m b hm with ⟨_, hb'⟩ | ⟨_, es, hl⟩
        · exact hne hb'
        · rcases hb with hb | hb
          · have := (h.live m b hl).2; omega
          · obtain ⟨j, hj, hlj⟩ := hrl b hb
            have := h.inj j m b hlj hl
            subst this; exact es hj
    · rw [hob k ek]
      split
      · trivial
      · rename_i es
        refine (h.obs k).mono hS hF (by simp [ek]) (fun m hm => ?_) (fun hlk b hkb => hsame b (h.live k b ⟨hlk, hkb⟩).2 (fun e => ?_))
        · have := h.mento k m hm
          have : m ≠ i := fun e => this (e ▸ hfree)
          simp [this]
        · obtain ⟨j, hj, hlj⟩ := hrl b e
          have := h.inj j k b hlj ⟨hlk, hkb⟩
          subst this; exact es hj
  · intro k hk
    have : k ≠ i := fun e => hk (e ▸ hfree)
    simp [this]
  · intro k hk
    by_cases ek : k = i
    · rw [ek]; exact hfree
    · rw [hob k ek] at hk
      split at hk
      · cases hk
      · exact hk
  · intro k m hm
    by_cases em : m = i
    · rw [em, hobi]; intro e; cases e
    · rw [hob m em]
      by_cases ek : k = i
      · subst ek; rw [hobi] at hm; exact hm.elim
      · rw [hob k ek] at hm
        split at hm
        · exact hm.elim
        · split
          · intro e; cases e
          · exact h.mento k m hm

/-- How a row is read. -/
theorem Rel.rowRead (h : Rel P C σ a w cv) {x : AV} {ys : List PV} {u : Value} (hp : σ.pv x = some (.row ys)) (hv : SRep w (FS C σ.ob cv w) cv x u) :
    (u = .slice none 0 0 ∧ ys = []) ∨ ∃ ad c sz cells, u = .slice (some ad) ys.length c ∧ ys.length ≤ c ∧ (∀ y ∈ ys, y.cells.length = sz) ∧
      (∀ (j : Nat) (v : Value), cells[j]? = some v → w.cell? (ad.add j) = some v) ∧ Reps w (FS C σ.ob cv w) (flat ys) cells ∧ ∀ c ∈ flat ys, c.isAgg = false := by
  have rep : ∀ {v : Value}, Rep w (FS C σ.ob cv w) (.row ys) v → (v = .slice none 0 0 ∧ ys = []) ∨ ∃ ad c sz cells, v = .slice (some ad) ys.length c ∧ ys.length ≤ c ∧ (∀ y ∈ ys, y.cells.length = sz) ∧
      (∀ (j : Nat) (v : Value), cells[j]? = some v → w.cell? (ad.add j) = some v) ∧ Reps w (FS C σ.ob cv w) (flat ys) cells ∧ ∀ c ∈ flat ys, c.isAgg = false := by
    intro v hr
    cases hr with
    | rowNil => exact .inl ⟨rfl, rfl⟩
    | row _ ad c sz cells hc hsz hF hl hcell ha hh => exact .inr ⟨ad, c, sz, cells, rfl, hc, hsz, hcell, ⟨hl, hh⟩, ha⟩
  cases x with
  | any => cases hp
  | val p => simp [St.pv] at hp; subst hp; exact rep hv
  | nils => simp [St.pv] at hp; subst hp; exact .inl ⟨hv, rfl⟩
  | ref i =>
    have e : u = cv i := hv
    subst e
    have ho := h.obs i
    simp only [St.pv] at hp
    split at hp
    · rename_i e xs he
      cases hp
      rw [he] at ho
      obtain ⟨sz, cells, h1, h2, h3, h4, h5, h6⟩ := ho
      rcases h4.2 with ⟨e, hn⟩ | ⟨g, cap, cur, e, hb0, hg, hnc, hcm, hcs, ht⟩
      · exact .inl ⟨e, List.eq_nil_of_length_eq_zero hn⟩
      · exact .inr ⟨⟨g, 0, none⟩, cap, sz, cells, e, hnc, h3, h4.cells (by rw [e]; rfl), h5, h6⟩
    · rename_i xs he
      cases hp
      rw [he] at ho
      exact rep ho
    · cases hp
  | vw _ _ _ _ => simp [St.pv] at hp
  | agr _ _ _ => simp [St.pv] at hp
  | adr i o =>
    exfalso
    simp only [St.pv] at hp
    split at hp
    · split at hp <;> cases hp
    · split at hp
      · split at hp <;> cases hp
      · cases hp
    · cases hp
  | ead i sz k o => cases hp
  | tup ps => cases hp

/-! ### append -/
/-- Where an appended row comes to lie. -/
theorem append_block {t ty e : TypeId} {i : TypeInfo} {z : Value} {size bytes : Nat} (ht : P.underlying t = some (.slice e)) (hi : P.info? e = some i) (hz : i.zero = some z)
    (hsize : i.size = size) (hby : i.bytes = bytes) (hsz : 0 < size) {v : Value} {n : Nat} {xs : List Value} (hown : w.ownsRow 0 e size v n xs)
    {ad : Addr} {m c : Nat} {news : List Value} (hl : news.length = m * size) (hnews : ∀ j u, news[j]? = some u → w.cell? (ad.add j) = some u) (h1 : ∀ u ∈ news, u.oneCell' = true)
    (h63 : n + m ≤ 4611686018427387904) (hbytes : (n + m) * bytes ≤ 140737488355328) {v' : Value} {w' : World}
    (hr : (Builtin.append_ #[t, t] ty #[v, .slice (some ad) m c]).run P w = .ok v' w') : ∀ b, blkOf v' = some b → some b = v.ownBlock ∨ w.heap.size ≤ b := by
  subst hsize hby
  intro b hb
  rcases hown.2 with ⟨rfl, rfl⟩ | ⟨g, cap, cur, rfl, hbg, hg, hnc, hcm, hcs, htake⟩
  · by_cases hm : m = 0
    · subst hm
      have hn : news = [] := List.eq_nil_of_length_eq_zero (by simpa using hl)
      subst hn
      have h0 : (Builtin.append_ #[t, t] ty #[.slice none 0 0, .slice (some ad) 0 c]).run P w = .ok (.slice none 0 0) w := by
        simp [Builtin.append_, run_underlying ht, sizeOf, typeInfo, hi, Builtin.lenOf, Builtin.firstCells, loadCells, loadCellsFrom]
      rw [h0] at hr
      cases hr
      cases hb
    · have h0 := run_append_nil (P := P) w t ty e i z ht hi hz ad m c news hl hnews (by omega) (by omega) (by rw [Nat.zero_add] at hbytes; omega)
      rw [h0] at hr
      cases hr
      cases hb
      exact .inr (Nat.le_refl _)
  · by_cases hroom : n + m ≤ cap
    · have hfit : n * i.size + news.length ≤ cur.size := by rw [hl, hcs, ← Nat.add_mul]; exact Nat.mul_le_mul_right _ hroom
      have h0 := run_append_room (P := P) w t ty e i ht hi g n cap cur hg ad m c news hl hnews h1 hroom hfit
      rw [h0] at hr
      cases hr
      cases hb
      exact .inl rfl
    · have holds : ∀ j u, xs[j]? = some u → w.cell? ((⟨g, 0, none⟩ : Addr).add j) = some u := hown.cells (g := g) rfl
      have h0 := run_append_grow (P := P) w t ty e i z ht hi hz ⟨g, 0, none⟩ n cap xs hown.1 holds ad m c news hl hnews (by omega) (by omega) (growslice_fits (by omega) hbytes)
      rw [h0] at hr
      cases hr
      cases hb
      exact .inr (Nat.le_refl _)

def stAppend (P : Program) (σ : St) (i : Nat) (t t2 : TypeId) (s x : AV) : Option (St × AV) :=
  match elOf P t with
  | some e => match szOf P e, byOf P e, σ.pv x with
    | some sz, some nb, some (.row ys) =>
      if t2 = t ∧ 0 < sz ∧ (∀ y ∈ ys, y.cells.length = sz) ∧ (zeroOf P e).map List.length = some sz ∧ σ.isFree i = true then
        match s with
        | .nils => if ys.length * nb ≤ 140737488355328 ∧ ys.length ≤ 4611686018427387904 then some (σ.setOb i (.row e ys), .ref i) else none
        | .ref j => match σ.ob j with
          | .row e' xs => if e' = e ∧ (xs.length + ys.length) * nb ≤ 140737488355328 ∧ xs.length + ys.length ≤ 4611686018427387904 then some ((σ.setOb j .gone).setOb i (.row e (xs ++ ys)), .ref i) else none
          | _ => none
        | _ => none
      else none
    | _, _, _ => none
  | none => none

theorem elOf_under {t e : TypeId} (he : elOf P t = some e) : P.underlying t = some (.slice e) := by
  unfold elOf at he; split at he <;> first | (rename_i hu; cases he; exact hu) | cases he

theorem Rel.appendOp (h : Rel P C σ a w cv) {i : Nat} {t t2 ty : TypeId} {s x : AV} {us ux : Value} (hs : SRep w (FS C σ.ob cv w) cv s us) (hx : SRep w (FS C σ.ob cv w) cv x ux)
    {σ' : St} {r : AV} (hst : stAppend P σ i t t2 s x = some (σ', r)) : RunOK P C a (Builtin.append_ #[t, t2] ty #[us, ux]) w σ' r := by
  unfold stAppend at hst
  split at hst
  · rename_i e he
    have hu := elOf_under he
    split at hst
    · rename_i sz nb ys hsz hnb hpx
      split at hst
      · rename_i hc
        obtain ⟨rfl, h0, hyc, hzs, hfr⟩ := hc
        have hfree := isFree_free hfr
        -- the element's own row of the table
        obtain ⟨inf, hi, hisz, hiby, z, hz, hzsz⟩ : ∃ inf, P.info? e = some inf ∧ inf.size = sz ∧ inf.bytes = nb ∧ ∃ z, inf.zero = some z ∧ z.cells.size = sz := by
          unfold szOf at hsz; unfold byOf at hnb; unfold zeroOf at hzs
          cases hi : P.info? e with
          | none => simp [hi] at hsz
          | some inf =>
            simp only [hi, Option.map_some, Option.some.injEq] at hsz hnb hzs
            cases hz : inf.zero with
            | none => simp [hz] at hzs
            | some z => exact ⟨inf, rfl, hsz, hnb, z, hz, by simpa [hz] using hzs⟩
        have hread := h.rowRead hpx hx
        -- the law, for a row of the call's own
        have main : ∀ (xs : List PV) (src : Option Nat), (∀ j, src = some j → (σ.ob j).live = true ∧ us = cv j) → (src = none → us = .slice none 0 0) → OwnRow P w (FS C σ.ob cv w) us e xs →
            (xs.length + ys.length) * nb ≤ 140737488355328 → xs.length + ys.length ≤ 4611686018427387904 →
            RunOK P C a (Builtin.append_ #[t2, t2] ty #[us, ux]) w ((σ.drop src).setOb i (.row e (xs ++ ys))) (.ref i) := by
          intro xs src hsrc hnil hown hbytes h63
          obtain ⟨sz', cells, g1, g2, g3, g4, g5, g6⟩ := hown
          obtain rfl : sz' = sz := Option.some.inj (g1.symm.trans hsz)
          have hlen : xs.length + ys.length ≤ maxLen := by simp only [maxLen]; omega
          have fin : ∀ (v' : Value) (w' : World) (news : List Value), (Builtin.append_ #[t2, t2] ty #[us, ux]).run P w = .ok v' w' → w'.ownsRow 0 e sz' v' (xs.length + ys.length) (cells ++ news) → w.grownBy w' us.ownBlock →
              Reps w (FS C σ.ob cv w) (flat ys) news → (∀ c ∈ flat ys, c.isAgg = false) → (∀ b, blkOf v' = some b → (some b = us.ownBlock ∨ w.heap.size ≤ b)) →
              RunOK P C a (Builtin.append_ #[t2, t2] ty #[us, ux]) w ((σ.drop src).setOb i (.row e (xs ++ ys))) (.ref i) := by
            intro v' w' news hrun hown' hgr hrn hna hblk
            obtain ⟨cv', k1, k2⟩ := h.grow hfree src (fun j hj => (hsrc j hj).1) hgr (fun b hb => by
              cases src with
              | none => rw [hnil rfl] at hb; simp [Value.ownBlock] at hb
              | some j => exact ⟨j, rfl, by rw [← (hsrc j rfl).2]; exact blkOf_ownBlock hb⟩) (e := e) (ys := xs ++ ys) (v' := v') (fun F' hF _ hS => by
              refine ⟨sz', _, hsz, h0, fun y hy => ?_, by rw [List.length_append]; exact hown', ?_, fun c hc => ?_⟩
              · rcases List.mem_append.1 hy with hy | hy
                · exact g3 y hy
                · exact hyc y hy
              · rw [flat_append]; exact (g5.append hrn).mono hS hF
              · rw [flat_append] at hc
                rcases List.mem_append.1 hc with hc | hc
                · exact g6 c hc
                · exact hna c hc) (fun b hb => ⟨hblk b hb, by
              rcases hown'.2 with ⟨e1, _⟩ | ⟨g, cap, cur, e1, _, hg, _⟩
              · rw [e1] at hb; cases hb
              · rw [e1] at hb; cases hb; exact (Array.getElem?_eq_some_iff.1 hg).1⟩)
            exact ⟨v', w', cv', hrun, k1, k2.symm, fun j hj => by have e1 : i = j := hj; subst e1; simp [St.setOb]⟩
          rcases hread with ⟨rfl, rfl⟩ | ⟨ad, c, sz2, news, rfl, hcap, hy2, hcell, hrn, hna⟩
          · have hrun := run_append_owned_none (P := P) w 0 t2 ty e inf sz' hu hi us xs.length cells g4
            refine fin us w [] hrun (by simpa using g4) ⟨rfl, rfl, rfl, Nat.le_refl _, fun _ _ _ => rfl⟩ (Reps.nil _ _) (by simp [flat]) (fun b hb => .inl ?_)
            rcases g4.2 with ⟨e1, _⟩ | ⟨g, cap, cur, e1, _⟩
            · rw [e1] at hb; cases hb
            · rw [e1] at hb ⊢; cases hb; rfl
          · have hnl : news.length = ys.length * sz' := by rw [hrn.1, flat_length hyc]
            have hone : ∀ v ∈ news, v.oneCell' = true := fun v hv => by
              obtain ⟨j, hj⟩ := List.mem_iff_getElem?.1 hv
              have hjl : j < (flat ys).length := by rw [← hrn.1]; exact (List.getElem?_eq_some_iff.1 hj).1
              exact (hrn.2 j _ v (List.getElem?_eq_getElem hjl) hj).oneCell (hna _ (List.getElem_mem hjl))
            obtain ⟨v', w', k1, k2, k3, _⟩ := run_append_own (P := P) w 0 t2 ty e inf z sz' nb hu hi hz hisz hiby hzsz h0 us xs.length cells g4 ad ys.length c news hnl hcell hone hlen hbytes (Nat.zero_le _)
            exact fin v' w' news k1 k2 k3 hrn hna (append_block hu hi hz hisz hiby h0 g4 hnl hcell hone h63 hbytes k1)
        split at hst
        · split at hst
          · rename_i hcc
            obtain ⟨rfl, rfl⟩ := Prod.mk.inj (Option.some.inj hst)
            have e : us = .slice none 0 0 := hs
            subst e
            have := main [] none (fun j hj => by cases hj) (fun _ => rfl) ⟨sz, [], hsz, h0, by simp, World.ownsRow_nil w 0 e sz, Reps.nil _ _, by simp [flat]⟩ (by simpa using hcc.1) (by simpa using hcc.2)
            simpa [St.drop] using this
          · cases hst
        · rename_i j
          split at hst
          · rename_i e' xs hoj
            split at hst
            · rename_i hcc
              obtain ⟨rfl, hb1, hb2⟩ := hcc
              obtain ⟨rfl, rfl⟩ := Prod.mk.inj (Option.some.inj hst)
              have e : us = cv j := hs
              subst e
              have ho := h.obs j
              rw [hoj] at ho
              exact main xs (some j) (fun k hk => by cases hk; exact ⟨by rw [hoj]; rfl, rfl⟩) (fun hk => by cases hk) ho hb1 hb2
            · cases hst
          · cases hst
        · cases hst
      · cases hst
    · cases hst
  · cases hst

end
end Go.Proofs.YtjbfcmaiejlnbaaVm
set_option linter.unusedVariables false
set_option linter.unusedSimpArgs false
namespace Go.Proofs.YtjbfcmaiejlnbaaVm
open Go Classical

section
variable {P : Program} {C : Ctx} {σ : St} {a : Act} {w : World} {cv : Nat → Value}

theorem RunOK.same (h : Rel P C σ a w cv) {s : Sem Value} {u : Value} {r : AV} (hr : s.run P w = .ok u w) (hs : SRep w (FS C σ.ob cv w) cv r u) (hm : ∀ i, r.ment i → σ.ob i ≠ .free) : RunOK P C a s w σ r :=
  ⟨u, w, cv, hr, h, hs, hm⟩

/-! ### make: of one-cell elements -/
def stMake (P : Program) (σ : St) (i : Nat) (t : TypeId) (l c : AV) : Option (St × AV) :=
  match elOf P t, l, c with
  | some e, .val (.int _ n), .val (.int _ m) => match szOf P e, byOf P e, zeroOf P e with
    | some sz, some nb, some [z] => match z.pure? with
      | some p => if sz = 1 ∧ m = n ∧ 0 ≤ n ∧ nb * n.toNat ≤ 281474976710656 ∧ n ≤ 4611686018427387904 ∧ z.cell = true ∧ σ.isFree i = true then some (σ.setOb i (.row e (List.replicate n.toNat p)), .ref i) else none
      | none => none
    | _, _, _ => none
  | _, _, _ => none

theorem flat_replicate {p : PV} (hp : p.isAgg = false) (n : Nat) : flat (List.replicate n p) = List.replicate n p := by
  have e : p.cells = [p] := by cases p <;> first | rfl | (simp [PV.isAgg] at hp)
  induction n with
  | zero => rfl
  | succ n ih => simp only [List.replicate_succ, flat, List.flatMap_cons, e] at *; rw [ih]; rfl

theorem Rel.makeOp (h : Rel P C σ a w cv) {i : Nat} {t : TypeId} {l c : AV} {ul uc : Value} (hl : SRep w (FS C σ.ob cv w) cv l ul) (hc : SRep w (FS C σ.ob cv w) cv c uc)
    {σ' : St} {r : AV} (hst : stMake P σ i t l c = some (σ', r)) : RunOK P C a (Instr.makeSlice t ul uc) w σ' r := by
  unfold stMake at hst
  split at hst
  · rename_i e kl n kc m he
    have hu := elOf_under he
    cases hl; cases hc
    split at hst
    · rename_i sz nb z hsz hnb hz
      split at hst
      · rename_i p hp
        split at hst
        · rename_i hcc
          obtain ⟨rfl, rfl, h0, hb, hbig, hzc, hfr⟩ := hcc
          obtain ⟨rfl, rfl⟩ := Prod.mk.inj (Option.some.inj hst)
          obtain ⟨k, rfl⟩ := Int.eq_ofNat_of_zero_le h0
          simp only [Int.toNat_natCast] at *
          have hsz1 := hsz
          unfold szOf at hsz; unfold byOf at hnb; unfold zeroOf at hz
          cases hi : P.info? e with
          | none => simp [hi] at hsz
          | some inf =>
            simp only [hi, Option.map_some, Option.some.injEq] at hsz hnb hz
            cases hzz : inf.zero with
            | none => simp [hzz] at hz
            | some zv =>
              simp only [hzz, Option.some.injEq] at hz
              obtain ⟨v, hv⟩ : ∃ v, zv.cells = #[v] := by
                have : zv.cells.toList.length = 1 := by have := congrArg List.length hz; simpa using this
                match hq : zv.cells, this with
                | ⟨[v]⟩, _ => exact ⟨v, rfl⟩
              rw [hv] at hz
              simp at hz
              subst hz
              have hpa : p.isAgg = false := by
                have := purs_noagg (cs := [cAV v]) (ps := [p]) (by simp [purs, hp]) (fun c hc => by rw [List.mem_singleton.1 hc]; exact hzc) p (List.mem_singleton.2 rfl)
                exact this
              have hrv : Rep w (FS C σ.ob cv w) p v := by
                have := purs_reps (w := w) (F := FS C σ.ob cv w) (cv := cv) (cs := [cAV v]) (ps := [p]) (vs := [v]) (by simp [purs, hp]) rfl (fun j c x hc hx => by
                  cases j with
                  | zero => simp at hc hx; subst hc; subst hx; exact cAV_rep _ _ _ v
                  | succ j => simp at hc)
                exact this.2 0 p v rfl rfl
              have hbk : (inf.bytes : Int) * (k : Int) ≤ 281474976710656 := by
                have : ((inf.bytes * k : Nat) : Int) ≤ 281474976710656 := by rw [hnb]; omega
                rwa [Int.natCast_mul] at this
              have hrun := run_make (P := P) w t e inf zv hu hi hzz kl kc k k (by omega) (Int.le_refl _) hbk (by omega)
              rw [hv, Int.toNat_natCast, hsz, Nat.mul_one] at hrun
              have hl1 : (madeCells #[v] k).toList = List.replicate k v := toList_madeCells_one v k
              have hfl := flat_replicate hpa k
              obtain ⟨cv', k1, k2⟩ := h.newRow (isFree_free hfr) (e := e) (xs := List.replicate k p) (vs := List.replicate k v) hsz1 (by omega) (fun x hx => by
                rw [List.eq_of_mem_replicate hx]; cases p <;> first | rfl | (simp [PV.isAgg] at hpa)) (by
                rw [hfl]
                refine ⟨by simp, fun j q x hq hx => ?_⟩
                have e1 := List.eq_of_mem_replicate (List.mem_of_getElem? hq)
                have e2 := List.eq_of_mem_replicate (List.mem_of_getElem? hx)
                rw [e1, e2]; exact hrv) (fun c hc => by rw [hfl] at hc; rw [List.eq_of_mem_replicate hc]; exact hpa) (by simp [maxLen]; omega)
              refine ⟨_, _, cv', hrun, ?_, ?_, fun j hj => by have e1 : i = j := hj; subst e1; simp [St.setOb]⟩
              · rw [show (madeCells #[v] k) = ⟨List.replicate k v⟩ from Array.ext' hl1]; exact k1
              · show _ = cv' i; rw [k2]; simp
        · cases hst
      · cases hst
    · cases hst
  · cases hst

/-! ### addresses -/
def stField (P : Program) (t : TypeId) (f : Nat) (v : AV) : Option AV :=
    match fldOf P t f with
    | some (o, ft) => match szOf P ft, aggOf P ft with
      | some n, some ag => if 0 < n then match v with
        | .val (.ptr x) => match partPV ag n x.cells o with
          | some y => some (.val (.ptr y))
          | none => none
        | .adr i k => some (.adr i (k + o))
        | .ead i sz j k => some (.ead i sz j (k + o))
        | _ => none else none
      | _, _ => none
    | none => none

theorem fldOf_run {t : TypeId} {f o : Nat} {ft : TypeId} (h : fldOf P t f = some (o, ft)) {n : Nat} (hn : szOf P ft = some n) (h0 : 0 < n) {ad : Addr} :
    (Instr.fieldAt t (.pointer (some ad)) f).run P w = .ok (.pointer (some (ad.add o))) w := by
  unfold fldOf at h
  split at h
  · rename_i fs hu
    split at h
    · rename_i x hx
      simp only [Option.some.injEq, Prod.mk.injEq] at h
      obtain ⟨rfl, rfl⟩ := h
      have : n ≠ 0 := by omega
      simp [Instr.fieldAt, run_underlying hu, hx, Instr.sureAddr, fieldPlace, run_sizeOf hn, this]
    · cases h
  · cases h

theorem Rel.fieldOp (h : Rel P C σ a w cv) {t : TypeId} {f : Nat} {v : AV} {u : Value} (hv : SRep w (FS C σ.ob cv w) cv v u) (hm : ∀ i, v.ment i → σ.ob i ≠ .free) {r : AV} (hst : stField P t f v = some r) :
    RunOK P C a (Instr.fieldAt t u f) w σ r := by
  unfold stField at hst
  split at hst
  · rename_i o ft hf
    split at hst
    · rename_i n ag hn hag
      split at hst
      · rename_i h0
        split at hst
        · rename_i x
          split at hst
          · rename_i y hy
            cases hst
            cases hv with
            | ptr _ ad cvs hF hl hcell ha hh =>
              have hr : Reps w (FS C σ.ob cv w) x.cells cvs := ⟨hl, hh⟩
              refine RunOK.same h (fldOf_run hf hn h0) ?_ (fun i hi => hi.elim)
              unfold partPV at hy
              split at hy
              · split at hy
                · rename_i hle
                  cases hy
                  have hs := hr.drop_take o n
                  refine Rep.ptr _ (ad.add o) ((cvs.drop o).take n) (by rw [add_block]; exact hF.imp (fun e => by show (x.cells.drop o).take n = []; rw [e]; simp) id) hs.1 (cells_add hcell o n) (noagg_sub ha o n) hs.2
                · cases hy
              · obtain ⟨z, hz, hrz⟩ := hr.get hy
                have hya := ha y (List.mem_of_getElem? hy)
                have e : y.cells = [y] := by cases y <;> first | rfl | (simp [PV.isAgg] at hya)
                have hd : (cvs.drop o).take 1 = [z] := by
                  have hlt := (List.getElem?_eq_some_iff.1 hz)
                  obtain ⟨hlt, rfl⟩ := hlt
                  rw [List.drop_eq_getElem_cons hlt]; rfl
                have hc := cells_add hcell o 1
                rw [hd] at hc
                refine Rep.ptr y (ad.add o) [z] (by rw [add_block]; exact .inr (hF.resolve_left (fun e => by rw [e] at hy; simp at hy))) (by rw [e]; rfl) hc (by rw [e]; simpa using hya) (fun i p q hp hq => ?_)
                rw [e] at hp
                cases i with
                | zero => simp at hp hq; subst hp; subst hq; exact hrz
                | succ i => simp at hp
          · cases hst
        · cases hst
          rename_i i k
          obtain ⟨b, hb, rfl⟩ := hv
          refine RunOK.same h (fldOf_run hf hn h0) ⟨b, hb, by rw [Addr_add_lit]⟩ (fun i hi => hm i hi)
        · cases hst
          rename_i i sz j k
          obtain ⟨b, m, c, hb, rfl⟩ := hv
          refine RunOK.same h (fldOf_run hf hn h0) ⟨b, m, c, hb, by rw [Addr_add_lit, Nat.add_assoc]⟩ (fun i hi => hm i hi)
        · cases hst
      · cases hst
    · cases hst
  · cases hst

def stIdx (P : Program) (σ : St) (t : TypeId) (v i : AV) : Option AV :=
  match i with
  | .val (.int _ n) => if 0 ≤ n then match elOf P t with
    | some e => match szOf P e, v with
      | some sz, .ref j => match σ.ob j with
        | .row _ xs => match xs[n.toNat]? with
          | some x => if x.cells.length = sz then some (.ead j sz n.toNat 0) else none
          | none => none
        | .prow xs => match xs[n.toNat]? with
          | some x => if x.cells.length = sz then some (.val (.ptr x)) else none
          | none => none
        | _ => none
      | some sz, .val (.row xs) => match xs[n.toNat]? with
        | some x => if x.cells.length = sz then some (.val (.ptr x)) else none
        | none => none
      | _, _ => none
    | none => none else none
  | _ => none

theorem run_indexAt {t e : TypeId} (hu : P.underlying t = some (.slice e)) {sz : Nat} (hsz : szOf P e = some sz) {ad : Addr} {len c : Nat} {k : IntKind} {n : Int} (h0 : 0 ≤ n) (hn : n < len) :
    (Instr.indexAt t (.slice (some ad) len c) (.int k n)).run P w = .ok (.pointer (some (ad.add (n.toNat * sz)))) w := by
  simp [Instr.indexAt, asIntOf, run_underlying hu, run_sizeOf hsz, h0, hn]

theorem elemRep {F : Nat → Prop} {ad : Addr} {xs : List PV} (hF : flat xs = [] ∨ F ad.block) {cells : List Value} {sz : Nat} (hsz : ∀ x ∈ xs, x.cells.length = sz) (hr : Reps w F (flat xs) cells)
    (hcell : ∀ (j : Nat) (v : Value), cells[j]? = some v → w.cell? (ad.add j) = some v) (ha : ∀ c ∈ flat xs, c.isAgg = false) {i : Nat} {x : PV} (hx : xs[i]? = some x) :
    Rep w F (.ptr x) (.pointer (some (ad.add (i * sz)))) := by
  have hxf := flat_elem hsz hx
  have hs := hr.drop_take (i * sz) sz
  rw [hxf] at hs
  exact Rep.ptr x _ _ (by rw [add_block]; exact hF.imp (fun e => by rw [← hxf, e]; simp) id) hs.1 (cells_add hcell _ _) (fun c hc => ha c (by rw [← hxf] at hc; exact List.mem_of_mem_drop (List.mem_of_mem_take hc))) hs.2

theorem Rel.idxOp (h : Rel P C σ a w cv) {t : TypeId} {v i : AV} {u ui : Value} (hv : SRep w (FS C σ.ob cv w) cv v u) (hi : SRep w (FS C σ.ob cv w) cv i ui) (hm : ∀ j, v.ment j → σ.ob j ≠ .free)
    {r : AV} (hst : stIdx P σ t v i = some r) : RunOK P C a (Instr.indexAt t u ui) w σ r := by
  have rep : ∀ {xs : List PV} {v : Value} {n : Nat} {x : PV} {sz : Nat} {e : TypeId} {k : IntKind} {m : Int}, Rep w (FS C σ.ob cv w) (.row xs) v → xs[n]? = some x → x.cells.length = sz → elOf P t = some e → szOf P e = some sz → 0 ≤ m → m.toNat = n →
      RunOK P C a (Instr.indexAt t v (.int k m)) w σ (.val (.ptr x)) := by
    intro xs v n x sz e k m hr hx hxs he hsz h0 hmn
    cases hr with
    | rowNil => simp at hx
    | row _ ad c sz' cells hc hsz' hF hl hcell ha hh =>
      have hlt := (List.getElem?_eq_some_iff.1 hx).1
      obtain rfl : sz' = sz := by rw [← hsz' x (List.mem_of_getElem? hx)]; exact hxs
      have := elemRep hF hsz' ⟨hl, hh⟩ hcell ha hx
      refine RunOK.same h (run_indexAt (elOf_under he) hsz h0 (by omega)) (by rw [hmn]; exact this) (fun i hi => hi.elim)
  unfold stIdx at hst
  split at hst
  · rename_i k n
    cases hi
    split at hst
    · rename_i h0
      split at hst
      · rename_i e he
        split at hst
        · rename_i sz j hsz
          have e1 : u = cv j := hv
          subst e1
          have ho := h.obs j
          split at hst
          · rename_i e' xs hoj
            rw [hoj] at ho
            split at hst
            · rename_i x hx
              split at hst
              · rename_i hxs
                cases hst
                obtain ⟨sz', cells, g1, g2, g3, g4, g5, g6⟩ := ho
                have hlt := (List.getElem?_eq_some_iff.1 hx).1
                rcases g4.2 with ⟨_, hn⟩ | ⟨g, cap, cur, e1, hb0, hg, hnc, hcm, hcs, ht⟩
                · omega
                · refine RunOK.same h (u := .pointer (some ⟨g, n.toNat * sz + 0, none⟩)) ?_ ⟨g, _, _, e1, rfl⟩ (fun i hi => hm i hi)
                  rw [e1, run_indexAt (elOf_under he) hsz h0 (by omega), Addr_add_lit, Nat.zero_add, Nat.add_zero]
              · cases hst
            · cases hst
          · rename_i xs hoj
            rw [hoj] at ho
            split at hst
            · rename_i x hx
              split at hst
              · rename_i hxs
                cases hst
                exact rep ho hx hxs he hsz h0 rfl
              · cases hst
            · cases hst
          · cases hst
        · rename_i sz xs hsz
          split at hst
          · rename_i x hx
            split at hst
            · rename_i hxs
              cases hst
              exact rep hv hx hxs he hsz h0 rfl
            · cases hst
          · cases hst
        · cases hst
      · cases hst
    · cases hst
  · cases hst

/-! ### slicing -/
noncomputable def stSlice (P : Program) (σ : St) (t : TypeId) (x : AV) (lo hi : Option AV) : Option (St × AV) :=
  match x with
  | .val (.str s) => match lo, hi with
    | none, some (.val (.int _ n)) => if 0 ≤ n ∧ n ≤ s.length ∧ P.underlying t = some .string then some (σ, .val (.str (s.take n.toNat))) else none
    | some (.val (.int _ n)), none => if 0 ≤ n ∧ n ≤ s.length ∧ P.underlying t = some .string then some (σ, .val (.str (s.drop n.toNat))) else none
    | some (.val (.int _ m)), some (.val (.int _ n)) => if 0 ≤ m ∧ m ≤ n ∧ n ≤ s.length ∧ P.underlying t = some .string then some (σ, .val (.str ((s.take n.toNat).drop m.toNat))) else none
    | _, _ => none
  | _ => match σ.pv x, elOf P t with
    | some (.row xs), some e => match szOf P e, lo, hi with
      | some sz, none, some (.val (.int _ n)) => if 0 ≤ n ∧ n ≤ xs.length then some (σ.pub x, .val (.row (xs.take n.toNat))) else none
      | some sz, some (.val (.int _ m)), none => if 0 ≤ m ∧ m ≤ xs.length ∧ ∀ x ∈ xs, x.cells.length = sz then some (σ.pub x, .val (.row (xs.drop m.toNat))) else none
      | some sz, some (.val (.int _ m)), some (.val (.int _ n)) => if 0 ≤ m ∧ m ≤ n ∧ n ≤ xs.length ∧ ∀ x ∈ xs, x.cells.length = sz then some (σ.pub x, .val (.row ((xs.take n.toNat).drop m.toNat))) else none
      | _, _, _ => none
    | _, _ => none

theorem elem_of {t e : TypeId} (h : elOf P t = some e) : P.underlying t = some (.slice (P.elem t)) ∧ P.elem t = e := by
  have hu := elOf_under h
  have : P.elem t = e := by simp [Program.elem, hu]
  exact ⟨by rw [this]; exact hu, this⟩

/-- A cut of a row. -/
theorem cutRep {F : Nat → Prop} {xs : List PV} {u : Value} (hr : Rep w F (.row xs) u) {l n sz : Nat} (hln : l ≤ n) (hn : n ≤ xs.length) (hs : l = 0 ∨ ∀ x ∈ xs, x.cells.length = sz) :
    ∃ base len c, u = .slice base len c ∧ len = xs.length ∧ n ≤ c ∧ Rep w F (.row ((xs.take n).drop l)) (sliced base l n c sz) := by
  cases hr with
  | rowNil =>
    simp at hn
    subst hn
    obtain rfl : l = 0 := by omega
    exact ⟨none, 0, 0, rfl, rfl, Nat.le_refl _, by simpa [sliced] using Rep.rowNil⟩
  | row _ ad c sz' cells hc hsz' hF hl hcell ha hh =>
    refine ⟨some ad, _, c, rfl, rfl, by omega, ?_⟩
    have hlen : ((xs.take n).drop l).length = n - l := by rw [List.length_drop, List.length_take]; omega
    have hsub : ∀ x ∈ (xs.take n).drop l, x.cells.length = sz' := fun x hx => hsz' x (List.mem_of_mem_take (List.mem_of_mem_drop hx))
    have hlsz : l * sz = l * sz' := by
      rcases hs with rfl | hs
      · simp
      · cases xs with
        | nil => simp at hn; have : l = 0 := by omega
                 subst this; simp
        | cons x xs => rw [← hs x (List.mem_cons_self ..), ← hsz' x (List.mem_cons_self ..)]
    have hr : Reps w F (flat xs) cells := ⟨hl, hh⟩
    have hfl : flat ((xs.take n).drop l) = ((flat xs).drop (l * sz')).take ((n - l) * sz') := by
      have h1 : ∀ x ∈ xs.take n, x.cells.length = sz' := fun x hx => hsz' x (List.mem_of_mem_take hx)
      rw [flat_drop h1, flat_take hsz', List.drop_take, Nat.sub_mul]
    have key : ∀ ad' : Addr, (∀ (j : Nat) (v : Value), ((cells.drop (l * sz')).take ((n - l) * sz'))[j]? = some v → w.cell? (ad'.add j) = some v) → (flat xs = [] ∨ F ad'.block) → Rep w F (.row ((xs.take n).drop l)) (.slice (some ad') (n - l) (c - l)) := by
      intro ad' hc' hF'
      have hs := hr.drop_take (l * sz') ((n - l) * sz')
      have := Rep.row ((xs.take n).drop l) ad' (c - l) sz' _ (by rw [hlen]; omega) hsub (hF'.imp (fun e => by rw [hfl, e]; simp) id) (by rw [hfl]; exact hs.1) hc' (by rw [hfl]; exact noagg_sub ha _ _) (by rw [hfl]; exact hs.2)
      rwa [hlen] at this
    unfold sliced
    split
    · rename_i hcl
      refine key ad (fun j v hj => ?_) hF
      have : n - l = 0 := by omega
      rw [this] at hj; simp at hj
    · simp only [Option.map_some]
      rw [hlsz]
      exact key _ (cells_add hcell _ _) (by rw [add_block]; exact hF)

theorem run_slice_str {s : List UInt8} {t : TypeId} (hu : P.underlying t = some .string) (lo hi : Option Value) (l n : Nat) (hlo : (match lo with | some (.int _ m) => m = (l : Int) | none => l = 0 | _ => False))
    (hhi : (match hi with | some (.int _ m) => m = (n : Int) | none => n = s.length | _ => False)) (hln : l ≤ n) (hn : n ≤ s.length) :
    (Instr.sliceAt t (.string ⟨⟨s⟩⟩) lo hi none).run P w = .ok (.string ⟨⟨(s.take n).drop l⟩⟩) w := by
  have hsz : (⟨⟨s⟩⟩ : ByteArray).size = s.length := rfl
  have hext : (⟨⟨s⟩⟩ : ByteArray).extract l n = ⟨⟨(s.take n).drop l⟩⟩ := by
    apply ByteArray.ext
    simp only [ByteArray.data_extract]
    apply Array.ext'
    simp [List.drop_take]
  cases lo with
  | none =>
    subst hlo
    cases hi with
    | none =>
      subst hhi
      simp [Instr.sliceAt, Instr.slice, run_underlying hu, Instr.sliceBounds, hsz]
    | some v =>
      cases v <;> simp only at hhi
      subst hhi
      simp [Instr.sliceAt, Instr.slice, run_underlying hu, Instr.sliceBounds, hsz, run_sliceBound, hn, Int.toNat_natCast]
      simpa using hext
  | some v =>
    cases v <;> simp only at hlo
    subst hlo
    cases hi with
    | none =>
      subst hhi
      simp [Instr.sliceAt, Instr.slice, run_underlying hu, Instr.sliceBounds, hsz, run_sliceBound, hln, Int.toNat_natCast]
      simpa using hext
    | some v =>
      cases v <;> simp only at hhi
      subst hhi
      simp [Instr.sliceAt, Instr.slice, run_underlying hu, Instr.sliceBounds, hsz, run_sliceBound, hln, hn, Int.toNat_natCast]
      exact hext

theorem Rel.sliceOp (h : Rel P C σ a w cv) {t : TypeId} {x : AV} {lo hi : Option AV} {u : Value} {ulo uhi : Option Value} (hx : SRep w (FS C σ.ob cv w) cv x u)
    (hlo : match lo, ulo with | some p, some q => SRep w (FS C σ.ob cv w) cv p q | none, none => True | _, _ => False)
    (hhi : match hi, uhi with | some p, some q => SRep w (FS C σ.ob cv w) cv p q | none, none => True | _, _ => False)
    {σ' : St} {r : AV} (hst : stSlice P σ t x lo hi = some (σ', r)) : RunOK P C a (Instr.sliceAt t u ulo uhi none) w σ' r := by
  unfold stSlice at hst
  split at hst
  · rename_i s
    cases hx
    split at hst
    · rename_i k n
      cases ulo <;> cases uhi <;> simp only at hlo hhi
      cases hhi
      split at hst
      · rename_i hc
        obtain ⟨rfl, rfl⟩ := Prod.mk.inj (Option.some.inj hst)
        refine RunOK.same h (run_slice_str hc.2.2 none _ 0 n.toNat rfl (by simp only; omega) (by omega) (by omega)) ?_ (fun i hi => hi.elim)
        exact Rep.str (w := w) (F := FS C σ.ob cv w) (s.take n.toNat)
      · cases hst
    · rename_i k n
      cases ulo <;> cases uhi <;> simp only at hlo hhi
      cases hlo
      split at hst
      · rename_i hc
        obtain ⟨rfl, rfl⟩ := Prod.mk.inj (Option.some.inj hst)
        refine RunOK.same h (run_slice_str hc.2.2 _ none n.toNat s.length (by simp only; omega) rfl (by omega) (by omega)) ?_ (fun i hi => hi.elim)
        show Rep _ _ (.str _) _; rw [List.take_length]; exact Rep.str (w := w) (F := FS C σ.ob cv w) (s.drop n.toNat)
      · cases hst
    · rename_i k m k' n
      cases ulo <;> cases uhi <;> simp only at hlo hhi
      cases hlo; cases hhi
      split at hst
      · rename_i hc
        obtain ⟨rfl, rfl⟩ := Prod.mk.inj (Option.some.inj hst)
        exact RunOK.same h (run_slice_str hc.2.2.2 _ _ m.toNat n.toNat (by simp only; omega) (by simp only; omega) (by omega) (by omega)) (Rep.str _) (fun i hi => hi.elim)
      · cases hst
    · cases hst
  · split at hst
    · rename_i xs e hxs he
      obtain ⟨hu, hel⟩ := elem_of he
      have hr := h.pv hxs hx
      have hpub := (h.pub x).1
      split at hst
      · rename_i sz k n hsz
        cases ulo <;> cases uhi <;> simp only at hlo hhi
        cases hhi
        split at hst
        · rename_i hc
          obtain ⟨rfl, rfl⟩ := Prod.mk.inj (Option.some.inj hst)
          obtain ⟨base, len, c, rfl, rfl, hnc, hr2⟩ := cutRep hr (l := 0) (n := n.toNat) (sz := sz) (by omega) (by omega) (.inl rfl)
          rw [List.drop_zero] at hr2
          refine ⟨_, w, cv, ?_, hpub, hr2, fun i hi => hi.elim⟩
          rw [run_sliceAt_slice w t _ _ _ _ hu, run_slice_h w t base _ c hu k n hc.1 (by omega), hel, run_sizeOf hsz]
          rfl
        · cases hst
      · rename_i sz k m hsz
        cases ulo <;> cases uhi <;> simp only at hlo hhi
        cases hlo
        split at hst
        · rename_i hc
          obtain ⟨rfl, rfl⟩ := Prod.mk.inj (Option.some.inj hst)
          obtain ⟨base, len, c, rfl, rfl, hnc, hr2⟩ := cutRep hr (l := m.toNat) (n := xs.length) (sz := sz) (by omega) (by omega) (.inr hc.2.2)
          rw [List.take_length] at hr2
          refine ⟨_, w, cv, ?_, hpub, hr2, fun i hi => hi.elim⟩
          rw [run_sliceAt_slice w t _ _ _ _ hu, run_slice_l w t base _ c hu k m hc.1 hc.2.1, hel, run_sizeOf hsz]
          rfl
        · cases hst
      · rename_i sz k m k' n hsz
        cases ulo <;> cases uhi <;> simp only at hlo hhi
        cases hlo; cases hhi
        split at hst
        · rename_i hc
          obtain ⟨rfl, rfl⟩ := Prod.mk.inj (Option.some.inj hst)
          obtain ⟨base, len, c, rfl, rfl, hnc, hr2⟩ := cutRep hr (l := m.toNat) (n := n.toNat) (sz := sz) (by omega) (by omega) (.inr hc.2.2.2)
          refine ⟨_, w, cv, ?_, hpub, hr2, fun i hi => hi.elim⟩
          rw [run_sliceAt_slice w t _ _ _ _ hu, run_slice_lh w t base _ c hu k k' m n hc.1 hc.2.1 (by omega), hel, run_sizeOf hsz]
          rfl
        · cases hst
      · cases hst
    · cases hst

theorem add_zero' (ad : Addr) : ad.add 0 = ad := by simp [Addr.add]
theorem Rep.recap {F : Nat → Prop} {ys : List PV} {ad : Addr} {n c c2 : Nat} (h : Rep w F (.row ys) (.slice (some ad) n c)) (hc : n ≤ c2) : Rep w F (.row ys) (.slice (some ad) n c2) := by
  cases h with
  | row _ _ _ sz cells hc' hsz hF hl hcell ha hh => exact .row ys ad c2 sz cells hc hsz hF hl hcell ha hh
/-- A cut of three bounds, the last two alike. -/
noncomputable def stSlice3 (P : Program) (σ : St) (t : TypeId) (x : AV) (hi mx : AV) : Option (St × AV) :=
  match σ.pv x, elOf P t, hi, mx with
  | some (.row xs), some e, .val (.int _ n), .val (.int _ m) => match szOf P e with
    | some sz => if 0 ≤ n ∧ n = m ∧ n ≤ xs.length then some (σ.pub x, .val (.row (xs.take n.toNat))) else none
    | none => none
  | _, _, _, _ => none
theorem Rel.sliceOp3 (h : Rel P C σ a w cv) {t : TypeId} {x hi mx : AV} {u uhi umx : Value} (hx : SRep w (FS C σ.ob cv w) cv x u) (hhi : SRep w (FS C σ.ob cv w) cv hi uhi) (hmx : SRep w (FS C σ.ob cv w) cv mx umx)
    {σ' : St} {r : AV} (hst : stSlice3 P σ t x hi mx = some (σ', r)) : RunOK P C a (Instr.sliceAt t u none (some uhi) (some umx)) w σ' r := by
  unfold stSlice3 at hst
  split at hst
  · rename_i xs e k n k' m hxs he
    obtain ⟨hu, hel⟩ := elem_of he
    have hr := h.pv hxs hx
    have hpub := (h.pub x).1
    cases hhi
    cases hmx
    split at hst
    · rename_i sz hsz
      split at hst
      · rename_i hc
        obtain ⟨rfl, rfl⟩ := Prod.mk.inj (Option.some.inj hst)
        obtain ⟨h0, rfl, hnl⟩ := hc
        obtain ⟨base, len, c, rfl, rfl, hnc, hr2⟩ := cutRep hr (l := 0) (n := n.toNat) (sz := sz) (by omega) (by omega) (.inl rfl)
        rw [List.drop_zero] at hr2
        refine ⟨_, w, cv, ?_, hpub, (?_ : Rep w _ (.row (xs.take n.toNat)) (sliced base 0 n.toNat n.toNat sz)), fun i hi => hi.elim⟩
        · rw [run_sliceAt_slice w t _ _ _ _ hu, run_slice_hm w t base _ c hu k k' n n h0 (Int.le_refl _) (by omega), hel, run_sizeOf hsz]
          rfl
        · cases base with
          | none =>
            have e2 : ∀ q, sliced none 0 n.toNat q sz = .slice none n.toNat q := fun q => by simp [sliced]
            rw [e2] at hr2 ⊢
            generalize hys : xs.take n.toNat = ys at hr2 ⊢
            generalize n.toNat = k at hr2 ⊢
            cases hr2 with
            | rowNil => exact .rowNil
          | some ad =>
            have e2 : ∀ q, sliced (some ad) 0 n.toNat q sz = .slice (some ad) n.toNat q := fun q => by simp [sliced, add_zero']
            rw [e2] at hr2 ⊢
            exact hr2.recap (Nat.le_refl _)
      · cases hst
    · cases hst
  · cases hst

end
end Go.Proofs.YtjbfcmaiejlnbaaVm
