/- The operations, on symbolic states: numbers, texts, tests; and all of them together. -/
import Derived.Laws.BytesString
import Derived.Test.YtglpemnejngkaaaVmR
set_option linter.unusedVariables false
set_option linter.unusedSimpArgs false
namespace Go.Proofs.YtglpemnejngkaaaVm
open Go Classical

inductive KD where
  | int (k : IntKind)
  | bool
  | str
  | other
def PV.kd : PV → KD
  | .int k _ => .int k
  | .bool _ => .bool
  | .str _ => .str
  | _ => .other

/-- '==' and '!=' on a struct type of such cells. -/
def EqT (P : Program) (t : TypeId) (ks : List KD) : Prop :=
  ∀ (w : World) (F : Nat → Prop) (x y : Operand) (ps qs : List PV) (vs us : List Value), Reps w F ps vs → Reps w F qs us → ps.map PV.kd = ks → qs.map PV.kd = ks →
    (do eqGuard .eql t x y (.agg ⟨vs⟩) (.agg ⟨us⟩); binOp .eql t (.agg ⟨vs⟩) (.agg ⟨us⟩) : Sem Value).run P w = .ok (.bool (decide (ps = qs))) w ∧
    (do eqGuard .neq t x y (.agg ⟨vs⟩) (.agg ⟨us⟩); binOp .neq t (.agg ⟨vs⟩) (.agg ⟨us⟩) : Sem Value).run P w = .ok (.bool (!decide (ps = qs))) w

def strLt (a b : List UInt8) : Bool := Op.bytesLess a b

noncomputable def binPV (P : Program) (op : BinOp) (t : TypeId) (p q : PV) : Option PV :=
  match p, q with
  | .int k x, .int k' y => match op with
   | .shl => if 0 ≤ y then some (.int k (k.wrap (x * 2 ^ min y.toNat k.bits))) else none
   | .shr => if 0 ≤ y then some (.int k (x / 2 ^ min y.toNat k.bits)) else none
   | _ => if k = k' then match op with
    | .or => some (.int k (k.wrap (BitVec.ofInt k.bits x ||| BitVec.ofInt k.bits y).toNat))
    | .add => some (.int k (k.wrap (x + y)))
    | .sub => some (.int k (k.wrap (x - y)))
    | .mul => some (.int k (k.wrap (x * y)))
    | .quo => if y ≠ 0 then some (.int k (k.wrap (x.tdiv y))) else none
    | .rem => if y ≠ 0 then some (.int k (x.tmod y)) else none
    | .eql => some (.bool (decide (x = y)))
    | .neq => some (.bool (!decide (x = y)))
    | .lss => some (.bool (decide (x < y)))
    | .leq => some (.bool (decide (x ≤ y)))
    | .gtr => some (.bool (decide (y < x)))
    | .geq => some (.bool (decide (y ≤ x)))
    | _ => none else none
  | .str a, .str b => match op with
    | .add => if a.length + b.length ≤ 4611686018427387904 then some (.str (a ++ b)) else none
    | .eql => some (.bool (decide (a = b)))
    | .neq => some (.bool (!decide (a = b)))
    | .lss => some (.bool (strLt a b))
    | .leq => some (.bool (strLt a b || decide (a = b)))
    | .gtr => some (.bool (!(strLt a b || decide (a = b))))
    | .geq => some (.bool (!strLt a b))
    | _ => none
  | .bool a, .bool b => if P.underlying t = some .bool then match op with
    | .eql => some (.bool (a == b))
    | .neq => some (.bool (!(a == b)))
    | _ => none else none
  | .nilp, .nilp => if ∃ e, P.underlying t = some (.pointer e) then match op with
    | .eql => some (.bool true)
    | .neq => some (.bool false)
    | _ => none else none
  | .ptr _, .nilp => if ∃ e, P.underlying t = some (.pointer e) then match op with
    | .eql => some (.bool false)
    | .neq => some (.bool true)
    | _ => none else none
  | x, y => if x.isAgg = true ∧ y.isAgg = true ∧ EqT P t (x.cells.map PV.kd) ∧ y.cells.map PV.kd = x.cells.map PV.kd then match op with
    | .eql => some (.bool (decide (x = y)))
    | .neq => some (.bool (!decide (x = y)))
    | _ => none else none

section
variable {P : Program} {C : Ctx} {σ : St} {a : Act} {w : World} {cv : Nat → Value}

theorem bytes_toList (a : List UInt8) : (⟨⟨a⟩⟩ : ByteArray).toList = a := ByteArray.toList_mk a

theorem agg_cells_eq {x y : PV} (hx : x.isAgg = true) (hy : y.isAgg = true) : (x = y) ↔ x.cells = y.cells := by
  cases x <;> cases y <;> simp_all [PV.isAgg, PV.cells]

theorem beq_decide {α : Type} [DecidableEq α] [BEq α] [LawfulBEq α] (x y : α) : (x == y) = decide (x = y) := by
  by_cases h : x = y <;> simp [h]

theorem run_eqIn_nil (d : Nat) {t e : TypeId} (hu : P.underlying t = some (.pointer e)) (b : Option Addr) : (Op.equalIn (d + 1) t (.pointer none) (.pointer b)).run P w = .ok b.isNone w := by
  simp [Op.equalIn, run_underlying hu]
theorem run_eqIn_some (d : Nat) {t e : TypeId} (hu : P.underlying t = some (.pointer e)) (b : Addr) : (Op.equalIn (d + 1) t (.pointer (some b)) (.pointer none)).run P w = .ok false w := by
  simp [Op.equalIn, run_underlying hu]
theorem run_eql_ptr {t : TypeId} {p q : Option Addr} {b : Bool} (h : (Op.equalIn (9999 + 1) t (.pointer p) (.pointer q)).run P w = .ok b w) (neg : Bool) :
    (binOp (if neg = true then .neq else .eql) t (.pointer p) (.pointer q)).run P w = .ok (.bool (if neg = true then !b else b)) w := by
  cases neg
  · simp only [Bool.false_eq_true, if_false, binOp]
    simp [Op.equal, Op.maxDepth, h]
  · simp only [if_true, binOp]
    simp [Op.equal, Op.maxDepth, h]
theorem run_neq_bool' {t : TypeId} (b c : Bool) (h : P.underlying t = some .bool) : (binOp .neq t (.bool b) (.bool c)).run P w = .ok (.bool (!(b == c))) w := run_neq_bool w t b c h

theorem run_binPV {F : Nat → Prop} {op : BinOp} {t : TypeId} {p q r : PV} {u v : Value} (hp : Rep w F p u) (hq : Rep w F q v) (x y : Operand) (h : binPV P op t p q = some r) :
    ∃ z, (do eqGuard op t x y u v; binOp op t u v : Sem Value).run P w = .ok z w ∧ Rep w F r z := by
  have agg : p.isAgg = true ∧ q.isAgg = true ∧ EqT P t (p.cells.map PV.kd) ∧ q.cells.map PV.kd = p.cells.map PV.kd → (∀ r, (op = .eql ∧ r = .bool (decide (p = q)) ∨ op = .neq ∧ r = .bool (!decide (p = q))) →
      ∃ z, (do eqGuard op t x y u v; binOp op t u v : Sem Value).run P w = .ok z w ∧ Rep w F r z) := by
    rintro ⟨h1, h2, h3, h4⟩ r hr
    obtain ⟨vs, rfl, r1, _⟩ := hp.cells_of_agg h1
    obtain ⟨us, rfl, r2, _⟩ := hq.cells_of_agg h2
    obtain ⟨e1, e2⟩ := h3 w F x y p.cells q.cells vs us r1 r2 rfl h4
    have e : decide (p = q) = decide (p.cells = q.cells) := by simp only [agg_cells_eq h1 h2]
    rcases hr with ⟨rfl, rfl⟩ | ⟨rfl, rfl⟩
    · exact ⟨_, e1, by rw [e]; exact .bool _⟩
    · exact ⟨_, e2, by rw [e]; exact .bool _⟩
  unfold binPV at h
  split at h
  · rename_i k m k' n
    cases hp; cases hq
    split at h
    · split at h
      · rename_i h0
        cases h
        refine ⟨_, ?_, .int _ _⟩
        have hn : ¬ n < 0 := by omega
        simp [eqGuard, binOp, Op.shift, hn]
      · cases h
    · split at h
      · rename_i h0
        cases h
        refine ⟨_, ?_, .int _ _⟩
        have hn : ¬ n < 0 := by omega
        have hp : (0 : Int) ≤ 2 ^ min n.toNat k.bits := Int.le_of_lt (Int.pow_pos (by decide))
        simp [eqGuard, binOp, Op.shift, hn, Int.fdiv_eq_ediv_of_nonneg _ hp]
      · cases h
    split at h
    · rename_i hk
      subst hk
      cases op <;> simp only at h <;> try (cases h; done)
      case quo => split at h <;> first | (cases h; rename_i h0; exact ⟨_, by simp [eqGuard, binOp, Op.intDiv, h0], .int _ _⟩) | cases h
      case rem => split at h <;> first | (cases h; rename_i h0; exact ⟨_, by simp [eqGuard, binOp, Op.intDiv, h0], .int _ _⟩) | cases h
      case or => cases h; exact ⟨_, by simp [eqGuard, binOp, Op.intBits], .int _ _⟩
      all_goals (cases h; first | exact ⟨_, by simp [eqGuard, binOp, Op.intArith], .int _ _⟩ | exact ⟨_, by simp [eqGuard, binOp, Op.intCmp, beq_decide, bne], .bool _⟩)
    · cases h
  · rename_i s s'
    cases hp; cases hq
    cases op <;> simp only at h <;> try (cases h; done)
    case add =>
      split at h
      · cases h
        rename_i hl
        have : ¬ ((9223372036854775807 : Int) < (s.length : Int) + (s'.length : Int)) := by omega
        have e : (⟨⟨s⟩⟩ : ByteArray) ++ ⟨⟨s'⟩⟩ = ⟨⟨s ++ s'⟩⟩ := by
          apply ByteArray.ext
          simp
        refine ⟨.string ⟨⟨s ++ s'⟩⟩, ?_, .str _⟩
        have hsz : ∀ l : List UInt8, (⟨⟨l⟩⟩ : ByteArray).size = l.length := fun _ => rfl
        simp [eqGuard, binOp, Op.stringOp, hsz, IntKind.max, IntKind.signed, IntKind.bits, this, e]
      · cases h
    all_goals (cases h; exact ⟨_, by simp [eqGuard, binOp, Op.stringOp, bytes_toList, beq_decide, strLt], .bool _⟩)
  · rename_i b c
    cases hp; cases hq
    split at h
    · rename_i hu
      cases op <;> simp only at h <;> try (cases h; done)
      all_goals (cases h; first | exact ⟨_, by simp only [eqGuard, Sem.run_bind, Sem.run_pure, Result.andThen_ok]; exact run_eql_bool w t b c hu, .bool _⟩ | exact ⟨_, by simp only [eqGuard, Sem.run_bind, Sem.run_pure, Result.andThen_ok]; exact run_neq_bool w t b c hu, .bool _⟩)
    · cases h
  · cases hp; cases hq
    split at h
    · rename_i hu
      obtain ⟨e, hu⟩ := hu
      have g := fun neg => run_eql_ptr (run_eqIn_nil (P := P) (w := w) 9999 hu none) neg
      cases op <;> simp only at h <;> try (cases h; done)
      all_goals (cases h; first | exact ⟨_, by simp only [eqGuard, Sem.run_bind, Sem.run_pure, Result.andThen_ok]; exact g false, .bool _⟩ | exact ⟨_, by simp only [eqGuard, Sem.run_bind, Sem.run_pure, Result.andThen_ok]; exact g true, .bool _⟩)
    · cases h
  · cases hp; cases hq
    split at h
    · rename_i hu
      obtain ⟨e, hu⟩ := hu
      have g := fun (b : Addr) neg => run_eql_ptr (run_eqIn_some (P := P) (w := w) 9999 hu b) neg
      cases op <;> simp only at h <;> try (cases h; done)
      all_goals (cases h; first | exact ⟨_, by simp only [eqGuard, Sem.run_bind, Sem.run_pure, Result.andThen_ok]; exact g _ false, .bool _⟩ | exact ⟨_, by simp only [eqGuard, Sem.run_bind, Sem.run_pure, Result.andThen_ok]; exact g _ true, .bool _⟩)
    · cases h
  · split at h
    · rename_i hc
      cases op <;> simp only at h <;> try (cases h; done)
      all_goals (cases h; first | exact agg hc _ (.inl ⟨rfl, rfl⟩) | exact agg hc _ (.inr ⟨rfl, rfl⟩))
    · cases h

/-! ### min and max -/
def mmPV (isMax : Bool) (p q : PV) : Option PV :=
  match p, q with
  | .int k x, .int k' y => if k = k' then some (.int k (if isMax = true then (if y > x then y else x) else (if y < x then y else x))) else none
  | .str a, .str b => some (.str (if isMax = true then (if (!strLt a b) = true then a else b) else (if (strLt a b || decide (a = b)) = true then a else b)))
  | _, _ => none

theorem run_mmPV {F : Nat → Prop} {isMax : Bool} {p q r : PV} {u v : Value} (hp : Rep w F p u) (hq : Rep w F q v) (h : mmPV isMax p q = some r) :
    ∃ z, ((if isMax = true then Builtin.max_ else Builtin.min_) : Array TypeId → TypeId → Array Value → Sem Value) #[] 0 #[u, v] = (if isMax = true then Builtin.max2 else Builtin.min2) u v ∧ ((if isMax = true then Builtin.max2 else Builtin.min2) u v).run P w = .ok z w ∧ Rep w F r z := by
  have e : ((if isMax = true then Builtin.max_ else Builtin.min_) : Array TypeId → TypeId → Array Value → Sem Value) #[] 0 #[u, v] = (if isMax = true then Builtin.max2 else Builtin.min2) u v := by
    cases isMax <;> simp [Builtin.max_, Builtin.min_]
  unfold mmPV at h
  split at h
  · rename_i k x k' y
    cases hp; cases hq
    split at h
    · rename_i hk
      subst hk
      cases h
      cases isMax
      · exact ⟨.int k (if y < x then y else x), e, by simp [Builtin.min2], by simpa using Rep.int _ _⟩
      · exact ⟨.int k (if y > x then y else x), e, by simp [Builtin.max2], by simpa using Rep.int _ _⟩
    · cases h
  · rename_i s s'
    cases hp; cases hq
    cases h
    cases isMax
    · refine ⟨_, e, ?_, Rep.str _⟩
      by_cases hc : (strLt s s' || decide (s = s')) = true
      · have hc' := hc
        simp only [strLt] at hc'
        simp [Builtin.min2, Op.stringOp, bytes_toList, beq_decide, asBool, hc, hc']
      · have hc' := hc
        simp only [strLt] at hc'
        simp [Builtin.min2, Op.stringOp, bytes_toList, beq_decide, asBool, hc, hc']
    · refine ⟨_, e, ?_, Rep.str _⟩
      by_cases hc : (!strLt s s') = true
      · have hc' := hc
        simp only [strLt] at hc'
        simp [Builtin.max2, Op.stringOp, bytes_toList, beq_decide, asBool, hc, hc']
      · have hc' := hc
        simp only [strLt] at hc'
        simp [Builtin.max2, Op.stringOp, bytes_toList, beq_decide, asBool, hc, hc']
  · cases h

/-! ### All operations but calls -/
def stField2 (P : Program) (t : TypeId) (f : Nat) (x : PV) : Option PV :=
  match fldOf P t f with
  | some (o, ft) => match szOf P ft, aggOf P ft with
    | some n, some ag => if x.isAgg = true then (if ag = true ∧ x.cells.length < o + n then none else partPV ag n x.cells o) else none
    | _, _ => none
  | none => none

theorem run_field2 {F : Nat → Prop} {t : TypeId} {f : Nat} {x y : PV} {u : Value} (hx : Rep w F x u) (h : stField2 P t f x = some y) : ∃ z, (Instr.field t u f).run P w = .ok z w ∧ Rep w F y z := by
  unfold stField2 at h
  split at h
  · rename_i o ft hf
    split at h
    · rename_i n ag hn hag
      split at h
      · rename_i hxa
        obtain ⟨vs, rfl, hr, hna⟩ := hx.cells_of_agg hxa
        have hfs : ∃ fs fld, P.underlying t = some (.struct fs) ∧ fs[f]? = some fld ∧ fld.offset = o ∧ fld.type = ft := by
          unfold fldOf at hf
          split at hf
          · rename_i fs hu
            split at hf
            · rename_i fld hfl
              simp only [Option.some.injEq, Prod.mk.injEq] at hf
              exact ⟨fs, fld, hu, hfl, hf.1, hf.2⟩
            · cases hf
          · cases hf
        obtain ⟨fs, fld, hu, hfl, rfl, rfl⟩ := hfs
        split at h
        · cases h
        · rename_i hlen
          unfold partPV at h
          split at h
          · rename_i e
            subst e
            split at h
            · cases h
              have hs := hr.drop_take fld.offset n
              have e2 : (⟨vs⟩ : Array Value).extract fld.offset (fld.offset + n) = ⟨(vs.drop fld.offset).take n⟩ := by
                apply Array.ext'
                simp [List.drop_take]
              exact ⟨.agg ⟨(vs.drop fld.offset).take n⟩, by simp [Instr.field, run_underlying hu, hfl, asAgg, part, run_isAgg hag, run_sizeOf hn, e2], .agg _ _ hs.1 (noagg_sub hna _ _) hs.2⟩
            · cases h
          · rename_i e
            have e : ag = false := by simpa using e
            subst e
            obtain ⟨v, hv, hrep⟩ := hr.get h
            exact ⟨v, by simp [Instr.field, run_underlying hu, hfl, asAgg, part, run_isAgg hag, hv], hrep⟩
      · cases h
    · cases h
  · cases h

noncomputable def stBuiltin (P : Program) (σ : St) (nid : Nat) (b : Builtin) (args : List AV) (ts : List TypeId) : Option (St × AV) :=
  match b, args, ts with
  | .len, [x], [t] => match x with
    | .val (.str s) => if P.underlying t = some .string then some (σ, .val (.int .i64 s.length)) else none
    | _ => match σ.pv x, elOf P t with
      | some (.row xs), some _ => some (σ, .val (.int .i64 xs.length))
      | _, _ => none
  | .min, [x, y], _ => match x, y with
    | .val p, .val q => match mmPV false p q with
      | some r => some (σ, .val r)
      | none => none
    | _, _ => none
  | .max, [x, y], _ => match x, y with
    | .val p, .val q => match mmPV true p q with
      | some r => some (σ, .val r)
      | none => none
    | _, _ => none
  | .append, [s, x], [t, t2] => stAppend P σ nid t t2 s x
  | _, _, _ => none

noncomputable def stB1 (P : Program) (σ : St) (b : Builtin) (id sz l n : Nat) (ts : List TypeId) : Option (St × AV) :=
  match b, ts with
  | .len, [t] => match elOf P t with
    | some _ => some (σ, .val (.int .i64 n))
    | none => none
  | .cap, [t] => match elOf P t, σ.ob id with
    | some _, .rowk e xs k => if l ≤ xs.length + k then some (σ, .val (.int .i64 (xs.length + k - l : Nat))) else none
    | _, _ => none
  | .clear, [t] => stClearV P σ t id sz l n
  | _, _ => none
noncomputable def choose2 (c : Prop) [Decidable c] (a b : Option (St × AV)) : Option (St × AV) := if c then a else b
noncomputable def stAppVG (P : Program) (σ : St) (nid : Nat) (t t2 : TypeId) (id sz l n : Nat) (y : AV) : Option (St × AV) :=
  match σ.ob id, srcOf P σ sz y with
  | .rowk _ xs k, some (_, m) => choose2 (l + n + m ≤ xs.length + k) (stAppendV P σ t t2 id sz l n y) (stAppendG P σ nid t t2 id sz l n y)
  | _, _ => none
noncomputable def stB2 (P : Program) (σ : St) (nid : Nat) (b : Builtin) (id sz l n : Nat) (y : AV) (ts : List TypeId) : Option (St × AV) :=
  match b, ts with
  | .copy, [t, _] => stCopyV P σ t id sz l n y
  | .append, [t, t2] => match y with
    | .val (.int _ q) => stAppendZ P σ nid t t2 id sz l n q
    | _ => stAppVG P σ nid t t2 id sz l n y
  | _, _ => none
noncomputable def stBuiltin2 (P : Program) (σ : St) (nid : Nat) (b : Builtin) (args : List AV) (ts : List TypeId) : Option (St × AV) :=
  match args with
  | [.vw id sz l n] => stB1 P σ b id sz l n ts
  | [.vw id sz l n, y] => stB2 P σ nid b id sz l n y ts
  | [.val (.rowp zs)] => stBuiltin P σ nid b [.val (.row zs)] ts
  | [x, .val (.rowp zs)] => stBuiltin P σ nid b [x, .val (.row zs)] ts
  | _ => stBuiltin P σ nid b args ts

theorem rowp_row {F : Nat → Prop} {zs : List PV} {u : Value} (h : Rep w F (.rowp zs) u) : Rep w F (.row zs) u := by
  cases h; assumption

theorem Rel.builtinAt (h : Rel P C σ a w cv) {nid : Nat} {b : Builtin} {avs : List AV} {us : List Value} {ts : List TypeId} {ty : TypeId} {cs : Array Bool} {σ' : St} {r : AV}
    (hl : us.length = avs.length) (hr : ∀ (j : Nat) (c : AV) (v : Value), avs[j]? = some c → us[j]? = some v → SRep w (FS C σ.ob cv w) cv c v)
    (hst : stBuiltin P σ nid b avs ts = some (σ', r)) :
    ∃ u w' cv', (builtin b ts.toArray ty cs us.toArray).run P w = .ok (.value u) w' ∧ Rel P C σ' a w' cv' ∧ SRep w' (FS C σ'.ob cv' w') cv' r u ∧ ∀ i, r.ment i → σ'.ob i ≠ .free := by
  have one : ∀ {x : AV}, avs = [x] → ∃ p, us = [p] ∧ SRep w (FS C σ.ob cv w) cv x p := by
    intro x he
    subst he
    match us, hl with
    | [p], _ => exact ⟨p, rfl, hr 0 x p rfl rfl⟩
  have two : ∀ {x y : AV}, avs = [x, y] → ∃ p q, us = [p, q] ∧ SRep w (FS C σ.ob cv w) cv x p ∧ SRep w (FS C σ.ob cv w) cv y q := by
    intro x y he
    subst he
    match us, hl with
    | [p, q], _ => exact ⟨p, q, rfl, hr 0 x p rfl rfl, hr 1 y q rfl rfl⟩
  clear hl hr
  unfold stBuiltin at hst
  split at hst
  · rename_i x t
    obtain ⟨u, rfl, hx⟩ := one rfl
    split at hst
    · rename_i s
      split at hst
      · rename_i hu
        cases hst
        cases hx
        exact ⟨.int .i64 s.length, w, cv, by simp [builtin, Builtin.len_, run_underlying hu, goInt]; rfl, h, Rep.int _ _, fun i hi => hi.elim⟩
      · cases hst
    · split at hst
      · rename_i xs e hxs he'
        cases hst
        have hu := elOf_under he'
        rcases h.rowRead hxs hx with ⟨rfl, rfl⟩ | ⟨ad, c, sz, cells, rfl, _⟩
        · exact ⟨.int .i64 0, w, cv, by simp [builtin, Builtin.len_, run_underlying hu, goInt], h, Rep.int _ _, fun i hi => hi.elim⟩
        · exact ⟨.int .i64 xs.length, w, cv, by simp [builtin, Builtin.len_, run_underlying hu, goInt], h, Rep.int _ _, fun i hi => hi.elim⟩
      · cases hst
  · rename_i x y
    obtain ⟨u, v, rfl, hx, hy⟩ := two rfl
    split at hst
    · split at hst
      · rename_i r hr
        cases hst
        obtain ⟨z, _, h2, h3⟩ := run_mmPV (P := P) hx hy hr
        simp only [Bool.false_eq_true, if_false] at h2
        exact ⟨z, w, cv, by simp [builtin, Builtin.min_, h2], h, h3, fun i hi => hi.elim⟩
      · cases hst
    · cases hst
  · rename_i x y
    obtain ⟨u, v, rfl, hx, hy⟩ := two rfl
    split at hst
    · split at hst
      · rename_i r hr
        cases hst
        obtain ⟨z, _, h2, h3⟩ := run_mmPV (P := P) hx hy hr
        simp only [if_true] at h2
        exact ⟨z, w, cv, by simp [builtin, Builtin.max_, h2], h, h3, fun i hi => hi.elim⟩
      · cases hst
    · cases hst
  · rename_i x y t t2
    obtain ⟨u, v, rfl, hx, hy⟩ := two rfl
    obtain ⟨u, w', cv', h1, h2, h3, h4⟩ := h.appendOp (ty := ty) hx hy hst
    exact ⟨u, w', cv', by simp [builtin, h1], h2, h3, h4⟩
  · cases hst

theorem Rel.builtinOp2 (h : Rel P C σ a w cv) {nid : Nat} {b : Builtin} {avs : List AV} {us : List Value} {ts : List TypeId} {ty : TypeId} {cs : Array Bool} {σ' : St} {r : AV}
    (hl : us.length = avs.length) (hr : ∀ (j : Nat) (c : AV) (v : Value), avs[j]? = some c → us[j]? = some v → SRep w (FS C σ.ob cv w) cv c v)
    (hst : stBuiltin2 P σ nid b avs ts = some (σ', r)) :
    ∃ u w' cv', (builtin b ts.toArray ty cs us.toArray).run P w = .ok (.value u) w' ∧ Rel P C σ' a w' cv' ∧ SRep w' (FS C σ'.ob cv' w') cv' r u ∧ ∀ i, r.ment i → σ'.ob i ≠ .free := by
  unfold stBuiltin2 at hst
  split at hst
  · rename_i id sz l n
    match us, hl with
    | [u], _ =>
      have hx := hr 0 _ u rfl rfl
      unfold stB1 at hst
      split at hst
      · split at hst
        · rename_i t e he
          cases hst
          have hu := elOf_under he
          refine ⟨.int .i64 n, w, cv, ?_, h, Rep.int _ _, fun i hi => hi.elim⟩
          rcases hx with ⟨c1, rfl, rfl, rfl⟩ | ⟨b, n', c, o, c1, c2, c3, rfl⟩
          · simp [builtin, Builtin.len_, run_underlying hu, goInt]
          · simp [builtin, Builtin.len_, run_underlying hu, goInt]
        · cases hst
      · split at hst
        · rename_i t _ e0 e xs k he ho
          split at hst
          · rename_i hlk
            cases hst
            have hu := elOf_under he
            refine ⟨.int .i64 (xs.length + k - l : Nat), w, cv, ?_, h, Rep.int _ _, fun i hi => hi.elim⟩
            rcases hx with ⟨c1, rfl, rfl, rfl⟩ | ⟨b, n', c, o, c1, c2, c3, rfl⟩
            · rcases rowk_cap h ho with ⟨_, hxs, hk⟩ | ⟨g, m, c1'⟩
              · simp [builtin, Builtin.cap_, run_underlying hu, goInt, hxs, hk]
              · rw [c1] at c1'; cases c1'
            · rcases rowk_cap h ho with ⟨c1', _⟩ | ⟨g, m, c1'⟩
              · rw [c1] at c1'; cases c1'
              · rw [c1] at c1'; cases c1'
                simp [builtin, Builtin.cap_, run_underlying hu, goInt]
          · cases hst
        · cases hst
      · obtain ⟨v, w', cv', h1, h2, h3, h4⟩ := h.clearVOp (ty := ty) hx hst
        exact ⟨v, w', cv', by simp [builtin, h1], h2, h3, h4⟩
      · cases hst
  · rename_i id sz l n y
    match us, hl with
    | [u, v], _ =>
      have hx := hr 0 _ u rfl rfl
      have hy := hr 1 _ v rfl rfl
      unfold stB2 at hst
      split at hst
      · rename_i t t2
        obtain ⟨z, w', cv', h1, h2, h3, h4⟩ := h.copyVOp (t2 := t2) (ty := ty) hx hy hst
        exact ⟨z, w', cv', by simp [builtin, h1], h2, h3, h4⟩
      · split at hst
        · rename_i kq q _
          cases hy
          obtain ⟨z, w', cv', h1, h2, h3, h4⟩ := h.appendZOp (kq := kq) (ty := ty) hx hst
          exact ⟨z, w', cv', by simp [builtin, h1], h2, h3, h4⟩
        · unfold stAppVG at hst
          split at hst
          · unfold choose2 at hst
            split at hst
            · obtain ⟨z, w', cv', h1, h2, h3, h4⟩ := h.appendVOp (ty := ty) hx hy hst
              exact ⟨z, w', cv', by simp [builtin, h1], h2, h3, h4⟩
            · obtain ⟨z, w', cv', h1, h2, h3, h4⟩ := h.appendGOp (ty := ty) hx hy hst
              exact ⟨z, w', cv', by simp [builtin, h1], h2, h3, h4⟩
          · cases hst
      · cases hst
  · rename_i zs
    refine h.builtinAt (avs := [.val (.row zs)]) (by simpa using hl) (fun j c v hc hv => ?_) hst
    cases j with
    | zero =>
      simp at hc; subst hc
      exact rowp_row (hr 0 _ v rfl hv)
    | succ j => simp at hc
  · rename_i x zs _
    refine h.builtinAt (avs := [x, .val (.row zs)]) (by simpa using hl) (fun j c v hc hv => ?_) hst
    match j, hc, hv with
    | 0, hc, hv => simp at hc; subst hc; exact hr 0 _ v rfl hv
    | 1, hc, hv => simp at hc; subst hc; exact rowp_row (hr 1 _ v rfl hv)
    | j + 2, hc, hv => simp at hc
  · exact h.builtinAt hl hr hst

/-- A row of bytes, as a text. -/
def bytesOf : List PV → Option (List UInt8)
  | [] => some []
  | .int .u8 n :: r => match bytesOf r with
    | some l => some (UInt8.ofNat n.toNat :: l)
    | none => none
  | _ => none
theorem bytesOf_row : ∀ (ys : List PV) (l : List UInt8), bytesOf ys = some l → ∃ ns : List Int, ys = ns.map (PV.int .u8) ∧ l = ns.map (fun n => UInt8.ofNat n.toNat)
  | [], l, h => by cases h; exact ⟨[], rfl, rfl⟩
  | y :: r, l, h => by
    unfold bytesOf at h
    split at h
    · rename_i heq; cases heq
    · rename_i n r' heq
      cases heq
      split at h
      · rename_i l' hl'
        cases h
        obtain ⟨ns, rfl, rfl⟩ := bytesOf_row r l' hl'
        exact ⟨n :: ns, rfl, rfl⟩
      · cases h
    · cases h
theorem push_all : ∀ (ns : List Int) (r : List UInt8), ns.foldl (fun r n => r.push (UInt8.ofNat n.toNat)) (⟨⟨r⟩⟩ : ByteArray) = ⟨⟨r ++ ns.map (fun n => UInt8.ofNat n.toNat)⟩⟩
  | [], r => by simp
  | n :: ns, r => by
    have e : (⟨⟨r⟩⟩ : ByteArray).push (UInt8.ofNat n.toNat) = ⟨⟨r ++ [UInt8.ofNat n.toNat]⟩⟩ := by
      apply ByteArray.ext; simp [ByteArray.push]
    simp only [List.foldl_cons, e, push_all ns, List.map_cons, List.append_assoc, List.singleton_append]


noncomputable def stepOp (P : Program) (σ : St) (nid : Nat) : Op → Option (St × AV)
  | .move x => some (σ, σ.ev x)
  | .assign x => some (σ, σ.ev x)
  | .pick c x y => match σ.ev c with
    | .val (.bool b) => some (σ, if b = true then σ.ev x else σ.ev y)
    | _ => none
  | .alloc t => stAlloc P σ nid t
  | .box t x => stBox P σ nid t (σ.ev x)
  | .build t parts => stBuild P σ t parts.toList
  | .buildSlice t len parts => stBuildSlice P σ nid t len parts.toList
  | .load t x => stLoad P σ t (σ.ev x)
  | .store t x y => match stStore P σ t (σ.ev x) (σ.ev y) with
    | some σ' => some (σ', .any)
    | none => none
  | .nilCheck x => match σ.ev x with
    | .val (.ptr p) => some (σ, .val (.ptr p))
    | .adr i o => some (σ, .adr i o)
    | .ead i s k o => some (σ, .ead i s k o)
    | .val (.fn f cs) => some (σ, .val (.fn f cs))
    | _ => none
  | .binOp op t x y _ => match σ.ev x, σ.ev y with
    | .val p, .val q => match binPV P op t p q with
      | some r => some (σ, .val r)
      | none => none
    | _, _ => none
  | .unOp op _ x => match op, σ.ev x with
    | .not, .val (.bool b) => some (σ, .val (.bool (!b)))
    | .neg, .val (.int k n) => some (σ, .val (.int k (k.wrap (0 - n))))
    | _, _ => none
  | .convert s d x => match P.underlying s, P.underlying d, σ.ev x with
    | some _, some (.int k), .val (.int _ n) => some (σ, .val (.int k (k.wrap n)))
    | some .string, some .string, .val (.str l) => some (σ, .val (.str l))
    | some (.slice e), some .string, v => match P.underlying e, σ.pv v with
      | some (.int .u8), some (.row ys) => match bytesOf ys with
        | some l => some (σ, .val (.str l))
        | none => none
      | _, _ => none
    | _, _, _ => none
  | .makeFunc (.func f) first caps => if first = #[] then match σ.pvs (σ.evs caps.toList) with
    | some ps => some (σ.pubs (σ.evs caps.toList), .val (.fn f ps))
    | none => none else none
  | .makeSlice t l c => stMake P σ nid t (σ.ev l) (σ.ev c)
  | .slice t x lo hi mx => match σ.ev x with
    | .vw id sz l n => stSliceV P σ t id sz l n (lo.map σ.ev) (hi.map σ.ev) (mx.map σ.ev)
    | v => match mx with
      | none => stSlice P σ t v (lo.map σ.ev) (hi.map σ.ev)
      | some _ => none
  | .fieldAddr t x f => match stField P t f (σ.ev x) with
    | some v => some (σ, v)
    | none => none
  | .field t x f => match σ.ev x with
    | .val p => match stField2 P t f p with
      | some q => some (σ, .val q)
      | none => none
    | _ => none
  | .indexAddr t x i => match stIdx P σ t (σ.ev x) (σ.ev i) with
    | some v => some (σ, v)
    | none => none
  | .index t x i => match P.underlying t, σ.ev x, σ.ev i with
    | some .string, .val (.str l), .val (.int _ n) => if 0 ≤ n then match l[n.toNat]? with
      | some c => some (σ, .val (.int .u8 c.toNat))
      | none => none else none
    | _, _, _ => none
  | .extract x k => match σ.ev x with
    | .tup ps => match ps[k]? with
      | some p => some (σ, .val p)
      | none => none
    | _ => none
  | .call c => match c.callee with
    | .builtin b => stBuiltin2 P σ nid b (σ.evs c.args.toList) c.argTypes.toList
    | _ => none
  | _ => none

theorem OpOK.of_run {o : Oper} {s : Sem Value} (h : (execOp a.eval o) = (do pure (.value (← s)) : Sem Next)) {σ' : St} {r : AV} (hr : RunOK P C a s w σ' r) : OpOK P C a (execOp a.eval o) w σ' r := by
  obtain ⟨u, w', cv', h1, h2, h3, h4⟩ := hr
  exact ⟨u, w', cv', .inl (by rw [h]; simp [h1]), h2, h3, h4⟩

theorem OpOK.same {s : Sem Next} (h : Rel P C σ a w cv) {u : Value} {r : AV} (hr : s.run P w = .ok (.value u) w) (hs : SRep w (FS C σ.ob cv w) cv r u) (hm : ∀ i, r.ment i → σ.ob i ≠ .free) : OpOK P C a s w σ r :=
  ⟨u, w, cv, .inl hr, h, hs, hm⟩

theorem step_sound (h : Rel P C σ a w cv) {o : Oper} {nid : Nat} {σ' : St} {r : AV} (hst : stepOp P σ nid o.op = some (σ', r)) : OpOK P C a (execOp a.eval o) w σ' r := by
  obtain ⟨dst, op, ty, pos, after, guard⟩ := o
  simp only at hst
  cases op <;> simp only [stepOp] at hst <;> try (cases hst; done)
  case move x =>
    cases hst
    exact OpOK.same h (by simp [execOp]) (h.ev x).1 (h.ev x).2
  case assign x =>
    cases hst
    exact OpOK.same h (by simp [execOp]) (h.ev x).1 (h.ev x).2
  case pick c x y =>
    split at hst
    · rename_i b hb
      cases hst
      have hc := (h.ev c).1
      rw [hb] at hc
      generalize hu : a.eval c = u at hc
      cases hc
      cases b
      · exact OpOK.same h (by simp [execOp, hu, asBool]) (h.ev y).1 (h.ev y).2
      · exact OpOK.same h (by simp [execOp, hu, asBool]) (h.ev x).1 (h.ev x).2
    · cases hst
  case alloc t => exact OpOK.of_run rfl (h.allocOp hst)
  case box t x => exact OpOK.of_run rfl (h.boxOp (h.ev x).1 (h.ev x).2 hst)
  case build t parts => exact OpOK.of_run rfl (h.buildOp hst)
  case buildSlice t len parts => exact OpOK.of_run rfl (h.buildSliceOp hst)
  case load t x =>
    obtain ⟨u, h1, h2, h3, h4⟩ := h.load (h.ev x).1 hst
    exact OpOK.of_run rfl ⟨u, w, cv, h1, h2, h3, h4⟩
  case store t x y =>
    split at hst
    · rename_i σ1 hs
      cases hst
      obtain ⟨w', h1, h2⟩ := h.store (h.ev x).1 (h.ev y).1 (h.ev y).2 hs
      exact ⟨undef, w', cv, .inr ⟨by simp [execOp, h1], rfl⟩, h2, trivial, fun i hi => hi.elim⟩
    · cases hst
  case nilCheck x =>
    have hx := h.ev x
    split at hst
    · rename_i p hp
      cases hst
      rw [hp] at hx
      obtain ⟨hx, hm⟩ := hx
      generalize hu : a.eval x = u at hx
      cases hx with
      | ptr _ ad cvs hF hl hcell ha hh => exact OpOK.same h (by simp [execOp, hu]) (Rep.ptr _ ad cvs hF hl hcell ha hh) (fun i hi => hi.elim)
    · rename_i i o hp
      cases hst
      rw [hp] at hx
      obtain ⟨hx, hm⟩ := hx
      obtain ⟨b, hb, hu⟩ := hx
      exact OpOK.same h (by simp [execOp, hu]) ⟨b, hb, rfl⟩ hm
    · rename_i i s k o hp
      cases hst
      rw [hp] at hx
      obtain ⟨hx, hm⟩ := hx
      obtain ⟨b, n, c, hb, hu⟩ := hx
      exact OpOK.same h (by simp [execOp, hu]) ⟨b, n, c, hb, rfl⟩ hm
    · rename_i f cs hp
      cases hst
      rw [hp] at hx
      obtain ⟨hx, hm⟩ := hx
      generalize hu : a.eval x = u at hx
      cases hx with
      | fn _ _ vs hl hh => exact OpOK.same h (by simp [execOp, hu]) (Rep.fn f cs vs hl hh) (fun i hi => hi.elim)
    · cases hst
  case binOp op t x y yt =>
    split at hst
    · rename_i p q hp hq
      split at hst
      · rename_i r' hr
        cases hst
        have hx := (h.ev x).1
        have hy := (h.ev y).1
        rw [hp] at hx
        rw [hq] at hy
        obtain ⟨z, h1, h2⟩ := run_binPV (P := P) hx hy x y hr
        exact OpOK.of_run rfl (RunOK.same h h1 h2 (fun i hi => hi.elim))
      · cases hst
    · cases hst
  case unOp op t x =>
    have hx := (h.ev x).1
    split at hst
    · rename_i b hb
      cases hst
      rw [hb] at hx
      generalize hu : a.eval x = u at hx
      cases hx
      exact OpOK.same h (by simp [execOp, hu, Op.unary]) (Rep.bool _) (fun i hi => hi.elim)
    · rename_i k n hb
      cases hst
      rw [hb] at hx
      generalize hu : a.eval x = u at hx
      cases hx
      exact OpOK.same h (by simp [execOp, hu, Op.unary, Op.intArith]) (Rep.int _ _) (fun i hi => hi.elim)
    · cases hst
  case convert s d x =>
    have hx := (h.ev x).1
    split at hst
    · rename_i ds k k' n hs hd hb
      cases hst
      rw [hb] at hx
      generalize hu : a.eval x = u at hx
      cases hx
      refine OpOK.same h (u := .int k (k.wrap n)) ?_ (Rep.int _ _) (fun i hi => hi.elim)
      cases ds <;> simp [execOp, hu, convert, run_underlying hs, run_underlying hd, Conv.intToInt]
    · rename_i l hs hd hb
      cases hst
      rw [hb] at hx
      generalize hu : a.eval x = u at hx
      cases hx
      exact OpOK.same h (by simp [execOp, hu, convert, run_underlying hs, run_underlying hd]) (Rep.str _) (fun i hi => hi.elim)
    · rename_i _ e hs hd
      split at hst
      · rename_i ys he hp
        split at hst
        · rename_i l hl
          cases hst
          obtain ⟨ns, rfl, rfl⟩ := bytesOf_row _ _ hl
          have hfl : ∀ ns : List Int, flat (ns.map (PV.int .u8)) = ns.map (PV.int .u8) := fun ns => by
            induction ns with
            | nil => rfl
            | cons n ns ih => simp only [List.map_cons, flat, List.flatMap_cons] at *; rw [ih]; rfl
          have key : (convert s d (a.eval x)).run P w = .ok (.string ⟨⟨ns.map (fun n => UInt8.ofNat n.toNat)⟩⟩) w := by
            rcases h.rowRead hp (h.ev x).1 with ⟨hu, hn⟩ | ⟨ad, c, sz, cells, hu, hc, hsz, hcell, hr, ha⟩
            · rw [hu, run_convert_bytes_string w s d e none 0 0 hs he hd]
              have : ns = [] := by simpa using hn
              subst this
              rfl
            · rw [hu, run_convert_bytes_string w s d e (some ad) _ c hs he hd]
              rw [hfl] at hr
              have hcl : cells = ns.map (Value.int .u8) := by
                apply List.ext_getElem?
                intro j
                by_cases hj : j < ns.length
                · have h1 : (ns.map (PV.int .u8))[j]? = some (.int .u8 ns[j]) := by simp [hj]
                  obtain ⟨z, h2⟩ : ∃ z, cells[j]? = some z := ⟨_, List.getElem?_eq_getElem (by rw [hr.1]; simpa using hj)⟩
                  have h3 := hr.2 j _ _ h1 h2
                  rw [h2]
                  cases h3
                  simp [hj]
                · rw [List.getElem?_eq_none (by rw [hr.1]; simpa using hj), List.getElem?_eq_none (by simpa using hj)]
              subst hcl
              have hrun := run_loadCells_list (P := P) w ad (ns.map (Value.int .u8)) hcell
              rw [run_bytesToString w ad _ c ns (by simpa using hrun)]
              have := push_all ns []
              simp only [List.nil_append] at this
              rw [← this]
              rfl
          exact OpOK.same h (by simp [execOp, key]) (Rep.str _) (fun i hi => hi.elim)
        · cases hst
      · cases hst
    · cases hst
  case makeFunc fn first caps =>
    cases fn <;> simp only [stepOp] at hst <;> try (cases hst; done)
    rename_i f
    split at hst
    · rename_i h0
      subst h0
      split at hst
      · rename_i ps hps
        cases hst
        have hrp := Rel.pvs h (vs := caps.toList.map a.eval) hps (by simp [St.evs]) (fun j c v hc hv => by
          simp only [St.evs, List.getElem?_map] at hc hv
          cases hx : caps.toList[j]? with
          | none => simp [hx] at hc
          | some x =>
            simp only [hx, Option.map_some, Option.some.injEq] at hc hv
            subst hc; subst hv
            exact (h.ev x).1)
        exact OpOK.of_run rfl ⟨.func (.func f) #[] ⟨caps.toList.map a.eval⟩, w, cv, by simp [Instr.makeFunc]; rw [← Array.toList_map], (h.pubs _).1, Rep.fn f ps _ hrp.1 hrp.2, fun i hi => hi.elim⟩
      · cases hst
    · cases hst
  case makeSlice t l c => exact OpOK.of_run rfl (h.makeOp (h.ev l).1 (h.ev c).1 hst)
  case slice t x lo hi mx =>
    have hor : ∀ (o : Option Operand), OptRep w (FS C σ.ob cv w) cv (o.map σ.ev) (o.map a.eval) := fun o => by
      cases o with
      | none => trivial
      | some y => exact (h.ev y).1
    split at hst
    · rename_i id sz l n hx
      have hv := (h.ev x).1
      rw [hx] at hv
      exact OpOK.of_run rfl (h.sliceVOp hv (hor lo) (hor hi) (hor mx) hst)
    · split at hst
      · refine OpOK.of_run rfl (h.sliceOp (ulo := lo.map a.eval) (uhi := hi.map a.eval) (h.ev x).1 ?_ ?_ hst)
        · cases lo with
          | none => trivial
          | some y => exact (h.ev y).1
        · cases hi with
          | none => trivial
          | some y => exact (h.ev y).1
      · cases hst
  case fieldAddr t x f =>
    split at hst
    · rename_i v hv
      cases hst
      exact OpOK.of_run rfl (h.fieldOp (h.ev x).1 (h.ev x).2 hv)
    · cases hst
  case field t x f =>
    have hx := (h.ev x).1
    split at hst
    · rename_i p hp
      split at hst
      · rename_i q hq
        cases hst
        rw [hp] at hx
        obtain ⟨z, h1, h2⟩ := run_field2 (P := P) hx hq
        exact OpOK.of_run rfl (RunOK.same h h1 h2 (fun i hi => hi.elim))
      · cases hst
    · cases hst
  case indexAddr t x i =>
    split at hst
    · rename_i v hv
      cases hst
      exact OpOK.of_run rfl (h.idxOp (h.ev x).1 (h.ev i).1 (h.ev x).2 hv)
    · cases hst
  case index t x i =>
    have hx := (h.ev x).1
    have hi := (h.ev i).1
    split at hst
    · rename_i l k n hu hp hq
      split at hst
      · rename_i h0
        split at hst
        · rename_i c hc
          cases hst
          rw [hp] at hx
          rw [hq] at hi
          generalize hux : a.eval x = u at hx
          generalize hui : a.eval i = v at hi
          cases hx; cases hi
          have hc' : (⟨⟨l⟩⟩ : ByteArray)[n.toNat]? = some c := by
            obtain ⟨hlt, he⟩ := List.getElem?_eq_some_iff.1 hc
            rw [getElem?_pos (⟨⟨l⟩⟩ : ByteArray) n.toNat (by exact hlt)]
            exact congrArg some he
          refine OpOK.same h (u := .int .u8 c.toNat) ?_ (Rep.int _ _) (fun i hi => hi.elim)
          simp [execOp, hux, hui, Instr.index, asIntOf, run_underlying hu, h0, hc']
        · cases hst
      · cases hst
    · cases hst
  case extract x k =>
    have hx := (h.ev x).1
    split at hst
    · rename_i ps hp
      split at hst
      · rename_i p hpk
        cases hst
        rw [hp] at hx
        obtain ⟨vs, hu, hr⟩ := hx
        obtain ⟨v, hv, hrep⟩ := hr.get hpk
        exact OpOK.of_run rfl (RunOK.same h (u := v) (by simp [hu, Instr.extract, hv]) hrep (fun i hi => hi.elim))
      · cases hst
    · cases hst
  case call c =>
    split at hst
    · rename_i b hb
      unfold OpOK
      simp only [execOp, resolve, hb, Sem.run_bind, Sem.run_pure, Result.andThen_ok, invoke]
      generalize (Array.map (fun x => _) c.args : Array Bool) = cs
      obtain ⟨u, w', cv', h1, h2, h3, h4⟩ := h.builtinOp2 (ty := ty) (cs := cs) (us := c.args.toList.map a.eval) (by simp [St.evs]) (fun j x v hx hv => by
        simp only [St.evs, List.getElem?_map] at hx hv
        cases ho : c.args.toList[j]? with
        | none => rw [ho] at hx; cases hx
        | some o =>
          rw [ho] at hx hv
          cases hx; cases hv
          exact (h.ev o).1) hst
      refine ⟨u, w', cv', .inl ?_, h2, h3, h4⟩
      have e : (List.map a.eval c.args.toList).toArray = Array.map a.eval c.args := by rw [← Array.toList_map]
      rw [e] at h1
      simpa using h1
    · cases hst

end
end Go.Proofs.YtglpemnejngkaaaVm
