/- The operations, on symbolic states: what only computes. -/
import Derived.Test.YtglpemnejngkaaaVmG
set_option linter.unusedVariables false
set_option linter.unusedSimpArgs false
namespace Go.Proofs.YtglpemnejngkaaaVm
open Go Classical

section
variable {P : Program} {C : Ctx} {σ : St} {a : Act} {w : World} {cv : Nat → Value}

theorem RunOK.same (h : Rel P C σ a w cv) {s : Sem Value} {u : Value} {r : AV} (hr : s.run P w = .ok u w) (hs : SRep w (FS C σ.ob cv w) cv r u) (hm : ∀ i, r.ment i → σ.ob i ≠ .free) : RunOK P C a s w σ r :=
  ⟨u, w, cv, hr, h, hs, hm⟩

/-! ### make: of one-cell elements -/
def stMake (P : Program) (σ : St) (i : Nat) (t : TypeId) (l c : AV) : Option (St × AV) :=
  match elOf P t, l, c with
  | some e, .val (.int _ n), .val (.int _ m) => match szOf P e, byOf P e, zeroOf P e with
    | some sz, some nb, some [z] => match z.pure? with
      | some p => if sz = 1 ∧ m = n ∧ 0 ≤ n ∧ nb * n.toNat ≤ 281474976710656 ∧ n ≤ 4611686018427387904 ∧ z.cell = true ∧ σ.isFree i = true then some (σ.setOb i (.row e (List.replicate n.toNat p)), .ref i) else none
      | none => none
    | _, _, _ => none
  | _, _, _ => none

theorem flat_replicate {p : PV} (hp : p.isAgg = false) (n : Nat) : flat (List.replicate n p) = List.replicate n p := by
  have e : p.cells = [p] := by cases p <;> first | rfl | (simp [PV.isAgg] at hp)
  induction n with
  | zero => rfl
  | succ n ih => simp only [List.replicate_succ, flat, List.flatMap_cons, e] at *; rw [ih]; rfl

theorem Rel.makeOp (h : Rel P C σ a w cv) {i : Nat} {t : TypeId} {l c : AV} {ul uc : Value} (hl : SRep w (FS C σ.ob cv w) cv l ul) (hc : SRep w (FS C σ.ob cv w) cv c uc)
    {σ' : St} {r : AV} (hst : stMake P σ i t l c = some (σ', r)) : RunOK P C a (Instr.makeSlice t ul uc) w σ' r := by
  unfold stMake at hst
  split at hst
  · rename_i e kl n kc m he
    have hu := elOf_under he
    cases hl; cases hc
    split at hst
    · rename_i sz nb z hsz hnb hz
      split at hst
      · rename_i p hp
        split at hst
        · rename_i hcc
          obtain ⟨rfl, rfl, h0, hb, hbig, hzc, hfr⟩ := hcc
          obtain ⟨rfl, rfl⟩ := Prod.mk.inj (Option.some.inj hst)
          obtain ⟨k, rfl⟩ := Int.eq_ofNat_of_zero_le h0
          simp only [Int.toNat_natCast] at *
          have hsz1 := hsz
          unfold szOf at hsz; unfold byOf at hnb; unfold zeroOf at hz
          cases hi : P.info? e with
          | none => simp [hi] at hsz
          | some inf =>
            simp only [hi, Option.map_some, Option.some.injEq] at hsz hnb hz
            cases hzz : inf.zero with
            | none => simp [hzz] at hz
            | some zv =>
              simp only [hzz, Option.some.injEq] at hz
              obtain ⟨v, hv⟩ : ∃ v, zv.cells = #[v] := by
                have : zv.cells.toList.length = 1 := by have := congrArg List.length hz; simpa using this
                match hq : zv.cells, this with
                | ⟨[v]⟩, _ => exact ⟨v, rfl⟩
              rw [hv] at hz
              simp at hz
              subst hz
              have hpa : p.isAgg = false := by
                have := purs_noagg (cs := [cAV v]) (ps := [p]) (by simp [purs, hp]) (fun c hc => by rw [List.mem_singleton.1 hc]; exact hzc) p (List.mem_singleton.2 rfl)
                exact this
              have hrv : Rep w (FS C σ.ob cv w) p v := by
                have := purs_reps (w := w) (F := FS C σ.ob cv w) (cv := cv) (cs := [cAV v]) (ps := [p]) (vs := [v]) (by simp [purs, hp]) rfl (fun j c x hc hx => by
                  cases j with
                  | zero => simp at hc hx; subst hc; subst hx; exact cAV_rep _ _ _ v
                  | succ j => simp at hc)
                exact this.2 0 p v rfl rfl
              have hbk : (inf.bytes : Int) * (k : Int) ≤ 281474976710656 := by
                have : ((inf.bytes * k : Nat) : Int) ≤ 281474976710656 := by rw [hnb]; omega
                rwa [Int.natCast_mul] at this
              have hrun := run_make (P := P) w t e inf zv hu hi hzz kl kc k k (by omega) (Int.le_refl _) hbk (by omega)
              rw [hv, Int.toNat_natCast, hsz, Nat.mul_one] at hrun
              have hl1 : (madeCells #[v] k).toList = List.replicate k v := toList_madeCells_one v k
              have hfl := flat_replicate hpa k
              obtain ⟨cv', k1, k2⟩ := h.newRow (isFree_free hfr) (e := e) (xs := List.replicate k p) (vs := List.replicate k v) hsz1 (by omega) (fun x hx => by
                rw [List.eq_of_mem_replicate hx]; cases p <;> first | rfl | (simp [PV.isAgg] at hpa)) (by
                rw [hfl]
                refine ⟨by simp, fun j q x hq hx => ?_⟩
                have e1 := List.eq_of_mem_replicate (List.mem_of_getElem? hq)
                have e2 := List.eq_of_mem_replicate (List.mem_of_getElem? hx)
                rw [e1, e2]; exact hrv) (fun c hc => by rw [hfl] at hc; rw [List.eq_of_mem_replicate hc]; exact hpa) (by simp [maxLen]; omega)
              refine ⟨_, _, cv', hrun, ?_, ?_, fun j hj => by have e1 : i = j := hj; subst e1; simp [St.setOb]⟩
              · rw [show (madeCells #[v] k) = ⟨List.replicate k v⟩ from Array.ext' hl1]; exact k1
              · show _ = cv' i; rw [k2]; simp
        · cases hst
      · cases hst
    · cases hst
  · cases hst

/-! ### addresses -/
def stField (P : Program) (t : TypeId) (f : Nat) (v : AV) : Option AV :=
    match fldOf P t f with
    | some (o, ft) => match szOf P ft, aggOf P ft with
      | some n, some ag => if 0 < n then match v with
        | .val (.ptr x) => match partPV ag n x.cells o with
          | some y => some (.val (.ptr y))
          | none => none
        | .adr i k => some (.adr i (k + o))
        | .ead i sz j k => some (.ead i sz j (k + o))
        | _ => none else none
      | _, _ => none
    | none => none

theorem fldOf_run {t : TypeId} {f o : Nat} {ft : TypeId} (h : fldOf P t f = some (o, ft)) {n : Nat} (hn : szOf P ft = some n) (h0 : 0 < n) {ad : Addr} :
    (Instr.fieldAt t (.pointer (some ad)) f).run P w = .ok (.pointer (some (ad.add o))) w := by
  unfold fldOf at h
  split at h
  · rename_i fs hu
    split at h
    · rename_i x hx
      simp only [Option.some.injEq, Prod.mk.injEq] at h
      obtain ⟨rfl, rfl⟩ := h
      have : n ≠ 0 := by omega
      simp [Instr.fieldAt, run_underlying hu, hx, Instr.sureAddr, fieldPlace, run_sizeOf hn, this]
    · cases h
  · cases h

theorem Rel.fieldOp (h : Rel P C σ a w cv) {t : TypeId} {f : Nat} {v : AV} {u : Value} (hv : SRep w (FS C σ.ob cv w) cv v u) (hm : ∀ i, v.ment i → σ.ob i ≠ .free) {r : AV} (hst : stField P t f v = some r) :
    RunOK P C a (Instr.fieldAt t u f) w σ r := by
  unfold stField at hst
  split at hst
  · rename_i o ft hf
    split at hst
    · rename_i n ag hn hag
      split at hst
      · rename_i h0
        split at hst
        · rename_i x
          split at hst
          · rename_i y hy
            cases hst
            cases hv with
            | ptr _ ad cvs hF hl hcell ha hh =>
              have hr : Reps w (FS C σ.ob cv w) x.cells cvs := ⟨hl, hh⟩
              refine RunOK.same h (fldOf_run hf hn h0) ?_ (fun i hi => hi.elim)
              unfold partPV at hy
              split at hy
              · split at hy
                · rename_i hle
                  cases hy
                  have hs := hr.drop_take o n
                  exact Rep.ptr _ (ad.add o) ((cvs.drop o).take n) (by rw [add_block]; exact hF) hs.1 (cells_add hcell o n) (noagg_sub ha o n) hs.2
                · cases hy
              · obtain ⟨z, hz, hrz⟩ := hr.get hy
                have hya := ha y (List.mem_of_getElem? hy)
                have e : y.cells = [y] := by cases y <;> first | rfl | (simp [PV.isAgg] at hya)
                have hd : (cvs.drop o).take 1 = [z] := by
                  have hlt := (List.getElem?_eq_some_iff.1 hz)
                  obtain ⟨hlt, rfl⟩ := hlt
                  rw [List.drop_eq_getElem_cons hlt]; rfl
                have hc := cells_add hcell o 1
                rw [hd] at hc
                refine Rep.ptr y (ad.add o) [z] (by rw [add_block]; exact hF) (by rw [e]; rfl) hc (by rw [e]; simpa using hya) (fun i p q hp hq => ?_)
                rw [e] at hp
                cases i with
                | zero => simp at hp hq; subst hp; subst hq; exact hrz
                | succ i => simp at hp
          · cases hst
        · cases hst
          rename_i i k
          obtain ⟨b, hb, rfl⟩ := hv
          refine RunOK.same h (fldOf_run hf hn h0) ⟨b, hb, by rw [Addr_add_lit]⟩ (fun i hi => hm i hi)
        · cases hst
          rename_i i sz j k
          obtain ⟨b, m, c, hb, rfl⟩ := hv
          refine RunOK.same h (fldOf_run hf hn h0) ⟨b, m, c, hb, by rw [Addr_add_lit, Nat.add_assoc]⟩ (fun i hi => hm i hi)
        · cases hst
      · cases hst
    · cases hst
  · cases hst

def stIdx (P : Program) (σ : St) (t : TypeId) (v i : AV) : Option AV :=
  match i with
  | .val (.int _ n) => if 0 ≤ n then match elOf P t with
    | some e => match szOf P e, v with
      | some sz, .ref j => match σ.ob j with
        | .row _ xs => match xs[n.toNat]? with
          | some x => if x.cells.length = sz then some (.ead j sz n.toNat 0) else none
          | none => none
        | .prow xs => match xs[n.toNat]? with
          | some x => if x.cells.length = sz then some (.val (.ptr x)) else none
          | none => none
        | _ => none
      | some sz, .val (.row xs) => match xs[n.toNat]? with
        | some x => if x.cells.length = sz then some (.val (.ptr x)) else none
        | none => none
      | _, _ => none
    | none => none else none
  | _ => none

theorem run_indexAt {t e : TypeId} (hu : P.underlying t = some (.slice e)) {sz : Nat} (hsz : szOf P e = some sz) {ad : Addr} {len c : Nat} {k : IntKind} {n : Int} (h0 : 0 ≤ n) (hn : n < len) :
    (Instr.indexAt t (.slice (some ad) len c) (.int k n)).run P w = .ok (.pointer (some (ad.add (n.toNat * sz)))) w := by
  simp [Instr.indexAt, asIntOf, run_underlying hu, run_sizeOf hsz, h0, hn]

theorem elemRep {F : Nat → Prop} {ad : Addr} (hF : F ad.block) {xs : List PV} {cells : List Value} {sz : Nat} (hsz : ∀ x ∈ xs, x.cells.length = sz) (hr : Reps w F (flat xs) cells)
    (hcell : ∀ (j : Nat) (v : Value), cells[j]? = some v → w.cell? (ad.add j) = some v) (ha : ∀ c ∈ flat xs, c.isAgg = false) {i : Nat} {x : PV} (hx : xs[i]? = some x) :
    Rep w F (.ptr x) (.pointer (some (ad.add (i * sz)))) := by
  have hxf := flat_elem hsz hx
  have hs := hr.drop_take (i * sz) sz
  rw [hxf] at hs
  exact Rep.ptr x _ _ (by rw [add_block]; exact hF) hs.1 (cells_add hcell _ _) (fun c hc => ha c (by rw [← hxf] at hc; exact List.mem_of_mem_drop (List.mem_of_mem_take hc))) hs.2

theorem Rel.idxOp (h : Rel P C σ a w cv) {t : TypeId} {v i : AV} {u ui : Value} (hv : SRep w (FS C σ.ob cv w) cv v u) (hi : SRep w (FS C σ.ob cv w) cv i ui) (hm : ∀ j, v.ment j → σ.ob j ≠ .free)
    {r : AV} (hst : stIdx P σ t v i = some r) : RunOK P C a (Instr.indexAt t u ui) w σ r := by
  have rep : ∀ {xs : List PV} {v : Value} {n : Nat} {x : PV} {sz : Nat} {e : TypeId} {k : IntKind} {m : Int}, Rep w (FS C σ.ob cv w) (.row xs) v → xs[n]? = some x → x.cells.length = sz → elOf P t = some e → szOf P e = some sz → 0 ≤ m → m.toNat = n →
      RunOK P C a (Instr.indexAt t v (.int k m)) w σ (.val (.ptr x)) := by
    intro xs v n x sz e k m hr hx hxs he hsz h0 hmn
    cases hr with
    | rowNil => simp at hx
    | row _ ad c sz' cells hc hsz' hF hl hcell ha hh =>
      have hlt := (List.getElem?_eq_some_iff.1 hx).1
      obtain rfl : sz' = sz := by rw [← hsz' x (List.mem_of_getElem? hx)]; exact hxs
      have hF : FS C σ.ob cv w ad.block := hF.resolve_left (fun e => by subst e; simp at hx)
      have := elemRep hF hsz' ⟨hl, hh⟩ hcell ha hx
      refine RunOK.same h (run_indexAt (elOf_under he) hsz h0 (by omega)) (by rw [hmn]; exact this) (fun i hi => hi.elim)
  unfold stIdx at hst
  split at hst
  · rename_i k n
    cases hi
    split at hst
    · rename_i h0
      split at hst
      · rename_i e he
        split at hst
        · rename_i sz j hsz
          have e1 : u = cv j := hv
          subst e1
          have ho := h.obs j
          split at hst
          · rename_i e' xs hoj
            rw [hoj] at ho
            split at hst
            · rename_i x hx
              split at hst
              · rename_i hxs
                cases hst
                obtain ⟨sz', cells, g1, g2, g3, g4, g5, g6⟩ := ho
                have hlt := (List.getElem?_eq_some_iff.1 hx).1
                rcases g4.2 with ⟨_, hn⟩ | ⟨g, cap, cur, e1, hb0, hg, hnc, hcm, hcs, ht⟩
                · omega
                · refine RunOK.same h (u := .pointer (some ⟨g, n.toNat * sz + 0, none⟩)) ?_ ⟨g, _, _, e1, rfl⟩ (fun i hi => hm i hi)
                  rw [e1, run_indexAt (elOf_under he) hsz h0 (by omega), Addr_add_lit, Nat.zero_add, Nat.add_zero]
              · cases hst
            · cases hst
          · rename_i xs hoj
            rw [hoj] at ho
            split at hst
            · rename_i x hx
              split at hst
              · rename_i hxs
                cases hst
                exact rep ho hx hxs he hsz h0 rfl
              · cases hst
            · cases hst
          · cases hst
        · rename_i sz xs hsz
          split at hst
          · rename_i x hx
            split at hst
            · rename_i hxs
              cases hst
              exact rep hv hx hxs he hsz h0 rfl
            · cases hst
          · cases hst
        · cases hst
      · cases hst
    · cases hst
  · cases hst

/-! ### slicing -/
noncomputable def stSlice (P : Program) (σ : St) (t : TypeId) (x : AV) (lo hi : Option AV) : Option (St × AV) :=
  match x with
  | .val (.str s) => match lo, hi with
    | none, some (.val (.int _ n)) => if 0 ≤ n ∧ n ≤ s.length ∧ P.underlying t = some .string then some (σ, .val (.str (s.take n.toNat))) else none
    | some (.val (.int _ n)), none => if 0 ≤ n ∧ n ≤ s.length ∧ P.underlying t = some .string then some (σ, .val (.str (s.drop n.toNat))) else none
    | some (.val (.int _ m)), some (.val (.int _ n)) => if 0 ≤ m ∧ m ≤ n ∧ n ≤ s.length ∧ P.underlying t = some .string then some (σ, .val (.str ((s.take n.toNat).drop m.toNat))) else none
    | _, _ => none
  | _ => match σ.pv x, elOf P t with
    | some (.row xs), some e => match szOf P e, lo, hi with
      | some sz, none, some (.val (.int _ n)) => if 0 ≤ n ∧ n ≤ xs.length then some (σ.pub x, .val (.row (xs.take n.toNat))) else none
      | some sz, some (.val (.int _ m)), none => if 0 ≤ m ∧ m ≤ xs.length ∧ ∀ x ∈ xs, x.cells.length = sz then some (σ.pub x, .val (.row (xs.drop m.toNat))) else none
      | some sz, some (.val (.int _ m)), some (.val (.int _ n)) => if 0 ≤ m ∧ m ≤ n ∧ n ≤ xs.length ∧ ∀ x ∈ xs, x.cells.length = sz then some (σ.pub x, .val (.row ((xs.take n.toNat).drop m.toNat))) else none
      | _, _, _ => none
    | _, _ => none

theorem elem_of {t e : TypeId} (h : elOf P t = some e) : P.underlying t = some (.slice (P.elem t)) ∧ P.elem t = e := by
  have hu := elOf_under h
  have : P.elem t = e := by simp [Program.elem, hu]
  exact ⟨by rw [this]; exact hu, this⟩

/-- A cut of a row. -/
theorem cutRep {F : Nat → Prop} {xs : List PV} {u : Value} (hr : Rep w F (.row xs) u) {l n sz : Nat} (hln : l ≤ n) (hn : n ≤ xs.length) (hs : l = 0 ∨ ∀ x ∈ xs, x.cells.length = sz) :
    ∃ base len c, u = .slice base len c ∧ len = xs.length ∧ n ≤ c ∧ Rep w F (.row ((xs.take n).drop l)) (sliced base l n c sz) := by
  cases hr with
  | rowNil =>
    simp at hn
    subst hn
    obtain rfl : l = 0 := by omega
    exact ⟨none, 0, 0, rfl, rfl, Nat.le_refl _, by simpa [sliced] using Rep.rowNil⟩
  | row _ ad c sz' cells hc hsz' hF hl hcell ha hh =>
    refine ⟨some ad, _, c, rfl, rfl, by omega, ?_⟩
    have hlen : ((xs.take n).drop l).length = n - l := by rw [List.length_drop, List.length_take]; omega
    have hsub : ∀ x ∈ (xs.take n).drop l, x.cells.length = sz' := fun x hx => hsz' x (List.mem_of_mem_take (List.mem_of_mem_drop hx))
    have hlsz : l * sz = l * sz' := by
      rcases hs with rfl | hs
      · simp
      · cases xs with
        | nil => simp at hn; have : l = 0 := by omega
                 subst this; simp
        | cons x xs => rw [← hs x (List.mem_cons_self ..), ← hsz' x (List.mem_cons_self ..)]
    have hr : Reps w F (flat xs) cells := ⟨hl, hh⟩
    have hfl : flat ((xs.take n).drop l) = ((flat xs).drop (l * sz')).take ((n - l) * sz') := by
      have h1 : ∀ x ∈ xs.take n, x.cells.length = sz' := fun x hx => hsz' x (List.mem_of_mem_take hx)
      rw [flat_drop h1, flat_take hsz', List.drop_take, Nat.sub_mul]
    have key : ∀ ad' : Addr, (∀ (j : Nat) (v : Value), ((cells.drop (l * sz')).take ((n - l) * sz'))[j]? = some v → w.cell? (ad'.add j) = some v) → (xs = [] ∨ F ad'.block) → Rep w F (.row ((xs.take n).drop l)) (.slice (some ad') (n - l) (c - l)) := by
      intro ad' hc' hF'
      have hs := hr.drop_take (l * sz') ((n - l) * sz')
      have := Rep.row ((xs.take n).drop l) ad' (c - l) sz' _ (by rw [hlen]; omega) hsub (hF'.imp (fun e => by rw [e]; simp) id) (by rw [hfl]; exact hs.1) hc' (by rw [hfl]; exact noagg_sub ha _ _) (by rw [hfl]; exact hs.2)
      rwa [hlen] at this
    unfold sliced
    split
    · rename_i hcl
      refine key ad (fun j v hj => ?_) hF
      have : n - l = 0 := by omega
      rw [this] at hj; simp at hj
    · simp only [Option.map_some]
      rw [hlsz]
      exact key _ (cells_add hcell _ _) (by rw [add_block]; exact hF)

theorem run_slice_str {s : List UInt8} {t : TypeId} (hu : P.underlying t = some .string) (lo hi : Option Value) (l n : Nat) (hlo : (match lo with | some (.int _ m) => m = (l : Int) | none => l = 0 | _ => False))
    (hhi : (match hi with | some (.int _ m) => m = (n : Int) | none => n = s.length | _ => False)) (hln : l ≤ n) (hn : n ≤ s.length) :
    (Instr.sliceAt t (.string ⟨⟨s⟩⟩) lo hi none).run P w = .ok (.string ⟨⟨(s.take n).drop l⟩⟩) w := by
  have hsz : (⟨⟨s⟩⟩ : ByteArray).size = s.length := rfl
  have hext : (⟨⟨s⟩⟩ : ByteArray).extract l n = ⟨⟨(s.take n).drop l⟩⟩ := by
    apply ByteArray.ext
    simp only [ByteArray.data_extract]
    apply Array.ext'
    simp [List.drop_take]
  cases lo with
  | none =>
    subst hlo
    cases hi with
    | none =>
      subst hhi
      simp [Instr.sliceAt, Instr.slice, run_underlying hu, Instr.sliceBounds, hsz]
    | some v =>
      cases v <;> simp only at hhi
      subst hhi
      simp [Instr.sliceAt, Instr.slice, run_underlying hu, Instr.sliceBounds, hsz, run_sliceBound, hn, Int.toNat_natCast]
      simpa using hext
  | some v =>
    cases v <;> simp only at hlo
    subst hlo
    cases hi with
    | none =>
      subst hhi
      simp [Instr.sliceAt, Instr.slice, run_underlying hu, Instr.sliceBounds, hsz, run_sliceBound, hln, Int.toNat_natCast]
      simpa using hext
    | some v =>
      cases v <;> simp only at hhi
      subst hhi
      simp [Instr.sliceAt, Instr.slice, run_underlying hu, Instr.sliceBounds, hsz, run_sliceBound, hln, hn, Int.toNat_natCast]
      exact hext

theorem Rel.sliceOp (h : Rel P C σ a w cv) {t : TypeId} {x : AV} {lo hi : Option AV} {u : Value} {ulo uhi : Option Value} (hx : SRep w (FS C σ.ob cv w) cv x u)
    (hlo : match lo, ulo with | some p, some q => SRep w (FS C σ.ob cv w) cv p q | none, none => True | _, _ => False)
    (hhi : match hi, uhi with | some p, some q => SRep w (FS C σ.ob cv w) cv p q | none, none => True | _, _ => False)
    {σ' : St} {r : AV} (hst : stSlice P σ t x lo hi = some (σ', r)) : RunOK P C a (Instr.sliceAt t u ulo uhi none) w σ' r := by
  unfold stSlice at hst
  split at hst
  · rename_i s
    cases hx
    split at hst
    · rename_i k n
      cases ulo <;> cases uhi <;> simp only at hlo hhi
      cases hhi
      split at hst
      · rename_i hc
        obtain ⟨rfl, rfl⟩ := Prod.mk.inj (Option.some.inj hst)
        refine RunOK.same h (run_slice_str hc.2.2 none _ 0 n.toNat rfl (by simp only; omega) (by omega) (by omega)) ?_ (fun i hi => hi.elim)
        exact Rep.str (w := w) (F := FS C σ.ob cv w) (s.take n.toNat)
      · cases hst
    · rename_i k n
      cases ulo <;> cases uhi <;> simp only at hlo hhi
      cases hlo
      split at hst
      · rename_i hc
        obtain ⟨rfl, rfl⟩ := Prod.mk.inj (Option.some.inj hst)
        refine RunOK.same h (run_slice_str hc.2.2 _ none n.toNat s.length (by simp only; omega) rfl (by omega) (by omega)) ?_ (fun i hi => hi.elim)
        show Rep _ _ (.str _) _; rw [List.take_length]; exact Rep.str (w := w) (F := FS C σ.ob cv w) (s.drop n.toNat)
      · cases hst
    · rename_i k m k' n
      cases ulo <;> cases uhi <;> simp only at hlo hhi
      cases hlo; cases hhi
      split at hst
      · rename_i hc
        obtain ⟨rfl, rfl⟩ := Prod.mk.inj (Option.some.inj hst)
        exact RunOK.same h (run_slice_str hc.2.2.2 _ _ m.toNat n.toNat (by simp only; omega) (by simp only; omega) (by omega) (by omega)) (Rep.str _) (fun i hi => hi.elim)
      · cases hst
    · cases hst
  · split at hst
    · rename_i xs e hxs he
      obtain ⟨hu, hel⟩ := elem_of he
      have hr := h.pv hxs hx
      have hpub := (h.pub x).1
      split at hst
      · rename_i sz k n hsz
        cases ulo <;> cases uhi <;> simp only at hlo hhi
        cases hhi
        split at hst
        · rename_i hc
          obtain ⟨rfl, rfl⟩ := Prod.mk.inj (Option.some.inj hst)
          obtain ⟨base, len, c, rfl, rfl, hnc, hr2⟩ := cutRep hr (l := 0) (n := n.toNat) (sz := sz) (by omega) (by omega) (.inl rfl)
          rw [List.drop_zero] at hr2
          refine ⟨_, w, cv, ?_, hpub, hr2, fun i hi => hi.elim⟩
          rw [run_sliceAt_slice w t _ _ _ _ hu, run_slice_h w t base _ c hu k n hc.1 (by omega), hel, run_sizeOf hsz]
          rfl
        · cases hst
      · rename_i sz k m hsz
        cases ulo <;> cases uhi <;> simp only at hlo hhi
        cases hlo
        split at hst
        · rename_i hc
          obtain ⟨rfl, rfl⟩ := Prod.mk.inj (Option.some.inj hst)
          obtain ⟨base, len, c, rfl, rfl, hnc, hr2⟩ := cutRep hr (l := m.toNat) (n := xs.length) (sz := sz) (by omega) (by omega) (.inr hc.2.2)
          rw [List.take_length] at hr2
          refine ⟨_, w, cv, ?_, hpub, hr2, fun i hi => hi.elim⟩
          rw [run_sliceAt_slice w t _ _ _ _ hu, run_slice_l w t base _ c hu k m hc.1 hc.2.1, hel, run_sizeOf hsz]
          rfl
        · cases hst
      · rename_i sz k m k' n hsz
        cases ulo <;> cases uhi <;> simp only at hlo hhi
        cases hlo; cases hhi
        split at hst
        · rename_i hc
          obtain ⟨rfl, rfl⟩ := Prod.mk.inj (Option.some.inj hst)
          obtain ⟨base, len, c, rfl, rfl, hnc, hr2⟩ := cutRep hr (l := m.toNat) (n := n.toNat) (sz := sz) (by omega) (by omega) (.inr hc.2.2.2)
          refine ⟨_, w, cv, ?_, hpub, hr2, fun i hi => hi.elim⟩
          rw [run_sliceAt_slice w t _ _ _ _ hu, run_slice_lh w t base _ c hu k k' m n hc.1 hc.2.1 (by omega), hel, run_sizeOf hsz]
          rfl
        · cases hst
      · cases hst
    · cases hst

end
end Go.Proofs.YtglpemnejngkaaaVm
