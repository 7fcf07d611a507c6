/- Rows of the call's own, seen through slices of them: cut, copied into, cleared, grown. -/
import Derived.Test.YtglpemnejngkaaaVmH
import Derived.Lib.AppendZerosOnto
set_option linter.unusedVariables false
set_option linter.unusedSimpArgs false
namespace Go.Proofs.YtglpemnejngkaaaVm
open Go Classical

/-- Elements, overwritten from the p-th on. -/
def over (xs zs : List PV) (p : Nat) : List PV := xs.take p ++ zs ++ xs.drop (p + zs.length)

theorem over_length {xs zs : List PV} {p : Nat} (hp : p ≤ xs.length) : (over xs zs p).length = max xs.length (p + zs.length) := by
  simp only [over, List.length_append, List.length_take, List.length_drop]; omega

theorem over_flat {xs zs : List PV} {p sz : Nat} (hx : ∀ x ∈ xs, x.cells.length = sz) (hz : ∀ z ∈ zs, z.cells.length = sz) :
    flat (over xs zs p) = (flat xs).take (p * sz) ++ flat zs ++ (flat xs).drop (p * sz + (flat zs).length) := by
  rw [over, flat_append, flat_append, flat_take hx, flat_drop hx, flat_length hz, Nat.add_mul]

theorem St.eq_of' {σ τ : St} (h1 : ∀ t, σ.sl t = τ.sl t) (h2 : ∀ k, σ.ob k = τ.ob k) (h3 : σ.ck = τ.ck) : σ = τ := by
  cases σ; cases τ
  simp only at h1 h2 h3
  obtain rfl := funext h1
  obtain rfl := funext h2
  rw [h3]

def cv0 : Nat → Value := fun _ => .slice none 0 0
section
variable {P : Program} {C : Ctx} {σ : St} {a : Act} {w : World} {cv : Nat → Value}

theorem Rel.writeK (h : Rel P C σ a w cv) {id : Nat} {e : TypeId} {xs : List PV} {k : Nat} (ho : σ.ob id = .rowk e xs k) {zs : List PV} {p sz : Nat} (hsz : szOf P e = some sz) (hp : p ≤ xs.length)
    (hT : p + zs.length ≤ xs.length + k) (hz : ∀ z ∈ zs, z.cells.length = sz) {vs : List Value} (hr : Reps w (FS C σ.ob cv w) (flat zs) vs) (hna : ∀ c ∈ flat zs, c.isAgg = false)
    {g n T : Nat} (hcv : cv id = .slice (some ⟨g, 0, none⟩) n T) :
    ∃ w', (storeCells ⟨g, p * sz, none⟩ vs).run P w = .ok () w' ∧ Rel P C (σ.setOb id (.rowk e (over xs zs p) (xs.length + k - (over xs zs p).length))) a w' cv := by
  have ho' := h.obs id
  rw [ho] at ho'
  obtain ⟨sz', cells, h1, h2, h3, h4, h5, h6, h7⟩ := ho'
  obtain rfl : sz' = sz := Option.some.inj (h1.symm.trans hsz)
  rcases h7 with ⟨e1, _⟩ | ⟨g', n', cur, e1, hg, hm, hcs, ht⟩
  · rw [hcv] at e1; cases e1
  · rw [hcv] at e1
    cases e1
    have hvl : vs.length = zs.length * sz' := by rw [hr.1, flat_length hz]
    have hone : ∀ v ∈ vs, v.oneCell' = true := fun v hv => by
      obtain ⟨j, hj⟩ := List.getElem?_of_mem hv
      have hlt : j < (flat zs).length := by rw [← hr.1]; exact (List.getElem?_eq_some_iff.1 hj).1
      exact Rep.oneCell (hr.2 j _ v (List.getElem?_eq_getElem hlt) hj) (hna _ (List.getElem_mem hlt))
    have hle : p * sz' + vs.length ≤ cur.toList.length := by
      have hcl : cur.toList.length = (xs.length + k) * sz' := hcs
      rw [hcl, hvl, ← Nat.add_mul]; exact Nat.mul_le_mul_right _ hT
    have hrun := storeCells_at (P := P) (arr := cur.toList) (by simpa using hg) vs hle hone
    have hol := over_length (zs := zs) hp
    refine ⟨_, hrun, ?_⟩
    refine h.mod id (by rw [ho]; rfl) _ (by simp) (grown_setRow w g _) (fun b hb => by cases hb; rw [hcv]; rfl) (fun F' hF _ hS => ?_) (fun j hj => hj.elim)
    have h5' := h5.mono hS hF
    have hr' := hr.mono hS hF
    have hfl := over_flat (p := p) h3 hz
    have hfx := flat_length h3
    have hpz : p * sz' ≤ xs.length * sz' := Nat.mul_le_mul_right _ hp
    refine ⟨sz', cells.take (p * sz') ++ vs ++ cells.drop (p * sz' + vs.length), hsz, h2, fun x hx => ?_, ?_, ?_, fun c hc => ?_, .inr ⟨g, n, _, by rw [hcv]; congr 1; omega, setRow_heap w g cur _ e _ hg, by omega, ?_, ?_⟩⟩
    · simp only [over, List.mem_append] at hx
      rcases hx with (hx | hx) | hx
      · exact h3 x (List.mem_of_mem_take hx)
      · exact hz x hx
      · exact h3 x (List.mem_of_mem_drop hx)
    · rw [hol]
      simp only [List.length_append, List.length_take, List.length_drop, h4, hvl]
      rcases Nat.le_total xs.length (p + zs.length) with hle' | hle'
      · have : xs.length * sz' ≤ (p + zs.length) * sz' := Nat.mul_le_mul_right _ hle'
        rw [Nat.add_mul] at this
        rw [Nat.max_eq_right hle', Nat.add_mul]
        omega
      · have : (p + zs.length) * sz' ≤ xs.length * sz' := Nat.mul_le_mul_right _ hle'
        rw [Nat.add_mul] at this
        rw [Nat.max_eq_left hle']
        omega
    · rw [hfl, ← hr.1]
      exact ((h5'.take (p * sz')).append hr').append (h5'.drop (p * sz' + vs.length))
    · rw [hfl] at hc
      simp only [List.mem_append] at hc
      rcases hc with (hc | hc) | hc
      · exact h6 c (List.mem_of_mem_take hc)
      · exact hna c hc
      · exact h6 c (List.mem_of_mem_drop hc)
    · show (cur.toList.take (p * sz') ++ vs ++ cur.toList.drop (p * sz' + vs.length)).length = _
      simp only [List.length_append, List.length_take, List.length_drop]
      have e2 : (over xs zs p).length + (xs.length + k - (over xs zs p).length) = xs.length + k := by omega
      rw [e2, ← hcs]
      have := Array.length_toList (xs := cur)
      omega
    · show (cur.toList.take (p * sz') ++ vs ++ cur.toList.drop (p * sz' + vs.length)).take ((over xs zs p).length * sz') = _
      rw [hol, ← ht]
      have hcl := Array.length_toList (xs := cur)
      rcases Nat.le_total xs.length (p + zs.length) with hle' | hle'
      · have hle2 : xs.length * sz' ≤ p * sz' + vs.length := by rw [hvl, ← Nat.add_mul]; exact Nat.mul_le_mul_right _ hle'
        rw [Nat.max_eq_right hle', Nat.add_mul, ← hvl, List.take_take, Nat.min_eq_left hpz, List.take_append_of_le_length (by simp only [List.length_append, List.length_take]; omega),
          List.take_of_length_le (by simp only [List.length_append, List.length_take]; omega), List.drop_take, Nat.sub_eq_zero_of_le hle2]
        simp
      · have hle2 : p * sz' + vs.length ≤ xs.length * sz' := by rw [hvl, ← Nat.add_mul]; exact Nat.mul_le_mul_right _ hle'
        rw [Nat.max_eq_left hle', List.take_take, Nat.min_eq_left hpz, List.take_append, List.take_of_length_le (by simp only [List.length_append, List.length_take]; omega), List.drop_take]
        congr 2
        simp only [List.length_append, List.length_take]
        omega

/-! ### cut -/
def bnd : Option AV → Nat → Option Nat
  | none, d => some d
  | some (.val (.int _ n)), _ => if 0 ≤ n then some n.toNat else none
  | _, _ => none

noncomputable def stSliceV (P : Program) (σ : St) (t : TypeId) (id sz l n : Nat) (lo hi mx : Option AV) : Option (St × AV) :=
  match σ.ob id, elOf P t with
  | .rowk e xs k, some e' => match bnd lo 0, bnd hi n, mx with
    | some x, some y, none => if e' = e ∧ szOf P e = some sz ∧ x ≤ y ∧ l + y ≤ xs.length + k then some (σ, .vw id sz (l + x) (y - x)) else none
    | some x, some y, some m => match bnd (some m) 0 with
      | some z => if e' = e ∧ szOf P e = some sz ∧ x ≤ y ∧ y ≤ z ∧ l + z ≤ xs.length + k ∧ hi.isSome = true then some (σ, .any) else none
      | none => none
    | _, _, _ => none
  | _, _ => none

theorem run_bound {x : AV} {u : Value} {F : Nat → Prop} (hx : SRep w F cv x u) {d m cap : Nat} (hb : bnd (some x) d = some m) (hc : m ≤ cap) (code : BoundsCode) : (Instr.sliceBound u cap code).run P w = .ok m w := by
  unfold bnd at hb
  split at hb
  · rename_i heq; cases heq
  · rename_i k n d' heq
    cases heq
    split at hb
    · rename_i h0
      cases hb
      cases hx
      rw [run_sliceBound]
      · exact h0
      · omega
    · cases hb
  · cases hb

/-- A bound of a cut, if it stands there. -/
def OptRep (w : World) (F : Nat → Prop) (cv : Nat → Value) : Option AV → Option Value → Prop
  | some x, some u => SRep w F cv x u
  | none, none => True
  | _, _ => False

theorem run_bounds {F : Nat → Prop} {len cap : Nat} {lo hi mx : Option AV} {ulo uhi umx : Option Value} (hlo : OptRep w F cv lo ulo) (hhi : OptRep w F cv hi uhi) (hmx : OptRep w F cv mx umx) {x y z : Nat}
    (h1 : bnd lo 0 = some x) (h2 : bnd hi len = some y) (h3 : bnd mx cap = some z) (hxy : x ≤ y) (hyz : y ≤ z) (hz : z ≤ cap) (hm : mx.isSome = true → hi.isSome = true) :
    (Instr.sliceBounds true len cap ulo uhi umx).run P w = .ok (x, y, z) w := by
  cases lo <;> cases ulo <;> simp only [OptRep] at hlo <;> cases hi <;> cases uhi <;> simp only [OptRep] at hhi <;> cases mx <;> cases umx <;> simp only [OptRep] at hmx <;>
    simp only [bnd, Option.some.injEq, Option.isSome_some, Option.isSome_none, Bool.false_eq_true, forall_const, imp_false, not_true_eq_false] at h1 h2 h3 hm <;> first
    | (subst h1; subst h2; subst h3; simp [Instr.sliceBounds]; done)
    | (subst h1; subst h2; have q3 := run_bound (P := P) hmx h3 hz; simp [Instr.sliceBounds, q3]; done)
    | (subst h1; subst h3; have q2 := fun c => run_bound (P := P) hhi h2 (Nat.le_trans hyz hz) c; simp [Instr.sliceBounds, q2]; done)
    | (subst h2; subst h3; have q1 := fun c => run_bound (P := P) hlo h1 hxy c; simp [Instr.sliceBounds, q1]; done)
    | (subst h1; have q3 := fun c => run_bound (P := P) hmx h3 hz c; have q2 := fun c => run_bound (P := P) hhi h2 hyz c; simp [Instr.sliceBounds, q3, q2]; done)
    | (subst h3; have q1 := fun c => run_bound (P := P) hlo h1 hxy c; have q2 := fun c => run_bound (P := P) hhi h2 (Nat.le_trans hyz hz) c; simp [Instr.sliceBounds, q1, q2]; done)
    | (have q1 := fun c => run_bound (P := P) hlo h1 hxy c; have q2 := fun c => run_bound (P := P) hhi h2 hyz c; have q3 := fun c => run_bound (P := P) hmx h3 hz c; simp [Instr.sliceBounds, q1, q2, q3]; done)

theorem rowk_cap (h : Rel P C σ a w cv) {id : Nat} {e : TypeId} {xs : List PV} {k : Nat} (ho : σ.ob id = .rowk e xs k) : (cv id = .slice none 0 0 ∧ xs = [] ∧ k = 0) ∨ ∃ g n, cv id = .slice (some ⟨g, 0, none⟩) n (xs.length + k) := by
  have ho' := h.obs id
  rw [ho] at ho'
  obtain ⟨sz', cells, h1, h2, h3, h4, h5, h6, h7⟩ := ho'
  rcases h7 with h7 | ⟨g', n', cur, e1, _⟩
  · exact .inl h7
  · exact .inr ⟨g', n', e1⟩

theorem Rel.sliceVOp (h : Rel P C σ a w cv) {t : TypeId} {id sz l n : Nat} {lo hi mx : Option AV} {u : Value} {ulo uhi umx : Option Value} (hx : SRep w (FS C σ.ob cv w) cv (.vw id sz l n) u)
    (hlo : OptRep w (FS C σ.ob cv w) cv lo ulo) (hhi : OptRep w (FS C σ.ob cv w) cv hi uhi) (hmx : OptRep w (FS C σ.ob cv w) cv mx umx) {σ' : St} {r : AV} (hst : stSliceV P σ t id sz l n lo hi mx = some (σ', r)) :
    RunOK P C a (Instr.sliceAt t u ulo uhi umx) w σ' r := by
  unfold stSliceV at hst
  split at hst
  · rename_i e xs k e' ho he
    obtain ⟨hu, hel⟩ := elem_of he
    have hnf : σ.ob id ≠ .free := by rw [ho]; simp
    -- the value of a cut
    have main : ∀ (x y z : Nat), x ≤ y → y ≤ z → l + z ≤ xs.length + k → e' = e → szOf P e = some sz → bnd lo 0 = some x → bnd hi n = some y → (mx = none → l + z = xs.length + k) → (∀ d, mx.isSome = true → bnd mx d = some z) → (mx.isSome = true → hi.isSome = true) →
        ∃ v, (Instr.sliceAt t u ulo uhi umx).run P w = .ok v w ∧ (mx = none → SRep w (FS C σ.ob cv w) cv (.vw id sz (l + x) (y - x)) v) := by
      intro x y z hxy hyz hlz hee hsz h1 h2 h3 h4 h5
      have hb3 : ∀ cap, cap + l = xs.length + k → bnd mx cap = some z := by
        intro cap hc
        cases mx with
        | none => simp only [bnd]; congr 1; have := h3 rfl; omega
        | some m => exact h4 cap rfl
      rcases hx with ⟨c1, rfl, rfl, rfl⟩ | ⟨b, n', c, o, c1, c2, c3, rfl⟩
      · have hT : xs.length + k = 0 := by
          rcases rowk_cap h ho with ⟨_, hxs, hk⟩ | ⟨g, m, c1'⟩
          · simp [hxs, hk]
          · rw [c1] at c1'; cases c1'
        have hz0 : z = 0 := by omega
        have hy0 : y = 0 := by omega
        have hx0 : x = 0 := by omega
        subst hz0; subst hy0; subst hx0
        refine ⟨.slice none 0 0, ?_, fun _ => .inl ⟨c1, rfl, rfl, rfl⟩⟩
        rw [run_sliceAt_slice w t _ _ _ _ hu, run_slice_any w t none 0 0 hu, run_bounds (P := P) hlo hhi hmx h1 h2 (hb3 0 (by omega)) hxy hyz (Nat.le_refl _) h5]
        simp only [Result.andThen_ok, hel, hee, run_sizeOf hsz, sliced]
        simp
      · have hT : c = xs.length + k := by
          rcases rowk_cap h ho with ⟨c1', _⟩ | ⟨g, m, c1'⟩
          · rw [c1] at c1'; cases c1'
          · rw [c1] at c1'; cases c1'; rfl
        refine ⟨sliced (some ⟨b, o, none⟩) x y z sz, ?_, fun hmn => .inr ⟨b, n', c, if z = x then o else o + x * sz, c1, by omega, ?_, ?_⟩⟩
        · rw [run_sliceAt_slice w t _ _ _ _ hu, run_slice_any w t _ _ _ hu, run_bounds (P := P) hlo hhi hmx h1 h2 (hb3 (c - l) (by omega)) hxy hyz (by omega) h5]
          simp only [Result.andThen_ok, hel, hee, run_sizeOf hsz]
        · have hz := h3 hmn
          by_cases hzx : z = x
          · rw [if_pos hzx]
            rcases c3 with c3 | ⟨c3, c4, c5⟩
            · by_cases h0 : l + x = 0
              · left
                have hl0 : l = 0 := by omega
                rw [h0, c3, hl0]
              · exact .inr ⟨by omega, by omega, by omega⟩
            · exact .inr ⟨by omega, by omega, by omega⟩
          · rw [if_neg hzx]
            rcases c3 with c3 | ⟨c3, c4, _⟩
            · left; rw [c3, Nat.add_mul]
            · omega
        · have hz := h3 hmn
          unfold sliced
          by_cases hzx : z = x
          · rw [if_pos hzx, if_pos hzx]; congr 1; omega
          · rw [if_neg hzx, if_neg hzx]
            simp only [Option.map_some]
            rw [Addr_add_lit]
            congr 1; omega
    split at hst
    · rename_i x y h1 h2
      split at hst
      · rename_i hc
        obtain ⟨rfl, rfl⟩ := Prod.mk.inj (Option.some.inj hst)
        obtain ⟨q1, q2, q3, q4⟩ := hc
        obtain ⟨v, hv, hs⟩ := main x y (xs.length + k - l) q3 (by omega) (by omega) q1 q2 h1 h2 (fun _ => by omega) (fun d hd => by cases hd) (fun hd => by cases hd)
        exact RunOK.same h hv (hs rfl) (fun i hi => by have : id = i := hi; subst this; exact hnf)
      · cases hst
    · rename_i x y m h1 h2
      split at hst
      · rename_i z hz
        split at hst
        · rename_i hc
          obtain ⟨rfl, rfl⟩ := Prod.mk.inj (Option.some.inj hst)
          obtain ⟨q1, q2, q3, q4, q5, q6⟩ := hc
          obtain ⟨v, hv, _⟩ := main x y z q3 q4 q5 q1 q2 h1 h2 (fun hd => by cases hd) (fun d _ => by
            revert hz; unfold bnd; split <;> simp_all) (fun _ => q6)
          exact RunOK.same h hv trivial (fun i hi => hi.elim)
        · cases hst
      · cases hst
    · cases hst
  · cases hst

/-! ### copied into, cleared, grown -/
/-- What is read from: the elements that are known, and how many there are. -/
noncomputable def srcOf (P : Program) (σ : St) (sz : Nat) : AV → Option (List PV × Nat)
  | .vw id sz2 l n => match σ.ob id with
    | .rowk e xs k => if szOf P e = some sz ∧ sz2 = sz then some ((xs.drop l).take n, n) else none
    | _ => none
  | .val (.rowp zs) => if ∀ z ∈ zs, z.cells.length = sz then some (zs, zs.length) else none
  | x => match σ.pv x with
    | some (.row zs) => if ∀ z ∈ zs, z.cells.length = sz then some (zs, zs.length) else none
    | _ => none

def ReadOK (σ : St) (C : Ctx) (cv : Nat → Value) (w : World) (sz : Nat) (zs : List PV) (m : Nat) (u : Value) : Prop :=
  zs.length ≤ m ∧ (∀ z ∈ zs, z.cells.length = sz) ∧ ((u = .slice none 0 0 ∧ m = 0) ∨ ∃ ad c cells, u = .slice (some ad) m c ∧ (∀ (j : Nat) (v : Value), cells[j]? = some v → w.cell? (ad.add j) = some v) ∧
    Reps w (FS C σ.ob cv w) (flat zs) cells ∧ ∀ c ∈ flat zs, c.isAgg = false)

theorem Rel.srcRead (h : Rel P C σ a w cv) {x : AV} {u : Value} {sz : Nat} {zs : List PV} {m : Nat} (hs : srcOf P σ sz x = some (zs, m)) (hv : SRep w (FS C σ.ob cv w) cv x u) : ReadOK σ C cv w sz zs m u := by
  have plainRow : ∀ {ys : List PV} {y : AV}, σ.pv y = some (.row ys) → SRep w (FS C σ.ob cv w) cv y u → (∀ z ∈ ys, z.cells.length = sz) → ReadOK σ C cv w sz ys ys.length u := by
    intro ys y hy hv hz
    refine ⟨Nat.le_refl _, hz, ?_⟩
    rcases h.rowRead hy hv with ⟨rfl, rfl⟩ | ⟨ad, c, sz', cells, rfl, _, _, q1, q2, q3⟩
    · exact .inl ⟨rfl, rfl⟩
    · exact .inr ⟨ad, c, cells, rfl, q1, q2, q3⟩
  unfold srcOf at hs
  split at hs
  · rename_i id sz2 l n
    split at hs
    · rename_i e xs k ho
      split at hs
      · rename_i hc
        obtain ⟨hsz, rfl⟩ := hc
        obtain ⟨rfl, rfl⟩ := Prod.mk.inj (Option.some.inj hs)
        have ho' := h.obs id
        rw [ho] at ho'
        obtain ⟨sz', cells, h1, h2, h3, h4, h5, h6, h7⟩ := ho'
        obtain rfl : sz' = sz2 := Option.some.inj (h1.symm.trans hsz)
        refine ⟨by simp only [List.length_take]; omega, fun z hz => h3 z (List.mem_of_mem_drop (List.mem_of_mem_take hz)), ?_⟩
        rcases hv with ⟨c1, rfl, rfl, rfl⟩ | ⟨b, n', c, o, c1, c2, c3, rfl⟩
        · exact .inl ⟨rfl, rfl⟩
        · rcases h7 with ⟨c1', _⟩ | ⟨g', n'', cur, c1', hg, hm, hcs, ht⟩
          · rw [c1] at c1'; cases c1'
          · rw [c1] at c1'; cases c1'
            have hfl : flat ((xs.drop l).take n) = ((flat xs).drop (l * sz')).take (n * sz') := by
              rw [flat_take (fun z hz => h3 z (List.mem_of_mem_drop hz)), flat_drop h3]
            refine .inr ⟨⟨b, o, none⟩, _, (cells.drop (l * sz')).take (n * sz'), rfl, fun j v hj => ?_, ?_, ?_⟩
            · rw [List.getElem?_take] at hj
              split at hj
              · rename_i hjn
                rw [List.getElem?_drop, ← ht, List.getElem?_take] at hj
                split at hj
                · rename_i hjx
                  rcases c3 with rfl | ⟨_, hn0, _⟩
                  · rw [Addr_add_lit, cell_of_row w b _ cur e (0, 0) hg]
                    simpa using hj
                  · rw [hn0] at hjn; omega
                · cases hj
              · cases hj
            · rw [hfl]; exact (h5.drop _).take _
            · intro c hc; rw [hfl] at hc; exact h6 c (List.mem_of_mem_drop (List.mem_of_mem_take hc))
      · cases hs
    · cases hs
  · rename_i zs'
    split at hs
    · rename_i hz
      obtain ⟨rfl, rfl⟩ := Prod.mk.inj (Option.some.inj hs)
      have hv : Rep w (FS C σ.ob cv w) (.rowp zs') u := hv
      cases hv
      rename_i hr
      exact plainRow (y := .val (.row zs')) rfl (by assumption) hz
    · cases hs
  · split at hs
    · rename_i zs' hp
      split at hs
      · rename_i hz
        obtain ⟨rfl, rfl⟩ := Prod.mk.inj (Option.some.inj hs)
        exact plainRow hp hv hz
      · cases hs
    · cases hs

/-- The first of them, as they are loaded. -/
theorem ReadOK.first {sz : Nat} {zs : List PV} {m q : Nat} {u : Value} (hr : ReadOK σ C cv w sz zs m u) (hq : q ≤ zs.length) :
    ∃ vs, (Builtin.firstCells sz q u).run P w = .ok ⟨vs⟩ w ∧ Reps w (FS C σ.ob cv w) (flat (zs.take q)) vs ∧ (∀ c ∈ flat (zs.take q), c.isAgg = false) ∧ vs.length = q * sz := by
  obtain ⟨h1, h2, h3⟩ := hr
  rcases h3 with ⟨rfl, rfl⟩ | ⟨ad, c, cells, rfl, h4, h5, h6⟩
  · have hq0 : q = 0 := by omega
    subst hq0
    exact ⟨[], by simp [Builtin.firstCells], by simpa [flat] using Reps.nil _ _, by simp [flat], by simp⟩
  · have hfl := flat_take h2 q
    have hcl : cells.length = zs.length * sz := by rw [h5.1, flat_length h2]
    have hl : (cells.take (q * sz)).length = q * sz := by
      rw [List.length_take, hcl]
      have := Nat.mul_le_mul_right sz hq
      omega
    refine ⟨cells.take (q * sz), ?_, by rw [hfl]; exact h5.take _, fun c hc => by rw [hfl] at hc; exact h6 c (List.mem_of_mem_take hc), hl⟩
    have := run_loadCells_list (P := P) w ad (cells.take (q * sz)) (fun j v hj => by
      rw [List.getElem?_take] at hj
      split at hj
      · exact h4 j v hj
      · cases hj)
    rw [hl] at this
    simp [Builtin.firstCells, this]

noncomputable def stCopyV (P : Program) (σ : St) (t : TypeId) (id sz l n : Nat) (y : AV) : Option (St × AV) :=
  match σ.ob id, elOf P t, srcOf P σ sz y with
  | .rowk e xs k, some e', some (zs, m) => if e' = e ∧ szOf P e = some sz ∧ l ≤ xs.length ∧ l + min m n ≤ xs.length + k ∧ min m n ≤ zs.length then
      some (σ.setOb id (.rowk e (over xs (zs.take (min m n)) l) (xs.length + k - (over xs (zs.take (min m n)) l).length)), .val (.int .i64 (min m n : Nat))) else none
  | _, _, _ => none

theorem Rel.copyVOp (h : Rel P C σ a w cv) {t t2 ty : TypeId} {id sz l n : Nat} {y : AV} {u uy : Value} (hx : SRep w (FS C σ.ob cv w) cv (.vw id sz l n) u) (hy : SRep w (FS C σ.ob cv w) cv y uy)
    {σ' : St} {r : AV} (hst : stCopyV P σ t id sz l n y = some (σ', r)) : RunOK P C a (Builtin.copy_ #[t, t2] ty #[u, uy]) w σ' r := by
  unfold stCopyV at hst
  split at hst
  · rename_i e xs k e' zs m ho he hsrc
    split at hst
    · rename_i hc
      obtain ⟨rfl, hsz, hl, hT, hz⟩ := hc
      obtain ⟨rfl, rfl⟩ := Prod.mk.inj (Option.some.inj hst)
      have hu := elOf_under he
      have hrd := h.srcRead hsrc hy
      obtain ⟨vs, hf, hr, hna, hvl⟩ := hrd.first (P := P) hz
      have hlen : (Builtin.lenOf uy).run P w = .ok m w := by
        rcases hrd.2.2 with ⟨rfl, rfl⟩ | ⟨ad, c, cells, rfl, _⟩ <;> simp [Builtin.lenOf]
      have hzl : (zs.take (min m n)).length = min m n := by simp [Nat.min_eq_left hz]
      rcases hx with ⟨c1, rfl, rfl, rfl⟩ | ⟨b, n', c, o, c1, c2, c3, rfl⟩
      · have hm0 : min m 0 = 0 := Nat.min_zero m
        rw [hm0] at hf hr hna hvl hzl hT hz ⊢
        refine ⟨.int .i64 0, w, cv, ?_, ?_, Rep.int _ _, fun i hi => hi.elim⟩
        · simp [Builtin.copy_, run_underlying hu, hlen, run_sizeOf hsz, hf, goInt]
        · have e1 : over xs (zs.take 0) 0 = xs := by simp [over]
          rw [e1, Nat.add_sub_cancel_left]
          rw [show σ.setOb id (.rowk e' xs k) = σ from St.eq_of' (fun t => rfl) (fun j => by simp only [St.setOb]; split <;> simp_all) rfl]
          exact h
      · have hop : vs = [] ∨ o = l * sz := by
          rcases c3 with c3 | ⟨_, c4, _⟩
          · exact .inr c3
          · left
            rw [c4, Nat.min_zero, Nat.zero_mul] at hvl
            exact List.eq_nil_of_length_eq_zero hvl
        obtain ⟨w', k1, k2⟩ := h.writeK ho (zs := zs.take (min m n)) (p := l) hsz hl (by rw [hzl]; exact hT) (fun z hz' => hrd.2.1 z (List.mem_of_mem_take hz')) hr hna c1
        have hst' : (storeCells ⟨b, o, none⟩ vs).run P w = .ok () w' := by
          rcases hop with hop | hop
          · subst hop
            have : w' = w := by simpa [storeCells] using k1.symm
            subst this
            rfl
          · rw [hop]; exact k1
        refine ⟨.int .i64 (min m n : Nat), w', cv, ?_, k2, Rep.int _ _, fun i hi => hi.elim⟩
        have hf' : (Builtin.firstCells sz (Nat.min m n) uy).run P w = .ok ⟨vs⟩ w := hf
        simp [Builtin.copy_, run_underlying hu, hlen, run_sizeOf hsz, hf', goInt, hst']
    · cases hst
  · cases hst

/-- A type's zero value, as a plain one. -/
noncomputable def zeroPV (P : Program) (e : TypeId) (sz : Nat) : Option PV :=
  match zeroOf P e, aggOf P e with
  | some zs, some ag => match purs zs with
    | some cs => if cs.length = sz ∧ ∀ c ∈ cs, c.isAgg = false then
        if ag = true then some (.agg cs) else match cs with
          | [p] => some p
          | _ => none
        else none
    | none => none
  | _, _ => none

theorem zeroPV_spec {F : Nat → Prop} {e : TypeId} {sz : Nat} {z : PV} (hz : zeroPV P e sz = some z) : z.cells.length = sz ∧ (∀ c ∈ z.cells, c.isAgg = false) ∧ ∃ inf v, P.info? e = some inf ∧ inf.zero = some v ∧ Reps w F z.cells v.cells.toList := by
  unfold zeroPV at hz
  split at hz
  · rename_i zs ag h1 h2
    split at hz
    · rename_i cs h3
      split at hz
      · rename_i hc
        have hcells : z.cells = cs := by
          split at hz
          · cases hz; rfl
          · split at hz
            · rename_i p
              cases hz
              have := hc.2 z (by simp)
              cases z <;> first | rfl | simp [PV.isAgg] at this
            · cases hz
        rw [hcells]
        refine ⟨hc.1, hc.2, ?_⟩
        unfold zeroOf at h1
        split at h1
        · rename_i inf hi
          split at h1
          · rename_i v hv
            obtain rfl := Option.some.inj h1
            refine ⟨inf, v, hi, hv, purs_reps (cv := cv0) h3 (by simp) (fun j c u hj hu => ?_)⟩
            simp only [List.getElem?_map, hu, Option.map_some, Option.some.injEq] at hj
            subst hj
            exact cAV_rep _ _ _ u
          · cases h1
        · cases h1
      · cases hz
    · cases hz
  · cases hz

theorem zeroCells_toList (z : Array Value) (hz : 0 < z.size) : ∀ n, (Builtin.zeroCells z n).toList = (List.replicate n z.toList).flatten := by
  intro n
  have e : ∀ n, (Builtin.zeroCells z n).toList = (List.range (n * z.size)).map fun i => z[i % z.size]! := fun n => by simp [Builtin.zeroCells]
  induction n with
  | zero => simp [e]
  | succ n ih =>
    rw [e, Nat.succ_mul, List.range_add, List.map_append, ← e, ih, List.replicate_succ', List.flatten_append, List.flatten_singleton]
    congr 1
    refine List.ext_getElem? fun j => ?_
    simp only [List.getElem?_map]
    by_cases hj : j < z.size
    · rw [List.getElem?_range hj]
      simp only [Option.map_some, Nat.mul_add_mod_self_right, Nat.mod_eq_of_lt hj, Array.getElem?_toList]
      rw [getElem!_pos z j hj, Array.getElem?_eq_getElem hj]
    · rw [List.getElem?_eq_none (by simpa using hj), List.getElem?_eq_none (by simpa using hj)]
      rfl

theorem reps_replicate {F : Nat → Prop} {z : PV} {vs : List Value} (h : Reps w F z.cells vs) : ∀ n, Reps w F (flat (List.replicate n z)) (List.replicate n vs).flatten := by
  intro n
  induction n with
  | zero => simpa [flat] using Reps.nil _ _
  | succ n ih => simp only [List.replicate_succ, List.flatten_cons, flat, List.flatMap_cons] at *; exact h.append ih

noncomputable def stClearV (P : Program) (σ : St) (t : TypeId) (id sz l n : Nat) : Option (St × AV) :=
  match σ.ob id, elOf P t with
  | .rowk e xs k, some e' => match zeroPV P e sz with
    | some z => if e' = e ∧ szOf P e = some sz ∧ l ≤ xs.length ∧ l + n ≤ xs.length + k then
        some (σ.setOb id (.rowk e (over xs (List.replicate n z) l) (xs.length + k - (over xs (List.replicate n z) l).length)), .tup []) else none
    | none => none
  | _, _ => none

theorem Rel.clearVOp (h : Rel P C σ a w cv) {t ty : TypeId} {id sz l n : Nat} {u : Value} (hx : SRep w (FS C σ.ob cv w) cv (.vw id sz l n) u)
    {σ' : St} {r : AV} (hst : stClearV P σ t id sz l n = some (σ', r)) : RunOK P C a (Builtin.clear_ #[t] ty #[u]) w σ' r := by
  unfold stClearV at hst
  split at hst
  · rename_i e xs k e' ho he
    split at hst
    · rename_i z hz
      split at hst
      · rename_i hc
        obtain ⟨rfl, hsz, hl, hT⟩ := hc
        obtain ⟨rfl, rfl⟩ := Prod.mk.inj (Option.some.inj hst)
        have hu := elOf_under he
        obtain ⟨z1, z2, inf, v, z3, z4, z5⟩ := zeroPV_spec (w := w) (F := FS C σ.ob cv w) hz
        have h0 : 0 < sz := by
          have ho' := h.obs id
          rw [ho] at ho'
          obtain ⟨sz', cells, h1, h2, _⟩ := ho'
          obtain rfl : sz' = sz := Option.some.inj (h1.symm.trans hsz)
          exact h2
        have hvs : v.cells.size = sz := by rw [← z1, ← z5.1]; simp
        have hna : ∀ c ∈ flat (List.replicate n z), c.isAgg = false := by
          intro c hc
          simp only [flat, List.mem_flatMap] at hc
          obtain ⟨x, hx, hc⟩ := hc
          rw [List.eq_of_mem_replicate hx] at hc
          exact z2 c hc
        rcases hx with ⟨c1, rfl, rfl, rfl⟩ | ⟨b, n', c, o, c1, c2, c3, rfl⟩
        · have e1 : over xs (List.replicate 0 z) 0 = xs := by simp [over]
          refine ⟨.tuple #[], w, cv, by simp [Builtin.clear_, run_underlying hu], ?_, ⟨[], rfl, Reps.nil _ _⟩, fun i hi => hi.elim⟩
          rw [e1, Nat.add_sub_cancel_left]
          rw [show σ.setOb id (.rowk e' xs k) = σ from St.eq_of' (fun t => rfl) (fun j => by simp only [St.setOb]; split <;> simp_all) rfl]
          exact h
        · obtain ⟨w', k1, k2⟩ := h.writeK ho (zs := List.replicate n z) (p := l) hsz hl (by simpa using hT) (fun y hy => by rw [List.eq_of_mem_replicate hy]; exact z1) (reps_replicate z5 n) hna c1
          rw [← zeroCells_toList v.cells (by omega) n] at k1
          cases n with
          | zero =>
            have hz0 : (Builtin.zeroCells v.cells 0).toList = [] := by simp [Builtin.zeroCells]
            rw [hz0] at k1
            have : w' = w := by simpa [storeCells] using k1.symm
            subst this
            exact ⟨.tuple #[], w', cv, by simp [Builtin.clear_, run_underlying hu], k2, ⟨[], rfl, Reps.nil _ _⟩, fun i hi => hi.elim⟩
          | succ n =>
            have ho : o = l * sz := by
              rcases c3 with c3 | ⟨_, c4, _⟩
              · exact c3
              · cases c4
            subst ho
            exact ⟨.tuple #[], w', cv, by simp [Builtin.clear_, run_underlying hu, zeroValue, typeInfo, z3, z4, k1], k2, ⟨[], rfl, Reps.nil _ _⟩, fun i hi => hi.elim⟩
      · cases hst
    · cases hst
  · cases hst

/-- append, where there is room. -/
noncomputable def stAppendV (P : Program) (σ : St) (t t2 : TypeId) (id sz l n : Nat) (y : AV) : Option (St × AV) :=
  match σ.ob id, elOf P t, srcOf P σ sz y with
  | .rowk e xs k, some e', some (zs, m) => if e' = e ∧ szOf P e = some sz ∧ l + n ≤ xs.length ∧ l + n + m ≤ xs.length + k ∧ m = zs.length ∧ t2 = t then
      some (σ.setOb id (.rowk e (over xs zs (l + n)) (xs.length + k - (over xs zs (l + n)).length)), .vw id sz l (n + m)) else none
  | _, _, _ => none

theorem Rel.appendVOp (h : Rel P C σ a w cv) {t t2 ty : TypeId} {id sz l n : Nat} {y : AV} {u uy : Value} (hx : SRep w (FS C σ.ob cv w) cv (.vw id sz l n) u) (hy : SRep w (FS C σ.ob cv w) cv y uy)
    {σ' : St} {r : AV} (hst : stAppendV P σ t t2 id sz l n y = some (σ', r)) : RunOK P C a (Builtin.append_ #[t, t2] ty #[u, uy]) w σ' r := by
  unfold stAppendV at hst
  split at hst
  · rename_i e xs k e' zs m ho he hsrc
    split at hst
    · rename_i hc
      obtain ⟨rfl, hsz, hl, hT, rfl, rfl⟩ := hc
      obtain ⟨rfl, rfl⟩ := Prod.mk.inj (Option.some.inj hst)
      have hu := elOf_under he
      have hrd := h.srcRead hsrc hy
      obtain ⟨vs, hf, hr, hna, hvl⟩ := hrd.first (P := P) (Nat.le_refl _)
      rw [List.take_length] at hr hna
      have hlen : (Builtin.lenOf uy).run P w = .ok zs.length w := by
        rcases hrd.2.2 with ⟨rfl, h0⟩ | ⟨ad, c, cells, rfl, _⟩
        · simp [Builtin.lenOf, h0]
        · simp [Builtin.lenOf]
      have hnf : ∀ o, (σ.setOb id (.rowk e' o (xs.length + k - o.length))).ob id ≠ .free := fun o => by simp [St.setOb]
      rcases hx with ⟨c1, rfl, rfl, rfl⟩ | ⟨b, n', c, o, c1, c2, c3, rfl⟩
      · have hT0 : xs = [] ∧ k = 0 := by
          rcases rowk_cap h ho with ⟨_, hxs, hk⟩ | ⟨g, m, c1'⟩
          · exact ⟨hxs, hk⟩
          · rw [c1] at c1'; cases c1'
        obtain ⟨rfl, rfl⟩ := hT0
        have hz0 : zs = [] := by simpa using hT
        subst hz0
        refine ⟨.slice none 0 0, w, cv, ?_, ?_, .inl ⟨c1, rfl, rfl, rfl⟩, fun i hi => by have : id = i := hi; subst this; exact hnf _⟩
        · have hf' : (Builtin.firstCells sz 0 uy).run P w = .ok ⟨vs⟩ w := hf
          have hlen' : (Builtin.lenOf uy).run P w = .ok 0 w := hlen
          simp [Builtin.append_, run_underlying hu, run_sizeOf hsz, hlen', hf']
        · have e1 : over ([] : List PV) [] (0 + 0) = [] := by simp [over]
          rw [e1]
          rw [show σ.setOb id (.rowk e' [] (([] : List PV).length + 0 - ([] : List PV).length)) = σ from St.eq_of' (fun t => rfl) (fun j => by simp only [St.setOb]; split <;> simp_all) rfl]
          exact h
      · have hcT : c = xs.length + k := by
          rcases rowk_cap h ho with ⟨c1', _⟩ | ⟨g, m, c1'⟩
          · rw [c1] at c1'; cases c1'
          · rw [c1] at c1'; cases c1'; rfl
        obtain ⟨w', k1, k2⟩ := h.writeK ho (zs := zs) (p := l + n) hsz hl (by omega) hrd.2.1 hr hna c1
        have hst' : (storeCells ((⟨b, o, none⟩ : Addr).add (n * sz)) vs).run P w = .ok () w' := by
          rcases c3 with c3 | ⟨c4, c5, _⟩
          · rw [Addr_add_lit, c3, ← Nat.add_mul]; exact k1
          · have : vs = [] := List.eq_nil_of_length_eq_zero (by rw [hvl]; have : zs.length = 0 := by omega
                                                                rw [this]; simp)
            subst this
            have : w' = w := by simpa [storeCells] using k1.symm
            subst this
            rfl
        refine ⟨.slice (some ⟨b, o, none⟩) (n + zs.length) (c - l), w', cv, ?_, k2, .inr ⟨b, n', c, o, c1, by omega, ?_, rfl⟩, fun i hi => by have : id = i := hi; subst this; exact hnf _⟩
        · have hroom : n + zs.length ≤ c - l := by omega
          have hf' : (Builtin.firstCells sz zs.length uy).run P w = .ok ⟨vs⟩ w := hf
          simp [Builtin.append_, run_underlying hu, run_sizeOf hsz, hlen, hf', hroom, hst']
        · rcases c3 with c3 | ⟨c4, c5, c6⟩
          · exact .inl c3
          · exact .inr ⟨c4, by omega, c6⟩
    · cases hst
  · cases hst

/-- append of zero values, where there is no room: a new row. -/
noncomputable def stAppendZ (P : Program) (σ : St) (nid : Nat) (t t2 : TypeId) (id sz l n : Nat) (q : Int) : Option (St × AV) :=
  match σ.ob id, elOf P t, P.underlying t2 with
  | .rowk e xs k, some e', some (.int _) => match zeroPV P e sz, byOf P e with
    | some z, some nb => if e' = e ∧ szOf P e = some sz ∧ l = 0 ∧ n ≤ xs.length ∧ 0 < q ∧ xs.length + k < n + q.toNat ∧ (n + q.toNat) * nb ≤ 140737488355328 ∧ n + q.toNat ≤ 4611686018427387904 ∧ σ.isFree nid = true then
        some (σ.setOb nid (.row e (xs.take n ++ List.replicate q.toNat z)), .ref nid) else none
    | _, _ => none
  | _, _, _ => none

theorem Rel.appendZOp (h : Rel P C σ a w cv) {nid : Nat} {t t2 ty : TypeId} {id sz l n : Nat} {kq : IntKind} {q : Int} {u : Value} (hx : SRep w (FS C σ.ob cv w) cv (.vw id sz l n) u)
    {σ' : St} {r : AV} (hst : stAppendZ P σ nid t t2 id sz l n q = some (σ', r)) : RunOK P C a (Builtin.append_ #[t, t2] ty #[u, .int kq q]) w σ' r := by
  unfold stAppendZ at hst
  split at hst
  · rename_i e xs k e' k2 ho he ht2
    split at hst
    · rename_i z nb hz hnb
      split at hst
      · rename_i hc
        obtain ⟨rfl, hsz, rfl, hn, hq, hT, hnb2, h63, hfr⟩ := hc
        obtain ⟨rfl, rfl⟩ := Prod.mk.inj (Option.some.inj hst)
        obtain ⟨m, rfl⟩ := Int.eq_ofNat_of_zero_le (Int.le_of_lt hq)
        simp only [Int.ofNat_eq_natCast, Int.toNat_natCast] at *
        have hu := elOf_under he
        obtain ⟨z1, z2, inf, v, z3, z4, z5⟩ := zeroPV_spec (w := w) (F := FS C σ.ob cv w) hz
        have hisz : inf.size = sz := by simpa [szOf, z3] using hsz
        have hiby : inf.bytes = nb := by simpa [byOf, z3] using hnb
        have ho' := h.obs id
        rw [ho] at ho'
        obtain ⟨sz', cells, h1, h2, h3, h4, h5, h6, h7⟩ := ho'
        obtain rfl : sz' = sz := Option.some.inj (h1.symm.trans hsz)
        have hvs : v.cells.size = sz' := by rw [← z1, ← z5.1]; simp
        have hm0 : 0 < m := by omega
        have hfl := flat_take h3 n
        -- what stood there
        obtain ⟨olds, base, cap, hue, hcap, hold, hrep⟩ : ∃ (olds : List Value) (base : Option Addr) (cap : Nat), u = .slice base n cap ∧ cap = xs.length + k ∧
            (∀ w2 : World, w2.heap = w.heap → (Builtin.firstCells sz' n (.slice base n cap)).run P w2 = .ok olds.toArray w2) ∧ Reps w (FS C σ.ob cv w) (flat (xs.take n)) olds := by
          rcases hx with ⟨c1, _, rfl, rfl⟩ | ⟨b, n', c, o, c1, c2, c3, rfl⟩
          · have hT0 : xs = [] ∧ k = 0 := by
              rcases rowk_cap h ho with ⟨_, hxs, hk⟩ | ⟨g, m, c1'⟩
              · exact ⟨hxs, hk⟩
              · rw [c1] at c1'; cases c1'
            refine ⟨[], none, 0, rfl, by simp [hT0.1, hT0.2], fun w2 _ => by simp [Builtin.firstCells], by simpa [flat] using Reps.nil _ _⟩
          · rcases h7 with ⟨c1', _⟩ | ⟨g', n'', cur, c1', hg, hm, hcs, ht⟩
            · rw [c1] at c1'; cases c1'
            · rw [c1] at c1'; cases c1'
              have hl : (cells.take (n * sz')).length = n * sz' := by
                rw [List.length_take, h4]
                have := Nat.mul_le_mul_right sz' hn
                omega
              refine ⟨cells.take (n * sz'), _, _, rfl, by omega, fun w2 hw2 => ?_, by rw [hfl]; exact h5.take _⟩
              have hg2 : w2.heap[b]? = some (.cells cur e' (0, 0)) := by rw [hw2]; exact hg
              have := run_loadCells_list (P := P) w2 ⟨b, o, none⟩ (cells.take (n * sz')) (fun j x hj => by
                rw [List.getElem?_take] at hj
                split at hj
                · rename_i hjn
                  have ho0 : o = 0 := by
                    rcases c3 with c3 | ⟨_, c4, _⟩
                    · simpa using c3
                    · rw [c4] at hjn; omega
                  subst ho0
                  rw [← ht, List.getElem?_take] at hj
                  split at hj
                  · rw [Addr_add_lit, cell_of_row w2 b _ cur e' (0, 0) hg2]
                    simpa using hj
                  · cases hj
                · cases hj)
              rw [hl] at this
              simp [Builtin.firstCells, this]
        subst hue
        have hrun := Lib.run_append_grow_zeros w t t2 ty e' inf v kq k2 hu ht2 z3 z4 base n cap olds (by rw [hisz]; exact hold w.drew rfl) m hm0 (by omega) (by omega) (by omega) (by
            rw [hiby]
            have : m * nb ≤ (n + m) * nb := Nat.mul_le_mul_right _ (by omega)
            omega) (by rw [hiby]; exact growslice_fits (by omega) hnb2)
        have hge := grownCap_ge w (n + m) cap e'
        have hmx : grownCap w (n + m) cap e' ≤ maxLen := grownCap_le_maxLen w (n + m) cap e' (by simp only [maxLen]; omega)
        generalize hG : grownCap w (n + m) cap e' = G at *
        have hol : olds.length = n * sz' := by rw [hrep.1, flat_length (fun x hx => h3 x (List.mem_of_mem_take hx))]; simp [Nat.min_eq_left hn]
        have hzl : ∀ j, (Builtin.zeroCells v.cells j).toList.length = j * sz' := fun j => by simp [Builtin.zeroCells, hvs]
        have e1 : olds.toArray ++ Builtin.zeroCells v.cells m ++ Builtin.zeroCells v.cells (G - (n + m)) = ⟨olds ++ (Builtin.zeroCells v.cells m).toList ++ (Builtin.zeroCells v.cells (G - (n + m))).toList⟩ := by
          apply Array.toList_inj.1
          simp
        rw [e1] at hrun
        have hfree := isFree_free hfr
        have hdr := h.drew
        have hnew := hdr.new nid hfree (.row e' (xs.take n ++ List.replicate m z)) (olds ++ (Builtin.zeroCells v.cells m).toList ++ (Builtin.zeroCells v.cells (G - (n + m))).toList) e' (.slice (some ⟨w.heap.size, 0, none⟩) (n + m) G) rfl rfl
          (fun F' cv' hF hi _ => by
            show OwnRow P _ F' (cv' nid) e' _
            rw [hi]
            have hsame : Same (FS C σ.ob cv w) w (w.drew.alloc (.cells ⟨olds ++ (Builtin.zeroCells v.cells m).toList ++ (Builtin.zeroCells v.cells (G - (n + m))).toList⟩ e')) := fun b hb => heap_alloc_old w.drew _ b (h.fs_lt hb)
            have hln : (xs.take n ++ List.replicate m z).length = n + m := by simp [Nat.min_eq_left hn]
            refine ⟨sz', olds ++ (Builtin.zeroCells v.cells m).toList, hsz, h2, fun x hx => ?_, ⟨?_, .inr ⟨w.heap.size, G, _, by rw [hln], Nat.zero_le _, heap_alloc_new w.drew _, by rw [hln]; exact hge, hmx, ?_, ?_⟩⟩, ?_, fun c hc => ?_⟩
            · rcases List.mem_append.1 hx with hx | hx
              · exact h3 x (List.mem_of_mem_take hx)
              · rw [List.eq_of_mem_replicate hx]; exact z1
            · rw [hln, List.length_append, hol, hzl, Nat.add_mul]
            · show (olds ++ (Builtin.zeroCells v.cells m).toList ++ (Builtin.zeroCells v.cells (G - (n + m))).toList).length = _
              rw [List.length_append, List.length_append, hol, hzl, hzl, ← Nat.add_mul, ← Nat.add_mul]
              congr 1; omega
            · show (olds ++ (Builtin.zeroCells v.cells m).toList ++ (Builtin.zeroCells v.cells (G - (n + m))).toList).take _ = _
              rw [hln, List.take_append_of_le_length (by rw [List.length_append, hol, hzl, ← Nat.add_mul]; exact Nat.le_refl _), List.take_of_length_le (by rw [List.length_append, hol, hzl, ← Nat.add_mul]; exact Nat.le_refl _)]
            · rw [flat_append]
              have hq2 := (reps_replicate z5 m).mono hsame hF
              rw [← zeroCells_toList v.cells (by omega) m] at hq2
              exact (hrep.mono hsame hF).append hq2
            · rw [flat_append] at hc
              rcases List.mem_append.1 hc with hc | hc
              · rw [hfl] at hc; exact h6 c (List.mem_of_mem_take hc)
              · simp only [flat, List.mem_flatMap] at hc
                obtain ⟨x, hx, hc⟩ := hc
                rw [List.eq_of_mem_replicate hx] at hc
                exact z2 c hc)
          (fun j hj => hj.elim) (fun hj => hj.elim)
        exact ⟨_, _, _, hrun, hnew, by show _ = (if nid = nid then _ else _); rw [if_pos rfl], fun i hi => by have : nid = i := hi; subst this; simp [St.setOb]⟩
      · cases hst
    · cases hst
  · cases hst

/-- append, where there is no room: a new row. -/
noncomputable def stAppendG (P : Program) (σ : St) (nid : Nat) (t t2 : TypeId) (id sz l n : Nat) (y : AV) : Option (St × AV) :=
  match σ.ob id, elOf P t, srcOf P σ sz y with
  | .rowk e xs k, some e', some (zs, m) => match zeroPV P e sz, byOf P e with
    | some z, some nb => if e' = e ∧ szOf P e = some sz ∧ l = 0 ∧ n ≤ xs.length ∧ m = zs.length ∧ t2 = t ∧ xs.length + k < n + m ∧ (n + m) * nb ≤ 140737488355328 ∧ n + m ≤ 4611686018427387904 ∧ σ.isFree nid = true then
        some (σ.setOb nid (.row e (xs.take n ++ zs)), .ref nid) else none
    | _, _ => none
  | _, _, _ => none

theorem run_append_grow_any (t ty e : TypeId) (i : TypeInfo) (z : Value) (ht : P.underlying t = some (.slice e)) (hi : P.info? e = some i) (hz : i.zero = some z)
    (base : Option Addr) (sLen sCap : Nat) (olds : List Value) (hold : (Builtin.firstCells i.size sLen (.slice base sLen sCap)).run P w.drew = .ok olds.toArray w.drew)
    (x : Value) (n : Nat) (news : List Value) (hlen : (Builtin.lenOf x).run P w = .ok n w) (hnew : (Builtin.firstCells i.size n x).run P w.drew = .ok news.toArray w.drew)
    (hg : sCap < sLen + n) (h63 : ((sLen + n : Nat) : Int) ≤ 9223372036854775807) (hfit : Builtin.nextslicecap (sLen + n) sCap * i.bytes ≤ 281474976710656) :
    (Builtin.append_ #[t, t] ty #[.slice base sLen sCap, x]).run P w =
      .ok (.slice (some ⟨w.heap.size, 0, none⟩) (sLen + n) (grownCap w (sLen + n) sCap e))
        (w.drew.alloc (.cells (olds.toArray ++ news.toArray ++ Builtin.zeroCells z.cells (grownCap w (sLen + n) sCap e - (sLen + n))) e)) := by
  have hn : ¬ (sLen + n ≤ sCap) := by omega
  have h63' : ¬ (9223372036854775807 < ((sLen : Int) + (n : Int))) := by omega
  have h48' : ¬ (281474976710656 < Builtin.nextslicecap (sLen + n) sCap * i.bytes) := by omega
  simp [Builtin.append_, run_underlying ht, sizeOf, typeInfo, zeroValue, hi, hz, hlen, hn, h63', h48', Question.forced, hold, hnew, newRow, grownCap]
  congr 2
  apply Array.ext'
  simp [List.append_assoc]

theorem Rel.appendGOp (h : Rel P C σ a w cv) {nid : Nat} {t t2 ty : TypeId} {id sz l n : Nat} {y : AV} {u uy : Value} (hx : SRep w (FS C σ.ob cv w) cv (.vw id sz l n) u) (hy : SRep w (FS C σ.ob cv w) cv y uy)
    {σ' : St} {r : AV} (hst : stAppendG P σ nid t t2 id sz l n y = some (σ', r)) : RunOK P C a (Builtin.append_ #[t, t2] ty #[u, uy]) w σ' r := by
  unfold stAppendG at hst
  split at hst
  · rename_i e xs k e' zs m ho he hsrc
    split at hst
    · rename_i z nb hz hnb
      split at hst
      · rename_i hc
        obtain ⟨rfl, hsz, rfl, hn, rfl, rfl, hT, hnb2, h63, hfr⟩ := hc
        obtain ⟨rfl, rfl⟩ := Prod.mk.inj (Option.some.inj hst)
        have hrd := h.srcRead hsrc hy
        have hyd : SRep w.drew (FS C σ.ob cv w.drew) cv y uy := hy.mono (fun _ _ => rfl : Same (FS C σ.ob cv w) w w.drew) (fun _ hb => hb) (fun _ _ => rfl)
        obtain ⟨vs, hf, hr, hna, hvl⟩ := (h.drew.srcRead hsrc hyd).first (P := P) (Nat.le_refl _)
        rw [List.take_length] at hr hna
        have hr : Reps w (FS C σ.ob cv w) (flat zs) vs := hr.mono (fun _ _ => rfl : Same (FS C σ.ob cv w.drew) w.drew w) (fun _ hb => hb)
        have hlen : (Builtin.lenOf uy).run P w = .ok zs.length w := by
          rcases hrd.2.2 with ⟨rfl, h0⟩ | ⟨ad, c, cells, rfl, _⟩
          · simp [Builtin.lenOf, h0]
          · simp [Builtin.lenOf]
        generalize hm : zs.length = m at *
        have hu := elOf_under he
        obtain ⟨z1, z2, inf, v, z3, z4, z5⟩ := zeroPV_spec (w := w) (F := FS C σ.ob cv w) hz
        have hisz : inf.size = sz := by simpa [szOf, z3] using hsz
        have hiby : inf.bytes = nb := by simpa [byOf, z3] using hnb
        have ho' := h.obs id
        rw [ho] at ho'
        obtain ⟨sz', cells, h1, h2, h3, h4, h5, h6, h7⟩ := ho'
        obtain rfl : sz' = sz := Option.some.inj (h1.symm.trans hsz)
        have hvs : v.cells.size = sz' := by rw [← z1, ← z5.1]; simp
        have hfl := flat_take h3 n
        -- what stood there
        obtain ⟨olds, base, cap, hue, hcap, hold, hrep⟩ : ∃ (olds : List Value) (base : Option Addr) (cap : Nat), u = .slice base n cap ∧ cap = xs.length + k ∧
            (∀ w2 : World, w2.heap = w.heap → (Builtin.firstCells sz' n (.slice base n cap)).run P w2 = .ok olds.toArray w2) ∧ Reps w (FS C σ.ob cv w) (flat (xs.take n)) olds := by
          rcases hx with ⟨c1, _, rfl, rfl⟩ | ⟨b, n', c, o, c1, c2, c3, rfl⟩
          · have hT0 : xs = [] ∧ k = 0 := by
              rcases rowk_cap h ho with ⟨_, hxs, hk⟩ | ⟨g, m, c1'⟩
              · exact ⟨hxs, hk⟩
              · rw [c1] at c1'; cases c1'
            refine ⟨[], none, 0, rfl, by simp [hT0.1, hT0.2], fun w2 _ => by simp [Builtin.firstCells], by simpa [flat] using Reps.nil _ _⟩
          · rcases h7 with ⟨c1', _⟩ | ⟨g', n'', cur, c1', hg, hm, hcs, ht⟩
            · rw [c1] at c1'; cases c1'
            · rw [c1] at c1'; cases c1'
              have hl : (cells.take (n * sz')).length = n * sz' := by
                rw [List.length_take, h4]
                have := Nat.mul_le_mul_right sz' hn
                omega
              refine ⟨cells.take (n * sz'), _, _, rfl, by omega, fun w2 hw2 => ?_, by rw [hfl]; exact h5.take _⟩
              have hg2 : w2.heap[b]? = some (.cells cur e' (0, 0)) := by rw [hw2]; exact hg
              have := run_loadCells_list (P := P) w2 ⟨b, o, none⟩ (cells.take (n * sz')) (fun j x hj => by
                rw [List.getElem?_take] at hj
                split at hj
                · rename_i hjn
                  have ho0 : o = 0 := by
                    rcases c3 with c3 | ⟨_, c4, _⟩
                    · simpa using c3
                    · rw [c4] at hjn; omega
                  subst ho0
                  rw [← ht, List.getElem?_take] at hj
                  split at hj
                  · rw [Addr_add_lit, cell_of_row w2 b _ cur e' (0, 0) hg2]
                    simpa using hj
                  · cases hj
                · cases hj)
              rw [hl] at this
              simp [Builtin.firstCells, this]
        subst hue
        have hrun := run_append_grow_any (P := P) (w := w) t2 ty e' inf v hu z3 z4 base n cap olds (by rw [hisz]; exact hold w.drew rfl) uy m vs hlen (by rw [hisz]; exact hf) (by omega) (by omega) (by rw [hiby]; exact growslice_fits (by omega) hnb2)
        have hge := grownCap_ge w (n + m) cap e'
        have hmx : grownCap w (n + m) cap e' ≤ maxLen := grownCap_le_maxLen w (n + m) cap e' (by simp only [maxLen]; omega)
        generalize hG : grownCap w (n + m) cap e' = G at *
        have hol : olds.length = n * sz' := by rw [hrep.1, flat_length (fun x hx => h3 x (List.mem_of_mem_take hx))]; simp [Nat.min_eq_left hn]
        have hzl : ∀ j, (Builtin.zeroCells v.cells j).toList.length = j * sz' := fun j => by simp [Builtin.zeroCells, hvs]
        have e1 : olds.toArray ++ vs.toArray ++ Builtin.zeroCells v.cells (G - (n + m)) = ⟨olds ++ vs ++ (Builtin.zeroCells v.cells (G - (n + m))).toList⟩ := by
          apply Array.toList_inj.1
          simp
        rw [e1] at hrun
        have hfree := isFree_free hfr
        have hdr := h.drew
        have hnew := hdr.new nid hfree (.row e' (xs.take n ++ zs)) (olds ++ vs ++ (Builtin.zeroCells v.cells (G - (n + m))).toList) e' (.slice (some ⟨w.heap.size, 0, none⟩) (n + m) G) rfl rfl
          (fun F' cv' hF hi _ => by
            show OwnRow P _ F' (cv' nid) e' _
            rw [hi]
            have hsame : Same (FS C σ.ob cv w) w (w.drew.alloc (.cells ⟨olds ++ vs ++ (Builtin.zeroCells v.cells (G - (n + m))).toList⟩ e')) := fun b hb => heap_alloc_old w.drew _ b (h.fs_lt hb)
            have hln : (xs.take n ++ zs).length = n + m := by simp [Nat.min_eq_left hn, hm]
            refine ⟨sz', olds ++ vs, hsz, h2, fun x hx => ?_, ⟨?_, .inr ⟨w.heap.size, G, _, by rw [hln], Nat.zero_le _, heap_alloc_new w.drew _, by rw [hln]; exact hge, hmx, ?_, ?_⟩⟩, ?_, fun c hc => ?_⟩
            · rcases List.mem_append.1 hx with hx | hx
              · exact h3 x (List.mem_of_mem_take hx)
              · exact hrd.2.1 x hx
            · rw [hln, List.length_append, hol, hvl, Nat.add_mul]
            · show (olds ++ vs ++ (Builtin.zeroCells v.cells (G - (n + m))).toList).length = _
              rw [List.length_append, List.length_append, hol, hvl, hzl, ← Nat.add_mul, ← Nat.add_mul]
              congr 1; omega
            · show (olds ++ vs ++ (Builtin.zeroCells v.cells (G - (n + m))).toList).take _ = _
              rw [hln, List.take_append_of_le_length (by rw [List.length_append, hol, hvl, ← Nat.add_mul]; exact Nat.le_refl _), List.take_of_length_le (by rw [List.length_append, hol, hvl, ← Nat.add_mul]; exact Nat.le_refl _)]
            · rw [flat_append]
              exact (hrep.mono hsame hF).append (hr.mono hsame hF)
            · rw [flat_append] at hc
              rcases List.mem_append.1 hc with hc | hc
              · rw [hfl] at hc; exact h6 c (List.mem_of_mem_take hc)
              · exact hna c hc)
          (fun j hj => hj.elim) (fun hj => hj.elim)
        exact ⟨_, _, _, hrun, hnew, by show _ = (if nid = nid then _ else _); rw [if_pos rfl], fun i hi => by have : nid = i := hi; subst this; simp [St.setOb]⟩
      · cases hst
    · cases hst
  · cases hst

end
end Go.Proofs.YtglpemnejngkaaaVm
