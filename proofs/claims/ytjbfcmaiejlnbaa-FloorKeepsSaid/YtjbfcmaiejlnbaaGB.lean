/- A part of a proof: functions of the program, walked. -/
import Derived.Test.YtjbfcmaiejlnbaaGA
import Derived.Lib.AppendZerosOnto
import Derived.MapKept
import Derived.Laws.BytesString
import Derived.Orders
set_option linter.unusedVariables false
set_option linter.unusedSimpArgs false
namespace Go.Proofs.YtjbfcmaiejlnbaaVm
open Go Classical

/-- Elements, overwritten from the p-th on. -/
def over (xs zs : List PV) (p : Nat) : List PV := xs.take p ++ zs ++ xs.drop (p + zs.length)

theorem over_length {xs zs : List PV} {p : Nat} (hp : p ≤ xs.length) : (over xs zs p).length = max xs.length (p + zs.length) := by
  simp only [over, List.length_append, List.length_take, List.length_drop]; omega

theorem over_flat {xs zs : List PV} {p sz : Nat} (hx : ∀ x ∈ xs, x.cells.length = sz) (hz : ∀ z ∈ zs, z.cells.length = sz) :
    flat (over xs zs p) = (flat xs).take (p * sz) ++ flat zs ++ (flat xs).drop (p * sz + (flat zs).length) := by
  rw [over, flat_append, flat_append, flat_take hx, flat_drop hx, flat_length hz, Nat.add_mul]

theorem St.eq_of' {σ τ : St} (h1 : ∀ t, σ.sl t = τ.sl t) (h2 : ∀ k, σ.ob k = τ.ob k) (h3 : σ.ck = τ.ck) : σ = τ := by
  cases σ; cases τ
  simp only at h1 h2 h3
  obtain rfl := funext h1
  obtain rfl := funext h2
  rw [h3]

def cv0 : Nat → Value := fun _ => .slice none 0 0
section
variable {P : Program} {C : Ctx} {σ : St} {a : Act} {w : World} {cv : Nat → Value}

theorem Rel.writeK (h : Rel P C σ a w cv) {id : Nat} {e : TypeId} {xs : List PV} {k : Nat} (ho : σ.ob id = .rowk e xs k) {zs : List PV} {p sz : Nat} (hsz : szOf P e = some sz) (hp : p ≤ xs.length)
    (hT : p + zs.length ≤ xs.length + k) (hz : ∀ z ∈ zs, z.cells.length = sz) {vs : List Value} (hr : Reps w (FS C σ.ob cv w) (flat zs) vs) (hna : ∀ c ∈ flat zs, c.isAgg = false)
    {g n T : Nat} (hcv : cv id = .slice (some ⟨g, 0, none⟩) n T) :
    ∃ w', (storeCells ⟨g, p * sz, none⟩ vs).run P w = .ok () w' ∧ Rel P C (σ.setOb id (.rowk e (over xs zs p) (xs.length + k - (over xs zs p).length))) a w' cv := by
  have ho' := h.obs id
  rw [ho] at ho'
  obtain ⟨sz', cells, h1, h2, h3, h4, h5, h6, h7⟩ := ho'
  obtain rfl : sz' = sz := Option.some.inj (h1.symm.trans hsz)
  rcases h7 with ⟨e1, _⟩ | ⟨g', n', cur, e1, hg, hm, hcs, ht⟩
  · rw [hcv] at e1; cases e1
  · rw [hcv] at e1
    cases e1
    have hvl : vs.length = zs.length * sz' := by rw [hr.1, flat_length hz]
    have hone : ∀ v ∈ vs, v.oneCell' = true := fun v hv => by
      obtain ⟨j, hj⟩ := List.getElem?_of_mem hv
      have hlt : j < (flat zs).length := by rw [← hr.1]; exact (List.getElem?_eq_some_iff.1 hj).1
      exact Rep.oneCell (hr.2 j _ v (List.getElem?_eq_getElem hlt) hj) (hna _ (List.getElem_mem hlt))
    have hle : p * sz' + vs.length ≤ cur.toList.length := by
      have hcl : cur.toList.length = (xs.length + k) * sz' := hcs
      rw [hcl, hvl, ← Nat.add_mul]; exact Nat.mul_le_mul_right _ hT
    have hrun := storeCells_at (P := P) (arr := cur.toList) (by simpa using hg) vs hle hone
    have hol := over_length (zs := zs) hp
    refine ⟨_, hrun, ?_⟩
    refine h.mod id (by rw [ho]; rfl) _ (by simp) (grown_setRow w g _) (fun b hb => by cases hb; rw [hcv]; rfl) (fun F' hF _ hS => ?_) (fun j hj => hj.elim)
    have h5' := h5.mono hS hF
    have hr' := hr.mono hS hF
    have hfl := over_flat (p := p) h3 hz
    have hfx := flat_length h3
    have hpz : p * sz' ≤ xs.length * sz' := Nat.mul_le_mul_right _ hp
    refine ⟨sz', cells.take (p * sz') ++ vs ++ cells.drop (p * sz' + vs.length), hsz, h2, fun x hx => ?_, ?_, ?_, fun c hc => ?_, .inr ⟨g, n, _, by rw [hcv]; congr 1; omega, setRow_heap w g cur _ e _ hg, by omega, ?_, ?_⟩⟩
    · simp only [over, List.mem_append] at hx
      rcases hx with (hx | hx) | hx
      · exact h3 x (List.mem_of_mem_take hx)
      · exact hz x hx
      · exact h3 x (List.mem_of_mem_drop hx)
    · rw [hol]
      simp only [List.length_append, List.length_take, List.length_drop, h4, hvl]
      rcases Nat.le_total xs.length (p + zs.length) with hle' | hle'
      · have : xs.length * sz' ≤ (p + zs.length) * sz' := Nat.mul_le_mul_right _ hle'
        rw [Nat.add_mul] at this
        rw [Nat.max_eq_right hle', Nat.add_mul]
        omega
      · have : (p + zs.length) * sz' ≤ xs.length * sz' := Nat.mul_le_mul_right _ hle'
        rw [Nat.add_mul] at this
        rw [Nat.max_eq_left hle']
        omega
    · rw [hfl, ← hr.1]
      exact ((h5'.take (p * sz')).append hr').append (h5'.drop (p * sz' + vs.length))
    · rw [hfl] at hc
      simp only [List.mem_append] at hc
      rcases hc with (hc | hc) | hc
      · exact h6 c (List.mem_of_mem_take hc)
      · exact hna c hc
      · exact h6 c (List.mem_of_mem_drop hc)
    · show (cur.toList.take (p * sz') ++ vs ++ cur.toList.drop (p * sz' + vs.length)).length = _
      simp only [List.length_append, List.length_take, List.length_drop]
      have e2 : (over xs zs p).length + (xs.length + k - (over xs zs p).length) = xs.length + k := by omega
      rw [e2, ← hcs]
      have := Array.length_toList (xs := cur)
      omega
    · show (cur.toList.take (p * sz') ++ vs ++ cur.toList.drop (p * sz' + vs.length)).take ((over xs zs p).length * sz') = _
      rw [hol, ← ht]
      have hcl := Array.length_toList (xs := cur)
      rcases Nat.le_total xs.length (p + zs.length) with hle' | hle'
      · have hle2 : xs.length * sz' ≤ p * sz' + vs.length := by rw [hvl, ← Nat.add_mul]; exact Nat.mul_le_mul_right _ hle'
        rw [Nat.max_eq_right hle', Nat.add_mul, ← hvl, List.take_take, Nat.min_eq_left hpz, List.take_append_of_le_length (by simp only [List.length_append, List.length_take]; omega),
          List.take_of_length_le (by simp only [List.length_append, List.length_take]; omega), List.drop_take, Nat.sub_eq_zero_of_le hle2]
        simp
      · have hle2 : p * sz' + vs.length ≤ xs.length * sz' := by rw [hvl, ← Nat.add_mul]; exact Nat.mul_le_mul_right _ hle'
        rw [Nat.max_eq_left hle', List.take_take, Nat.min_eq_left hpz, List.take_append, List.take_of_length_le (by simp only [List.length_append, List.length_take]; omega), List.drop_take]
        congr 2
        simp only [List.length_append, List.length_take]
        omega

/-! ### cut -/
def bnd : Option AV → Nat → Option Nat
  | none, d => some d
  | some (.val (.int _ n)), _ => if 0 ≤ n then some n.toNat else none
  | _, _ => none

noncomputable def stSliceV (P : Program) (σ : St) (t : TypeId) (id sz l n : Nat) (lo hi mx : Option AV) : Option (St × AV) :=
  match σ.ob id, elOf P t with
  | .rowk e xs k, some e' => match bnd lo 0, bnd hi n, mx with
    | some x, some y, none => if e' = e ∧ szOf P e = some sz ∧ x ≤ y ∧ l + y ≤ xs.length + k then some (σ, .vw id sz (l + x) (y - x)) else none
    | some x, some y, some m => match bnd (some m) 0 with
      | some z => if e' = e ∧ szOf P e = some sz ∧ x ≤ y ∧ y ≤ z ∧ l + z ≤ xs.length + k ∧ hi.isSome = true then some (σ, .any) else none
      | none => none
    | _, _, _ => none
  | _, _ => none

theorem run_bound {x : AV} {u : Value} {F : Nat → Prop} (hx : SRep w F cv x u) {d m cap : Nat} (hb : bnd (some x) d = some m) (hc : m ≤ cap) (code : BoundsCode) : (Instr.sliceBound u cap code).run P w = .ok m w := by
  unfold bnd at hb
  split at hb
  · rename_i heq; cases heq
  · rename_i k n d' heq
    cases heq
    split at hb
    · rename_i h0
      cases hb
      cases hx
      rw [run_sliceBound]
      · exact h0
      · omega
    · cases hb
  · cases hb

/-- A bound of a cut, if it stands there. -/
def OptRep (w : World) (F : Nat → Prop) (cv : Nat → Value) : Option AV → Option Value → Prop
  | some x, some u => SRep w F cv x u
  | none, none => True
  | _, _ => False

theorem run_bounds {F : Nat → Prop} {len cap : Nat} {lo hi mx : Option AV} {ulo uhi umx : Option Value} (hlo : OptRep w F cv lo ulo) (hhi : OptRep w F cv hi uhi) (hmx : OptRep w F cv mx umx) {x y z : Nat}
    (h1 : bnd lo 0 = some x) (h2 : bnd hi len = some y) (h3 : bnd mx cap = some z) (hxy : x ≤ y) (hyz : y ≤ z) (hz : z ≤ cap) (hm : mx.isSome = true → hi.isSome = true) :
    (Instr.sliceBounds true len cap ulo uhi umx).run P w = .ok (x, y, z) w := by
  cases lo <;> cases ulo <;> simp only [OptRep] at hlo <;> cases hi <;> cases uhi <;> simp only [OptRep] at hhi <;> cases mx <;> cases umx <;> simp only [OptRep] at hmx <;>
    simp only [bnd, Option.some.injEq, Option.isSome_some, Option.isSome_none, Bool.false_eq_true, forall_const, imp_false, not_true_eq_false] at h1 h2 h3 hm <;> first
    | (subst h1; subst h2; subst h3; simp [Instr.sliceBounds]; done)
    | (subst h1; subst h2; have q3 := run_bound (P := P) hmx h3 hz; simp [Instr.sliceBounds, q3]; done)
    | (subst h1; subst h3; have q2 := fun c => run_bound (P := P) hhi h2 (Nat.le_trans hyz hz) c; simp [Instr.sliceBounds, q2]; done)
    | (subst h2; subst h3; have q1 := fun c => run_bound (P := P) hlo h1 hxy c; simp [Instr.sliceBounds, q1]; done)
    | (subst h1; have q3 := fun c => run_bound (P := P) hmx h3 hz c; have q2 := fun c => run_bound (P := P) hhi h2 hyz c; simp [Instr.sliceBounds, q3, q2]; done)
    | (subst h3; have q1 := fun c => run_bound (P := P) hlo h1 hxy c; have q2 := fun c => run_bound (P := P) hhi h2 (Nat.le_trans hyz hz) c; simp [Instr.sliceBounds, q1, q2]; done)
    | (have q1 := fun c => run_bound (P := P) hlo h1 hxy c; have q2 := fun c => run_bound (P := P) hhi h2 hyz c; have q3 := fun c => run_bound (P := P) hmx h3 hz c; simp [Instr.sliceBounds, q1, q2, q3]; done)

theorem rowk_cap (h : Rel P C σ a w cv) {id : Nat} {e : TypeId} {xs : List PV} {k : Nat} (ho : σ.ob id = .rowk e xs k) : (cv id = .slice none 0 0 ∧ xs = [] ∧ k = 0) ∨ ∃ g n, cv id = .slice (some ⟨g, 0, none⟩) n (xs.length + k) := by
  have ho' := h.obs id
  rw [ho] at ho'
  obtain ⟨sz', cells, h1, h2, h3, h4, h5, h6, h7⟩ := ho'
  rcases h7 with h7 | ⟨g', n', cur, e1, _⟩
  · exact .inl h7
  · exact .inr ⟨g', n', e1⟩

theorem Rel.sliceVOp (h : Rel P C σ a w cv) {t : TypeId} {id sz l n : Nat} {lo hi mx : Option AV} {u : Value} {ulo uhi umx : Option Value} (hx : SRep w (FS C σ.ob cv w) cv (.vw id sz l n) u)
    (hlo : OptRep w (FS C σ.ob cv w) cv lo ulo) (hhi : OptRep w (FS C σ.ob cv w) cv hi uhi) (hmx : OptRep w (FS C σ.ob cv w) cv mx umx) {σ' : St} {r : AV} (hst : stSliceV P σ t id sz l n lo hi mx = some (σ', r)) :
    RunOK P C a (Instr.sliceAt t u ulo uhi umx) w σ' r := by
  unfold stSliceV at hst
  split at hst
  · rename_i e xs k e' ho he
    obtain ⟨hu, hel⟩ := elem_of he
    have hnf : σ.ob id ≠ .free := by rw [ho]; simp
    -- the value of a cut
    have main : ∀ (x y z : Nat), x ≤ y → y ≤ z → l + z ≤ xs.length + k → e' = e → szOf P e = some sz → bnd lo 0 = some x → bnd hi n = some y → (mx = none → l + z = xs.length + k) → (∀ d, mx.isSome = true → bnd mx d = some z) → (mx.isSome = true → hi.isSome = true) →
        ∃ v, (Instr.sliceAt t u ulo uhi umx).run P w = .ok v w ∧ (mx = none → SRep w (FS C σ.ob cv w) cv (.vw id sz (l + x) (y - x)) v) := by
      intro x y z hxy hyz hlz hee hsz h1 h2 h3 h4 h5
      have hb3 : ∀ cap, cap + l = xs.length + k → bnd mx cap = some z := by
        intro cap hc
        cases mx with
        | none => simp only [bnd]; congr 1; have := h3 rfl; omega
        | some m => exact h4 cap rfl
      rcases hx with ⟨c1, rfl, rfl, rfl⟩ | ⟨b, n', c, o, c1, c2, c3, rfl⟩
      · have hT : xs.length + k = 0 := by
          rcases rowk_cap h ho with ⟨_, hxs, hk⟩ | ⟨g, m, c1'⟩
          · simp [hxs, hk]
          · rw [c1] at c1'; cases c1'
        have hz0 : z = 0 := by omega
        have hy0 : y = 0 := by omega
        have hx0 : x = 0 := by omega
        subst hz0; subst hy0; subst hx0
        refine ⟨.slice none 0 0, ?_, fun _ => .inl ⟨c1, rfl, rfl, rfl⟩⟩
        rw [run_sliceAt_slice w t _ _ _ _ hu, run_slice_any w t none 0 0 hu, run_bounds (P := P) hlo hhi hmx h1 h2 (hb3 0 (by omega)) hxy hyz (Nat.le_refl _) h5]
        simp only [Result.andThen_ok, hel, hee, run_sizeOf hsz, sliced]
        simp
      · have hT : c = xs.length + k := by
          rcases rowk_cap h ho with ⟨c1', _⟩ | ⟨g, m, c1'⟩
          · rw [c1] at c1'; cases c1'
          · rw [c1] at c1'; cases c1'; rfl
        refine ⟨sliced (some ⟨b, o, none⟩) x y z sz, ?_, fun hmn => .inr ⟨b, n', c, if z = x then o else o + x * sz, c1, by omega, ?_, ?_⟩⟩
        · rw [run_sliceAt_slice w t _ _ _ _ hu, run_slice_any w t _ _ _ hu, run_bounds (P := P) hlo hhi hmx h1 h2 (hb3 (c - l) (by omega)) hxy hyz (by omega) h5]
          simp only [Result.andThen_ok, hel, hee, run_sizeOf hsz]
        · have hz := h3 hmn
          by_cases hzx : z = x
          · rw [if_pos hzx]
            rcases c3 with c3 | ⟨c3, c4, c5⟩
            · by_cases h0 : l + x = 0
              · left
                have hl0 : l = 0 := by omega
                rw [h0, c3, hl0]
              · exact .inr ⟨by omega, by omega, by omega⟩
            · exact .inr ⟨by omega, by omega, by omega⟩
          · rw [if_neg hzx]
            rcases c3 with c3 | ⟨c3, c4, _⟩
            · left; rw [c3, Nat.add_mul]
            · omega
        · have hz := h3 hmn
          unfold sliced
          by_cases hzx : z = x
          · rw [if_pos hzx, if_pos hzx]; congr 1; omega
          · rw [if_neg hzx, if_neg hzx]
            simp only [Option.map_some]
            rw [Addr_add_lit]
            congr 1; omega
    split at hst
    · rename_i x y h1 h2
      split at hst
      · rename_i hc
        obtain ⟨rfl, rfl⟩ := Prod.mk.inj (Option.some.inj hst)
        obtain ⟨q1, q2, q3, q4⟩ := hc
        obtain ⟨v, hv, hs⟩ := main x y (xs.length + k - l) q3 (by omega) (by omega) q1 q2 h1 h2 (fun _ => by omega) (fun d hd => by cases hd) (fun hd => by cases hd)
        exact RunOK.same h hv (hs rfl) (fun i hi => by have : id = i := hi; subst this; exact hnf)
      · cases hst
    · rename_i x y m h1 h2
      split at hst
      · rename_i z hz
        split at hst
        · rename_i hc
          obtain ⟨rfl, rfl⟩ := Prod.mk.inj (Option.some.inj hst)
          obtain ⟨q1, q2, q3, q4, q5, q6⟩ := hc
          obtain ⟨v, hv, _⟩ := main x y z q3 q4 q5 q1 q2 h1 h2 (fun hd => by cases hd) (fun d _ => by
            revert hz; unfold bnd; split <;> simp_all) (fun _ => q6)
          exact RunOK.same h hv trivial (fun i hi => hi.elim)
        · cases hst
      · cases hst
    · cases hst
  · cases hst

/-! ### copied into, cleared, grown -/
/-- What is read from: the elements that are known, and how many there are. -/
noncomputable def srcOf (P : Program) (σ : St) (sz : Nat) : AV → Option (List PV × Nat)
  | .vw id sz2 l n => match σ.ob id with
    | .rowk e xs k => if szOf P e = some sz ∧ sz2 = sz then some ((xs.drop l).take n, n) else none
    | _ => none
  | .val (.rowp zs) => if ∀ z ∈ zs, z.cells.length = sz then some (zs, zs.length) else none
  | x => match σ.pv x with
    | some (.row zs) => if ∀ z ∈ zs, z.cells.length = sz then some (zs, zs.length) else none
    | _ => none

def ReadOK (σ : St) (C : Ctx) (cv : Nat → Value) (w : World) (sz : Nat) (zs : List PV) (m : Nat) (u : Value) : Prop :=
  zs.length ≤ m ∧ (∀ z ∈ zs, z.cells.length = sz) ∧ ((u = .slice none 0 0 ∧ m = 0) ∨ ∃ ad c cells, u = .slice (some ad) m c ∧ (∀ (j : Nat) (v : Value), cells[j]? = some v → w.cell? (ad.add j) = some v) ∧
    Reps w (FS C σ.ob cv w) (flat zs) cells ∧ ∀ c ∈ flat zs, c.isAgg = false)

theorem Rel.srcRead (h : Rel P C σ a w cv) {x : AV} {u : Value} {sz : Nat} {zs : List PV} {m : Nat} (hs : srcOf P σ sz x = some (zs, m)) (hv : SRep w (FS C σ.ob cv w) cv x u) : ReadOK σ C cv w sz zs m u := by
  have plainRow : ∀ {ys : List PV} {y : AV}, σ.pv y = some (.row ys) → SRep w (FS C σ.ob cv w) cv y u → (∀ z ∈ ys, z.cells.length = sz) → ReadOK σ C cv w sz ys ys.length u := by
    intro ys y hy hv hz
    refine ⟨Nat.le_refl _, hz, ?_⟩
    rcases h.rowRead hy hv with ⟨rfl, rfl⟩ | ⟨ad, c, sz', cells, rfl, _, _, q1, q2, q3⟩
    · exact .inl ⟨rfl, rfl⟩
    · exact .inr ⟨ad, c, cells, rfl, q1, q2, q3⟩
  unfold srcOf at hs
  split at hs
  · rename_i id sz2 l n
    split at hs
    · rename_i e xs k ho
      split at hs
      · rename_i hc
        obtain ⟨hsz, rfl⟩ := hc
        obtain ⟨rfl, rfl⟩ := Prod.mk.inj (Option.some.inj hs)
        have ho' := h.obs id
        rw [ho] at ho'
        obtain ⟨sz', cells, h1, h2, h3, h4, h5, h6, h7⟩ := ho'
        obtain rfl : sz' = sz2 := Option.some.inj (h1.symm.trans hsz)
        refine ⟨by simp only [List.length_take]; omega, fun z hz => h3 z (List.mem_of_mem_drop (List.mem_of_mem_take hz)), ?_⟩
        rcases hv with ⟨c1, rfl, rfl, rfl⟩ | ⟨b, n', c, o, c1, c2, c3, rfl⟩
        · exact .inl ⟨rfl, rfl⟩
        · rcases h7 with ⟨c1', _⟩ | ⟨g', n'', cur, c1', hg, hm, hcs, ht⟩
          · rw [c1] at c1'; cases c1'
          · rw [c1] at c1'; cases c1'
            have hfl : flat ((xs.drop l).take n) = ((flat xs).drop (l * sz')).take (n * sz') := by
              rw [flat_take (fun z hz => h3 z (List.mem_of_mem_drop hz)), flat_drop h3]
            refine .inr ⟨⟨b, o, none⟩, _, (cells.drop (l * sz')).take (n * sz'), rfl, fun j v hj => ?_, ?_, ?_⟩
            · rw [List.getElem?_take] at hj
              split at hj
              · rename_i hjn
                rw [List.getElem?_drop, ← ht, List.getElem?_take] at hj
                split at hj
                · rename_i hjx
                  rcases c3 with rfl | ⟨_, hn0, _⟩
                  · rw [Addr_add_lit, cell_of_row w b _ cur e (0, 0) hg]
                    simpa using hj
                  · rw [hn0] at hjn; omega
                · cases hj
              · cases hj
            · rw [hfl]; exact (h5.drop _).take _
            · intro c hc; rw [hfl] at hc; exact h6 c (List.mem_of_mem_drop (List.mem_of_mem_take hc))
      · cases hs
    · cases hs
  · rename_i zs'
    split at hs
    · rename_i hz
      obtain ⟨rfl, rfl⟩ := Prod.mk.inj (Option.some.inj hs)
      have hv : Rep w (FS C σ.ob cv w) (.rowp zs') u := hv
      cases hv
      rename_i hr
      exact plainRow (y := .val (.row zs')) rfl (by assumption) hz
    · cases hs
  · split at hs
    · rename_i zs' hp
      split at hs
      · rename_i hz
        obtain ⟨rfl, rfl⟩ := Prod.mk.inj (Option.some.inj hs)
        exact plainRow hp hv hz
      · cases hs
    · cases hs

/-- The first of them, as they are loaded. -/
theorem ReadOK.first {sz : Nat} {zs : List PV} {m q : Nat} {u : Value} (hr : ReadOK σ C cv w sz zs m u) (hq : q ≤ zs.length) :
    ∃ vs, (Builtin.firstCells sz q u).run P w = .ok ⟨vs⟩ w ∧ Reps w (FS C σ.ob cv w) (flat (zs.take q)) vs ∧ (∀ c ∈ flat (zs.take q), c.isAgg = false) ∧ vs.length = q * sz := by
  obtain ⟨h1, h2, h3⟩ := hr
  rcases h3 with ⟨rfl, rfl⟩ | ⟨ad, c, cells, rfl, h4, h5, h6⟩
  · have hq0 : q = 0 := by omega
    subst hq0
    exact ⟨[], by simp [Builtin.firstCells], by simpa [flat] using Reps.nil _ _, by simp [flat], by simp⟩
  · have hfl := flat_take h2 q
    have hcl : cells.length = zs.length * sz := by rw [h5.1, flat_length h2]
    have hl : (cells.take (q * sz)).length = q * sz := by
      rw [List.length_take, hcl]
      have := Nat.mul_le_mul_right sz hq
      omega
    refine ⟨cells.take (q * sz), ?_, by rw [hfl]; exact h5.take _, fun c hc => by rw [hfl] at hc; exact h6 c (List.mem_of_mem_take hc), hl⟩
    have := run_loadCells_list (P := P) w ad (cells.take (q * sz)) (fun j v hj => by
      rw [List.getElem?_take] at hj
      split at hj
      · exact h4 j v hj
      · cases hj)
    rw [hl] at this
    simp [Builtin.firstCells, this]

noncomputable def stCopyV (P : Program) (σ : St) (t : TypeId) (id sz l n : Nat) (y : AV) : Option (St × AV) :=
  match σ.ob id, elOf P t, srcOf P σ sz y with
  | .rowk e xs k, some e', some (zs, m) => if e' = e ∧ szOf P e = some sz ∧ l ≤ xs.length ∧ l + min m n ≤ xs.length + k ∧ min m n ≤ zs.length then
      some (σ.setOb id (.rowk e (over xs (zs.take (min m n)) l) (xs.length + k - (over xs (zs.take (min m n)) l).length)), .val (.int .i64 (min m n : Nat))) else none
  | _, _, _ => none

theorem Rel.copyVOp (h : Rel P C σ a w cv) {t t2 ty : TypeId} {id sz l n : Nat} {y : AV} {u uy : Value} (hx : SRep w (FS C σ.ob cv w) cv (.vw id sz l n) u) (hy : SRep w (FS C σ.ob cv w) cv y uy)
    {σ' : St} {r : AV} (hst : stCopyV P σ t id sz l n y = some (σ', r)) : RunOK P C a (Builtin.copy_ #[t, t2] ty #[u, uy]) w σ' r := by
  unfold stCopyV at hst
  split at hst
  · rename_i e xs k e' zs m ho he hsrc
    split at hst
    · rename_i hc
      obtain ⟨rfl, hsz, hl, hT, hz⟩ := hc
      obtain ⟨rfl, rfl⟩ := Prod.mk.inj (Option.some.inj hst)
      have hu := elOf_under he
      have hrd := h.srcRead hsrc hy
      obtain ⟨vs, hf, hr, hna, hvl⟩ := hrd.first (P := P) hz
      have hlen : (Builtin.lenOf uy).run P w = .ok m w := by
        rcases hrd.2.2 with ⟨rfl, rfl⟩ | ⟨ad, c, cells, rfl, _⟩ <;> simp [Builtin.lenOf]
      have hzl : (zs.take (min m n)).length = min m n := by simp [Nat.min_eq_left hz]
      rcases hx with ⟨c1, rfl, rfl, rfl⟩ | ⟨b, n', c, o, c1, c2, c3, rfl⟩
      · have hm0 : min m 0 = 0 := Nat.min_zero m
        rw [hm0] at hf hr hna hvl hzl hT hz ⊢
        refine ⟨.int .i64 0, w, cv, ?_, ?_, Rep.int _ _, fun i hi => hi.elim⟩
        · simp [Builtin.copy_, run_underlying hu, hlen, run_sizeOf hsz, hf, goInt]
        · have e1 : over xs (zs.take 0) 0 = xs := by simp [over]
          rw [e1, Nat.add_sub_cancel_left]
          rw [show σ.setOb id (.rowk e' xs k) = σ from St.eq_of' (fun t => rfl) (fun j => by simp only [St.setOb]; split <;> simp_all) rfl]
          exact h
      · have hop : vs = [] ∨ o = l * sz := by
          rcases c3 with c3 | ⟨_, c4, _⟩
          · exact .inr c3
          · left
            rw [c4, Nat.min_zero, Nat.zero_mul] at hvl
            exact List.eq_nil_of_length_eq_zero hvl
        obtain ⟨w', k1, k2⟩ := h.writeK ho (zs := zs.take (min m n)) (p := l) hsz hl (by rw [hzl]; exact hT) (fun z hz' => hrd.2.1 z (List.mem_of_mem_take hz')) hr hna c1
        have hst' : (storeCells ⟨b, o, none⟩ vs).run P w = .ok () w' := by
          rcases hop with hop | hop
          · subst hop
            have : w' = w := by simpa [storeCells] using k1.symm
            subst this
            rfl
          · rw [hop]; exact k1
        refine ⟨.int .i64 (min m n : Nat), w', cv, ?_, k2, Rep.int _ _, fun i hi => hi.elim⟩
        have hf' : (Builtin.firstCells sz (Nat.min m n) uy).run P w = .ok ⟨vs⟩ w := hf
        simp [Builtin.copy_, run_underlying hu, hlen, run_sizeOf hsz, hf', goInt, hst']
    · cases hst
  · cases hst

/-- A type's zero value, as a plain one. -/
noncomputable def zeroPV (P : Program) (e : TypeId) (sz : Nat) : Option PV :=
  match zeroOf P e, aggOf P e with
  | some zs, some ag => match purs zs with
    | some cs => if cs.length = sz ∧ ∀ c ∈ cs, c.isAgg = false then
        if ag = true then some (.agg cs) else match cs with
          | [p] => some p
          | _ => none
        else none
    | none => none
  | _, _ => none

theorem zeroPV_spec {F : Nat → Prop} {e : TypeId} {sz : Nat} {z : PV} (hz : zeroPV P e sz = some z) : z.cells.length = sz ∧ (∀ c ∈ z.cells, c.isAgg = false) ∧ ∃ inf v, P.info? e = some inf ∧ inf.zero = some v ∧ Reps w F z.cells v.cells.toList := by
  unfold zeroPV at hz
  split at hz
  · rename_i zs ag h1 h2
    split at hz
    · rename_i cs h3
      split at hz
      · rename_i hc
        have hcells : z.cells = cs := by
          split at hz
          · cases hz; rfl
          · split at hz
            · rename_i p
              cases hz
              have := hc.2 z (by simp)
              cases z <;> first | rfl | simp [PV.isAgg] at this
            · cases hz
        rw [hcells]
        refine ⟨hc.1, hc.2, ?_⟩
        unfold zeroOf at h1
        split at h1
        · rename_i inf hi
          split at h1
          · rename_i v hv
            obtain rfl := Option.some.inj h1
            refine ⟨inf, v, hi, hv, purs_reps (cv := cv0) h3 (by simp) (fun j c u hj hu => ?_)⟩
            simp only [List.getElem?_map, hu, Option.map_some, Option.some.injEq] at hj
            subst hj
            exact cAV_rep _ _ _ u
          · cases h1
        · cases h1
      · cases hz
    · cases hz
  · cases hz

theorem zeroCells_toList (z : Array Value) (hz : 0 < z.size) : ∀ n, (Builtin.zeroCells z n).toList = (List.replicate n z.toList).flatten := by
  intro n
  have e : ∀ n, (Builtin.zeroCells z n).toList = (List.range (n * z.size)).map fun i => z[i % z.size]! := fun n => by simp [Builtin.zeroCells]
  induction n with
  | zero => simp [e]
  | succ n ih =>
    rw [e, Nat.succ_mul, List.range_add, List.map_append, ← e, ih, List.replicate_succ', List.flatten_append, List.flatten_singleton]
    congr 1
    refine List.ext_getElem? fun j => ?_
    simp only [List.getElem?_map]
    by_cases hj : j < z.size
    · rw [List.getElem?_range hj]
      simp only [Option.map_some, Nat.mul_add_mod_self_right, Nat.mod_eq_of_lt hj, Array.getElem?_toList]
      rw [getElem!_pos z j hj, Array.getElem?_eq_getElem hj]
    · rw [List.getElem?_eq_none (by simpa using hj), List.getElem?_eq_none (by simpa using hj)]
      rfl

theorem reps_replicate {F : Nat → Prop} {z : PV} {vs : List Value} (h : Reps w F z.cells vs) : ∀ n, Reps w F (flat (List.replicate n z)) (List.replicate n vs).flatten := by
  intro n
  induction n with
  | zero => simpa [flat] using Reps.nil _ _
  | succ n ih => simp only [List.replicate_succ, List.flatten_cons, flat, List.flatMap_cons] at *; exact h.append ih

noncomputable def stClearV (P : Program) (σ : St) (t : TypeId) (id sz l n : Nat) : Option (St × AV) :=
  match σ.ob id, elOf P t with
  | .rowk e xs k, some e' => match zeroPV P e sz with
    | some z => if e' = e ∧ szOf P e = some sz ∧ l ≤ xs.length ∧ l + n ≤ xs.length + k then
        some (σ.setOb id (.rowk e (over xs (List.replicate n z) l) (xs.length + k - (over xs (List.replicate n z) l).length)), .tup []) else none
    | none => none
  | _, _ => none

theorem Rel.clearVOp (h : Rel P C σ a w cv) {t ty : TypeId} {id sz l n : Nat} {u : Value} (hx : SRep w (FS C σ.ob cv w) cv (.vw id sz l n) u)
    {σ' : St} {r : AV} (hst : stClearV P σ t id sz l n = some (σ', r)) : RunOK P C a (Builtin.clear_ #[t] ty #[u]) w σ' r := by
  unfold stClearV at hst
  split at hst
  · rename_i e xs k e' ho he
    split at hst
    · rename_i z hz
      split at hst
      · rename_i hc
        obtain ⟨rfl, hsz, hl, hT⟩ := hc
        obtain ⟨rfl, rfl⟩ := Prod.mk.inj (Option.some.inj hst)
        have hu := elOf_under he
        obtain ⟨z1, z2, inf, v, z3, z4, z5⟩ := zeroPV_spec (w := w) (F := FS C σ.ob cv w) hz
        have h0 : 0 < sz := by
          have ho' := h.obs id
          rw [ho] at ho'
          obtain ⟨sz', cells, h1, h2, _⟩ := ho'
          obtain rfl : sz' = sz := Option.some.inj (h1.symm.trans hsz)
          exact h2
        have hvs : v.cells.size = sz := by rw [← z1, ← z5.1]; simp
        have hna : ∀ c ∈ flat (List.replicate n z), c.isAgg = false := by
          intro c hc
          simp only [flat, List.mem_flatMap] at hc
          obtain ⟨x, hx, hc⟩ := hc
          rw [List.eq_of_mem_replicate hx] at hc
          exact z2 c hc
        rcases hx with ⟨c1, rfl, rfl, rfl⟩ | ⟨b, n', c, o, c1, c2, c3, rfl⟩
        · have e1 : over xs (List.replicate 0 z) 0 = xs := by simp [over]
          refine ⟨.tuple #[], w, cv, by simp [Builtin.clear_, run_underlying hu], ?_, ⟨[], rfl, Reps.nil _ _⟩, fun i hi => hi.elim⟩
          rw [e1, Nat.add_sub_cancel_left]
          rw [show σ.setOb id (.rowk e' xs k) = σ from St.eq_of' (fun t => rfl) (fun j => by simp only [St.setOb]; split <;> simp_all) rfl]
          exact h
        · obtain ⟨w', k1, k2⟩ := h.writeK ho (zs := List.replicate n z) (p := l) hsz hl (by simpa using hT) (fun y hy => by rw [List.eq_of_mem_replicate hy]; exact z1) (reps_replicate z5 n) hna c1
          rw [← zeroCells_toList v.cells (by omega) n] at k1
          cases n with
          | zero =>
            have hz0 : (Builtin.zeroCells v.cells 0).toList = [] := by simp [Builtin.zeroCells]
            rw [hz0] at k1
            have : w' = w := by simpa [storeCells] using k1.symm
            subst this
            exact ⟨.tuple #[], w', cv, by simp [Builtin.clear_, run_underlying hu], k2, ⟨[], rfl, Reps.nil _ _⟩, fun i hi => hi.elim⟩
          | succ n =>
            have ho : o = l * sz := by
              rcases c3 with c3 | ⟨_, c4, _⟩
              · exact c3
              · cases c4
            subst ho
            exact ⟨.tuple #[], w', cv, by simp [Builtin.clear_, run_underlying hu, zeroValue, typeInfo, z3, z4, k1], k2, ⟨[], rfl, Reps.nil _ _⟩, fun i hi => hi.elim⟩
      · cases hst
    · cases hst
  · cases hst

/-- append, where there is room. -/
noncomputable def stAppendV (P : Program) (σ : St) (t t2 : TypeId) (id sz l n : Nat) (y : AV) : Option (St × AV) :=
  match σ.ob id, elOf P t, srcOf P σ sz y with
  | .rowk e xs k, some e', some (zs, m) => if e' = e ∧ szOf P e = some sz ∧ l + n ≤ xs.length ∧ l + n + m ≤ xs.length + k ∧ m = zs.length ∧ t2 = t then
      some (σ.setOb id (.rowk e (over xs zs (l + n)) (xs.length + k - (over xs zs (l + n)).length)), .vw id sz l (n + m)) else none
  | _, _, _ => none

theorem Rel.appendVOp (h : Rel P C σ a w cv) {t t2 ty : TypeId} {id sz l n : Nat} {y : AV} {u uy : Value} (hx : SRep w (FS C σ.ob cv w) cv (.vw id sz l n) u) (hy : SRep w (FS C σ.ob cv w) cv y uy)
    {σ' : St} {r : AV} (hst : stAppendV P σ t t2 id sz l n y = some (σ', r)) : RunOK P C a (Builtin.append_ #[t, t2] ty #[u, uy]) w σ' r := by
  unfold stAppendV at hst
  split at hst
  · rename_i e xs k e' zs m ho he hsrc
    split at hst
    · rename_i hc
      obtain ⟨rfl, hsz, hl, hT, rfl, rfl⟩ := hc
      obtain ⟨rfl, rfl⟩ := Prod.mk.inj (Option.some.inj hst)
      have hu := elOf_under he
      have hrd := h.srcRead hsrc hy
      obtain ⟨vs, hf, hr, hna, hvl⟩ := hrd.first (P := P) (Nat.le_refl _)
      rw [List.take_length] at hr hna
      have hlen : (Builtin.lenOf uy).run P w = .ok zs.length w := by
        rcases hrd.2.2 with ⟨rfl, h0⟩ | ⟨ad, c, cells, rfl, _⟩
        · simp [Builtin.lenOf, h0]
        · simp [Builtin.lenOf]
      have hnf : ∀ o, (σ.setOb id (.rowk e' o (xs.length + k - o.length))).ob id ≠ .free := fun o => by simp [St.setOb]
      rcases hx with ⟨c1, rfl, rfl, rfl⟩ | ⟨b, n', c, o, c1, c2, c3, rfl⟩
      · have hT0 : xs = [] ∧ k = 0 := by
          rcases rowk_cap h ho with ⟨_, hxs, hk⟩ | ⟨g, m, c1'⟩
          · exact ⟨hxs, hk⟩
          · rw [c1] at c1'; cases c1'
        obtain ⟨rfl, rfl⟩ := hT0
        have hz0 : zs = [] := by simpa using hT
        subst hz0
        refine ⟨.slice none 0 0, w, cv, ?_, ?_, .inl ⟨c1, rfl, rfl, rfl⟩, fun i hi => by have : id = i := hi; subst this; exact hnf _⟩
        · have hf' : (Builtin.firstCells sz 0 uy).run P w = .ok ⟨vs⟩ w := hf
          have hlen' : (Builtin.lenOf uy).run P w = .ok 0 w := hlen
          simp [Builtin.append_, run_underlying hu, run_sizeOf hsz, hlen', hf']
        · have e1 : over ([] : List PV) [] (0 + 0) = [] := by simp [over]
          rw [e1]
          rw [show σ.setOb id (.rowk e' [] (([] : List PV).length + 0 - ([] : List PV).length)) = σ from St.eq_of' (fun t => rfl) (fun j => by simp only [St.setOb]; split <;> simp_all) rfl]
          exact h
      · have hcT : c = xs.length + k := by
          rcases rowk_cap h ho with ⟨c1', _⟩ | ⟨g, m, c1'⟩
          · rw [c1] at c1'; cases c1'
          · rw [c1] at c1'; cases c1'; rfl
        obtain ⟨w', k1, k2⟩ := h.writeK ho (zs := zs) (p := l + n) hsz hl (by omega) hrd.2.1 hr hna c1
        have hst' : (storeCells ((⟨b, o, none⟩ : Addr).add (n * sz)) vs).run P w = .ok () w' := by
          rcases c3 with c3 | ⟨c4, c5, _⟩
          · rw [Addr_add_lit, c3, ← Nat.add_mul]; exact k1
          · have : vs = [] := List.eq_nil_of_length_eq_zero (by rw [hvl]; have : zs.length = 0 := by omega
                                                                rw [this]; simp)
            subst this
            have : w' = w := by simpa [storeCells] using k1.symm
            subst this
            rfl
        refine ⟨.slice (some ⟨b, o, none⟩) (n + zs.length) (c - l), w', cv, ?_, k2, .inr ⟨b, n', c, o, c1, by omega, ?_, rfl⟩, fun i hi => by have : id = i := hi; subst this; exact hnf _⟩
        · have hroom : n + zs.length ≤ c - l := by omega
          have hf' : (Builtin.firstCells sz zs.length uy).run P w = .ok ⟨vs⟩ w := hf
          simp [Builtin.append_, run_underlying hu, run_sizeOf hsz, hlen, hf', hroom, hst']
        · rcases c3 with c3 | ⟨c4, c5, c6⟩
          · exact .inl c3
          · exact .inr ⟨c4, by omega, c6⟩
    · cases hst
  · cases hst

/-- append of zero values, where there is no room: a new row. -/
noncomputable def stAppendZ (P : Program) (σ : St) (nid : Nat) (t t2 : TypeId) (id sz l n : Nat) (q : Int) : Option (St × AV) :=
  match σ.ob id, elOf P t, P.underlying t2 with
  | .rowk e xs k, some e', some (.int _) => match zeroPV P e sz, byOf P e with
    | some z, some nb => if e' = e ∧ szOf P e = some sz ∧ l = 0 ∧ n ≤ xs.length ∧ 0 < q ∧ xs.length + k < n + q.toNat ∧ (n + q.toNat) * nb ≤ 140737488355328 ∧ n + q.toNat ≤ 4611686018427387904 ∧ σ.isFree nid = true then
        some (σ.setOb nid (.row e (xs.take n ++ List.replicate q.toNat z)), .ref nid) else none
    | _, _ => none
  | _, _, _ => none

theorem Rel.appendZOp (h : Rel P C σ a w cv) {nid : Nat} {t t2 ty : TypeId} {id sz l n : Nat} {kq : IntKind} {q : Int} {u : Value} (hx : SRep w (FS C σ.ob cv w) cv (.vw id sz l n) u)
    {σ' : St} {r : AV} (hst : stAppendZ P σ nid t t2 id sz l n q = some (σ', r)) : RunOK P C a (Builtin.append_ #[t, t2] ty #[u, .int kq q]) w σ' r := by
  unfold stAppendZ at hst
  split at hst
  · rename_i e xs k e' k2 ho he ht2
    split at hst
    · rename_i z nb hz hnb
      split at hst
      · rename_i hc
        obtain ⟨rfl, hsz, rfl, hn, hq, hT, hnb2, h63, hfr⟩ := hc
        obtain ⟨rfl, rfl⟩ := Prod.mk.inj (Option.some.inj hst)
        obtain ⟨m, rfl⟩ := Int.eq_ofNat_of_zero_le (Int.le_of_lt hq)
        simp only [Int.ofNat_eq_natCast, Int.toNat_natCast] at *
        have hu := elOf_under he
        obtain ⟨z1, z2, inf, v, z3, z4, z5⟩ := zeroPV_spec (w := w) (F := FS C σ.ob cv w) hz
        have hisz : inf.size = sz := by simpa [szOf, z3] using hsz
        have hiby : inf.bytes = nb := by simpa [byOf, z3] using hnb
        have ho' := h.obs id
        rw [ho] at ho'
        obtain ⟨sz', cells, h1, h2, h3, h4, h5, h6, h7⟩ := ho'
        obtain rfl : sz' = sz := Option.some.inj (h1.symm.trans hsz)
        have hvs : v.cells.size = sz' := by rw [← z1, ← z5.1]; simp
        have hm0 : 0 < m := by omega
        have hfl := flat_take h3 n
        -- what stood there
        obtain ⟨olds, base, cap, hue, hcap, hold, hrep⟩ : ∃ (olds : List Value) (base : Option Addr) (cap : Nat), u = .slice base n cap ∧ cap = xs.length + k ∧
            (∀ w2 : World, w2.heap = w.heap → (Builtin.firstCells sz' n (.slice base n cap)).run P w2 = .ok olds.toArray w2) ∧ Reps w (FS C σ.ob cv w) (flat (xs.take n)) olds := by
          rcases hx with ⟨c1, _, rfl, rfl⟩ | ⟨b, n', c, o, c1, c2, c3, rfl⟩
          · have hT0 : xs = [] ∧ k = 0 := by
              rcases rowk_cap h ho with ⟨_, hxs, hk⟩ | ⟨g, m, c1'⟩
              · exact ⟨hxs, hk⟩
              · rw [c1] at c1'; cases c1'
            refine ⟨[], none, 0, rfl, by simp [hT0.1, hT0.2], fun w2 _ => by simp [Builtin.firstCells], by simpa [flat] using Reps.nil _ _⟩
          · rcases h7 with ⟨c1', _⟩ | ⟨g', n'', cur, c1', hg, hm, hcs, ht⟩
            · rw [c1] at c1'; cases c1'
            · rw [c1] at c1'; cases c1'
              have hl : (cells.take (n * sz')).length = n * sz' := by
                rw [List.length_take, h4]
                have := Nat.mul_le_mul_right sz' hn
                omega
              refine ⟨cells.take (n * sz'), _, _, rfl, by omega, fun w2 hw2 => ?_, by rw [hfl]; exact h5.take _⟩
              have hg2 : w2.heap[b]? = some (.cells cur e' (0, 0)) := by rw [hw2]; exact hg
              have := run_loadCells_list (P := P) w2 ⟨b, o, none⟩ (cells.take (n * sz')) (fun j x hj => by
                rw [List.getElem?_take] at hj
                split at hj
                · rename_i hjn
                  have ho0 : o = 0 := by
                    rcases c3 with c3 | ⟨_, c4, _⟩
                    · simpa using c3
                    · rw [c4] at hjn; omega
                  subst ho0
                  rw [← ht, List.getElem?_take] at hj
                  split at hj
                  · rw [Addr_add_lit, cell_of_row w2 b _ cur e' (0, 0) hg2]
                    simpa using hj
                  · cases hj
                · cases hj)
              rw [hl] at this
              simp [Builtin.firstCells, this]
        subst hue
        have hrun := Lib.run_append_grow_zeros w t t2 ty e' inf v kq k2 hu ht2 z3 z4 base n cap olds (by rw [hisz]; exact hold w.drew rfl) m hm0 (by omega) (by omega) (by omega) (by
            rw [hiby]
            have : m * nb ≤ (n + m) * nb := Nat.mul_le_mul_right _ (by omega)
            omega) (by rw [hiby]; exact growslice_fits (by omega) hnb2)
        have hge := grownCap_ge w (n + m) cap e'
        have hmx : grownCap w (n + m) cap e' ≤ maxLen := grownCap_le_maxLen w (n + m) cap e' (by simp only [maxLen]; omega)
        generalize hG : grownCap w (n + m) cap e' = G at *
        have hol : olds.length = n * sz' := by rw [hrep.1, flat_length (fun x hx => h3 x (List.mem_of_mem_take hx))]; simp [Nat.min_eq_left hn]
        have hzl : ∀ j, (Builtin.zeroCells v.cells j).toList.length = j * sz' := fun j => by simp [Builtin.zeroCells, hvs]
        have e1 : olds.toArray ++ Builtin.zeroCells v.cells m ++ Builtin.zeroCells v.cells (G - (n + m)) = ⟨olds ++ (Builtin.zeroCells v.cells m).toList ++ (Builtin.zeroCells v.cells (G - (n + m))).toList⟩ := by
          apply Array.toList_inj.1
          simp
        rw [e1] at hrun
        have hfree := isFree_free hfr
        have hdr := h.drew
        have hnew := hdr.new nid hfree (.row e' (xs.take n ++ List.replicate m z)) (olds ++ (Builtin.zeroCells v.cells m).toList ++ (Builtin.zeroCells v.cells (G - (n + m))).toList) e' (.slice (some ⟨w.heap.size, 0, none⟩) (n + m) G) rfl rfl
          (fun F' cv' hF hi _ => by
            show OwnRow P _ F' (cv' nid) e' _
            rw [hi]
            have hsame : Same (FS C σ.ob cv w) w (w.drew.alloc (.cells ⟨olds ++ (Builtin.zeroCells v.cells m).toList ++ (Builtin.zeroCells v.cells (G - (n + m))).toList⟩ e')) := fun b hb => heap_alloc_old w.drew _ b (h.fs_lt hb)
            have hln : (xs.take n ++ List.replicate m z).length = n + m := by simp [Nat.min_eq_left hn]
            refine ⟨sz', olds ++ (Builtin.zeroCells v.cells m).toList, hsz, h2, fun x hx => ?_, ⟨?_, .inr ⟨w.heap.size, G, _, by rw [hln], Nat.zero_le _, heap_alloc_new w.drew _, by rw [hln]; exact hge, hmx, ?_, ?_⟩⟩, ?_, fun c hc => ?_⟩
            · rcases List.mem_append.1 hx with hx | hx
              · exact h3 x (List.mem_of_mem_take hx)
              · rw [List.eq_of_mem_replicate hx]; exact z1
            · rw [hln, List.length_append, hol, hzl, Nat.add_mul]
            · show (olds ++ (Builtin.zeroCells v.cells m).toList ++ (Builtin.zeroCells v.cells (G - (n + m))).toList).length = _
              rw [List.length_append, List.length_append, hol, hzl, hzl, ← Nat.add_mul, ← Nat.add_mul]
              congr 1; omega
            · show (olds ++ (Builtin.zeroCells v.cells m).toList ++ (Builtin.zeroCells v.cells (G - (n + m))).toList).take _ = _
              rw [hln, List.take_append_of_le_length (by rw [List.length_append, hol, hzl, ← Nat.add_mul]; exact Nat.le_refl _), List.take_of_length_le (by rw [List.length_append, hol, hzl, ← Nat.add_mul]; exact Nat.le_refl _)]
            · rw [flat_append]
              have hq2 := (reps_replicate z5 m).mono hsame hF
              rw [← zeroCells_toList v.cells (by omega) m] at hq2
              exact (hrep.mono hsame hF).append hq2
            · rw [flat_append] at hc
              rcases List.mem_append.1 hc with hc | hc
              · rw [hfl] at hc; exact h6 c (List.mem_of_mem_take hc)
              · simp only [flat, List.mem_flatMap] at hc
                obtain ⟨x, hx, hc⟩ := hc
                rw [List.eq_of_mem_replicate hx] at hc
                exact z2 c hc)
          (fun j hj => hj.elim) (fun hj => hj.elim)
        exact ⟨_, _, _, hrun, hnew, by show _ = (if nid = nid then _ else _); rw [if_pos rfl], fun i hi => by have : nid = i := hi; subst this; simp [St.setOb]⟩
      · cases hst
    · cases hst
  · cases hst

/-- append, where there is no room: a new row. -/
noncomputable def stAppendG (P : Program) (σ : St) (nid : Nat) (t t2 : TypeId) (id sz l n : Nat) (y : AV) : Option (St × AV) :=
  match σ.ob id, elOf P t, srcOf P σ sz y with
  | .rowk e xs k, some e', some (zs, m) => match zeroPV P e sz, byOf P e with
    | some z, some nb => if e' = e ∧ szOf P e = some sz ∧ l = 0 ∧ n ≤ xs.length ∧ m = zs.length ∧ t2 = t ∧ xs.length + k < n + m ∧ (n + m) * nb ≤ 140737488355328 ∧ n + m ≤ 4611686018427387904 ∧ σ.isFree nid = true then
        some (σ.setOb nid (.row e (xs.take n ++ zs)), .ref nid) else none
    | _, _ => none
  | _, _, _ => none

theorem run_append_grow_any (t ty e : TypeId) (i : TypeInfo) (z : Value) (ht : P.underlying t = some (.slice e)) (hi : P.info? e = some i) (hz : i.zero = some z)
    (base : Option Addr) (sLen sCap : Nat) (olds : List Value) (hold : (Builtin.firstCells i.size sLen (.slice base sLen sCap)).run P w.drew = .ok olds.toArray w.drew)
    (x : Value) (n : Nat) (news : List Value) (hlen : (Builtin.lenOf x).run P w = .ok n w) (hnew : (Builtin.firstCells i.size n x).run P w.drew = .ok news.toArray w.drew)
    (hg : sCap < sLen + n) (h63 : ((sLen + n : Nat) : Int) ≤ 9223372036854775807) (hfit : Builtin.nextslicecap (sLen + n) sCap * i.bytes ≤ 281474976710656) :
    (Builtin.append_ #[t, t] ty #[.slice base sLen sCap, x]).run P w =
      .ok (.slice (some ⟨w.heap.size, 0, none⟩) (sLen + n) (grownCap w (sLen + n) sCap e))
        (w.drew.alloc (.cells (olds.toArray ++ news.toArray ++ Builtin.zeroCells z.cells (grownCap w (sLen + n) sCap e - (sLen + n))) e)) := by
  have hn : ¬ (sLen + n ≤ sCap) := by omega
  have h63' : ¬ (9223372036854775807 < ((sLen : Int) + (n : Int))) := by omega
  have h48' : ¬ (281474976710656 < Builtin.nextslicecap (sLen + n) sCap * i.bytes) := by omega
  simp [Builtin.append_, run_underlying ht, sizeOf, typeInfo, zeroValue, hi, hz, hlen, hn, h63', h48', Question.forced, hold, hnew, newRow, grownCap]
  congr 2
  apply Array.ext'
  simp [List.append_assoc]

theorem Rel.appendGOp (h : Rel P C σ a w cv) {nid : Nat} {t t2 ty : TypeId} {id sz l n : Nat} {y : AV} {u uy : Value} (hx : SRep w (FS C σ.ob cv w) cv (.vw id sz l n) u) (hy : SRep w (FS C σ.ob cv w) cv y uy)
    {σ' : St} {r : AV} (hst : stAppendG P σ nid t t2 id sz l n y = some (σ', r)) : RunOK P C a (Builtin.append_ #[t, t2] ty #[u, uy]) w σ' r := by
  unfold stAppendG at hst
  split at hst
  · rename_i e xs k e' zs m ho he hsrc
    split at hst
    · rename_i z nb hz hnb
      split at hst
      · rename_i hc
        obtain ⟨rfl, hsz, rfl, hn, rfl, rfl, hT, hnb2, h63, hfr⟩ := hc
        obtain ⟨rfl, rfl⟩ := Prod.mk.inj (Option.some.inj hst)
        have hrd := h.srcRead hsrc hy
        have hyd : SRep w.drew (FS C σ.ob cv w.drew) cv y uy := hy.mono (fun _ _ => rfl : Same (FS C σ.ob cv w) w w.drew) (fun _ hb => hb) (fun _ _ => rfl)
        obtain ⟨vs, hf, hr, hna, hvl⟩ := (h.drew.srcRead hsrc hyd).first (P := P) (Nat.le_refl _)
        rw [List.take_length] at hr hna
        have hr : Reps w (FS C σ.ob cv w) (flat zs) vs := hr.mono (fun _ _ => rfl : Same (FS C σ.ob cv w.drew) w.drew w) (fun _ hb => hb)
        have hlen : (Builtin.lenOf uy).run P w = .ok zs.length w := by
          rcases hrd.2.2 with ⟨rfl, h0⟩ | ⟨ad, c, cells, rfl, _⟩
          · simp [Builtin.lenOf, h0]
          · simp [Builtin.lenOf]
        generalize hm : zs.length = m at *
        have hu := elOf_under he
        obtain ⟨z1, z2, inf, v, z3, z4, z5⟩ := zeroPV_spec (w := w) (F := FS C σ.ob cv w) hz
        have hisz : inf.size = sz := by simpa [szOf, z3] using hsz
        have hiby : inf.bytes = nb := by simpa [byOf, z3] using hnb
        have ho' := h.obs id
        rw [ho] at ho'
        obtain ⟨sz', cells, h1, h2, h3, h4, h5, h6, h7⟩ := ho'
        obtain rfl : sz' = sz := Option.some.inj (h1.symm.trans hsz)
        have hvs : v.cells.size = sz' := by rw [← z1, ← z5.1]; simp
        have hfl := flat_take h3 n
        -- what stood there
        obtain ⟨olds, base, cap, hue, hcap, hold, hrep⟩ : ∃ (olds : List Value) (base : Option Addr) (cap : Nat), u = .slice base n cap ∧ cap = xs.length + k ∧
            (∀ w2 : World, w2.heap = w.heap → (Builtin.firstCells sz' n (.slice base n cap)).run P w2 = .ok olds.toArray w2) ∧ Reps w (FS C σ.ob cv w) (flat (xs.take n)) olds := by
          rcases hx with ⟨c1, _, rfl, rfl⟩ | ⟨b, n', c, o, c1, c2, c3, rfl⟩
          · have hT0 : xs = [] ∧ k = 0 := by
              rcases rowk_cap h ho with ⟨_, hxs, hk⟩ | ⟨g, m, c1'⟩
              · exact ⟨hxs, hk⟩
              · rw [c1] at c1'; cases c1'
            refine ⟨[], none, 0, rfl, by simp [hT0.1, hT0.2], fun w2 _ => by simp [Builtin.firstCells], by simpa [flat] using Reps.nil _ _⟩
          · rcases h7 with ⟨c1', _⟩ | ⟨g', n'', cur, c1', hg, hm, hcs, ht⟩
            · rw [c1] at c1'; cases c1'
            · rw [c1] at c1'; cases c1'
              have hl : (cells.take (n * sz')).length = n * sz' := by
                rw [List.length_take, h4]
                have := Nat.mul_le_mul_right sz' hn
                omega
              refine ⟨cells.take (n * sz'), _, _, rfl, by omega, fun w2 hw2 => ?_, by rw [hfl]; exact h5.take _⟩
              have hg2 : w2.heap[b]? = some (.cells cur e' (0, 0)) := by rw [hw2]; exact hg
              have := run_loadCells_list (P := P) w2 ⟨b, o, none⟩ (cells.take (n * sz')) (fun j x hj => by
                rw [List.getElem?_take] at hj
                split at hj
                · rename_i hjn
                  have ho0 : o = 0 := by
                    rcases c3 with c3 | ⟨_, c4, _⟩
                    · simpa using c3
                    · rw [c4] at hjn; omega
                  subst ho0
                  rw [← ht, List.getElem?_take] at hj
                  split at hj
                  · rw [Addr_add_lit, cell_of_row w2 b _ cur e' (0, 0) hg2]
                    simpa using hj
                  · cases hj
                · cases hj)
              rw [hl] at this
              simp [Builtin.firstCells, this]
        subst hue
        have hrun := run_append_grow_any (P := P) (w := w) t2 ty e' inf v hu z3 z4 base n cap olds (by rw [hisz]; exact hold w.drew rfl) uy m vs hlen (by rw [hisz]; exact hf) (by omega) (by omega) (by rw [hiby]; exact growslice_fits (by omega) hnb2)
        have hge := grownCap_ge w (n + m) cap e'
        have hmx : grownCap w (n + m) cap e' ≤ maxLen := grownCap_le_maxLen w (n + m) cap e' (by simp only [maxLen]; omega)
        generalize hG : grownCap w (n + m) cap e' = G at *
        have hol : olds.length = n * sz' := by rw [hrep.1, flat_length (fun x hx => h3 x (List.mem_of_mem_take hx))]; simp [Nat.min_eq_left hn]
        have hzl : ∀ j, (Builtin.zeroCells v.cells j).toList.length = j * sz' := fun j => by simp [Builtin.zeroCells, hvs]
        have e1 : olds.toArray ++ vs.toArray ++ Builtin.zeroCells v.cells (G - (n + m)) = ⟨olds ++ vs ++ (Builtin.zeroCells v.cells (G - (n + m))).toList⟩ := by
          apply Array.toList_inj.1
          simp
        rw [e1] at hrun
        have hfree := isFree_free hfr
        have hdr := h.drew
        have hnew := hdr.new nid hfree (.row e' (xs.take n ++ zs)) (olds ++ vs ++ (Builtin.zeroCells v.cells (G - (n + m))).toList) e' (.slice (some ⟨w.heap.size, 0, none⟩) (n + m) G) rfl rfl
          (fun F' cv' hF hi _ => by
            show OwnRow P _ F' (cv' nid) e' _
            rw [hi]
            have hsame : Same (FS C σ.ob cv w) w (w.drew.alloc (.cells ⟨olds ++ vs ++ (Builtin.zeroCells v.cells (G - (n + m))).toList⟩ e')) := fun b hb => heap_alloc_old w.drew _ b (h.fs_lt hb)
            have hln : (xs.take n ++ zs).length = n + m := by simp [Nat.min_eq_left hn, hm]
            refine ⟨sz', olds ++ vs, hsz, h2, fun x hx => ?_, ⟨?_, .inr ⟨w.heap.size, G, _, by rw [hln], Nat.zero_le _, heap_alloc_new w.drew _, by rw [hln]; exact hge, hmx, ?_, ?_⟩⟩, ?_, fun c hc => ?_⟩
            · rcases List.mem_append.1 hx with hx | hx
              · exact h3 x (List.mem_of_mem_take hx)
              · exact hrd.2.1 x hx
            · rw [hln, List.length_append, hol, hvl, Nat.add_mul]
            · show (olds ++ vs ++ (Builtin.zeroCells v.cells (G - (n + m))).toList).length = _
              rw [List.length_append, List.length_append, hol, hvl, hzl, ← Nat.add_mul, ← Nat.add_mul]
              congr 1; omega
            · show (olds ++ vs ++ (Builtin.zeroCells v.cells (G - (n + m))).toList).take _ = _
              rw [hln, List.take_append_of_le_length (by rw [List.length_append, hol, hvl, ← Nat.add_mul]; exact Nat.le_refl _), List.take_of_length_le (by rw [List.length_append, hol, hvl, ← Nat.add_mul]; exact Nat.le_refl _)]
            · rw [flat_append]
              exact (hrep.mono hsame hF).append (hr.mono hsame hF)
            · rw [flat_append] at hc
              rcases List.mem_append.1 hc with hc | hc
              · rw [hfl] at hc; exact h6 c (List.mem_of_mem_take hc)
              · exact hna c hc)
          (fun j hj => hj.elim) (fun hj => hj.elim)
        exact ⟨_, _, _, hrun, hnew, by show _ = (if nid = nid then _ else _); rw [if_pos rfl], fun i hi => by have : nid = i := hi; subst this; simp [St.setOb]⟩
      · cases hst
    · cases hst
  · cases hst

end
end Go.Proofs.YtjbfcmaiejlnbaaVm
set_option linter.unusedVariables false
set_option linter.unusedSimpArgs false
namespace Go.Proofs.YtjbfcmaiejlnbaaVm
open Go Classical

abbrev Ent := Int × Int × Nat
def keyIs (n : Int) (e : Ent) : Bool := e.1 == n
def bornIs (s : Nat) (e : Ent) : Bool := e.2.2 == s

/-- A map type from int to int. -/
def mapT (P : Program) (t : TypeId) : Prop := ∃ k e inf, P.underlying t = some (.map k e) ∧ P.underlying k = some (.int .i64) ∧ P.info? e = some inf ∧ inf.zero = some (.int .i64 0)

noncomputable def stMakeMap (P : Program) (σ : St) (nid : Nat) : Option (St × AV) :=
  if σ.isFree nid = true then some (σ.setOb nid (.imap [] 0), .ref nid) else none
def foundAV : Option Ent → AV
  | some e => .tup [.int .i64 e.2.1, .bool true]
  | none => .tup [.int .i64 0, .bool false]
noncomputable def stLook (P : Program) (σ : St) (t : TypeId) (x k : AV) : Option (St × AV) :=
  match x, k with
  | .ref i, .val (.int .i64 n) => match σ.ob i with
    | .imap es _ => if mapT P t then some (σ, foundAV (es.find? (keyIs n))) else none
    | _ => none
  | _, _ => none
noncomputable def stMUpd (P : Program) (σ : St) (t : TypeId) (x k v : AV) : Option (St × AV) :=
  match x, k, v with
  | .ref i, .val (.int .i64 n), .val (.int .i64 m) => match σ.ob i with
    | .imap es clock => if mapT P t ∧ es.find? (keyIs n) = none then some (σ.setOb i (.imap (es ++ [(n, m, clock)]) (clock + 1)), .any) else none
    | _ => none
  | _, _, _ => none
noncomputable def stMDel (P : Program) (σ : St) (t : TypeId) (x k : AV) : Option (St × AV) :=
  match x, k with
  | .ref i, .val (.int .i64 n) => match σ.ob i with
    | .imap es clock => if mapT P t then some (σ.setOb i (.imap (es.eraseP (keyIs n)) clock), .any) else none
    | _ => none
  | _, _ => none
noncomputable def stMLen (P : Program) (σ : St) (t : TypeId) (x : AV) : Option (St × AV) :=
  match x with
  | .ref i => match σ.ob i with
    | .imap es _ => if mapT P t then some (σ, .val (.int .i64 es.length)) else none
    | _ => none
  | _ => none
noncomputable def stMRange (P : Program) (σ : St) (nid : Nat) (t : TypeId) (x : AV) : Option (St × AV) :=
  match x with
  | .ref i => match σ.ob i with
    | .imap _ clock => if mapT P t ∧ σ.isFree nid = true then some (σ.setOb nid (.iter i clock [] clock), .ref nid) else none
    | _ => none
  | _ => none
def entAV (σ : St) : Option Ent → Option (St × AV)
  | some e => some (σ, .tup [.int .i64 e.1, .int .i64 e.2.1])
  | none => none
noncomputable def stMEntry (σ : St) (x : AV) : Option (St × AV) :=
  match x with
  | .ref j => match σ.ob j with
    | .iter m _ seen last => match σ.ob m with
      | .imap es clock => if clock = last then match seen.getLast? with
        | some s => entAV σ (es.find? (bornIs s))
        | none => none else none
      | _ => none
    | _ => none
  | _ => none

theorem isKey_int (n : Int) : MapKept.IsKey (.int .i64) (.int .i64 n) := by simp [MapKept.IsKey]
theorem isKey_ents (es : List Ent) : ∀ x ∈ es.map mEnt, MapKept.IsKey (.int .i64) x.key := by
  intro x hx
  obtain ⟨e, _, rfl⟩ := List.mem_map.1 hx
  exact isKey_int _

theorem findNow_none (n : Int) : ∀ (es : List Ent) (i : Nat), es.find? (keyIs n) = none → Instr.findNow (.int .i64) (.int .i64 n) (es.map mEnt) i = some none
  | [], i, _ => rfl
  | e :: es, i, h => by
    rw [List.find?_cons] at h
    split at h
    · cases h
    · rename_i hk
      have hne : e.1 ≠ n := by simpa [keyIs] using hk
      have hne' : (n == e.1) = false := by simpa using fun e' => hne e'.symm
      simp only [List.map_cons, Instr.findNow, mEnt, Instr.sameNow, if_true, hne']
      exact findNow_none n es (i + 1) h
theorem findNow_hit (n : Int) (e : Ent) (l2 : List Ent) (he : e.1 = n) : ∀ (l1 : List Ent) (i : Nat), (∀ x ∈ l1, keyIs n x = false) → Instr.findNow (.int .i64) (.int .i64 n) ((l1 ++ e :: l2).map mEnt) i = some (some (i + l1.length, .int .i64 e.2.1))
  | [], i, _ => by simp [Instr.findNow, mEnt, Instr.sameNow, he]
  | x :: l1, i, h => by
    have hne : x.1 ≠ n := by simpa [keyIs] using h x (List.mem_cons_self ..)
    have hne' : (n == x.1) = false := by simpa using fun e' => hne e'.symm
    have ih := findNow_hit n e l2 he l1 (i + 1) (fun y hy => h y (List.mem_cons_of_mem _ hy))
    simp only [List.cons_append, List.map_cons, Instr.findNow, mEnt, Instr.sameNow, if_true, hne'] at ih ⊢
    rw [ih, List.length_cons]
    congr 3
    omega
theorem find_split {p : Ent → Bool} {es : List Ent} {e : Ent} (h : es.find? p = some e) : ∃ l1 l2, es = l1 ++ e :: l2 ∧ p e = true ∧ ∀ x ∈ l1, p x = false := by
  obtain ⟨h1, l1, l2, h2, h3⟩ := List.find?_eq_some_iff_append.1 h
  exact ⟨l1, l2, h2, h1, fun x hx => by simpa using h3 x hx⟩

section
variable {P : Program} {C : Ctx} {σ : St} {a : Act} {w : World} {cv : Nat → Value}

theorem Rel.mapAt (h : Rel P C σ a w cv) {i : Nat} {es : List Ent} {clock : Nat} (ho : σ.ob i = .imap es clock) : ∃ b, cv i = .map (some b) ∧ w.heap[b]? = some (.map ⟨es.map mEnt⟩ clock) := by
  have := h.obs i
  rw [ho] at this
  exact this

theorem Rel.makeMapOp (h : Rel P C σ a w cv) {nid : Nat} {t : TypeId} {σ' : St} {r : AV} (hst : stMakeMap P σ nid = some (σ', r)) : RunOK P C a (Instr.makeMap t none) w σ' r := by
  unfold stMakeMap at hst
  split at hst
  · rename_i hf
    obtain ⟨rfl, rfl⟩ := Prod.mk.inj (Option.some.inj hst)
    refine ⟨.map (some w.heap.size), w.alloc (.map #[] 0), _, by simp [Instr.makeMap], h.newO nid (isFree_free hf) (.imap [] 0) (.map #[] 0) (.map (some w.heap.size)) rfl rfl (fun F' cv' _ hcv _ => ?_) (fun j hj => hj.elim) (fun hj => hj.elim), ?_, fun i hi => ?_⟩
    · exact ⟨_, hcv, (MapKept.heap_alloc w _).1⟩
    · show _ = (if nid = nid then _ else _)
      rw [if_pos rfl]
    · have e : nid = i := hi
      subst e; simp [St.setOb]
  · cases hst

theorem Rel.lookOp (h : Rel P C σ a w cv) {t : TypeId} {x k : AV} {u v : Value} {σ' : St} {r : AV} (hx : SRep w (FS C σ.ob cv w) cv x u) (hk : SRep w (FS C σ.ob cv w) cv k v)
    (hst : stLook P σ t x k = some (σ', r)) : RunOK P C a (Instr.lookup t u v true) w σ' r := by
  unfold stLook at hst
  split at hst
  · rename_i i n
    split at hst
    · rename_i es clock ho
      split at hst
      · rename_i hT
        obtain ⟨kt, et, inf, hu, hku, hi, hz⟩ := hT
        obtain ⟨rfl, rfl⟩ := Prod.mk.inj (Option.some.inj hst)
        obtain ⟨b, h1, h2⟩ := h.mapAt ho
        have hx : u = cv i := hx
        subst hx
        cases hk
        rw [h1]
        have hck := MapKept.run_checkKey (P := P) (w := w) hku (isKey_int n) (⟨es.map mEnt⟩ : Array MapEntry).isEmpty 9999
        cases hf : es.find? (keyIs n) with
        | none =>
          have hfk := MapKept.run_findKey (P := P) (w := w) hku (findNow_none n es 0 hf)
          refine ⟨.tuple #[.int .i64 0, .bool false], w, cv, ?_, h, ⟨_, rfl, Reps.cons (.int _ _) (Reps.cons (.bool _) (Reps.nil _ _))⟩, fun i hi => hi.elim⟩
          simp only [Instr.lookup, Sem.run_bind, run_underlying hu, Result.andThen_ok, MapKept.run_getObj_map h2, Sem.run_pure, hck, hfk]
          simp [zeroValue, typeInfo, hi, hz]
        | some e =>
          obtain ⟨l1, l2, rfl, he, hl⟩ := find_split hf
          have he : e.1 = n := by simpa [keyIs] using he
          have hfk := MapKept.run_findKey (P := P) (w := w) hku (findNow_hit n e l2 he l1 0 hl)
          refine ⟨.tuple #[.int .i64 e.2.1, .bool true], w, cv, ?_, h, ⟨_, rfl, Reps.cons (.int _ _) (Reps.cons (.bool _) (Reps.nil _ _))⟩, fun i hi => hi.elim⟩
          simp only [Instr.lookup, Sem.run_bind, run_underlying hu, Result.andThen_ok, MapKept.run_getObj_map h2, Sem.run_pure, hck, hfk]
          simp
      · cases hst
    · cases hst
  · cases hst

theorem grown_putObj (w : World) (b : Nat) (o : Obj) (hb : b < w.heap.size) : w.grownBy { w with heap := w.heap.setIfInBounds b o } (some b) :=
  ⟨rfl, rfl, rfl, by simp, fun k _ hk => by
    show (w.heap.setIfInBounds b o)[k]? = w.heap[k]?
    rw [Array.getElem?_setIfInBounds_ne (fun e => hk (by rw [e]))]⟩

theorem Rel.setMap (h : Rel P C σ a w cv) {i b : Nat} {es es' : List Ent} {clock clock' : Nat} (ho : σ.ob i = .imap es clock) (h1 : cv i = .map (some b)) (h2 : w.heap[b]? = some (.map ⟨es.map mEnt⟩ clock)) :
    Rel P C (σ.setOb i (.imap es' clock')) a { w with heap := w.heap.setIfInBounds b (.map ⟨es'.map mEnt⟩ clock') } cv :=
  h.mod i (by rw [ho]; rfl) _ (by simp) (grown_putObj w b _ (Array.getElem?_eq_some_iff.1 h2).1) (fun b' hb' => by cases hb'; rw [h1]; rfl)
    (fun F' _ _ _ => ⟨b, h1, (MapKept.heap_set h2).1⟩) (fun j hj => hj.elim)

theorem Rel.mUpdOp (h : Rel P C σ a w cv) {t : TypeId} {x k m : AV} {u v z : Value} {σ' : St} {r : AV} (hx : SRep w (FS C σ.ob cv w) cv x u) (hk : SRep w (FS C σ.ob cv w) cv k v) (hm : SRep w (FS C σ.ob cv w) cv m z)
    (hst : stMUpd P σ t x k m = some (σ', r)) : ∃ w', (Instr.mapUpdate t u v z).run P w = .ok () w' ∧ Rel P C σ' a w' cv ∧ r = .any := by
  unfold stMUpd at hst
  split at hst
  · rename_i i n y
    split at hst
    · rename_i es clock ho
      split at hst
      · rename_i hT
        obtain ⟨⟨kt, et, inf, hu, hku, hi, hz⟩, hf⟩ := hT
        obtain ⟨rfl, rfl⟩ := Prod.mk.inj (Option.some.inj hst)
        obtain ⟨b, h1, h2⟩ := h.mapAt ho
        have hx : u = cv i := hx
        subst hx
        cases hk
        cases hm
        have h3 := h.setMap (es' := es ++ [(n, y, clock)]) (clock' := clock + 1) ho h1 h2
        rw [h1]
        have hck := MapKept.run_checkKey (P := P) (w := w) hku (isKey_int n) false 9999
        have hfk := MapKept.run_findKey (P := P) (w := w) hku (findNow_none n es 0 hf)
        have e1 : ((⟨es.map mEnt⟩ : Array MapEntry).push ⟨.int .i64 n, .int .i64 y, clock⟩) = ⟨(es ++ [(n, y, clock)]).map mEnt⟩ := by
          apply Array.ext'; simp [mEnt]
        refine ⟨_, ?_, h3, rfl⟩
        simp only [Instr.mapUpdate, Sem.run_bind, run_underlying hu, Result.andThen_ok, MapKept.run_getObj_map h2, hck, hfk, e1, MapKept.run_setObj_map _ h2]
      · cases hst
    · cases hst
  · cases hst

theorem Rel.mDelOp (h : Rel P C σ a w cv) {t t2 ty : TypeId} {x k : AV} {u v : Value} {σ' : St} {r : AV} (hx : SRep w (FS C σ.ob cv w) cv x u) (hk : SRep w (FS C σ.ob cv w) cv k v)
    (hst : stMDel P σ t x k = some (σ', r)) : ∃ z w', (Builtin.delete_ #[t, t2] ty #[u, v]).run P w = .ok z w' ∧ Rel P C σ' a w' cv ∧ r = .any := by
  unfold stMDel at hst
  split at hst
  · rename_i i n
    split at hst
    · rename_i es clock ho
      split at hst
      · rename_i hT
        obtain ⟨kt, et, inf, hu, hku, hi, hz⟩ := hT
        obtain ⟨rfl, rfl⟩ := Prod.mk.inj (Option.some.inj hst)
        obtain ⟨b, h1, h2⟩ := h.mapAt ho
        have hx : u = cv i := hx
        subst hx
        cases hk
        have h3 := h.setMap (es' := es.eraseP (keyIs n)) (clock' := clock) ho h1 h2
        rw [h1]
        have hck := MapKept.run_checkKey (P := P) (w := w) hku (isKey_int n) (⟨es.map mEnt⟩ : Array MapEntry).isEmpty 9999
        cases hf : es.find? (keyIs n) with
        | none =>
          have hfk := MapKept.run_findKey (P := P) (w := w) hku (findNow_none n es 0 hf)
          have e1 : es.eraseP (keyIs n) = es := List.eraseP_of_forall_not (fun x hx => by simpa using List.find?_eq_none.1 hf x hx)
          rw [e1] at h3 ⊢
          refine ⟨.tuple #[], _, ?_, h3, rfl⟩
          simp only [Builtin.delete_, List.getElem?_toArray, List.getElem?_cons_zero, List.getElem?_cons_succ, Sem.run_bind, run_underlying hu, Result.andThen_ok, MapKept.run_getObj_map h2, hck, hfk, MapKept.run_setObj_map _ h2]
          rfl
        | some e =>
          obtain ⟨l1, l2, rfl, he, hl⟩ := find_split hf
          have he' : e.1 = n := by simpa [keyIs] using he
          have hfk := MapKept.run_findKey (P := P) (w := w) hku (findNow_hit n e l2 he' l1 0 hl)
          have e1 : (l1 ++ e :: l2).eraseP (keyIs n) = l1 ++ l2 := by
            rw [List.eraseP_append_right _ (fun x hx => by simp [hl x hx])]
            simp [he]
          have e2 : (⟨(l1 ++ e :: l2).map mEnt⟩ : Array MapEntry).eraseIdxIfInBounds (0 + l1.length) = ⟨(l1 ++ l2).map mEnt⟩ := by
            apply Array.ext'
            rw [Array.eraseIdxIfInBounds, dif_pos (by simp)]
            simp [Array.toList_eraseIdx, List.eraseIdx_append_of_length_le]
          rw [e1] at h3 ⊢
          refine ⟨.tuple #[], _, ?_, h3, rfl⟩
          simp only [Builtin.delete_, List.getElem?_toArray, List.getElem?_cons_zero, List.getElem?_cons_succ, Sem.run_bind, run_underlying hu, Result.andThen_ok, MapKept.run_getObj_map h2, hck, hfk, e2, MapKept.run_setObj_map _ h2]
          rfl
      · cases hst
    · cases hst
  · cases hst

theorem Rel.mLenOp (h : Rel P C σ a w cv) {t ty : TypeId} {x : AV} {u : Value} {σ' : St} {r : AV} (hx : SRep w (FS C σ.ob cv w) cv x u)
    (hst : stMLen P σ t x = some (σ', r)) : RunOK P C a (Builtin.len_ #[t] ty #[u]) w σ' r := by
  unfold stMLen at hst
  split at hst
  · rename_i i
    split at hst
    · rename_i es clock ho
      split at hst
      · rename_i hT
        obtain ⟨kt, et, inf, hu, hku, hi, hz⟩ := hT
        obtain ⟨rfl, rfl⟩ := Prod.mk.inj (Option.some.inj hst)
        obtain ⟨b, h1, h2⟩ := h.mapAt ho
        have hx : u = cv i := hx
        subst hx
        rw [h1]
        refine ⟨.int .i64 es.length, w, cv, ?_, h, .int _ _, fun i hi => hi.elim⟩
        simp [Builtin.len_, run_underlying hu, MapKept.run_getObj_map h2, goInt]
      · cases hst
    · cases hst
  · cases hst

theorem Rel.mRangeOp (h : Rel P C σ a w cv) {nid : Nat} {t : TypeId} {x : AV} {u : Value} {σ' : St} {r : AV} (hx : SRep w (FS C σ.ob cv w) cv x u)
    (hst : stMRange P σ nid t x = some (σ', r)) : RunOK P C a (Instr.range t u) w σ' r := by
  unfold stMRange at hst
  split at hst
  · rename_i i
    split at hst
    · rename_i es clock ho
      split at hst
      · rename_i hT
        obtain ⟨⟨kt, et, inf, hu, hku, hi, hz⟩, hf⟩ := hT
        obtain ⟨rfl, rfl⟩ := Prod.mk.inj (Option.some.inj hst)
        obtain ⟨b, h1, h2⟩ := h.mapAt ho
        have hx : u = cv i := hx
        subst hx
        have hne : i ≠ nid := fun e => by rw [e, isFree_free hf] at ho; cases ho
        rw [h1]
        refine ⟨_, _, _, (by simp [Instr.range, run_underlying hu, MapKept.run_getObj_map h2] : (Instr.range t (.map (some b))).run P w = .ok (.pointer (some ⟨w.heap.size, 0, none⟩)) (w.alloc (.mapIter (some b) clock #[] clock))), h.newO nid (isFree_free hf) (.iter i clock [] clock) _ (.pointer (some ⟨w.heap.size, 0, none⟩)) rfl rfl (fun F' cv' _ hcv hcv' => ?_) (fun j hj => ?_) (fun hj => hne hj), ?_, fun i hi => ?_⟩
        · exact ⟨_, b, hcv, (hcv' i hne).trans h1, (MapKept.heap_alloc w _).1⟩
        · have e : i = j := hj
          subst e; rw [ho]; simp
        · show _ = (if nid = nid then _ else _)
          rw [if_pos rfl]
        · have e : nid = i := hi
          subst e; simp [St.setOb]
      · cases hst
    · cases hst
  · cases hst

theorem Rel.mEntryOp (h : Rel P C σ a w cv) {x : AV} {u : Value} {σ' : St} {r : AV} (hx : SRep w (FS C σ.ob cv w) cv x u)
    (hst : stMEntry σ x = some (σ', r)) : RunOK P C a (Instr.entry u) w σ' r := by
  unfold stMEntry at hst
  split at hst
  · rename_i j
    split at hst
    · rename_i m since seen last ho
      split at hst
      · rename_i es clock hm
        split at hst
        · rename_i hcl
          subst hcl
          split at hst
          · rename_i s hs
            obtain ⟨bm, m1, m2⟩ := h.mapAt hm
            have hob := h.obs j
            rw [ho] at hob
            obtain ⟨b, bm', h1, h2, h3⟩ := hob
            rw [m1] at h2
            cases h2
            have hx : u = cv j := hx
            subst hx
            unfold entAV at hst
            split at hst
            · rename_i e he
              obtain ⟨rfl, rfl⟩ := Prod.mk.inj (Option.some.inj hst)
              rw [h1]
              refine ⟨.tuple #[.int .i64 e.1, .int .i64 e.2.1], w, cv, ?_, h, ⟨_, rfl, Reps.cons (.int _ _) (Reps.cons (.int _ _) (Reps.nil _ _))⟩, fun i hi => hi.elim⟩
              have hback : (⟨seen⟩ : Array Nat).back? = some s := by simpa using hs
              have hfind : (⟨es.map mEnt⟩ : Array MapEntry).find? (fun x => x.born == s) = some (mEnt e) := by
                rw [← Array.find?_toList]
                show (es.map mEnt).find? _ = _
                rw [List.find?_map]
                have : es.find? ((fun x : MapEntry => x.born == s) ∘ mEnt) = some e := he
                rw [this]; rfl
              simp only [Instr.entry, getObj, Sem.run_bind, Sem.run, h3, Result.andThen, hback, m2, bne_self_eq_false, Bool.false_eq_true, if_false, hfind]
              rfl
            · cases hst
          · cases hst
        · cases hst
      · cases hst
    · cases hst
  · cases hst

/-- The entries that are left. -/
def leftE (es : List Ent) (seen : List Nat) : List Ent := es.filter fun e => !seen.contains e.2.2

theorem Rel.mNextOp (h : Rel P C σ a w cv) {j m since last clock : Nat} {seen : List Nat} {es : List Ent} {ty : TypeId} (ho : σ.ob j = .iter m since seen last) (hm : σ.ob m = .imap es clock)
    (hold : ∀ e ∈ es, e.2.2 < since) (hsc : since ≤ last) :
    (leftE es seen = [] ∧ (Instr.next (cv j) false ty).run P w = .ok (.tuple #[.bool false]) w) ∨
    ∃ e ∈ leftE es seen, ∃ w', (Instr.next (cv j) false ty).run P w = .ok (.tuple #[.bool true, .int .i64 e.1, .int .i64 e.2.1]) w' ∧ Rel P C (σ.setOb j (.iter m since (seen ++ [e.2.2]) clock)) a w' cv := by
  obtain ⟨bm, m1, m2⟩ := h.mapAt hm
  have hob := h.obs j
  rw [ho] at hob
  obtain ⟨b, bm', h1, h2, h3⟩ := hob
  rw [m1] at h2
  cases h2
  have hold' : ∀ x ∈ (⟨es.map mEnt⟩ : Array MapEntry).toList, x.born < since := by
    intro x hx
    obtain ⟨e, he, rfl⟩ := List.mem_map.1 hx
    exact hold e he
  have htest : (!(⟨seen⟩ : Array Nat).isEmpty && !(⟨es.map mEnt⟩ : Array MapEntry).isEmpty && (⟨es.map mEnt⟩ : Array MapEntry).all (fun x => decide (x.born ≥ last))) = false := by
    cases es with
    | nil => simp
    | cons e es =>
      have h0 := hold e List.mem_cons_self
      have h1 : ¬ last ≤ e.2.2 := by omega
      have h2 : (⟨(e :: es).map mEnt⟩ : Array MapEntry).all (fun x => decide (x.born ≥ last)) = false := by
        rw [← Array.all_toList]
        simp [mEnt, h1]
      rw [h2, Bool.and_false]
  have hleft : (⟨es.map mEnt⟩ : Array MapEntry).filter (fun e => !(⟨seen⟩ : Array Nat).contains e.born) = ⟨(leftE es seen).map mEnt⟩ := by
    apply Array.ext'
    rw [Array.toList_filter]
    show (es.map mEnt).filter _ = (leftE es seen).map mEnt
    unfold leftE
    rw [List.filter_map]
    congr 1
    apply List.filter_congr
    intro x _
    by_cases hx : x.2.2 ∈ seen <;> simp [mEnt, hx]
  have hmem : ∀ x ∈ (leftE es seen), x.2.2 < since := fun x hx => hold x (List.mem_filter.1 hx).1
  have e1 : (⟨(leftE es seen).map mEnt⟩ : Array MapEntry).filter (fun x => decide (x.born < since)) = ⟨(leftE es seen).map mEnt⟩ := Array.filter_eq_self.2 (fun x hx => by
    obtain ⟨e, he, rfl⟩ := List.mem_map.1 (Array.mem_toList_iff.2 hx)
    exact decide_eq_true (hmem e he))
  have e2 : (⟨(leftE es seen).map mEnt⟩ : Array MapEntry).filter (fun x => decide (x.born ≥ since)) = #[] := by
    rw [Array.filter_eq_empty_iff]
    intro x hx
    obtain ⟨e, he, rfl⟩ := List.mem_map.1 (Array.mem_toList_iff.2 hx)
    have := hmem e he
    simp [mEnt]
    omega
  rw [h1]
  simp only [Instr.next, getObj, Sem.run_bind, Sem.run, h3, m2, Result.andThen, htest, Bool.false_eq_true, if_false, hleft, e1, e2, Array.append_empty]
  generalize hL : leftE es seen = L
  by_cases h0 : L.length = 0
  · left
    have : L = [] := List.eq_nil_of_length_eq_zero h0
    subst this
    refine ⟨rfl, ?_⟩
    simp [choose, Sem.run, Question.forced]
  · right
    have hne : (⟨L.map mEnt⟩ : Array MapEntry).isEmpty = false := by simp [Array.isEmpty, h0]
    simp only [hne, Bool.false_eq_true, if_false, Array.empty_append, Array.size_map]
    have hsz : (⟨L.map mEnt⟩ : Array MapEntry).size = L.length := by simp
    rw [hsz]
    have hch : ∃ (k : Nat) (w1 : World), k < L.length ∧ (w1 = w ∨ w1 = w.drew) ∧ (choose (Question.mapNext L.length)).run P w = .ok k w1 := by
      by_cases hf : L.length ≤ 1
      · exact ⟨0, w, by omega, .inl rfl, by simp [choose, Sem.run, Question.forced, hf]⟩
      · exact ⟨_, w.drew, Nat.mod_lt _ (by omega), .inr rfl, by
          simp only [choose, Sem.run, Question.forced, decide_eq_true_eq, hf, if_false, Question.cut]
          rfl⟩
    obtain ⟨k, w1, hk, hw1, hrun⟩ := hch
    have hr1 : Rel P C σ a w1 cv := by
      rcases hw1 with rfl | rfl
      · exact h
      · exact h.drew
    have hheap : w1.heap = w.heap := by rcases hw1 with rfl | rfl <;> rfl
    have h3' : w1.heap[b]? = some (.mapIter (some bm) since ⟨seen⟩ last) := by rw [hheap]; exact h3
    refine ⟨L[k], List.getElem_mem hk, { w1 with heap := w1.heap.setIfInBounds b (.mapIter (some bm) since ⟨seen ++ [L[k].2.2]⟩ clock) }, ?_, ?_⟩
    · have hget : (⟨L.map mEnt⟩ : Array MapEntry)[k]? = some (mEnt L[k]) := by simp [hk]
      have hset : (setObj b (.mapIter (some bm) since ((⟨seen⟩ : Array Nat).push (mEnt L[k]).born) clock)).run P w1 = .ok () { w1 with heap := w1.heap.setIfInBounds b (.mapIter (some bm) since ⟨seen ++ [L[k].2.2]⟩ clock) } := by
        simp only [setObj, Sem.run, h3']
        have : (⟨seen⟩ : Array Nat).push (mEnt L[k]).born = ⟨seen ++ [L[k].2.2]⟩ := by apply Array.ext'; simp [mEnt]
        rw [this]
      simp only [hrun, Array.getElem?_map, hget, Option.map_some, Sem.run_bind, hset, Result.andThen]
      rfl
    · have hjm : m ≠ j := fun e => by rw [e] at hm; rw [ho] at hm; cases hm
      refine hr1.mod j (by rw [ho]; rfl) _ (by simp) (grown_putObj w1 b _ (Array.getElem?_eq_some_iff.1 h3').1) (fun b' hb' => by cases hb'; rw [h1]; rfl) (fun F' _ _ _ => ?_) (fun i hi => ?_)
      · exact ⟨b, bm, h1, m1, (MapKept.heap_set h3').1⟩
      · have e : m = i := hi
        subst e; rw [hm]; simp

end
end Go.Proofs.YtjbfcmaiejlnbaaVm
set_option linter.unusedVariables false
set_option linter.unusedSimpArgs false
namespace Go.Proofs.YtjbfcmaiejlnbaaVm
open Go Classical

inductive KD where
  | int (k : IntKind)
  | bool
  | str
  | other
def PV.kd : PV → KD
  | .int k _ => .int k
  | .bool _ => .bool
  | .str _ => .str
  | _ => .other

/-- '==' and '!=' on a struct type of such cells. -/
def EqT (P : Program) (t : TypeId) (ks : List KD) : Prop :=
  ∀ (w : World) (F : Nat → Prop) (x y : Operand) (ps qs : List PV) (vs us : List Value), Reps w F ps vs → Reps w F qs us → ps.map PV.kd = ks → qs.map PV.kd = ks →
    (do eqGuard .eql t x y (.agg ⟨vs⟩) (.agg ⟨us⟩); binOp .eql t (.agg ⟨vs⟩) (.agg ⟨us⟩) : Sem Value).run P w = .ok (.bool (decide (ps = qs))) w ∧
    (do eqGuard .neq t x y (.agg ⟨vs⟩) (.agg ⟨us⟩); binOp .neq t (.agg ⟨vs⟩) (.agg ⟨us⟩) : Sem Value).run P w = .ok (.bool (!decide (ps = qs))) w

def strLt (a b : List UInt8) : Bool := Op.bytesLess a b

noncomputable def binPV (P : Program) (op : BinOp) (t : TypeId) (p q : PV) : Option PV :=
  match p, q with
  | .int k x, .int k' y => match op with
   | .shl => if 0 ≤ y then some (.int k (k.wrap (x * 2 ^ min y.toNat k.bits))) else none
   | .shr => if 0 ≤ y then some (.int k (x / 2 ^ min y.toNat k.bits)) else none
   | _ => if k = k' then match op with
    | .or => some (.int k (k.wrap (BitVec.ofInt k.bits x ||| BitVec.ofInt k.bits y).toNat))
    | .add => some (.int k (k.wrap (x + y)))
    | .sub => some (.int k (k.wrap (x - y)))
    | .mul => some (.int k (k.wrap (x * y)))
    | .quo => if y ≠ 0 then some (.int k (k.wrap (x.tdiv y))) else none
    | .rem => if y ≠ 0 then some (.int k (x.tmod y)) else none
    | .eql => some (.bool (decide (x = y)))
    | .neq => some (.bool (!decide (x = y)))
    | .lss => some (.bool (decide (x < y)))
    | .leq => some (.bool (decide (x ≤ y)))
    | .gtr => some (.bool (decide (y < x)))
    | .geq => some (.bool (decide (y ≤ x)))
    | _ => none else none
  | .str a, .str b => match op with
    | .add => if a.length + b.length ≤ 4611686018427387904 then some (.str (a ++ b)) else none
    | .eql => some (.bool (decide (a = b)))
    | .neq => some (.bool (!decide (a = b)))
    | .lss => some (.bool (strLt a b))
    | .leq => some (.bool (strLt a b || decide (a = b)))
    | .gtr => some (.bool (!(strLt a b || decide (a = b))))
    | .geq => some (.bool (!strLt a b))
    | _ => none
  | .bool a, .bool b => if P.underlying t = some .bool then match op with
    | .eql => some (.bool (a == b))
    | .neq => some (.bool (!(a == b)))
    | _ => none else none
  | .nilp, .nilp => if ∃ e, P.underlying t = some (.pointer e) then match op with
    | .eql => some (.bool true)
    | .neq => some (.bool false)
    | _ => none else none
  | .ptr _, .nilp => if ∃ e, P.underlying t = some (.pointer e) then match op with
    | .eql => some (.bool false)
    | .neq => some (.bool true)
    | _ => none else none
  | x, y => if x.isAgg = true ∧ y.isAgg = true ∧ EqT P t (x.cells.map PV.kd) ∧ y.cells.map PV.kd = x.cells.map PV.kd then match op with
    | .eql => some (.bool (decide (x = y)))
    | .neq => some (.bool (!decide (x = y)))
    | _ => none else none

section
variable {P : Program} {C : Ctx} {σ : St} {a : Act} {w : World} {cv : Nat → Value}

theorem bytes_toList (a : List UInt8) : (⟨⟨a⟩⟩ : ByteArray).toList = a := ByteArray.toList_mk a

theorem agg_cells_eq {x y : PV} (hx : x.isAgg = true) (hy : y.isAgg = true) : (x = y) ↔ x.cells = y.cells := by
  cases x <;> cases y <;> simp_all [PV.isAgg, PV.cells]

theorem beq_decide {α : Type} [DecidableEq α] [BEq α] [LawfulBEq α] (x y : α) : (x == y) = decide (x = y) := by
  by_cases h : x = y <;> simp [h]

theorem run_eqIn_nil (d : Nat) {t e : TypeId} (hu : P.underlying t = some (.pointer e)) (b : Option Addr) : (Op.equalIn (d + 1) t (.pointer none) (.pointer b)).run P w = .ok b.isNone w := by
  simp [Op.equalIn, run_underlying hu]
theorem run_eqIn_some (d : Nat) {t e : TypeId} (hu : P.underlying t = some (.pointer e)) (b : Addr) : (Op.equalIn (d + 1) t (.pointer (some b)) (.pointer none)).run P w = .ok false w := by
  simp [Op.equalIn, run_underlying hu]
theorem run_eql_ptr {t : TypeId} {p q : Option Addr} {b : Bool} (h : (Op.equalIn (9999 + 1) t (.pointer p) (.pointer q)).run P w = .ok b w) (neg : Bool) :
    (binOp (if neg = true then .neq else .eql) t (.pointer p) (.pointer q)).run P w = .ok (.bool (if neg = true then !b else b)) w := by
  cases neg
  · simp only [Bool.false_eq_true, if_false, binOp]
    simp [Op.equal, Op.maxDepth, h]
  · simp only [if_true, binOp]
    simp [Op.equal, Op.maxDepth, h]
theorem run_neq_bool' {t : TypeId} (b c : Bool) (h : P.underlying t = some .bool) : (binOp .neq t (.bool b) (.bool c)).run P w = .ok (.bool (!(b == c))) w := run_neq_bool w t b c h

theorem run_binPV {F : Nat → Prop} {op : BinOp} {t : TypeId} {p q r : PV} {u v : Value} (hp : Rep w F p u) (hq : Rep w F q v) (x y : Operand) (h : binPV P op t p q = some r) :
    ∃ z, (do eqGuard op t x y u v; binOp op t u v : Sem Value).run P w = .ok z w ∧ Rep w F r z := by
  have agg : p.isAgg = true ∧ q.isAgg = true ∧ EqT P t (p.cells.map PV.kd) ∧ q.cells.map PV.kd = p.cells.map PV.kd → (∀ r, (op = .eql ∧ r = .bool (decide (p = q)) ∨ op = .neq ∧ r = .bool (!decide (p = q))) →
      ∃ z, (do eqGuard op t x y u v; binOp op t u v : Sem Value).run P w = .ok z w ∧ Rep w F r z) := by
    rintro ⟨h1, h2, h3, h4⟩ r hr
    obtain ⟨vs, rfl, r1, _⟩ := hp.cells_of_agg h1
    obtain ⟨us, rfl, r2, _⟩ := hq.cells_of_agg h2
    obtain ⟨e1, e2⟩ := h3 w F x y p.cells q.cells vs us r1 r2 rfl h4
    have e : decide (p = q) = decide (p.cells = q.cells) := by simp only [agg_cells_eq h1 h2]
    rcases hr with ⟨rfl, rfl⟩ | ⟨rfl, rfl⟩
    · exact ⟨_, e1, by rw [e]; exact .bool _⟩
    · exact ⟨_, e2, by rw [e]; exact .bool _⟩
  unfold binPV at h
  split at h
  · rename_i k m k' n
    cases hp; cases hq
    split at h
    · split at h
      · rename_i h0
        cases h
        refine ⟨_, ?_, .int _ _⟩
        have hn : ¬ n < 0 := by omega
        simp [eqGuard, binOp, Op.shift, hn]
      · cases h
    · split at h
      · rename_i h0
        cases h
        refine ⟨_, ?_, .int _ _⟩
        have hn : ¬ n < 0 := by omega
        have hp : (0 : Int) ≤ 2 ^ min n.toNat k.bits := Int.le_of_lt (Int.pow_pos (by decide))
        simp [eqGuard, binOp, Op.shift, hn, Int.fdiv_eq_ediv_of_nonneg _ hp]
      · cases h
    split at h
    · rename_i hk
      subst hk
      cases op <;> simp only at h <;> try (cases h; done)
      case quo => split at h <;> first | (cases h; rename_i h0; exact ⟨_, by simp [eqGuard, binOp, Op.intDiv, h0], .int _ _⟩) | cases h
      case rem => split at h <;> first | (cases h; rename_i h0; exact ⟨_, by simp [eqGuard, binOp, Op.intDiv, h0], .int _ _⟩) | cases h
      case or => cases h; exact ⟨_, by simp [eqGuard, binOp, Op.intBits], .int _ _⟩
      all_goals (cases h; first | exact ⟨_, by simp [eqGuard, binOp, Op.intArith], .int _ _⟩ | exact ⟨_, by simp [eqGuard, binOp, Op.intCmp, beq_decide, bne], .bool _⟩)
    · cases h
  · rename_i s s'
    cases hp; cases hq
    cases op <;> simp only at h <;> try (cases h; done)
    case add =>
      split at h
      · cases h
        rename_i hl
        have : ¬ ((9223372036854775807 : Int) < (s.length : Int) + (s'.length : Int)) := by omega
        have e : (⟨⟨s⟩⟩ : ByteArray) ++ ⟨⟨s'⟩⟩ = ⟨⟨s ++ s'⟩⟩ := by
          apply ByteArray.ext
          simp
        refine ⟨.string ⟨⟨s ++ s'⟩⟩, ?_, .str _⟩
        have hsz : ∀ l : List UInt8, (⟨⟨l⟩⟩ : ByteArray).size = l.length := fun _ => rfl
        simp [eqGuard, binOp, Op.stringOp, hsz, IntKind.max, IntKind.signed, IntKind.bits, this, e]
      · cases h
    all_goals (cases h; exact ⟨_, by simp [eqGuard, binOp, Op.stringOp, bytes_toList, beq_decide, strLt], .bool _⟩)
  · rename_i b c
    cases hp; cases hq
    split at h
    · rename_i hu
      cases op <;> simp only at h <;> try (cases h; done)
      all_goals (cases h; first | exact ⟨_, by simp only [eqGuard, Sem.run_bind, Sem.run_pure, Result.andThen_ok]; exact run_eql_bool w t b c hu, .bool _⟩ | exact ⟨_, by simp only [eqGuard, Sem.run_bind, Sem.run_pure, Result.andThen_ok]; exact run_neq_bool w t b c hu, .bool _⟩)
    · cases h
  · cases hp; cases hq
    split at h
    · rename_i hu
      obtain ⟨e, hu⟩ := hu
      have g := fun neg => run_eql_ptr (run_eqIn_nil (P := P) (w := w) 9999 hu none) neg
      cases op <;> simp only at h <;> try (cases h; done)
      all_goals (cases h; first | exact ⟨_, by simp only [eqGuard, Sem.run_bind, Sem.run_pure, Result.andThen_ok]; exact g false, .bool _⟩ | exact ⟨_, by simp only [eqGuard, Sem.run_bind, Sem.run_pure, Result.andThen_ok]; exact g true, .bool _⟩)
    · cases h
  · cases hp; cases hq
    split at h
    · rename_i hu
      obtain ⟨e, hu⟩ := hu
      have g := fun (b : Addr) neg => run_eql_ptr (run_eqIn_some (P := P) (w := w) 9999 hu b) neg
      cases op <;> simp only at h <;> try (cases h; done)
      all_goals (cases h; first | exact ⟨_, by simp only [eqGuard, Sem.run_bind, Sem.run_pure, Result.andThen_ok]; exact g _ false, .bool _⟩ | exact ⟨_, by simp only [eqGuard, Sem.run_bind, Sem.run_pure, Result.andThen_ok]; exact g _ true, .bool _⟩)
    · cases h
  · split at h
    · rename_i hc
      cases op <;> simp only at h <;> try (cases h; done)
      all_goals (cases h; first | exact agg hc _ (.inl ⟨rfl, rfl⟩) | exact agg hc _ (.inr ⟨rfl, rfl⟩))
    · cases h

/-! ### min and max -/
def mmPV (isMax : Bool) (p q : PV) : Option PV :=
  match p, q with
  | .int k x, .int k' y => if k = k' then some (.int k (if isMax = true then (if y > x then y else x) else (if y < x then y else x))) else none
  | .str a, .str b => some (.str (if isMax = true then (if (!strLt a b) = true then a else b) else (if (strLt a b || decide (a = b)) = true then a else b)))
  | _, _ => none

theorem run_mmPV {F : Nat → Prop} {isMax : Bool} {p q r : PV} {u v : Value} (hp : Rep w F p u) (hq : Rep w F q v) (h : mmPV isMax p q = some r) :
    ∃ z, ((if isMax = true then Builtin.max_ else Builtin.min_) : Array TypeId → TypeId → Array Value → Sem Value) #[] 0 #[u, v] = (if isMax = true then Builtin.max2 else Builtin.min2) u v ∧ ((if isMax = true then Builtin.max2 else Builtin.min2) u v).run P w = .ok z w ∧ Rep w F r z := by
  have e : ((if isMax = true then Builtin.max_ else Builtin.min_) : Array TypeId → TypeId → Array Value → Sem Value) #[] 0 #[u, v] = (if isMax = true then Builtin.max2 else Builtin.min2) u v := by
    cases isMax <;> simp [Builtin.max_, Builtin.min_]
  unfold mmPV at h
  split at h
  · rename_i k x k' y
    cases hp; cases hq
    split at h
    · rename_i hk
      subst hk
      cases h
      cases isMax
      · exact ⟨.int k (if y < x then y else x), e, by simp [Builtin.min2], by simpa using Rep.int _ _⟩
      · exact ⟨.int k (if y > x then y else x), e, by simp [Builtin.max2], by simpa using Rep.int _ _⟩
    · cases h
  · rename_i s s'
    cases hp; cases hq
    cases h
    cases isMax
    · refine ⟨_, e, ?_, Rep.str _⟩
      by_cases hc : (strLt s s' || decide (s = s')) = true
      · have hc' := hc
        simp only [strLt] at hc'
        simp [Builtin.min2, Op.stringOp, bytes_toList, beq_decide, asBool, hc, hc']
      · have hc' := hc
        simp only [strLt] at hc'
        simp [Builtin.min2, Op.stringOp, bytes_toList, beq_decide, asBool, hc, hc']
    · refine ⟨_, e, ?_, Rep.str _⟩
      by_cases hc : (!strLt s s') = true
      · have hc' := hc
        simp only [strLt] at hc'
        simp [Builtin.max2, Op.stringOp, bytes_toList, beq_decide, asBool, hc, hc']
      · have hc' := hc
        simp only [strLt] at hc'
        simp [Builtin.max2, Op.stringOp, bytes_toList, beq_decide, asBool, hc, hc']
  · cases h

/-! ### All operations but calls -/
def stField2 (P : Program) (t : TypeId) (f : Nat) (x : PV) : Option PV :=
  match fldOf P t f with
  | some (o, ft) => match szOf P ft, aggOf P ft with
    | some n, some ag => if x.isAgg = true then (if ag = true ∧ x.cells.length < o + n then none else partPV ag n x.cells o) else none
    | _, _ => none
  | none => none

theorem run_field2 {F : Nat → Prop} {t : TypeId} {f : Nat} {x y : PV} {u : Value} (hx : Rep w F x u) (h : stField2 P t f x = some y) : ∃ z, (Instr.field t u f).run P w = .ok z w ∧ Rep w F y z := by
  unfold stField2 at h
  split at h
  · rename_i o ft hf
    split at h
    · rename_i n ag hn hag
      split at h
      · rename_i hxa
        obtain ⟨vs, rfl, hr, hna⟩ := hx.cells_of_agg hxa
        have hfs : ∃ fs fld, P.underlying t = some (.struct fs) ∧ fs[f]? = some fld ∧ fld.offset = o ∧ fld.type = ft := by
          unfold fldOf at hf
          split at hf
          · rename_i fs hu
            split at hf
            · rename_i fld hfl
              simp only [Option.some.injEq, Prod.mk.injEq] at hf
              exact ⟨fs, fld, hu, hfl, hf.1, hf.2⟩
            · cases hf
          · cases hf
        obtain ⟨fs, fld, hu, hfl, rfl, rfl⟩ := hfs
        split at h
        · cases h
        · rename_i hlen
          unfold partPV at h
          split at h
          · rename_i e
            subst e
            split at h
            · cases h
              have hs := hr.drop_take fld.offset n
              have e2 : (⟨vs⟩ : Array Value).extract fld.offset (fld.offset + n) = ⟨(vs.drop fld.offset).take n⟩ := by
                apply Array.ext'
                simp [List.drop_take]
              exact ⟨.agg ⟨(vs.drop fld.offset).take n⟩, by simp [Instr.field, run_underlying hu, hfl, asAgg, part, run_isAgg hag, run_sizeOf hn, e2], .agg _ _ hs.1 (noagg_sub hna _ _) hs.2⟩
            · cases h
          · rename_i e
            have e : ag = false := by simpa using e
            subst e
            obtain ⟨v, hv, hrep⟩ := hr.get h
            exact ⟨v, by simp [Instr.field, run_underlying hu, hfl, asAgg, part, run_isAgg hag, hv], hrep⟩
      · cases h
    · cases h
  · cases h

noncomputable def stBuiltin (P : Program) (σ : St) (nid : Nat) (b : Builtin) (args : List AV) (ts : List TypeId) : Option (St × AV) :=
  match b, args, ts with
  | .len, [x], [t] => match x with
    | .val (.str s) => if P.underlying t = some .string then some (σ, .val (.int .i64 s.length)) else none
    | _ => match σ.pv x, elOf P t with
      | some (.row xs), some _ => some (σ, .val (.int .i64 xs.length))
      | _, _ => stMLen P σ t x
  | .min, [x, y], _ => match x, y with
    | .val p, .val q => match mmPV false p q with
      | some r => some (σ, .val r)
      | none => none
    | _, _ => none
  | .max, [x, y], _ => match x, y with
    | .val p, .val q => match mmPV true p q with
      | some r => some (σ, .val r)
      | none => none
    | _, _ => none
  | .append, [s, x], [t, t2] => stAppend P σ nid t t2 s x
  | .delete, [x, k], [t, _] => stMDel P σ t x k
  | _, _, _ => none

noncomputable def stB1 (P : Program) (σ : St) (b : Builtin) (id sz l n : Nat) (ts : List TypeId) : Option (St × AV) :=
  match b, ts with
  | .len, [t] => match elOf P t with
    | some _ => some (σ, .val (.int .i64 n))
    | none => none
  | .cap, [t] => match elOf P t, σ.ob id with
    | some _, .rowk e xs k => if l ≤ xs.length + k then some (σ, .val (.int .i64 (xs.length + k - l : Nat))) else none
    | _, _ => none
  | .clear, [t] => stClearV P σ t id sz l n
  | _, _ => none
noncomputable def choose2 (c : Prop) [Decidable c] (a b : Option (St × AV)) : Option (St × AV) := if c then a else b
noncomputable def stAppVG (P : Program) (σ : St) (nid : Nat) (t t2 : TypeId) (id sz l n : Nat) (y : AV) : Option (St × AV) :=
  match σ.ob id, srcOf P σ sz y with
  | .rowk _ xs k, some (_, m) => choose2 (l + n + m ≤ xs.length + k) (stAppendV P σ t t2 id sz l n y) (stAppendG P σ nid t t2 id sz l n y)
  | _, _ => none
noncomputable def stB2 (P : Program) (σ : St) (nid : Nat) (b : Builtin) (id sz l n : Nat) (y : AV) (ts : List TypeId) : Option (St × AV) :=
  match b, ts with
  | .copy, [t, _] => stCopyV P σ t id sz l n y
  | .append, [t, t2] => match y with
    | .val (.int _ q) => stAppendZ P σ nid t t2 id sz l n q
    | _ => stAppVG P σ nid t t2 id sz l n y
  | _, _ => none
noncomputable def stBuiltin2 (P : Program) (σ : St) (nid : Nat) (b : Builtin) (args : List AV) (ts : List TypeId) : Option (St × AV) :=
  match args with
  | [.vw id sz l n] => stB1 P σ b id sz l n ts
  | [.vw id sz l n, y] => stB2 P σ nid b id sz l n y ts
  | [.val (.rowp zs)] => stBuiltin P σ nid b [.val (.row zs)] ts
  | [x, .val (.rowp zs)] => stBuiltin P σ nid b [x, .val (.row zs)] ts
  | _ => stBuiltin P σ nid b args ts

theorem rowp_row {F : Nat → Prop} {zs : List PV} {u : Value} (h : Rep w F (.rowp zs) u) : Rep w F (.row zs) u := by
  cases h; assumption

theorem Rel.builtinAt (h : Rel P C σ a w cv) {nid : Nat} {b : Builtin} {avs : List AV} {us : List Value} {ts : List TypeId} {ty : TypeId} {cs : Array Bool} {σ' : St} {r : AV}
    (hl : us.length = avs.length) (hr : ∀ (j : Nat) (c : AV) (v : Value), avs[j]? = some c → us[j]? = some v → SRep w (FS C σ.ob cv w) cv c v)
    (hst : stBuiltin P σ nid b avs ts = some (σ', r)) :
    ∃ u w' cv', (builtin b ts.toArray ty cs us.toArray).run P w = .ok (.value u) w' ∧ Rel P C σ' a w' cv' ∧ SRep w' (FS C σ'.ob cv' w') cv' r u ∧ ∀ i, r.ment i → σ'.ob i ≠ .free := by
  have one : ∀ {x : AV}, avs = [x] → ∃ p, us = [p] ∧ SRep w (FS C σ.ob cv w) cv x p := by
    intro x he
    subst he
    match us, hl with
    | [p], _ => exact ⟨p, rfl, hr 0 x p rfl rfl⟩
  have two : ∀ {x y : AV}, avs = [x, y] → ∃ p q, us = [p, q] ∧ SRep w (FS C σ.ob cv w) cv x p ∧ SRep w (FS C σ.ob cv w) cv y q := by
    intro x y he
    subst he
    match us, hl with
    | [p, q], _ => exact ⟨p, q, rfl, hr 0 x p rfl rfl, hr 1 y q rfl rfl⟩
  clear hl hr
  unfold stBuiltin at hst
  split at hst
  · rename_i x t
    obtain ⟨u, rfl, hx⟩ := one rfl
    split at hst
    · rename_i s
      split at hst
      · rename_i hu
        cases hst
        cases hx
        exact ⟨.int .i64 s.length, w, cv, by simp [builtin, Builtin.len_, run_underlying hu, goInt]; rfl, h, Rep.int _ _, fun i hi => hi.elim⟩
      · cases hst
    · split at hst
      · rename_i xs e hxs he'
        cases hst
        have hu := elOf_under he'
        rcases h.rowRead hxs hx with ⟨rfl, rfl⟩ | ⟨ad, c, sz, cells, rfl, _⟩
        · exact ⟨.int .i64 0, w, cv, by simp [builtin, Builtin.len_, run_underlying hu, goInt], h, Rep.int _ _, fun i hi => hi.elim⟩
        · exact ⟨.int .i64 xs.length, w, cv, by simp [builtin, Builtin.len_, run_underlying hu, goInt], h, Rep.int _ _, fun i hi => hi.elim⟩
      · obtain ⟨z, w', cv', h1, h2, h3, h4⟩ := h.mLenOp (ty := ty) hx hst
        exact ⟨z, w', cv', by simp [builtin, h1], h2, h3, h4⟩
  · rename_i x y
    obtain ⟨u, v, rfl, hx, hy⟩ := two rfl
    split at hst
    · split at hst
      · rename_i r hr
        cases hst
        obtain ⟨z, _, h2, h3⟩ := run_mmPV (P := P) hx hy hr
        simp only [Bool.false_eq_true, if_false] at h2
        exact ⟨z, w, cv, by simp [builtin, Builtin.min_, h2], h, h3, fun i hi => hi.elim⟩
      · cases hst
    · cases hst
  · rename_i x y
    obtain ⟨u, v, rfl, hx, hy⟩ := two rfl
    split at hst
    · split at hst
      · rename_i r hr
        cases hst
        obtain ⟨z, _, h2, h3⟩ := run_mmPV (P := P) hx hy hr
        simp only [if_true] at h2
        exact ⟨z, w, cv, by simp [builtin, Builtin.max_, h2], h, h3, fun i hi => hi.elim⟩
      · cases hst
    · cases hst
  · rename_i x y t t2
    obtain ⟨u, v, rfl, hx, hy⟩ := two rfl
    obtain ⟨u, w', cv', h1, h2, h3, h4⟩ := h.appendOp (ty := ty) hx hy hst
    exact ⟨u, w', cv', by simp [builtin, h1], h2, h3, h4⟩
  · rename_i x k t t2
    obtain ⟨u, v, rfl, hx, hy⟩ := two rfl
    obtain ⟨z, w', h1, h2, rfl⟩ := h.mDelOp (t2 := t2) (ty := ty) hx hy hst
    exact ⟨z, w', cv, by simp [builtin, h1], h2, trivial, fun i hi => hi.elim⟩
  · cases hst

theorem Rel.builtinOp2 (h : Rel P C σ a w cv) {nid : Nat} {b : Builtin} {avs : List AV} {us : List Value} {ts : List TypeId} {ty : TypeId} {cs : Array Bool} {σ' : St} {r : AV}
    (hl : us.length = avs.length) (hr : ∀ (j : Nat) (c : AV) (v : Value), avs[j]? = some c → us[j]? = some v → SRep w (FS C σ.ob cv w) cv c v)
    (hst : stBuiltin2 P σ nid b avs ts = some (σ', r)) :
    ∃ u w' cv', (builtin b ts.toArray ty cs us.toArray).run P w = .ok (.value u) w' ∧ Rel P C σ' a w' cv' ∧ SRep w' (FS C σ'.ob cv' w') cv' r u ∧ ∀ i, r.ment i → σ'.ob i ≠ .free := by
  unfold stBuiltin2 at hst
  split at hst
  · rename_i id sz l n
    match us, hl with
    | [u], _ =>
      have hx := hr 0 _ u rfl rfl
      unfold stB1 at hst
      split at hst
      · split at hst
        · rename_i t e he
          cases hst
          have hu := elOf_under he
          refine ⟨.int .i64 n, w, cv, ?_, h, Rep.int _ _, fun i hi => hi.elim⟩
          rcases hx with ⟨c1, rfl, rfl, rfl⟩ | ⟨b, n', c, o, c1, c2, c3, rfl⟩
          · simp [builtin, Builtin.len_, run_underlying hu, goInt]
          · simp [builtin, Builtin.len_, run_underlying hu, goInt]
        · cases hst
      · split at hst
        · rename_i t _ e0 e xs k he ho
          split at hst
          · rename_i hlk
            cases hst
            have hu := elOf_under he
            refine ⟨.int .i64 (xs.length + k - l : Nat), w, cv, ?_, h, Rep.int _ _, fun i hi => hi.elim⟩
            rcases hx with ⟨c1, rfl, rfl, rfl⟩ | ⟨b, n', c, o, c1, c2, c3, rfl⟩
            · rcases rowk_cap h ho with ⟨_, hxs, hk⟩ | ⟨g, m, c1'⟩
              · simp [builtin, Builtin.cap_, run_underlying hu, goInt, hxs, hk]
              · rw [c1] at c1'; cases c1'
            · rcases rowk_cap h ho with ⟨c1', _⟩ | ⟨g, m, c1'⟩
              · rw [c1] at c1'; cases c1'
              · rw [c1] at c1'; cases c1'
                simp [builtin, Builtin.cap_, run_underlying hu, goInt]
          · cases hst
        · cases hst
      · obtain ⟨v, w', cv', h1, h2, h3, h4⟩ := h.clearVOp (ty := ty) hx hst
        exact ⟨v, w', cv', by simp [builtin, h1], h2, h3, h4⟩
      · cases hst
  · rename_i id sz l n y
    match us, hl with
    | [u, v], _ =>
      have hx := hr 0 _ u rfl rfl
      have hy := hr 1 _ v rfl rfl
      unfold stB2 at hst
      split at hst
      · rename_i t t2
        obtain ⟨z, w', cv', h1, h2, h3, h4⟩ := h.copyVOp (t2 := t2) (ty := ty) hx hy hst
        exact ⟨z, w', cv', by simp [builtin, h1], h2, h3, h4⟩
      · split at hst
        · rename_i kq q _
          cases hy
          obtain ⟨z, w', cv', h1, h2, h3, h4⟩ := h.appendZOp (kq := kq) (ty := ty) hx hst
          exact ⟨z, w', cv', by simp [builtin, h1], h2, h3, h4⟩
        · unfold stAppVG at hst
          split at hst
          · unfold choose2 at hst
            split at hst
            · obtain ⟨z, w', cv', h1, h2, h3, h4⟩ := h.appendVOp (ty := ty) hx hy hst
              exact ⟨z, w', cv', by simp [builtin, h1], h2, h3, h4⟩
            · obtain ⟨z, w', cv', h1, h2, h3, h4⟩ := h.appendGOp (ty := ty) hx hy hst
              exact ⟨z, w', cv', by simp [builtin, h1], h2, h3, h4⟩
          · cases hst
      · cases hst
  · rename_i zs
    refine h.builtinAt (avs := [.val (.row zs)]) (by simpa using hl) (fun j c v hc hv => ?_) hst
    cases j with
    | zero =>
      simp at hc; subst hc
      exact rowp_row (hr 0 _ v rfl hv)
    | succ j => simp at hc
  · rename_i x zs _
    refine h.builtinAt (avs := [x, .val (.row zs)]) (by simpa using hl) (fun j c v hc hv => ?_) hst
    match j, hc, hv with
    | 0, hc, hv => simp at hc; subst hc; exact hr 0 _ v rfl hv
    | 1, hc, hv => simp at hc; subst hc; exact rowp_row (hr 1 _ v rfl hv)
    | j + 2, hc, hv => simp at hc
  · exact h.builtinAt hl hr hst

/-- A row of bytes, as a text. -/
def bytesOf : List PV → Option (List UInt8)
  | [] => some []
  | .int .u8 n :: r => match bytesOf r with
    | some l => some (UInt8.ofNat n.toNat :: l)
    | none => none
  | _ => none
theorem bytesOf_row : ∀ (ys : List PV) (l : List UInt8), bytesOf ys = some l → ∃ ns : List Int, ys = ns.map (PV.int .u8) ∧ l = ns.map (fun n => UInt8.ofNat n.toNat)
  | [], l, h => by cases h; exact ⟨[], rfl, rfl⟩
  | y :: r, l, h => by
    unfold bytesOf at h
    split at h
    · rename_i heq; cases heq
    · rename_i n r' heq
      cases heq
      split at h
      · rename_i l' hl'
        cases h
        obtain ⟨ns, rfl, rfl⟩ := bytesOf_row r l' hl'
        exact ⟨n :: ns, rfl, rfl⟩
      · cases h
    · cases h
theorem push_all : ∀ (ns : List Int) (r : List UInt8), ns.foldl (fun r n => r.push (UInt8.ofNat n.toNat)) (⟨⟨r⟩⟩ : ByteArray) = ⟨⟨r ++ ns.map (fun n => UInt8.ofNat n.toNat)⟩⟩
  | [], r => by simp
  | n :: ns, r => by
    have e : (⟨⟨r⟩⟩ : ByteArray).push (UInt8.ofNat n.toNat) = ⟨⟨r ++ [UInt8.ofNat n.toNat]⟩⟩ := by
      apply ByteArray.ext; simp [ByteArray.push]
    simp only [List.foldl_cons, e, push_all ns, List.map_cons, List.append_assoc, List.singleton_append]


noncomputable def stepOp (P : Program) (σ : St) (nid : Nat) : Op → Option (St × AV)
  | .move x => some (σ, σ.ev x)
  | .assign x => some (σ, σ.ev x)
  | .pick c x y => match σ.ev c with
    | .val (.bool b) => some (σ, if b = true then σ.ev x else σ.ev y)
    | _ => none
  | .alloc t => stAlloc P σ nid t
  | .box t x => stBox P σ nid t (σ.ev x)
  | .build t parts => stBuild P σ t parts.toList
  | .buildSlice t len parts => stBuildSlice P σ nid t len parts.toList
  | .load t x => stLoad P σ t (σ.ev x)
  | .store t x y => match stStore P σ t (σ.ev x) (σ.ev y) with
    | some σ' => some (σ', .any)
    | none => none
  | .nilCheck x => match σ.ev x with
    | .val (.ptr p) => some (σ, .val (.ptr p))
    | .adr i o => some (σ, .adr i o)
    | .ead i s k o => some (σ, .ead i s k o)
    | .val (.fn f cs) => some (σ, .val (.fn f cs))
    | _ => none
  | .binOp op t x y _ => match σ.ev x, σ.ev y with
    | .val p, .val q => match binPV P op t p q with
      | some r => some (σ, .val r)
      | none => none
    | _, _ => none
  | .unOp op _ x => match op, σ.ev x with
    | .not, .val (.bool b) => some (σ, .val (.bool (!b)))
    | .neg, .val (.int k n) => some (σ, .val (.int k (k.wrap (0 - n))))
    | _, _ => none
  | .convert s d x => match P.underlying s, P.underlying d, σ.ev x with
    | some _, some (.int k), .val (.int _ n) => some (σ, .val (.int k (k.wrap n)))
    | some .string, some .string, .val (.str l) => some (σ, .val (.str l))
    | some (.slice e), some .string, v => match P.underlying e, σ.pv v with
      | some (.int .u8), some (.row ys) => match bytesOf ys with
        | some l => some (σ, .val (.str l))
        | none => none
      | _, _ => none
    | _, _, _ => none
  | .makeFunc (.func f) first caps => if first = #[] then match σ.pvs (σ.evs caps.toList) with
    | some ps => some (σ.pubs (σ.evs caps.toList), .val (.fn f ps))
    | none => none else none
  | .makeSlice t l c => stMake P σ nid t (σ.ev l) (σ.ev c)
  | .slice t x lo hi mx => match σ.ev x with
    | .vw id sz l n => stSliceV P σ t id sz l n (lo.map σ.ev) (hi.map σ.ev) (mx.map σ.ev)
    | v => match mx with
      | none => stSlice P σ t v (lo.map σ.ev) (hi.map σ.ev)
      | some m => match lo, hi with
        | none, some hh => stSlice3 P σ t v (σ.ev hh) (σ.ev m)
        | _, _ => none
  | .fieldAddr t x f => match stField P t f (σ.ev x) with
    | some v => some (σ, v)
    | none => none
  | .field t x f => match σ.ev x with
    | .val p => match stField2 P t f p with
      | some q => some (σ, .val q)
      | none => none
    | _ => none
  | .indexAddr t x i => match stIdx P σ t (σ.ev x) (σ.ev i) with
    | some v => some (σ, v)
    | none => none
  | .index t x i => match P.underlying t, σ.ev x, σ.ev i with
    | some .string, .val (.str l), .val (.int _ n) => if 0 ≤ n then match l[n.toNat]? with
      | some c => some (σ, .val (.int .u8 c.toNat))
      | none => none else none
    | _, _, _ => none
  | .extract x k => match σ.ev x with
    | .tup ps => match ps[k]? with
      | some p => some (σ, .val p)
      | none => none
    | _ => none
  | .makeMap _ none => stMakeMap P σ nid
  | .lookup t x k true => stLook P σ t (σ.ev x) (σ.ev k)
  | .mapUpdate t x k v => stMUpd P σ t (σ.ev x) (σ.ev k) (σ.ev v)
  | .range t x => stMRange P σ nid t (σ.ev x)
  | .entry x => stMEntry σ (σ.ev x)
  | .call c => match c.callee with
    | .builtin b => stBuiltin2 P σ nid b (σ.evs c.args.toList) c.argTypes.toList
    | _ => none
  | _ => none

theorem OpOK.of_run {o : Oper} {s : Sem Value} (h : (execOp a.eval o) = (do pure (.value (← s)) : Sem Next)) {σ' : St} {r : AV} (hr : RunOK P C a s w σ' r) : OpOK P C a (execOp a.eval o) w σ' r := by
  obtain ⟨u, w', cv', h1, h2, h3, h4⟩ := hr
  exact ⟨u, w', cv', .inl (by rw [h]; simp [h1]), h2, h3, h4⟩

theorem OpOK.same {s : Sem Next} (h : Rel P C σ a w cv) {u : Value} {r : AV} (hr : s.run P w = .ok (.value u) w) (hs : SRep w (FS C σ.ob cv w) cv r u) (hm : ∀ i, r.ment i → σ.ob i ≠ .free) : OpOK P C a s w σ r :=
  ⟨u, w, cv, .inl hr, h, hs, hm⟩

theorem step_sound (h : Rel P C σ a w cv) {o : Oper} {nid : Nat} {σ' : St} {r : AV} (hst : stepOp P σ nid o.op = some (σ', r)) : OpOK P C a (execOp a.eval o) w σ' r := by
  obtain ⟨dst, op, ty, pos, after, guard⟩ := o
  simp only at hst
  cases op <;> simp only [stepOp] at hst <;> try (cases hst; done)
  case move x =>
    cases hst
    exact OpOK.same h (by simp [execOp]) (h.ev x).1 (h.ev x).2
  case assign x =>
    cases hst
    exact OpOK.same h (by simp [execOp]) (h.ev x).1 (h.ev x).2
  case pick c x y =>
    split at hst
    · rename_i b hb
      cases hst
      have hc := (h.ev c).1
      rw [hb] at hc
      generalize hu : a.eval c = u at hc
      cases hc
      cases b
      · exact OpOK.same h (by simp [execOp, hu, asBool]) (h.ev y).1 (h.ev y).2
      · exact OpOK.same h (by simp [execOp, hu, asBool]) (h.ev x).1 (h.ev x).2
    · cases hst
  case alloc t => exact OpOK.of_run rfl (h.allocOp hst)
  case makeMap t r =>
    cases r with
    | none => exact OpOK.of_run rfl (h.makeMapOp (t := t) hst)
    | some x => cases hst
  case lookup t x k c =>
    cases c with
    | true => exact OpOK.of_run rfl (h.lookOp (h.ev x).1 (h.ev k).1 hst)
    | false => cases hst
  case mapUpdate t x k v =>
    obtain ⟨w', h1, h2, rfl⟩ := h.mUpdOp (h.ev x).1 (h.ev k).1 (h.ev v).1 hst
    exact ⟨undef, w', cv, .inr ⟨by simp [execOp, h1], rfl⟩, h2, trivial, fun i hi => hi.elim⟩
  case range t x => exact OpOK.of_run rfl (h.mRangeOp (h.ev x).1 hst)
  case entry x => exact OpOK.of_run rfl (h.mEntryOp (h.ev x).1 hst)
  case box t x => exact OpOK.of_run rfl (h.boxOp (h.ev x).1 (h.ev x).2 hst)
  case build t parts => exact OpOK.of_run rfl (h.buildOp hst)
  case buildSlice t len parts => exact OpOK.of_run rfl (h.buildSliceOp hst)
  case load t x =>
    obtain ⟨u, h1, h2, h3, h4⟩ := h.load (h.ev x).1 hst
    exact OpOK.of_run rfl ⟨u, w, cv, h1, h2, h3, h4⟩
  case store t x y =>
    split at hst
    · rename_i σ1 hs
      cases hst
      obtain ⟨w', h1, h2⟩ := h.store (h.ev x).1 (h.ev y).1 (h.ev y).2 hs
      exact ⟨undef, w', cv, .inr ⟨by simp [execOp, h1], rfl⟩, h2, trivial, fun i hi => hi.elim⟩
    · cases hst
  case nilCheck x =>
    have hx := h.ev x
    split at hst
    · rename_i p hp
      cases hst
      rw [hp] at hx
      obtain ⟨hx, hm⟩ := hx
      generalize hu : a.eval x = u at hx
      cases hx with
      | ptr _ ad cvs hF hl hcell ha hh => exact OpOK.same h (by simp [execOp, hu]) (Rep.ptr _ ad cvs hF hl hcell ha hh) (fun i hi => hi.elim)
    · rename_i i o hp
      cases hst
      rw [hp] at hx
      obtain ⟨hx, hm⟩ := hx
      obtain ⟨b, hb, hu⟩ := hx
      exact OpOK.same h (by simp [execOp, hu]) ⟨b, hb, rfl⟩ hm
    · rename_i i s k o hp
      cases hst
      rw [hp] at hx
      obtain ⟨hx, hm⟩ := hx
      obtain ⟨b, n, c, hb, hu⟩ := hx
      exact OpOK.same h (by simp [execOp, hu]) ⟨b, n, c, hb, rfl⟩ hm
    · rename_i f cs hp
      cases hst
      rw [hp] at hx
      obtain ⟨hx, hm⟩ := hx
      generalize hu : a.eval x = u at hx
      cases hx with
      | fn _ _ vs hl hh => exact OpOK.same h (by simp [execOp, hu]) (Rep.fn f cs vs hl hh) (fun i hi => hi.elim)
    · cases hst
  case binOp op t x y yt =>
    split at hst
    · rename_i p q hp hq
      split at hst
      · rename_i r' hr
        cases hst
        have hx := (h.ev x).1
        have hy := (h.ev y).1
        rw [hp] at hx
        rw [hq] at hy
        obtain ⟨z, h1, h2⟩ := run_binPV (P := P) hx hy x y hr
        exact OpOK.of_run rfl (RunOK.same h h1 h2 (fun i hi => hi.elim))
      · cases hst
    · cases hst
  case unOp op t x =>
    have hx := (h.ev x).1
    split at hst
    · rename_i b hb
      cases hst
      rw [hb] at hx
      generalize hu : a.eval x = u at hx
      cases hx
      exact OpOK.same h (by simp [execOp, hu, Op.unary]) (Rep.bool _) (fun i hi => hi.elim)
    · rename_i k n hb
      cases hst
      rw [hb] at hx
      generalize hu : a.eval x = u at hx
      cases hx
      exact OpOK.same h (by simp [execOp, hu, Op.unary, Op.intArith]) (Rep.int _ _) (fun i hi => hi.elim)
    · cases hst
  case convert s d x =>
    have hx := (h.ev x).1
    split at hst
    · rename_i ds k k' n hs hd hb
      cases hst
      rw [hb] at hx
      generalize hu : a.eval x = u at hx
      cases hx
      refine OpOK.same h (u := .int k (k.wrap n)) ?_ (Rep.int _ _) (fun i hi => hi.elim)
      cases ds <;> simp [execOp, hu, convert, run_underlying hs, run_underlying hd, Conv.intToInt]
    · rename_i l hs hd hb
      cases hst
      rw [hb] at hx
      generalize hu : a.eval x = u at hx
      cases hx
      exact OpOK.same h (by simp [execOp, hu, convert, run_underlying hs, run_underlying hd]) (Rep.str _) (fun i hi => hi.elim)
    · rename_i _ e hs hd
      split at hst
      · rename_i ys he hp
        split at hst
        · rename_i l hl
          cases hst
          obtain ⟨ns, rfl, rfl⟩ := bytesOf_row _ _ hl
          have hfl : ∀ ns : List Int, flat (ns.map (PV.int .u8)) = ns.map (PV.int .u8) := fun ns => by
            induction ns with
            | nil => rfl
            | cons n ns ih => simp only [List.map_cons, flat, List.flatMap_cons] at *; rw [ih]; rfl
          have key : (convert s d (a.eval x)).run P w = .ok (.string ⟨⟨ns.map (fun n => UInt8.ofNat n.toNat)⟩⟩) w := by
            rcases h.rowRead hp (h.ev x).1 with ⟨hu, hn⟩ | ⟨ad, c, sz, cells, hu, hc, hsz, hcell, hr, ha⟩
            · rw [hu, run_convert_bytes_string w s d e none 0 0 hs he hd]
              have : ns = [] := by simpa using hn
              subst this
              rfl
            · rw [hu, run_convert_bytes_string w s d e (some ad) _ c hs he hd]
              rw [hfl] at hr
              have hcl : cells = ns.map (Value.int .u8) := by
                apply List.ext_getElem?
                intro j
                by_cases hj : j < ns.length
                · have h1 : (ns.map (PV.int .u8))[j]? = some (.int .u8 ns[j]) := by simp [hj]
                  obtain ⟨z, h2⟩ : ∃ z, cells[j]? = some z := ⟨_, List.getElem?_eq_getElem (by rw [hr.1]; simpa using hj)⟩
                  have h3 := hr.2 j _ _ h1 h2
                  rw [h2]
                  cases h3
                  simp [hj]
                · rw [List.getElem?_eq_none (by rw [hr.1]; simpa using hj), List.getElem?_eq_none (by simpa using hj)]
              subst hcl
              have hrun := run_loadCells_list (P := P) w ad (ns.map (Value.int .u8)) hcell
              rw [run_bytesToString w ad _ c ns (by simpa using hrun)]
              have := push_all ns []
              simp only [List.nil_append] at this
              rw [← this]
              rfl
          exact OpOK.same h (by simp [execOp, key]) (Rep.str _) (fun i hi => hi.elim)
        · cases hst
      · cases hst
    · cases hst
  case makeFunc fn first caps =>
    cases fn <;> simp only [stepOp] at hst <;> try (cases hst; done)
    rename_i f
    split at hst
    · rename_i h0
      subst h0
      split at hst
      · rename_i ps hps
        cases hst
        have hrp := Rel.pvs h (vs := caps.toList.map a.eval) hps (by simp [St.evs]) (fun j c v hc hv => by
          simp only [St.evs, List.getElem?_map] at hc hv
          cases hx : caps.toList[j]? with
          | none => simp [hx] at hc
          | some x =>
            simp only [hx, Option.map_some, Option.some.injEq] at hc hv
            subst hc; subst hv
            exact (h.ev x).1)
        exact OpOK.of_run rfl ⟨.func (.func f) #[] ⟨caps.toList.map a.eval⟩, w, cv, by simp [Instr.makeFunc]; rw [← Array.toList_map], (h.pubs _).1, Rep.fn f ps _ hrp.1 hrp.2, fun i hi => hi.elim⟩
      · cases hst
    · cases hst
  case makeSlice t l c => exact OpOK.of_run rfl (h.makeOp (h.ev l).1 (h.ev c).1 hst)
  case slice t x lo hi mx =>
    have hor : ∀ (o : Option Operand), OptRep w (FS C σ.ob cv w) cv (o.map σ.ev) (o.map a.eval) := fun o => by
      cases o with
      | none => trivial
      | some y => exact (h.ev y).1
    split at hst
    · rename_i id sz l n hx
      have hv := (h.ev x).1
      rw [hx] at hv
      exact OpOK.of_run rfl (h.sliceVOp hv (hor lo) (hor hi) (hor mx) hst)
    · split at hst
      · refine OpOK.of_run rfl (h.sliceOp (ulo := lo.map a.eval) (uhi := hi.map a.eval) (h.ev x).1 ?_ ?_ hst)
        · cases lo with
          | none => trivial
          | some y => exact (h.ev y).1
        · cases hi with
          | none => trivial
          | some y => exact (h.ev y).1
      · split at hst
        · exact OpOK.of_run rfl (h.sliceOp3 (h.ev x).1 (h.ev _).1 (h.ev _).1 hst)
        · cases hst
  case fieldAddr t x f =>
    split at hst
    · rename_i v hv
      cases hst
      exact OpOK.of_run rfl (h.fieldOp (h.ev x).1 (h.ev x).2 hv)
    · cases hst
  case field t x f =>
    have hx := (h.ev x).1
    split at hst
    · rename_i p hp
      split at hst
      · rename_i q hq
        cases hst
        rw [hp] at hx
        obtain ⟨z, h1, h2⟩ := run_field2 (P := P) hx hq
        exact OpOK.of_run rfl (RunOK.same h h1 h2 (fun i hi => hi.elim))
      · cases hst
    · cases hst
  case indexAddr t x i =>
    split at hst
    · rename_i v hv
      cases hst
      exact OpOK.of_run rfl (h.idxOp (h.ev x).1 (h.ev i).1 (h.ev x).2 hv)
    · cases hst
  case index t x i =>
    have hx := (h.ev x).1
    have hi := (h.ev i).1
    split at hst
    · rename_i l k n hu hp hq
      split at hst
      · rename_i h0
        split at hst
        · rename_i c hc
          cases hst
          rw [hp] at hx
          rw [hq] at hi
          generalize hux : a.eval x = u at hx
          generalize hui : a.eval i = v at hi
          cases hx; cases hi
          have hc' : (⟨⟨l⟩⟩ : ByteArray)[n.toNat]? = some c := by
            obtain ⟨hlt, he⟩ := List.getElem?_eq_some_iff.1 hc
            rw [getElem?_pos (⟨⟨l⟩⟩ : ByteArray) n.toNat (by exact hlt)]
            exact congrArg some he
          refine OpOK.same h (u := .int .u8 c.toNat) ?_ (Rep.int _ _) (fun i hi => hi.elim)
          simp [execOp, hux, hui, Instr.index, asIntOf, run_underlying hu, h0, hc']
        · cases hst
      · cases hst
    · cases hst
  case extract x k =>
    have hx := (h.ev x).1
    split at hst
    · rename_i ps hp
      split at hst
      · rename_i p hpk
        cases hst
        rw [hp] at hx
        obtain ⟨vs, hu, hr⟩ := hx
        obtain ⟨v, hv, hrep⟩ := hr.get hpk
        exact OpOK.of_run rfl (RunOK.same h (u := v) (by simp [hu, Instr.extract, hv]) hrep (fun i hi => hi.elim))
      · cases hst
    · cases hst
  case call c =>
    split at hst
    · rename_i b hb
      unfold OpOK
      simp only [execOp, resolve, hb, Sem.run_bind, Sem.run_pure, Result.andThen_ok, invoke]
      generalize (Array.map (fun x => _) c.args : Array Bool) = cs
      obtain ⟨u, w', cv', h1, h2, h3, h4⟩ := h.builtinOp2 (ty := ty) (cs := cs) (us := c.args.toList.map a.eval) (by simp [St.evs]) (fun j x v hx hv => by
        simp only [St.evs, List.getElem?_map] at hx hv
        cases ho : c.args.toList[j]? with
        | none => rw [ho] at hx; cases hx
        | some o =>
          rw [ho] at hx hv
          cases hx; cases hv
          exact (h.ev o).1) hst
      refine ⟨u, w', cv', .inl ?_, h2, h3, h4⟩
      have e : (List.map a.eval c.args.toList).toArray = Array.map a.eval c.args := by rw [← Array.toList_map]
      rw [e] at h1
      simpa using h1
    · cases hst

end
end Go.Proofs.YtjbfcmaiejlnbaaVm
set_option linter.unusedVariables false
set_option linter.unusedSimpArgs false
namespace Go.Proofs.YtjbfcmaiejlnbaaVm
open Go Classical

inductive Arg where
  | p (x : PV)
  | o (e : TypeId) (xs : List PV)
  | n
inductive Res where
  | vals (ps : List PV)
  | own (e : TypeId) (xs : List PV)

def tupV : List Value → Value
  | [u] => u
  | us => .tuple ⟨us⟩

def ArgRep (P : Program) (w : World) (F : Nat → Prop) : Arg → Value → Prop
  | .p x, v => Rep w F x v
  | .o e xs, v => OwnRow P w F v e xs
  | .n, v => v = .slice none 0 0

/-- The blocks that are handed over. -/
def Given (args : List Arg) (vs : List Value) (b : Nat) : Prop := ∃ (i : Nat) (e : TypeId) (xs : List PV) (v : Value), args[i]? = some (.o e xs) ∧ vs[i]? = some v ∧ blkOf v = some b

structure ArgsRep (P : Program) (w : World) (F : Nat → Prop) (args : List Arg) (vs : List Value) : Prop where
  len : vs.length = args.length
  reps : ∀ (i : Nat) (x : Arg) (v : Value), args[i]? = some x → vs[i]? = some v → ArgRep P w F x v
  off : ∀ b, Given args vs b → ¬ F b
  one : ∀ (i j : Nat) (e e' : TypeId) (xs ys : List PV), args[i]? = some (.o e xs) → args[j]? = some (.o e' ys) → i = j

/-- What is stable behind a call: what was, and what is new. -/
def FN (w w' : World) (F : Nat → Prop) (args : List Arg) (vs : List Value) (b : Nat) : Prop := F b ∨ ((w.heap.size ≤ b ∨ Given args vs b) ∧ b < w'.heap.size)

def ResRep (P : Program) (w w' : World) (F : Nat → Prop) (args : List Arg) (vs : List Value) : Res → Value → Prop
  | .vals ps, v => ∃ us, v = tupV us ∧ Reps w' (FN w w' F args vs) ps us
  | .own e xs, v => OwnRow P w' (fun b => FN w w' F args vs b ∧ blkOf v ≠ some b) v e xs ∧ ∀ b, blkOf v = some b → (w.heap.size ≤ b ∨ Given args vs b) ∧ b < w'.heap.size

structure Out (P : Program) (w : World) (F : Nat → Prop) (args : List Arg) (vs : List Value) (w' : World) (r : Res) (v : Value) : Prop where
  os : w'.os = w.os
  tape : w'.tape = w.tape
  output : w'.output = w.output
  size : w.heap.size ≤ w'.heap.size
  old : ∀ k, k < w.heap.size → ¬ Given args vs k → w'.heap[k]? = w.heap[k]?
  res : ResRep P w w' F args vs r v

/-- A function's contract: called with arguments that read as 'args', it hands back what reads as 'r'. -/
def Ct (P : Program) (f : FuncId) (args : List Arg) (r : Res) : Prop :=
  ∀ (w : World) (F : Nat → Prop) (vs : List Value), (∀ b, F b → b < w.heap.size) → ArgsRep P w F args vs →
    Calls P f ⟨vs⟩ w fun e w' => ∃ v, e = .returned v ∧ Out P w F args vs w' r v

/-- The function is one that is entered. -/
def Entered (P : Program) (f : FuncId) : Prop := ∃ fn, P.funcs[f]? = some fn ∧ (fn.name == "runtime.NumGoroutine") = false ∧ fn.body.isNone = false

def resAV : List PV → AV
  | [p] => .val p
  | ps => .tup ps

def ops (ps : List PV) : List Arg := ps.map .p

theorem ops_o {ps : List PV} {i : Nat} {e : TypeId} {xs : List PV} (h : (ops ps)[i]? = some (.o e xs)) : False := by
  unfold ops at h
  rw [List.getElem?_map] at h
  cases hp : ps[i]? <;> simp [hp] at h

theorem given_ops {ps : List PV} {vs : List Value} {b : Nat} : ¬ Given (ops ps) vs b := by
  rintro ⟨i, e, xs, v, h, _⟩
  simp [ops] at h

section
variable {P : Program} {C : Ctx} {σ : St} {a : Act} {w : World} {cv : Nat → Value}

/-- Arguments that are only read. -/
theorem argsRep_ops {F : Nat → Prop} {ps : List PV} {vs : List Value} (h : Reps w F ps vs) : ArgsRep P w F (ops ps) vs where
  len := by simp [ops, h.1]
  reps := fun i x v hx hv => by
    simp only [ops, List.getElem?_map] at hx
    cases hp : ps[i]? with
    | none => simp [hp] at hx
    | some p => simp [hp] at hx; subst hx; exact h.2 i p v hp hv
  off := fun b hb => absurd hb given_ops
  one := fun i j e e' xs ys hi => by simp [ops] at hi

theorem resAV_rep {F : Nat → Prop} {qs : List PV} {us : List Value} (h : Reps w F qs us) : SRep w F cv (resAV qs) (tupV us) := by
  match qs, us, h with
  | [q], [u], h => exact h.tail.1
  | [], [], h => exact ⟨[], rfl, h⟩
  | q :: q' :: qs, u :: u' :: us, h => exact ⟨_, rfl, h⟩
  | [], u :: us, h => exact absurd h.1 (by simp)
  | [q], [], h => exact absurd h.1 (by simp)
  | [q], u :: u' :: us, h => exact absurd h.1 (by simp)
  | q :: q' :: qs, [], h => exact absurd h.1 (by simp)
  | q :: q' :: qs, [u], h => exact absurd h.1 (by simp)

theorem resAV_ment {qs : List PV} {i : Nat} : ¬ (resAV qs).ment i := by
  match qs with
  | [q] => exact fun h => h
  | [] => exact fun h => h
  | q :: q' :: qs => exact fun h => h

/-- Memory beyond what was has come; all else is as it was. -/
theorem Rel.more (h : Rel P C σ a w cv) {w' : World} (hos : w'.os = w.os) (htape : w'.tape = w.tape) (hout : w'.output = w.output) (hsize : w.heap.size ≤ w'.heap.size)
    (hold : ∀ k, k < w.heap.size → w'.heap[k]? = w.heap[k]?) :
    Rel P C σ a w' cv ∧ (∀ b, FS C σ.ob cv w b → FS C σ.ob cv w' b) ∧ (∀ b, w.heap.size ≤ b → b < w'.heap.size → FS C σ.ob cv w' b) := by
  have hS : Same (FS C σ.ob cv w) w w' := fun b hb => hold b (h.fs_lt hb)
  refine ⟨?_, fun b hb => ?_, fun b hb hlt => .inr ⟨.inl (Nat.le_trans h.size hb), hlt, fun i hi => ?_⟩⟩
  · refine h.upd (ob' := σ.ob) hos htape hout hsize (fun k hk _ => hold k (Nat.lt_of_lt_of_le hk h.size)) (fun i b hl => ⟨(h.live i b hl).1, Nat.lt_of_lt_of_le (h.live i b hl).2 hsize⟩) h.inj hS
      (fun i b hb hl => h.fs_live hb hl) (fun hF i => ?_) (fun _ _ => rfl) (fun _ hi => hi) h.mento
    exact (h.obs i).mono hS hF rfl (fun _ _ => rfl) (fun hl b hb => hold b (h.live i b ⟨hl, hb⟩).2)
  · rcases hb with hb | hb
    · exact .inl hb
    · exact .inr ⟨hb.1, Nat.lt_of_lt_of_le hb.2.1 hsize, hb.2.2⟩
  · have := (h.live i b hi).2; omega

/-- What is handed to a call; the last one may be a row of the caller's own, that is known to lie in plain memory. -/
def PvsX (σ : St) (avs : List AV) (ps : List PV) : Prop :=
  σ.pvs avs = some ps ∨ ∃ mid j e xs qs, avs = mid ++ [.ref j] ∧ σ.pvs mid = some qs ∧ (σ.pubs mid).ob j = .row e xs ∧ ps = qs ++ [.rowp xs]

theorem pubs_snoc : ∀ (cs : List AV) (c : AV) (σ : St), σ.pubs (cs ++ [c]) = (σ.pubs cs).pub c
  | [], c, σ => rfl
  | d :: cs, c, σ => by simp only [List.cons_append, St.pubs]; exact pubs_snoc cs c (σ.pub d)

theorem Rel.pvsX (h : Rel P C σ a w cv) {cs : List AV} {ps : List PV} {vs : List Value} (hp : PvsX σ cs ps) (hl : vs.length = cs.length)
    (hr : ∀ (j : Nat) (c : AV) (v : Value), cs[j]? = some c → vs[j]? = some v → SRep w (FS C σ.ob cv w) cv c v) : Reps w (FS C (σ.pubs cs).ob cv w) ps vs := by
  rcases hp with hp | ⟨mid, j, e, xs, qs, rfl, hq, ho, rfl⟩
  · exact h.pvs hp hl hr
  · simp only [List.length_append, List.length_singleton] at hl
    obtain ⟨vm, v, rfl⟩ : ∃ vm v, vs = vm ++ [v] := by
      have hne : vs ≠ [] := fun e => by subst e; simp at hl
      exact ⟨vs.dropLast, vs.getLast hne, (List.dropLast_concat_getLast hne).symm⟩
    have hlm : vm.length = mid.length := by simp at hl; exact hl
    have h1 := h.pvs hq hlm (fun i c u hc hu => hr i c u (by rw [List.getElem?_append_left (List.getElem?_eq_some_iff.1 hc).1]; exact hc) (by rw [List.getElem?_append_left (List.getElem?_eq_some_iff.1 hu).1]; exact hu))
    have hv : SRep w (FS C σ.ob cv w) cv (.ref j) v := hr mid.length _ v (by simp) (by rw [← hlm]; simp)
    obtain rfl : v = cv j := hv
    rw [pubs_snoc]
    have h2 := (h.pubs mid).1
    have hpub := h2.pub (.ref j)
    have hown := h2.obs j
    rw [ho] at hown
    have hrow : Rep w (FS C ((σ.pubs mid).pub (.ref j)).ob cv w) (.row xs) (cv j) := h2.pv (v := .ref j) (by simp [St.pv, ho]) rfl
    refine (h1.mono (fun _ _ => rfl : Same (FS C (σ.pubs mid).ob cv w) w w) hpub.2).append (Reps.cons (.rowp xs _ hrow ?_) (Reps.nil _ _))
    obtain ⟨sz, cells, q1, q2, q3, q4, q5, q6⟩ := hown
    rcases q4.2 with ⟨e1, hn⟩ | ⟨g, cap, cur, e1, hb0, hg, _⟩
    · exact .inl e1
    · refine .inr ⟨⟨g, 0, none⟩, xs.length, cap, cur, e, e1, ?_, hg⟩
      have hl : Live (σ.pubs mid).ob cv j g := ⟨by rw [ho]; rfl, by rw [e1]; rfl⟩
      have hpo : ((σ.pubs mid).pub (.ref j)) = (σ.pubs mid).setOb j (.prow xs) := by simp [St.pub, ho]
      refine .inr ⟨(h2.live j g hl).1, (h2.live j g hl).2, fun i hi => ?_⟩
      rw [hpo] at hi
      by_cases e2 : i = j
      · subst e2; have := hi.1; simp [St.setOb, Ob.live] at this
      · have hi' : Live (σ.pubs mid).ob cv i g := ⟨by have := hi.1; simpa [St.setOb, e2] using this, hi.2⟩
        exact e2 (h2.inj i j g hi' hl)

/-- A call, on symbolic states. -/
def CallStep (P : Program) (σ : St) (nid : Nat) (fx : AV) (avs : List AV) (σ' : St) (v : AV) : Prop :=
  ∃ f caps, fx = .val (.fn f caps) ∧ Entered P f ∧
    ((∃ ps r, PvsX σ avs ps ∧ Ct P f (ops (ps ++ caps)) r ∧
        ((∃ qs, r = .vals qs ∧ qs.all PV.isFlat = true ∧ σ' = σ ∧ v = resAV qs) ∨
         (∃ qs, r = .vals qs ∧ σ' = σ.pubs avs ∧ v = resAV qs) ∨
         (∃ e xs, r = .own e xs ∧ σ.isFree nid = true ∧ σ' = (σ.pubs avs).setOb nid (.row e xs) ∧ v = .ref nid))) ∨
     (∃ j e xs rest ps e' ys, avs = .ref j :: rest ∧ (σ.pubs rest).ob j = .row e xs ∧ PvsX σ rest ps ∧ Ct P f (.o e xs :: ops (ps ++ caps)) (.own e' ys) ∧ σ.isFree nid = true ∧
        σ' = ((σ.pubs rest).setOb j .gone).setOb nid (.row e' ys) ∧ v = .ref nid) ∨
     (∃ rest ps e' ys, avs = .nils :: rest ∧ PvsX σ rest ps ∧ Ct P f (.n :: ops (ps ++ caps)) (.own e' ys) ∧ σ.isFree nid = true ∧
        σ' = (σ.pubs rest).setOb nid (.row e' ys) ∧ v = .ref nid) ∨
     (∃ ps e ys, PvsX σ avs ps ∧ Ct P f (ops (ps ++ caps)) (.own e ys) ∧ (∀ y ∈ ys, ∀ c ∈ y.cells, c.isFlat = true) ∧ σ.isFree nid = true ∧ σ' = σ.setOb nid (.row e ys) ∧ v = .ref nid))

theorem getD_of_some {α : Type} {xs : Array α} {i : Nat} {x d : α} (h : xs[i]? = some x) : xs.getD i d = x := by
  simp [Array.getD_eq_getD_getElem?, h]

theorem evs_two (h : Rel P C σ a w cv) (xs : List Operand) : ∀ (j : Nat) (c : AV) (v : Value), (σ.evs xs)[j]? = some c → (xs.map a.eval)[j]? = some v → SRep w (FS C σ.ob cv w) cv c v := by
  intro j c v hc hv
  simp only [St.evs, List.getElem?_map] at hc hv
  cases hx : xs[j]? with
  | none => simp [hx] at hc
  | some x =>
    simp only [hx, Option.map_some, Option.some.injEq] at hc hv
    subst hc; subst hv
    exact (h.ev x).1

/-- What the machine does at a call. -/
theorem call_sound (h : Rel P C σ a w cv) {fx : Operand} {xs : Array Operand} {nid : Nat} {σ' : St} {v : AV} (hc : CallStep P σ nid (σ.ev fx) (σ.evs xs.toList) σ' v) :
    ∃ (f : FuncId) (args : Array Value), (∀ o : Oper, ∀ ts, o.op = .call { callee := .value fx, args := xs, argTypes := ts } → (execOp a.eval o).run P w = .ok (.enter f args) w) ∧
      Calls P f args w fun e w' => ∃ u cv', e = .returned u ∧ Rel P C σ' a w' cv' ∧ SRep w' (FS C σ'.ob cv' w') cv' v u ∧ ∀ i, v.ment i → σ'.ob i ≠ .free := by
  obtain ⟨f, caps, hfx, hent, hc⟩ := hc
  have hfv := (h.ev fx).1
  rw [hfx] at hfv
  obtain ⟨cvs, hfe, hcaps⟩ : ∃ cvs : List Value, a.eval fx = .func (.func f) #[] ⟨cvs⟩ ∧ Reps w (FS C σ.ob cv w) caps cvs := by
    generalize a.eval fx = u at hfv
    cases hfv with
    | fn _ _ vs hl hh => exact ⟨vs, rfl, hl, hh⟩
  have hmap : xs.map a.eval = ⟨xs.toList.map a.eval⟩ := by apply Array.ext'; simp
  refine ⟨f, ⟨xs.toList.map a.eval ++ cvs⟩, fun o ts ho => ?_, ?_⟩
  · obtain ⟨fn, hf, hn, hb⟩ := hent
    simp only [execOp, ho, resolve, Sem.run_bind, Deferred.ofValue, hfe, Sem.run_pure, Result.andThen_ok, invoke, callFunc, run_program, hf, hn, hb, Bool.false_eq_true, if_false, hmap]
    try simp [hn, hb]
  · rcases hc with ⟨ps, r, hps, hfn, hres⟩ | ⟨j, e, ys, rest, ps, e', zs, havs, hj, hps, hfn, hfree, rfl, rfl⟩ | ⟨rest, ps, e', zs, havs, hps, hfn, hfree, rfl, rfl⟩ | ⟨ps, e0, ys, hps, hfn, hflat, hfree, rfl, rfl⟩
    · have h1 := (h.pubs (σ.evs xs.toList)).1
      have hF1 := (h.pubs (σ.evs xs.toList)).2
      have hrp := Rel.pvsX h (vs := xs.toList.map a.eval) hps (by simp [St.evs]) (evs_two h xs.toList)
      have hra := hrp.append (hcaps.mono (fun _ _ => rfl : Same (FS C σ.ob cv w) w w) hF1)
      refine (hfn w (FS C (σ.pubs (σ.evs xs.toList)).ob cv w) _ (fun b hb => h1.fs_lt hb) (argsRep_ops hra)).mono fun e w' hh => ?_
      obtain ⟨u, rfl, ho⟩ := hh
      have hold : ∀ k, k < w.heap.size → w'.heap[k]? = w.heap[k]? := fun k hk => ho.old k hk given_ops
      rcases hres with ⟨qs, rfl, hflat, rfl, rfl⟩ | ⟨qs, rfl, rfl, rfl⟩ | ⟨e, ys, rfl, hfr, rfl, rfl⟩
      · obtain ⟨us, rfl, hr⟩ := ho.res
        obtain ⟨h2, _, _⟩ := h.more ho.os ho.tape ho.output ho.size hold
        refine ⟨_, cv, rfl, h2, resAV_rep ⟨hr.1, fun i p v hp hv => ?_⟩, fun i hi => absurd hi resAV_ment⟩
        exact (hr.2 i p v hp hv).flat (List.all_eq_true.1 hflat p (List.mem_of_getElem? hp))
      · obtain ⟨us, rfl, hr⟩ := ho.res
        obtain ⟨h2, h3, h4⟩ := h1.more ho.os ho.tape ho.output ho.size hold
        refine ⟨_, cv, rfl, h2, resAV_rep (hr.mono (fun _ _ => rfl : Same (FN w w' _ _ _) w' w') fun b hb => ?_), fun i hi => absurd hi resAV_ment⟩
        rcases hb with hb | ⟨hb, hlt⟩
        · exact h3 b hb
        · rcases hb with hb | hb
          · exact h4 b hb hlt
          · exact absurd hb given_ops
      · obtain ⟨hown, hblk⟩ := ho.res
        have hA : ∀ F' : Nat → Prop, (∀ b, FS C (σ.pubs (σ.evs xs.toList)).ob cv w b → F' b) → (∀ b, (w.heap.size ≤ b ∨ some b = none) → b < w'.heap.size → blkOf u ≠ some b → F' b) →
            Same (FS C (σ.pubs (σ.evs xs.toList)).ob cv w) w w' → OwnRow P w' F' u e ys := by
          intro F' hF hN hS
          refine hown.mono (fun _ _ => rfl : Same _ w' w') (fun b hb => ?_) (fun _ _ => rfl)
          obtain ⟨hb, hne⟩ := hb
          rcases hb with hb | ⟨hb, hlt⟩
          · exact hF b hb
          · rcases hb with hb | hb
            · exact hN b (.inl hb) hlt hne
            · exact absurd hb given_ops
        have hB : ∀ b, blkOf u = some b → (some b = none ∨ w.heap.size ≤ b) ∧ b < w'.heap.size := by
          intro b hb
          obtain ⟨hb1, hb2⟩ := hblk b hb
          refine ⟨?_, hb2⟩
          rcases hb1 with hb1 | hb1
          · exact .inr hb1
          · exact absurd hb1 given_ops
        obtain ⟨cv', h2, h3⟩ := h1.grow (i := nid) (pubs_free _ _ _ (isFree_free hfr)) none (fun j hj => by cases hj) (w' := w') (row := none)
          ⟨ho.os, ho.tape, ho.output, ho.size, fun k hk _ => hold k hk⟩ (fun b hb => by cases hb) hA hB
        refine ⟨u, cv', rfl, h2, h3.symm, fun i hi => ?_⟩
        have e1 : nid = i := hi
        subst e1
        simp [St.setOb]
    · -- the first argument is handed over
      obtain ⟨x0, xr, hxs⟩ : ∃ x0 xr, xs.toList = x0 :: xr := by
        match hx : xs.toList, havs with
        | x0 :: xr, _ => exact ⟨x0, xr, rfl⟩
        | [], ha => simp [St.evs, hx] at ha
      rw [hxs] at havs ⊢
      simp only [St.evs, List.map_cons, List.cons.injEq] at havs
      obtain ⟨hx0, hrest⟩ := havs
      have hv0 := (h.ev x0).1
      rw [hx0] at hv0
      have hv0 : a.eval x0 = cv j := hv0
      have h1 := (h.pubs rest).1
      have hF1 := (h.pubs rest).2
      have hrp := Rel.pvsX h (cs := rest) (vs := xr.map a.eval) hps (by simp [← hrest]) (by
        intro k c v hc hv
        refine evs_two h xr k c v ?_ hv
        simp only [St.evs, hrest]; exact hc)
      have hra := hrp.append (hcaps.mono (fun _ _ => rfl : Same (FS C σ.ob cv w) w w) hF1)
      have ho1 := h1.obs j
      rw [hj] at ho1
      have hlj : ((σ.pubs rest).ob j).live = true := by rw [hj]; rfl
      have hgiv : ∀ b, Given (.o e ys :: ops (ps ++ caps)) (cv j :: (xr.map a.eval ++ cvs)) b → blkOf (cv j) = some b := by
        rintro b ⟨i, e0, xs0, v, hi, hv, hb⟩
        cases i with
        | zero => simp at hv; rw [hv]; exact hb
        | succ i => exact (ops_o (by simpa using hi)).elim
      have hargs : ArgsRep P w (FS C (σ.pubs rest).ob cv w) (.o e ys :: ops (ps ++ caps)) (cv j :: (xr.map a.eval ++ cvs)) := {
        len := by have := hra.1; simp [ops] at this ⊢; omega
        reps := fun i x v hx hv => by
          cases i with
          | zero => simp at hx hv; subst hx; subst hv; exact ho1
          | succ i => exact (argsRep_ops (P := P) hra).reps i x v (by simpa using hx) (by simpa using hv)
        off := fun b hb hF => h1.fs_live hF ⟨hlj, hgiv b hb⟩
        one := fun i k e0 e1 xs0 ys0 hi hk => by
          cases i with
          | zero => cases k with
            | zero => rfl
            | succ k => exact (ops_o (by simpa using hk)).elim
          | succ i => exact (ops_o (by simpa using hi)).elim }
      simp only [List.map_cons, List.cons_append, hv0]
      refine (hfn w _ _ (fun b hb => h1.fs_lt hb) hargs).mono fun e w' hh => ?_
      obtain ⟨u, rfl, ho⟩ := hh
      obtain ⟨hown, hblk⟩ := ho.res
      have hgiv2 : ∀ b, blkOf (cv j) = some b → Given (.o e ys :: ops (ps ++ caps)) (cv j :: (xr.map a.eval ++ cvs)) b := fun b hb => ⟨0, e, ys, cv j, rfl, rfl, hb⟩
      have hA : ∀ F' : Nat → Prop, (∀ b, FS C (σ.pubs rest).ob cv w b → F' b) → (∀ b, (w.heap.size ≤ b ∨ some b = blkOf (cv j)) → b < w'.heap.size → blkOf u ≠ some b → F' b) →
          Same (FS C (σ.pubs rest).ob cv w) w w' → OwnRow P w' F' u e' zs := by
        intro F' hF hN hS
        refine hown.mono (fun _ _ => rfl : Same _ w' w') (fun b hb => ?_) (fun _ _ => rfl)
        obtain ⟨hb, hne⟩ := hb
        rcases hb with hb | ⟨hb, hlt⟩
        · exact hF b hb
        · rcases hb with hb | hb
          · exact hN b (.inl hb) hlt hne
          · exact hN b (.inr (hgiv b hb).symm) hlt hne
      have hB : ∀ b, blkOf u = some b → (some b = blkOf (cv j) ∨ w.heap.size ≤ b) ∧ b < w'.heap.size := by
        intro b hb
        obtain ⟨hb1, hb2⟩ := hblk b hb
        refine ⟨?_, hb2⟩
        rcases hb1 with hb1 | hb1
        · exact .inr hb1
        · exact .inl (hgiv b hb1).symm
      obtain ⟨cv', h2, h3⟩ := h1.grow (i := nid) (pubs_free _ _ _ (isFree_free hfree)) (some j) (fun k hk => by cases hk; exact hlj) (w' := w') (row := blkOf (cv j))
        ⟨ho.os, ho.tape, ho.output, ho.size, fun k hk hne => ho.old k hk (fun hg => hne (hgiv k hg).symm)⟩ (fun b hb => ⟨j, rfl, hb⟩) hA hB
      refine ⟨u, cv', rfl, h2, h3.symm, fun i hi => ?_⟩
      have e1 : nid = i := hi
      subst e1
      simp [St.setOb]
    · -- a nil slice is handed over, as a row of none
      obtain ⟨x0, xr, hxs⟩ : ∃ x0 xr, xs.toList = x0 :: xr := by
        match hx : xs.toList, havs with
        | x0 :: xr, _ => exact ⟨x0, xr, rfl⟩
        | [], ha => simp [St.evs, hx] at ha
      rw [hxs] at havs ⊢
      simp only [St.evs, List.map_cons, List.cons.injEq] at havs
      obtain ⟨hx0, hrest⟩ := havs
      have hv0 := (h.ev x0).1
      rw [hx0] at hv0
      have hv0 : a.eval x0 = .slice none 0 0 := hv0
      have h1 := (h.pubs rest).1
      have hF1 := (h.pubs rest).2
      have hrp := Rel.pvsX h (cs := rest) (vs := xr.map a.eval) hps (by simp [← hrest]) (by
        intro k c v hc hv
        refine evs_two h xr k c v ?_ hv
        simp only [St.evs, hrest]; exact hc)
      have hra := hrp.append (hcaps.mono (fun _ _ => rfl : Same (FS C σ.ob cv w) w w) hF1)
      have hgiv : ∀ b, ¬ Given (.n :: ops (ps ++ caps)) (.slice none 0 0 :: (xr.map a.eval ++ cvs)) b := by
        rintro b ⟨i, e0, xs0, v, hi, hv, hb⟩
        cases i with
        | zero => simp at hi
        | succ i => exact (ops_o (by simpa using hi)).elim
      have hargs : ArgsRep P w (FS C (σ.pubs rest).ob cv w) (.n :: ops (ps ++ caps)) (.slice none 0 0 :: (xr.map a.eval ++ cvs)) := {
        len := by have := hra.1; simp [ops] at this ⊢; omega
        reps := fun i x v hx hv => by
          cases i with
          | zero => simp at hx hv; subst hx; subst hv; exact rfl
          | succ i => exact (argsRep_ops (P := P) hra).reps i x v (by simpa using hx) (by simpa using hv)
        off := fun b hb hF => hgiv b hb
        one := fun i k e0 e1 xs0 ys0 hi hk => by
          cases i with
          | zero => simp at hi
          | succ i => exact (ops_o (by simpa using hi)).elim }
      simp only [List.map_cons, List.cons_append, hv0]
      refine (hfn w _ _ (fun b hb => h1.fs_lt hb) hargs).mono fun e w' hh => ?_
      obtain ⟨u, rfl, ho⟩ := hh
      obtain ⟨hown, hblk⟩ := ho.res
      have hold : ∀ k, k < w.heap.size → w'.heap[k]? = w.heap[k]? := fun k hk => ho.old k hk (hgiv k)
      have hA : ∀ F' : Nat → Prop, (∀ b, FS C (σ.pubs rest).ob cv w b → F' b) → (∀ b, (w.heap.size ≤ b ∨ some b = none) → b < w'.heap.size → blkOf u ≠ some b → F' b) →
          Same (FS C (σ.pubs rest).ob cv w) w w' → OwnRow P w' F' u e' zs := by
        intro F' hF hN hS
        refine hown.mono (fun _ _ => rfl : Same _ w' w') (fun b hb => ?_) (fun _ _ => rfl)
        obtain ⟨hb, hne⟩ := hb
        rcases hb with hb | ⟨hb, hlt⟩
        · exact hF b hb
        · rcases hb with hb | hb
          · exact hN b (.inl hb) hlt hne
          · exact absurd hb (hgiv b)
      have hB : ∀ b, blkOf u = some b → (some b = none ∨ w.heap.size ≤ b) ∧ b < w'.heap.size := by
        intro b hb
        obtain ⟨hb1, hb2⟩ := hblk b hb
        refine ⟨?_, hb2⟩
        rcases hb1 with hb1 | hb1
        · exact .inr hb1
        · exact absurd hb1 (hgiv b)
      obtain ⟨cv', h2, h3⟩ := h1.grow (i := nid) (pubs_free _ _ _ (isFree_free hfree)) none (fun j hj => by cases hj) (w' := w') (row := none)
        ⟨ho.os, ho.tape, ho.output, ho.size, fun k hk _ => hold k hk⟩ (fun b hb => by cases hb) hA hB
      refine ⟨u, cv', rfl, h2, h3.symm, fun i hi => ?_⟩
      have e1 : nid = i := hi
      subst e1
      simp [St.setOb]
    · -- what comes takes no memory of what was handed in
      have h1 := (h.pubs (σ.evs xs.toList)).1
      have hF1 := (h.pubs (σ.evs xs.toList)).2
      have hrp := Rel.pvsX h (vs := xs.toList.map a.eval) hps (by simp [St.evs]) (evs_two h xs.toList)
      have hra := hrp.append (hcaps.mono (fun _ _ => rfl : Same (FS C σ.ob cv w) w w) hF1)
      refine (hfn w (FS C (σ.pubs (σ.evs xs.toList)).ob cv w) _ (fun b hb => h1.fs_lt hb) (argsRep_ops hra)).mono fun e w' hh => ?_
      obtain ⟨u, rfl, ho⟩ := hh
      have hold : ∀ k, k < w.heap.size → w'.heap[k]? = w.heap[k]? := fun k hk => ho.old k hk given_ops
      obtain ⟨hown, hblk⟩ := ho.res
      have hA : ∀ F' : Nat → Prop, (∀ b, FS C σ.ob cv w b → F' b) → (∀ b, (w.heap.size ≤ b ∨ some b = none) → b < w'.heap.size → blkOf u ≠ some b → F' b) →
          Same (FS C σ.ob cv w) w w' → OwnRow P w' F' u e0 ys := by
        intro F' hF hN hS
        obtain ⟨sz, cells, q1, q2, q3, q4, q5, q6⟩ := hown
        refine ⟨sz, cells, q1, q2, q3, q4, ⟨q5.1, fun i p v hp hv => (q5.2 i p v hp hv).flat ?_⟩, q6⟩
        have hm := List.mem_of_getElem? hp
        simp only [YtjbfcmaiejlnbaaVm.flat, List.mem_flatMap] at hm
        obtain ⟨y, hy, hc⟩ := hm
        exact hflat y hy p hc
      have hB : ∀ b, blkOf u = some b → (some b = none ∨ w.heap.size ≤ b) ∧ b < w'.heap.size := by
        intro b hb
        obtain ⟨hb1, hb2⟩ := hblk b hb
        refine ⟨?_, hb2⟩
        rcases hb1 with hb1 | hb1
        · exact .inr hb1
        · exact absurd hb1 given_ops
      obtain ⟨cv', h2, h3⟩ := h.grow (i := nid) (isFree_free hfree) none (fun j hj => by cases hj) (w' := w') (row := none)
        ⟨ho.os, ho.tape, ho.output, ho.size, fun k hk _ => hold k hk⟩ (fun b hb => by cases hb) hA hB
      refine ⟨u, cv', rfl, h2, h3.symm, fun i hi => ?_⟩
      have e1 : nid = i := hi
      subst e1
      simp [St.setOb]

end
end Go.Proofs.YtjbfcmaiejlnbaaVm
set_option linter.unusedVariables false
set_option linter.unusedSimpArgs false
namespace Go.Proofs.YtjbfcmaiejlnbaaVm
open Go Classical

def St.put (σ : St) (d : Option Nat) (v : AV) : St :=
  match d with
  | some t => σ.set t v
  | none => σ

def dOK (n : Nat) : Option Nat → Prop
  | some t => t < n
  | none => True

def gslot (all : List Oper) (j : Nat) : Option Nat :=
  match all[j]? with
  | some o => o.dst
  | none => none

/-- Is a guarded operation done? -/
def gres (σ : St) (all : List Oper) (j : Nat) (want : Bool) : Option Bool :=
  match gslot all j with
  | some t => match σ.sl t with
    | .val (.bool b) => some (b == want)
    | .tup [] => some false
    | _ => none
  | none => none

def runs (σ : St) (all : List Oper) (o : Oper) : Option Bool :=
  match o.guard with
  | none => some true
  | some (j, want) => gres σ all j want


def AV.isMent (v : AV) (i : Nat) : Bool :=
  match v with
  | .ref j => j == i
  | .adr j _ => j == i
  | .ead j _ _ _ => j == i
  | .vw j _ _ _ => j == i
  | .agr _ _ j => j == i
  | _ => false
def AV.noMent : AV → Bool
  | .ref _ | .adr .. | .ead .. | .vw .. | .agr .. => false
  | _ => true
def Ob.noMent : Ob → Bool
  | .box _ cs => cs.all AV.noMent
  | .iter .. => false
  | _ => true

/-- A part of a state: some slots, some objects. -/
def St.restr (σ : St) (S M : List Nat) (nid : Nat) : St where
  sl := fun t => if S.contains t = true then σ.sl t else .any
  ob := fun k => if (M.contains k || k == nid) = true then σ.ob k else .gone
  ck := σ.ck

def St.patch (σ σ' : St) (W : List Nat) (d : Option Nat) : St where
  sl := fun t => if d = some t then σ'.sl t else σ.sl t
  ob := fun k => if W.contains k = true then σ'.ob k else σ.ob k
  ck := σ.ck

/-- One operation. -/
inductive Ev (P : Program) (n : Nat) (all : List Oper) (nid : Nat) (o : Oper) (σ : St) : St → Prop
  | run {σ' v} (hg : runs σ all o = some true) (hs : stepOp P σ nid o.op = some (σ', v)) (hd : dOK n o.dst) : Ev P n all nid o σ (σ'.put o.dst v)
  | pass (hg : runs σ all o = some false) (hd : dOK n o.dst) : Ev P n all nid o σ (σ.put o.dst (.tup []))
  | call {σ' v fx xs ts} (hg : runs σ all o = some true) (ho : o.op = .call { callee := .value fx, args := xs, argTypes := ts }) (hd : dOK n o.dst)
      (hc : CallStep P σ nid (σ.ev fx) (σ.evs xs.toList) σ' v) : Ev P n all nid o σ (σ'.put o.dst v)
  | bref {t i0 i1 x y p0 id e ys zs places z cs k} (hg : runs σ all o = some true) (ho : o.op = .build t #[(i0, x), (i1, y)]) (hd : dOK n o.dst) (hx : σ.ev x = .val p0) (hy : σ.ev y = .ref id) (hob : σ.ob id = .row e ys)
      (hz : zeroOf P t = some zs) (hpl : plOf P t = some places) (hp : purs zs = some z) (hna : ∀ p ∈ z, p.isAgg = false) (hcs : fillP places z [(i0, p0), (i1, .row [])] = some cs) (hk : places[i1]? = some (k, 1)) : Ev P n all nid o σ (σ.put o.dst (.agr cs k id))

/-- What an operation may come to know of: by its slots, or by the variables that it sees. -/
def St.knows (τ : St) (S M : List Nat) (i : Nat) : Prop := (∃ t', t' ∈ S ∧ (τ.sl t').isMent i = true) ∨ ∃ k, k ∈ M ∧ (τ.ob k).ment i

/-- What is drawn on and written stays within its bounds. -/
structure Within (τ σ' : St) (M W : List Nat) (S : List Nat) (nid : Nat) (d : Option Nat) : Prop where
  same : ∀ k, k ∉ W → σ'.ob k = (τ.restr S M nid).ob k
  ment : ∀ t, d = some t → ∀ i, (σ'.sl t).isMent i = true → i = nid ∨ τ.knows S M i
  plain : ∀ k, k ∈ W → ∀ i, (σ'.ob k).ment i → i = nid ∨ τ.knows S M i
  sub : ∀ k, k ∈ W → k ∈ M ∨ k = nid

def at_ (M : List (List Nat)) (j : Nat) : List Nat := M.getD j []

def EvR (P : Program) (n : Nat) (all : List Oper) (b : Nat) (M W : List (List Nat)) (j : Nat) (τ τ' : St) : Prop :=
  ∃ o, all[j]? = some o ∧ ∃ σ', Ev P n all (b + j) o (τ.restr (o.looksAt all.toArray) (at_ M j) (b + j)) σ' ∧
    Within τ σ' (at_ M j) (at_ W j) (o.looksAt all.toArray) (b + j) o.dst ∧ τ' = τ.patch σ' (at_ W j) o.dst

/-- Two operations that do not meddle with each other's objects. -/
def aloof (b : Nat) (M W : List (List Nat)) (i j : Nat) : Bool :=
  (at_ W i).all (fun k => !(at_ M j).contains k && k != b + j && !(at_ W j).contains k) && (at_ W j).all (fun k => !(at_ M i).contains k && k != b + i)

theorem aloof_spec {b : Nat} {M W : List (List Nat)} {i j : Nat} (h : aloof b M W i j = true) :
    (∀ k, k ∈ at_ W i → k ∉ at_ M j ∧ k ≠ b + j ∧ k ∉ at_ W j) ∧ (∀ k, k ∈ at_ W j → k ∉ at_ M i ∧ k ≠ b + i) := by
  simp only [aloof, Bool.and_eq_true, List.all_eq_true] at h
  refine ⟨fun k hk => ?_, fun k hk => ?_⟩
  · have := h.1 k hk
    simpa [and_assoc] using this
  · have := h.2 k hk
    simpa using this

theorem St.eq_of {σ τ : St} (h1 : ∀ t, σ.sl t = τ.sl t) (h2 : ∀ k, σ.ob k = τ.ob k) (h3 : σ.ck = τ.ck) : σ = τ := by
  cases σ; cases τ
  simp only at h1 h2 h3
  obtain rfl := funext h1
  obtain rfl := funext h2
  rw [h3]

section
variable {P : Program} {n : Nat} {all : List Oper} {b : Nat} {M W : List (List Nat)}

theorem patch_sl {σ σ' : St} {W : List Nat} {d : Option Nat} (t : Nat) : (σ.patch σ' W d).sl t = if d = some t then σ'.sl t else σ.sl t := rfl
theorem patch_ob {σ σ' : St} {W : List Nat} {d : Option Nat} (k : Nat) : (σ.patch σ' W d).ob k = if W.contains k = true then σ'.ob k else σ.ob k := rfl

theorem restr_patch {τ σ' : St} {W : List Nat} {d : Option Nat} {S M : List Nat} {nid : Nat} (hS : ∀ t, d = some t → t ∉ S) (hW : ∀ k, k ∈ W → k ∉ M ∧ k ≠ nid) :
    (τ.patch σ' W d).restr S M nid = τ.restr S M nid := by
  refine St.eq_of (fun t => ?_) (fun k => ?_) rfl
  · simp only [St.restr, St.patch]
    by_cases h : S.contains t = true
    · rw [if_pos h, if_pos h, if_neg (fun e => hS t e (by simpa using h))]
    · rw [if_neg h, if_neg h]
  · simp only [St.restr, St.patch]
    by_cases h : (M.contains k || k == nid) = true
    · rw [if_pos h, if_pos h, if_neg]
      intro hk
      have := hW k (by simpa using hk)
      simp at h
      rcases h with h | h
      · exact this.1 h
      · exact this.2 h
    · rw [if_neg h, if_neg h]

theorem knows_patch {τ σ' : St} {W : List Nat} {d : Option Nat} {S M : List Nat} {i : Nat} (hS : ∀ t, d = some t → t ∉ S) (hW : ∀ k, k ∈ W → k ∉ M) : (τ.patch σ' W d).knows S M i ↔ τ.knows S M i := by
  unfold St.knows
  constructor
  · rintro (⟨t', h1, h2⟩ | ⟨k, h1, h2⟩)
    · rw [patch_sl, if_neg (fun e => hS t' e h1)] at h2
      exact .inl ⟨t', h1, h2⟩
    · rw [patch_ob, if_neg (fun e => hW k (by simpa using e) h1)] at h2
      exact .inr ⟨k, h1, h2⟩
  · rintro (⟨t', h1, h2⟩ | ⟨k, h1, h2⟩)
    · exact .inl ⟨t', h1, by rw [patch_sl, if_neg (fun e => hS t' e h1)]; exact h2⟩
    · exact .inr ⟨k, h1, by rw [patch_ob, if_neg (fun e => hW k (by simpa using e) h1)]; exact h2⟩

theorem within_patch {τ σ' σ'' : St} {W W' : List Nat} {d d' : Option Nat} {S M : List Nat} {nid : Nat} (hS : ∀ t, d = some t → t ∉ S) (hW : ∀ k, k ∈ W → k ∉ M ∧ k ≠ nid)
    (h : Within (τ.patch σ' W d) σ'' M W' S nid d') : Within τ σ'' M W' S nid d' := by
  refine ⟨fun k hk => ?_, fun t ht i hi => ?_, fun k hk i hi => ?_, h.sub⟩
  · rw [← restr_patch hS hW]; exact h.same k hk
  · exact (h.ment t ht i hi).imp id (knows_patch hS fun k hk => (hW k hk).1).1
  · exact (h.plain k hk i hi).imp id (knows_patch hS fun k hk => (hW k hk).1).1

theorem patch_within {τ σ' σ'' : St} {W W' : List Nat} {d d' : Option Nat} {S M : List Nat} {nid : Nat} (hS : ∀ t, d = some t → t ∉ S) (hW : ∀ k, k ∈ W → k ∉ M ∧ k ≠ nid)
    (h : Within τ σ'' M W' S nid d') : Within (τ.patch σ' W d) σ'' M W' S nid d' := by
  refine ⟨fun k hk => ?_, fun t ht i hi => ?_, fun k hk i hi => ?_, h.sub⟩
  · rw [restr_patch hS hW]; exact h.same k hk
  · exact (h.ment t ht i hi).imp id (knows_patch hS fun k hk => (hW k hk).1).2
  · exact (h.plain k hk i hi).imp id (knows_patch hS fun k hk => (hW k hk).1).2

theorem EvR.comm {i j : Nat} {oi oj : Oper} (hi : all[i]? = some oi) (hj : all[j]? = some oj) (hap : oi.apart all.toArray oj = true) (hal : aloof b M W i j = true) {τ τi τij : St}
    (h1 : EvR P n all b M W i τ τi) (h2 : EvR P n all b M W j τi τij) : ∃ τj, EvR P n all b M W j τ τj ∧ EvR P n all b M W i τj τij := by
  obtain ⟨a1, a2, a3⟩ := Oper.apart_spec hap
  obtain ⟨l1, l2⟩ := aloof_spec hal
  obtain ⟨o, ho, σi, e1, w1, rfl⟩ := h1
  rw [hi] at ho; cases ho
  obtain ⟨o, ho, σj, e2, w2, rfl⟩ := h2
  rw [hj] at ho; cases ho
  rw [restr_patch a1 (fun k hk => ⟨(l1 k hk).1, (l1 k hk).2.1⟩)] at e2
  have w2' := within_patch a1 (fun k hk => ⟨(l1 k hk).1, (l1 k hk).2.1⟩) w2
  refine ⟨τ.patch σj (at_ W j) oj.dst, ⟨oj, hj, σj, e2, w2', rfl⟩, oi, hi, σi, ?_, patch_within a3 l2 w1, ?_⟩
  · rw [restr_patch a3 l2]; exact e1
  · refine St.eq_of (fun t => ?_) (fun k => ?_) rfl
    · simp only [patch_sl]
      by_cases h : oi.dst = some t
      · rw [if_pos h, if_neg (a2 t h), if_pos h]
      · rw [if_neg h, if_neg h]
    · simp only [patch_ob]
      by_cases h : (at_ W i).contains k = true
      · have hk : k ∈ at_ W i := by simpa using h
        have hk' : (at_ W j).contains k = false := by simpa using (l1 k hk).2.2
        rw [if_pos h, if_neg (by rw [hk']; simp), if_pos h]
      · rw [if_neg h, if_neg h]

/-- An operation waits for another one, by edges. -/
inductive Dep (all : List Oper) : Nat → Nat → Prop
  | one {j i o e} (ho : all[j]? = some o) (he : e ∈ o.after) (hb : Region.binds .any e = true) (hi : e.on = i) : Dep all j i
  | step {j i o e} (ho : all[j]? = some o) (he : e ∈ o.after) (hb : Region.binds .any e = true) (h : Dep all e.on i) : Dep all j i

def Closed (all : List Oper) (listed : Array Bool) : Prop :=
  ∀ j o, all[j]? = some o → listed.getD j false = true → ∀ e ∈ o.after, Region.binds .any e = true → listed.getD e.on false = true

theorem Dep.listed {listed : Array Bool} (hc : Closed all listed) {j i : Nat} (h : Dep all j i) : listed.getD j false = true → listed.getD i false = true := by
  induction h with
  | one ho he hb hi => intro hl; rw [← hi]; exact hc _ _ ho hl _ he hb
  | step ho he hb h ih => intro hl; exact ih (hc _ _ ho hl _ he hb)

theorem Dep.ready {listed : Array Bool} (hc : Closed all listed) {j i : Nat} (hj : j ∈ Region.ready .any all.toArray listed) (h : Dep all j i) : listed.getD i false = true := by
  obtain ⟨_, o, ho, hall⟩ := mem_ready.1 hj
  have ho : all[j]? = some o := by simpa using ho
  cases h with
  | one ho' he hb hi => rw [ho] at ho'; cases ho'; rw [← hi]; exact hall _ he hb
  | step ho' he hb h => rw [ho] at ho'; cases ho'; exact h.listed hc (hall _ he hb)

theorem Closed.set {listed : Array Bool} (hc : Closed all listed) {j : Nat} (hj : j ∈ Region.ready .any all.toArray listed) : Closed all (listed.setIfInBounds j true) := by
  intro k o ho hl e he hb
  by_cases hk : j = k
  · subst hk
    obtain ⟨_, o', ho', hall⟩ := mem_ready.1 hj
    have ho' : all[j]? = some o' := by simpa using ho'
    rw [ho] at ho'; cases ho'
    exact getD_set_true (hall e he hb)
  · rw [getD_set_ne false hk] at hl
    exact getD_set_true (hc k o ho hl e he hb)

/-- From here on every order comes to 'fin'. -/
def DA (P : Program) (n : Nat) (all : List Oper) (b : Nat) (M W : List (List Nat)) (fin : St) : Nat → Array Bool → St → Prop
  | 0, listed, τ => Region.ready .any all.toArray listed = [] ∧ τ = fin
  | f + 1, listed, τ => (Region.ready .any all.toArray listed = [] → τ = fin) ∧ ∀ i ∈ Region.ready .any all.toArray listed, ∃ τ', EvR P n all b M W i τ τ' ∧ DA P n all b M W fin f (listed.setIfInBounds i true) τ'

theorem DA.first {fin : St} {i : Nat} {oi : Oper} (hi : all[i]? = some oi) : ∀ (f : Nat) (listed : Array Bool) (τ τ' : St), i ∈ Region.ready .any all.toArray listed → Closed all listed →
    (∀ j oj, all[j]? = some oj → j ≠ i → listed.getD j true = false → Dep all j i ∨ (oi.apart all.toArray oj = true ∧ aloof b M W i j = true)) →
    EvR P n all b M W i τ τ' → DA P n all b M W fin f (listed.setIfInBounds i true) τ' → DA P n all b M W fin (f + 1) listed τ := by
  intro f
  induction f with
  | zero =>
    intro listed τ τ' hr hc hfree he H
    refine ⟨fun h => (by rw [h] at hr; cases hr), fun j hj => ?_⟩
    by_cases hji : j = i
    · subst hji; exact ⟨τ', he, H⟩
    · have := ready_mono hj hji
      rw [H.1] at this
      cases this
  | succ f ih =>
    intro listed τ τ' hr hc hfree he H
    refine ⟨fun h => (by rw [h] at hr; cases hr), fun j hj => ?_⟩
    by_cases hji : j = i
    · subst hji; exact ⟨τ', he, H⟩
    · obtain ⟨τ2, h1, h2⟩ := H.2 j (ready_mono hj hji)
      obtain ⟨hjun, oj, hoj, hall⟩ := mem_ready.1 hj
      have hoj' : all[j]? = some oj := by simpa using hoj
      have hiun := (mem_ready.1 hr).1
      have hok : oi.apart all.toArray oj = true ∧ aloof b M W i j = true := by
        rcases hfree j oj hoj' hji hjun with h | h
        · have := h.ready hc hj
          rcases Nat.lt_or_ge i listed.size with h' | h'
          · simp [h'] at hiun this; rw [hiun] at this; cases this
          · simp [Array.getElem?_eq_none h'] at this
        · exact h
      obtain ⟨τj, g1, g2⟩ := EvR.comm hi hoj' hok.1 hok.2 he h1
      refine ⟨τj, g1, ih (listed.setIfInBounds j true) τj τ2 (ready_mono hr (Ne.symm hji)) (hc.set hj) (fun k ok hk hki hun => ?_) g2 ?_⟩
      · refine hfree k ok hk hki ?_
        by_cases hjk : j = k
        · subst hjk; exact hjun
        · rw [getD_set_ne true hjk] at hun; exact hun
      · rw [Array.setIfInBounds_comm _ _ hji]
        exact h2

/-- In the order of the text. -/
def TRun (P : Program) (n : Nat) (all : List Oper) (b : Nat) (M W : List (List Nat)) : Nat → Nat → St → St → Prop
  | _, 0, σ, σ' => σ' = σ
  | i, r + 1, σ, σ' => ∃ τ, EvR P n all b M W i σ τ ∧ TRun P n all b M W (i + 1) r τ σ'

/-- Which operations wait for the i-th one. -/
def deps (i : Nat) : List Oper → List Bool → List Bool
  | [], acc => acc
  | o :: r, acc => deps i r (acc ++ [o.after.any fun e => Region.binds .any e && (e.on == i || acc.getD e.on false)])

theorem deps_sound (i : Nat) : ∀ (r : List Oper) (acc : List Bool), (∀ k, acc.length ≤ k → all[k]? = r[k - acc.length]?) → (∀ j, acc.getD j false = true → Dep all j i) → ∀ j, (deps i r acc).getD j false = true → Dep all j i := by
  intro r
  induction r with
  | nil => intro acc _ h j hj; exact h j hj
  | cons o r ih =>
    intro acc hal h j hj
    have ho : all[acc.length]? = some o := by rw [hal _ (Nat.le_refl _)]; simp
    refine ih _ (fun k hk => ?_) (fun k hk => ?_) j hj
    · simp only [List.length_append, List.length_singleton] at hk ⊢
      rw [hal k (by omega)]
      have : k - acc.length = (k - (acc.length + 1)) + 1 := by omega
      rw [this, List.getElem?_cons_succ]
    · rcases Nat.lt_trichotomy k acc.length with hlt | rfl | hgt
      · refine h k ?_
        rw [List.getD_eq_getElem?_getD, List.getElem?_append_left hlt] at hk
        rw [List.getD_eq_getElem?_getD]; exact hk
      · rw [List.getD_eq_getElem?_getD, List.getElem?_append_right (Nat.le_refl _)] at hk
        simp only [Nat.sub_self, List.getElem?_cons_zero, Option.getD_some, Array.any_eq_true'] at hk
        obtain ⟨e, he, hk⟩ := hk
        simp only [Bool.and_eq_true, Bool.or_eq_true, beq_iff_eq] at hk
        rcases hk.2 with hk2 | hk2
        · exact .one ho he hk.1 hk2
        · exact .step ho he hk.1 (h _ hk2)
      · rw [List.getD_eq_getElem?_getD, List.getElem?_append_right (by omega), List.getElem?_eq_none (by simp; omega)] at hk
        cases hk

def pairs (all : List Oper) (b : Nat) (M W : List (List Nat)) (k : Nat) (listed : Array Bool) : Bool :=
  match all[k]? with
  | none => false
  | some ok =>
    let ds := deps k all []
    (List.range all.length).all fun j => j == k || listed.getD j true || ds.getD j false || match all[j]? with
      | some oj => ok.apart all.toArray oj && aloof b M W k j
      | none => true

def lexD (all : List Oper) (b : Nat) (M W : List (List Nat)) : Nat → Nat → Array Bool → Bool
  | 0, _, listed => (Region.ready .any all.toArray listed).isEmpty
  | f + 1, k, listed => (Region.ready .any all.toArray listed).contains k && pairs all b M W k listed && lexD all b M W f (k + 1) (listed.setIfInBounds k true)

def drawB (all : List Oper) (b : Nat) (M W : List (List Nat)) : Bool := lexD all b M W all.length 0 (Array.replicate all.length false)

theorem pairs_spec {k : Nat} {ok : Oper} {listed : Array Bool} (hk : all[k]? = some ok) (h : pairs all b M W k listed = true) (j : Nat) (oj : Oper) (hj : all[j]? = some oj) (hne : j ≠ k) (hun : listed.getD j true = false) :
    Dep all j k ∨ (ok.apart all.toArray oj = true ∧ aloof b M W k j = true) := by
  simp only [pairs, hk, List.all_eq_true, List.mem_range] at h
  have h1 := h j (List.getElem?_eq_some_iff.1 hj).1
  simp only [hj, Bool.or_eq_true, beq_iff_eq, hne, false_or, hun, Bool.false_eq_true, Bool.and_eq_true] at h1
  rcases h1 with h1 | h1
  · exact .inl (deps_sound k all [] (by simp) (by simp) j h1)
  · exact .inr h1

theorem DA.lex {fin : St} : ∀ (f k : Nat) (listed : Array Bool) (τ : St), k + f = all.length → Closed all listed → lexD all b M W f k listed = true → TRun P n all b M W k f τ fin → DA P n all b M W fin f listed τ := by
  intro f
  induction f with
  | zero => intro k listed τ hl hc hB h; exact ⟨by simpa [lexD] using hB, h.symm⟩
  | succ f ih =>
    intro k listed τ hl hc hB h
    simp only [lexD, Bool.and_eq_true] at hB
    obtain ⟨⟨hr, hp⟩, hB'⟩ := hB
    obtain ⟨τ', he, h'⟩ := h
    have hk : all[k]? = some all[k] := List.getElem?_eq_getElem (by omega)
    have hr : k ∈ Region.ready .any all.toArray listed := by simpa using hr
    exact DA.first hk f listed τ τ' hr hc (pairs_spec hk hp) he (ih (k + 1) _ τ' (by omega) (hc.set hr) hB' h')

def RunS (P : Program) (n : Nat) (all : List Oper) (b : Nat) (M W : List (List Nat)) : List Nat → St → St → Prop
  | [], τ, τ' => τ' = τ
  | i :: r, τ, τ' => ∃ τ1, EvR P n all b M W i τ τ1 ∧ RunS P n all b M W r τ1 τ'

theorem DA.run {fin : St} : ∀ (f t : Nat) (listed : Array Bool) (τ : St), DA P n all b M W fin f listed τ → RunS P n all b M W (Region.linearise.go .any all.toArray f t listed []) τ fin := by
  intro f
  induction f with
  | zero => intro t listed τ h; simpa [Region.linearise.go, RunS] using h.2.symm
  | succ f ih =>
    intro t listed τ h
    obtain ⟨h0, h1⟩ := h
    simp only [Region.linearise.go]
    change RunS P n all b M W (match (Region.ready .any all.toArray listed)[t % (Region.ready .any all.toArray listed).length]? with
      | some i => Region.linearise.go .any all.toArray f (t / (Region.ready .any all.toArray listed).length) (listed.setIfInBounds i true) [i]
      | none => [].reverse) τ fin
    cases hi : (Region.ready .any all.toArray listed)[t % (Region.ready .any all.toArray listed).length]? with
    | none =>
      have hnil : Region.ready .any all.toArray listed = [] := by
        cases hr : Region.ready .any all.toArray listed with
        | nil => rfl
        | cons x xs =>
          rw [hr] at hi
          have hlt : t % (x :: xs).length < (x :: xs).length := Nat.mod_lt _ (by simp)
          simp at hi
          simp at hlt
          omega
      simpa [RunS] using (h0 hnil).symm
    | some i =>
      simp only []
      rw [linearise_go_acc, List.reverse_singleton, List.singleton_append]
      obtain ⟨τ1, g1, g2⟩ := h1 i (List.mem_of_getElem? hi)
      exact ⟨τ1, g1, ih _ _ _ g2⟩

theorem TRun.sched {σ fin : St} (hB : drawB all b M W = true) (h : TRun P n all b M W 0 all.length σ fin) (hm : P.follows .mixedOrders = true) (t : Nat) : RunS P n all b M W (Region.schedule (P.follows .mixedOrders) all.toArray t) σ fin := by
  have hs : Region.schedule (P.follows .mixedOrders) all.toArray t = Region.linearise .any all.toArray t := by simp [Region.schedule, hm]
  rw [hs]
  have hc : Closed all (Array.replicate all.length false) := by
    intro j o ho hl
    simp [Array.getD] at hl
  have := (DA.lex (fin := fin) all.length 0 (Array.replicate all.length false) σ (by simp) hc hB h).run all.length t
  simpa [Region.linearise] using this

end
end Go.Proofs.YtjbfcmaiejlnbaaVm
