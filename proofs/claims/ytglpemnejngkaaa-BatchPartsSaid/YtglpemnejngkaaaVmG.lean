/- The operations, on symbolic states: rows that grow, and what only computes. -/
import Derived.Test.YtglpemnejngkaaaVmF
set_option linter.unusedVariables false
set_option linter.unusedSimpArgs false
namespace Go.Proofs.YtglpemnejngkaaaVm
open Go Classical

section
variable {P : Program} {C : Ctx} {σ : St} {a : Act} {w : World} {cv : Nat → Value}

def St.drop (σ : St) : Option Nat → St
  | some j => σ.setOb j .gone
  | none => σ

/-- A row that grows: in its place, or in a new block. -/
theorem Rel.grow (h : Rel P C σ a w cv) {i : Nat} (hfree : σ.ob i = .free) (src : Option Nat) (hsrc : ∀ j, src = some j → (σ.ob j).live = true)
    {w' : World} {row : Option Nat} (hg : w.grownBy w' row) (hrow : ∀ b, row = some b → ∃ j, src = some j ∧ blkOf (cv j) = some b)
    {e : TypeId} {ys : List PV} {v' : Value} (hown : ∀ F' : Nat → Prop, (∀ b, FS C σ.ob cv w b → F' b) → (∀ b, (w.heap.size ≤ b ∨ some b = row) → b < w'.heap.size → blkOf v' ≠ some b → F' b) → Same (FS C σ.ob cv w) w w' → OwnRow P w' F' v' e ys)
    (hv' : ∀ b, blkOf v' = some b → (some b = row ∨ w.heap.size ≤ b) ∧ b < w'.heap.size) :
    ∃ cv', Rel P C ((σ.drop src).setOb i (.row e ys)) a w' cv' ∧ cv' i = v' := by
  have hi : ∀ j, src = some j → j ≠ i := fun j hj e => by have := hsrc j hj; rw [e, hfree] at this; cases this
  have hob : ∀ k, k ≠ i → ((σ.drop src).setOb i (.row e ys)).ob k = if src = some k then .gone else σ.ob k := by
    intro k hk
    simp only [St.setOb, if_neg hk]
    cases src with
    | none => simp [St.drop]
    | some j => simp only [St.drop, St.setOb, Option.some.injEq]; by_cases e : k = j <;> simp [e, eq_comm]
  have hobi : ((σ.drop src).setOb i (.row e ys)).ob i = .row e ys := by simp [St.setOb]
  have hliv : ∀ k b, Live ((σ.drop src).setOb i (.row e ys)).ob (fun j => if j = i then v' else cv j) k b → (k = i ∧ blkOf v' = some b) ∨ (k ≠ i ∧ src ≠ some k ∧ Live σ.ob cv k b) := by
    intro k b ⟨h1, h2⟩
    by_cases ek : k = i
    · subst ek; simp only [if_true] at h2; exact .inl ⟨rfl, h2⟩
    · rw [hob k ek] at h1
      simp only [if_neg ek] at h2
      by_cases es : src = some k
      · rw [if_pos es] at h1; cases h1
      · rw [if_neg es] at h1; exact .inr ⟨ek, es, h1, h2⟩
  have hrl : ∀ b, some b = row → ∃ j, src = some j ∧ Live σ.ob cv j b := fun b hb => by
    obtain ⟨j, h1, h2⟩ := hrow b hb.symm
    exact ⟨j, h1, hsrc j h1, h2⟩
  have hsame : ∀ k, k < w.heap.size → some k ≠ row → w'.heap[k]? = w.heap[k]? := hg.block
  have hS : Same (FS C σ.ob cv w) w w' := fun b hb => hsame b (h.fs_lt hb) (fun e => by obtain ⟨j, _, hl⟩ := hrl b e; exact h.fs_live hb hl)
  have hst : ({ σ with ob := ((σ.drop src).setOb i (.row e ys)).ob } : St) = (σ.drop src).setOb i (.row e ys) := by cases src <;> rfl
  refine ⟨fun j => if j = i then v' else cv j, ?_, by simp⟩
  rw [← hst]
  refine h.upd hg.os hg.tape hg.output hg.size ?_ ?_ ?_ hS ?_ ?_ ?_ ?_ ?_
  · intro k hk hO
    refine hsame k (by have := h.size; omega) (fun e => ?_)
    obtain ⟨j, _, hl⟩ := hrl k e
    rcases (h.live j k hl).1 with h1 | h1
    · omega
    · exact hO h1
  · intro k b hk
    rcases hliv k b hk with ⟨rfl, hb⟩ | ⟨_, _, hl⟩
    · obtain ⟨h1, h2⟩ := hv' b hb
      refine ⟨?_, h2⟩
      rcases h1 with h1 | h1
      · obtain ⟨j, _, hl⟩ := hrl b h1; exact (h.live j b hl).1
      · exact .inl (Nat.le_trans h.size h1)
    · have := h.live k b hl; exact ⟨this.1, Nat.lt_of_lt_of_le this.2 hg.size⟩
  · intro k l b hk hl
    rcases hliv k b hk with ⟨rfl, hb⟩ | ⟨ek, es, hk'⟩ <;> rcases hliv l b hl with ⟨rfl, hb'⟩ | ⟨el, es', hl'⟩
    · rfl
    · exfalso
      rcases (hv' b hb).1 with h1 | h1
      · obtain ⟨j, hj, hlj⟩ := hrl b h1
        have := h.inj j l b hlj hl'
        subst this; exact es' hj
      · have := (h.live l b hl').2; omega
    · exfalso
      rcases (hv' b hb').1 with h1 | h1
      · obtain ⟨j, hj, hlj⟩ := hrl b h1
        have := h.inj j k b hlj hk'
        subst this; exact es hj
      · have := (h.live k b hk').2; omega
    · exact h.inj k l b hk' hl'
  · intro k b hb hk
    rcases hliv k b hk with ⟨rfl, hb'⟩ | ⟨_, _, hl⟩
    · rcases (hv' b hb').1 with h1 | h1
      · obtain ⟨j, _, hlj⟩ := hrl b h1; exact h.fs_live hb hlj
      · have := h.fs_lt hb; omega
    · exact h.fs_live hb hl
  · intro hF k
    by_cases ek : k = i
    · subst ek
      rw [hobi]
      show OwnRow P w' _ (if k = k then v' else cv k) e ys
      rw [if_pos rfl]
      refine hown _ hF (fun b hb hlt hne => .inr ⟨?_, hlt, fun m hm => ?_⟩) hS
      · rcases hb with hb | hb
        · exact .inl (Nat.le_trans h.size hb)
        · obtain ⟨j, _, hl⟩ := hrl b hb; exact (h.live j b hl).1
      · rcases hliv m b hm with ⟨_, hb'⟩ | ⟨_, es, hl⟩
        · exact hne hb'
        · rcases hb with hb | hb
          · have := (h.live m b hl).2; omega
          · obtain ⟨j, hj, hlj⟩ := hrl b hb
            have := h.inj j m b hlj hl
            subst this; exact es hj
    · rw [hob k ek]
      split
      · trivial
      · rename_i es
        refine (h.obs k).mono hS hF (by simp [ek]) (fun m hm => ?_) (fun hlk b hkb => hsame b (h.live k b ⟨hlk, hkb⟩).2 (fun e => ?_))
        · have := h.mento k m hm
          have : m ≠ i := fun e => this (e ▸ hfree)
          simp [this]
        · obtain ⟨j, hj, hlj⟩ := hrl b e
          have := h.inj j k b hlj ⟨hlk, hkb⟩
          subst this; exact es hj
  · intro k hk
    have : k ≠ i := fun e => hk (e ▸ hfree)
    simp [this]
  · intro k hk
    by_cases ek : k = i
    · rw [ek]; exact hfree
    · rw [hob k ek] at hk
      split at hk
      · cases hk
      · exact hk
  · intro k m hm
    by_cases em : m = i
    · rw [em, hobi]; intro e; cases e
    · rw [hob m em]
      by_cases ek : k = i
      · subst ek; rw [hobi] at hm; exact hm.elim
      · rw [hob k ek] at hm
        split at hm
        · exact hm.elim
        · split
          · intro e; cases e
          · exact h.mento k m hm

/-- How a row is read. -/
theorem Rel.rowRead (h : Rel P C σ a w cv) {x : AV} {ys : List PV} {u : Value} (hp : σ.pv x = some (.row ys)) (hv : SRep w (FS C σ.ob cv w) cv x u) :
    (u = .slice none 0 0 ∧ ys = []) ∨ ∃ ad c sz cells, u = .slice (some ad) ys.length c ∧ ys.length ≤ c ∧ (∀ y ∈ ys, y.cells.length = sz) ∧
      (∀ (j : Nat) (v : Value), cells[j]? = some v → w.cell? (ad.add j) = some v) ∧ Reps w (FS C σ.ob cv w) (flat ys) cells ∧ ∀ c ∈ flat ys, c.isAgg = false := by
  have rep : ∀ {v : Value}, Rep w (FS C σ.ob cv w) (.row ys) v → (v = .slice none 0 0 ∧ ys = []) ∨ ∃ ad c sz cells, v = .slice (some ad) ys.length c ∧ ys.length ≤ c ∧ (∀ y ∈ ys, y.cells.length = sz) ∧
      (∀ (j : Nat) (v : Value), cells[j]? = some v → w.cell? (ad.add j) = some v) ∧ Reps w (FS C σ.ob cv w) (flat ys) cells ∧ ∀ c ∈ flat ys, c.isAgg = false := by
    intro v hr
    cases hr with
    | rowNil => exact .inl ⟨rfl, rfl⟩
    | row _ ad c sz cells hc hsz hF hl hcell ha hh => exact .inr ⟨ad, c, sz, cells, rfl, hc, hsz, hcell, ⟨hl, hh⟩, ha⟩
  cases x with
  | any => cases hp
  | val p => simp [St.pv] at hp; subst hp; exact rep hv
  | nils => simp [St.pv] at hp; subst hp; exact .inl ⟨hv, rfl⟩
  | ref i =>
    have e : u = cv i := hv
    subst e
    have ho := h.obs i
    simp only [St.pv] at hp
    split at hp
    · rename_i e xs he
      cases hp
      rw [he] at ho
      obtain ⟨sz, cells, h1, h2, h3, h4, h5, h6⟩ := ho
      rcases h4.2 with ⟨e, hn⟩ | ⟨g, cap, cur, e, hb0, hg, hnc, hcm, hcs, ht⟩
      · exact .inl ⟨e, List.eq_nil_of_length_eq_zero hn⟩
      · exact .inr ⟨⟨g, 0, none⟩, cap, sz, cells, e, hnc, h3, h4.cells (by rw [e]; rfl), h5, h6⟩
    · rename_i xs he
      cases hp
      rw [he] at ho
      exact rep ho
    · cases hp
  | vw _ _ _ _ => simp [St.pv] at hp
  | adr i o =>
    exfalso
    simp only [St.pv] at hp
    split at hp
    · split at hp <;> cases hp
    · split at hp
      · split at hp <;> cases hp
      · cases hp
    · cases hp
  | ead i sz k o => cases hp
  | tup ps => cases hp

/-! ### append -/
/-- Where an appended row comes to lie. -/
theorem append_block {t ty e : TypeId} {i : TypeInfo} {z : Value} {size bytes : Nat} (ht : P.underlying t = some (.slice e)) (hi : P.info? e = some i) (hz : i.zero = some z)
    (hsize : i.size = size) (hby : i.bytes = bytes) (hsz : 0 < size) {v : Value} {n : Nat} {xs : List Value} (hown : w.ownsRow 0 e size v n xs)
    {ad : Addr} {m c : Nat} {news : List Value} (hl : news.length = m * size) (hnews : ∀ j u, news[j]? = some u → w.cell? (ad.add j) = some u) (h1 : ∀ u ∈ news, u.oneCell' = true)
    (h63 : n + m ≤ 4611686018427387904) (hbytes : (n + m) * bytes ≤ 140737488355328) {v' : Value} {w' : World}
    (hr : (Builtin.append_ #[t, t] ty #[v, .slice (some ad) m c]).run P w = .ok v' w') : ∀ b, blkOf v' = some b → some b = v.ownBlock ∨ w.heap.size ≤ b := by
  subst hsize hby
  intro b hb
  rcases hown.2 with ⟨rfl, rfl⟩ | ⟨g, cap, cur, rfl, hbg, hg, hnc, hcm, hcs, htake⟩
  · by_cases hm : m = 0
    · subst hm
      have hn : news = [] := List.eq_nil_of_length_eq_zero (by simpa using hl)
      subst hn
      have h0 : (Builtin.append_ #[t, t] ty #[.slice none 0 0, .slice (some ad) 0 c]).run P w = .ok (.slice none 0 0) w := by
        simp [Builtin.append_, run_underlying ht, sizeOf, typeInfo, hi, Builtin.lenOf, Builtin.firstCells, loadCells, loadCellsFrom]
      rw [h0] at hr
      cases hr
      cases hb
    · have h0 := run_append_nil (P := P) w t ty e i z ht hi hz ad m c news hl hnews (by omega) (by omega) (by rw [Nat.zero_add] at hbytes; omega)
      rw [h0] at hr
      cases hr
      cases hb
      exact .inr (Nat.le_refl _)
  · by_cases hroom : n + m ≤ cap
    · have hfit : n * i.size + news.length ≤ cur.size := by rw [hl, hcs, ← Nat.add_mul]; exact Nat.mul_le_mul_right _ hroom
      have h0 := run_append_room (P := P) w t ty e i ht hi g n cap cur hg ad m c news hl hnews h1 hroom hfit
      rw [h0] at hr
      cases hr
      cases hb
      exact .inl rfl
    · have holds : ∀ j u, xs[j]? = some u → w.cell? ((⟨g, 0, none⟩ : Addr).add j) = some u := hown.cells (g := g) rfl
      have h0 := run_append_grow (P := P) w t ty e i z ht hi hz ⟨g, 0, none⟩ n cap xs hown.1 holds ad m c news hl hnews (by omega) (by omega) (growslice_fits (by omega) hbytes)
      rw [h0] at hr
      cases hr
      cases hb
      exact .inr (Nat.le_refl _)

def stAppend (P : Program) (σ : St) (i : Nat) (t t2 : TypeId) (s x : AV) : Option (St × AV) :=
  match elOf P t with
  | some e => match szOf P e, byOf P e, σ.pv x with
    | some sz, some nb, some (.row ys) =>
      if t2 = t ∧ 0 < sz ∧ (∀ y ∈ ys, y.cells.length = sz) ∧ (zeroOf P e).map List.length = some sz ∧ σ.isFree i = true then
        match s with
        | .nils => if ys.length * nb ≤ 140737488355328 ∧ ys.length ≤ 4611686018427387904 then some (σ.setOb i (.row e ys), .ref i) else none
        | .ref j => match σ.ob j with
          | .row e' xs => if e' = e ∧ (xs.length + ys.length) * nb ≤ 140737488355328 ∧ xs.length + ys.length ≤ 4611686018427387904 then some ((σ.setOb j .gone).setOb i (.row e (xs ++ ys)), .ref i) else none
          | _ => none
        | _ => none
      else none
    | _, _, _ => none
  | none => none

theorem elOf_under {t e : TypeId} (he : elOf P t = some e) : P.underlying t = some (.slice e) := by
  unfold elOf at he; split at he <;> first | (rename_i hu; cases he; exact hu) | cases he

theorem Rel.appendOp (h : Rel P C σ a w cv) {i : Nat} {t t2 ty : TypeId} {s x : AV} {us ux : Value} (hs : SRep w (FS C σ.ob cv w) cv s us) (hx : SRep w (FS C σ.ob cv w) cv x ux)
    {σ' : St} {r : AV} (hst : stAppend P σ i t t2 s x = some (σ', r)) : RunOK P C a (Builtin.append_ #[t, t2] ty #[us, ux]) w σ' r := by
  unfold stAppend at hst
  split at hst
  · rename_i e he
    have hu := elOf_under he
    split at hst
    · rename_i sz nb ys hsz hnb hpx
      split at hst
      · rename_i hc
        obtain ⟨rfl, h0, hyc, hzs, hfr⟩ := hc
        have hfree := isFree_free hfr
        -- the element's own row of the table
        obtain ⟨inf, hi, hisz, hiby, z, hz, hzsz⟩ : ∃ inf, P.info? e = some inf ∧ inf.size = sz ∧ inf.bytes = nb ∧ ∃ z, inf.zero = some z ∧ z.cells.size = sz := by
          unfold szOf at hsz; unfold byOf at hnb; unfold zeroOf at hzs
          cases hi : P.info? e with
          | none => simp [hi] at hsz
          | some inf =>
            simp only [hi, Option.map_some, Option.some.injEq] at hsz hnb hzs
            cases hz : inf.zero with
            | none => simp [hz] at hzs
            | some z => exact ⟨inf, rfl, hsz, hnb, z, hz, by simpa [hz] using hzs⟩
        have hread := h.rowRead hpx hx
        -- the law, for a row of the call's own
        have main : ∀ (xs : List PV) (src : Option Nat), (∀ j, src = some j → (σ.ob j).live = true ∧ us = cv j) → (src = none → us = .slice none 0 0) → OwnRow P w (FS C σ.ob cv w) us e xs →
            (xs.length + ys.length) * nb ≤ 140737488355328 → xs.length + ys.length ≤ 4611686018427387904 →
            RunOK P C a (Builtin.append_ #[t2, t2] ty #[us, ux]) w ((σ.drop src).setOb i (.row e (xs ++ ys))) (.ref i) := by
          intro xs src hsrc hnil hown hbytes h63
          obtain ⟨sz', cells, g1, g2, g3, g4, g5, g6⟩ := hown
          obtain rfl : sz' = sz := Option.some.inj (g1.symm.trans hsz)
          have hlen : xs.length + ys.length ≤ maxLen := by simp only [maxLen]; omega
          have fin : ∀ (v' : Value) (w' : World) (news : List Value), (Builtin.append_ #[t2, t2] ty #[us, ux]).run P w = .ok v' w' → w'.ownsRow 0 e sz' v' (xs.length + ys.length) (cells ++ news) → w.grownBy w' us.ownBlock →
              Reps w (FS C σ.ob cv w) (flat ys) news → (∀ c ∈ flat ys, c.isAgg = false) → (∀ b, blkOf v' = some b → (some b = us.ownBlock ∨ w.heap.size ≤ b)) →
              RunOK P C a (Builtin.append_ #[t2, t2] ty #[us, ux]) w ((σ.drop src).setOb i (.row e (xs ++ ys))) (.ref i) := by
            intro v' w' news hrun hown' hgr hrn hna hblk
            obtain ⟨cv', k1, k2⟩ := h.grow hfree src (fun j hj => (hsrc j hj).1) hgr (fun b hb => by
              cases src with
              | none => rw [hnil rfl] at hb; simp [Value.ownBlock] at hb
              | some j => exact ⟨j, rfl, by rw [← (hsrc j rfl).2]; exact blkOf_ownBlock hb⟩) (e := e) (ys := xs ++ ys) (v' := v') (fun F' hF _ hS => by
              refine ⟨sz', _, hsz, h0, fun y hy => ?_, by rw [List.length_append]; exact hown', ?_, fun c hc => ?_⟩
              · rcases List.mem_append.1 hy with hy | hy
                · exact g3 y hy
                · exact hyc y hy
              · rw [flat_append]; exact (g5.append hrn).mono hS hF
              · rw [flat_append] at hc
                rcases List.mem_append.1 hc with hc | hc
                · exact g6 c hc
                · exact hna c hc) (fun b hb => ⟨hblk b hb, by
              rcases hown'.2 with ⟨e1, _⟩ | ⟨g, cap, cur, e1, _, hg, _⟩
              · rw [e1] at hb; cases hb
              · rw [e1] at hb; cases hb; exact (Array.getElem?_eq_some_iff.1 hg).1⟩)
            exact ⟨v', w', cv', hrun, k1, k2.symm, fun j hj => by have e1 : i = j := hj; subst e1; simp [St.setOb]⟩
          rcases hread with ⟨rfl, rfl⟩ | ⟨ad, c, sz2, news, rfl, hcap, hy2, hcell, hrn, hna⟩
          · have hrun := run_append_owned_none (P := P) w 0 t2 ty e inf sz' hu hi us xs.length cells g4
            refine fin us w [] hrun (by simpa using g4) ⟨rfl, rfl, rfl, Nat.le_refl _, fun _ _ _ => rfl⟩ (Reps.nil _ _) (by simp [flat]) (fun b hb => .inl ?_)
            rcases g4.2 with ⟨e1, _⟩ | ⟨g, cap, cur, e1, _⟩
            · rw [e1] at hb; cases hb
            · rw [e1] at hb ⊢; cases hb; rfl
          · have hnl : news.length = ys.length * sz' := by rw [hrn.1, flat_length hyc]
            have hone : ∀ v ∈ news, v.oneCell' = true := fun v hv => by
              obtain ⟨j, hj⟩ := List.mem_iff_getElem?.1 hv
              have hjl : j < (flat ys).length := by rw [← hrn.1]; exact (List.getElem?_eq_some_iff.1 hj).1
              exact (hrn.2 j _ v (List.getElem?_eq_getElem hjl) hj).oneCell (hna _ (List.getElem_mem hjl))
            obtain ⟨v', w', k1, k2, k3, _⟩ := run_append_own (P := P) w 0 t2 ty e inf z sz' nb hu hi hz hisz hiby hzsz h0 us xs.length cells g4 ad ys.length c news hnl hcell hone hlen hbytes (Nat.zero_le _)
            exact fin v' w' news k1 k2 k3 hrn hna (append_block hu hi hz hisz hiby h0 g4 hnl hcell hone h63 hbytes k1)
        split at hst
        · split at hst
          · rename_i hcc
            obtain ⟨rfl, rfl⟩ := Prod.mk.inj (Option.some.inj hst)
            have e : us = .slice none 0 0 := hs
            subst e
            have := main [] none (fun j hj => by cases hj) (fun _ => rfl) ⟨sz, [], hsz, h0, by simp, World.ownsRow_nil w 0 e sz, Reps.nil _ _, by simp [flat]⟩ (by simpa using hcc.1) (by simpa using hcc.2)
            simpa [St.drop] using this
          · cases hst
        · rename_i j
          split at hst
          · rename_i e' xs hoj
            split at hst
            · rename_i hcc
              obtain ⟨rfl, hb1, hb2⟩ := hcc
              obtain ⟨rfl, rfl⟩ := Prod.mk.inj (Option.some.inj hst)
              have e : us = cv j := hs
              subst e
              have ho := h.obs j
              rw [hoj] at ho
              exact main xs (some j) (fun k hk => by cases hk; exact ⟨by rw [hoj]; rfl, rfl⟩) (fun hk => by cases hk) ho hb1 hb2
            · cases hst
          · cases hst
        · cases hst
      · cases hst
    · cases hst
  · cases hst

end
end Go.Proofs.YtglpemnejngkaaaVm
