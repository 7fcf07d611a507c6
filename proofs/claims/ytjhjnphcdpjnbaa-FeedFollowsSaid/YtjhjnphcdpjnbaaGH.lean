/- A part of a proof: functions of the program, walked. -/
import Derived.Test.YtjhjnphcdpjnbaaGG
import Derived.Test.YtjhjnphcdpjnbaaGF
set_option linter.unusedVariables false
set_option linter.unusedSimpArgs false
set_option maxRecDepth 8000
namespace Go.Proofs.Ytjhjnphcdpjnbaa
open Go Go.Proofs Go.Proofs.YtjhjnphcdpjnbaaVm

theorem turn_turn (c : Change) : turnC (turnC c) = c := rfl
theorem turn_key (c : Change) : (turnC c).key = c.key := rfl
theorem val_note {l : List Pair} (hs : Sorted l) (c : Change) (k : List UInt8) : val (oneV l (noteC c)) k = if k = c.key then (if c.has = true then some c.aft else none) else val l k := by
  rw [← setR_note hs, setR_val hs]
theorem fitC_val {l : List Pair} (h : pairsOk l) {c : Change} (hc : c.ok) : fitC l c ↔ val l c.key = (if c.had = true then some c.bef else none) := by
  unfold fitC
  rw [getV_val h]
  cases hv : val l c.key with
  | none =>
    simp only [Prod.mk.injEq]
    cases hh : c.had with
    | true => simp
    | false =>
      have := hc.2.2.2.2.2.1
      rw [hh] at this
      simp at this
      simp [this]
  | some v =>
    simp only [Prod.mk.injEq]
    cases hh : c.had with
    | true => simp
    | false => simp
theorem doGo_app : ∀ (xs ys : List Change) (l : List Pair), doGo l (xs ++ ys) = (doGo l xs).bind fun p => doGo p ys
  | [], _, _ => rfl
  | c :: r, ys, l => by
    simp only [List.cons_append, doGo]
    split
    · exact doGo_app r ys _
    · rfl
theorem doGo_ok : ∀ (cs : List Change) {l a : List Pair}, pairsOk l → doGo l cs = some a → pairsOk a ∧ ∀ c ∈ cs, c.ok
  | [], l, a, h, e => by cases e; exact ⟨h, by simp⟩
  | c :: r, l, a, h, e => by
    simp only [doGo] at e
    split at e
    · rename_i hc
      have ih := doGo_ok r (oneV_pairsOk h (noteC_ok hc.1)) e
      exact ⟨ih.1, fun x hx => by
        rcases List.mem_cons.1 hx with rfl | hx
        · exact hc.1
        · exact ih.2 x hx⟩
    · cases e
theorem turn_fit {l : List Pair} (h : pairsOk l) {c : Change} (hc : c.ok) : fitC (oneV l (noteC c)) (turnC c) := by
  have hp := oneV_pairsOk h (noteC_ok hc)
  rw [fitC_val hp ((turn_ok c).2 hc), turn_key, val_note ((pairsOk_iff l).1 h).1, if_pos rfl]
  rfl
theorem turn_back {l : List Pair} (h : pairsOk l) {c : Change} (hc : c.ok) (hf : fitC l c) : oneV (oneV l (noteC c)) (noteC (turnC c)) = l := by
  have hs := ((pairsOk_iff l).1 h).1
  have hp := oneV_pairsOk h (noteC_ok hc)
  have hsp := ((pairsOk_iff _).1 hp).1
  refine val_ext (oneV_sorted hsp _) hs fun k => ?_
  rw [val_note hsp, turn_key]
  split
  · rename_i e
    rw [e, (fitC_val h hc).1 hf]; rfl
  · rename_i hk
    rw [val_note hs, if_neg hk]
theorem doGo_undo : ∀ (cs : List Change) {l a : List Pair}, pairsOk l → doGo l cs = some a → doGo a (cs.reverse.map turnC) = some l
  | [], l, a, h, e => by cases e; rfl
  | c :: r, l, a, h, e => by
    simp only [doGo] at e
    split at e
    · rename_i hc
      have ih := doGo_undo r (oneV_pairsOk h (noteC_ok hc.1)) e
      rw [List.reverse_cons, List.map_append, doGo_app, ih, Option.bind_some]
      simp only [List.map_cons, List.map_nil, doGo]
      rw [if_pos ⟨(turn_ok c).2 hc.1, turn_fit h hc.1⟩, turn_back h hc.1 hc.2]
    · cases e
theorem doV_zero {l a : List Pair} {cs : List Change} : doV l cs = (a, 0) ↔ pairsOk l ∧ doGo l cs = some a := by
  unfold doV
  split
  · rename_i h
    cases hg : doGo l cs with
    | none => simp
    | some q => simp [h]
  · rename_i h
    simp [h]
theorem doV_err {l : List Pair} {cs : List Change} (h : (doV l cs).2 ≠ 0) : doV l cs = (l, 1) := by
  unfold doV at *
  split at h
  · rename_i hp
    cases hg : doGo l cs with
    | none => simp [hp]
    | some q => rw [hg] at h; exact absurd rfl h
  · rename_i hp; simp [hp]
theorem doV_cases (l : List Pair) (cs : List Change) : (∃ a, doV l cs = (a, 0)) ∨ doV l cs = (l, 1) := by
  by_cases h : (doV l cs).2 = 0
  · exact .inl ⟨(doV l cs).1, by rw [← h]⟩
  · exact .inr (doV_err h)
theorem do_undo {l a : List Pair} {cs : List Change} (h : doV l cs = (a, 0)) : undoV a cs = (l, 0) ∧ pairsOk a := by
  obtain ⟨h1, h2⟩ := doV_zero.1 h
  have h3 := (doGo_ok cs h1 h2).1
  exact ⟨doV_zero.2 ⟨h3, doGo_undo cs h1 h2⟩, h3⟩
theorem undo_do {l a : List Pair} {cs : List Change} (h : undoV l cs = (a, 0)) : doV a cs = (l, 0) ∧ pairsOk a := by
  have := do_undo (cs := cs.reverse.map turnC) h
  unfold undoV at this
  rw [← List.map_reverse, List.reverse_reverse, List.map_map] at this
  have e : cs.map (turnC ∘ turnC) = cs := by
    have : (turnC ∘ turnC) = id := funext fun c => rfl
    rw [this, List.map_id]
  rw [e] at this
  exact this
theorem oneV_grow {l : List Pair} (h : pairsOk l) (n : Note) : (oneV l n).length ≤ l.length + 1 := oneV_len ((pairsOk_iff l).1 h).1 n
theorem doGo_len : ∀ (cs : List Change) {l a : List Pair}, pairsOk l → doGo l cs = some a → a.length ≤ l.length + cs.length
  | [], l, a, h, e => by cases e; exact Nat.le_refl _
  | c :: r, l, a, h, e => by
    simp only [doGo] at e
    split at e
    · rename_i hc
      have h1 := doGo_len r (oneV_pairsOk h (noteC_ok hc.1)) e
      have h2 := oneV_grow h (noteC c)
      simp only [List.length_cons]; omega
    · cases e
theorem doV_len (l : List Pair) (cs : List Change) : (doV l cs).1.length ≤ l.length + cs.length := by
  rcases doV_cases l cs with ⟨a, h⟩ | h
  · obtain ⟨h1, h2⟩ := doV_zero.1 h
    rw [h]; exact doGo_len cs h1 h2
  · rw [h]; simp
theorem undoV_len (l : List Pair) (cs : List Change) : (undoV l cs).1.length ≤ l.length + cs.length := by
  have := doV_len l (cs.reverse.map turnC)
  simpa [undoV] using this
/-- What is joined. -/
def joinC (a b : Change) : Change := ⟨b.seq, b.key, a.had, a.bef, b.has, b.aft⟩
theorem joinV_cases (a b : Change) : (joinV a b = (joinC a b, 0) ∧ joinOk a b ∧ ¬ (a.had = false ∧ b.has = false)) ∨ (joinV a b = (Change.zero, 3) ∧ joinOk a b ∧ a.had = false ∧ b.has = false) ∨ (joinV a b = (Change.zero, 1) ∧ ¬ joinOk a b) := by
  unfold joinV madeV
  by_cases h : joinOk a b
  · rw [if_pos h]
    simp only
    by_cases h2 : a.had = false ∧ b.has = false
    · rw [if_pos h2]; exact .inr (.inl ⟨rfl, h, h2⟩)
    · rw [if_neg h2]; exact .inl ⟨rfl, h, h2⟩
  · rw [if_neg h]; exact .inr (.inr ⟨rfl, h⟩)
theorem joinC_ok {a b : Change} (h : joinOk a b) (hn : ¬ (a.had = false ∧ b.has = false)) : (joinC a b).ok := by
  obtain ⟨ha, hb, hk, hs, _⟩ := h
  refine ⟨hb.1, ha.2.1, hb.2.2.1, hb.2.2.2.1, hb.2.2.2.2.1, ha.2.2.2.2.2.1, hb.2.2.2.2.2.2.1, ?_⟩
  show a.had = true ∨ b.has = true
  cases h1 : a.had with
  | true => exact .inl rfl
  | false =>
    cases h2 : b.has with
    | true => exact .inr rfl
    | false => exact absurd ⟨h1, h2⟩ hn
theorem oneV_two {l : List Pair} (hs : Sorted l) {a b c : Change} (h1 : a.key = b.key) (h2 : c.key = b.key) (h3 : c.has = b.has) (h4 : c.aft = b.aft) : oneV (oneV l (noteC a)) (noteC b) = oneV l (noteC c) := by
  have hs2 := oneV_sorted hs (noteC a)
  refine val_ext (oneV_sorted hs2 _) (oneV_sorted hs _) fun k => ?_
  rw [val_note hs2, val_note hs, val_note hs, h2, h3, h4]
  split
  · rfl
  · rename_i hk
    rw [if_neg (by rw [h1]; exact hk)]
theorem fitC_join {l : List Pair} {a b : Change} (hk : a.key = b.key) : fitC l a ↔ fitC l (joinC a b) := by
  unfold fitC joinC
  simp only [hk]
/-- What is joined does what both do. -/
theorem join_does {l p : List Pair} {a b : Change} (h : pairsOk l) (hj : joinOk a b) (hn : ¬ (a.had = false ∧ b.has = false)) (hd : doGo l [a, b] = some p) : doGo l [joinC a b] = some p := by
  simp only [doGo] at *
  split at hd
  · rename_i h1
    split at hd
    · rename_i h2
      rw [if_pos ⟨joinC_ok hj hn, (fitC_join hj.2.2.1).1 h1.2⟩, ← hd]
      rw [oneV_two ((pairsOk_iff l).1 h).1 (c := joinC a b) hj.2.2.1 rfl rfl rfl]
    · cases hd
  · cases hd
theorem join_none {l p : List Pair} {a b : Change} (h : pairsOk l) (hj : joinOk a b) (h1 : a.had = false) (h2 : b.has = false) (hd : doGo l [a, b] = some p) : p = l := by
  simp only [doGo] at *
  split at hd
  · rename_i g1
    split at hd
    · cases hd
      have hs := ((pairsOk_iff l).1 h).1
      have hs2 := oneV_sorted hs (noteC a)
      refine val_ext (oneV_sorted hs2 _) hs fun k => ?_
      rw [val_note hs2, val_note hs]
      split
      · rename_i e
        have := (fitC_val h g1.1).1 g1.2
        rw [e, ← hj.2.2.1, this, h1, h2]; rfl
      · rename_i hk
        rw [if_neg (by rw [hj.2.2.1]; exact hk)]
    · cases hd
  · cases hd
theorem join_assoc {a b c : Change} (h1 : joinV a b = (joinC a b, 0)) (h2 : joinV b c = (joinC b c, 0)) : joinV (joinC a b) c = joinV a (joinC b c) := by
  have j1 : joinOk a b ∧ ¬ (a.had = false ∧ b.has = false) := by
    rcases joinV_cases a b with ⟨_, g1, g2⟩ | ⟨e, _⟩ | ⟨e, _⟩
    · exact ⟨g1, g2⟩
    · rw [e] at h1; exact absurd (congrArg Prod.snd h1) (show ¬ ((_ : Int) = 0) by decide)
    · rw [e] at h1; exact absurd (congrArg Prod.snd h1) (show ¬ ((_ : Int) = 0) by decide)
  have j2 : joinOk b c ∧ ¬ (b.had = false ∧ c.has = false) := by
    rcases joinV_cases b c with ⟨_, g1, g2⟩ | ⟨e, _⟩ | ⟨e, _⟩
    · exact ⟨g1, g2⟩
    · rw [e] at h2; exact absurd (congrArg Prod.snd h2) (show ¬ ((_ : Int) = 0) by decide)
    · rw [e] at h2; exact absurd (congrArg Prod.snd h2) (show ¬ ((_ : Int) = 0) by decide)
  have k1 := joinC_ok j1.1 j1.2
  have k2 := joinC_ok j2.1 j2.2
  obtain ⟨⟨a1, a2, a3, a4, a5, a6⟩, _⟩ := j1
  obtain ⟨⟨b1, b2, b3, b4, b5, b6⟩, _⟩ := j2
  unfold joinV
  have e1 : joinOk (joinC a b) c := ⟨k1, b2, b3, b4, b5, b6⟩
  have e2 : joinOk a (joinC b c) := ⟨a1, k2, (by show a.key = c.key; rw [a3, b3]), (by show a.seq < c.seq; omega), a5, a6⟩
  rw [if_pos e1, if_pos e2]
  rfl
end Go.Proofs.Ytjhjnphcdpjnbaa
set_option linter.unusedVariables false
set_option linter.unusedSimpArgs false
set_option maxRecDepth 8000
namespace Go.Proofs.Ytjhjnphcdpjnbaa
open Go Go.Proofs Go.Proofs.YtjhjnphcdpjnbaaVm

/-- Numbers one behind the other. -/
def Consec (base : Int) (c : List Change) : Prop := ∀ (j : Nat) (x : Change), c[j]? = some x → x.seq = base + j + 1
theorem Consec.snoc {base : Int} {c : List Change} {x : Change} (h : Consec base c) (hx : x.seq = base + c.length + 1) : Consec base (c ++ [x]) := fun j y hj => by
  by_cases hlt : j < c.length
  · rw [List.getElem?_append_left hlt] at hj; exact h j y hj
  · rw [List.getElem?_append_right (by omega)] at hj
    by_cases he : j = c.length
    · subst he
      simp at hj
      rw [← hj]; exact hx
    · have : j - c.length ≠ 0 := by omega
      rw [List.getElem?_singleton] at hj
      rw [if_neg this] at hj; cases hj
theorem Consec.app {base : Int} {c d : List Change} (h : Consec base c) (hd : Consec (base + c.length) d) : Consec base (c ++ d) := fun j y hj => by
  by_cases hlt : j < c.length
  · rw [List.getElem?_append_left hlt] at hj; exact h j y hj
  · rw [List.getElem?_append_right (by omega)] at hj
    have := hd _ y hj
    rw [this]; omega

theorem runGo_lead (l : List Pair) (hl : pairsOk l) : ∀ (ns : List Note) (p : List Pair) (seq : Int) (out : List Change), pairsOk p → notesAll ns → 0 ≤ seq + out.length → seq + out.length + ns.length ≤ 2147483647 →
    doGo l out = some p → Consec seq out → doGo l (runGo p seq out ns).1 = some (runGo p seq out ns).2 ∧ Consec seq (runGo p seq out ns).1 ∧ appV p ns = (runGo p seq out ns).2
  | [], p, seq, out, _, _, _, _, hd, hc => ⟨hd, hc, rfl⟩
  | n :: r, p, seq, out, hp, hn, h0, hm, hd, hc => by
    have hx := hn n List.mem_cons_self
    have hr : notesAll r := fun y hy => hn y (List.mem_cons_of_mem _ hy)
    simp only [List.length_cons] at hm
    unfold runGo
    have e : appV p (n :: r) = appV (oneV p n) r := rfl
    rw [e]
    split
    · rename_i h
      obtain ⟨g1, g2, g3, g4, g5, g6⟩ := ofV_does h
      refine runGo_lead l hl r (oneV p n) seq _ (oneV_pairsOk hp hx) hr (by rw [List.length_append, List.length_singleton]; omega) (by rw [List.length_append, List.length_singleton]; omega) ?_ (hc.snoc g6)
      rw [doGo_app, hd, Option.bind_some]
      exact (doV_zero.1 g4).2
    · rename_i h
      obtain ⟨g1, _⟩ := ofV_none hp hx (by omega) (by omega) h
      rw [g1]
      exact runGo_lead l hl r p seq out hp hr h0 (by omega) hd hc
theorem runV_lead {l : List Pair} {seq : Int} {ns : List Note} (h : (runV l seq ns).2.2 = 0) : pairsOk l ∧ notesAll ns ∧ pairsOk (runV l seq ns).2.1 ∧ doGo l (runV l seq ns).1 = some (runV l seq ns).2.1 ∧ Consec seq (runV l seq ns).1 ∧ appV l ns = (runV l seq ns).2.1 := by
  obtain ⟨h1, h2, h3, h4, h5, h6, h7, h8⟩ := runV_facts h
  have := runGo_lead l h2 ns l seq [] h2 h1.2 (by simpa using h3) (by simpa using h4) rfl (fun j x hj => by simp at hj)
  rw [h8]
  rw [h8] at h7
  exact ⟨h2, h1.2, h7, this⟩
theorem allGo_lead (l l0 : List Pair) (base : Int) (hl : pairsOk l) : ∀ (bs : List (List Note)) (p : List Pair) (seq : Int) (out : List Change) (ends : List Int), pairsOk p → doGo l out = some p → Consec base out → seq = base + out.length →
    (allGo l0 p seq out ends bs).2.2.2 = 0 →
    doGo l (allGo l0 p seq out ends bs).1 = some (allGo l0 p seq out ends bs).2.1 ∧ Consec base (allGo l0 p seq out ends bs).1 ∧ appV p bs.flatten = (allGo l0 p seq out ends bs).2.1 ∧ pairsOk (allGo l0 p seq out ends bs).2.1 ∧
      (allGo l0 p seq out ends bs).2.2.1.length = ends.length + bs.length ∧ (ends.getLast? = some seq ∨ bs ≠ [] → (allGo l0 p seq out ends bs).2.2.1.getLast? = some (base + (allGo l0 p seq out ends bs).1.length)) ∧ notesAll bs.flatten
  | [], p, seq, out, ends, hp, hd, hc, hs, h => ⟨hd, hc, rfl, hp, rfl, fun g => by
      rcases g with g | g
      · show ends.getLast? = _
        rw [g, hs]; rfl
      · exact absurd rfl g, by intro x hx; simp at hx⟩
  | b :: r, p, seq, out, ends, hp, hd, hc, hs, h => by
    unfold allGo at *
    by_cases hb : (runV p seq b).2.2 = 0
    · rw [if_pos hb] at h ⊢
      obtain ⟨g1, g2, g3, g4, g5, g6⟩ := runV_lead hb
      have ih := allGo_lead l l0 base hl r (runV p seq b).2.1 (seq + ((runV p seq b).1.length : Int)) (out ++ (runV p seq b).1) (ends ++ [seq + ((runV p seq b).1.length : Int)]) g3
        (by rw [doGo_app, hd, Option.bind_some]; exact g4) (hc.app (by rw [← hs]; exact g5)) (by rw [List.length_append]; omega) h
      obtain ⟨i1, i2, i3, i4, i5, i6, i7⟩ := ih
      refine ⟨i1, i2, ?_, i4, ?_, fun _ => i6 (.inl (by simp)), ?_⟩
      · rw [List.flatten_cons, appV_app, g6]; exact i3
      · rw [i5]; simp; omega
      · intro x hx
        rw [List.flatten_cons, List.mem_append] at hx
        rcases hx with hx | hx
        · exact g2 x hx
        · exact i7 x hx
    · rw [if_neg hb] at h
      exact absurd h hb
/-- What batches make. -/
structure Lead (l : List Pair) (seq : Int) (bs : List (List Note)) (c : List Change) (p : List Pair) (ends : List Int) : Prop where
  ok : pairsOk l
  does : doGo l c = some p
  seqs : Consec seq c
  notes : appV l bs.flatten = p
  pok : pairsOk p
  elen : ends.length = bs.length
  last : bs ≠ [] → ends.getLast? = some (seq + c.length)
  nok : notesAll bs.flatten
theorem allV_lead {l : List Pair} {seq : Int} {bs : List (List Note)} (hl : pairsOk l) {c : List Change} {p : List Pair} {ends : List Int} (h : allV l seq bs = (c, p, ends, 0)) : Lead l seq bs c p ends := by
  have h0 : (allV l seq bs).2.2.2 = 0 := by rw [h]
  have := allGo_lead l l seq hl bs l seq [] [] hl rfl (fun j x hj => by simp at hj) (by simp) h0
  have e : allGo l l seq [] [] bs = (c, p, ends, 0) := h
  rw [e] at this
  obtain ⟨i1, i2, i3, i4, i5, i6, i7⟩ := this
  exact ⟨hl, i1, i2, i3, i4, by simpa using i5, fun hb => i6 (.inr hb), i7⟩
theorem allV_right {l : List Pair} {seq : Int} {b : List Note} {bs : List (List Note)} {c : List Change} {p : List Pair} {ends : List Int} (h : allV l seq (b :: bs) = (c, p, ends, 0)) : pairsOk l := by
  unfold allV allGo at h
  by_cases hb : (runV l seq b).2.2 = 0
  · exact (runV_lead hb).1
  · rw [if_neg hb] at h
    have := congrArg (fun x => x.2.2.2) h
    exact absurd this hb
end Go.Proofs.Ytjhjnphcdpjnbaa
set_option linter.unusedVariables false
set_option linter.unusedSimpArgs false
set_option maxRecDepth 8000
namespace Go.Proofs.Ytjhjnphcdpjnbaa
open Go Go.Proofs Go.Proofs.YtjhjnphcdpjnbaaVm Go.Proofs.Ytjhjnphcdpjnbaa.Ty

/-- Changes whose numbers rise. -/
def trailFrom : Option Int → List Change → Prop
  | _, [] => True
  | last, c :: r => c.ok ∧ (∀ s, last = some s → s < c.seq) ∧ trailFrom (some c.seq) r
def trailOk (l : List Change) : Prop := trailFrom none l
instance instTF : ∀ (last : Option Int) (l : List Change), Decidable (trailFrom last l)
  | _, [] => isTrue trivial
  | none, s :: r => by
    unfold trailFrom
    have := instTF (some s.seq) r
    have : Decidable (∀ k, none = some k → k < s.seq) := isTrue (fun k h => by cases h)
    infer_instance
  | some k, s :: r => by
    unfold trailFrom
    have := instTF (some s.seq) r
    have : Decidable (∀ k', some k = some k' → k' < s.seq) := decidable_of_iff (k < s.seq) ⟨fun h k' e => by cases e; exact h, fun h => h k rfl⟩
    infer_instance
instance instTrailOk (l : List Change) : Decidable (trailOk l) := by unfold trailOk; infer_instance
def prevSeq (l : List Change) (i : Nat) : Option Int := if i = 0 then none else (l[i - 1]?).map Change.seq

set_option maxRecDepth 4000 in
set_option maxHeartbeats 8000000 in
theorem trail_Right (l : List Change) (hl : l.length ≤ 1000000) : Ct Try.prog 65 (YtjhjnphcdpjnbaaVm.ops [.row (l.map Change.pv)]) (.vals [.bool (decide (trailOk l))]) := by
  refine Ct.of_V Try.func65 rfl (by simp [YtjhjnphcdpjnbaaVm.ops, Try.f65]) ?_
  refine V.exec 400 ?_
  simp (config := {contextual := true}) only [go_sem, ↓reduceIte, reduceCtorEq, Bool.false_eq_true, Bool.true_eq_false, Nat.reduceAdd, Nat.reduceLT, Nat.reduceEqDiff, Nat.reduceLeDiff, Nat.reduceSub, Nat.reduceMul, Try.f65]
  refine V.loop (fun m ls os => ∃ (i : Nat), i ≤ l.length ∧ m = l.length - i ∧ (trailOk l ↔ trailFrom (prevSeq l i) (l.drop i)) ∧
        ls = [(0, .val (.row (l.map Change.pv))), (5, .val (.row (l.map Change.pv))), (6, .val (.int .i64 l.length)), (7, .val (.int .i64 i))] ∧ os = []) 0 l.length
      [(0, .val (.row (l.map Change.pv))), (5, .val (.row (l.map Change.pv))), (6, .val (.int .i64 l.length)), (7, .val (.int .i64 0))] [] []
      ⟨0, Nat.zero_le _, rfl, Iff.rfl, rfl, rfl⟩ (by simp only [go_sem, ↓reduceIte, reduceCtorEq, Bool.false_eq_true, Bool.true_eq_false, Nat.reduceAdd, Nat.reduceLT, Nat.reduceEqDiff, Nat.reduceLeDiff, Nat.reduceSub, Nat.reduceMul]) ?_
  rintro m ls os ⟨i, hi, rfl, hiff, rfl, rfl⟩
  refine V.exec 400 ?_
  by_cases hlt : i < l.length
  · have hlt' : (i : Int) < (l.length : Int) := by omega
    obtain ⟨x, hx⟩ : ∃ x, l[i]? = some x := ⟨_, List.getElem?_eq_getElem hlt⟩
    have hw : IntKind.i64.wrap ((i : Int) + 1) = ((i + 1 : Nat) : Int) := by rw [wrap_small3] <;> omega
    rw [drop_of_get hx, trailFrom] at hiff
    have hpk : prevSeq l (i + 1) = some x.seq := by simp [prevSeq, hx]
    have fin : x.ok → (∀ k, prevSeq l i = some k → k < x.seq) → (trailOk l ↔ trailFrom (prevSeq l (i + 1)) (l.drop (i + 1))) := fun a b => by
      rw [hiff, hpk]; exact ⟨fun h => h.2.2, fun h => ⟨a, b, h⟩⟩
    have hfalse : ¬ trailOk l → some [PV.bool false] = some [PV.bool (decide (trailOk l))] := fun h => by simp [h]
    simp (config := {contextual := true}) only [go_sem, ↓reduceIte, reduceCtorEq, Bool.false_eq_true, Bool.true_eq_false, Nat.reduceAdd, Nat.reduceLT, Nat.reduceEqDiff, Nat.reduceLeDiff, Nat.reduceSub, Nat.reduceMul, hlt', hx, Change.pv]
    refine DV.call [] [] (by simp only [go_sem, ↓reduceIte, reduceCtorEq, Bool.false_eq_true, Bool.true_eq_false, Nat.reduceAdd, Nat.reduceLT, Nat.reduceEqDiff, Nat.reduceLeDiff, Nat.reduceSub, Nat.reduceMul, Change.pv]) (by simp [dOK]) ⟨54, [], by simp only [go_sem, ↓reduceIte, reduceCtorEq, Bool.false_eq_true, Bool.true_eq_false, Nat.reduceAdd, Nat.reduceLT, Nat.reduceEqDiff, Nat.reduceLeDiff, Nat.reduceSub, Nat.reduceMul, Change.pv], ⟨_, rfl, rfl, rfl⟩, .inl ⟨[x.pv], _, .inl (by simp only [go_sem, ↓reduceIte, reduceCtorEq, Bool.false_eq_true, Bool.true_eq_false, Nat.reduceAdd, Nat.reduceLT, Nat.reduceEqDiff, Nat.reduceLeDiff, Nat.reduceSub, Nat.reduceMul, Change.pv]), flat_May x, .inl ⟨_, rfl, rfl, rfl, rfl⟩⟩⟩ (by simp only [go_sem, ↓reduceIte, reduceCtorEq, Bool.false_eq_true, Bool.true_eq_false, Nat.reduceAdd, Nat.reduceLT, Nat.reduceEqDiff, Nat.reduceLeDiff, Nat.reduceSub, Nat.reduceMul, Change.pv]) (by simp only [go_sem, ↓reduceIte, reduceCtorEq, Bool.false_eq_true, Bool.true_eq_false, Nat.reduceAdd, Nat.reduceLT, Nat.reduceEqDiff, Nat.reduceLeDiff, Nat.reduceSub, Nat.reduceMul, Change.pv]) (by simp only [go_sem, ↓reduceIte, reduceCtorEq, Bool.false_eq_true, Bool.true_eq_false, Nat.reduceAdd, Nat.reduceLT, Nat.reduceEqDiff, Nat.reduceLeDiff, Nat.reduceSub, Nat.reduceMul, Change.pv]) (by simp) ?_
    refine DV.exec 400 ?_
    by_cases hok : x.ok
    · rcases Nat.eq_zero_or_pos i with rfl | hpos
      · have hz : ¬ (0 : Int) < ((0 : Nat) : Int) := by omega
        simp (config := {contextual := true}) only [go_sem, ↓reduceIte, reduceCtorEq, Bool.false_eq_true, Bool.true_eq_false, Nat.reduceAdd, Nat.reduceLT, Nat.reduceEqDiff, Nat.reduceLeDiff, Nat.reduceSub, Nat.reduceMul, hlt', hx, Change.pv, hw, hz, hok]
        (repeat' (first | (intro _) | (refine ⟨by kernel_rfl, ?_⟩) | (apply And.intro)))
        exact ⟨l.length - (0 + 1), _, [], [], by omega, ⟨1, by omega, rfl, fin hok (fun k h => by simp [prevSeq] at h), rfl, rfl⟩, by simp only [go_sem, ↓reduceIte, reduceCtorEq, Bool.false_eq_true, Bool.true_eq_false, Nat.reduceAdd, Nat.reduceLT, Nat.reduceEqDiff, Nat.reduceLeDiff, Nat.reduceSub, Nat.reduceMul]⟩
      · obtain ⟨j, rfl⟩ : ∃ j, i = j + 1 := ⟨i - 1, by omega⟩
        have hw2 : IntKind.i64.wrap (((j + 1 : Nat) : Int) - 1) = (j : Int) := by rw [wrap_small3] <;> omega
        have hjp : (0 : Int) < ((j + 1 : Nat) : Int) := by omega
        obtain ⟨y, hy⟩ : ∃ y, l[j]? = some y := ⟨_, List.getElem?_eq_getElem (by omega)⟩
        simp (config := {contextual := true}) only [go_sem, ↓reduceIte, reduceCtorEq, Bool.false_eq_true, Bool.true_eq_false, Nat.reduceAdd, Nat.reduceLT, Nat.reduceEqDiff, Nat.reduceLeDiff, Nat.reduceSub, Nat.reduceMul, hlt', hx, Change.pv, hw, hw2, hjp, hy, hok]
        (repeat' (first | (intro _) | (refine ⟨by kernel_rfl, ?_⟩) | (apply And.intro)))
        · refine hfalse fun h => ?_
          have := (hiff.1 h).2.1 y.seq (by simp [prevSeq, hy])
          omega
        · exact ⟨l.length - (j + 1 + 1), _, [], [], by omega, ⟨j + 1 + 1, by omega, rfl, fin hok (fun k h => by simp [prevSeq, hy] at h; omega), rfl, rfl⟩, by simp only [go_sem, ↓reduceIte, reduceCtorEq, Bool.false_eq_true, Bool.true_eq_false, Nat.reduceAdd, Nat.reduceLT, Nat.reduceEqDiff, Nat.reduceLeDiff, Nat.reduceSub, Nat.reduceMul]⟩
    · simp (config := {contextual := true}) only [go_sem, ↓reduceIte, reduceCtorEq, Bool.false_eq_true, Bool.true_eq_false, Nat.reduceAdd, Nat.reduceLT, Nat.reduceEqDiff, Nat.reduceLeDiff, Nat.reduceSub, Nat.reduceMul, hlt', hx, Change.pv, hw, hok]
      (repeat' (first | (intro _) | (refine ⟨by kernel_rfl, ?_⟩) | (apply And.intro)))
      exact hfalse fun h => hok (hiff.1 h).1
  · have hlt' : ¬ (i : Int) < (l.length : Int) := by omega
    have hd : l.drop i = [] := List.drop_eq_nil_of_le (by omega)
    rw [hd, trailFrom] at hiff
    simp (config := {contextual := true}) only [go_sem, ↓reduceIte, reduceCtorEq, Bool.false_eq_true, Bool.true_eq_false, Nat.reduceAdd, Nat.reduceLT, Nat.reduceEqDiff, Nat.reduceLeDiff, Nat.reduceSub, Nat.reduceMul, hlt']
    simp [hiff]
end Go.Proofs.Ytjhjnphcdpjnbaa
set_option linter.unusedVariables false
set_option linter.unusedSimpArgs false
set_option maxRecDepth 8000
namespace Go.Proofs.Ytjhjnphcdpjnbaa
open Go Go.Proofs Go.Proofs.YtjhjnphcdpjnbaaVm

theorem consec_trail {base : Int} : ∀ (c : List Change) (k : Option Int) (b : Int), (∀ s, k = some s → s ≤ b) → (∀ x ∈ c, x.ok) → Consec b c → trailFrom k c
  | [], _, _, _, _, _ => trivial
  | x :: r, k, b, hk, ho, hc => by
    have hx : x.seq = b + 1 := by have := hc 0 x rfl; simpa using this
    refine ⟨ho x List.mem_cons_self, fun s hs => by have := hk s hs; omega, consec_trail (base := base) r (some x.seq) (b + 1) (fun s hs => by cases hs; omega) (fun y hy => ho y (List.mem_cons_of_mem _ hy)) (fun j y hj => ?_)⟩
    have := hc (j + 1) y hj
    rw [this]; omega
theorem Lead.facts {l : List Pair} {seq : Int} {bs : List (List Note)} {c : List Change} {p : List Pair} {ends : List Int} (h : Lead l seq bs c p ends) :
    doV l c = (p, 0) ∧ undoV p c = (l, 0) ∧ applyV l bs.flatten = (p, 0) ∧ trailOk c ∧ (bs ≠ [] → ends[ends.length - 1]? = some (seq + c.length)) := by
  have h1 : doV l c = (p, 0) := doV_zero.2 ⟨h.ok, h.does⟩
  refine ⟨h1, (do_undo h1).1, ?_, consec_trail (base := seq) c none seq (fun s hs => by cases hs) (doGo_ok c h.ok h.does).2 h.seqs, fun hb => ?_⟩
  · unfold applyV; rw [if_pos ⟨h.ok, h.nok⟩, h.notes]
  · rw [← List.getLast?_eq_getElem?]; exact h.last hb
end Go.Proofs.Ytjhjnphcdpjnbaa
set_option linter.unusedVariables false
set_option linter.unusedSimpArgs false
set_option maxRecDepth 8000
namespace Go.Proofs.Ytjhjnphcdpjnbaa
open Go Go.Proofs Go.Proofs.YtjhjnphcdpjnbaaVm Go.Proofs.Ytjhjnphcdpjnbaa.Ty

set_option maxHeartbeats 2000000 in
theorem CloneChange (xs : List PV) (h1 : ∀ x ∈ xs, x.cells.length = 6) (hl : xs.length ≤ 1000000) : Ct Try.prog 71 (YtjhjnphcdpjnbaaVm.ops [.row xs]) (.own 70 xs) := by
  refine Ct.of_V Try.func71 rfl (by simp [YtjhjnphcdpjnbaaVm.ops, Try.f71]) ?_
  refine V.exec 400 ?_
  simp (config := {contextual := true}) only [go_sem, ↓reduceIte, reduceCtorEq, Bool.false_eq_true, Bool.true_eq_false, Nat.reduceAdd, Nat.reduceLT, Nat.reduceEqDiff, Nat.reduceLeDiff, Nat.reduceSub, Nat.reduceMul, Try.f71]
  refine V.nilq (xs := xs) rfl rfl (.inl rfl) (by simp only [go_sem, ↓reduceIte, Nat.reduceEqDiff]) (by simp only [go_sem]; rfl) (by simp [dOK]) fun c hc => ?_
  refine V.exec 400 ?_
  simp (config := {contextual := true}) only [go_sem, ↓reduceIte, reduceCtorEq, Bool.false_eq_true, Bool.true_eq_false, Nat.reduceAdd, Nat.reduceLT, Nat.reduceEqDiff, Nat.reduceLeDiff, Nat.reduceSub, Nat.reduceMul]
  exact ⟨fun h => ⟨hc h, 6, rfl, by decide⟩, fun _ => ⟨h1, by omega, by omega⟩⟩

set_option maxHeartbeats 2000000 in
theorem IndexFuncChange (xs : List PV) (g : FuncId) (caps : List PV) (p : PV → Bool) (h1 : ∀ x ∈ xs, x.cells.length = 6 ∧ x.isAgg = true) (hl : xs.length ≤ 1000000) (hg : Entered Try.prog g)
    (hp : ∀ x ∈ xs, Ct Try.prog g (YtjhjnphcdpjnbaaVm.ops ([x] ++ caps)) (.vals [.bool (decide (p x = true))])) (r : Nat) (hr : r ≤ xs.length) (hr1 : ∀ x ∈ xs.take r, p x = false) (hr2 : ∀ x, xs[r]? = some x → p x = true) :
    Ct Try.prog 92 (YtjhjnphcdpjnbaaVm.ops [.row xs, .fn g caps]) (.vals [.int .i64 (if r < xs.length then (r : Int) else -1)]) := by
  refine Ct.of_V Try.func92 rfl (by simp [YtjhjnphcdpjnbaaVm.ops, Try.f92]) ?_
  refine V.exec 400 ?_
  simp (config := {contextual := true}) only [go_sem, ↓reduceIte, reduceCtorEq, Bool.false_eq_true, Bool.true_eq_false, Nat.reduceAdd, Nat.reduceLT, Nat.reduceEqDiff, Nat.reduceLeDiff, Nat.reduceSub, Nat.reduceMul, Try.f92]
  refine V.loop (fun m ls os => ∃ i : Nat, i ≤ r ∧ m = xs.length - i ∧
        ls = [(0, .val (.row xs)), (1, .val (.fn g caps)), (7, .val (.int .i64 xs.length)), (8, .val (.int .i64 i))] ∧ os = []) 0 xs.length [(0, .val (.row xs)), (1, .val (.fn g caps)), (7, .val (.int .i64 xs.length)), (8, .val (.int .i64 0))] [] []
      ⟨0, Nat.zero_le _, rfl, rfl, rfl⟩ (by simp only [go_sem, ↓reduceIte, reduceCtorEq, Bool.false_eq_true, Bool.true_eq_false, Nat.reduceAdd, Nat.reduceLT, Nat.reduceEqDiff, Nat.reduceLeDiff, Nat.reduceSub, Nat.reduceMul]) ?_
  rintro m ls os ⟨i, hi, rfl, rfl, rfl⟩
  refine V.exec 400 ?_
  by_cases hlt : i < xs.length
  · have hlt' : (i : Int) < (xs.length : Int) := by omega
    obtain ⟨x, hx⟩ : ∃ x, xs[i]? = some x := ⟨_, List.getElem?_eq_getElem hlt⟩
    have hxm : x ∈ xs := List.mem_of_getElem? hx
    obtain ⟨hxc, hxa⟩ := h1 x hxm
    have hw : IntKind.i64.wrap ((i : Int) + 1) = ((i + 1 : Nat) : Int) := by rw [wrap_small] <;> omega
    simp (config := {contextual := true}) only [go_sem, ↓reduceIte, reduceCtorEq, Bool.false_eq_true, Bool.true_eq_false, Nat.reduceAdd, Nat.reduceLT, Nat.reduceEqDiff, Nat.reduceLeDiff, Nat.reduceSub, Nat.reduceMul, hlt', hx, hxc, hxa]
    refine V.call rfl rfl (by simp [dOK]) ⟨g, caps, by simp only [go_sem, ↓reduceIte, reduceCtorEq, Bool.false_eq_true, Bool.true_eq_false, Nat.reduceAdd, Nat.reduceLT, Nat.reduceEqDiff, Nat.reduceLeDiff, Nat.reduceSub, Nat.reduceMul], hg, .inl ⟨[x], _, .inl (by simp only [go_sem, ↓reduceIte, reduceCtorEq, Bool.false_eq_true, Bool.true_eq_false, Nat.reduceAdd, Nat.reduceLT, Nat.reduceEqDiff, Nat.reduceLeDiff, Nat.reduceSub, Nat.reduceMul]), hp x hxm, .inl ⟨_, rfl, rfl, rfl, rfl⟩⟩⟩ ?_
    refine V.exec 400 ?_
    simp (config := {contextual := true}) only [go_sem, ↓reduceIte, reduceCtorEq, Bool.false_eq_true, Bool.true_eq_false, Nat.reduceAdd, Nat.reduceLT, Nat.reduceEqDiff, Nat.reduceLeDiff, Nat.reduceSub, Nat.reduceMul, hw]
    constructor
    · intro hpx
      have hir : i = r := by
        rcases Nat.lt_or_ge i r with h | h
        · have := hr1 x (List.mem_of_getElem? (i := i) (by rw [List.getElem?_take_of_lt h]; exact hx))
          rw [this] at hpx; cases hpx
        · omega
      subst hir
      rw [if_pos hlt]
    · intro hpx
      have hir : i < r := by
        rcases Nat.lt_or_ge i r with h | h
        · exact h
        · have : i = r := by omega
          subst this
          exact absurd (hr2 x hx) hpx
      exact ⟨xs.length - (i + 1), _, [], [], by omega, ⟨i + 1, by omega, rfl, rfl, rfl⟩, by simp only [go_sem, ↓reduceIte, reduceCtorEq, Bool.false_eq_true, Bool.true_eq_false, Nat.reduceAdd, Nat.reduceLT, Nat.reduceEqDiff, Nat.reduceLeDiff, Nat.reduceSub, Nat.reduceMul]⟩
  · have hlt' : ¬ (i : Int) < (xs.length : Int) := by omega
    simp (config := {contextual := true}) only [go_sem, ↓reduceIte, reduceCtorEq, Bool.false_eq_true, Bool.true_eq_false, Nat.reduceAdd, Nat.reduceLT, Nat.reduceEqDiff, Nat.reduceLeDiff, Nat.reduceSub, Nat.reduceMul, hlt']
    rw [if_neg (by omega)]

set_option maxHeartbeats 4000000 in
theorem DeleteFuncChange (xs : List PV) (g : FuncId) (caps : List PV) (p : PV → Bool) (h1 : ∀ x ∈ xs, x.cells.length = 6 ∧ x.isAgg = true ∧ ∀ c ∈ x.cells, c.isAgg = false) (hl : xs.length ≤ 1000000) (hg : Entered Try.prog g)
    (hp : ∀ x ∈ xs, Ct Try.prog g (YtjhjnphcdpjnbaaVm.ops ([x] ++ caps)) (.vals [.bool (decide (p x = true))])) (hz : (zeroPV Try.prog 70 6).isSome = true) :
    Ct Try.prog 70 (.o 70 xs :: YtjhjnphcdpjnbaaVm.ops [.fn g caps]) (.own 70 (xs.filter fun x => !p x)) := by
  -- the first that goes
  obtain ⟨r, hr, hr1, hr2⟩ : ∃ r, r ≤ xs.length ∧ (∀ x ∈ xs.take r, p x = false) ∧ ∀ x, xs[r]? = some x → p x = true := by
    clear h1 hl hp
    induction xs with
    | nil => exact ⟨0, by simp, by simp, by simp⟩
    | cons x xs ih =>
      by_cases hx : p x = true
      · exact ⟨0, by simp, by simp, by simp [hx]⟩
      · obtain ⟨r, h1, h2, h3⟩ := ih
        refine ⟨r + 1, by simpa using h1, ?_, by simpa using h3⟩
        intro y hy
        simp only [List.take_succ_cons, List.mem_cons] at hy
        rcases hy with rfl | hy
        · simpa using hx
        · exact h2 y hy
  refine Ct.of_V Try.func70 rfl (by simp [YtjhjnphcdpjnbaaVm.ops, Try.f70]) ?_
  refine V.exec 400 ?_
  simp (config := {contextual := true}) only [go_sem, ↓reduceIte, reduceCtorEq, Bool.false_eq_true, Bool.true_eq_false, Nat.reduceAdd, Nat.reduceLT, Nat.reduceEqDiff, Nat.reduceLeDiff, Nat.reduceSub, Nat.reduceMul, Try.f70]
  refine V.call rfl rfl (by simp [dOK]) ⟨92, [], by simp only [go_sem, ↓reduceIte, reduceCtorEq, Bool.false_eq_true, Bool.true_eq_false, Nat.reduceAdd, Nat.reduceLT, Nat.reduceEqDiff, Nat.reduceLeDiff, Nat.reduceSub, Nat.reduceMul], ⟨_, rfl, rfl, rfl⟩, .inl ⟨[.row xs, .fn g caps], _, .inl (by simp only [go_sem, ↓reduceIte, reduceCtorEq, Bool.false_eq_true, Bool.true_eq_false, Nat.reduceAdd, Nat.reduceLT, Nat.reduceEqDiff, Nat.reduceLeDiff, Nat.reduceSub, Nat.reduceMul]), IndexFuncChange xs g caps p (fun x hx => ⟨(h1 x hx).1, (h1 x hx).2.1⟩) hl hg hp r hr hr1 hr2, .inl ⟨_, rfl, rfl, rfl, rfl⟩⟩⟩ ?_
  refine V.exec 400 ?_
  simp (config := {contextual := true}) only [go_sem, ↓reduceIte, reduceCtorEq, Bool.false_eq_true, Bool.true_eq_false, Nat.reduceAdd, Nat.reduceLT, Nat.reduceEqDiff, Nat.reduceLeDiff, Nat.reduceSub, Nat.reduceMul]
  constructor
  · intro h
    have hrl : ¬ r < xs.length := by intro h'; rw [if_pos h'] at h; omega
    have : xs.filter (fun x => !p x) = xs := by
      rw [List.filter_eq_self]
      intro x hx
      have := hr1 x (by rw [List.take_of_length_le (by omega)]; exact hx)
      simp [this]
    rw [this]
  · intro h
    have hrl : r < xs.length := by
      rcases Nat.lt_or_ge r xs.length with h' | h'
      · exact h'
      · rw [if_neg (by omega)] at h; exact absurd rfl h
    simp only [if_pos hrl]
    have hw0 : IntKind.i64.wrap ((r : Int) + 1) = ((r + 1 : Nat) : Int) := by rw [wrap_small] <;> omega
    simp only [hw0]
    refine V.loop (fun m ls os => ∃ (i j : Nat) (ys : List PV), i < j ∧ j ≤ xs.length ∧ m = xs.length - j ∧ ys.length = xs.length ∧ ys.take i = (xs.take j).filter (fun x => !p x) ∧ ys.drop j = xs.drop j ∧ (∀ y ∈ ys, y ∈ xs) ∧
        ls = [(0, .ref 0), (1, .val (.fn g caps)), (5, .val (.int .i64 i)), (6, .val (.int .i64 j))] ∧ os = [.row 70 ys]) 1 (xs.length - (r + 1)) [(0, .ref 0), (1, .val (.fn g caps)), (5, .val (.int .i64 r)), (6, .val (.int .i64 (r + 1 : Nat)))] [.row 70 xs] [some 0]
      ⟨r, r + 1, xs, by omega, by omega, rfl, rfl, ?_, rfl, fun y hy => hy, rfl, rfl⟩ (by simp only [go_sem, ↓reduceIte, reduceCtorEq, Bool.false_eq_true, Bool.true_eq_false, Nat.reduceAdd, Nat.reduceLT, Nat.reduceEqDiff, Nat.reduceLeDiff, Nat.reduceSub, Nat.reduceMul]) ?_
    · obtain ⟨x, hx⟩ : ∃ x, xs[r]? = some x := ⟨_, List.getElem?_eq_getElem hrl⟩
      rw [List.take_add_one, hx, List.filter_append]
      have e1 : (xs.take r).filter (fun x => !p x) = xs.take r := by
        rw [List.filter_eq_self]; intro y hy; simp [hr1 y hy]
      rw [e1]
      simp [hr2 x hx]
    · rintro m ls os ⟨i, j, ys, hij, hj, rfl, hyl, hyt, hyd, hym, rfl, rfl⟩
      by_cases hlt : j < xs.length
      · have hlt' : (j : Int) < (ys.length : Int) := by omega
        refine V.exec 400 ?_
        obtain ⟨x, hx⟩ : ∃ x, ys[j]? = some x := ⟨_, List.getElem?_eq_getElem (by omega)⟩
        obtain ⟨z, hz'⟩ : ∃ z, ys[i]? = some z := ⟨_, List.getElem?_eq_getElem (by omega)⟩
        have hxm : x ∈ xs := hym x (List.mem_of_getElem? hx)
        have hzm : z ∈ xs := hym z (List.mem_of_getElem? hz')
        obtain ⟨hzc, hza, _⟩ := h1 z hzm
        obtain ⟨hxc, hxa, hxn⟩ := h1 x hxm
        have hpx := hp x hxm
        obtain ⟨c0, c1, c2, c3, c4, c5, rfl⟩ : ∃ c0 c1 c2 c3 c4 c5, x = .agg [c0, c1, c2, c3, c4, c5] := by
          cases x with
          | agg cs =>
            match cs, hxc with
            | [c0, c1, c2, c3, c4, c5], _ => exact ⟨c0, c1, c2, c3, c4, c5, rfl⟩
          | _ => cases hxa
        have n0 : c0.isAgg = false := hxn c0 (by simp [PV.cells])
        have n1 : c1.isAgg = false := hxn c1 (by simp [PV.cells])
        have n2 : c2.isAgg = false := hxn c2 (by simp [PV.cells])
        have n3 : c3.isAgg = false := hxn c3 (by simp [PV.cells])
        have n4 : c4.isAgg = false := hxn c4 (by simp [PV.cells])
        have n5 : c5.isAgg = false := hxn c5 (by simp [PV.cells])
        have hwi : IntKind.i64.wrap ((i : Int) + 1) = ((i + 1 : Nat) : Int) := by rw [wrap_small] <;> omega
        have hwj : IntKind.i64.wrap ((j : Int) + 1) = ((j + 1 : Nat) : Int) := by rw [wrap_small] <;> omega
        simp (config := {contextual := true}) only [go_sem, ↓reduceIte, reduceCtorEq, Bool.false_eq_true, Bool.true_eq_false, Nat.reduceAdd, Nat.reduceLT, Nat.reduceEqDiff, Nat.reduceLeDiff, Nat.reduceSub, Nat.reduceMul, hlt', hx, n0, n1, n2, n3, n4, n5]
        refine V.call rfl rfl (by simp [dOK]) ⟨g, caps, by simp only [go_sem, ↓reduceIte, reduceCtorEq, Bool.false_eq_true, Bool.true_eq_false, Nat.reduceAdd, Nat.reduceLT, Nat.reduceEqDiff, Nat.reduceLeDiff, Nat.reduceSub, Nat.reduceMul], hg, .inl ⟨[_], _, .inl (by simp only [go_sem, ↓reduceIte, reduceCtorEq, Bool.false_eq_true, Bool.true_eq_false, Nat.reduceAdd, Nat.reduceLT, Nat.reduceEqDiff, Nat.reduceLeDiff, Nat.reduceSub, Nat.reduceMul]), hpx, .inl ⟨_, rfl, rfl, rfl, rfl⟩⟩⟩ ?_
        refine V.exec 400 ?_
        simp (config := {contextual := true}) only [go_sem, ↓reduceIte, reduceCtorEq, Bool.false_eq_true, Bool.true_eq_false, Nat.reduceAdd, Nat.reduceLT, Nat.reduceEqDiff, Nat.reduceLeDiff, Nat.reduceSub, Nat.reduceMul, hwi, hwj, hz', hzc, n0, n1, n2, n3, n4, n5]
        have hxj : xs[j]? = some (.agg [c0, c1, c2, c3, c4, c5]) := by
          have e1 : (ys.drop j)[0]? = (xs.drop j)[0]? := by rw [hyd]
          simp only [List.getElem?_drop, Nat.add_zero] at e1
          rw [← e1]; exact hx
        have hdrop : ys.drop (j + 1) = xs.drop (j + 1) := by rw [← List.drop_drop, ← List.drop_drop, hyd]
        have htk : xs.take (j + 1) = xs.take j ++ [.agg [c0, c1, c2, c3, c4, c5]] := by rw [List.take_add_one, hxj]; rfl
        constructor
        · intro hpx
          refine ⟨xs.length - (j + 1), _, _, [some 0], by omega, ⟨i + 1, j + 1, ys.set i (.agg [c0, c1, c2, c3, c4, c5]), by omega, by omega, rfl, by simpa using hyl, ?_, ?_, ?_, rfl, rfl⟩, ?_⟩
          · rw [htk, List.filter_append, ← hyt, List.take_add_one, List.getElem?_set_self (by omega), List.take_set_of_le (Nat.le_refl _)]
            simp [hpx]
          · rw [List.drop_set_of_lt (by omega)]; exact hdrop
          · intro y hy
            rcases List.mem_or_eq_of_mem_set hy with hy | hy
            · exact hym y hy
            · rw [hy]; exact hxm
          · simp only [go_sem, ↓reduceIte, reduceCtorEq, Bool.false_eq_true, Bool.true_eq_false, Nat.reduceAdd, Nat.reduceLT, Nat.reduceEqDiff, Nat.reduceLeDiff, Nat.reduceSub, Nat.reduceMul]
        · intro hpx
          refine ⟨xs.length - (j + 1), _, _, [some 0], by omega, ⟨i, j + 1, ys, by omega, by omega, rfl, hyl, ?_, hdrop, hym, rfl, rfl⟩, ?_⟩
          · rw [htk, List.filter_append, hyt]
            simp [hpx]
          · simp only [go_sem, ↓reduceIte, reduceCtorEq, Bool.false_eq_true, Bool.true_eq_false, Nat.reduceAdd, Nat.reduceLT, Nat.reduceEqDiff, Nat.reduceLeDiff, Nat.reduceSub, Nat.reduceMul]
      · have hlt' : ¬ (j : Int) < (ys.length : Int) := by omega
        refine V.execS [11] 400 ?_
        simp (config := {contextual := true}) only [go_sem, ↓reduceIte, reduceCtorEq, Bool.false_eq_true, Bool.true_eq_false, Nat.reduceAdd, Nat.reduceLT, Nat.reduceEqDiff, Nat.reduceLeDiff, Nat.reduceSub, Nat.reduceMul, hlt']
        refine V.opn 0 6 70 ys (by simp only [go_sem, ↓reduceIte, reduceCtorEq, Bool.false_eq_true, Bool.true_eq_false, Nat.reduceAdd, Nat.reduceLT, Nat.reduceEqDiff, Nat.reduceLeDiff, Nat.reduceSub, Nat.reduceMul]) (by simp only [go_sem, ↓reduceIte, reduceCtorEq, Bool.false_eq_true, Bool.true_eq_false, Nat.reduceAdd, Nat.reduceLT, Nat.reduceEqDiff, Nat.reduceLeDiff, Nat.reduceSub, Nat.reduceMul]) fun q => ?_
        refine V.exec 400 ?_
        simp (config := {contextual := true}) only [go_sem, ↓reduceIte, reduceCtorEq, Bool.false_eq_true, Bool.true_eq_false, Nat.reduceAdd, Nat.reduceLT, Nat.reduceEqDiff, Nat.reduceLeDiff, Nat.reduceSub, Nat.reduceMul]
        have hi : i ≤ ys.length := by omega
        have hjx : j = xs.length := by omega
        rw [show 0 + i = i from Nat.zero_add i, over_length hi, List.length_replicate]
        refine ⟨⟨hi, by omega⟩, ⟨hi, by omega⟩, ⟨by omega, by omega⟩, by omega, ?_⟩
        rw [hjx, List.take_length] at hyt
        rw [Nat.sub_zero, over, List.append_assoc, List.take_append_of_le_length (by simp [Nat.min_eq_left hi]), List.take_take, Nat.min_self, hyt]
end Go.Proofs.Ytjhjnphcdpjnbaa
set_option linter.unusedVariables false
set_option linter.unusedSimpArgs false
set_option maxRecDepth 8000
namespace Go.Proofs.Ytjhjnphcdpjnbaa
open Go Go.Proofs Go.Proofs.YtjhjnphcdpjnbaaVm Go.Proofs.Ytjhjnphcdpjnbaa.Ty

structure Range where
  lo : List UInt8
  hi : List UInt8
  op : Bool
  deriving DecidableEq
def Range.pv (r : Range) : PV := .agg [.str r.lo, .str r.hi, .bool (decide (r.op = true))]
def Range.ok (r : Range) : Prop := r.lo.length ≤ 16 ∧ r.hi.length ≤ 17 ∧ (r.op = true → r.hi = [])
instance Range.instOk (r : Range) : Decidable r.ok := by unfold Range.ok; infer_instance

structure Sub where
  id : Int
  r : Range
  live : Bool
  next : List UInt8
  cur : Int
  deriving DecidableEq
def Sub.pv (s : Sub) : PV := .agg [.int .i64 s.id, .str s.r.lo, .str s.r.hi, .bool (decide (s.r.op = true)), .bool (decide (s.live = true)), .str s.next, .int .i64 s.cur]
def Sub.ok (s : Sub) : Prop := s.r.ok ∧ s.next.length ≤ 17 ∧ (s.live = true → s.next = []) ∧ 0 ≤ s.cur ∧ s.cur ≤ 2147483647
instance Sub.instOk (s : Sub) : Decidable s.ok := by unfold Sub.ok; infer_instance

theorem stretch_Right (r : Range) : Ct Try.prog 30 (YtjhjnphcdpjnbaaVm.ops [r.pv]) (.vals [.bool (decide r.ok)]) := by
  refine Ct.of_V Try.func30 rfl (by simp [YtjhjnphcdpjnbaaVm.ops, Try.f30]) ?_
  refine V.exec 400 ?_
  simp (config := {contextual := true}) only [go_sem, ↓reduceIte, reduceCtorEq, Bool.false_eq_true, Bool.true_eq_false, Nat.reduceAdd, Nat.reduceLT, Nat.reduceEqDiff, Nat.reduceLeDiff, Nat.reduceSub, Nat.reduceMul, Range.pv, Try.f30]
  have e1 : ((r.lo.length : Int) ≤ 16) = (r.lo.length ≤ 16) := by apply propext; omega
  have e2 : ((r.hi.length : Int) ≤ 17) = (r.hi.length ≤ 17) := by apply propext; omega
  simp only [e1, e2, Option.some.injEq, List.cons.injEq, PV.bool.injEq, and_true]
  grind [Range.ok]

set_option maxHeartbeats 2000000 in
theorem feed_Right (s : Sub) : Ct Try.prog 16 (YtjhjnphcdpjnbaaVm.ops [s.pv]) (.vals [.bool (decide s.ok)]) := by
  refine Ct.of_V Try.func16 rfl (by simp [YtjhjnphcdpjnbaaVm.ops, Try.f16]) ?_
  refine V.exec 400 ?_
  simp (config := {contextual := true}) only [go_sem, ↓reduceIte, reduceCtorEq, Bool.false_eq_true, Bool.true_eq_false, Nat.reduceAdd, Nat.reduceLT, Nat.reduceEqDiff, Nat.reduceLeDiff, Nat.reduceSub, Nat.reduceMul, Sub.pv, Try.f16]
  refine V.call rfl rfl (by simp [dOK]) ⟨30, [], by simp only [go_sem, ↓reduceIte, reduceCtorEq, Bool.false_eq_true, Bool.true_eq_false, Nat.reduceAdd, Nat.reduceLT, Nat.reduceEqDiff, Nat.reduceLeDiff, Nat.reduceSub, Nat.reduceMul], ⟨_, rfl, rfl, rfl⟩, .inl ⟨[s.r.pv], _, .inl (by simp only [go_sem, ↓reduceIte, reduceCtorEq, Bool.false_eq_true, Bool.true_eq_false, Nat.reduceAdd, Nat.reduceLT, Nat.reduceEqDiff, Nat.reduceLeDiff, Nat.reduceSub, Nat.reduceMul, Range.pv]), stretch_Right s.r, .inl ⟨_, rfl, rfl, rfl, rfl⟩⟩⟩ ?_
  refine V.exec 400 ?_
  simp (config := {contextual := true}) only [go_sem, ↓reduceIte, reduceCtorEq, Bool.false_eq_true, Bool.true_eq_false, Nat.reduceAdd, Nat.reduceLT, Nat.reduceEqDiff, Nat.reduceLeDiff, Nat.reduceSub, Nat.reduceMul]
  have e1 : ((s.next.length : Int) ≤ 17) = (s.next.length ≤ 17) := by apply propext; omega
  simp only [e1, Option.some.injEq, List.cons.injEq, PV.bool.injEq, and_true]
  grind [Sub.ok]
end Go.Proofs.Ytjhjnphcdpjnbaa
set_option linter.unusedVariables false
set_option linter.unusedSimpArgs false
set_option maxRecDepth 8000
namespace Go.Proofs.Ytjhjnphcdpjnbaa
open Go Go.Proofs Go.Proofs.YtjhjnphcdpjnbaaVm Go.Proofs.Ytjhjnphcdpjnbaa.Ty

def rightFrom (last : Int) : List Sub → Prop
  | [] => True
  | s :: r => s.ok ∧ last < s.id ∧ rightFrom s.id r
def subsOk (l : List Sub) : Prop := rightFrom 0 l ∧ l.length ≤ 4
instance instRF : ∀ (last : Int) (l : List Sub), Decidable (rightFrom last l)
  | _, [] => isTrue trivial
  | last, s :: r => by
    unfold rightFrom
    have := instRF s.id r
    infer_instance
instance instSubsOk (l : List Sub) : Decidable (subsOk l) := by unfold subsOk; infer_instance

/-- The floor. -/
def floorOf (head : Int) : List Sub → Int
  | [] => head
  | s :: r => floorOf (min head s.cur) r

end Go.Proofs.Ytjhjnphcdpjnbaa
set_option linter.unusedVariables false
set_option linter.unusedSimpArgs false
set_option maxRecDepth 8000
namespace Go.Proofs.Ytjhjnphcdpjnbaa
open Go Go.Proofs Go.Proofs.YtjhjnphcdpjnbaaVm Go.Proofs.Ytjhjnphcdpjnbaa.Ty

def Change.of : PV → Change
  | .agg [.int _ s, .str k, .bool h, .str b, .bool h', .str a] => ⟨s, k, h, b, h', a⟩
  | _ => ⟨0, [], false, [], false, []⟩
theorem Change.of_pv (c : Change) : Change.of c.pv = c := by simp [Change.of, Change.pv]
theorem Change.filter_pv (l : List Change) (p : Change → Bool) : (l.map Change.pv).filter (fun x => !p (Change.of x)) = (l.filter fun c => !p c).map Change.pv := by
  induction l with
  | nil => rfl
  | cons s r ih =>
    simp only [List.map_cons, List.filter_cons, Change.of_pv, ih]
    split <;> rfl

def withoutV (l : List Change) (p : Change → Bool) : List Change := if trailOk l then l.filter (fun c => !p c) else []

set_option maxHeartbeats 4000000 in
theorem trail_without (l : List Change) (g : FuncId) (caps : List PV) (p : Change → Bool) (hl : l.length ≤ 1000000) (hg : Entered Try.prog g)
    (hp : ∀ x ∈ l, Ct Try.prog g (YtjhjnphcdpjnbaaVm.ops ([x.pv] ++ caps)) (.vals [.bool (decide (p x = true))])) :
    Ct Try.prog 41 (YtjhjnphcdpjnbaaVm.ops [.row (l.map Change.pv), .fn g caps]) (.vals [.row ((withoutV l p).map Change.pv)]) := by
  refine Ct.of_V Try.func41 rfl (by simp [YtjhjnphcdpjnbaaVm.ops, Try.f41]) ?_
  refine V.exec 400 ?_
  simp (config := {contextual := true}) only [go_sem, ↓reduceIte, reduceCtorEq, Bool.false_eq_true, Bool.true_eq_false, Nat.reduceAdd, Nat.reduceLT, Nat.reduceEqDiff, Nat.reduceLeDiff, Nat.reduceSub, Nat.reduceMul, Try.f41]
  refine V.call rfl rfl (by simp [dOK]) ⟨65, [], by simp only [go_sem, ↓reduceIte, reduceCtorEq, Bool.false_eq_true, Bool.true_eq_false, Nat.reduceAdd, Nat.reduceLT, Nat.reduceEqDiff, Nat.reduceLeDiff, Nat.reduceSub, Nat.reduceMul], ⟨_, rfl, rfl, rfl⟩, .inl ⟨[.row (l.map Change.pv)], _, .inl (by simp only [go_sem, ↓reduceIte, reduceCtorEq, Bool.false_eq_true, Bool.true_eq_false, Nat.reduceAdd, Nat.reduceLT, Nat.reduceEqDiff, Nat.reduceLeDiff, Nat.reduceSub, Nat.reduceMul]), trail_Right l hl, .inl ⟨_, rfl, rfl, rfl, rfl⟩⟩⟩ ?_
  refine V.exec 400 ?_
  by_cases hok : trailOk l
  · have hv : withoutV l p = l.filter (fun c => !p c) := by simp [withoutV, hok]
    simp (config := {contextual := true}) only [go_sem, ↓reduceIte, reduceCtorEq, Bool.false_eq_true, Bool.true_eq_false, Nat.reduceAdd, Nat.reduceLT, Nat.reduceEqDiff, Nat.reduceLeDiff, Nat.reduceSub, Nat.reduceMul, hok, hv]
    have h7 : ∀ x ∈ l.map Change.pv, x.cells.length = 6 ∧ x.isAgg = true ∧ ∀ c ∈ x.cells, c.isAgg = false := fun x hx => by
      obtain ⟨s, _, rfl⟩ := List.mem_map.1 hx
      exact ⟨rfl, rfl, by simp [Change.pv, PV.cells, PV.isAgg]⟩
    have hdel := DeleteFuncChange (l.map Change.pv) g caps (fun x => p (Change.of x)) h7 (by simpa using hl) hg (fun x hx => by
      obtain ⟨s, hs, rfl⟩ := List.mem_map.1 hx
      rw [Change.of_pv]
      exact hp s hs) (by simp only [go_sem, ↓reduceIte, reduceCtorEq, Bool.false_eq_true, Bool.true_eq_false, Nat.reduceAdd, Nat.reduceLT, Nat.reduceEqDiff, Nat.reduceLeDiff, Nat.reduceSub, Nat.reduceMul])
    rw [Change.filter_pv] at hdel
    refine V.call rfl rfl (by simp [dOK]) ⟨71, [], by simp only [go_sem, ↓reduceIte, reduceCtorEq, Bool.false_eq_true, Bool.true_eq_false, Nat.reduceAdd, Nat.reduceLT, Nat.reduceEqDiff, Nat.reduceLeDiff, Nat.reduceSub, Nat.reduceMul], ⟨_, rfl, rfl, rfl⟩, .inl ⟨[.row (l.map Change.pv)], _, .inl (by simp only [go_sem, ↓reduceIte, reduceCtorEq, Bool.false_eq_true, Bool.true_eq_false, Nat.reduceAdd, Nat.reduceLT, Nat.reduceEqDiff, Nat.reduceLeDiff, Nat.reduceSub, Nat.reduceMul]), CloneChange (l.map Change.pv) (fun x hx => (h7 x hx).1) (by simpa using hl), .inr (.inr ⟨70, (l.map Change.pv)   , rfl, by simp only [go_sem, ↓reduceIte, reduceCtorEq, Bool.false_eq_true, Bool.true_eq_false, Nat.reduceAdd, Nat.reduceLT, Nat.reduceEqDiff, Nat.reduceLeDiff, Nat.reduceSub, Nat.reduceMul], rfl, rfl⟩)⟩⟩ ?_
    refine V.exec 400 ?_
    simp (config := {contextual := true}) only [go_sem, ↓reduceIte, reduceCtorEq, Bool.false_eq_true, Bool.true_eq_false, Nat.reduceAdd, Nat.reduceLT, Nat.reduceEqDiff, Nat.reduceLeDiff, Nat.reduceSub, Nat.reduceMul]
    refine V.call rfl rfl (by simp [dOK]) ⟨70, [], by simp only [go_sem, ↓reduceIte, reduceCtorEq, Bool.false_eq_true, Bool.true_eq_false, Nat.reduceAdd, Nat.reduceLT, Nat.reduceEqDiff, Nat.reduceLeDiff, Nat.reduceSub, Nat.reduceMul], ⟨_, rfl, rfl, rfl⟩, .inr ⟨7, 70, l.map Change.pv, [.val (.fn g caps)], [.fn g caps], 70, _, by simp only [go_sem, ↓reduceIte, reduceCtorEq, Bool.false_eq_true, Bool.true_eq_false, Nat.reduceAdd, Nat.reduceLT, Nat.reduceEqDiff, Nat.reduceLeDiff, Nat.reduceSub, Nat.reduceMul], by simp only [go_sem, ↓reduceIte, reduceCtorEq, Bool.false_eq_true, Bool.true_eq_false, Nat.reduceAdd, Nat.reduceLT, Nat.reduceEqDiff, Nat.reduceLeDiff, Nat.reduceSub, Nat.reduceMul], .inl (by simp only [go_sem, ↓reduceIte, reduceCtorEq, Bool.false_eq_true, Bool.true_eq_false, Nat.reduceAdd, Nat.reduceLT, Nat.reduceEqDiff, Nat.reduceLeDiff, Nat.reduceSub, Nat.reduceMul]), hdel, by simp only [go_sem, ↓reduceIte, reduceCtorEq, Bool.false_eq_true, Bool.true_eq_false, Nat.reduceAdd, Nat.reduceLT, Nat.reduceEqDiff, Nat.reduceLeDiff, Nat.reduceSub, Nat.reduceMul], rfl, rfl⟩⟩ ?_
    refine V.exec 400 ?_
    simp (config := {contextual := true}) only [go_sem, ↓reduceIte, reduceCtorEq, Bool.false_eq_true, Bool.true_eq_false, Nat.reduceAdd, Nat.reduceLT, Nat.reduceEqDiff, Nat.reduceLeDiff, Nat.reduceSub, Nat.reduceMul]
  · have hv : withoutV l p = [] := by simp [withoutV, hok]
    simp (config := {contextual := true}) only [go_sem, ↓reduceIte, reduceCtorEq, Bool.false_eq_true, Bool.true_eq_false, Nat.reduceAdd, Nat.reduceLT, Nat.reduceEqDiff, Nat.reduceLeDiff, Nat.reduceSub, Nat.reduceMul, hok, hv, List.map_nil]

theorem trail_Drop1 (c : Change) (n : Int) : Ct Try.prog 90 (YtjhjnphcdpjnbaaVm.ops [c.pv, .ptr (.int .i64 n)]) (.vals [.bool (decide (c.seq ≤ n))]) := by
  refine Ct.of_V Try.func90 rfl (by simp [YtjhjnphcdpjnbaaVm.ops, Try.f90]) ?_
  refine V.exec 400 ?_
  simp (config := {contextual := true}) only [go_sem, ↓reduceIte, reduceCtorEq, Bool.false_eq_true, Bool.true_eq_false, Nat.reduceAdd, Nat.reduceLT, Nat.reduceEqDiff, Nat.reduceLeDiff, Nat.reduceSub, Nat.reduceMul, Try.f90, Change.pv]

def dropV (l : List Change) (n : Int) : List Change := withoutV l (fun c => decide (c.seq ≤ n))
theorem trail_Drop (l : List Change) (n : Int) (hl : l.length ≤ 1000000) : Ct Try.prog 67 (YtjhjnphcdpjnbaaVm.ops [.row (l.map Change.pv), .int .i64 n]) (.vals [.row ((dropV l n).map Change.pv)]) := by
  refine Ct.of_V Try.func67 rfl (by simp [YtjhjnphcdpjnbaaVm.ops, Try.f67]) ?_
  refine V.exec 400 ?_
  simp (config := {contextual := true}) only [go_sem, ↓reduceIte, reduceCtorEq, Bool.false_eq_true, Bool.true_eq_false, Nat.reduceAdd, Nat.reduceLT, Nat.reduceEqDiff, Nat.reduceLeDiff, Nat.reduceSub, Nat.reduceMul, Try.f67]
  refine V.call rfl rfl (by simp [dOK]) ⟨41, [], by simp only [go_sem, ↓reduceIte, reduceCtorEq, Bool.false_eq_true, Bool.true_eq_false, Nat.reduceAdd, Nat.reduceLT, Nat.reduceEqDiff, Nat.reduceLeDiff, Nat.reduceSub, Nat.reduceMul], ⟨_, rfl, rfl, rfl⟩, .inl ⟨[.row (l.map Change.pv), .fn 90 [.ptr (.int .i64 n)]], _, .inl (by simp only [go_sem, ↓reduceIte, reduceCtorEq, Bool.false_eq_true, Bool.true_eq_false, Nat.reduceAdd, Nat.reduceLT, Nat.reduceEqDiff, Nat.reduceLeDiff, Nat.reduceSub, Nat.reduceMul]), trail_without l 90 [.ptr (.int .i64 n)] (fun c => decide (c.seq ≤ n)) hl ⟨_, rfl, rfl, rfl⟩ (fun x _ => by simpa using trail_Drop1 x n), .inr (.inl ⟨_, rfl, rfl, rfl⟩)⟩⟩ ?_
  refine V.exec 400 ?_
  simp (config := {contextual := true}) only [go_sem, ↓reduceIte, reduceCtorEq, Bool.false_eq_true, Bool.true_eq_false, Nat.reduceAdd, Nat.reduceLT, Nat.reduceEqDiff, Nat.reduceLeDiff, Nat.reduceSub, Nat.reduceMul]
  rfl

end Go.Proofs.Ytjhjnphcdpjnbaa
set_option linter.unusedVariables false
set_option linter.unusedSimpArgs false
set_option maxRecDepth 8000
namespace Go.Proofs.Ytjhjnphcdpjnbaa
open Go Go.Proofs Go.Proofs.YtjhjnphcdpjnbaaVm Go.Proofs.Ytjhjnphcdpjnbaa.Ty

def Range.isIn (r : Range) (k : List UInt8) : Prop := ¬ slt k r.lo ∧ (r.op = true ∨ slt k r.hi)
instance Range.instIn (r : Range) (k : List UInt8) : Decidable (r.isIn k) := by unfold Range.isIn; infer_instance

theorem stretch_In (r : Range) (k : List UInt8) : Ct Try.prog 43 (YtjhjnphcdpjnbaaVm.ops [r.pv, .str k]) (.vals [.bool (decide (r.isIn k))]) := by
  refine Ct.of_V Try.func43 rfl (by simp [YtjhjnphcdpjnbaaVm.ops, Try.f43]) ?_
  refine V.exec 400 ?_
  simp (config := {contextual := true}) only [go_sem, ↓reduceIte, reduceCtorEq, Bool.false_eq_true, Bool.true_eq_false, Nat.reduceAdd, Nat.reduceLT, Nat.reduceEqDiff, Nat.reduceLeDiff, Nat.reduceSub, Nat.reduceMul, Try.f43, Range.pv]
  simp only [Option.some.injEq, List.cons.injEq, PV.bool.injEq, and_true]
  grind [Range.isIn]

def maxStr (a b : List UInt8) : List UInt8 := if slt a b then b else a
def minStr (a b : List UInt8) : List UInt8 := if slt a b ∨ a = b then a else b
def meetStep (o r : Range) : Range :=
  if r.op = true then { o with lo := maxStr o.lo r.lo } else if o.op = true then ⟨maxStr o.lo r.lo, r.hi, false⟩ else ⟨maxStr o.lo r.lo, minStr o.hi r.hi, o.op⟩
def meetV (l : List Range) : Range := l.foldl meetStep ⟨[], [], true⟩

set_option maxHeartbeats 4000000 in
theorem stretch_Meet (l : List Range) (hl : l.length ≤ 1000000) : Ct Try.prog 40 (YtjhjnphcdpjnbaaVm.ops [.row (l.map Range.pv)]) (.vals [(meetV l).pv]) := by
  refine Ct.of_V Try.func40 rfl (by simp [YtjhjnphcdpjnbaaVm.ops, Try.f40]) ?_
  refine V.exec 400 ?_
  simp (config := {contextual := true}) only [go_sem, ↓reduceIte, reduceCtorEq, Bool.false_eq_true, Bool.true_eq_false, Nat.reduceAdd, Nat.reduceLT, Nat.reduceEqDiff, Nat.reduceLeDiff, Nat.reduceSub, Nat.reduceMul, Try.f40]
  refine V.loop (fun m ls os => ∃ (i : Nat) (o : Range), i ≤ l.length ∧ m = l.length - i ∧ (l.drop i).foldl meetStep o = meetV l ∧
        ls = [(2, .adr 0 0), (3, .adr 1 0), (7, .val (.row (l.map Range.pv))), (8, .val (.int .i64 l.length)), (9, .val (.int .i64 i))] ∧
        os = [.box true [.val (.str []), .val (.str []), .val (.bool false)], .box true [.val (.str o.lo), .val (.str o.hi), .val (.bool (decide (o.op = true)))]]) 2 l.length
      [(2, .adr 0 0), (3, .adr 1 0), (7, .val (.row (l.map Range.pv))), (8, .val (.int .i64 l.length)), (9, .val (.int .i64 0))]
      [.box true [.val (.str []), .val (.str []), .val (.bool false)], .box true [.val (.str []), .val (.str []), .val (.bool (decide (true = true)))]] [some 1, some 3]
      ⟨0, ⟨[], [], true⟩, Nat.zero_le _, rfl, rfl, rfl, rfl⟩ (by simp only [go_sem, ↓reduceIte, reduceCtorEq, Bool.false_eq_true, Bool.true_eq_false, Nat.reduceAdd, Nat.reduceLT, Nat.reduceEqDiff, Nat.reduceLeDiff, Nat.reduceSub, Nat.reduceMul]; try decide) ?_
  rintro m ls os ⟨i, o, hi, rfl, hf, rfl, rfl⟩
  refine V.exec 400 ?_
  by_cases hlt : i < l.length
  · have hlt' : (i : Int) < (l.length : Int) := by omega
    obtain ⟨x, hx⟩ : ∃ x, l[i]? = some x := ⟨_, List.getElem?_eq_getElem hlt⟩
    have hw : IntKind.i64.wrap ((i : Int) + 1) = ((i + 1 : Nat) : Int) := by rw [wrap_small3] <;> omega
    rw [drop_of_get hx, List.foldl_cons] at hf
    simp (config := {contextual := true}) only [go_sem, ↓reduceIte, reduceCtorEq, Bool.false_eq_true, Bool.true_eq_false, Nat.reduceAdd, Nat.reduceLT, Nat.reduceEqDiff, Nat.reduceLeDiff, Nat.reduceSub, Nat.reduceMul, hlt', hx, Range.pv, hw]
    refine ⟨fun h1 => ?_, fun h1 => ⟨fun h2 => ?_, fun h2 => ?_⟩⟩
    all_goals refine ⟨l.length - (i + 1), _, _, [some 0, some 1], by omega, ⟨i + 1, meetStep o x, by omega, rfl, hf, rfl, rfl⟩, ?_⟩
    · have e : meetStep o x = ⟨maxStr o.lo x.lo, o.hi, o.op⟩ := by simp [meetStep, h1]
      simp only [go_sem, ↓reduceIte, reduceCtorEq, Bool.false_eq_true, Bool.true_eq_false, Nat.reduceAdd, Nat.reduceLT, Nat.reduceEqDiff, Nat.reduceLeDiff, Nat.reduceSub, Nat.reduceMul, e, maxStr, minStr]
      try decide
    · have e : meetStep o x = ⟨maxStr o.lo x.lo, x.hi, false⟩ := by simp [meetStep, h1, h2]
      simp only [go_sem, ↓reduceIte, reduceCtorEq, Bool.false_eq_true, Bool.true_eq_false, Nat.reduceAdd, Nat.reduceLT, Nat.reduceEqDiff, Nat.reduceLeDiff, Nat.reduceSub, Nat.reduceMul, e, maxStr, minStr]
      try decide
    · have e : meetStep o x = ⟨maxStr o.lo x.lo, minStr o.hi x.hi, o.op⟩ := by simp [meetStep, h1, h2]
      simp only [go_sem, ↓reduceIte, reduceCtorEq, Bool.false_eq_true, Bool.true_eq_false, Nat.reduceAdd, Nat.reduceLT, Nat.reduceEqDiff, Nat.reduceLeDiff, Nat.reduceSub, Nat.reduceMul, e, maxStr, minStr, h2]
      try decide
  · have hlt' : ¬ (i : Int) < (l.length : Int) := by omega
    have hd : l.drop i = [] := List.drop_eq_nil_of_le (by omega)
    rw [hd, List.foldl_nil] at hf
    simp (config := {contextual := true}) only [go_sem, ↓reduceIte, reduceCtorEq, Bool.false_eq_true, Bool.true_eq_false, Nat.reduceAdd, Nat.reduceLT, Nat.reduceEqDiff, Nat.reduceLeDiff, Nat.reduceSub, Nat.reduceMul, hlt', ← hf, Range.pv]
end Go.Proofs.Ytjhjnphcdpjnbaa
set_option linter.unusedVariables false
set_option linter.unusedSimpArgs false
set_option maxRecDepth 8000
namespace Go.Proofs.Ytjhjnphcdpjnbaa
open Go Go.Proofs Go.Proofs.YtjhjnphcdpjnbaaVm Go.Proofs.Ytjhjnphcdpjnbaa.Ty

set_option maxHeartbeats 4000000 in
theorem trail_Since1 (c : Change) (n : Int) (r : Range) : Ct Try.prog 42 (YtjhjnphcdpjnbaaVm.ops [c.pv, .ptr (.int .i64 n), .ptr r.pv]) (.vals [.bool (decide (c.seq ≤ n ∨ ¬ r.isIn c.key))]) := by
  refine Ct.of_V Try.func42 rfl (by simp [YtjhjnphcdpjnbaaVm.ops, Try.f42]) ?_
  refine V.exec 400 ?_
  simp (config := {contextual := true}) only [go_sem, ↓reduceIte, reduceCtorEq, Bool.false_eq_true, Bool.true_eq_false, Nat.reduceAdd, Nat.reduceLT, Nat.reduceEqDiff, Nat.reduceLeDiff, Nat.reduceSub, Nat.reduceMul, Try.f42, Change.pv, Range.pv]
  intro h
  refine V.call rfl rfl (by simp [dOK]) ⟨43, [], by simp only [go_sem, ↓reduceIte, reduceCtorEq, Bool.false_eq_true, Bool.true_eq_false, Nat.reduceAdd, Nat.reduceLT, Nat.reduceEqDiff, Nat.reduceLeDiff, Nat.reduceSub, Nat.reduceMul], ⟨_, rfl, rfl, rfl⟩, .inl ⟨[r.pv, .str c.key], _, .inl (by simp only [go_sem, ↓reduceIte, reduceCtorEq, Bool.false_eq_true, Bool.true_eq_false, Nat.reduceAdd, Nat.reduceLT, Nat.reduceEqDiff, Nat.reduceLeDiff, Nat.reduceSub, Nat.reduceMul, Range.pv]), stretch_In r c.key, .inl ⟨_, rfl, rfl, rfl, rfl⟩⟩⟩ ?_
  refine V.exec 400 ?_
  simp (config := {contextual := true}) only [go_sem, ↓reduceIte, reduceCtorEq, Bool.false_eq_true, Bool.true_eq_false, Nat.reduceAdd, Nat.reduceLT, Nat.reduceEqDiff, Nat.reduceLeDiff, Nat.reduceSub, Nat.reduceMul, h]

def cutAt (n most : Int) : Nat := (max 0 (min most n)).toNat
def sinceV (t : List Change) (n most : Int) (rs : List Range) : List Change :=
  let w := withoutV t (fun c => decide (c.seq ≤ n ∨ ¬ (meetV rs).isIn c.key))
  w.take (cutAt w.length most)

theorem withoutV_length (t : List Change) (p : Change → Bool) : (withoutV t p).length ≤ t.length := by
  unfold withoutV
  split
  · exact List.length_filter_le _ _
  · exact Nat.zero_le _

set_option maxHeartbeats 4000000 in
theorem trail_Since (t : List Change) (n most : Int) (rs : List Range) (ht : t.length ≤ 1000000) (hr : rs.length ≤ 1000000) :
    Ct Try.prog 27 (YtjhjnphcdpjnbaaVm.ops [.row (t.map Change.pv), .int .i64 n, .int .i64 most, .row (rs.map Range.pv)]) (.vals [.row ((sinceV t n most rs).map Change.pv)]) := by
  refine Ct.of_V Try.func27 rfl (by simp [YtjhjnphcdpjnbaaVm.ops, Try.f27]) ?_
  refine V.exec 400 ?_
  simp (config := {contextual := true}) only [go_sem, ↓reduceIte, reduceCtorEq, Bool.false_eq_true, Bool.true_eq_false, Nat.reduceAdd, Nat.reduceLT, Nat.reduceEqDiff, Nat.reduceLeDiff, Nat.reduceSub, Nat.reduceMul, Try.f27]
  refine V.call rfl rfl (by simp [dOK]) ⟨40, [], by simp only [go_sem, ↓reduceIte, reduceCtorEq, Bool.false_eq_true, Bool.true_eq_false, Nat.reduceAdd, Nat.reduceLT, Nat.reduceEqDiff, Nat.reduceLeDiff, Nat.reduceSub, Nat.reduceMul], ⟨_, rfl, rfl, rfl⟩, .inl ⟨[.row (rs.map Range.pv)], _, .inl (by simp only [go_sem, ↓reduceIte, reduceCtorEq, Bool.false_eq_true, Bool.true_eq_false, Nat.reduceAdd, Nat.reduceLT, Nat.reduceEqDiff, Nat.reduceLeDiff, Nat.reduceSub, Nat.reduceMul]), stretch_Meet rs hr, .inr (.inl ⟨_, rfl, rfl, rfl⟩)⟩⟩ ?_
  refine V.exec 400 ?_
  simp (config := {contextual := true}) only [go_sem, ↓reduceIte, reduceCtorEq, Bool.false_eq_true, Bool.true_eq_false, Nat.reduceAdd, Nat.reduceLT, Nat.reduceEqDiff, Nat.reduceLeDiff, Nat.reduceSub, Nat.reduceMul, Range.pv]
  have hw := trail_without t 42 [.ptr (.int .i64 n), .ptr (meetV rs).pv] (fun c => decide (c.seq ≤ n ∨ ¬ (meetV rs).isIn c.key)) ht ⟨_, rfl, rfl, rfl⟩ (fun x _ => by simpa using trail_Since1 x n (meetV rs))
  refine V.call rfl rfl (by simp [dOK]) ⟨41, [], by simp only [go_sem, ↓reduceIte, reduceCtorEq, Bool.false_eq_true, Bool.true_eq_false, Nat.reduceAdd, Nat.reduceLT, Nat.reduceEqDiff, Nat.reduceLeDiff, Nat.reduceSub, Nat.reduceMul], ⟨_, rfl, rfl, rfl⟩, .inl ⟨[.row (t.map Change.pv), .fn 42 [.ptr (.int .i64 n), .ptr (meetV rs).pv]], _, .inl (by simp only [go_sem, ↓reduceIte, reduceCtorEq, Bool.false_eq_true, Bool.true_eq_false, Nat.reduceAdd, Nat.reduceLT, Nat.reduceEqDiff, Nat.reduceLeDiff, Nat.reduceSub, Nat.reduceMul, Range.pv]), hw, .inr (.inl ⟨_, rfl, rfl, rfl⟩)⟩⟩ ?_
  refine V.exec 400 ?_
  have hl := withoutV_length t (fun c => decide (c.seq ≤ n ∨ ¬ (meetV rs).isIn c.key))
  have hv : sinceV t n most rs = (withoutV t (fun c => decide (c.seq ≤ n ∨ ¬ (meetV rs).isIn c.key))).take (cutAt (withoutV t (fun c => decide (c.seq ≤ n ∨ ¬ (meetV rs).isIn c.key))).length most) := rfl
  rw [hv]
  generalize withoutV t (fun c => decide (c.seq ≤ n ∨ ¬ (meetV rs).isIn c.key)) = w at *
  have hc : (if (if (w.length : Int) < most then (w.length : Int) else most) > 0 then (if (w.length : Int) < most then (w.length : Int) else most) else 0) = ((cutAt w.length most : Nat) : Int) := by
    unfold cutAt
    split <;> split <;> omega
  have hc2 : cutAt w.length most ≤ w.length := by unfold cutAt; omega
  simp (config := {contextual := true}) only [go_sem, ↓reduceIte, reduceCtorEq, Bool.false_eq_true, Bool.true_eq_false, Nat.reduceAdd, Nat.reduceLT, Nat.reduceEqDiff, Nat.reduceLeDiff, Nat.reduceSub, Nat.reduceMul, hc]
  refine ⟨by omega, ?_⟩
  rw [List.map_take]
end Go.Proofs.Ytjhjnphcdpjnbaa
set_option linter.unusedVariables false
set_option linter.unusedSimpArgs false
set_option maxRecDepth 8000
namespace Go.Proofs.Ytjhjnphcdpjnbaa
open Go Go.Proofs Go.Proofs.YtjhjnphcdpjnbaaVm Go.Proofs.Ytjhjnphcdpjnbaa.Ty

set_option maxHeartbeats 2000000 in
theorem IndexFuncPair (xs : List PV) (g : FuncId) (caps : List PV) (p : PV → Bool) (h1 : ∀ x ∈ xs, x.cells.length = 2 ∧ x.isAgg = true) (hl : xs.length ≤ 1000000) (hg : Entered Try.prog g)
    (hp : ∀ x ∈ xs, Ct Try.prog g (YtjhjnphcdpjnbaaVm.ops ([x] ++ caps)) (.vals [.bool (decide (p x = true))])) (r : Nat) (hr : r ≤ xs.length) (hr1 : ∀ x ∈ xs.take r, p x = false) (hr2 : ∀ x, xs[r]? = some x → p x = true) :
    Ct Try.prog 91 (YtjhjnphcdpjnbaaVm.ops [.row xs, .fn g caps]) (.vals [.int .i64 (if r < xs.length then (r : Int) else -1)]) := by
  refine Ct.of_V Try.func91 rfl (by simp [YtjhjnphcdpjnbaaVm.ops, Try.f91]) ?_
  refine V.exec 400 ?_
  simp (config := {contextual := true}) only [go_sem, ↓reduceIte, reduceCtorEq, Bool.false_eq_true, Bool.true_eq_false, Nat.reduceAdd, Nat.reduceLT, Nat.reduceEqDiff, Nat.reduceLeDiff, Nat.reduceSub, Nat.reduceMul, Try.f91]
  refine V.loop (fun m ls os => ∃ i : Nat, i ≤ r ∧ m = xs.length - i ∧
        ls = [(0, .val (.row xs)), (1, .val (.fn g caps)), (7, .val (.int .i64 xs.length)), (8, .val (.int .i64 i))] ∧ os = []) 0 xs.length [(0, .val (.row xs)), (1, .val (.fn g caps)), (7, .val (.int .i64 xs.length)), (8, .val (.int .i64 0))] [] []
      ⟨0, Nat.zero_le _, rfl, rfl, rfl⟩ (by simp only [go_sem, ↓reduceIte, reduceCtorEq, Bool.false_eq_true, Bool.true_eq_false, Nat.reduceAdd, Nat.reduceLT, Nat.reduceEqDiff, Nat.reduceLeDiff, Nat.reduceSub, Nat.reduceMul]) ?_
  rintro m ls os ⟨i, hi, rfl, rfl, rfl⟩
  refine V.exec 400 ?_
  by_cases hlt : i < xs.length
  · have hlt' : (i : Int) < (xs.length : Int) := by omega
    obtain ⟨x, hx⟩ : ∃ x, xs[i]? = some x := ⟨_, List.getElem?_eq_getElem hlt⟩
    have hxm : x ∈ xs := List.mem_of_getElem? hx
    obtain ⟨hxc, hxa⟩ := h1 x hxm
    have hw : IntKind.i64.wrap ((i : Int) + 1) = ((i + 1 : Nat) : Int) := by rw [wrap_small] <;> omega
    simp (config := {contextual := true}) only [go_sem, ↓reduceIte, reduceCtorEq, Bool.false_eq_true, Bool.true_eq_false, Nat.reduceAdd, Nat.reduceLT, Nat.reduceEqDiff, Nat.reduceLeDiff, Nat.reduceSub, Nat.reduceMul, hlt', hx, hxc, hxa]
    refine V.call rfl rfl (by simp [dOK]) ⟨g, caps, by simp only [go_sem, ↓reduceIte, reduceCtorEq, Bool.false_eq_true, Bool.true_eq_false, Nat.reduceAdd, Nat.reduceLT, Nat.reduceEqDiff, Nat.reduceLeDiff, Nat.reduceSub, Nat.reduceMul], hg, .inl ⟨[x], _, .inl (by simp only [go_sem, ↓reduceIte, reduceCtorEq, Bool.false_eq_true, Bool.true_eq_false, Nat.reduceAdd, Nat.reduceLT, Nat.reduceEqDiff, Nat.reduceLeDiff, Nat.reduceSub, Nat.reduceMul]), hp x hxm, .inl ⟨_, rfl, rfl, rfl, rfl⟩⟩⟩ ?_
    refine V.exec 400 ?_
    simp (config := {contextual := true}) only [go_sem, ↓reduceIte, reduceCtorEq, Bool.false_eq_true, Bool.true_eq_false, Nat.reduceAdd, Nat.reduceLT, Nat.reduceEqDiff, Nat.reduceLeDiff, Nat.reduceSub, Nat.reduceMul, hw]
    constructor
    · intro hpx
      have hir : i = r := by
        rcases Nat.lt_or_ge i r with h | h
        · have := hr1 x (List.mem_of_getElem? (i := i) (by rw [List.getElem?_take_of_lt h]; exact hx))
          rw [this] at hpx; cases hpx
        · omega
      subst hir
      rw [if_pos hlt]
    · intro hpx
      have hir : i < r := by
        rcases Nat.lt_or_ge i r with h | h
        · exact h
        · have : i = r := by omega
          subst this
          exact absurd (hr2 x hx) hpx
      exact ⟨xs.length - (i + 1), _, [], [], by omega, ⟨i + 1, by omega, rfl, rfl, rfl⟩, by simp only [go_sem, ↓reduceIte, reduceCtorEq, Bool.false_eq_true, Bool.true_eq_false, Nat.reduceAdd, Nat.reduceLT, Nat.reduceEqDiff, Nat.reduceLeDiff, Nat.reduceSub, Nat.reduceMul]⟩
  · have hlt' : ¬ (i : Int) < (xs.length : Int) := by omega
    simp (config := {contextual := true}) only [go_sem, ↓reduceIte, reduceCtorEq, Bool.false_eq_true, Bool.true_eq_false, Nat.reduceAdd, Nat.reduceLT, Nat.reduceEqDiff, Nat.reduceLeDiff, Nat.reduceSub, Nat.reduceMul, hlt']
    rw [if_neg (by omega)]
set_option maxHeartbeats 4000000 in
theorem DeleteFuncPair (xs : List PV) (g : FuncId) (caps : List PV) (p : PV → Bool) (h1 : ∀ x ∈ xs, x.cells.length = 2 ∧ x.isAgg = true ∧ ∀ c ∈ x.cells, c.isAgg = false) (hl : xs.length ≤ 1000000) (hg : Entered Try.prog g)
    (hp : ∀ x ∈ xs, Ct Try.prog g (YtjhjnphcdpjnbaaVm.ops ([x] ++ caps)) (.vals [.bool (decide (p x = true))])) (hz : (zeroPV Try.prog 73 2).isSome = true) :
    Ct Try.prog 68 (.o 73 xs :: YtjhjnphcdpjnbaaVm.ops [.fn g caps]) (.own 73 (xs.filter fun x => !p x)) := by
  -- the first that goes
  obtain ⟨r, hr, hr1, hr2⟩ : ∃ r, r ≤ xs.length ∧ (∀ x ∈ xs.take r, p x = false) ∧ ∀ x, xs[r]? = some x → p x = true := by
    clear h1 hl hp
    induction xs with
    | nil => exact ⟨0, by simp, by simp, by simp⟩
    | cons x xs ih =>
      by_cases hx : p x = true
      · exact ⟨0, by simp, by simp, by simp [hx]⟩
      · obtain ⟨r, h1, h2, h3⟩ := ih
        refine ⟨r + 1, by simpa using h1, ?_, by simpa using h3⟩
        intro y hy
        simp only [List.take_succ_cons, List.mem_cons] at hy
        rcases hy with rfl | hy
        · simpa using hx
        · exact h2 y hy
  refine Ct.of_V Try.func68 rfl (by simp [YtjhjnphcdpjnbaaVm.ops, Try.f68]) ?_
  refine V.exec 400 ?_
  simp (config := {contextual := true}) only [go_sem, ↓reduceIte, reduceCtorEq, Bool.false_eq_true, Bool.true_eq_false, Nat.reduceAdd, Nat.reduceLT, Nat.reduceEqDiff, Nat.reduceLeDiff, Nat.reduceSub, Nat.reduceMul, Try.f68]
  refine V.call rfl rfl (by simp [dOK]) ⟨91, [], by simp only [go_sem, ↓reduceIte, reduceCtorEq, Bool.false_eq_true, Bool.true_eq_false, Nat.reduceAdd, Nat.reduceLT, Nat.reduceEqDiff, Nat.reduceLeDiff, Nat.reduceSub, Nat.reduceMul], ⟨_, rfl, rfl, rfl⟩, .inl ⟨[.row xs, .fn g caps], _, .inl (by simp only [go_sem, ↓reduceIte, reduceCtorEq, Bool.false_eq_true, Bool.true_eq_false, Nat.reduceAdd, Nat.reduceLT, Nat.reduceEqDiff, Nat.reduceLeDiff, Nat.reduceSub, Nat.reduceMul]), IndexFuncPair xs g caps p (fun x hx => ⟨(h1 x hx).1, (h1 x hx).2.1⟩) hl hg hp r hr hr1 hr2, .inl ⟨_, rfl, rfl, rfl, rfl⟩⟩⟩ ?_
  refine V.exec 400 ?_
  simp (config := {contextual := true}) only [go_sem, ↓reduceIte, reduceCtorEq, Bool.false_eq_true, Bool.true_eq_false, Nat.reduceAdd, Nat.reduceLT, Nat.reduceEqDiff, Nat.reduceLeDiff, Nat.reduceSub, Nat.reduceMul]
  constructor
  · intro h
    have hrl : ¬ r < xs.length := by intro h'; rw [if_pos h'] at h; omega
    have : xs.filter (fun x => !p x) = xs := by
      rw [List.filter_eq_self]
      intro x hx
      have := hr1 x (by rw [List.take_of_length_le (by omega)]; exact hx)
      simp [this]
    rw [this]
  · intro h
    have hrl : r < xs.length := by
      rcases Nat.lt_or_ge r xs.length with h' | h'
      · exact h'
      · rw [if_neg (by omega)] at h; exact absurd rfl h
    simp only [if_pos hrl]
    have hw0 : IntKind.i64.wrap ((r : Int) + 1) = ((r + 1 : Nat) : Int) := by rw [wrap_small] <;> omega
    simp only [hw0]
    refine V.loop (fun m ls os => ∃ (i j : Nat) (ys : List PV), i < j ∧ j ≤ xs.length ∧ m = xs.length - j ∧ ys.length = xs.length ∧ ys.take i = (xs.take j).filter (fun x => !p x) ∧ ys.drop j = xs.drop j ∧ (∀ y ∈ ys, y ∈ xs) ∧
        ls = [(0, .ref 0), (1, .val (.fn g caps)), (5, .val (.int .i64 i)), (6, .val (.int .i64 j))] ∧ os = [.row 73 ys]) 1 (xs.length - (r + 1)) [(0, .ref 0), (1, .val (.fn g caps)), (5, .val (.int .i64 r)), (6, .val (.int .i64 (r + 1 : Nat)))] [.row 73 xs] [some 0]
      ⟨r, r + 1, xs, by omega, by omega, rfl, rfl, ?_, rfl, fun y hy => hy, rfl, rfl⟩ (by simp only [go_sem, ↓reduceIte, reduceCtorEq, Bool.false_eq_true, Bool.true_eq_false, Nat.reduceAdd, Nat.reduceLT, Nat.reduceEqDiff, Nat.reduceLeDiff, Nat.reduceSub, Nat.reduceMul]) ?_
    · obtain ⟨x, hx⟩ : ∃ x, xs[r]? = some x := ⟨_, List.getElem?_eq_getElem hrl⟩
      rw [List.take_add_one, hx, List.filter_append]
      have e1 : (xs.take r).filter (fun x => !p x) = xs.take r := by
        rw [List.filter_eq_self]; intro y hy; simp [hr1 y hy]
      rw [e1]
      simp [hr2 x hx]
    · rintro m ls os ⟨i, j, ys, hij, hj, rfl, hyl, hyt, hyd, hym, rfl, rfl⟩
      by_cases hlt : j < xs.length
      · have hlt' : (j : Int) < (ys.length : Int) := by omega
        refine V.exec 400 ?_
        obtain ⟨x, hx⟩ : ∃ x, ys[j]? = some x := ⟨_, List.getElem?_eq_getElem (by omega)⟩
        obtain ⟨z, hz'⟩ : ∃ z, ys[i]? = some z := ⟨_, List.getElem?_eq_getElem (by omega)⟩
        have hxm : x ∈ xs := hym x (List.mem_of_getElem? hx)
        have hzm : z ∈ xs := hym z (List.mem_of_getElem? hz')
        obtain ⟨hzc, hza, _⟩ := h1 z hzm
        obtain ⟨hxc, hxa, hxn⟩ := h1 x hxm
        have hpx := hp x hxm
        obtain ⟨c0, c1, rfl⟩ : ∃ c0 c1, x = .agg [c0, c1] := by
          cases x with
          | agg cs =>
            match cs, hxc with
            | [c0, c1], _ => exact ⟨c0, c1, rfl⟩
          | _ => cases hxa
        have n0 : c0.isAgg = false := hxn c0 (by simp [PV.cells])
        have n1 : c1.isAgg = false := hxn c1 (by simp [PV.cells])
        have hwi : IntKind.i64.wrap ((i : Int) + 1) = ((i + 1 : Nat) : Int) := by rw [wrap_small] <;> omega
        have hwj : IntKind.i64.wrap ((j : Int) + 1) = ((j + 1 : Nat) : Int) := by rw [wrap_small] <;> omega
        simp (config := {contextual := true}) only [go_sem, ↓reduceIte, reduceCtorEq, Bool.false_eq_true, Bool.true_eq_false, Nat.reduceAdd, Nat.reduceLT, Nat.reduceEqDiff, Nat.reduceLeDiff, Nat.reduceSub, Nat.reduceMul, hlt', hx, n0, n1]
        refine V.call rfl rfl (by simp [dOK]) ⟨g, caps, by simp only [go_sem, ↓reduceIte, reduceCtorEq, Bool.false_eq_true, Bool.true_eq_false, Nat.reduceAdd, Nat.reduceLT, Nat.reduceEqDiff, Nat.reduceLeDiff, Nat.reduceSub, Nat.reduceMul], hg, .inl ⟨[_], _, .inl (by simp only [go_sem, ↓reduceIte, reduceCtorEq, Bool.false_eq_true, Bool.true_eq_false, Nat.reduceAdd, Nat.reduceLT, Nat.reduceEqDiff, Nat.reduceLeDiff, Nat.reduceSub, Nat.reduceMul]), hpx, .inl ⟨_, rfl, rfl, rfl, rfl⟩⟩⟩ ?_
        refine V.exec 400 ?_
        simp (config := {contextual := true}) only [go_sem, ↓reduceIte, reduceCtorEq, Bool.false_eq_true, Bool.true_eq_false, Nat.reduceAdd, Nat.reduceLT, Nat.reduceEqDiff, Nat.reduceLeDiff, Nat.reduceSub, Nat.reduceMul, hwi, hwj, hz', hzc, n0, n1]
        have hxj : xs[j]? = some (.agg [c0, c1]) := by
          have e1 : (ys.drop j)[0]? = (xs.drop j)[0]? := by rw [hyd]
          simp only [List.getElem?_drop, Nat.add_zero] at e1
          rw [← e1]; exact hx
        have hdrop : ys.drop (j + 1) = xs.drop (j + 1) := by rw [← List.drop_drop, ← List.drop_drop, hyd]
        have htk : xs.take (j + 1) = xs.take j ++ [.agg [c0, c1]] := by rw [List.take_add_one, hxj]; rfl
        constructor
        · intro hpx
          refine ⟨xs.length - (j + 1), _, _, [some 0], by omega, ⟨i + 1, j + 1, ys.set i (.agg [c0, c1]), by omega, by omega, rfl, by simpa using hyl, ?_, ?_, ?_, rfl, rfl⟩, ?_⟩
          · rw [htk, List.filter_append, ← hyt, List.take_add_one, List.getElem?_set_self (by omega), List.take_set_of_le (Nat.le_refl _)]
            simp [hpx]
          · rw [List.drop_set_of_lt (by omega)]; exact hdrop
          · intro y hy
            rcases List.mem_or_eq_of_mem_set hy with hy | hy
            · exact hym y hy
            · rw [hy]; exact hxm
          · simp only [go_sem, ↓reduceIte, reduceCtorEq, Bool.false_eq_true, Bool.true_eq_false, Nat.reduceAdd, Nat.reduceLT, Nat.reduceEqDiff, Nat.reduceLeDiff, Nat.reduceSub, Nat.reduceMul]
        · intro hpx
          refine ⟨xs.length - (j + 1), _, _, [some 0], by omega, ⟨i, j + 1, ys, by omega, by omega, rfl, hyl, ?_, hdrop, hym, rfl, rfl⟩, ?_⟩
          · rw [htk, List.filter_append, hyt]
            simp [hpx]
          · simp only [go_sem, ↓reduceIte, reduceCtorEq, Bool.false_eq_true, Bool.true_eq_false, Nat.reduceAdd, Nat.reduceLT, Nat.reduceEqDiff, Nat.reduceLeDiff, Nat.reduceSub, Nat.reduceMul]
      · have hlt' : ¬ (j : Int) < (ys.length : Int) := by omega
        refine V.execS [11] 400 ?_
        simp (config := {contextual := true}) only [go_sem, ↓reduceIte, reduceCtorEq, Bool.false_eq_true, Bool.true_eq_false, Nat.reduceAdd, Nat.reduceLT, Nat.reduceEqDiff, Nat.reduceLeDiff, Nat.reduceSub, Nat.reduceMul, hlt']
        refine V.opn 0 2 73 ys (by simp only [go_sem, ↓reduceIte, reduceCtorEq, Bool.false_eq_true, Bool.true_eq_false, Nat.reduceAdd, Nat.reduceLT, Nat.reduceEqDiff, Nat.reduceLeDiff, Nat.reduceSub, Nat.reduceMul]) (by simp only [go_sem, ↓reduceIte, reduceCtorEq, Bool.false_eq_true, Bool.true_eq_false, Nat.reduceAdd, Nat.reduceLT, Nat.reduceEqDiff, Nat.reduceLeDiff, Nat.reduceSub, Nat.reduceMul]) fun q => ?_
        refine V.exec 400 ?_
        simp (config := {contextual := true}) only [go_sem, ↓reduceIte, reduceCtorEq, Bool.false_eq_true, Bool.true_eq_false, Nat.reduceAdd, Nat.reduceLT, Nat.reduceEqDiff, Nat.reduceLeDiff, Nat.reduceSub, Nat.reduceMul]
        have hi : i ≤ ys.length := by omega
        have hjx : j = xs.length := by omega
        rw [show 0 + i = i from Nat.zero_add i, over_length hi, List.length_replicate]
        refine ⟨⟨hi, by omega⟩, ⟨hi, by omega⟩, ⟨by omega, by omega⟩, by omega, ?_⟩
        rw [hjx, List.take_length] at hyt
        rw [Nat.sub_zero, over, List.append_assoc, List.take_append_of_le_length (by simp [Nat.min_eq_left hi]), List.take_take, Nat.min_self, hyt]
end Go.Proofs.Ytjhjnphcdpjnbaa
set_option linter.unusedVariables false
set_option linter.unusedSimpArgs false
set_option maxRecDepth 8000
namespace Go.Proofs.Ytjhjnphcdpjnbaa
open Go Go.Proofs Go.Proofs.YtjhjnphcdpjnbaaVm Go.Proofs.Ytjhjnphcdpjnbaa.Ty

def Pair.of : PV → Pair
  | .agg [.str k, .str v] => ⟨k, v⟩
  | _ => ⟨[], []⟩
theorem Pair.of_pv (p : Pair) : Pair.of p.pv = p := rfl
theorem Pair.filter_pv (l : List Pair) (p : Pair → Bool) : (l.map Pair.pv).filter (fun x => !p (Pair.of x)) = (l.filter fun c => !p c).map Pair.pv := by
  induction l with
  | nil => rfl
  | cons s r ih =>
    simp only [List.map_cons, List.filter_cons, Pair.of_pv, ih]
    split <;> rfl

theorem stretch_Pick1 (r : Range) (p : Pair) : Ct Try.prog 69 (YtjhjnphcdpjnbaaVm.ops [p.pv, .ptr r.pv]) (.vals [.bool (decide (¬ r.isIn p.key))]) := by
  refine Ct.of_V Try.func69 rfl (by simp [YtjhjnphcdpjnbaaVm.ops, Try.f69]) ?_
  refine V.exec 400 ?_
  simp (config := {contextual := true}) only [go_sem, ↓reduceIte, reduceCtorEq, Bool.false_eq_true, Bool.true_eq_false, Nat.reduceAdd, Nat.reduceLT, Nat.reduceEqDiff, Nat.reduceLeDiff, Nat.reduceSub, Nat.reduceMul, Try.f69, Pair.pv, Range.pv]
  refine V.call rfl rfl (by simp [dOK]) ⟨43, [], by simp only [go_sem, ↓reduceIte, reduceCtorEq, Bool.false_eq_true, Bool.true_eq_false, Nat.reduceAdd, Nat.reduceLT, Nat.reduceEqDiff, Nat.reduceLeDiff, Nat.reduceSub, Nat.reduceMul], ⟨_, rfl, rfl, rfl⟩, .inl ⟨[r.pv, .str p.key], _, .inl (by simp only [go_sem, ↓reduceIte, reduceCtorEq, Bool.false_eq_true, Bool.true_eq_false, Nat.reduceAdd, Nat.reduceLT, Nat.reduceEqDiff, Nat.reduceLeDiff, Nat.reduceSub, Nat.reduceMul, Range.pv]), stretch_In r p.key, .inl ⟨_, rfl, rfl, rfl, rfl⟩⟩⟩ ?_
  refine V.exec 400 ?_
  simp (config := {contextual := true}) only [go_sem, ↓reduceIte, reduceCtorEq, Bool.false_eq_true, Bool.true_eq_false, Nat.reduceAdd, Nat.reduceLT, Nat.reduceEqDiff, Nat.reduceLeDiff, Nat.reduceSub, Nat.reduceMul]

def pickV (r : Range) (l : List Pair) : List Pair := l.filter fun p => decide (r.isIn p.key)
theorem pickV_len (r : Range) (l : List Pair) : (pickV r l).length ≤ l.length := List.length_filter_le _ _

set_option maxHeartbeats 4000000 in
theorem stretch_Pick (r : Range) (l : List Pair) (hl : l.length ≤ 1000000) : Ct Try.prog 39 (YtjhjnphcdpjnbaaVm.ops [r.pv, .row (l.map Pair.pv)]) (.vals [.row ((pickV r l).map Pair.pv)]) := by
  have h7 : ∀ x ∈ l.map Pair.pv, x.cells.length = 2 ∧ x.isAgg = true ∧ ∀ c ∈ x.cells, c.isAgg = false := fun x hx => by
    obtain ⟨s, _, rfl⟩ := List.mem_map.1 hx
    exact ⟨rfl, rfl, by simp [Pair.pv, PV.cells, PV.isAgg]⟩
  have hdel := DeleteFuncPair (l.map Pair.pv) 69 [.ptr r.pv] (fun x => decide (¬ r.isIn (Pair.of x).key)) h7 (by simpa using hl) ⟨_, rfl, rfl, rfl⟩ (fun x hx => by
    obtain ⟨s, hs, rfl⟩ := List.mem_map.1 hx
    rw [Pair.of_pv]
    simpa using stretch_Pick1 r s) (by simp only [go_sem, ↓reduceIte, reduceCtorEq, Bool.false_eq_true, Bool.true_eq_false, Nat.reduceAdd, Nat.reduceLT, Nat.reduceEqDiff, Nat.reduceLeDiff, Nat.reduceSub, Nat.reduceMul])
  rw [Pair.filter_pv l (fun p => decide (¬ r.isIn p.key))] at hdel
  have e : (l.filter fun c => !decide (¬ r.isIn c.key)) = pickV r l := by
    unfold pickV; congr 1; funext c; simp
  rw [e] at hdel
  refine Ct.of_V Try.func39 rfl (by simp [YtjhjnphcdpjnbaaVm.ops, Try.f39]) ?_
  refine V.exec 400 ?_
  simp (config := {contextual := true}) only [go_sem, ↓reduceIte, reduceCtorEq, Bool.false_eq_true, Bool.true_eq_false, Nat.reduceAdd, Nat.reduceLT, Nat.reduceEqDiff, Nat.reduceLeDiff, Nat.reduceSub, Nat.reduceMul, Try.f39, Range.pv]
  refine V.call rfl rfl (by simp [dOK]) ⟨45, [], by simp only [go_sem, ↓reduceIte, reduceCtorEq, Bool.false_eq_true, Bool.true_eq_false, Nat.reduceAdd, Nat.reduceLT, Nat.reduceEqDiff, Nat.reduceLeDiff, Nat.reduceSub, Nat.reduceMul], ⟨_, rfl, rfl, rfl⟩, .inl ⟨[.row (l.map Pair.pv)], _, .inl (by simp only [go_sem, ↓reduceIte, reduceCtorEq, Bool.false_eq_true, Bool.true_eq_false, Nat.reduceAdd, Nat.reduceLT, Nat.reduceEqDiff, Nat.reduceLeDiff, Nat.reduceSub, Nat.reduceMul]), ClonePair (l.map Pair.pv) (fun x hx => (h7 x hx).1) (by simpa using hl), .inr (.inr ⟨73, (l.map Pair.pv)   , rfl, by simp only [go_sem, ↓reduceIte, reduceCtorEq, Bool.false_eq_true, Bool.true_eq_false, Nat.reduceAdd, Nat.reduceLT, Nat.reduceEqDiff, Nat.reduceLeDiff, Nat.reduceSub, Nat.reduceMul], rfl, rfl⟩)⟩⟩ ?_
  refine V.exec 400 ?_
  simp (config := {contextual := true}) only [go_sem, ↓reduceIte, reduceCtorEq, Bool.false_eq_true, Bool.true_eq_false, Nat.reduceAdd, Nat.reduceLT, Nat.reduceEqDiff, Nat.reduceLeDiff, Nat.reduceSub, Nat.reduceMul]
  refine V.call rfl rfl (by simp [dOK]) ⟨68, [], by simp only [go_sem, ↓reduceIte, reduceCtorEq, Bool.false_eq_true, Bool.true_eq_false, Nat.reduceAdd, Nat.reduceLT, Nat.reduceEqDiff, Nat.reduceLeDiff, Nat.reduceSub, Nat.reduceMul], ⟨_, rfl, rfl, rfl⟩, .inr ⟨5, 73, l.map Pair.pv, [.val (.fn 69 [.ptr r.pv])], [.fn 69 [.ptr r.pv]], 73, _, by simp only [go_sem, ↓reduceIte, reduceCtorEq, Bool.false_eq_true, Bool.true_eq_false, Nat.reduceAdd, Nat.reduceLT, Nat.reduceEqDiff, Nat.reduceLeDiff, Nat.reduceSub, Nat.reduceMul, Range.pv], by simp only [go_sem, ↓reduceIte, reduceCtorEq, Bool.false_eq_true, Bool.true_eq_false, Nat.reduceAdd, Nat.reduceLT, Nat.reduceEqDiff, Nat.reduceLeDiff, Nat.reduceSub, Nat.reduceMul], .inl (by simp only [go_sem, ↓reduceIte, reduceCtorEq, Bool.false_eq_true, Bool.true_eq_false, Nat.reduceAdd, Nat.reduceLT, Nat.reduceEqDiff, Nat.reduceLeDiff, Nat.reduceSub, Nat.reduceMul]), hdel, by simp only [go_sem, ↓reduceIte, reduceCtorEq, Bool.false_eq_true, Bool.true_eq_false, Nat.reduceAdd, Nat.reduceLT, Nat.reduceEqDiff, Nat.reduceLeDiff, Nat.reduceSub, Nat.reduceMul], rfl, rfl⟩⟩ ?_
  refine V.exec 400 ?_
  simp (config := {contextual := true}) only [go_sem, ↓reduceIte, reduceCtorEq, Bool.false_eq_true, Bool.true_eq_false, Nat.reduceAdd, Nat.reduceLT, Nat.reduceEqDiff, Nat.reduceLeDiff, Nat.reduceSub, Nat.reduceMul]

theorem ref03_In (r : Range) (k : List UInt8) : Ct Try.prog 37 (YtjhjnphcdpjnbaaVm.ops [r.pv, .str k]) (.vals [.bool (decide (r.isIn k))]) := by
  refine Ct.of_V Try.func37 rfl (by simp [YtjhjnphcdpjnbaaVm.ops, Try.f37]) ?_
  refine V.exec 400 ?_
  simp (config := {contextual := true}) only [go_sem, ↓reduceIte, reduceCtorEq, Bool.false_eq_true, Bool.true_eq_false, Nat.reduceAdd, Nat.reduceLT, Nat.reduceEqDiff, Nat.reduceLeDiff, Nat.reduceSub, Nat.reduceMul, Try.f37, Range.pv]
  simp only [Option.some.injEq, List.cons.injEq, PV.bool.injEq, and_true]
  grind [Range.isIn]

set_option maxHeartbeats 4000000 in
theorem ref03_Pick (r : Range) (l : List Pair) (hl : l.length ≤ 1000000) : Ct Try.prog 25 (YtjhjnphcdpjnbaaVm.ops [r.pv, .row (l.map Pair.pv)]) (.vals [.row ((pickV r l).map Pair.pv)]) := by
  refine Ct.of_V Try.func25 rfl (by simp [YtjhjnphcdpjnbaaVm.ops, Try.f25]) ?_
  refine V.exec 400 ?_
  simp (config := {contextual := true}) only [go_sem, ↓reduceIte, reduceCtorEq, Bool.false_eq_true, Bool.true_eq_false, Nat.reduceAdd, Nat.reduceLT, Nat.reduceEqDiff, Nat.reduceLeDiff, Nat.reduceSub, Nat.reduceMul, Try.f25, Range.pv]
  refine V.loop (fun m ls os => ∃ (i : Nat), i ≤ l.length ∧ m = l.length - i ∧
        ls = [(1, .val (.row (l.map Pair.pv))), (2, .adr 0 0), (5, .ref 1), (6, .val (.int .i64 i))] ∧ os = [.box true [.val (.str r.lo), .val (.str r.hi), .val (.bool (decide (r.op = true)))], .row 73 ((pickV r (l.take i)).map Pair.pv)]) 2 l.length
      [(1, .val (.row (l.map Pair.pv))), (2, .adr 0 0), (5, .ref 1), (6, .val (.int .i64 0))] [.box true [.val (.str r.lo), .val (.str r.hi), .val (.bool (decide (r.op = true)))], .row 73 []] [some 2, none]
      ⟨0, Nat.zero_le _, rfl, rfl, rfl⟩ (by simp only [go_sem, ↓reduceIte, reduceCtorEq, Bool.false_eq_true, Bool.true_eq_false, Nat.reduceAdd, Nat.reduceLT, Nat.reduceEqDiff, Nat.reduceLeDiff, Nat.reduceSub, Nat.reduceMul, Range.pv]; try decide) ?_
  rintro m ls os ⟨i, hi, rfl, rfl, rfl⟩
  refine V.exec 400 ?_
  have hpl : (pickV r (l.take i)).length ≤ l.length := Nat.le_trans (pickV_len _ _) (by rw [List.length_take]; omega)
  by_cases hlt : i < l.length
  · have hlt' : (i : Int) < (l.length : Int) := by omega
    obtain ⟨x, hx⟩ : ∃ x, l[i]? = some x := ⟨_, List.getElem?_eq_getElem hlt⟩
    have hw : IntKind.i64.wrap ((i : Int) + 1) = ((i + 1 : Nat) : Int) := by rw [wrap_small3] <;> omega
    have hn : pickV r (l.take (i + 1)) = if r.isIn x.key then pickV r (l.take i) ++ [x] else pickV r (l.take i) := by
      unfold pickV
      rw [List.take_add_one, hx, List.filter_append]
      by_cases h : r.isIn x.key <;> simp [h]
    simp (config := {contextual := true}) only [go_sem, ↓reduceIte, reduceCtorEq, Bool.false_eq_true, Bool.true_eq_false, Nat.reduceAdd, Nat.reduceLT, Nat.reduceEqDiff, Nat.reduceLeDiff, Nat.reduceSub, Nat.reduceMul, hlt', hx, Pair.pv]
    refine DV.call [0] [0] (by simp only [go_sem, ↓reduceIte, reduceCtorEq, Bool.false_eq_true, Bool.true_eq_false, Nat.reduceAdd, Nat.reduceLT, Nat.reduceEqDiff, Nat.reduceLeDiff, Nat.reduceSub, Nat.reduceMul, Range.pv]) (by simp [dOK]) ⟨37, [], by simp only [go_sem, ↓reduceIte, reduceCtorEq, Bool.false_eq_true, Bool.true_eq_false, Nat.reduceAdd, Nat.reduceLT, Nat.reduceEqDiff, Nat.reduceLeDiff, Nat.reduceSub, Nat.reduceMul, Range.pv], ⟨_, rfl, rfl, rfl⟩, .inl ⟨[r.pv, .str x.key], _, .inl (by simp only [go_sem, ↓reduceIte, reduceCtorEq, Bool.false_eq_true, Bool.true_eq_false, Nat.reduceAdd, Nat.reduceLT, Nat.reduceEqDiff, Nat.reduceLeDiff, Nat.reduceSub, Nat.reduceMul, Range.pv]), ref03_In r x.key, .inl ⟨_, rfl, rfl, rfl, rfl⟩⟩⟩ (by simp only [go_sem, ↓reduceIte, reduceCtorEq, Bool.false_eq_true, Bool.true_eq_false, Nat.reduceAdd, Nat.reduceLT, Nat.reduceEqDiff, Nat.reduceLeDiff, Nat.reduceSub, Nat.reduceMul, Range.pv]) (by simp only [go_sem, ↓reduceIte, reduceCtorEq, Bool.false_eq_true, Bool.true_eq_false, Nat.reduceAdd, Nat.reduceLT, Nat.reduceEqDiff, Nat.reduceLeDiff, Nat.reduceSub, Nat.reduceMul, Range.pv]) (by simp only [go_sem, ↓reduceIte, reduceCtorEq, Bool.false_eq_true, Bool.true_eq_false, Nat.reduceAdd, Nat.reduceLT, Nat.reduceEqDiff, Nat.reduceLeDiff, Nat.reduceSub, Nat.reduceMul, Range.pv]) (by simp) ?_
    refine DV.exec 400 ?_
    by_cases h : r.isIn x.key
    · rw [if_pos h] at hn
      generalize hL : pickV r (l.take i) = L at *
      simp (config := {contextual := true}) only [go_sem, ↓reduceIte, reduceCtorEq, Bool.false_eq_true, Bool.true_eq_false, Nat.reduceAdd, Nat.reduceLT, Nat.reduceEqDiff, Nat.reduceLeDiff, Nat.reduceSub, Nat.reduceMul, hlt', hx, Pair.pv, h, hw]
      refine ⟨by kernel_rfl, ⟨by omega, by omega⟩, l.length - (i + 1), _, _, [some 0, some 21], by omega, ⟨i + 1, by omega, rfl, rfl, rfl⟩, ?_⟩
      simp only [go_sem, ↓reduceIte, reduceCtorEq, Bool.false_eq_true, Bool.true_eq_false, Nat.reduceAdd, Nat.reduceLT, Nat.reduceEqDiff, Nat.reduceLeDiff, Nat.reduceSub, Nat.reduceMul, hn, List.map_append, List.map_cons, List.map_nil, Pair.pv]
      try decide
    · rw [if_neg h] at hn
      simp (config := {contextual := true}) only [go_sem, ↓reduceIte, reduceCtorEq, Bool.false_eq_true, Bool.true_eq_false, Nat.reduceAdd, Nat.reduceLT, Nat.reduceEqDiff, Nat.reduceLeDiff, Nat.reduceSub, Nat.reduceMul, hlt', hx, Pair.pv, h, hw]
      refine ⟨by kernel_rfl, l.length - (i + 1), _, _, [some 0, some 1], by omega, ⟨i + 1, by omega, rfl, rfl, rfl⟩, ?_⟩
      simp only [go_sem, ↓reduceIte, reduceCtorEq, Bool.false_eq_true, Bool.true_eq_false, Nat.reduceAdd, Nat.reduceLT, Nat.reduceEqDiff, Nat.reduceLeDiff, Nat.reduceSub, Nat.reduceMul, hn]
      try decide
  · have hlt' : ¬ (i : Int) < (l.length : Int) := by omega
    simp (config := {contextual := true}) only [go_sem, ↓reduceIte, reduceCtorEq, Bool.false_eq_true, Bool.true_eq_false, Nat.reduceAdd, Nat.reduceLT, Nat.reduceEqDiff, Nat.reduceLeDiff, Nat.reduceSub, Nat.reduceMul, hlt']
    rw [List.take_of_length_le (by omega)]
end Go.Proofs.Ytjhjnphcdpjnbaa
set_option linter.unusedVariables false
set_option linter.unusedSimpArgs false
set_option maxRecDepth 8000
namespace Go.Proofs.Ytjhjnphcdpjnbaa
open Go Go.Proofs Go.Proofs.YtjhjnphcdpjnbaaVm Go.Proofs.Ytjhjnphcdpjnbaa.Ty

set_option maxRecDepth 4000 in
set_option maxHeartbeats 8000000 in
theorem ref16_Right (l : List Change) (hl : l.length ≤ 1000000) : Ct Try.prog 72 (YtjhjnphcdpjnbaaVm.ops [.row (l.map Change.pv)]) (.vals [.bool (decide (trailOk l))]) := by
  refine Ct.of_V Try.func72 rfl (by simp [YtjhjnphcdpjnbaaVm.ops, Try.f72]) ?_
  refine V.exec 400 ?_
  simp (config := {contextual := true}) only [go_sem, ↓reduceIte, reduceCtorEq, Bool.false_eq_true, Bool.true_eq_false, Nat.reduceAdd, Nat.reduceLT, Nat.reduceEqDiff, Nat.reduceLeDiff, Nat.reduceSub, Nat.reduceMul, Try.f72]
  refine V.loop (fun m ls os => ∃ (i : Nat), i ≤ l.length ∧ m = l.length - i ∧ (trailOk l ↔ trailFrom (prevSeq l i) (l.drop i)) ∧
        ls = [(0, .val (.row (l.map Change.pv))), (3, .val (.int .i64 i))] ∧ os = []) 0 l.length
      [(0, .val (.row (l.map Change.pv))), (3, .val (.int .i64 0))] [] []
      ⟨0, Nat.zero_le _, rfl, Iff.rfl, rfl, rfl⟩ (by simp only [go_sem, ↓reduceIte, reduceCtorEq, Bool.false_eq_true, Bool.true_eq_false, Nat.reduceAdd, Nat.reduceLT, Nat.reduceEqDiff, Nat.reduceLeDiff, Nat.reduceSub, Nat.reduceMul]) ?_
  rintro m ls os ⟨i, hi, rfl, hiff, rfl, rfl⟩
  refine V.exec 400 ?_
  by_cases hlt : i < l.length
  · have hlt' : (i : Int) < (l.length : Int) := by omega
    obtain ⟨x, hx⟩ : ∃ x, l[i]? = some x := ⟨_, List.getElem?_eq_getElem hlt⟩
    have hw : IntKind.i64.wrap ((i : Int) + 1) = ((i + 1 : Nat) : Int) := by rw [wrap_small3] <;> omega
    rw [drop_of_get hx, trailFrom] at hiff
    have hpk : prevSeq l (i + 1) = some x.seq := by simp [prevSeq, hx]
    have fin : x.ok → (∀ k, prevSeq l i = some k → k < x.seq) → (trailOk l ↔ trailFrom (prevSeq l (i + 1)) (l.drop (i + 1))) := fun a b => by
      rw [hiff, hpk]; exact ⟨fun h => h.2.2, fun h => ⟨a, b, h⟩⟩
    have hfalse : ¬ trailOk l → some [PV.bool false] = some [PV.bool (decide (trailOk l))] := fun h => by simp [h]
    simp (config := {contextual := true}) only [go_sem, ↓reduceIte, reduceCtorEq, Bool.false_eq_true, Bool.true_eq_false, Nat.reduceAdd, Nat.reduceLT, Nat.reduceEqDiff, Nat.reduceLeDiff, Nat.reduceSub, Nat.reduceMul, hlt', hx, Change.pv]
    refine V.call rfl rfl (by simp [dOK]) ⟨60, [], by simp only [go_sem, ↓reduceIte, reduceCtorEq, Bool.false_eq_true, Bool.true_eq_false, Nat.reduceAdd, Nat.reduceLT, Nat.reduceEqDiff, Nat.reduceLeDiff, Nat.reduceSub, Nat.reduceMul], ⟨_, rfl, rfl, rfl⟩, .inl ⟨[x.pv], _, .inl (by simp only [go_sem, ↓reduceIte, reduceCtorEq, Bool.false_eq_true, Bool.true_eq_false, Nat.reduceAdd, Nat.reduceLT, Nat.reduceEqDiff, Nat.reduceLeDiff, Nat.reduceSub, Nat.reduceMul, Change.pv]), ref13_May x, .inl ⟨_, rfl, rfl, rfl, rfl⟩⟩⟩ ?_
    refine V.exec 400 ?_
    by_cases hok : x.ok
    · rcases Nat.eq_zero_or_pos i with rfl | hpos
      · have hz : ¬ (0 : Int) < ((0 : Nat) : Int) := by omega
        simp (config := {contextual := true}) only [go_sem, ↓reduceIte, reduceCtorEq, Bool.false_eq_true, Bool.true_eq_false, Nat.reduceAdd, Nat.reduceLT, Nat.reduceEqDiff, Nat.reduceLeDiff, Nat.reduceSub, Nat.reduceMul, hlt', hx, Change.pv, hw, hz, hok]
        (repeat' (first | (intro _) | (refine ⟨by kernel_rfl, ?_⟩) | (apply And.intro)))
        exact ⟨l.length - (0 + 1), _, [], [], by omega, ⟨1, by omega, rfl, fin hok (fun k h => by simp [prevSeq] at h), rfl, rfl⟩, by simp only [go_sem, ↓reduceIte, reduceCtorEq, Bool.false_eq_true, Bool.true_eq_false, Nat.reduceAdd, Nat.reduceLT, Nat.reduceEqDiff, Nat.reduceLeDiff, Nat.reduceSub, Nat.reduceMul]⟩
      · obtain ⟨j, rfl⟩ : ∃ j, i = j + 1 := ⟨i - 1, by omega⟩
        have hw2 : IntKind.i64.wrap (((j + 1 : Nat) : Int) - 1) = (j : Int) := by rw [wrap_small3] <;> omega
        have hjp : (0 : Int) < ((j + 1 : Nat) : Int) := by omega
        obtain ⟨y, hy⟩ : ∃ y, l[j]? = some y := ⟨_, List.getElem?_eq_getElem (by omega)⟩
        simp (config := {contextual := true}) only [go_sem, ↓reduceIte, reduceCtorEq, Bool.false_eq_true, Bool.true_eq_false, Nat.reduceAdd, Nat.reduceLT, Nat.reduceEqDiff, Nat.reduceLeDiff, Nat.reduceSub, Nat.reduceMul, hlt', hx, Change.pv, hw, hw2, hjp, hy, hok]
        (repeat' (first | (intro _) | (refine ⟨by kernel_rfl, ?_⟩) | (apply And.intro)))
        · refine hfalse fun h => ?_
          have := (hiff.1 h).2.1 y.seq (by simp [prevSeq, hy])
          omega
        · exact ⟨l.length - (j + 1 + 1), _, [], [], by omega, ⟨j + 1 + 1, by omega, rfl, fin hok (fun k h => by simp [prevSeq, hy] at h; omega), rfl, rfl⟩, by simp only [go_sem, ↓reduceIte, reduceCtorEq, Bool.false_eq_true, Bool.true_eq_false, Nat.reduceAdd, Nat.reduceLT, Nat.reduceEqDiff, Nat.reduceLeDiff, Nat.reduceSub, Nat.reduceMul]⟩
    · simp (config := {contextual := true}) only [go_sem, ↓reduceIte, reduceCtorEq, Bool.false_eq_true, Bool.true_eq_false, Nat.reduceAdd, Nat.reduceLT, Nat.reduceEqDiff, Nat.reduceLeDiff, Nat.reduceSub, Nat.reduceMul, hlt', hx, Change.pv, hw, hok]
      exact hfalse fun h => hok (hiff.1 h).1
  · have hlt' : ¬ (i : Int) < (l.length : Int) := by omega
    have hd : l.drop i = [] := List.drop_eq_nil_of_le (by omega)
    rw [hd, trailFrom] at hiff
    simp (config := {contextual := true}) only [go_sem, ↓reduceIte, reduceCtorEq, Bool.false_eq_true, Bool.true_eq_false, Nat.reduceAdd, Nat.reduceLT, Nat.reduceEqDiff, Nat.reduceLeDiff, Nat.reduceSub, Nat.reduceMul, hlt']
    simp [hiff]

end Go.Proofs.Ytjhjnphcdpjnbaa
set_option linter.unusedVariables false
set_option linter.unusedSimpArgs false
set_option maxRecDepth 8000
namespace Go.Proofs.Ytjhjnphcdpjnbaa
open Go Go.Proofs Go.Proofs.YtjhjnphcdpjnbaaVm

theorem trailFrom_weaken : ∀ (l : List Change) (a b : Option Int), (∀ s, b = some s → ∃ s', a = some s' ∧ s ≤ s') → trailFrom a l → trailFrom b l
  | [], _, _, _, _ => trivial
  | c :: r, a, b, h, ht => ⟨ht.1, fun s hs => by
      obtain ⟨s', ha, hle⟩ := h s hs
      have := ht.2.1 s' ha
      omega, ht.2.2⟩
theorem trailFrom_filter (p : Change → Bool) : ∀ (l : List Change) (a : Option Int), trailFrom a l → trailFrom a (l.filter p)
  | [], _, _ => trivial
  | c :: r, a, ht => by
    rw [List.filter_cons]
    split
    · exact ⟨ht.1, ht.2.1, trailFrom_filter p r _ ht.2.2⟩
    · refine trailFrom_weaken _ (some c.seq) a (fun s hs => ⟨c.seq, rfl, ?_⟩) (trailFrom_filter p r _ ht.2.2)
      have := ht.2.1 s hs
      omega
theorem trailOk_filter (p : Change → Bool) (l : List Change) (h : trailOk l) : trailOk (l.filter p) := trailFrom_filter p l none h
theorem dropV_ok {t : List Change} (h : trailOk t) (n : Int) : dropV t n = t.filter (fun c => decide (n < c.seq)) := by
  simp only [dropV, withoutV, h, if_true]
  congr 1
  funext c
  by_cases hc : c.seq ≤ n
  · have : ¬ n < c.seq := by omega
    simp [hc, this]
  · have : n < c.seq := by omega
    simp [hc, this]
theorem dropV_trail {t : List Change} (h : trailOk t) (n : Int) : trailOk (dropV t n) := by
  rw [dropV_ok h]; exact trailOk_filter _ _ h
theorem dropV_drop {t : List Change} (h : trailOk t) {n m : Int} (hnm : n ≤ m) : dropV (dropV t n) m = dropV t m := by
  rw [dropV_ok (dropV_trail h n), dropV_ok h, dropV_ok h, List.filter_filter]
  congr 1
  funext c
  by_cases hc : m < c.seq
  · have : n < c.seq := by omega
    simp [hc, this]
  · simp [hc]
theorem trailFrom_gt : ∀ (l : List Change) (s : Int), trailFrom (some s) l → ∀ x ∈ l, s < x.seq
  | [], _, _, _, hx => by simp at hx
  | c :: r, s, h, x, hx => by
    have h1 := h.2.1 s rfl
    rcases List.mem_cons.1 hx with rfl | hx
    · exact h1
    · have := trailFrom_gt r c.seq h.2.2 x hx
      omega
theorem trailFrom_upto : ∀ (l : List Change) (a : Option Int) (j : Nat) (x : Change), trailFrom a l → l[j]? = some x → ∀ y ∈ l.take (j + 1), y.seq ≤ x.seq
  | [], _, _, _, _, h, _, _ => by simp at h
  | c :: r, a, 0, x, ht, h, y, hy => by
    simp at h hy
    subst h hy
    exact Int.le_refl _
  | c :: r, a, j + 1, x, ht, h, y, hy => by
    rw [List.getElem?_cons_succ] at h
    rw [List.take_succ_cons] at hy
    rcases List.mem_cons.1 hy with rfl | hy
    · have := trailFrom_gt r y.seq ht.2.2 x (List.mem_of_getElem? h)
      omega
    · exact trailFrom_upto r _ j x ht.2.2 h y hy
theorem dropV_at {t : List Change} (h : trailOk t) {n : Int} {k : Nat} (hk' : k ≤ t.length) (h1 : ∀ x ∈ t.drop k, n < x.seq) (h2 : ∀ x, 0 < k → t[k - 1]? = some x → x.seq ≤ n) : dropV t n = t.drop k := by
  rw [dropV_ok h]
  rw [← List.take_append_drop k t, List.filter_append]
  have e1 : (t.take k).filter (fun c => decide (n < c.seq)) = [] := by
    rw [List.filter_eq_nil_iff]
    intro y hy
    rcases Nat.eq_zero_or_pos k with rfl | hk
    · simp at hy
    · have hlt : k - 1 < t.length := by omega
      have hx : t[k - 1]? = some t[k - 1] := List.getElem?_eq_getElem hlt
      have g1 := trailFrom_upto t none (k - 1) _ h hx y (by rw [show k - 1 + 1 = k by omega]; exact hy)
      have g2 := h2 _ hk hx
      simp; omega
  have e2 : (t.drop k).filter (fun c => decide (n < c.seq)) = t.drop k := by
    rw [List.filter_eq_self]
    intro y hy
    simpa using h1 y hy
  rw [e1, e2]
  simp
def backGo (l : List Pair) (s : List Change) : Option (List Pair) := doGo l (s.reverse.map turnC)
theorem backGo_app (l : List Pair) (a s : List Change) : backGo l (a ++ s) = (backGo l s).bind fun p => backGo p a := by
  unfold backGo
  rw [List.reverse_append, List.map_append, doGo_app]
theorem undoV_go {l : List Pair} (h : pairsOk l) (s : List Change) : undoV l s = match backGo l s with | some q => (q, 0) | none => (l, 1) := by
  unfold undoV doV backGo
  rw [if_pos h]
  first | done | (cases doGo l (s.reverse.map turnC) <;> rfl)
theorem backGo_ok {l q : List Pair} {s : List Change} (h : pairsOk l) (hb : backGo l s = some q) : pairsOk q := (doGo_ok _ h hb).1
/-- Pairs as of a number. -/
def atV (l : List Pair) (t : List Change) (floor seq : Int) : List Pair × Int :=
  if pairsOk l ∧ trailOk t then (if seq < floor then ([], 8) else match backGo l (dropV t seq) with | some q => (q, 0) | none => ([], 1)) else ([], 1)
theorem backGo_len {l q : List Pair} {s : List Change} (h : pairsOk l) (hb : backGo l s = some q) : q.length ≤ l.length + s.length := by
  have := doGo_len _ h hb
  simpa using this
theorem dropV_len (t : List Change) (n : Int) : (dropV t n).length ≤ t.length := by
  unfold dropV withoutV
  split
  · exact List.length_filter_le _ _
  · simp
theorem atV_len (l : List Pair) (t : List Change) (floor seq : Int) : (atV l t floor seq).1.length ≤ l.length + t.length := by
  unfold atV
  split
  · rename_i h
    split
    · simp
    · split
      · rename_i q hq
        have h1 := backGo_len h.1 hq
        have h2 := dropV_len t seq
        simp only
        omega
      · simp
  · simp
end Go.Proofs.Ytjhjnphcdpjnbaa
set_option linter.unusedVariables false
set_option linter.unusedSimpArgs false
set_option maxRecDepth 8000
namespace Go.Proofs.Ytjhjnphcdpjnbaa
open Go Go.Proofs Go.Proofs.YtjhjnphcdpjnbaaVm Go.Proofs.Ytjhjnphcdpjnbaa.Ty

set_option maxHeartbeats 4000000 in
theorem past_At (l : List Pair) (t : List Change) (floor seq : Int) (hl : l.length ≤ 200000) (ht : t.length ≤ 200000) :
    Ct Try.prog 38 (YtjhjnphcdpjnbaaVm.ops [.row (l.map Pair.pv), .row (t.map Change.pv), .int .i64 floor, .int .i64 seq]) (.vals [.row ((atV l t floor seq).1.map Pair.pv), .int .i64 (atV l t floor seq).2]) := by
  have hdl := dropV_len t seq
  refine Ct.of_V Try.func38 rfl (by simp [YtjhjnphcdpjnbaaVm.ops, Try.f38]) ?_
  refine V.exec 400 ?_
  simp (config := {contextual := true}) only [go_sem, ↓reduceIte, reduceCtorEq, Bool.false_eq_true, Bool.true_eq_false, Nat.reduceAdd, Nat.reduceLT, Nat.reduceEqDiff, Nat.reduceLeDiff, Nat.reduceSub, Nat.reduceMul, Try.f38]
  refine V.call rfl rfl (by simp [dOK]) ⟨46, [], by simp only [go_sem, ↓reduceIte, reduceCtorEq, Bool.false_eq_true, Bool.true_eq_false, Nat.reduceAdd, Nat.reduceLT, Nat.reduceEqDiff, Nat.reduceLeDiff, Nat.reduceSub, Nat.reduceMul], ⟨_, rfl, rfl, rfl⟩, .inl ⟨[.row (l.map Pair.pv)], _, .inl (by simp only [go_sem, ↓reduceIte, reduceCtorEq, Bool.false_eq_true, Bool.true_eq_false, Nat.reduceAdd, Nat.reduceLT, Nat.reduceEqDiff, Nat.reduceLeDiff, Nat.reduceSub, Nat.reduceMul]), leaf_Right l (by omega), .inl ⟨_, rfl, rfl, rfl, rfl⟩⟩⟩ ?_
  refine V.exec 400 ?_
  by_cases hok : pairsOk l
  · simp (config := {contextual := true}) only [go_sem, ↓reduceIte, reduceCtorEq, Bool.false_eq_true, Bool.true_eq_false, Nat.reduceAdd, Nat.reduceLT, Nat.reduceEqDiff, Nat.reduceLeDiff, Nat.reduceSub, Nat.reduceMul, hok]
    refine V.call rfl rfl (by simp [dOK]) ⟨65, [], by simp only [go_sem, ↓reduceIte, reduceCtorEq, Bool.false_eq_true, Bool.true_eq_false, Nat.reduceAdd, Nat.reduceLT, Nat.reduceEqDiff, Nat.reduceLeDiff, Nat.reduceSub, Nat.reduceMul], ⟨_, rfl, rfl, rfl⟩, .inl ⟨[.row (t.map Change.pv)], _, .inl (by simp only [go_sem, ↓reduceIte, reduceCtorEq, Bool.false_eq_true, Bool.true_eq_false, Nat.reduceAdd, Nat.reduceLT, Nat.reduceEqDiff, Nat.reduceLeDiff, Nat.reduceSub, Nat.reduceMul]), trail_Right t (by omega), .inl ⟨_, rfl, rfl, rfl, rfl⟩⟩⟩ ?_
    refine V.exec 400 ?_
    by_cases hto : trailOk t
    · by_cases hlt : seq < floor
      · have hv : atV l t floor seq = ([], 8) := by unfold atV; rw [if_pos ⟨hok, hto⟩, if_pos hlt]
        simp (config := {contextual := true}) only [go_sem, ↓reduceIte, reduceCtorEq, Bool.false_eq_true, Bool.true_eq_false, Nat.reduceAdd, Nat.reduceLT, Nat.reduceEqDiff, Nat.reduceLeDiff, Nat.reduceSub, Nat.reduceMul, hto, hlt, hv, List.map_nil]
      · simp (config := {contextual := true}) only [go_sem, ↓reduceIte, reduceCtorEq, Bool.false_eq_true, Bool.true_eq_false, Nat.reduceAdd, Nat.reduceLT, Nat.reduceEqDiff, Nat.reduceLeDiff, Nat.reduceSub, Nat.reduceMul, hto, hlt]
        refine V.call rfl rfl (by simp [dOK]) ⟨67, [], by simp only [go_sem, ↓reduceIte, reduceCtorEq, Bool.false_eq_true, Bool.true_eq_false, Nat.reduceAdd, Nat.reduceLT, Nat.reduceEqDiff, Nat.reduceLeDiff, Nat.reduceSub, Nat.reduceMul], ⟨_, rfl, rfl, rfl⟩, .inl ⟨[.row (t.map Change.pv), .int .i64 seq], _, .inl (by simp only [go_sem, ↓reduceIte, reduceCtorEq, Bool.false_eq_true, Bool.true_eq_false, Nat.reduceAdd, Nat.reduceLT, Nat.reduceEqDiff, Nat.reduceLeDiff, Nat.reduceSub, Nat.reduceMul]), trail_Drop t seq (by omega), .inr (.inl ⟨_, rfl, rfl, rfl⟩)⟩⟩ ?_
        refine V.exec 400 ?_
        simp (config := {contextual := true}) only [go_sem, ↓reduceIte, reduceCtorEq, Bool.false_eq_true, Bool.true_eq_false, Nat.reduceAdd, Nat.reduceLT, Nat.reduceEqDiff, Nat.reduceLeDiff, Nat.reduceSub, Nat.reduceMul]
        have hu := change_Undo l (dropV t seq) (by omega) (by omega)
        rw [undoV_go hok] at hu
        cases hb : backGo l (dropV t seq) with
        | none =>
          have hv : atV l t floor seq = ([], 1) := by unfold atV; rw [if_pos ⟨hok, hto⟩, if_neg hlt, hb]
          rw [hb] at hu
          simp only at hu
          refine V.call rfl rfl (by simp [dOK]) ⟨66, [], by simp only [go_sem, ↓reduceIte, reduceCtorEq, Bool.false_eq_true, Bool.true_eq_false, Nat.reduceAdd, Nat.reduceLT, Nat.reduceEqDiff, Nat.reduceLeDiff, Nat.reduceSub, Nat.reduceMul], ⟨_, rfl, rfl, rfl⟩, .inl ⟨[.row (l.map Pair.pv), .row ((dropV t seq).map Change.pv)], _, .inl (by simp only [go_sem, ↓reduceIte, reduceCtorEq, Bool.false_eq_true, Bool.true_eq_false, Nat.reduceAdd, Nat.reduceLT, Nat.reduceEqDiff, Nat.reduceLeDiff, Nat.reduceSub, Nat.reduceMul]), hu, .inr (.inl ⟨_, rfl, rfl, rfl⟩)⟩⟩ ?_
          refine V.exec 400 ?_
          have h10 : ¬ (1 : Int) = 0 := by decide
          simp (config := {contextual := true}) only [go_sem, ↓reduceIte, reduceCtorEq, Bool.false_eq_true, Bool.true_eq_false, Nat.reduceAdd, Nat.reduceLT, Nat.reduceEqDiff, Nat.reduceLeDiff, Nat.reduceSub, Nat.reduceMul, hv, h10, List.map_nil]
        | some q =>
          have hv : atV l t floor seq = (q, 0) := by unfold atV; rw [if_pos ⟨hok, hto⟩, if_neg hlt, hb]
          rw [hb] at hu
          simp only at hu
          refine V.call rfl rfl (by simp [dOK]) ⟨66, [], by simp only [go_sem, ↓reduceIte, reduceCtorEq, Bool.false_eq_true, Bool.true_eq_false, Nat.reduceAdd, Nat.reduceLT, Nat.reduceEqDiff, Nat.reduceLeDiff, Nat.reduceSub, Nat.reduceMul], ⟨_, rfl, rfl, rfl⟩, .inl ⟨[.row (l.map Pair.pv), .row ((dropV t seq).map Change.pv)], _, .inl (by simp only [go_sem, ↓reduceIte, reduceCtorEq, Bool.false_eq_true, Bool.true_eq_false, Nat.reduceAdd, Nat.reduceLT, Nat.reduceEqDiff, Nat.reduceLeDiff, Nat.reduceSub, Nat.reduceMul]), hu, .inr (.inl ⟨_, rfl, rfl, rfl⟩)⟩⟩ ?_
          refine V.exec 400 ?_
          simp (config := {contextual := true}) only [go_sem, ↓reduceIte, reduceCtorEq, Bool.false_eq_true, Bool.true_eq_false, Nat.reduceAdd, Nat.reduceLT, Nat.reduceEqDiff, Nat.reduceLeDiff, Nat.reduceSub, Nat.reduceMul, hv]
    · have hv : atV l t floor seq = ([], 1) := by unfold atV; rw [if_neg (fun h => hto h.2)]
      simp (config := {contextual := true}) only [go_sem, ↓reduceIte, reduceCtorEq, Bool.false_eq_true, Bool.true_eq_false, Nat.reduceAdd, Nat.reduceLT, Nat.reduceEqDiff, Nat.reduceLeDiff, Nat.reduceSub, Nat.reduceMul, hto, hv, List.map_nil]
  · have hv : atV l t floor seq = ([], 1) := by unfold atV; rw [if_neg (fun h => hok h.1)]
    simp (config := {contextual := true}) only [go_sem, ↓reduceIte, reduceCtorEq, Bool.false_eq_true, Bool.true_eq_false, Nat.reduceAdd, Nat.reduceLT, Nat.reduceEqDiff, Nat.reduceLeDiff, Nat.reduceSub, Nat.reduceMul, hok, hv, List.map_nil]

theorem one_pv {t : List Change} {j : Nat} {x : Change} (hx : t[j]? = some x) : ((t.map Change.pv).take (j + 1)).drop j = [x.pv] :=
  one_slice (l := t.map Change.pv) (i := j) (x := x.pv) (by rw [List.getElem?_map, hx]; rfl)

set_option maxHeartbeats 8000000 in
theorem ref18_At (l : List Pair) (t : List Change) (floor seq : Int) (hl : l.length ≤ 100000) (ht : t.length ≤ 100000) :
    Ct Try.prog 44 (YtjhjnphcdpjnbaaVm.ops [.row (l.map Pair.pv), .row (t.map Change.pv), .int .i64 floor, .int .i64 seq]) (.vals [.row ((atV l t floor seq).1.map Pair.pv), .int .i64 (atV l t floor seq).2]) := by
  have hdl := dropV_len t seq
  refine Ct.of_V Try.func44 rfl (by simp [YtjhjnphcdpjnbaaVm.ops, Try.f44]) ?_
  refine V.exec 400 ?_
  simp (config := {contextual := true}) only [go_sem, ↓reduceIte, reduceCtorEq, Bool.false_eq_true, Bool.true_eq_false, Nat.reduceAdd, Nat.reduceLT, Nat.reduceEqDiff, Nat.reduceLeDiff, Nat.reduceSub, Nat.reduceMul, Try.f44]
  refine V.call rfl rfl (by simp [dOK]) ⟨57, [], by simp only [go_sem, ↓reduceIte, reduceCtorEq, Bool.false_eq_true, Bool.true_eq_false, Nat.reduceAdd, Nat.reduceLT, Nat.reduceEqDiff, Nat.reduceLeDiff, Nat.reduceSub, Nat.reduceMul], ⟨_, rfl, rfl, rfl⟩, .inl ⟨[.row (l.map Pair.pv)], _, .inl (by simp only [go_sem, ↓reduceIte, reduceCtorEq, Bool.false_eq_true, Bool.true_eq_false, Nat.reduceAdd, Nat.reduceLT, Nat.reduceEqDiff, Nat.reduceLeDiff, Nat.reduceSub, Nat.reduceMul]), ref10_Right l (by omega), .inl ⟨_, rfl, rfl, rfl, rfl⟩⟩⟩ ?_
  refine V.exec 400 ?_
  simp (config := {contextual := true}) only [go_sem, ↓reduceIte, reduceCtorEq, Bool.false_eq_true, Bool.true_eq_false, Nat.reduceAdd, Nat.reduceLT, Nat.reduceEqDiff, Nat.reduceLeDiff, Nat.reduceSub, Nat.reduceMul]
  refine V.call rfl rfl (by simp [dOK]) ⟨72, [], by simp only [go_sem, ↓reduceIte, reduceCtorEq, Bool.false_eq_true, Bool.true_eq_false, Nat.reduceAdd, Nat.reduceLT, Nat.reduceEqDiff, Nat.reduceLeDiff, Nat.reduceSub, Nat.reduceMul], ⟨_, rfl, rfl, rfl⟩, .inl ⟨[.row (t.map Change.pv)], _, .inl (by simp only [go_sem, ↓reduceIte, reduceCtorEq, Bool.false_eq_true, Bool.true_eq_false, Nat.reduceAdd, Nat.reduceLT, Nat.reduceEqDiff, Nat.reduceLeDiff, Nat.reduceSub, Nat.reduceMul]), ref16_Right t (by omega), .inl ⟨_, rfl, rfl, rfl, rfl⟩⟩⟩ ?_
  refine V.exec 400 ?_
  by_cases hok : pairsOk l
  · by_cases hto : trailOk t
    · by_cases hlt : seq < floor
      · have hv : atV l t floor seq = ([], 8) := by unfold atV; rw [if_pos ⟨hok, hto⟩, if_pos hlt]
        simp (config := {contextual := true}) only [go_sem, ↓reduceIte, reduceCtorEq, Bool.false_eq_true, Bool.true_eq_false, Nat.reduceAdd, Nat.reduceLT, Nat.reduceEqDiff, Nat.reduceLeDiff, Nat.reduceSub, Nat.reduceMul, hok, hto, hlt, hv, List.map_nil]
      · have hw0 : IntKind.i64.wrap ((t.length : Int) - 1) = (t.length : Int) - 1 := by rw [wrap_small3] <;> omega
        have hv : atV l t floor seq = match backGo l (dropV t seq) with | some q => (q, 0) | none => ([], 1) := by unfold atV; rw [if_pos ⟨hok, hto⟩, if_neg hlt]; first | done | (cases backGo l (dropV t seq) <;> rfl)
        simp (config := {contextual := true}) only [go_sem, ↓reduceIte, reduceCtorEq, Bool.false_eq_true, Bool.true_eq_false, Nat.reduceAdd, Nat.reduceLT, Nat.reduceEqDiff, Nat.reduceLeDiff, Nat.reduceSub, Nat.reduceMul, hok, hto, hlt, hw0]
        refine V.loop (fun m ls os => ∃ (k : Nat) (out : List Pair) (z : Int), k ≤ t.length ∧ m = k ∧ z = (k : Int) - 1 ∧ out.length ≤ 200000 ∧ (∀ x ∈ t.drop k, seq < x.seq) ∧ backGo l (t.drop k) = some out ∧
            ls = [(1, .val (.row (t.map Change.pv))), (3, .val (.int .i64 seq)), (12, .val (.row (out.map Pair.pv))), (13, .val (.int .i64 z))] ∧ os = []) 0 t.length
          [(1, .val (.row (t.map Change.pv))), (3, .val (.int .i64 seq)), (12, .val (.row (l.map Pair.pv))), (13, .val (.int .i64 ((t.length : Int) - 1)))] [] []
          ⟨t.length, l, _, Nat.le_refl _, rfl, rfl, by omega, by simp, by simp [backGo, doGo], rfl, rfl⟩ (by simp only [go_sem, ↓reduceIte, reduceCtorEq, Bool.false_eq_true, Bool.true_eq_false, Nat.reduceAdd, Nat.reduceLT, Nat.reduceEqDiff, Nat.reduceLeDiff, Nat.reduceSub, Nat.reduceMul]) ?_
        rintro m ls os ⟨k, out, z, hk, rfl, hz, hol, hall, hb, rfl, rfl⟩
        have hend : (∀ x, 0 < m → t[m - 1]? = some x → x.seq ≤ seq) → atV l t floor seq = (out, 0) := fun h => by
          rw [hv, dropV_at hto hk hall h, hb]
        cases m with
        | zero =>
          have hv2 := hend (fun x h => absurd h (by omega))
          obtain rfl : z = -1 := by omega
          have hng : ¬ (0 : Int) ≤ -1 := by decide
          refine V.exec 400 ?_
          simp (config := {contextual := true}) only [go_sem, ↓reduceIte, reduceCtorEq, Bool.false_eq_true, Bool.true_eq_false, Nat.reduceAdd, Nat.reduceLT, Nat.reduceEqDiff, Nat.reduceLeDiff, Nat.reduceSub, Nat.reduceMul, hv2, hng]
        | succ j =>
          obtain rfl : z = (j : Int) := by omega
          obtain ⟨x, hx⟩ : ∃ x, t[j]? = some x := ⟨_, List.getElem?_eq_getElem (by omega)⟩
          have hjp : (0 : Int) ≤ (j : Int) := by omega
          have hw1 : IntKind.i64.wrap ((j : Int) + 1) = ((j + 1 : Nat) : Int) := by rw [wrap_small3] <;> omega
          have hw2 : IntKind.i64.wrap ((j : Int) - 1) = (j : Int) - 1 := by rw [wrap_small3] <;> omega
          refine V.exec 400 ?_
          by_cases hs : seq < x.seq
          · simp (config := {contextual := true}) only [go_sem, ↓reduceIte, reduceCtorEq, Bool.false_eq_true, Bool.true_eq_false, Nat.reduceAdd, Nat.reduceLT, Nat.reduceEqDiff, Nat.reduceLeDiff, Nat.reduceSub, Nat.reduceMul, hjp, hx, Change.pv, hs, hw1]
            have hxs := one_pv hx
            have hu := ref15_Undo out [x] (by omega) (by simp)
            have hpo := backGo_ok hok hb
            rw [undoV_go hpo] at hu
            have hd : t.drop j = [x] ++ t.drop (j + 1) := by rw [drop_of_get hx]; rfl
            have hbj := backGo_app l [x] (t.drop (j + 1))
            rw [← hd, hb, Option.bind_some] at hbj
            have hallj : ∀ y ∈ t.drop j, seq < y.seq := fun y hy => by
              rw [hd] at hy
              rcases List.mem_append.1 hy with hy | hy
              · simp at hy; rw [hy]; exact hs
              · exact hall y hy
            refine ⟨⟨by omega, by omega⟩, ?_⟩
            cases hb1 : backGo out [x] with
            | none =>
              have hv2 : atV l t floor seq = ([], 1) := by
                rw [hv, dropV_ok hto]
                have e : t.filter (fun c => decide (seq < c.seq)) = (t.take j).filter (fun c => decide (seq < c.seq)) ++ t.drop j := by
                  conv => lhs; rw [← List.take_append_drop j t, List.filter_append]
                  congr 1
                  rw [List.filter_eq_self]
                  intro y hy
                  simpa using hallj y hy
                rw [e, backGo_app, hbj, hb1]
                rfl
              rw [hb1] at hu
              simp only at hu
              refine V.call rfl rfl (by simp [dOK]) ⟨73, [], by simp only [go_sem, ↓reduceIte, reduceCtorEq, Bool.false_eq_true, Bool.true_eq_false, Nat.reduceAdd, Nat.reduceLT, Nat.reduceEqDiff, Nat.reduceLeDiff, Nat.reduceSub, Nat.reduceMul], ⟨_, rfl, rfl, rfl⟩, .inl ⟨[.row (out.map Pair.pv), .row [x.pv]], _, .inl (by simp only [go_sem, ↓reduceIte, reduceCtorEq, Bool.false_eq_true, Bool.true_eq_false, Nat.reduceAdd, Nat.reduceLT, Nat.reduceEqDiff, Nat.reduceLeDiff, Nat.reduceSub, Nat.reduceMul, hxs]), hu, .inr (.inl ⟨_, rfl, rfl, rfl⟩)⟩⟩ ?_
              refine V.exec 400 ?_
              have h10 : ¬ (1 : Int) = 0 := by decide
              simp (config := {contextual := true}) only [go_sem, ↓reduceIte, reduceCtorEq, Bool.false_eq_true, Bool.true_eq_false, Nat.reduceAdd, Nat.reduceLT, Nat.reduceEqDiff, Nat.reduceLeDiff, Nat.reduceSub, Nat.reduceMul, hv2, h10, List.map_nil]
            | some q =>
              rw [hb1] at hu hbj
              simp only at hu
              have hql := backGo_len hok hbj
              rw [List.length_drop] at hql
              refine V.call rfl rfl (by simp [dOK]) ⟨73, [], by simp only [go_sem, ↓reduceIte, reduceCtorEq, Bool.false_eq_true, Bool.true_eq_false, Nat.reduceAdd, Nat.reduceLT, Nat.reduceEqDiff, Nat.reduceLeDiff, Nat.reduceSub, Nat.reduceMul], ⟨_, rfl, rfl, rfl⟩, .inl ⟨[.row (out.map Pair.pv), .row [x.pv]], _, .inl (by simp only [go_sem, ↓reduceIte, reduceCtorEq, Bool.false_eq_true, Bool.true_eq_false, Nat.reduceAdd, Nat.reduceLT, Nat.reduceEqDiff, Nat.reduceLeDiff, Nat.reduceSub, Nat.reduceMul, hxs]), hu, .inr (.inl ⟨_, rfl, rfl, rfl⟩)⟩⟩ ?_
              refine V.exec 400 ?_
              simp (config := {contextual := true}) only [go_sem, ↓reduceIte, reduceCtorEq, Bool.false_eq_true, Bool.true_eq_false, Nat.reduceAdd, Nat.reduceLT, Nat.reduceEqDiff, Nat.reduceLeDiff, Nat.reduceSub, Nat.reduceMul, hw2, decide_true]
              exact ⟨j, _, [], [], by omega, ⟨j, q, _, by omega, rfl, rfl, by omega, hallj, hbj, rfl, rfl⟩, by simp only [go_sem, ↓reduceIte, reduceCtorEq, Bool.false_eq_true, Bool.true_eq_false, Nat.reduceAdd, Nat.reduceLT, Nat.reduceEqDiff, Nat.reduceLeDiff, Nat.reduceSub, Nat.reduceMul]⟩
          · have hv2 := hend (fun y _ hy => by
              simp only [Nat.add_sub_cancel] at hy
              rw [hx] at hy; cases hy; omega)
            simp (config := {contextual := true}) only [go_sem, ↓reduceIte, reduceCtorEq, Bool.false_eq_true, Bool.true_eq_false, Nat.reduceAdd, Nat.reduceLT, Nat.reduceEqDiff, Nat.reduceLeDiff, Nat.reduceSub, Nat.reduceMul, hjp, hx, Change.pv, hs, hv2]
    · have hv : atV l t floor seq = ([], 1) := by unfold atV; rw [if_neg (fun h => hto h.2)]
      simp (config := {contextual := true}) only [go_sem, ↓reduceIte, reduceCtorEq, Bool.false_eq_true, Bool.true_eq_false, Nat.reduceAdd, Nat.reduceLT, Nat.reduceEqDiff, Nat.reduceLeDiff, Nat.reduceSub, Nat.reduceMul, hok, hto, hv, List.map_nil]
  · have hv : atV l t floor seq = ([], 1) := by unfold atV; rw [if_neg (fun h => hok h.1)]
    simp (config := {contextual := true}) only [go_sem, ↓reduceIte, reduceCtorEq, Bool.false_eq_true, Bool.true_eq_false, Nat.reduceAdd, Nat.reduceLT, Nat.reduceEqDiff, Nat.reduceLeDiff, Nat.reduceSub, Nat.reduceMul, hok, hv, List.map_nil]
end Go.Proofs.Ytjhjnphcdpjnbaa
set_option linter.unusedVariables false
set_option linter.unusedSimpArgs false
set_option maxRecDepth 8000
namespace Go.Proofs.Ytjhjnphcdpjnbaa
open Go Go.Proofs Go.Proofs.YtjhjnphcdpjnbaaVm Go.Proofs.Ytjhjnphcdpjnbaa.Ty

/-- One value, as of a number. -/
def atGetV (l : List Pair) (t : List Change) (floor seq : Int) (k : List UInt8) : List UInt8 × Bool × Int :=
  if (atV l t floor seq).2 = 0 then ((getV (atV l t floor seq).1 k).1, (getV (atV l t floor seq).1 k).2, 0) else ([], false, (atV l t floor seq).2)
def cutN (most : Int) (n : Nat) : Nat := (max 0 (min most n)).toNat
/-- The first pairs of a range, as of a number. -/
def pageV (l : List Pair) (t : List Change) (floor seq most : Int) (r : Range) : List Pair × Bool × Int :=
  if (atV l t floor seq).2 = 0 then ((pickV r (atV l t floor seq).1).take (cutN most (pickV r (atV l t floor seq).1).length), decide (cutN most (pickV r (atV l t floor seq).1).length < (pickV r (atV l t floor seq).1).length), 0) else ([], false, (atV l t floor seq).2)

end Go.Proofs.Ytjhjnphcdpjnbaa
set_option linter.unusedVariables false
set_option linter.unusedSimpArgs false
set_option maxRecDepth 8000
namespace Go.Proofs.Ytjhjnphcdpjnbaa
open Go Go.Proofs Go.Proofs.YtjhjnphcdpjnbaaVm Go.Proofs.Ytjhjnphcdpjnbaa.Ty

def Pair.fine (s : Pair) : Prop := s.key.length ≤ 300 ∧ s.value.length ≤ 300
def Change.fine (s : Change) : Prop := s.key.length ≤ 300 ∧ s.bef.length ≤ 300 ∧ s.aft.length ≤ 300
instance (s : Pair) : Decidable s.fine := by unfold Pair.fine; infer_instance
instance (s : Change) : Decidable s.fine := by unfold Change.fine; infer_instance
def smallPC (l : List Pair) (t : List Change) : Prop := l.length ≤ 60 ∧ t.length ≤ 60 ∧ (∀ s ∈ l, s.fine) ∧ ∀ s ∈ t, s.fine
instance instSmallPC (l : List Pair) (t : List Change) : Decidable (smallPC l t) := by unfold smallPC; infer_instance
theorem take_all {α : Type} {P : α → Prop} {l : List α} {i : Nat} {x : α} (hx : l[i]? = some x) (h : ∀ s ∈ l.take i, P s) (hp : P x) : ∀ s ∈ l.take (i + 1), P s := fun s hs => by
  rw [List.take_add_one, hx] at hs
  rcases List.mem_append.1 hs with hs | hs
  · exact h s hs
  · simp at hs; rw [hs]; exact hp

def wP2 : Pair := ⟨[97], [50]⟩
def wP1 : Pair := ⟨[97], [49]⟩
def wC1 : Change := ⟨1, [97], false, [], true, [49]⟩
def wC2 : Change := ⟨2, [97], true, [49], true, [50]⟩
theorem wv1 : atV [wP2] [wC1, wC2] 0 1 = ([wP1], 0) := by kernel_rfl
theorem wv2 : atV [wP2] [wC1, wC2] 0 0 = ([], 0) := by kernel_rfl
theorem wv3 : atV [wP2] [wC1, wC2] 1 0 = ([], 8) := by kernel_rfl
theorem wv4 : atGetV [wP2] [wC1, wC2] 0 1 [97] = ([49], true, 0) := by kernel_rfl
theorem wv5 : pageV [wP2] [wC1, wC2] 0 2 0 ⟨[], [], true⟩ = ([], true, 0) := by kernel_rfl

end Go.Proofs.Ytjhjnphcdpjnbaa
set_option linter.unusedVariables false
set_option linter.unusedSimpArgs false
set_option maxRecDepth 8000
namespace Go.Proofs.Ytjhjnphcdpjnbaa
open Go Go.Proofs Go.Proofs.YtjhjnphcdpjnbaaVm Go.Proofs.Ytjhjnphcdpjnbaa.Ty

theorem int_bot' {a : Int} (w : (Lit.int .i64 a).wf = true) : -9223372036854775808 ≤ a := by
  simp only [Lit.wf, Bool.and_eq_true, decide_eq_true_eq] at w
  have e2 : IntKind.min .i64 = -9223372036854775808 := by decide
  rw [e2] at w
  exact w.1
theorem int_top' {a : Int} (w : (Lit.int .i64 a).wf = true) : a ≤ 9223372036854775807 := by
  simp only [Lit.wf, Bool.and_eq_true, decide_eq_true_eq] at w
  have e2 : IntKind.max .i64 = 9223372036854775807 := by decide
  rw [e2] at w
  exact w.2
theorem change_one' (qs : List PV) (hk : qs.map PV.kd = [.int .i64, .str, .bool, .str, .bool, .str]) : ∃ s : Change, PV.agg qs = s.pv := by
  match qs, hk with
  | [.int k n, .str a, .bool b, .str c, .bool d, .str e], hk =>
    simp only [List.map_cons, PV.kd, List.cons.injEq, KD.int.injEq] at hk
    obtain ⟨rfl, _⟩ := hk
    exact ⟨⟨n, a, b, c, d, e⟩, by simp [Change.pv]⟩
theorem change_of' (xs : List PV) (h : ∀ x ∈ xs, ∃ qs, x = .agg qs ∧ qs.map PV.kd = [.int .i64, .str, .bool, .str, .bool, .str] ∧ ∀ q ∈ qs, q.wfv) : ∃ t : List Change, xs = t.map Change.pv := by
  induction xs with
  | nil => exact ⟨[], rfl⟩
  | cons x r ih =>
    obtain ⟨t, rfl⟩ := ih (fun y hy => h y (List.mem_cons_of_mem _ hy))
    obtain ⟨qs, rfl, hk, hw⟩ := h x List.mem_cons_self
    obtain ⟨s, hs⟩ := change_one' qs hk
    exact ⟨s :: t, by rw [hs]; rfl⟩
theorem range_one (qs : List PV) (hk : qs.map PV.kd = [.str, .str, .bool]) : ∃ s : Range, PV.agg qs = s.pv := by
  match qs, hk with
  | [.str a, .str b, .bool c], hk => exact ⟨⟨a, b, c⟩, by simp [Range.pv]⟩

theorem atV_facts (l : List Pair) (t : List Change) (floor seq : Int) : ((atV l t floor seq).2 = 0 ∧ pairsOk (atV l t floor seq).1 ∧ ¬ seq < floor ∧ pairsOk l ∧ trailOk t) ∨ ((atV l t floor seq).1 = [] ∧ ((atV l t floor seq).2 = 1 ∧ (¬ (pairsOk l ∧ trailOk t) ∨ ¬ seq < floor) ∨ (atV l t floor seq).2 = 8 ∧ seq < floor)) := by
  unfold atV
  by_cases h : pairsOk l ∧ trailOk t
  · rw [if_pos h]
    by_cases hs : seq < floor
    · rw [if_pos hs]; exact .inr ⟨rfl, .inr ⟨rfl, hs⟩⟩
    · rw [if_neg hs]
      cases hb : backGo l (dropV t seq) with
      | none => exact .inr ⟨rfl, .inl ⟨rfl, .inr hs⟩⟩
      | some q => exact .inl ⟨rfl, backGo_ok h.1 hb, hs, h⟩
  · rw [if_neg h]; exact .inr ⟨rfl, .inl ⟨rfl, .inl h⟩⟩
theorem pageV_len (l : List Pair) (t : List Change) (floor seq most : Int) (r : Range) : (pageV l t floor seq most r).1.length ≤ l.length + t.length := by
  have h1 := atV_len l t floor seq
  have h2 := pickV_len r (atV l t floor seq).1
  unfold pageV
  split
  · simp only [List.length_take]; omega
  · simp
end Go.Proofs.Ytjhjnphcdpjnbaa
set_option linter.unusedVariables false
set_option linter.unusedSimpArgs false
set_option maxRecDepth 8000
namespace Go.Proofs.Ytjhjnphcdpjnbaa
open Go Go.Proofs Go.Proofs.YtjhjnphcdpjnbaaVm

theorem slt_zero : ∀ (k x : List UInt8), ¬ slt k (x ++ [0]) ↔ slt x k
  | [], x => by
    constructor
    · intro h
      cases x with
      | nil => exact absurd (by simp [slt, strLt, Op.bytesLess]) h
      | cons a r => exact absurd (by simp [slt, strLt, Op.bytesLess]) h
    · intro h; exact absurd h (slt_nil x)
  | a :: k, [] => by
    constructor
    · intro _; simp [slt, strLt, Op.bytesLess]
    · intro _ h
      rw [List.nil_append, slt_cons] at h
      rcases h with h | ⟨_, h⟩
      · have : a.toNat < (0 : UInt8).toNat := h
        simp at this
      · exact slt_nil k h
  | a :: k, b :: x => by
    have ih := slt_zero k x
    rw [List.cons_append, slt_cons, slt_cons]
    constructor
    · intro h
      by_cases hab : a = b
      · subst hab
        exact .inr ⟨rfl, ih.1 fun g => h (.inr ⟨rfl, g⟩)⟩
      · left
        have h1 : ¬ a < b := fun g => h (.inl g)
        have h2 : ¬ a.toNat < b.toNat := h1
        have h3 : a.toNat ≠ b.toNat := fun g => hab (UInt8.toNat_inj.1 g)
        show b.toNat < a.toNat
        omega
    · intro h g
      rcases h with h | ⟨rfl, h⟩
      · have h' : b.toNat < a.toNat := h
        rcases g with g | ⟨rfl, _⟩
        · have g' : a.toNat < b.toNat := g
          omega
        · omega
      · rcases g with g | ⟨_, g⟩
        · have g' : b.toNat < b.toNat := g
          omega
        · exact ih.2 h g
theorem sorted_drop : ∀ {P : List Pair}, Sorted P → ∀ {j : Nat} {x : Pair}, P[j]? = some x → P.filter (fun p => decide (slt x.key p.key)) = P.drop (j + 1)
  | [], _, _, _, h => by simp at h
  | p :: r, hs, 0, x, h => by
    simp at h
    subst h
    have hs' := List.pairwise_cons.1 hs
    rw [List.filter_cons]
    simp only [slt_irrefl, decide_false, Bool.false_eq_true, if_false]
    rw [List.filter_eq_self.2 (fun y hy => by simpa using hs'.1 y hy)]
    rfl
  | p :: r, hs, j + 1, x, h => by
    rw [List.getElem?_cons_succ] at h
    have hs' := List.pairwise_cons.1 hs
    have hx := hs'.1 x (List.mem_of_getElem? h)
    rw [List.filter_cons]
    simp only [slt_asymm hx, decide_false, Bool.false_eq_true, if_false]
    rw [sorted_drop hs'.2 h]
    rfl
/-- What is behind a key of a range's pairs is the rest of them. -/
theorem pick_behind {p : List Pair} (hs : Sorted p) (r : Range) {j : Nat} {x : Pair} (h : (pickV r p)[j]? = some x) : pickV ⟨x.key ++ [0], r.hi, r.op⟩ p = (pickV r p).drop (j + 1) := by
  have hx := List.mem_of_getElem? h
  have hxi : r.isIn x.key := by simpa using (List.mem_filter.1 hx).2
  have hsp : Sorted (pickV r p) := List.Pairwise.sublist List.filter_sublist hs
  rw [← sorted_drop hsp h]
  unfold pickV
  rw [List.filter_filter]
  congr 1
  funext q
  have e : (Range.isIn ⟨x.key ++ [0], r.hi, r.op⟩ q.key) ↔ (slt x.key q.key ∧ r.isIn q.key) := by
    unfold Range.isIn
    simp only
    rw [slt_zero]
    constructor
    · rintro ⟨h1, h2⟩
      refine ⟨h1, fun h3 => ?_, h2⟩
      exact hxi.1 (slt_trans h1 h3)
    · rintro ⟨h1, h2, h3⟩
      exact ⟨h1, h3⟩
  by_cases h1 : slt x.key q.key <;> by_cases h2 : r.isIn q.key <;> simp [e, h1, h2]
end Go.Proofs.Ytjhjnphcdpjnbaa
set_option linter.unusedVariables false
set_option linter.unusedSimpArgs false
set_option maxRecDepth 8000
namespace Go.Proofs.Ytjhjnphcdpjnbaa
open Go Go.Proofs Go.Proofs.YtjhjnphcdpjnbaaVm Go.Proofs.Ytjhjnphcdpjnbaa.Ty

theorem meet_two (r : Range) (n k : List UInt8) : (meetV [r, ⟨n, [], true⟩]).isIn k ↔ r.isIn k ∧ ¬ slt k n := by
  have hmax : ∀ a b : List UInt8, ¬ slt k (maxStr a b) ↔ ¬ slt k a ∧ ¬ slt k b := fun a b => by
    unfold maxStr
    split
    · rename_i h
      exact ⟨fun g => ⟨fun x => g (slt_trans x h), g⟩, fun g => g.2⟩
    · rename_i h
      refine ⟨fun g => ⟨g, fun x => ?_⟩, fun g => g.1⟩
      rcases slt_total a b with h1 | h1 | h1
      · exact h h1
      · exact g (h1 ▸ x)
      · exact g (slt_trans x h1)
  have e0 : ∀ x : List UInt8, maxStr [] x = x := fun x => by
    unfold maxStr
    split
    · rfl
    · rename_i h
      cases x with
      | nil => rfl
      | cons a t => exact absurd (by simp [slt, strLt, Op.bytesLess]) h
  by_cases ho : r.op = true
  · have e : meetV [r, ⟨n, [], true⟩] = ⟨maxStr r.lo n, [], true⟩ := by simp [meetV, meetStep, ho, e0]
    rw [e]; unfold Range.isIn
    simp only [ho, true_or, and_true]
    exact hmax _ _
  · have e : meetV [r, ⟨n, [], true⟩] = ⟨maxStr r.lo n, r.hi, false⟩ := by simp [meetV, meetStep, ho, e0]
    rw [e]; unfold Range.isIn
    simp only [ho, Bool.false_eq_true, false_or, hmax]
    constructor
    · rintro ⟨⟨a, b⟩, c⟩; exact ⟨⟨a, c⟩, b⟩
    · rintro ⟨⟨a, c⟩, b⟩; exact ⟨⟨a, b⟩, c⟩
theorem meet_one (r : Range) (k : List UInt8) : (meetV [r]).isIn k ↔ r.isIn k := by
  have e0 : ∀ x : List UInt8, maxStr [] x = x := fun x => by
    unfold maxStr
    split
    · rfl
    · rename_i h
      cases x with
      | nil => rfl
      | cons a t => exact absurd (by simp [slt, strLt, Op.bytesLess]) h
  by_cases ho : r.op = true
  · have e : meetV [r] = ⟨r.lo, [], true⟩ := by simp [meetV, meetStep, ho, e0]
    rw [e]; unfold Range.isIn; simp [ho]
  · have e : meetV [r] = ⟨r.lo, r.hi, false⟩ := by simp [meetV, meetStep, ho, e0]
    rw [e]; unfold Range.isIn; simp [ho]

/-- What is left of the pairs. -/
def leftP (s : Sub) (p : List Pair) : List Pair := p.filter fun q => decide (s.r.isIn q.key ∧ ¬ slt q.key s.next)
def leftV (s : Sub) (l : List Pair) (t : List Change) (floor : Int) : List Pair × Int :=
  if (atV l t floor s.cur).2 = 0 then (leftP s (atV l t floor s.cur).1, 0) else ([], (atV l t floor s.cur).2)
theorem leftP_pick (s : Sub) (p : List Pair) : pickV (meetV [s.r, ⟨s.next, [], true⟩]) p = leftP s p := by
  unfold pickV leftP
  congr 1; funext q
  simp only [meet_two]
theorem leftV_len (s : Sub) (l : List Pair) (t : List Change) (floor : Int) : (leftV s l t floor).1.length ≤ l.length + t.length := by
  have := atV_len l t floor s.cur
  unfold leftV
  split
  · exact Nat.le_trans (List.length_filter_le _ _) this
  · simp

set_option maxHeartbeats 4000000 in
theorem feed_left (s : Sub) (l : List Pair) (t : List Change) (floor : Int) (hl : l.length ≤ 200000) (ht : t.length ≤ 200000) :
    Ct Try.prog 26 (YtjhjnphcdpjnbaaVm.ops [s.pv, .row (l.map Pair.pv), .row (t.map Change.pv), .int .i64 floor]) (.vals [.row ((leftV s l t floor).1.map Pair.pv), .int .i64 (leftV s l t floor).2]) := by
  have hc := past_At l t floor s.cur hl ht
  have hlen := atV_len l t floor s.cur
  unfold leftV
  obtain ⟨p, e, hp⟩ : ∃ p e, atV l t floor s.cur = (p, e) := ⟨_, _, rfl⟩
  rw [hp] at hc hlen ⊢
  simp only at hc hlen ⊢
  refine Ct.of_V Try.func26 rfl (by simp [YtjhjnphcdpjnbaaVm.ops, Try.f26]) ?_
  refine V.exec 400 ?_
  simp (config := {contextual := true}) only [go_sem, ↓reduceIte, reduceCtorEq, Bool.false_eq_true, Bool.true_eq_false, Nat.reduceAdd, Nat.reduceLT, Nat.reduceEqDiff, Nat.reduceLeDiff, Nat.reduceSub, Nat.reduceMul, Try.f26, Sub.pv]
  refine V.call rfl rfl (by simp [dOK]) ⟨38, [], by simp only [go_sem, ↓reduceIte, reduceCtorEq, Bool.false_eq_true, Bool.true_eq_false, Nat.reduceAdd, Nat.reduceLT, Nat.reduceEqDiff, Nat.reduceLeDiff, Nat.reduceSub, Nat.reduceMul], ⟨_, rfl, rfl, rfl⟩, .inl ⟨[.row (l.map Pair.pv), .row (t.map Change.pv), .int .i64 floor, .int .i64 s.cur], _, .inl (by simp only [go_sem, ↓reduceIte, reduceCtorEq, Bool.false_eq_true, Bool.true_eq_false, Nat.reduceAdd, Nat.reduceLT, Nat.reduceEqDiff, Nat.reduceLeDiff, Nat.reduceSub, Nat.reduceMul]), hc, .inr (.inl ⟨_, rfl, rfl, rfl⟩)⟩⟩ ?_
  refine V.exec 400 ?_
  by_cases he : e = 0
  · subst he
    have hk := stretch_Pick (meetV [s.r, ⟨s.next, [], true⟩]) p (by omega)
    rw [leftP_pick] at hk
    simp (config := {contextual := true}) only [go_sem, ↓reduceIte, reduceCtorEq, Bool.false_eq_true, Bool.true_eq_false, Nat.reduceAdd, Nat.reduceLT, Nat.reduceEqDiff, Nat.reduceLeDiff, Nat.reduceSub, Nat.reduceMul]
    refine V.call rfl rfl (by simp [dOK]) ⟨40, [], by simp only [go_sem, ↓reduceIte, reduceCtorEq, Bool.false_eq_true, Bool.true_eq_false, Nat.reduceAdd, Nat.reduceLT, Nat.reduceEqDiff, Nat.reduceLeDiff, Nat.reduceSub, Nat.reduceMul], ⟨_, rfl, rfl, rfl⟩, .inl ⟨[.row ([s.r, ⟨s.next, [], true⟩].map Range.pv)], _, .inl (by simp only [go_sem, ↓reduceIte, reduceCtorEq, Bool.false_eq_true, Bool.true_eq_false, Nat.reduceAdd, Nat.reduceLT, Nat.reduceEqDiff, Nat.reduceLeDiff, Nat.reduceSub, Nat.reduceMul, Range.pv, List.map_cons, List.map_nil, decide_true]), stretch_Meet [s.r, ⟨s.next, [], true⟩] (by simp), .inr (.inl ⟨_, rfl, rfl, rfl⟩)⟩⟩ ?_
    refine V.exec 400 ?_
    simp (config := {contextual := true}) only [go_sem, ↓reduceIte, reduceCtorEq, Bool.false_eq_true, Bool.true_eq_false, Nat.reduceAdd, Nat.reduceLT, Nat.reduceEqDiff, Nat.reduceLeDiff, Nat.reduceSub, Nat.reduceMul, Range.pv]
    refine V.call rfl rfl (by simp [dOK]) ⟨39, [], by simp only [go_sem, ↓reduceIte, reduceCtorEq, Bool.false_eq_true, Bool.true_eq_false, Nat.reduceAdd, Nat.reduceLT, Nat.reduceEqDiff, Nat.reduceLeDiff, Nat.reduceSub, Nat.reduceMul], ⟨_, rfl, rfl, rfl⟩, .inl ⟨[(meetV [s.r, ⟨s.next, [], true⟩]).pv, .row (p.map Pair.pv)], _, .inl (by simp only [go_sem, ↓reduceIte, reduceCtorEq, Bool.false_eq_true, Bool.true_eq_false, Nat.reduceAdd, Nat.reduceLT, Nat.reduceEqDiff, Nat.reduceLeDiff, Nat.reduceSub, Nat.reduceMul, Range.pv]), hk, .inr (.inl ⟨_, rfl, rfl, rfl⟩)⟩⟩ ?_
    refine V.exec 400 ?_
    simp (config := {contextual := true}) only [go_sem, ↓reduceIte, reduceCtorEq, Bool.false_eq_true, Bool.true_eq_false, Nat.reduceAdd, Nat.reduceLT, Nat.reduceEqDiff, Nat.reduceLeDiff, Nat.reduceSub, Nat.reduceMul]
  · simp (config := {contextual := true}) only [go_sem, ↓reduceIte, reduceCtorEq, Bool.false_eq_true, Bool.true_eq_false, Nat.reduceAdd, Nat.reduceLT, Nat.reduceEqDiff, Nat.reduceLeDiff, Nat.reduceSub, Nat.reduceMul, he, List.map_nil]

theorem ref03_Right (r : Range) : Ct Try.prog 31 (YtjhjnphcdpjnbaaVm.ops [r.pv]) (.vals [.bool (decide r.ok)]) := by
  refine Ct.of_V Try.func31 rfl (by simp [YtjhjnphcdpjnbaaVm.ops, Try.f31]) ?_
  refine V.exec 400 ?_
  simp (config := {contextual := true}) only [go_sem, ↓reduceIte, reduceCtorEq, Bool.false_eq_true, Bool.true_eq_false, Nat.reduceAdd, Nat.reduceLT, Nat.reduceEqDiff, Nat.reduceLeDiff, Nat.reduceSub, Nat.reduceMul, Try.f31, Range.pv]
  have e1 : ((r.lo.length : Int) > 16) = (16 < r.lo.length) := by apply propext; omega
  have e2 : ((r.hi.length : Int) > 17) = (17 < r.hi.length) := by apply propext; omega
  have e3 : ((r.hi.length : Int) = 0) = (r.hi = []) := by apply propext; rw [← List.length_eq_zero_iff]; omega
  (repeat' (first | (intro _) | (refine ⟨by kernel_rfl, ?_⟩) | (apply And.intro)))
  all_goals (simp only [Option.some.injEq, List.cons.injEq, PV.bool.injEq, and_true, Range.ok]; grind)

set_option maxHeartbeats 4000000 in
theorem ref19_Right (s : Sub) : Ct Try.prog 17 (YtjhjnphcdpjnbaaVm.ops [s.pv]) (.vals [.bool (decide s.ok)]) := by
  refine Ct.of_V Try.func17 rfl (by simp [YtjhjnphcdpjnbaaVm.ops, Try.f17]) ?_
  refine V.exec 400 ?_
  simp (config := {contextual := true}) only [go_sem, ↓reduceIte, reduceCtorEq, Bool.false_eq_true, Bool.true_eq_false, Nat.reduceAdd, Nat.reduceLT, Nat.reduceEqDiff, Nat.reduceLeDiff, Nat.reduceSub, Nat.reduceMul, Try.f17, Sub.pv]
  refine V.call rfl rfl (by simp [dOK]) ⟨31, [], by simp only [go_sem, ↓reduceIte, reduceCtorEq, Bool.false_eq_true, Bool.true_eq_false, Nat.reduceAdd, Nat.reduceLT, Nat.reduceEqDiff, Nat.reduceLeDiff, Nat.reduceSub, Nat.reduceMul], ⟨_, rfl, rfl, rfl⟩, .inl ⟨[s.r.pv], _, .inl (by simp only [go_sem, ↓reduceIte, reduceCtorEq, Bool.false_eq_true, Bool.true_eq_false, Nat.reduceAdd, Nat.reduceLT, Nat.reduceEqDiff, Nat.reduceLeDiff, Nat.reduceSub, Nat.reduceMul, Range.pv]), ref03_Right s.r, .inl ⟨_, rfl, rfl, rfl, rfl⟩⟩⟩ ?_
  refine V.exec 400 ?_
  by_cases hr : s.r.ok
  · simp (config := {contextual := true}) only [go_sem, ↓reduceIte, reduceCtorEq, Bool.false_eq_true, Bool.true_eq_false, Nat.reduceAdd, Nat.reduceLT, Nat.reduceEqDiff, Nat.reduceLeDiff, Nat.reduceSub, Nat.reduceMul, hr]
    (repeat' (first | (intro _) | (refine ⟨by kernel_rfl, ?_⟩) | (apply And.intro)))
    all_goals (simp only [Option.some.injEq, List.cons.injEq, PV.bool.injEq, and_true, Sub.ok]; grind)
  · simp (config := {contextual := true}) only [go_sem, ↓reduceIte, reduceCtorEq, Bool.false_eq_true, Bool.true_eq_false, Nat.reduceAdd, Nat.reduceLT, Nat.reduceEqDiff, Nat.reduceLeDiff, Nat.reduceSub, Nat.reduceMul, hr]
    simp [Sub.ok, hr]

set_option maxHeartbeats 8000000 in
theorem ref19_left (s : Sub) (l : List Pair) (t : List Change) (floor : Int) (hl : l.length ≤ 100000) (ht : t.length ≤ 100000) :
    Ct Try.prog 28 (YtjhjnphcdpjnbaaVm.ops [s.pv, .row (l.map Pair.pv), .row (t.map Change.pv), .int .i64 floor]) (.vals [.row ((leftV s l t floor).1.map Pair.pv), .int .i64 (leftV s l t floor).2]) := by
  have hc := ref18_At l t floor s.cur hl ht
  have hlen := atV_len l t floor s.cur
  have hf := atV_facts l t floor s.cur
  have hv : leftV s l t floor = (leftP s (atV l t floor s.cur).1, (atV l t floor s.cur).2) := by
    unfold leftV
    split
    · rename_i h; rw [h]
    · rename_i h
      rcases hf with ⟨g, _⟩ | ⟨g, _⟩
      · exact absurd g h
      · rw [g]; rfl
  rw [hv]
  obtain ⟨p, e, hp⟩ : ∃ p e, atV l t floor s.cur = (p, e) := ⟨_, _, rfl⟩
  rw [hp] at hc hlen ⊢
  simp only at hc hlen ⊢
  refine Ct.of_V Try.func28 rfl (by simp [YtjhjnphcdpjnbaaVm.ops, Try.f28]) ?_
  refine V.exec 400 ?_
  simp (config := {contextual := true}) only [go_sem, ↓reduceIte, reduceCtorEq, Bool.false_eq_true, Bool.true_eq_false, Nat.reduceAdd, Nat.reduceLT, Nat.reduceEqDiff, Nat.reduceLeDiff, Nat.reduceSub, Nat.reduceMul, Try.f28, Sub.pv]
  refine V.call rfl rfl (by simp [dOK]) ⟨44, [], by simp only [go_sem, ↓reduceIte, reduceCtorEq, Bool.false_eq_true, Bool.true_eq_false, Nat.reduceAdd, Nat.reduceLT, Nat.reduceEqDiff, Nat.reduceLeDiff, Nat.reduceSub, Nat.reduceMul], ⟨_, rfl, rfl, rfl⟩, .inl ⟨[.row (l.map Pair.pv), .row (t.map Change.pv), .int .i64 floor, .int .i64 s.cur], _, .inl (by simp only [go_sem, ↓reduceIte, reduceCtorEq, Bool.false_eq_true, Bool.true_eq_false, Nat.reduceAdd, Nat.reduceLT, Nat.reduceEqDiff, Nat.reduceLeDiff, Nat.reduceSub, Nat.reduceMul]), hc, .inr (.inl ⟨_, rfl, rfl, rfl⟩)⟩⟩ ?_
  refine V.exec 400 ?_
  simp (config := {contextual := true}) only [go_sem, ↓reduceIte, reduceCtorEq, Bool.false_eq_true, Bool.true_eq_false, Nat.reduceAdd, Nat.reduceLT, Nat.reduceEqDiff, Nat.reduceLeDiff, Nat.reduceSub, Nat.reduceMul]
  refine V.loop (fun m ls os => ∃ (i : Nat), i ≤ p.length ∧ m = p.length - i ∧
        ls = [(4, .adr 0 0), (10, .val (.row (p.map Pair.pv))), (11, .val (.int .i64 e)), (12, .ref 1), (13, .val (.int .i64 i))] ∧ os = [.box true [.val (.int .i64 s.id), .val (.str s.r.lo), .val (.str s.r.hi), .val (.bool (decide (s.r.op = true))), .val (.bool (decide (s.live = true))), .val (.str s.next), .val (.int .i64 s.cur)], .row 73 ((leftP s (p.take i)).map Pair.pv)]) 2 p.length
      [(4, .adr 0 0), (10, .val (.row (p.map Pair.pv))), (11, .val (.int .i64 e)), (12, .ref 1), (13, .val (.int .i64 0))] [.box true [.val (.int .i64 s.id), .val (.str s.r.lo), .val (.str s.r.hi), .val (.bool (decide (s.r.op = true))), .val (.bool (decide (s.live = true))), .val (.str s.next), .val (.int .i64 s.cur)], .row 73 []] [some 4, none]
      ⟨0, Nat.zero_le _, rfl, rfl, rfl⟩ (by simp only [go_sem, ↓reduceIte, reduceCtorEq, Bool.false_eq_true, Bool.true_eq_false, Nat.reduceAdd, Nat.reduceLT, Nat.reduceEqDiff, Nat.reduceLeDiff, Nat.reduceSub, Nat.reduceMul]; try decide) ?_
  rintro m ls os ⟨i, hi, rfl, rfl, rfl⟩
  have hpl : (leftP s (p.take i)).length ≤ p.length := Nat.le_trans (List.length_filter_le _ _) (by rw [List.length_take]; omega)
  by_cases hlt : i < p.length
  · have hlt' : (i : Int) < (p.length : Int) := by omega
    obtain ⟨x, hx⟩ : ∃ x, p[i]? = some x := ⟨_, List.getElem?_eq_getElem hlt⟩
    have hw : IntKind.i64.wrap ((i : Int) + 1) = ((i + 1 : Nat) : Int) := by rw [wrap_small3] <;> omega
    have hn : leftP s (p.take (i + 1)) = if s.r.isIn x.key ∧ ¬ slt x.key s.next then leftP s (p.take i) ++ [x] else leftP s (p.take i) := by
      unfold leftP
      rw [List.take_add_one, hx, List.filter_append]
      by_cases h : s.r.isIn x.key ∧ ¬ slt x.key s.next
      · simp [h]
      · rw [if_neg h]; simp [h]
    generalize leftP s (p.take i) = L at *
    refine V.exec 400 ?_
    simp (config := {contextual := true}) only [go_sem, ↓reduceIte, reduceCtorEq, Bool.false_eq_true, Bool.true_eq_false, Nat.reduceAdd, Nat.reduceLT, Nat.reduceEqDiff, Nat.reduceLeDiff, Nat.reduceSub, Nat.reduceMul, hlt', hx, Pair.pv]
    refine DV.call [0] [0] (by simp only [go_sem, ↓reduceIte, reduceCtorEq, Bool.false_eq_true, Bool.true_eq_false, Nat.reduceAdd, Nat.reduceLT, Nat.reduceEqDiff, Nat.reduceLeDiff, Nat.reduceSub, Nat.reduceMul, Range.pv]) (by simp [dOK]) ⟨37, [], by simp only [go_sem, ↓reduceIte, reduceCtorEq, Bool.false_eq_true, Bool.true_eq_false, Nat.reduceAdd, Nat.reduceLT, Nat.reduceEqDiff, Nat.reduceLeDiff, Nat.reduceSub, Nat.reduceMul, Range.pv], ⟨_, rfl, rfl, rfl⟩, .inl ⟨[s.r.pv, .str x.key], _, .inl (by simp only [go_sem, ↓reduceIte, reduceCtorEq, Bool.false_eq_true, Bool.true_eq_false, Nat.reduceAdd, Nat.reduceLT, Nat.reduceEqDiff, Nat.reduceLeDiff, Nat.reduceSub, Nat.reduceMul, Range.pv]), ref03_In s.r x.key, .inl ⟨_, rfl, rfl, rfl, rfl⟩⟩⟩ (by simp only [go_sem, ↓reduceIte, reduceCtorEq, Bool.false_eq_true, Bool.true_eq_false, Nat.reduceAdd, Nat.reduceLT, Nat.reduceEqDiff, Nat.reduceLeDiff, Nat.reduceSub, Nat.reduceMul, Range.pv]) (by simp only [go_sem, ↓reduceIte, reduceCtorEq, Bool.false_eq_true, Bool.true_eq_false, Nat.reduceAdd, Nat.reduceLT, Nat.reduceEqDiff, Nat.reduceLeDiff, Nat.reduceSub, Nat.reduceMul, Range.pv]) (by simp only [go_sem, ↓reduceIte, reduceCtorEq, Bool.false_eq_true, Bool.true_eq_false, Nat.reduceAdd, Nat.reduceLT, Nat.reduceEqDiff, Nat.reduceLeDiff, Nat.reduceSub, Nat.reduceMul, Range.pv]) (by simp) ?_
    refine DV.exec 400 ?_
    by_cases h : s.r.isIn x.key
    · by_cases hn2 : slt x.key s.next
      · rw [if_neg (fun g => g.2 hn2)] at hn
        simp (config := {contextual := true}) only [go_sem, ↓reduceIte, reduceCtorEq, Bool.false_eq_true, Bool.true_eq_false, Nat.reduceAdd, Nat.reduceLT, Nat.reduceEqDiff, Nat.reduceLeDiff, Nat.reduceSub, Nat.reduceMul, hlt', hx, Pair.pv, h, hn2, hw]
        refine ⟨by kernel_rfl, by kernel_rfl, p.length - (i + 1), _, _, [some 0, some 1], by omega, ⟨i + 1, by omega, rfl, rfl, rfl⟩, ?_⟩
        simp only [go_sem, ↓reduceIte, reduceCtorEq, Bool.false_eq_true, Bool.true_eq_false, Nat.reduceAdd, Nat.reduceLT, Nat.reduceEqDiff, Nat.reduceLeDiff, Nat.reduceSub, Nat.reduceMul, hn]
        try decide
      · rw [if_pos ⟨h, hn2⟩] at hn
        simp (config := {contextual := true}) only [go_sem, ↓reduceIte, reduceCtorEq, Bool.false_eq_true, Bool.true_eq_false, Nat.reduceAdd, Nat.reduceLT, Nat.reduceEqDiff, Nat.reduceLeDiff, Nat.reduceSub, Nat.reduceMul, hlt', hx, Pair.pv, h, hn2, hw]
        refine ⟨by kernel_rfl, by kernel_rfl, ⟨by omega, by omega⟩, p.length - (i + 1), _, _, [some 0, some 32], by omega, ⟨i + 1, by omega, rfl, rfl, rfl⟩, ?_⟩
        simp only [go_sem, ↓reduceIte, reduceCtorEq, Bool.false_eq_true, Bool.true_eq_false, Nat.reduceAdd, Nat.reduceLT, Nat.reduceEqDiff, Nat.reduceLeDiff, Nat.reduceSub, Nat.reduceMul, hn, List.map_append, List.map_cons, List.map_nil, Pair.pv]
        try decide
    · rw [if_neg (fun g => h g.1)] at hn
      simp (config := {contextual := true}) only [go_sem, ↓reduceIte, reduceCtorEq, Bool.false_eq_true, Bool.true_eq_false, Nat.reduceAdd, Nat.reduceLT, Nat.reduceEqDiff, Nat.reduceLeDiff, Nat.reduceSub, Nat.reduceMul, hlt', hx, Pair.pv, h, hw]
      refine ⟨by kernel_rfl, by kernel_rfl, p.length - (i + 1), _, _, [some 0, some 1], by omega, ⟨i + 1, by omega, rfl, rfl, rfl⟩, ?_⟩
      simp only [go_sem, ↓reduceIte, reduceCtorEq, Bool.false_eq_true, Bool.true_eq_false, Nat.reduceAdd, Nat.reduceLT, Nat.reduceEqDiff, Nat.reduceLeDiff, Nat.reduceSub, Nat.reduceMul, hn]
      try decide
  · have hlt' : ¬ (i : Int) < (p.length : Int) := by omega
    refine V.exec 400 ?_
    simp (config := {contextual := true}) only [go_sem, ↓reduceIte, reduceCtorEq, Bool.false_eq_true, Bool.true_eq_false, Nat.reduceAdd, Nat.reduceLT, Nat.reduceEqDiff, Nat.reduceLeDiff, Nat.reduceSub, Nat.reduceMul, hlt']
    rw [List.take_of_length_le (by omega)]
end Go.Proofs.Ytjhjnphcdpjnbaa
set_option linter.unusedVariables false
set_option linter.unusedSimpArgs false
set_option maxRecDepth 8000
namespace Go.Proofs.Ytjhjnphcdpjnbaa
open Go Go.Proofs Go.Proofs.YtjhjnphcdpjnbaaVm Go.Proofs.Ytjhjnphcdpjnbaa.Ty

structure Chunk where
  ps : List Pair
  cs : List Change
  more : Bool
  deriving DecidableEq
def Chunk.pv (c : Chunk) : PV := .agg [.row (c.ps.map Pair.pv), .row (c.cs.map Change.pv), .bool (decide (c.more = true))]
def Chunk.zero : Chunk := ⟨[], [], false⟩
/-- The changes that one is still told. -/
def sinceA (t : List Change) (s : Sub) : List Change := t.filter fun c => decide (s.cur < c.seq ∧ s.r.isIn c.key)
def cutM (most : Int) (n : Nat) : Nat := min most.toNat n
def pollV (s : Sub) (l : List Pair) (t : List Change) (floor most : Int) : Chunk × Int :=
  if s.ok ∧ 1 ≤ most then
    if (leftV s l t floor).2 = 0 then
      if s.live = true then (⟨[], (sinceA t s).take (cutM most (sinceA t s).length), decide (cutM most (sinceA t s).length < (sinceA t s).length)⟩, 0)
      else (⟨(leftV s l t floor).1.take (cutM most (leftV s l t floor).1.length), [], decide (cutM most (leftV s l t floor).1.length < (leftV s l t floor).1.length)⟩, 0)
    else (Chunk.zero, (leftV s l t floor).2)
  else (Chunk.zero, 1)
theorem sinceA_len (t : List Change) (s : Sub) : (sinceA t s).length ≤ t.length := List.length_filter_le _ _
theorem since_all {t : List Change} (ht : trailOk t) (s : Sub) : sinceV t s.cur t.length [s.r] = sinceA t s := by
  unfold sinceV withoutV
  rw [if_pos ht]
  have e : (t.filter fun c => !decide (c.seq ≤ s.cur ∨ ¬ (meetV [s.r]).isIn c.key)) = sinceA t s := by
    unfold sinceA
    congr 1; funext c
    simp only [meet_one]
    by_cases h1 : c.seq ≤ s.cur
    · have : ¬ s.cur < c.seq := by omega
      simp [h1, this]
    · have : s.cur < c.seq := by omega
      simp [h1, this]
  simp only [e]
  rw [List.take_of_length_le]
  have := sinceA_len t s
  unfold cutAt; omega
theorem leftV_trail {s : Sub} {l : List Pair} {t : List Change} {floor : Int} (h : (leftV s l t floor).2 = 0) : trailOk t := by
  have hf := atV_facts l t floor s.cur
  unfold leftV at h
  split at h
  · rename_i g
    rcases hf with ⟨_, _, _, _, h⟩ | ⟨_, hf⟩
    · exact h
    · omega
  · rename_i g; exact absurd h g

set_option maxHeartbeats 8000000 in
theorem feed_Poll (s : Sub) (l : List Pair) (t : List Change) (floor most : Int) (hl : l.length ≤ 200000) (ht : t.length ≤ 200000) :
    Ct Try.prog 10 (YtjhjnphcdpjnbaaVm.ops [s.pv, .row (l.map Pair.pv), .row (t.map Change.pv), .int .i64 floor, .int .i64 most]) (.vals [(pollV s l t floor most).1.pv, .int .i64 (pollV s l t floor most).2]) := by
  have hc := feed_left s l t floor hl ht
  have hlen := leftV_len s l t floor
  have hto := @leftV_trail s l t floor
  have hbad : ¬ (s.ok ∧ 1 ≤ most) → pollV s l t floor most = (Chunk.zero, 1) := fun h => by unfold pollV; rw [if_neg h]
  refine Ct.of_V Try.func10 rfl (by simp [YtjhjnphcdpjnbaaVm.ops, Try.f10]) ?_
  refine V.exec 400 ?_
  simp (config := {contextual := true}) only [go_sem, ↓reduceIte, reduceCtorEq, Bool.false_eq_true, Bool.true_eq_false, Nat.reduceAdd, Nat.reduceLT, Nat.reduceEqDiff, Nat.reduceLeDiff, Nat.reduceSub, Nat.reduceMul, Try.f10, Sub.pv]
  refine V.call rfl rfl (by simp [dOK]) ⟨16, [], by simp only [go_sem, ↓reduceIte, reduceCtorEq, Bool.false_eq_true, Bool.true_eq_false, Nat.reduceAdd, Nat.reduceLT, Nat.reduceEqDiff, Nat.reduceLeDiff, Nat.reduceSub, Nat.reduceMul], ⟨_, rfl, rfl, rfl⟩, .inl ⟨[s.pv], _, .inl (by simp only [go_sem, ↓reduceIte, reduceCtorEq, Bool.false_eq_true, Bool.true_eq_false, Nat.reduceAdd, Nat.reduceLT, Nat.reduceEqDiff, Nat.reduceLeDiff, Nat.reduceSub, Nat.reduceMul, Sub.pv]), feed_Right s, .inl ⟨_, rfl, rfl, rfl, rfl⟩⟩⟩ ?_
  refine V.exec 400 ?_
  by_cases hok : s.ok
  · by_cases hm : most < 1
    · have hv := hbad (fun h => by omega)
      simp (config := {contextual := true}) only [go_sem, ↓reduceIte, reduceCtorEq, Bool.false_eq_true, Bool.true_eq_false, Nat.reduceAdd, Nat.reduceLT, Nat.reduceEqDiff, Nat.reduceLeDiff, Nat.reduceSub, Nat.reduceMul, hok, hm, hv, Chunk.zero, Chunk.pv, List.map_nil]
    · have hv : pollV s l t floor most = if (leftV s l t floor).2 = 0 then
          if s.live = true then (⟨[], (sinceA t s).take (cutM most (sinceA t s).length), decide (cutM most (sinceA t s).length < (sinceA t s).length)⟩, 0)
          else (⟨(leftV s l t floor).1.take (cutM most (leftV s l t floor).1.length), [], decide (cutM most (leftV s l t floor).1.length < (leftV s l t floor).1.length)⟩, 0)
        else (Chunk.zero, (leftV s l t floor).2) := by unfold pollV; rw [if_pos ⟨hok, by omega⟩]
      obtain ⟨p, e, hp⟩ : ∃ p e, leftV s l t floor = (p, e) := ⟨_, _, rfl⟩
      rw [hp] at hc hlen hv hto
      simp only at hc hlen hv hto
      simp (config := {contextual := true}) only [go_sem, ↓reduceIte, reduceCtorEq, Bool.false_eq_true, Bool.true_eq_false, Nat.reduceAdd, Nat.reduceLT, Nat.reduceEqDiff, Nat.reduceLeDiff, Nat.reduceSub, Nat.reduceMul, hok, hm]
      refine V.call rfl rfl (by simp [dOK]) ⟨26, [], by simp only [go_sem, ↓reduceIte, reduceCtorEq, Bool.false_eq_true, Bool.true_eq_false, Nat.reduceAdd, Nat.reduceLT, Nat.reduceEqDiff, Nat.reduceLeDiff, Nat.reduceSub, Nat.reduceMul], ⟨_, rfl, rfl, rfl⟩, .inl ⟨[s.pv, .row (l.map Pair.pv), .row (t.map Change.pv), .int .i64 floor], _, .inl (by simp only [go_sem, ↓reduceIte, reduceCtorEq, Bool.false_eq_true, Bool.true_eq_false, Nat.reduceAdd, Nat.reduceLT, Nat.reduceEqDiff, Nat.reduceLeDiff, Nat.reduceSub, Nat.reduceMul, Sub.pv]), hc, .inr (.inl ⟨_, rfl, rfl, rfl⟩)⟩⟩ ?_
      refine V.exec 400 ?_
      by_cases he : e = 0
      · subst he
        rw [if_pos rfl] at hv
        by_cases hlv : s.live = true
        · rw [if_pos hlv] at hv
          have hsl := sinceA_len t s
          have hk := trail_Since t s.cur t.length [s.r] (by omega) (by simp)
          rw [since_all (hto rfl)] at hk
          simp (config := {contextual := true}) only [go_sem, ↓reduceIte, reduceCtorEq, Bool.false_eq_true, Bool.true_eq_false, Nat.reduceAdd, Nat.reduceLT, Nat.reduceEqDiff, Nat.reduceLeDiff, Nat.reduceSub, Nat.reduceMul, hlv]
          refine V.call rfl rfl (by simp [dOK]) ⟨27, [], by simp only [go_sem, ↓reduceIte, reduceCtorEq, Bool.false_eq_true, Bool.true_eq_false, Nat.reduceAdd, Nat.reduceLT, Nat.reduceEqDiff, Nat.reduceLeDiff, Nat.reduceSub, Nat.reduceMul], ⟨_, rfl, rfl, rfl⟩, .inl ⟨[.row (t.map Change.pv), .int .i64 s.cur, .int .i64 t.length, .row ([s.r].map Range.pv)], _, .inl (by simp only [go_sem, ↓reduceIte, reduceCtorEq, Bool.false_eq_true, Bool.true_eq_false, Nat.reduceAdd, Nat.reduceLT, Nat.reduceEqDiff, Nat.reduceLeDiff, Nat.reduceSub, Nat.reduceMul, Range.pv, List.map_cons, List.map_nil]), hk, .inr (.inl ⟨_, rfl, rfl, rfl⟩)⟩⟩ ?_
          refine V.exec 400 ?_
          generalize sinceA t s = w at *
          have hcm : (if (w.length : Int) < most then (w.length : Int) else most) = ((cutM most w.length : Nat) : Int) := by
            unfold cutM
            split <;> omega
          have hc2 : cutM most w.length ≤ w.length := by unfold cutM; omega
          simp (config := {contextual := true}) only [go_sem, ↓reduceIte, reduceCtorEq, Bool.false_eq_true, Bool.true_eq_false, Nat.reduceAdd, Nat.reduceLT, Nat.reduceEqDiff, Nat.reduceLeDiff, Nat.reduceSub, Nat.reduceMul, hcm]
          refine ⟨by omega, ?_⟩
          rw [hv]
          simp [Chunk.pv, List.map_take]
        · rw [if_neg hlv] at hv
          have hcm : (if (p.length : Int) < most then (p.length : Int) else most) = ((cutM most p.length : Nat) : Int) := by
            unfold cutM
            split <;> omega
          have hc2 : cutM most p.length ≤ p.length := by unfold cutM; omega
          simp (config := {contextual := true}) only [go_sem, ↓reduceIte, reduceCtorEq, Bool.false_eq_true, Bool.true_eq_false, Nat.reduceAdd, Nat.reduceLT, Nat.reduceEqDiff, Nat.reduceLeDiff, Nat.reduceSub, Nat.reduceMul, hlv, hcm]
          refine ⟨by omega, ?_⟩
          rw [hv]
          simp [Chunk.pv, List.map_take]
      · rw [if_neg he] at hv
        simp (config := {contextual := true}) only [go_sem, ↓reduceIte, reduceCtorEq, Bool.false_eq_true, Bool.true_eq_false, Nat.reduceAdd, Nat.reduceLT, Nat.reduceEqDiff, Nat.reduceLeDiff, Nat.reduceSub, Nat.reduceMul, he, hv, Chunk.zero, Chunk.pv, List.map_nil]
  · have hv := hbad (fun h => hok h.1)
    simp (config := {contextual := true}) only [go_sem, ↓reduceIte, reduceCtorEq, Bool.false_eq_true, Bool.true_eq_false, Nat.reduceAdd, Nat.reduceLT, Nat.reduceEqDiff, Nat.reduceLeDiff, Nat.reduceSub, Nat.reduceMul, hok, hv, Chunk.zero, Chunk.pv, List.map_nil]
end Go.Proofs.Ytjhjnphcdpjnbaa
set_option linter.unusedVariables false
set_option linter.unusedSimpArgs false
set_option maxRecDepth 8000
namespace Go.Proofs.Ytjhjnphcdpjnbaa
open Go Go.Proofs Go.Proofs.YtjhjnphcdpjnbaaVm Go.Proofs.Ytjhjnphcdpjnbaa.Ty

def tookV (s : Sub) (l : List Pair) (t : List Change) (floor n : Int) : Sub × Int :=
  if s.ok ∧ s.live = false ∧ 0 ≤ n then
    if (leftV s l t floor).2 = 0 then
      if n > ((leftV s l t floor).1.length : Int) then (s, 9)
      else if n = ((leftV s l t floor).1.length : Int) then ({ s with live := true, next := [] }, 0)
      else match (leftV s l t floor).1[n.toNat - 1]? with
        | some x => if 0 < n then ({ s with next := x.key ++ [0] }, 0) else (s, 0)
        | none => (s, 0)
    else (s, (leftV s l t floor).2)
  else (s, 1)
def ackV (s : Sub) (head seq : Int) : Sub × Int :=
  if s.ok ∧ s.live = true ∧ s.cur ≤ seq then (if head < seq then (s, 9) else ({ s with cur := seq }, 0)) else (s, 1)
theorem leftV_keys {s : Sub} {l : List Pair} {t : List Change} {floor : Int} : ∀ x ∈ (leftV s l t floor).1, x.key.length ≤ 16 := fun x hx => by
  have hf := atV_facts l t floor s.cur
  unfold leftV at hx
  split at hx
  · rename_i g
    rcases hf with ⟨_, h, _⟩ | ⟨_, hf⟩
    · exact (short_of _ none h x (List.mem_filter.1 hx).1).1
    · omega
  · simp at hx

set_option maxHeartbeats 8000000 in
theorem feed_Took (s : Sub) (l : List Pair) (t : List Change) (floor n : Int) (hl : l.length ≤ 200000) (ht : t.length ≤ 200000) :
    Ct Try.prog 12 (YtjhjnphcdpjnbaaVm.ops [s.pv, .row (l.map Pair.pv), .row (t.map Change.pv), .int .i64 floor, .int .i64 n]) (.vals [(tookV s l t floor n).1.pv, .int .i64 (tookV s l t floor n).2]) := by
  have hc := feed_left s l t floor hl ht
  have hlen := leftV_len s l t floor
  have hkeys := @leftV_keys s l t floor
  have hbad : ¬ (s.ok ∧ s.live = false ∧ 0 ≤ n) → tookV s l t floor n = (s, 1) := fun h => by unfold tookV; rw [if_neg h]
  refine Ct.of_V Try.func12 rfl (by simp [YtjhjnphcdpjnbaaVm.ops, Try.f12]) ?_
  refine V.exec 400 ?_
  simp (config := {contextual := true}) only [go_sem, ↓reduceIte, reduceCtorEq, Bool.false_eq_true, Bool.true_eq_false, Nat.reduceAdd, Nat.reduceLT, Nat.reduceEqDiff, Nat.reduceLeDiff, Nat.reduceSub, Nat.reduceMul, Try.f12, Sub.pv]
  refine V.call rfl rfl (by simp [dOK]) ⟨16, [], by simp only [go_sem, ↓reduceIte, reduceCtorEq, Bool.false_eq_true, Bool.true_eq_false, Nat.reduceAdd, Nat.reduceLT, Nat.reduceEqDiff, Nat.reduceLeDiff, Nat.reduceSub, Nat.reduceMul], ⟨_, rfl, rfl, rfl⟩, .inl ⟨[s.pv], _, .inl (by simp only [go_sem, ↓reduceIte, reduceCtorEq, Bool.false_eq_true, Bool.true_eq_false, Nat.reduceAdd, Nat.reduceLT, Nat.reduceEqDiff, Nat.reduceLeDiff, Nat.reduceSub, Nat.reduceMul, Sub.pv]), feed_Right s, .inl ⟨_, rfl, rfl, rfl, rfl⟩⟩⟩ ?_
  refine V.exec 400 ?_
  by_cases hok : s.ok
  · by_cases hlv : s.live = true
    · have hv := hbad (fun h => by rw [hlv] at h; exact Bool.noConfusion h.2.1)
      simp (config := {contextual := true}) only [go_sem, ↓reduceIte, reduceCtorEq, Bool.false_eq_true, Bool.true_eq_false, Nat.reduceAdd, Nat.reduceLT, Nat.reduceEqDiff, Nat.reduceLeDiff, Nat.reduceSub, Nat.reduceMul, hok, hlv, hv, Sub.pv]
    · have hlf : s.live = false := by simpa using hlv
      by_cases hm : n < 0
      · have hv := hbad (fun h => by omega)
        simp (config := {contextual := true}) only [go_sem, ↓reduceIte, reduceCtorEq, Bool.false_eq_true, Bool.true_eq_false, Nat.reduceAdd, Nat.reduceLT, Nat.reduceEqDiff, Nat.reduceLeDiff, Nat.reduceSub, Nat.reduceMul, hok, hlv, hm, hv, Sub.pv]
      · have hv : tookV s l t floor n = (if (leftV s l t floor).2 = 0 then
            if n > ((leftV s l t floor).1.length : Int) then (s, 9)
            else if n = ((leftV s l t floor).1.length : Int) then ({ s with live := true, next := [] }, 0)
            else match (leftV s l t floor).1[n.toNat - 1]? with
              | some x => if 0 < n then ({ s with next := x.key ++ [0] }, 0) else (s, 0)
              | none => (s, 0)
          else (s, (leftV s l t floor).2) : Sub × Int) := by unfold tookV; rw [if_pos ⟨hok, hlf, by omega⟩]; first | done | rfl
        obtain ⟨p, e, hp⟩ : ∃ p e, leftV s l t floor = (p, e) := ⟨_, _, rfl⟩
        rw [hp] at hc hlen hv hkeys
        simp only at hc hlen hv hkeys
        simp (config := {contextual := true}) only [go_sem, ↓reduceIte, reduceCtorEq, Bool.false_eq_true, Bool.true_eq_false, Nat.reduceAdd, Nat.reduceLT, Nat.reduceEqDiff, Nat.reduceLeDiff, Nat.reduceSub, Nat.reduceMul, hok, hlv, hm]
        refine V.call rfl rfl (by simp [dOK]) ⟨26, [], by simp only [go_sem, ↓reduceIte, reduceCtorEq, Bool.false_eq_true, Bool.true_eq_false, Nat.reduceAdd, Nat.reduceLT, Nat.reduceEqDiff, Nat.reduceLeDiff, Nat.reduceSub, Nat.reduceMul], ⟨_, rfl, rfl, rfl⟩, .inl ⟨[s.pv, .row (l.map Pair.pv), .row (t.map Change.pv), .int .i64 floor], _, .inl (by simp only [go_sem, ↓reduceIte, reduceCtorEq, Bool.false_eq_true, Bool.true_eq_false, Nat.reduceAdd, Nat.reduceLT, Nat.reduceEqDiff, Nat.reduceLeDiff, Nat.reduceSub, Nat.reduceMul, Sub.pv, hlv]), hc, .inr (.inl ⟨_, rfl, rfl, rfl⟩)⟩⟩ ?_
        refine V.exec 400 ?_
        by_cases he : e = 0
        · subst he
          rw [if_pos rfl] at hv
          by_cases h9 : (p.length : Int) < n
          · rw [if_pos h9] at hv
            simp (config := {contextual := true}) only [go_sem, ↓reduceIte, reduceCtorEq, Bool.false_eq_true, Bool.true_eq_false, Nat.reduceAdd, Nat.reduceLT, Nat.reduceEqDiff, Nat.reduceLeDiff, Nat.reduceSub, Nat.reduceMul, hlv, h9, hv, Sub.pv]
          · rw [if_neg h9] at hv
            by_cases hn : n = (p.length : Int)
            · subst hn
              rw [if_pos rfl] at hv
              simp (config := {contextual := true}) only [go_sem, ↓reduceIte, reduceCtorEq, Bool.false_eq_true, Bool.true_eq_false, Nat.reduceAdd, Nat.reduceLT, Nat.reduceEqDiff, Nat.reduceLeDiff, Nat.reduceSub, Nat.reduceMul, hlv, h9, hv, Sub.pv, decide_true]
            · rw [if_neg hn] at hv
              by_cases h0 : 0 < n
              · obtain ⟨x, hx⟩ : ∃ x, p[n.toNat - 1]? = some x := ⟨_, List.getElem?_eq_getElem (by omega)⟩
                have hxk := hkeys x (List.mem_of_getElem? hx)
                rw [hx] at hv
                simp only [h0, if_true] at hv
                have hw : IntKind.i64.wrap (n - 1) = ((n.toNat - 1 : Nat) : Int) := by rw [wrap_small3] <;> omega
                have hlt : ((n.toNat - 1 : Nat) : Int) < (p.length : Int) := by omega
                simp (config := {contextual := true}) only [go_sem, ↓reduceIte, reduceCtorEq, Bool.false_eq_true, Bool.true_eq_false, Nat.reduceAdd, Nat.reduceLT, Nat.reduceEqDiff, Nat.reduceLeDiff, Nat.reduceSub, Nat.reduceMul, hlv, h9, hn, h0, hw, hlt, hx, hv, Pair.pv, Sub.pv]
                omega
              · have hv2 : tookV s l t floor n = (s, 0) := by
                  rw [hv]; split <;> simp [h0]
                simp (config := {contextual := true}) only [go_sem, ↓reduceIte, reduceCtorEq, Bool.false_eq_true, Bool.true_eq_false, Nat.reduceAdd, Nat.reduceLT, Nat.reduceEqDiff, Nat.reduceLeDiff, Nat.reduceSub, Nat.reduceMul, hlv, h9, hn, h0, hv2, Sub.pv]
        · rw [if_neg he] at hv
          simp (config := {contextual := true}) only [go_sem, ↓reduceIte, reduceCtorEq, Bool.false_eq_true, Bool.true_eq_false, Nat.reduceAdd, Nat.reduceLT, Nat.reduceEqDiff, Nat.reduceLeDiff, Nat.reduceSub, Nat.reduceMul, he, hlv, hv, Sub.pv]
  · have hv := hbad (fun h => hok h.1)
    simp (config := {contextual := true}) only [go_sem, ↓reduceIte, reduceCtorEq, Bool.false_eq_true, Bool.true_eq_false, Nat.reduceAdd, Nat.reduceLT, Nat.reduceEqDiff, Nat.reduceLeDiff, Nat.reduceSub, Nat.reduceMul, hok, hv, Sub.pv]

set_option maxHeartbeats 8000000 in
theorem feed_Ack (s : Sub) (head seq : Int) :
    Ct Try.prog 14 (YtjhjnphcdpjnbaaVm.ops [s.pv, .int .i64 head, .int .i64 seq]) (.vals [(ackV s head seq).1.pv, .int .i64 (ackV s head seq).2]) := by
  have hbad : ¬ (s.ok ∧ s.live = true ∧ s.cur ≤ seq) → ackV s head seq = (s, 1) := fun h => by unfold ackV; rw [if_neg h]
  refine Ct.of_V Try.func14 rfl (by simp [YtjhjnphcdpjnbaaVm.ops, Try.f14]) ?_
  refine V.exec 400 ?_
  simp (config := {contextual := true}) only [go_sem, ↓reduceIte, reduceCtorEq, Bool.false_eq_true, Bool.true_eq_false, Nat.reduceAdd, Nat.reduceLT, Nat.reduceEqDiff, Nat.reduceLeDiff, Nat.reduceSub, Nat.reduceMul, Try.f14, Sub.pv]
  refine V.call rfl rfl (by simp [dOK]) ⟨16, [], by simp only [go_sem, ↓reduceIte, reduceCtorEq, Bool.false_eq_true, Bool.true_eq_false, Nat.reduceAdd, Nat.reduceLT, Nat.reduceEqDiff, Nat.reduceLeDiff, Nat.reduceSub, Nat.reduceMul], ⟨_, rfl, rfl, rfl⟩, .inl ⟨[s.pv], _, .inl (by simp only [go_sem, ↓reduceIte, reduceCtorEq, Bool.false_eq_true, Bool.true_eq_false, Nat.reduceAdd, Nat.reduceLT, Nat.reduceEqDiff, Nat.reduceLeDiff, Nat.reduceSub, Nat.reduceMul, Sub.pv]), feed_Right s, .inl ⟨_, rfl, rfl, rfl, rfl⟩⟩⟩ ?_
  refine V.exec 400 ?_
  by_cases hok : s.ok
  · by_cases hlv : s.live = true
    · by_cases hm : seq < s.cur
      · have hv := hbad (fun h => by omega)
        simp (config := {contextual := true}) only [go_sem, ↓reduceIte, reduceCtorEq, Bool.false_eq_true, Bool.true_eq_false, Nat.reduceAdd, Nat.reduceLT, Nat.reduceEqDiff, Nat.reduceLeDiff, Nat.reduceSub, Nat.reduceMul, hok, hlv, hm, hv, Sub.pv]
      · by_cases hh : head < seq
        · have hv : ackV s head seq = (s, 9) := by unfold ackV; rw [if_pos ⟨hok, hlv, by omega⟩, if_pos hh]
          simp (config := {contextual := true}) only [go_sem, ↓reduceIte, reduceCtorEq, Bool.false_eq_true, Bool.true_eq_false, Nat.reduceAdd, Nat.reduceLT, Nat.reduceEqDiff, Nat.reduceLeDiff, Nat.reduceSub, Nat.reduceMul, hok, hlv, hm, hh, hv, Sub.pv]
        · have hv : ackV s head seq = ({ s with cur := seq }, 0) := by unfold ackV; rw [if_pos ⟨hok, hlv, by omega⟩, if_neg hh]
          simp (config := {contextual := true}) only [go_sem, ↓reduceIte, reduceCtorEq, Bool.false_eq_true, Bool.true_eq_false, Nat.reduceAdd, Nat.reduceLT, Nat.reduceEqDiff, Nat.reduceLeDiff, Nat.reduceSub, Nat.reduceMul, hok, hlv, hm, hh, hv, Sub.pv]
    · have hv := hbad (fun h => hlv h.2.1)
      simp (config := {contextual := true}) only [go_sem, ↓reduceIte, reduceCtorEq, Bool.false_eq_true, Bool.true_eq_false, Nat.reduceAdd, Nat.reduceLT, Nat.reduceEqDiff, Nat.reduceLeDiff, Nat.reduceSub, Nat.reduceMul, hok, hlv, hv, Sub.pv]
  · have hv := hbad (fun h => hok h.1)
    simp (config := {contextual := true}) only [go_sem, ↓reduceIte, reduceCtorEq, Bool.false_eq_true, Bool.true_eq_false, Nat.reduceAdd, Nat.reduceLT, Nat.reduceEqDiff, Nat.reduceLeDiff, Nat.reduceSub, Nat.reduceMul, hok, hv, Sub.pv]
end Go.Proofs.Ytjhjnphcdpjnbaa
