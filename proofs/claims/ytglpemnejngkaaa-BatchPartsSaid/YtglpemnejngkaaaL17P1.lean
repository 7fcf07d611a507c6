/- A part of a proof: functions of the program, walked. -/
import Derived.Test.YtglpemnejngkaaaL17N3
import Derived.Test.YtglpemnejngkaaaL17N2
set_option linter.unusedVariables false
set_option linter.unusedSimpArgs false
namespace Go.Proofs.Ytglpemnejngkaaa
open Go Go.Proofs Go.Proofs.YtglpemnejngkaaaVm

def Sorted (l : List Pair) : Prop := l.Pairwise fun a b => slt a.key b.key
def Pair.short (p : Pair) : Prop := p.key.length ≤ 16 ∧ p.value.length ≤ 32
theorem sorted_of_rising : ∀ (l : List Pair) (last : Option (List UInt8)), rising last l → Sorted l
  | [], _, _ => .nil
  | p :: r, last, h => .cons (fun x hx => rising_above r p.key h.2 x hx) (sorted_of_rising r _ h.2)
theorem rising_of_sorted : ∀ (l : List Pair) (last : Option (List UInt8)), (∀ k, last = some k → ∀ x ∈ l, slt k x.key) → Sorted l → rising last l
  | [], _, _, _ => trivial
  | p :: r, last, h, hs => by
    cases hs with
    | cons h1 h2 => exact ⟨fun k hk => h k hk p List.mem_cons_self, rising_of_sorted r _ (fun k hk x hx => by cases hk; exact h1 x hx) h2⟩
theorem rising_iff (l : List Pair) : rising none l ↔ Sorted l := ⟨sorted_of_rising l none, rising_of_sorted l none (fun k h => by cases h)⟩
theorem pairsFrom_of : ∀ (l : List Pair) (last : Option (List UInt8)), rising last l → (∀ p ∈ l, p.short) → pairsFrom last l
  | [], _, _, _ => trivial
  | p :: r, last, h, hs => ⟨(hs p List.mem_cons_self).1, (hs p List.mem_cons_self).2, h.1, pairsFrom_of r _ h.2 fun x hx => hs x (List.mem_cons_of_mem _ hx)⟩
theorem short_of : ∀ (l : List Pair) (last : Option (List UInt8)), pairsFrom last l → ∀ p ∈ l, p.short
  | p :: r, last, h, x, hx => by
    rcases List.mem_cons.1 hx with rfl | hx
    · exact ⟨h.1, h.2.1⟩
    · exact short_of r _ h.2.2.2 x hx
theorem pairsOk_iff (l : List Pair) : pairsOk l ↔ Sorted l ∧ ∀ p ∈ l, p.short :=
  ⟨fun h => ⟨(rising_iff l).1 (rising_of l none h), short_of l none h⟩, fun h => pairsFrom_of l none ((rising_iff l).2 h.1) h.2⟩

/-- The value of a key. -/
def val (l : List Pair) (k : List UInt8) : Option (List UInt8) := (getL l k).map Pair.value
theorem getL_mem {l : List Pair} {k : List UInt8} {p : Pair} (h : getL l k = some p) : p ∈ l ∧ p.key = k := by
  unfold getL at h
  exact ⟨List.mem_of_find?_eq_some h, by simpa using List.find?_some h⟩
theorem getL_of_mem {l : List Pair} (hs : Sorted l) {p : Pair} (h : p ∈ l) : getL l p.key = some p := by
  unfold getL
  induction l with
  | nil => cases h
  | cons q r ih =>
    cases hs with
    | cons h1 h2 =>
      rw [List.find?_cons]
      rcases List.mem_cons.1 h with rfl | h
      · simp
      · have := h1 p h
        have hne : ¬ q.key = p.key := fun e => slt_irrefl p.key (by rw [e] at this; exact this)
        simp [hne, ih h2 h]
theorem val_iff {l : List Pair} (hs : Sorted l) {k v : List UInt8} : val l k = some v ↔ (⟨k, v⟩ : Pair) ∈ l := by
  unfold val
  constructor
  · intro h
    rw [Option.map_eq_some_iff] at h
    obtain ⟨p, hp, rfl⟩ := h
    obtain ⟨h1, rfl⟩ := getL_mem hp
    exact h1
  · intro h
    rw [getL_of_mem hs h]; rfl
theorem sorted_ext : ∀ (a b : List Pair), Sorted a → Sorted b → (∀ p, p ∈ a ↔ p ∈ b) → a = b
  | [], [], _, _, _ => rfl
  | [], q :: b, _, _, h => absurd ((h q).2 List.mem_cons_self) (by simp)
  | p :: a, [], _, _, h => absurd ((h p).1 List.mem_cons_self) (by simp)
  | p :: a, q :: b, ha, hb, h => by
    have ha' : Sorted (p :: a) := ha
    have hb' : Sorted (q :: b) := hb
    cases ha with
    | cons a1 a2 =>
      cases hb with
      | cons b1 b2 =>
        have e : p = q := by
          rcases List.mem_cons.1 ((h p).1 List.mem_cons_self) with e | e
          · exact e
          · rcases List.mem_cons.1 ((h q).2 List.mem_cons_self) with e' | e'
            · exact e'.symm
            · exact absurd (slt_trans (b1 p e) (a1 q e')) (slt_irrefl _)
        subst e
        congr 1
        refine sorted_ext a b a2 b2 fun x => ⟨fun hx => ?_, fun hx => ?_⟩
        · rcases List.mem_cons.1 ((h x).1 (List.mem_cons_of_mem _ hx)) with rfl | e
          · exact absurd (a1 x hx) (slt_irrefl _)
          · exact e
        · rcases List.mem_cons.1 ((h x).2 (List.mem_cons_of_mem _ hx)) with rfl | e
          · exact absurd (b1 x hx) (slt_irrefl _)
          · exact e
theorem val_ext {a b : List Pair} (ha : Sorted a) (hb : Sorted b) (h : ∀ k, val a k = val b k) : a = b := by
  refine sorted_ext a b ha hb fun p => ?_
  have := h p.key
  constructor
  · intro hp
    rw [← val_iff hb, ← this, val_iff ha]; exact hp
  · intro hp
    rw [← val_iff ha, this, val_iff hb]; exact hp

def lowP (l : List Pair) (k : List UInt8) : List Pair := l.filter fun p => decide (slt p.key k)
def highP (l : List Pair) (k : List UInt8) : List Pair := l.filter fun p => decide (slt k p.key)
/-- What a note makes of a key's value. -/
def stepO (o : Option (List UInt8)) (x : Note) : Option (List UInt8) :=
  let d := match o with | some v => doneOne (v, true) x | none => doneOne ([], false) x
  if d.2 = true then some d.1 else none
def mids (l : List Pair) (x : Note) : List Pair := match stepO (val l x.key) x with
  | some v => [⟨x.key, v⟩]
  | none => []
/-- A note, done. -/
def oneV (l : List Pair) (x : Note) : List Pair := lowP l x.key ++ mids l x ++ highP l x.key
theorem low_eq {k : List UInt8} : ∀ (l : List Pair), Sorted l → lowP l k = l.take (below k l)
  | [], _ => rfl
  | p :: r, hs => by
    cases hs with
    | cons h1 h2 =>
      unfold lowP below
      by_cases hk : slt p.key k
      · rw [if_pos hk, List.filter_cons, if_pos (by simpa using hk), List.take_succ_cons, ← low_eq r h2]; rfl
      · rw [if_neg hk, List.take_zero, List.filter_eq_nil_iff]
        intro y hy
        rcases List.mem_cons.1 hy with rfl | hy
        · simpa using hk
        · have := h1 y hy
          simp
          exact fun hc => hk (slt_trans this hc)
theorem high_eq {k : List UInt8} : ∀ (l : List Pair), Sorted l → highP l k = (match getL l k with | some _ => l.drop (below k l + 1) | none => l.drop (below k l))
  | [], _ => rfl
  | p :: r, hs => by
    cases hs with
    | cons h1 h2 =>
      have ih := high_eq (k := k) r h2
      unfold highP getL at ih
      unfold highP getL below
      by_cases hk : slt p.key k
      · have hne : ¬ p.key = k := fun e => slt_irrefl k (by rw [e] at hk; exact hk)
        rw [if_pos hk, List.filter_cons, if_neg (by simpa using slt_asymm hk), List.find?_cons, decide_eq_false hne, ih]
        cases r.find? (fun p => decide (p.key = k)) <;> simp
      · by_cases he : p.key = k
        · subst he
          rw [if_neg hk, List.filter_cons, if_neg (by simpa using hk), List.find?_cons]
          simp
          intro y hy
          exact h1 y hy
        · have hgt : slt k p.key := by
            rcases slt_total p.key k with h | h | h
            · exact absurd h hk
            · exact absurd h he
            · exact h
          have hnone : (p :: r).find? (fun p => decide (p.key = k)) = none := by
            rw [List.find?_eq_none]
            intro y hy
            rcases List.mem_cons.1 hy with rfl | hy
            · simpa using he
            · have := h1 y hy
              simp
              rintro rfl
              exact slt_irrefl _ (slt_trans hgt this)
          rw [hnone, if_neg hk]
          simp only [List.drop_zero]
          rw [List.filter_eq_self]
          intro y hy
          rcases List.mem_cons.1 hy with rfl | hy
          · simpa using hgt
          · simpa using slt_trans hgt (h1 y hy)
theorem oneV_sorted {l : List Pair} (hs : Sorted l) (x : Note) : Sorted (oneV l x) := by
  unfold oneV Sorted
  have hl : ∀ a ∈ lowP l x.key, slt a.key x.key := fun a ha => by simpa using (List.mem_filter.1 ha).2
  have hh : ∀ a ∈ highP l x.key, slt x.key a.key := fun a ha => by simpa using (List.mem_filter.1 ha).2
  have hm : ∀ a ∈ mids l x, a.key = x.key := fun a ha => by
    unfold mids at ha
    split at ha
    · simp at ha; rw [ha]
    · cases ha
  have hmp : (mids l x).Pairwise (fun a b => slt a.key b.key) := by
    unfold mids
    split
    · exact List.pairwise_singleton _ _
    · exact .nil
  rw [List.pairwise_append, List.pairwise_append]
  refine ⟨⟨hs.filter _, hmp, fun a ha b hb => ?_⟩, hs.filter _, fun a ha b hb => ?_⟩
  · rw [hm b hb]; exact hl a ha
  · rcases List.mem_append.1 ha with ha | ha
    · exact slt_trans (hl a ha) (hh b hb)
    · rw [hm a ha]; exact hh b hb
theorem oneV_val {l : List Pair} (hs : Sorted l) (x : Note) (k : List UInt8) : val (oneV l x) k = if k = x.key then stepO (val l k) x else val l k := by
  have ho := oneV_sorted hs x
  have hm : mids l x = (match stepO (val l x.key) x with | some v => [(⟨x.key, v⟩ : Pair)] | none => []) := rfl
  apply Option.ext
  intro v
  rw [val_iff ho]
  unfold oneV
  rw [List.mem_append, List.mem_append, lowP, highP, List.mem_filter, List.mem_filter]
  simp only [decide_eq_true_eq]
  by_cases hk : k = x.key
  · subst hk
    rw [if_pos rfl, hm]
    have := slt_irrefl x.key
    constructor
    · rintro ((h | h) | h)
      · exact absurd h.2 this
      · split at h
        · rename_i w hw; simp at h; rw [h, hw]
        · cases h
      · exact absurd h.2 this
    · intro h
      rw [h]
      exact .inl (.inr (by simp))
  · rw [if_neg hk, val_iff hs]
    constructor
    · rintro ((h | h) | h)
      · exact h.1
      · exfalso
        rw [hm] at h
        split at h
        · simp at h; exact hk h.1
        · cases h
      · exact h.1
    · intro h
      rcases slt_total k x.key with c | c | c
      · exact .inl (.inl ⟨h, c⟩)
      · exact absurd c hk
      · exact .inr ⟨h, c⟩
def appV (l : List Pair) (ns : List Note) : List Pair := ns.foldl oneV l
theorem appV_sorted : ∀ (ns : List Note) {l : List Pair}, Sorted l → Sorted (appV l ns)
  | [], _, h => h
  | x :: r, _, h => appV_sorted r (oneV_sorted h x)
theorem oneV_len {l : List Pair} (hs : Sorted l) (x : Note) : (oneV l x).length ≤ l.length + 1 := by
  have h1 := low_eq (k := x.key) l hs
  have h2 := high_eq (k := x.key) l hs
  have hb := below_le x.key l
  have hm : (mids l x).length ≤ 1 := by
    unfold mids
    split <;> simp
  unfold oneV
  rw [h1, h2, List.length_append, List.length_append, List.length_take]
  split <;> simp <;> omega
theorem beB8 (n : Int) : (beB n 8).length ≤ 32 := by rw [beB_len]; decide
theorem oneV_short {l : List Pair} (hl : ∀ p ∈ l, p.short) {x : Note} (hx : x.ok) : ∀ p ∈ oneV l x, p.short := by
  intro p hp
  unfold oneV at hp
  rw [List.mem_append, List.mem_append] at hp
  rcases hp with (hp | hp) | hp
  · exact hl p (List.mem_filter.1 hp).1
  · have hd : ∀ st : List UInt8 × Bool, (doneOne st x).1.length ≤ 32 := fun st => by
      unfold doneOne
      have := hx.2.1
      rcases hx.2.2 with h | h | h <;> simp [h.1]
      · exact this
      · exact beB8 _
    unfold mids at hp
    split at hp
    · rename_i v hv
      simp at hp
      rw [hp]
      refine ⟨hx.1, ?_⟩
      have hv2 : v.length ≤ 32 := by
        unfold stepO at hv
        cases ho : val l x.key with
        | none =>
          rw [ho] at hv
          simp only at hv
          split at hv
          · cases hv; exact hd _
          · cases hv
        | some w =>
          rw [ho] at hv
          simp only at hv
          split at hv
          · cases hv; exact hd _
          · cases hv
      exact hv2
    · cases hp
  · exact hl p (List.mem_filter.1 hp).1
theorem oneV_ok {l : List Pair} (h : pairsOk l) {x : Note} (hx : x.ok) : pairsOk (oneV l x) := by
  rw [pairsOk_iff] at *
  exact ⟨oneV_sorted h.1 x, oneV_short h.2 hx⟩
theorem appV_ok : ∀ (ns : List Note) {l : List Pair}, pairsOk l → (∀ x ∈ ns, x.ok) → pairsOk (appV l ns)
  | [], _, h, _ => h
  | x :: r, _, h, hn => appV_ok r (oneV_ok h (hn x List.mem_cons_self)) fun y hy => hn y (List.mem_cons_of_mem _ hy)
theorem appV_len : ∀ (ns : List Note) {l : List Pair}, Sorted l → (appV l ns).length ≤ l.length + ns.length
  | [], _, _ => Nat.le_refl _
  | x :: r, l, h => by
    have h1 := appV_len r (oneV_sorted h x)
    have h2 := oneV_len h x
    show (appV (oneV l x) r).length ≤ _
    simp only [List.length_cons]
    omega
end Go.Proofs.Ytglpemnejngkaaa
