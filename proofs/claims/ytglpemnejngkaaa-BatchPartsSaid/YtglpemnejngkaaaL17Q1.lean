/- A part of a proof: functions of the program, walked. -/
import Derived.Test.YtglpemnejngkaaaL17G2
import Derived.Test.YtglpemnejngkaaaL17S2
set_option linter.unusedVariables false
set_option linter.unusedSimpArgs false
namespace Go.Proofs.Ytglpemnejngkaaa
open Go Go.Proofs Go.Proofs.YtglpemnejngkaaaVm

def Change.zero : Change := ⟨0, [], false, [], false, []⟩
/-- What a note is to pairs. -/
def ofV (l : List Pair) (seq : Int) (n : Note) : Change × Int :=
  if pairsOk l ∧ n.ok ∧ 1 ≤ seq ∧ seq ≤ 2147483647 then
    (if (getV l n.key).2 = false ∧ (doneV (getV l n.key).1 (getV l n.key).2 [n]).2 = false then (Change.zero, 3)
     else (⟨seq, n.key, (getV l n.key).2, (getV l n.key).1, (doneV (getV l n.key).1 (getV l n.key).2 [n]).2, (doneV (getV l n.key).1 (getV l n.key).2 [n]).1⟩, 0))
  else (Change.zero, 1)
def noteC (c : Change) : Note := if c.has = true then ⟨1, c.key, c.aft, 0⟩ else ⟨2, c.key, [], 0⟩
def fitC (l : List Pair) (c : Change) : Prop := getV l c.key = (c.bef, c.had)
instance instFitC (l : List Pair) (c : Change) : Decidable (fitC l c) := by unfold fitC; infer_instance
def doGo : List Pair → List Change → Option (List Pair)
  | l, [] => some l
  | l, c :: r => if c.ok ∧ fitC l c then doGo (oneV l (noteC c)) r else none
def doV (l : List Pair) (cs : List Change) : List Pair × Int := if pairsOk l then (match doGo l cs with | some q => (q, 0) | none => (l, 1)) else (l, 1)
theorem noteC_key (c : Change) : (noteC c).key = c.key := by unfold noteC; split <;> rfl
theorem noteC_ok {c : Change} (h : c.ok) : (noteC c).ok := by
  unfold noteC
  split
  · exact ⟨h.1, h.2.2.1, .inl ⟨rfl, rfl⟩⟩
  · exact ⟨h.1, by simp, .inr (.inl ⟨rfl, rfl, rfl⟩)⟩
theorem oneV_congr {l : List Pair} (hs : Sorted l) {a b : Note} (hk : a.key = b.key) (hst : stepO (val l b.key) a = stepO (val l b.key) b) : oneV l a = oneV l b := by
  refine val_ext (oneV_sorted hs a) (oneV_sorted hs b) fun k => ?_
  rw [oneV_val hs, oneV_val hs, hk]
  by_cases h : k = b.key
  · subst h; rw [if_pos rfl, if_pos rfl, hst]
  · rw [if_neg h, if_neg h]
theorem oneV_same {l : List Pair} (hs : Sorted l) {a : Note} (hst : stepO (val l a.key) a = val l a.key) : oneV l a = l := by
  refine val_ext (oneV_sorted hs a) hs fun k => ?_
  rw [oneV_val hs]
  by_cases h : k = a.key
  · subst h; rw [if_pos rfl, hst]
  · rw [if_neg h]
/-- What is done to what there is, as a step. -/
theorem done_step {l : List Pair} (h : pairsOk l) (n : Note) :
    stepO (val l n.key) n = if (doneV (getV l n.key).1 (getV l n.key).2 [n]).2 = true then some (doneV (getV l n.key).1 (getV l n.key).2 [n]).1 else none := by
  rw [getV_val h]
  unfold stepO
  cases val l n.key <;> rfl
theorem done_none (n : Note) {v : List UInt8} {w : Bool} (h : (doneV v w [n]).2 = false) (hw : w = false → v = []) : (doneV v w [n]).1 = [] := by
  unfold doneV at *
  simp only [List.foldl_cons, List.foldl_nil] at *
  unfold doneOne at *
  split at h
  · cases h
  · rename_i h1
    split at h
    · rename_i h2; rw [if_neg h1, if_pos h2]
    · rename_i h2
      split at h
      · cases h
      · rename_i h3
        rw [if_neg h1, if_neg h2, if_neg h3]
        cases w with
        | true => cases h
        | false => rfl
theorem getV_none {l : List Pair} (h : pairsOk l) (k : List UInt8) (hw : (getV l k).2 = false) : (getV l k).1 = [] := by
  rw [getV_val h] at *
  cases hv : val l k with
  | none => rfl
  | some v => rw [hv] at hw; cases hw
theorem getV_short {l : List Pair} (h : pairsOk l) (k : List UInt8) : (getV l k).1.length ≤ 32 := by
  rw [getV_val h]
  cases hv : val l k with
  | none => simp
  | some v =>
    have hp := (pairsOk_iff l).1 h
    have := (val_iff hp.1).1 hv
    exact (hp.2 _ this).2
theorem done_short (v : List UInt8) (w : Bool) {n : Note} (hn : n.ok) : (doneV v w [n]).1.length ≤ 32 := by
  unfold doneV
  simp only [List.foldl_cons, List.foldl_nil]
  unfold doneOne
  have := hn.2.1
  rcases hn.2.2 with h | h | h <;> simp [h.1]
  · exact this
  · rw [beB_len]; decide
/-- A change that is made of a note is one that may be, fits, and does what the note does. -/
theorem ofV_does {l : List Pair} {seq : Int} {n : Note} (h : (ofV l seq n).2 = 0) :
    (ofV l seq n).1.ok ∧ fitC l (ofV l seq n).1 ∧ oneV l (noteC (ofV l seq n).1) = oneV l n ∧ doV l [(ofV l seq n).1] = (oneV l n, 0) ∧ (ofV l seq n).1.key = n.key ∧ (ofV l seq n).1.seq = seq := by
  unfold ofV at *
  split at h
  · rename_i hc
    rw [if_pos hc]
    split at h
    · cases h
    · rename_i hb
      rw [if_neg hb]
      obtain ⟨h1, h2, h3, h4⟩ := hc
      have hs := ((pairsOk_iff l).1 h1).1
      have e1 : (⟨seq, n.key, (getV l n.key).2, (getV l n.key).1, (doneV (getV l n.key).1 (getV l n.key).2 [n]).2, (doneV (getV l n.key).1 (getV l n.key).2 [n]).1⟩ : Change).ok := by
        refine ⟨h2.1, getV_short h1 _, done_short _ _ h2, h3, h4, ?_, ?_, ?_⟩
        · show (getV l n.key).2 = true ∨ (getV l n.key).1 = []
          cases hw : (getV l n.key).2 with
          | true => exact .inl rfl
          | false => exact .inr (getV_none h1 _ hw)
        · show (doneV (getV l n.key).1 (getV l n.key).2 [n]).2 = true ∨ (doneV (getV l n.key).1 (getV l n.key).2 [n]).1 = []
          cases hw : (doneV (getV l n.key).1 (getV l n.key).2 [n]).2 with
          | true => exact .inl rfl
          | false => exact .inr (done_none n hw (getV_none h1 _))
        · show (getV l n.key).2 = true ∨ (doneV (getV l n.key).1 (getV l n.key).2 [n]).2 = true
          cases hw : (getV l n.key).2 with
          | true => exact .inl rfl
          | false => cases hv : (doneV (getV l n.key).1 (getV l n.key).2 [n]).2 with
            | true => exact .inr (by rw [hw] at hv; exact hv)
            | false => rw [hw] at hv hb; exact absurd ⟨rfl, hv⟩ hb
      have e2 : fitC l ⟨seq, n.key, (getV l n.key).2, (getV l n.key).1, (doneV (getV l n.key).1 (getV l n.key).2 [n]).2, (doneV (getV l n.key).1 (getV l n.key).2 [n]).1⟩ := rfl
      have e3 : oneV l (noteC ⟨seq, n.key, (getV l n.key).2, (getV l n.key).1, (doneV (getV l n.key).1 (getV l n.key).2 [n]).2, (doneV (getV l n.key).1 (getV l n.key).2 [n]).1⟩) = oneV l n := by
        refine oneV_congr hs (noteC_key _) ?_
        rw [done_step h1 n]
        unfold noteC
        split
        · exact stepO_put _ rfl
        · exact stepO_del _ rfl
      refine ⟨e1, e2, e3, ?_, rfl, rfl⟩
      unfold doV doGo doGo
      rw [if_pos h1, if_pos ⟨e1, e2⟩, e3]
  · cases h
/-- No change: the pairs stay. -/
theorem ofV_none {l : List Pair} {seq : Int} {n : Note} (h1 : pairsOk l) (h2 : n.ok) (h3 : 1 ≤ seq) (h4 : seq ≤ 2147483647) (h : (ofV l seq n).2 ≠ 0) : oneV l n = l ∧ ofV l seq n = (Change.zero, 3) := by
  unfold ofV at *
  rw [if_pos ⟨h1, h2, h3, h4⟩] at *
  split at h
  · rename_i hb
    rw [if_pos hb]
    refine ⟨oneV_same ((pairsOk_iff l).1 h1).1 ?_, rfl⟩
    rw [done_step h1 n, hb.2, if_neg (by decide)]
    have := hb.1
    rw [getV_val h1] at this
    cases hv : val l n.key with
    | none => rfl
    | some v => rw [hv] at this; cases this
  · exact absurd rfl h
theorem oneV_pairsOk {l : List Pair} (h : pairsOk l) {x : Note} (hx : x.ok) : pairsOk (oneV l x) := oneV_ok h hx
/-- A batch, note by note. -/
def runGo : List Pair → Int → List Change → List Note → List Change × List Pair
  | p, _, out, [] => (out, p)
  | p, seq, out, n :: r => if (ofV p (seq + out.length + 1) n).2 = 0 then runGo (oneV p n) seq (out ++ [(ofV p (seq + out.length + 1) n).1]) r else runGo p seq out r
def notesAll (ns : List Note) : Prop := ∀ x ∈ ns, x.ok
def batchOk (ns : List Note) : Prop := ns.length ≤ 8 ∧ notesAll ns
instance instNotesAll (ns : List Note) : Decidable (notesAll ns) := by unfold notesAll; infer_instance
instance instBatchOk (ns : List Note) : Decidable (batchOk ns) := by unfold batchOk; infer_instance
def runV (l : List Pair) (seq : Int) (ns : List Note) : List Change × List Pair × Int :=
  if batchOk ns ∧ pairsOk l ∧ 0 ≤ seq ∧ seq ≤ 2147483647 then (if 2147483647 - (ns.length : Int) < seq then ([], l, 5) else ((runGo l seq [] ns).1, (runGo l seq [] ns).2, 0)) else ([], l, 1)
end Go.Proofs.Ytglpemnejngkaaa
