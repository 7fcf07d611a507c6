/- A part of a proof: functions of the program, walked. -/
import Derived.Test.YtglpemnejngkaaaL17P1
import Derived.Test.YtglpemnejngkaaaL17LibNote
import Derived.Test.YtglpemnejngkaaaL17LibDelPair
set_option linter.unusedVariables false
set_option linter.unusedSimpArgs false
namespace Go.Proofs.Ytglpemnejngkaaa
open Go Go.Proofs Go.Proofs.YtglpemnejngkaaaVm Go.Proofs.Ytglpemnejngkaaa.Ty

theorem leaf_Apply1 (x : Note) : Ct Try.prog 42 (YtglpemnejngkaaaVm.ops [x.pv]) (.vals [.bool (decide (¬ x.ok))]) := by
  refine Ct.of_V Try.func42 rfl (by simp [YtglpemnejngkaaaVm.ops, Try.f42]) ?_
  refine V.exec 400 ?_
  simp (config := {contextual := true}) only [go_sem, ↓reduceIte, reduceCtorEq, Bool.false_eq_true, Bool.true_eq_false, Nat.reduceAdd, Nat.reduceLT, Nat.reduceEqDiff, Nat.reduceLeDiff, Nat.reduceSub, Nat.reduceMul, Try.f42, Note.pv]
  refine V.call rfl rfl (by simp [dOK]) ⟨34, [], by simp only [go_sem, ↓reduceIte, reduceCtorEq, Bool.false_eq_true, Bool.true_eq_false, Nat.reduceAdd, Nat.reduceLT, Nat.reduceEqDiff, Nat.reduceLeDiff, Nat.reduceSub, Nat.reduceMul], ⟨_, rfl, rfl, rfl⟩, .inl ⟨[x.pv], _, .inl (by simp only [go_sem, ↓reduceIte, reduceCtorEq, Bool.false_eq_true, Bool.true_eq_false, Nat.reduceAdd, Nat.reduceLT, Nat.reduceEqDiff, Nat.reduceLeDiff, Nat.reduceSub, Nat.reduceMul, Note.pv]), note_Right x, .inl ⟨_, rfl, rfl, rfl, rfl⟩⟩⟩ ?_
  refine V.exec 400 ?_
  simp (config := {contextual := true}) only [go_sem, ↓reduceIte, reduceCtorEq, Bool.false_eq_true, Bool.true_eq_false, Nat.reduceAdd, Nat.reduceLT, Nat.reduceEqDiff, Nat.reduceLeDiff, Nat.reduceSub, Nat.reduceMul]

def Note.of : PV → Note
  | .agg [.int _ a, .str b, .str c, .int _ d] => ⟨a, b, c, d⟩
  | _ => ⟨0, [], [], 0⟩
theorem Note.of_pv (x : Note) : Note.of x.pv = x := rfl

def notesOk (ns : List Note) : Prop := ∀ x ∈ ns, x.ok
instance instNotesOk (ns : List Note) : Decidable (notesOk ns) := by unfold notesOk; infer_instance
theorem Contains_bad (ns : List Note) (hl : ns.length ≤ 1000000) : Ct Try.prog 32 (YtglpemnejngkaaaVm.ops [.row (ns.map Note.pv), .fn 42 []]) (.vals [.bool (decide (¬ notesOk ns))]) := by
  unfold notesOk
  obtain ⟨r, hr, hr1, hr2, hr3⟩ := first_of (fun y => decide (¬ (Note.of y).ok)) (ns.map Note.pv)
  have hi := IndexFuncNote (ns.map Note.pv) 42 [] (fun y => decide (¬ (Note.of y).ok)) (fun y hy => by
      obtain ⟨s, _, rfl⟩ := List.mem_map.1 hy
      exact ⟨rfl, rfl⟩) (by simpa using hl) ⟨_, rfl, rfl, rfl⟩ (fun y hy => by
      obtain ⟨s, _, rfl⟩ := List.mem_map.1 hy
      rw [Note.of_pv]
      simpa using leaf_Apply1 s) r hr hr1 hr2
  refine Ct.of_V Try.func32 rfl (by simp [YtglpemnejngkaaaVm.ops, Try.f32]) ?_
  refine V.exec 400 ?_
  simp (config := {contextual := true}) only [go_sem, ↓reduceIte, reduceCtorEq, Bool.false_eq_true, Bool.true_eq_false, Nat.reduceAdd, Nat.reduceLT, Nat.reduceEqDiff, Nat.reduceLeDiff, Nat.reduceSub, Nat.reduceMul, Try.f32]
  refine V.call rfl rfl (by simp [dOK]) ⟨50, [], by simp only [go_sem, ↓reduceIte, reduceCtorEq, Bool.false_eq_true, Bool.true_eq_false, Nat.reduceAdd, Nat.reduceLT, Nat.reduceEqDiff, Nat.reduceLeDiff, Nat.reduceSub, Nat.reduceMul], ⟨_, rfl, rfl, rfl⟩, .inl ⟨[.row (ns.map Note.pv), .fn 42 []], _, .inl (by simp only [go_sem, ↓reduceIte, reduceCtorEq, Bool.false_eq_true, Bool.true_eq_false, Nat.reduceAdd, Nat.reduceLT, Nat.reduceEqDiff, Nat.reduceLeDiff, Nat.reduceSub, Nat.reduceMul]), hi, .inl ⟨_, rfl, rfl, rfl, rfl⟩⟩⟩ ?_
  refine V.exec 400 ?_
  simp (config := {contextual := true}) only [go_sem, ↓reduceIte, reduceCtorEq, Bool.false_eq_true, Bool.true_eq_false, Nat.reduceAdd, Nat.reduceLT, Nat.reduceEqDiff, Nat.reduceLeDiff, Nat.reduceSub, Nat.reduceMul]
  have e : (∃ y ∈ ns.map Note.pv, decide (¬ (Note.of y).ok) = true) ↔ ¬ ∀ x ∈ ns, x.ok := by
    constructor
    · rintro ⟨y, hy, hp⟩ hc
      obtain ⟨s, hs, rfl⟩ := List.mem_map.1 hy
      rw [Note.of_pv] at hp
      simp at hp
      exact hp (hc s hs)
    · intro h
      simp only [Classical.not_forall] at h
      obtain ⟨x, hx, hp⟩ := h
      exact ⟨x.pv, List.mem_map_of_mem hx, by rw [Note.of_pv]; simpa using hp⟩
  rw [e] at hr3
  rw [List.length_map] at hr3
  by_cases hc : ∀ x ∈ ns, x.ok
  · have : ¬ r < ns.length := fun h => (hr3.1 h) hc
    simp [this]
    exact hc
  · have h2 := hr3.2 hc
    simp [h2, hc]

theorem oneV_some {l : List Pair} (hs : Sorted l) {x : Note} {p : Pair} (h : getL l x.key = some p) :
    oneV l x = if (doneOne (p.value, true) x).2 = true then l.set (below x.key l) ⟨p.key, (doneOne (p.value, true) x).1⟩ else l.take (below x.key l) ++ l.drop (below x.key l + 1) := by
  have h1 := low_eq (k := x.key) l hs
  have h2 := high_eq (k := x.key) l hs
  rw [h] at h2
  have hb := (below_find l none ((rising_iff l).2 hs) p).2 h
  have hlt := (List.getElem?_eq_some_iff.1 hb.1).1
  have hv : val l x.key = some p.value := by simp [val, h]
  unfold oneV mids
  rw [h1, h2, hv]
  simp only [stepO]
  split
  · rename_i w hw
    split at hw
    · cases hw
      rename_i hd
      rw [if_pos hd, List.set_eq_take_append_cons_drop, if_pos hlt, hb.2]
      simp
    · cases hw
  · rename_i hw
    split at hw
    · cases hw
    · rename_i hd
      rw [if_neg hd]
      simp
theorem oneV_none {l : List Pair} (hs : Sorted l) {x : Note} (h : getL l x.key = none) :
    oneV l x = if (doneOne ([], false) x).2 = true then l.take (below x.key l) ++ [⟨x.key, (doneOne ([], false) x).1⟩] ++ l.drop (below x.key l) else l := by
  have h1 := low_eq (k := x.key) l hs
  have h2 := high_eq (k := x.key) l hs
  rw [h] at h2
  have hv : val l x.key = none := by simp [val, h]
  unfold oneV mids
  rw [h1, h2, hv]
  simp only [stepO]
  split
  · rename_i w hw
    split at hw
    · cases hw
      rename_i hd
      rw [if_pos hd]
    · cases hw
  · rename_i hw
    split at hw
    · cases hw
    · rename_i hd
      rw [if_neg hd]
      simp
def applyV (l : List Pair) (ns : List Note) : List Pair × Int := if pairsOk l ∧ notesOk ns then (appV l ns, 0) else (l, 1)

set_option maxRecDepth 10000 in
set_option maxHeartbeats 16000000 in
theorem leaf_Apply (l : List Pair) (ns : List Note) (hl : l.length ≤ 400000) (hn : ns.length ≤ 400000) : Ct Try.prog 25 (YtglpemnejngkaaaVm.ops [.row (l.map Pair.pv), .row (ns.map Note.pv)]) (.vals [.row ((applyV l ns).1.map Pair.pv), .int .i64 (applyV l ns).2]) := by
  have h2 : ∀ (l : List Pair), ∀ x ∈ l.map Pair.pv, x.cells.length = 2 := fun l x hx => by
    obtain ⟨s, _, rfl⟩ := List.mem_map.1 hx
    rfl
  refine Ct.of_V Try.func25 rfl (by simp [YtglpemnejngkaaaVm.ops, Try.f25]) ?_
  refine V.exec 400 ?_
  simp (config := {contextual := true}) only [go_sem, ↓reduceIte, reduceCtorEq, Bool.false_eq_true, Bool.true_eq_false, Nat.reduceAdd, Nat.reduceLT, Nat.reduceEqDiff, Nat.reduceLeDiff, Nat.reduceSub, Nat.reduceMul, Try.f25]
  refine V.call rfl rfl (by simp [dOK]) ⟨27, [], by simp only [go_sem, ↓reduceIte, reduceCtorEq, Bool.false_eq_true, Bool.true_eq_false, Nat.reduceAdd, Nat.reduceLT, Nat.reduceEqDiff, Nat.reduceLeDiff, Nat.reduceSub, Nat.reduceMul], ⟨_, rfl, rfl, rfl⟩, .inl ⟨[.row (l.map Pair.pv)], _, .inl (by simp only [go_sem, ↓reduceIte, reduceCtorEq, Bool.false_eq_true, Bool.true_eq_false, Nat.reduceAdd, Nat.reduceLT, Nat.reduceEqDiff, Nat.reduceLeDiff, Nat.reduceSub, Nat.reduceMul]), ClonePair (l.map Pair.pv) (h2 l) (by simp; omega), .inr (.inr ⟨61, (l.map Pair.pv)   , rfl, by simp only [go_sem, ↓reduceIte, reduceCtorEq, Bool.false_eq_true, Bool.true_eq_false, Nat.reduceAdd, Nat.reduceLT, Nat.reduceEqDiff, Nat.reduceLeDiff, Nat.reduceSub, Nat.reduceMul], rfl, rfl⟩)⟩⟩ ?_
  refine V.exec 400 ?_
  simp (config := {contextual := true}) only [go_sem, ↓reduceIte, reduceCtorEq, Bool.false_eq_true, Bool.true_eq_false, Nat.reduceAdd, Nat.reduceLT, Nat.reduceEqDiff, Nat.reduceLeDiff, Nat.reduceSub, Nat.reduceMul]
  refine V.call rfl rfl (by simp [dOK]) ⟨21, [], by simp only [go_sem, ↓reduceIte, reduceCtorEq, Bool.false_eq_true, Bool.true_eq_false, Nat.reduceAdd, Nat.reduceLT, Nat.reduceEqDiff, Nat.reduceLeDiff, Nat.reduceSub, Nat.reduceMul], ⟨_, rfl, rfl, rfl⟩, .inl ⟨[.row (l.map Pair.pv)], _, .inl (by simp only [go_sem, ↓reduceIte, reduceCtorEq, Bool.false_eq_true, Bool.true_eq_false, Nat.reduceAdd, Nat.reduceLT, Nat.reduceEqDiff, Nat.reduceLeDiff, Nat.reduceSub, Nat.reduceMul]), leaf_Right l (by omega), .inl ⟨_, rfl, rfl, rfl, rfl⟩⟩⟩ ?_
  refine V.exec 400 ?_
  by_cases hok : pairsOk l
  · simp (config := {contextual := true}) only [go_sem, ↓reduceIte, reduceCtorEq, Bool.false_eq_true, Bool.true_eq_false, Nat.reduceAdd, Nat.reduceLT, Nat.reduceEqDiff, Nat.reduceLeDiff, Nat.reduceSub, Nat.reduceMul, hok]
    refine V.call rfl rfl (by simp [dOK]) ⟨32, [], by simp only [go_sem, ↓reduceIte, reduceCtorEq, Bool.false_eq_true, Bool.true_eq_false, Nat.reduceAdd, Nat.reduceLT, Nat.reduceEqDiff, Nat.reduceLeDiff, Nat.reduceSub, Nat.reduceMul], ⟨_, rfl, rfl, rfl⟩, .inl ⟨[.row (ns.map Note.pv), .fn 42 []], _, .inl (by simp only [go_sem, ↓reduceIte, reduceCtorEq, Bool.false_eq_true, Bool.true_eq_false, Nat.reduceAdd, Nat.reduceLT, Nat.reduceEqDiff, Nat.reduceLeDiff, Nat.reduceSub, Nat.reduceMul]), Contains_bad ns (by omega), .inl ⟨_, rfl, rfl, rfl, rfl⟩⟩⟩ ?_
    refine V.exec 400 ?_
    by_cases hall : notesOk ns
    · have hv : applyV l ns = (appV l ns, 0) := by simp only [applyV]; rw [if_pos ⟨hok, hall⟩]
      simp (config := {contextual := true}) only [go_sem, ↓reduceIte, reduceCtorEq, Bool.false_eq_true, Bool.true_eq_false, Nat.reduceAdd, Nat.reduceLT, Nat.reduceEqDiff, Nat.reduceLeDiff, Nat.reduceSub, Nat.reduceMul, hall, hv]
      refine V.loop (fun m ls os => ∃ (i : Nat) (cur : List Pair), i ≤ ns.length ∧ m = ns.length - i ∧ Sorted cur ∧ cur.length ≤ l.length + i ∧ appV cur (ns.drop i) = appV l ns ∧
          ls = [(6, .ref 0), (24, .val (.row (ns.map Note.pv))), (25, .val (.int .i64 ns.length)), (26, .val (.int .i64 i))] ∧ os = [.row 61 (cur.map Pair.pv)]) 1 ns.length
        [(6, .ref 0), (24, .val (.row (ns.map Note.pv))), (25, .val (.int .i64 ns.length)), (26, .val (.int .i64 0))] [.row 61 (l.map Pair.pv)] [some 5]
        ⟨0, l, Nat.zero_le _, rfl, ((pairsOk_iff l).1 hok).1, Nat.le_refl _, rfl, rfl, rfl⟩ (by simp only [go_sem, ↓reduceIte, reduceCtorEq, Bool.false_eq_true, Bool.true_eq_false, Nat.reduceAdd, Nat.reduceLT, Nat.reduceEqDiff, Nat.reduceLeDiff, Nat.reduceSub, Nat.reduceMul]; try decide) ?_
      rintro m ls os ⟨i, cur, hi, rfl, hcs, hcl, hca, rfl, rfl⟩
      refine V.exec 400 ?_
      by_cases hlt : i < ns.length
      · have hlt' : (i : Int) < (ns.length : Int) := by omega
        obtain ⟨x, hx⟩ : ∃ x, ns[i]? = some x := ⟨_, List.getElem?_eq_getElem hlt⟩
        have hw : IntKind.i64.wrap ((i : Int) + 1) = ((i + 1 : Nat) : Int) := by rw [wrap_small3] <;> omega
        rw [drop_of_get hx, appV, List.foldl_cons] at hca
        have hos := oneV_sorted hcs x
        have hol := oneV_len hcs x
        have hpb := posA_eq ((rising_iff cur).2 hcs) x.key
        have hpl := leaf_place cur x.key (by omega)
        rw [hpb] at hpl
        have hbl := below_le x.key cur
        simp (config := {contextual := true}) only [go_sem, ↓reduceIte, reduceCtorEq, Bool.false_eq_true, Bool.true_eq_false, Nat.reduceAdd, Nat.reduceLT, Nat.reduceEqDiff, Nat.reduceLeDiff, Nat.reduceSub, Nat.reduceMul, hlt', hx, Note.pv]
        refine V.call rfl rfl (by simp [dOK]) ⟨36, [], by simp only [go_sem, ↓reduceIte, reduceCtorEq, Bool.false_eq_true, Bool.true_eq_false, Nat.reduceAdd, Nat.reduceLT, Nat.reduceEqDiff, Nat.reduceLeDiff, Nat.reduceSub, Nat.reduceMul], ⟨_, rfl, rfl, rfl⟩, .inl ⟨[.row (cur.map Pair.pv), .str x.key], _, .inl (by simp only [go_sem, ↓reduceIte, reduceCtorEq, Bool.false_eq_true, Bool.true_eq_false, Nat.reduceAdd, Nat.reduceLT, Nat.reduceEqDiff, Nat.reduceLeDiff, Nat.reduceSub, Nat.reduceMul]), hpl, .inl ⟨_, rfl, rfl, rfl, rfl⟩⟩⟩ ?_
        refine V.exec 400 ?_
        cases hg : getL cur x.key with
        | some p =>
          have hp := (below_find cur none ((rising_iff cur).2 hcs) p).2 hg
          have hE : (∃ y, some p = some y ∧ y.key = x.key) := ⟨p, rfl, hp.2⟩
          have hrl := (List.getElem?_eq_some_iff.1 hp.1).1
          have hrl' : ((below x.key cur : Nat) : Int) < (cur.length : Int) := by omega
          have hone := oneV_some hcs hg
          have hdo := note_Done p.value true [x] (by simp)
          simp (config := {contextual := true}) only [go_sem, ↓reduceIte, reduceCtorEq, Bool.false_eq_true, Bool.true_eq_false, Nat.reduceAdd, Nat.reduceLT, Nat.reduceEqDiff, Nat.reduceLeDiff, Nat.reduceSub, Nat.reduceMul, hp.1, hE, hrl', Pair.pv]
          refine V.call rfl rfl (by simp [dOK]) ⟨43, [], by simp only [go_sem, ↓reduceIte, reduceCtorEq, Bool.false_eq_true, Bool.true_eq_false, Nat.reduceAdd, Nat.reduceLT, Nat.reduceEqDiff, Nat.reduceLeDiff, Nat.reduceSub, Nat.reduceMul], ⟨_, rfl, rfl, rfl⟩, .inl ⟨[.str p.value, .bool (decide (true = true)), .row ([x].map Note.pv)], _, .inl (by simp only [go_sem, ↓reduceIte, reduceCtorEq, Bool.false_eq_true, Bool.true_eq_false, Nat.reduceAdd, Nat.reduceLT, Nat.reduceEqDiff, Nat.reduceLeDiff, Nat.reduceSub, Nat.reduceMul, Note.pv, List.map_cons, List.map_nil, decide_true]), hdo, .inr (.inl ⟨_, rfl, rfl, rfl⟩)⟩⟩ ?_
          refine V.exec 400 ?_
          have hwr : IntKind.i64.wrap (((below x.key cur : Nat) : Int) + 1) = ((below x.key cur + 1 : Nat) : Int) := by rw [wrap_small3] <;> omega
          have hdv : doneV p.value true [x] = doneOne (p.value, true) x := rfl
          rw [hdv] at hdo ⊢
          obtain ⟨now, has, hdd⟩ : ∃ a b, doneOne (p.value, true) x = (a, b) := ⟨_, _, rfl⟩
          rw [hdd] at hone hdo ⊢
          simp only at hone hdo ⊢
          cases has with
          | true =>
            rw [if_pos rfl] at hone
            simp (config := {contextual := true}) only [go_sem, ↓reduceIte, reduceCtorEq, Bool.false_eq_true, Bool.true_eq_false, Nat.reduceAdd, Nat.reduceLT, Nat.reduceEqDiff, Nat.reduceLeDiff, Nat.reduceSub, Nat.reduceMul, hp.1, hE, hrl', Pair.pv, decide_true]
            refine ⟨ns.length - (i + 1), _, _, [some 0], by omega, ⟨i + 1, oneV cur x, by omega, rfl, hos, by omega, hca, rfl, rfl⟩, ?_⟩
            simp only [go_sem, ↓reduceIte, reduceCtorEq, Bool.false_eq_true, Bool.true_eq_false, Nat.reduceAdd, Nat.reduceLT, Nat.reduceEqDiff, Nat.reduceLeDiff, Nat.reduceSub, Nat.reduceMul, hone, List.map_set, Pair.pv, hw]
            try decide
          | false =>
            rw [if_neg (by simp)] at hone
            have hdel := DeletePair (cur.map Pair.pv) (below x.key cur) (h2 cur) (by simpa using hrl) (by simp; omega)
            rw [← List.map_take, ← List.map_drop, ← List.map_append, ← hone] at hdel
            simp (config := {contextual := true}) only [go_sem, ↓reduceIte, reduceCtorEq, Bool.false_eq_true, Bool.true_eq_false, Nat.reduceAdd, Nat.reduceLT, Nat.reduceEqDiff, Nat.reduceLeDiff, Nat.reduceSub, Nat.reduceMul, hp.1, hE, hrl', Pair.pv, decide_false, hwr]
            refine V.call rfl rfl (by simp [dOK]) ⟨44, [], by simp only [go_sem, ↓reduceIte, reduceCtorEq, Bool.false_eq_true, Bool.true_eq_false, Nat.reduceAdd, Nat.reduceLT, Nat.reduceEqDiff, Nat.reduceLeDiff, Nat.reduceSub, Nat.reduceMul], ⟨_, rfl, rfl, rfl⟩, .inr ⟨0, 61, cur.map Pair.pv, [.val (.int .i64 (below x.key cur : Nat)), .val (.int .i64 (below x.key cur + 1 : Nat))], [.int .i64 (below x.key cur : Nat), .int .i64 (below x.key cur + 1 : Nat)], 61, _, by simp only [go_sem, ↓reduceIte, reduceCtorEq, Bool.false_eq_true, Bool.true_eq_false, Nat.reduceAdd, Nat.reduceLT, Nat.reduceEqDiff, Nat.reduceLeDiff, Nat.reduceSub, Nat.reduceMul], by simp only [go_sem, ↓reduceIte, reduceCtorEq, Bool.false_eq_true, Bool.true_eq_false, Nat.reduceAdd, Nat.reduceLT, Nat.reduceEqDiff, Nat.reduceLeDiff, Nat.reduceSub, Nat.reduceMul], .inl (by simp only [go_sem, ↓reduceIte, reduceCtorEq, Bool.false_eq_true, Bool.true_eq_false, Nat.reduceAdd, Nat.reduceLT, Nat.reduceEqDiff, Nat.reduceLeDiff, Nat.reduceSub, Nat.reduceMul]), hdel, by simp only [go_sem, ↓reduceIte, reduceCtorEq, Bool.false_eq_true, Bool.true_eq_false, Nat.reduceAdd, Nat.reduceLT, Nat.reduceEqDiff, Nat.reduceLeDiff, Nat.reduceSub, Nat.reduceMul], rfl, rfl⟩⟩ ?_
            refine V.exec 400 ?_
            simp (config := {contextual := true}) only [go_sem, ↓reduceIte, reduceCtorEq, Bool.false_eq_true, Bool.true_eq_false, Nat.reduceAdd, Nat.reduceLT, Nat.reduceEqDiff, Nat.reduceLeDiff, Nat.reduceSub, Nat.reduceMul, hw]
            refine ⟨ns.length - (i + 1), _, _, [some 44], by omega, ⟨i + 1, oneV cur x, by omega, rfl, hos, by omega, hca, rfl, rfl⟩, ?_⟩
            simp only [go_sem, ↓reduceIte, reduceCtorEq, Bool.false_eq_true, Bool.true_eq_false, Nat.reduceAdd, Nat.reduceLT, Nat.reduceEqDiff, Nat.reduceLeDiff, Nat.reduceSub, Nat.reduceMul]
        | none =>
          have hE : ¬ ∃ y, cur[below x.key cur]? = some y ∧ y.key = x.key := fun ⟨y, hy⟩ => by
            have := (below_find cur none ((rising_iff cur).2 hcs) y).1 hy
            rw [hg] at this; cases this
          have hone := oneV_none hcs hg
          have hdo := note_Done [] false [x] (by simp)
          simp (config := {contextual := true}) only [go_sem, ↓reduceIte, reduceCtorEq, Bool.false_eq_true, Bool.true_eq_false, Nat.reduceAdd, Nat.reduceLT, Nat.reduceEqDiff, Nat.reduceLeDiff, Nat.reduceSub, Nat.reduceMul, hE]
          refine V.call rfl rfl (by simp [dOK]) ⟨43, [], by simp only [go_sem, ↓reduceIte, reduceCtorEq, Bool.false_eq_true, Bool.true_eq_false, Nat.reduceAdd, Nat.reduceLT, Nat.reduceEqDiff, Nat.reduceLeDiff, Nat.reduceSub, Nat.reduceMul], ⟨_, rfl, rfl, rfl⟩, .inl ⟨[.str [], .bool (decide (false = true)), .row ([x].map Note.pv)], _, .inl (by simp only [go_sem, ↓reduceIte, reduceCtorEq, Bool.false_eq_true, Bool.true_eq_false, Nat.reduceAdd, Nat.reduceLT, Nat.reduceEqDiff, Nat.reduceLeDiff, Nat.reduceSub, Nat.reduceMul, Note.pv, List.map_cons, List.map_nil, decide_false]), hdo, .inr (.inl ⟨_, rfl, rfl, rfl⟩)⟩⟩ ?_
          refine V.exec 400 ?_
          have hdv : doneV [] false [x] = doneOne ([], false) x := rfl
          rw [hdv] at hdo ⊢
          obtain ⟨now, has, hdd⟩ : ∃ a b, doneOne ([], false) x = (a, b) := ⟨_, _, rfl⟩
          rw [hdd] at hone hdo ⊢
          simp only at hone hdo ⊢
          cases has with
          | true =>
            rw [if_pos rfl] at hone
            have hins := InsertPair (cur.map Pair.pv) (Pair.pv ⟨x.key, now⟩) (below x.key cur) (h2 cur) rfl (by simpa using hbl) (by simp; omega)
            have he : (cur.map Pair.pv).take (below x.key cur) ++ [Pair.pv ⟨x.key, now⟩] ++ (cur.map Pair.pv).drop (below x.key cur) = (oneV cur x).map Pair.pv := by
              rw [hone]; simp [List.map_append, List.map_take, List.map_drop]
            rw [he] at hins
            simp (config := {contextual := true}) only [go_sem, ↓reduceIte, reduceCtorEq, Bool.false_eq_true, Bool.true_eq_false, Nat.reduceAdd, Nat.reduceLT, Nat.reduceEqDiff, Nat.reduceLeDiff, Nat.reduceSub, Nat.reduceMul, hE, Pair.pv, decide_true]
            refine V.call rfl rfl (by simp [dOK]) ⟨45, [], by simp only [go_sem, ↓reduceIte, reduceCtorEq, Bool.false_eq_true, Bool.true_eq_false, Nat.reduceAdd, Nat.reduceLT, Nat.reduceEqDiff, Nat.reduceLeDiff, Nat.reduceSub, Nat.reduceMul], ⟨_, rfl, rfl, rfl⟩, .inr ⟨0, 61, cur.map Pair.pv, [.val (.int .i64 (below x.key cur : Nat)), .ref 42], [.int .i64 (below x.key cur : Nat), .rowp [Pair.pv ⟨x.key, now⟩]], 61, _, by simp only [go_sem, ↓reduceIte, reduceCtorEq, Bool.false_eq_true, Bool.true_eq_false, Nat.reduceAdd, Nat.reduceLT, Nat.reduceEqDiff, Nat.reduceLeDiff, Nat.reduceSub, Nat.reduceMul], by simp only [go_sem, ↓reduceIte, reduceCtorEq, Bool.false_eq_true, Bool.true_eq_false, Nat.reduceAdd, Nat.reduceLT, Nat.reduceEqDiff, Nat.reduceLeDiff, Nat.reduceSub, Nat.reduceMul], .inr ⟨[.val (.int .i64 (below x.key cur : Nat))], 42, 61, [Pair.pv ⟨x.key, now⟩], [.int .i64 (below x.key cur : Nat)], rfl, rfl, by simp only [go_sem, ↓reduceIte, reduceCtorEq, Bool.false_eq_true, Bool.true_eq_false, Nat.reduceAdd, Nat.reduceLT, Nat.reduceEqDiff, Nat.reduceLeDiff, Nat.reduceSub, Nat.reduceMul, Pair.pv], rfl⟩, hins, by simp only [go_sem, ↓reduceIte, reduceCtorEq, Bool.false_eq_true, Bool.true_eq_false, Nat.reduceAdd, Nat.reduceLT, Nat.reduceEqDiff, Nat.reduceLeDiff, Nat.reduceSub, Nat.reduceMul], rfl, rfl⟩⟩ ?_
            refine V.exec 400 ?_
            simp (config := {contextual := true}) only [go_sem, ↓reduceIte, reduceCtorEq, Bool.false_eq_true, Bool.true_eq_false, Nat.reduceAdd, Nat.reduceLT, Nat.reduceEqDiff, Nat.reduceLeDiff, Nat.reduceSub, Nat.reduceMul, hw]
            refine ⟨ns.length - (i + 1), _, _, [some 43], by omega, ⟨i + 1, oneV cur x, by omega, rfl, hos, by omega, hca, rfl, rfl⟩, ?_⟩
            simp only [go_sem, ↓reduceIte, reduceCtorEq, Bool.false_eq_true, Bool.true_eq_false, Nat.reduceAdd, Nat.reduceLT, Nat.reduceEqDiff, Nat.reduceLeDiff, Nat.reduceSub, Nat.reduceMul]
          | false =>
            rw [if_neg (by simp)] at hone
            simp (config := {contextual := true}) only [go_sem, ↓reduceIte, reduceCtorEq, Bool.false_eq_true, Bool.true_eq_false, Nat.reduceAdd, Nat.reduceLT, Nat.reduceEqDiff, Nat.reduceLeDiff, Nat.reduceSub, Nat.reduceMul, hE, Pair.pv, decide_false, hw]
            refine ⟨ns.length - (i + 1), _, _, [some 0], by omega, ⟨i + 1, oneV cur x, by omega, rfl, hos, by omega, hca, rfl, rfl⟩, ?_⟩
            simp only [go_sem, ↓reduceIte, reduceCtorEq, Bool.false_eq_true, Bool.true_eq_false, Nat.reduceAdd, Nat.reduceLT, Nat.reduceEqDiff, Nat.reduceLeDiff, Nat.reduceSub, Nat.reduceMul, hone]
      · have hlt' : ¬ (i : Int) < (ns.length : Int) := by omega
        have hd : ns.drop i = [] := List.drop_eq_nil_of_le (by omega)
        rw [hd] at hca
        simp (config := {contextual := true}) only [go_sem, ↓reduceIte, reduceCtorEq, Bool.false_eq_true, Bool.true_eq_false, Nat.reduceAdd, Nat.reduceLT, Nat.reduceEqDiff, Nat.reduceLeDiff, Nat.reduceSub, Nat.reduceMul, hlt', ← hca]
        rfl
    · have hv : applyV l ns = (l, 1) := by simp only [applyV]; rw [if_neg (fun h => hall h.2)]
      simp (config := {contextual := true}) only [go_sem, ↓reduceIte, reduceCtorEq, Bool.false_eq_true, Bool.true_eq_false, Nat.reduceAdd, Nat.reduceLT, Nat.reduceEqDiff, Nat.reduceLeDiff, Nat.reduceSub, Nat.reduceMul, hall, hv]
  · have hv : applyV l ns = (l, 1) := by simp only [applyV]; rw [if_neg (fun h => hok h.1)]
    simp (config := {contextual := true}) only [go_sem, ↓reduceIte, reduceCtorEq, Bool.false_eq_true, Bool.true_eq_false, Nat.reduceAdd, Nat.reduceLT, Nat.reduceEqDiff, Nat.reduceLeDiff, Nat.reduceSub, Nat.reduceMul, hok, hv]
end Go.Proofs.Ytglpemnejngkaaa
