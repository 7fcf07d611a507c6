/- A part of a proof: functions of the program, walked. -/
import Derived.Test.YtbciecmoadjigaaL11D1
set_option linter.unusedVariables false
set_option linter.unusedSimpArgs false
namespace Go.Proofs.Ytbciecmoadjigaa
open Go Go.Proofs Go.Proofs.YtbciecmoadjigaaVm Go.Proofs.Ytbciecmoadjigaa.Ty

theorem bothV_key (a b : Note) : (bothV a b).key = b.key := by
  unfold bothV
  split
  · rfl
  · split
    · split
      · rfl
      · split
        · rfl
        · split <;> rfl
    · rfl
theorem beB_short (n : Int) : (beB n 8).length ≤ 32 := by rw [beB_len]; decide
theorem doneOne_short (st : List UInt8 × Bool) {x : Note} (hx : x.ok) : (doneOne st x).1.length ≤ 32 := by
  unfold doneOne
  have := hx.2.1
  rcases hx.2.2 with h | h | h <;> simp [h.1]
  · exact this
  · exact beB_short _
theorem bothV_ok {a b : Note} (ha : a.ok) (hb : b.ok) : (bothV a b).ok := by
  unfold bothV
  split
  · exact hb
  · split
    · rename_i h3
      split
      · exact ⟨hb.1, doneOne_short _ hb, .inl ⟨rfl, rfl⟩⟩
      · split
        · exact ⟨hb.1, doneOne_short _ hb, .inl ⟨rfl, rfl⟩⟩
        · split
          · refine ⟨hb.1, hb.2.1, .inr (.inr ⟨h3, ?_⟩)⟩
            rcases hb.2.2 with h | h | h
            · rw [h3] at h; exact absurd h.1 (by decide)
            · rw [h3] at h; exact absurd h.1 (by decide)
            · exact h.2
          · exact hb
    · rename_i h1 h3
      rcases hb.2.2 with h | h | h
      · exact absurd (.inl h.1) h1
      · exact absurd (.inr h.1) h1
      · exact absurd h.1 h3
def mergeV (l : List Note) (x : Note) : Note := match gGet Note.key l x.key with
  | some o => bothV o x
  | none => x
theorem mergeV_key (l : List Note) (x : Note) : (mergeV l x).key = x.key := by
  unfold mergeV
  split
  · exact bothV_key _ _
  · rfl
def pushOne (l : List Note) (x : Note) : List Note := gPut Note.key l (mergeV l x)
def pushV (l : List Note) (ns : List Note) : List Note := ns.foldl pushOne l
theorem pushOne_sorted {l : List Note} (hs : gSorted Note.key l) (x : Note) : gSorted Note.key (pushOne l x) := gPut_sorted Note.key hs _
theorem pushOne_len {l : List Note} (hs : gSorted Note.key l) (x : Note) : (pushOne l x).length ≤ l.length + 1 := gPut_len Note.key hs _
theorem pushOne_get {l : List Note} (hs : gSorted Note.key l) (x : Note) (k : List UInt8) :
    gGet Note.key (pushOne l x) k = if k = x.key then some (match gGet Note.key l k with | some o => bothV o x | none => x) else gGet Note.key l k := by
  unfold pushOne
  rw [gPut_get Note.key hs, mergeV_key]
  by_cases h : k = x.key
  · subst h; rfl
  · rw [if_neg h, if_neg h]
theorem pushOne_ok {l : List Note} (h : waitOk l) {x : Note} (hx : x.ok) : waitOk (pushOne l x) := by
  rw [waitOk_iff] at *
  refine ⟨pushOne_sorted h.1 x, fun y hy => ?_⟩
  unfold pushOne gPut at hy
  rw [List.mem_append, List.mem_append] at hy
  rcases hy with (hy | hy) | hy
  · exact h.2 y (List.mem_filter.1 hy).1
  · simp at hy
    subst hy
    unfold mergeV
    split
    · rename_i o ho
      exact bothV_ok (h.2 o (gGet_mem Note.key ho).1) hx
    · exact hx
  · exact h.2 y (List.mem_filter.1 hy).1
theorem pushV_ok : ∀ (ns : List Note) {l : List Note}, waitOk l → (∀ x ∈ ns, x.ok) → waitOk (pushV l ns)
  | [], _, h, _ => h
  | x :: r, _, h, hn => pushV_ok r (pushOne_ok h (hn x List.mem_cons_self)) fun y hy => hn y (List.mem_cons_of_mem _ hy)
theorem pushV_sorted : ∀ (ns : List Note) {l : List Note}, gSorted Note.key l → gSorted Note.key (pushV l ns)
  | [], _, h => h
  | x :: r, _, h => pushV_sorted r (pushOne_sorted h x)
theorem pushV_len : ∀ (ns : List Note) {l : List Note}, gSorted Note.key l → (pushV l ns).length ≤ l.length + ns.length
  | [], _, _ => Nat.le_refl _
  | x :: r, l, h => by
    have h1 := pushV_len r (pushOne_sorted h x)
    have h2 := pushOne_len h x
    show (pushV (pushOne l x) r).length ≤ _
    simp only [List.length_cons]
    omega
def allOk (ns : List Note) : Prop := ∀ x ∈ ns, x.ok
instance instAllOk (ns : List Note) : Decidable (allOk ns) := by unfold allOk; infer_instance
def pushR (l : List Note) (ns : List Note) : List Note × Int := if waitOk l ∧ allOk ns then (pushV l ns, 0) else (l, 1)

theorem pend_Push1 (x : Note) : Ct Try.prog 27 (YtbciecmoadjigaaVm.ops [x.pv]) (.vals [.bool (decide (¬ x.ok))]) := by
  refine Ct.of_V Try.func27 rfl (by simp [YtbciecmoadjigaaVm.ops, Try.f27]) ?_
  refine V.exec 400 ?_
  simp (config := {contextual := true}) only [go_sem, ↓reduceIte, reduceCtorEq, Bool.false_eq_true, Bool.true_eq_false, Nat.reduceAdd, Nat.reduceLT, Nat.reduceEqDiff, Nat.reduceLeDiff, Nat.reduceSub, Nat.reduceMul, Try.f27, Note.pv]
  refine V.call rfl rfl (by simp [dOK]) ⟨28, [], by simp only [go_sem, ↓reduceIte, reduceCtorEq, Bool.false_eq_true, Bool.true_eq_false, Nat.reduceAdd, Nat.reduceLT, Nat.reduceEqDiff, Nat.reduceLeDiff, Nat.reduceSub, Nat.reduceMul], ⟨_, rfl, rfl, rfl⟩, .inl ⟨[x.pv], _, .inl (by simp only [go_sem, ↓reduceIte, reduceCtorEq, Bool.false_eq_true, Bool.true_eq_false, Nat.reduceAdd, Nat.reduceLT, Nat.reduceEqDiff, Nat.reduceLeDiff, Nat.reduceSub, Nat.reduceMul, Note.pv]), note_Right x, .inl ⟨_, rfl, rfl, rfl, rfl⟩⟩⟩ ?_
  refine V.exec 400 ?_
  simp (config := {contextual := true}) only [go_sem, ↓reduceIte, reduceCtorEq, Bool.false_eq_true, Bool.true_eq_false, Nat.reduceAdd, Nat.reduceLT, Nat.reduceEqDiff, Nat.reduceLeDiff, Nat.reduceSub, Nat.reduceMul]
def Note.ofP : PV → Note
  | .agg [.int _ a, .str b, .str c, .int _ d] => ⟨a, b, c, d⟩
  | _ => ⟨0, [], [], 0⟩
theorem Note.ofP_pv (x : Note) : Note.ofP x.pv = x := rfl

theorem Contains_badP (ns : List Note) (hl : ns.length ≤ 1000000) : Ct Try.prog 26 (YtbciecmoadjigaaVm.ops [.row (ns.map Note.pv), .fn 27 []]) (.vals [.bool (decide (¬ allOk ns))]) := by
  unfold allOk
  obtain ⟨r, hr, hr1, hr2, hr3⟩ := first_of (fun y => decide (¬ (Note.ofP y).ok)) (ns.map Note.pv)
  have hi := IndexFuncNote (ns.map Note.pv) 27 [] (fun y => decide (¬ (Note.ofP y).ok)) (fun y hy => by
      obtain ⟨s, _, rfl⟩ := List.mem_map.1 hy
      exact ⟨rfl, rfl⟩) (by simpa using hl) ⟨_, rfl, rfl, rfl⟩ (fun y hy => by
      obtain ⟨s, _, rfl⟩ := List.mem_map.1 hy
      rw [Note.ofP_pv]
      simpa using pend_Push1 s) r hr hr1 hr2
  refine Ct.of_V Try.func26 rfl (by simp [YtbciecmoadjigaaVm.ops, Try.f26]) ?_
  refine V.exec 400 ?_
  simp (config := {contextual := true}) only [go_sem, ↓reduceIte, reduceCtorEq, Bool.false_eq_true, Bool.true_eq_false, Nat.reduceAdd, Nat.reduceLT, Nat.reduceEqDiff, Nat.reduceLeDiff, Nat.reduceSub, Nat.reduceMul, Try.f26]
  refine V.call rfl rfl (by simp [dOK]) ⟨43, [], by simp only [go_sem, ↓reduceIte, reduceCtorEq, Bool.false_eq_true, Bool.true_eq_false, Nat.reduceAdd, Nat.reduceLT, Nat.reduceEqDiff, Nat.reduceLeDiff, Nat.reduceSub, Nat.reduceMul], ⟨_, rfl, rfl, rfl⟩, .inl ⟨[.row (ns.map Note.pv), .fn 27 []], _, .inl (by simp only [go_sem, ↓reduceIte, reduceCtorEq, Bool.false_eq_true, Bool.true_eq_false, Nat.reduceAdd, Nat.reduceLT, Nat.reduceEqDiff, Nat.reduceLeDiff, Nat.reduceSub, Nat.reduceMul]), hi, .inl ⟨_, rfl, rfl, rfl, rfl⟩⟩⟩ ?_
  refine V.exec 400 ?_
  simp (config := {contextual := true}) only [go_sem, ↓reduceIte, reduceCtorEq, Bool.false_eq_true, Bool.true_eq_false, Nat.reduceAdd, Nat.reduceLT, Nat.reduceEqDiff, Nat.reduceLeDiff, Nat.reduceSub, Nat.reduceMul]
  have e : (∃ y ∈ ns.map Note.pv, decide (¬ (Note.ofP y).ok) = true) ↔ ¬ ∀ x ∈ ns, x.ok := by
    constructor
    · rintro ⟨y, hy, hp⟩ hc
      obtain ⟨s, hs, rfl⟩ := List.mem_map.1 hy
      rw [Note.ofP_pv] at hp
      simp at hp
      exact hp (hc s hs)
    · intro h
      simp only [Classical.not_forall] at h
      obtain ⟨x, hx, hp⟩ := h
      exact ⟨x.pv, List.mem_map_of_mem hx, by rw [Note.ofP_pv]; simpa using hp⟩
  rw [e] at hr3
  rw [List.length_map] at hr3
  by_cases hc : ∀ x ∈ ns, x.ok
  · have : ¬ r < ns.length := fun h => (hr3.1 h) hc
    simp [this]
    exact hc
  · have h2 := hr3.2 hc
    simp [h2, hc]

set_option maxRecDepth 10000 in
set_option maxHeartbeats 16000000 in
theorem pend_Push (l : List Note) (ns : List Note) (hl : l.length ≤ 400000) (hn : ns.length ≤ 400000) : Ct Try.prog 11 (YtbciecmoadjigaaVm.ops [.row (l.map Note.pv), .row (ns.map Note.pv)]) (.vals [.row ((pushR l ns).1.map Note.pv), .int .i64 (pushR l ns).2]) := by
  have h2 : ∀ (l : List Note), ∀ x ∈ l.map Note.pv, x.cells.length = 4 := fun l x hx => by
    obtain ⟨s, _, rfl⟩ := List.mem_map.1 hx
    rfl
  refine Ct.of_V Try.func11 rfl (by simp [YtbciecmoadjigaaVm.ops, Try.f11]) ?_
  refine V.exec 400 ?_
  simp (config := {contextual := true}) only [go_sem, ↓reduceIte, reduceCtorEq, Bool.false_eq_true, Bool.true_eq_false, Nat.reduceAdd, Nat.reduceLT, Nat.reduceEqDiff, Nat.reduceLeDiff, Nat.reduceSub, Nat.reduceMul, Try.f11]
  refine V.call rfl rfl (by simp [dOK]) ⟨25, [], by simp only [go_sem, ↓reduceIte, reduceCtorEq, Bool.false_eq_true, Bool.true_eq_false, Nat.reduceAdd, Nat.reduceLT, Nat.reduceEqDiff, Nat.reduceLeDiff, Nat.reduceSub, Nat.reduceMul], ⟨_, rfl, rfl, rfl⟩, .inl ⟨[.row (l.map Note.pv)], _, .inl (by simp only [go_sem, ↓reduceIte, reduceCtorEq, Bool.false_eq_true, Bool.true_eq_false, Nat.reduceAdd, Nat.reduceLT, Nat.reduceEqDiff, Nat.reduceLeDiff, Nat.reduceSub, Nat.reduceMul]), CloneNote (l.map Note.pv) (h2 l) (by simp; omega), .inr (.inr ⟨32, (l.map Note.pv)   , rfl, by simp only [go_sem, ↓reduceIte, reduceCtorEq, Bool.false_eq_true, Bool.true_eq_false, Nat.reduceAdd, Nat.reduceLT, Nat.reduceEqDiff, Nat.reduceLeDiff, Nat.reduceSub, Nat.reduceMul], rfl, rfl⟩)⟩⟩ ?_
  refine V.exec 400 ?_
  simp (config := {contextual := true}) only [go_sem, ↓reduceIte, reduceCtorEq, Bool.false_eq_true, Bool.true_eq_false, Nat.reduceAdd, Nat.reduceLT, Nat.reduceEqDiff, Nat.reduceLeDiff, Nat.reduceSub, Nat.reduceMul]
  refine V.call rfl rfl (by simp [dOK]) ⟨15, [], by simp only [go_sem, ↓reduceIte, reduceCtorEq, Bool.false_eq_true, Bool.true_eq_false, Nat.reduceAdd, Nat.reduceLT, Nat.reduceEqDiff, Nat.reduceLeDiff, Nat.reduceSub, Nat.reduceMul], ⟨_, rfl, rfl, rfl⟩, .inl ⟨[.row (l.map Note.pv)], _, .inl (by simp only [go_sem, ↓reduceIte, reduceCtorEq, Bool.false_eq_true, Bool.true_eq_false, Nat.reduceAdd, Nat.reduceLT, Nat.reduceEqDiff, Nat.reduceLeDiff, Nat.reduceSub, Nat.reduceMul]), pend_Right l (by omega), .inl ⟨_, rfl, rfl, rfl, rfl⟩⟩⟩ ?_
  refine V.exec 400 ?_
  by_cases hok : waitOk l
  · simp (config := {contextual := true}) only [go_sem, ↓reduceIte, reduceCtorEq, Bool.false_eq_true, Bool.true_eq_false, Nat.reduceAdd, Nat.reduceLT, Nat.reduceEqDiff, Nat.reduceLeDiff, Nat.reduceSub, Nat.reduceMul, hok]
    refine V.call rfl rfl (by simp [dOK]) ⟨26, [], by simp only [go_sem, ↓reduceIte, reduceCtorEq, Bool.false_eq_true, Bool.true_eq_false, Nat.reduceAdd, Nat.reduceLT, Nat.reduceEqDiff, Nat.reduceLeDiff, Nat.reduceSub, Nat.reduceMul], ⟨_, rfl, rfl, rfl⟩, .inl ⟨[.row (ns.map Note.pv), .fn 27 []], _, .inl (by simp only [go_sem, ↓reduceIte, reduceCtorEq, Bool.false_eq_true, Bool.true_eq_false, Nat.reduceAdd, Nat.reduceLT, Nat.reduceEqDiff, Nat.reduceLeDiff, Nat.reduceSub, Nat.reduceMul]), Contains_badP ns (by omega), .inl ⟨_, rfl, rfl, rfl, rfl⟩⟩⟩ ?_
    refine V.exec 400 ?_
    by_cases hall : allOk ns
    · have hv : pushR l ns = (pushV l ns, 0) := by simp only [pushR]; rw [if_pos ⟨hok, hall⟩]
      simp (config := {contextual := true}) only [go_sem, ↓reduceIte, reduceCtorEq, Bool.false_eq_true, Bool.true_eq_false, Nat.reduceAdd, Nat.reduceLT, Nat.reduceEqDiff, Nat.reduceLeDiff, Nat.reduceSub, Nat.reduceMul, hall, hv]
      refine V.loop (fun m ls os => ∃ (i : Nat) (cur : List Note), i ≤ ns.length ∧ m = ns.length - i ∧ gSorted Note.key cur ∧ cur.length ≤ l.length + i ∧ pushV cur (ns.drop i) = pushV l ns ∧
          ls = [(6, .ref 0), (21, .val (.row (ns.map Note.pv))), (22, .val (.int .i64 ns.length)), (23, .val (.int .i64 i))] ∧ os = [.row 32 (cur.map Note.pv)]) 1 ns.length
        [(6, .ref 0), (21, .val (.row (ns.map Note.pv))), (22, .val (.int .i64 ns.length)), (23, .val (.int .i64 0))] [.row 32 (l.map Note.pv)] [some 5]
        ⟨0, l, Nat.zero_le _, rfl, ((waitOk_iff l).1 hok).1, Nat.le_refl _, rfl, rfl, rfl⟩ (by simp only [go_sem, ↓reduceIte, reduceCtorEq, Bool.false_eq_true, Bool.true_eq_false, Nat.reduceAdd, Nat.reduceLT, Nat.reduceEqDiff, Nat.reduceLeDiff, Nat.reduceSub, Nat.reduceMul]; try decide) ?_
      rintro m ls os ⟨i, cur, hi, rfl, hcs, hcl, hca, rfl, rfl⟩
      refine V.exec 400 ?_
      by_cases hlt : i < ns.length
      · have hlt' : (i : Int) < (ns.length : Int) := by omega
        obtain ⟨x, hx⟩ : ∃ x, ns[i]? = some x := ⟨_, List.getElem?_eq_getElem hlt⟩
        have hw : IntKind.i64.wrap ((i : Int) + 1) = ((i + 1 : Nat) : Int) := by rw [wrap_small3] <;> omega
        rw [drop_of_get hx, pushV, List.foldl_cons] at hca
        have hos := pushOne_sorted hcs x
        have hol := pushOne_len hcs x
        have hpb := posN_eq hcs x.key
        have hpl := pend_place cur x.key (by omega)
        rw [hpb] at hpl
        have hbl := gBelow_le Note.key x.key cur
        simp (config := {contextual := true}) only [go_sem, ↓reduceIte, reduceCtorEq, Bool.false_eq_true, Bool.true_eq_false, Nat.reduceAdd, Nat.reduceLT, Nat.reduceEqDiff, Nat.reduceLeDiff, Nat.reduceSub, Nat.reduceMul, hlt', hx, Note.pv]
        refine V.call rfl rfl (by simp [dOK]) ⟨29, [], by simp only [go_sem, ↓reduceIte, reduceCtorEq, Bool.false_eq_true, Bool.true_eq_false, Nat.reduceAdd, Nat.reduceLT, Nat.reduceEqDiff, Nat.reduceLeDiff, Nat.reduceSub, Nat.reduceMul], ⟨_, rfl, rfl, rfl⟩, .inl ⟨[.row (cur.map Note.pv), .str x.key], _, .inl (by simp only [go_sem, ↓reduceIte, reduceCtorEq, Bool.false_eq_true, Bool.true_eq_false, Nat.reduceAdd, Nat.reduceLT, Nat.reduceEqDiff, Nat.reduceLeDiff, Nat.reduceSub, Nat.reduceMul]), hpl, .inl ⟨_, rfl, rfl, rfl, rfl⟩⟩⟩ ?_
        refine V.exec 400 ?_
        cases hg : gGet Note.key cur x.key with
        | some p =>
          have hp := (gBelow_find Note.key cur hcs p).2 hg
          have hE : (∃ y, some p = some y ∧ y.key = x.key) := ⟨p, rfl, hp.2⟩
          have hrl := (List.getElem?_eq_some_iff.1 hp.1).1
          have hrl' : ((gBelow Note.key x.key cur : Nat) : Int) < (cur.length : Int) := by omega
          have hm : mergeV cur x = bothV p x := by simp [mergeV, hg]
          have hone : pushOne cur x = cur.set (gBelow Note.key x.key cur) (bothV p x) := by
            unfold pushOne
            rw [gPut_some Note.key hcs (p := p) (by rw [mergeV_key]; exact hg), mergeV_key, hm]
          simp (config := {contextual := true}) only [go_sem, ↓reduceIte, reduceCtorEq, Bool.false_eq_true, Bool.true_eq_false, Nat.reduceAdd, Nat.reduceLT, Nat.reduceEqDiff, Nat.reduceLeDiff, Nat.reduceSub, Nat.reduceMul, hp.1, hE, hrl', Note.pv]
          refine DV.call [] [] (by simp only [go_sem, ↓reduceIte, reduceCtorEq, Bool.false_eq_true, Bool.true_eq_false, Nat.reduceAdd, Nat.reduceLT, Nat.reduceEqDiff, Nat.reduceLeDiff, Nat.reduceSub, Nat.reduceMul, Note.pv]) (by simp [dOK]) ⟨30, [], by simp only [go_sem, ↓reduceIte, reduceCtorEq, Bool.false_eq_true, Bool.true_eq_false, Nat.reduceAdd, Nat.reduceLT, Nat.reduceEqDiff, Nat.reduceLeDiff, Nat.reduceSub, Nat.reduceMul, Note.pv], ⟨_, rfl, rfl, rfl⟩, .inl ⟨[p.pv, x.pv], _, .inl (by simp only [go_sem, ↓reduceIte, reduceCtorEq, Bool.false_eq_true, Bool.true_eq_false, Nat.reduceAdd, Nat.reduceLT, Nat.reduceEqDiff, Nat.reduceLeDiff, Nat.reduceSub, Nat.reduceMul, Note.pv]), note_Both p x, .inr (.inl ⟨_, rfl, rfl, rfl⟩)⟩⟩ (by simp only [go_sem, ↓reduceIte, reduceCtorEq, Bool.false_eq_true, Bool.true_eq_false, Nat.reduceAdd, Nat.reduceLT, Nat.reduceEqDiff, Nat.reduceLeDiff, Nat.reduceSub, Nat.reduceMul, Note.pv]) (by simp only [go_sem, ↓reduceIte, reduceCtorEq, Bool.false_eq_true, Bool.true_eq_false, Nat.reduceAdd, Nat.reduceLT, Nat.reduceEqDiff, Nat.reduceLeDiff, Nat.reduceSub, Nat.reduceMul, Note.pv]) (by simp only [go_sem, ↓reduceIte, reduceCtorEq, Bool.false_eq_true, Bool.true_eq_false, Nat.reduceAdd, Nat.reduceLT, Nat.reduceEqDiff, Nat.reduceLeDiff, Nat.reduceSub, Nat.reduceMul, Note.pv]) (by simp) ?_
          refine DV.exec 400 ?_
          simp (config := {contextual := true}) only [go_sem, ↓reduceIte, reduceCtorEq, Bool.false_eq_true, Bool.true_eq_false, Nat.reduceAdd, Nat.reduceLT, Nat.reduceEqDiff, Nat.reduceLeDiff, Nat.reduceSub, Nat.reduceMul, hp.1, hE, hrl', Note.pv, hw]
          refine ⟨by kernel_rfl, ns.length - (i + 1), _, _, [some 0], by omega, ⟨i + 1, pushOne cur x, by omega, rfl, hos, by omega, hca, rfl, rfl⟩, ?_⟩
          simp only [go_sem, ↓reduceIte, reduceCtorEq, Bool.false_eq_true, Bool.true_eq_false, Nat.reduceAdd, Nat.reduceLT, Nat.reduceEqDiff, Nat.reduceLeDiff, Nat.reduceSub, Nat.reduceMul, hone, List.map_set, Note.pv]
          try decide
        | none =>
          have hE : ¬ ∃ y, cur[gBelow Note.key x.key cur]? = some y ∧ y.key = x.key := fun ⟨y, hy⟩ => by
            have := (gBelow_find Note.key cur hcs y).1 hy
            rw [hg] at this; cases this
          have hm : mergeV cur x = x := by simp [mergeV, hg]
          have hone : pushOne cur x = cur.take (gBelow Note.key x.key cur) ++ [x] ++ cur.drop (gBelow Note.key x.key cur) := by
            unfold pushOne
            rw [hm, gPut_none Note.key hcs hg]
          have hins := InsertNote (cur.map Note.pv) x.pv (gBelow Note.key x.key cur) (h2 cur) rfl (by simpa using hbl) (by simp; omega)
          have he : (cur.map Note.pv).take (gBelow Note.key x.key cur) ++ [x.pv] ++ (cur.map Note.pv).drop (gBelow Note.key x.key cur) = (pushOne cur x).map Note.pv := by
            rw [hone]; simp [List.map_append, List.map_take, List.map_drop]
          rw [he] at hins
          simp (config := {contextual := true}) only [go_sem, ↓reduceIte, reduceCtorEq, Bool.false_eq_true, Bool.true_eq_false, Nat.reduceAdd, Nat.reduceLT, Nat.reduceEqDiff, Nat.reduceLeDiff, Nat.reduceSub, Nat.reduceMul, hE, Note.pv]
          refine V.call rfl rfl (by simp [dOK]) ⟨31, [], by simp only [go_sem, ↓reduceIte, reduceCtorEq, Bool.false_eq_true, Bool.true_eq_false, Nat.reduceAdd, Nat.reduceLT, Nat.reduceEqDiff, Nat.reduceLeDiff, Nat.reduceSub, Nat.reduceMul], ⟨_, rfl, rfl, rfl⟩, .inr ⟨0, 32, cur.map Note.pv, [.val (.int .i64 (gBelow Note.key x.key cur : Nat)), .ref 19], [.int .i64 (gBelow Note.key x.key cur : Nat), .rowp [x.pv]], 32, _, by simp only [go_sem, ↓reduceIte, reduceCtorEq, Bool.false_eq_true, Bool.true_eq_false, Nat.reduceAdd, Nat.reduceLT, Nat.reduceEqDiff, Nat.reduceLeDiff, Nat.reduceSub, Nat.reduceMul], by simp only [go_sem, ↓reduceIte, reduceCtorEq, Bool.false_eq_true, Bool.true_eq_false, Nat.reduceAdd, Nat.reduceLT, Nat.reduceEqDiff, Nat.reduceLeDiff, Nat.reduceSub, Nat.reduceMul], .inr ⟨[.val (.int .i64 (gBelow Note.key x.key cur : Nat))], 19, 32, [x.pv], [.int .i64 (gBelow Note.key x.key cur : Nat)], rfl, rfl, by simp only [go_sem, ↓reduceIte, reduceCtorEq, Bool.false_eq_true, Bool.true_eq_false, Nat.reduceAdd, Nat.reduceLT, Nat.reduceEqDiff, Nat.reduceLeDiff, Nat.reduceSub, Nat.reduceMul, Note.pv], rfl⟩, hins, by simp only [go_sem, ↓reduceIte, reduceCtorEq, Bool.false_eq_true, Bool.true_eq_false, Nat.reduceAdd, Nat.reduceLT, Nat.reduceEqDiff, Nat.reduceLeDiff, Nat.reduceSub, Nat.reduceMul], rfl, rfl⟩⟩ ?_
          refine V.exec 400 ?_
          simp (config := {contextual := true}) only [go_sem, ↓reduceIte, reduceCtorEq, Bool.false_eq_true, Bool.true_eq_false, Nat.reduceAdd, Nat.reduceLT, Nat.reduceEqDiff, Nat.reduceLeDiff, Nat.reduceSub, Nat.reduceMul, hw]
          refine ⟨ns.length - (i + 1), _, _, [some 20], by omega, ⟨i + 1, pushOne cur x, by omega, rfl, hos, by omega, hca, rfl, rfl⟩, ?_⟩
          simp only [go_sem, ↓reduceIte, reduceCtorEq, Bool.false_eq_true, Bool.true_eq_false, Nat.reduceAdd, Nat.reduceLT, Nat.reduceEqDiff, Nat.reduceLeDiff, Nat.reduceSub, Nat.reduceMul]
      · have hlt' : ¬ (i : Int) < (ns.length : Int) := by omega
        have hd : ns.drop i = [] := List.drop_eq_nil_of_le (by omega)
        rw [hd] at hca
        simp (config := {contextual := true}) only [go_sem, ↓reduceIte, reduceCtorEq, Bool.false_eq_true, Bool.true_eq_false, Nat.reduceAdd, Nat.reduceLT, Nat.reduceEqDiff, Nat.reduceLeDiff, Nat.reduceSub, Nat.reduceMul, hlt', ← hca]
        rfl
    · have hv : pushR l ns = (l, 1) := by simp only [pushR]; rw [if_neg (fun h => hall h.2)]
      simp (config := {contextual := true}) only [go_sem, ↓reduceIte, reduceCtorEq, Bool.false_eq_true, Bool.true_eq_false, Nat.reduceAdd, Nat.reduceLT, Nat.reduceEqDiff, Nat.reduceLeDiff, Nat.reduceSub, Nat.reduceMul, hall, hv]
  · have hv : pushR l ns = (l, 1) := by simp only [pushR]; rw [if_neg (fun h => hok h.1)]
    simp (config := {contextual := true}) only [go_sem, ↓reduceIte, reduceCtorEq, Bool.false_eq_true, Bool.true_eq_false, Nat.reduceAdd, Nat.reduceLT, Nat.reduceEqDiff, Nat.reduceLeDiff, Nat.reduceSub, Nat.reduceMul, hok, hv]
end Go.Proofs.Ytbciecmoadjigaa
