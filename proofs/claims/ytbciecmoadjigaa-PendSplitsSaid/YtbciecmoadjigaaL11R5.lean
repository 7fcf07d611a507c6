/- A part of a proof: functions of the program, walked. -/
import Derived.Test.YtbciecmoadjigaaL11R4
import Derived.Test.YtbciecmoadjigaaL11D2
import Derived.Test.YtbciecmoadjigaaL11P3
set_option linter.unusedVariables false
set_option linter.unusedSimpArgs false
namespace Go.Proofs.Ytbciecmoadjigaa
open Go Go.Proofs Go.Proofs.YtbciecmoadjigaaVm Go.Proofs.Ytbciecmoadjigaa.Ty

def pstep (x : Note) (st : List Note × Bool) (p : Note) : List Note × Bool :=
  if p.key = x.key then (st.1 ++ [bothV p x], true)
  else if slt x.key p.key ∧ st.2 = false then (st.1 ++ [x] ++ [p], true) else (st.1 ++ [p], st.2)
def pfin (x : Note) (st : List Note × Bool) : List Note := if st.2 = true then st.1 else st.1 ++ [x]
theorem pstep_len (x : Note) (st : List Note × Bool) (p : Note) : (pstep x st p).1.length ≤ st.1.length + 2 := by
  unfold pstep
  split
  · simp
  · split <;> simp
theorem pfold_len (x : Note) : ∀ (l : List Note) (st : List Note × Bool), (l.foldl (pstep x) st).1.length ≤ st.1.length + 2 * l.length
  | [], _ => by simp
  | p :: r, st => by
    have h1 := pfold_len x r (pstep x st p)
    have h2 := pstep_len x st p
    rw [List.foldl_cons, List.length_cons]; omega
theorem pfold_after (x : Note) : ∀ (l acc : List Note), (∀ p ∈ l, slt x.key p.key) → l.foldl (pstep x) (acc, true) = (acc ++ l, true)
  | [], acc, _ => by simp
  | p :: r, acc, h => by
    have hp := h p List.mem_cons_self
    have hne : ¬ p.key = x.key := fun e => slt_irrefl x.key (by rw [e] at hp; exact hp)
    have e : pstep x (acc, true) p = (acc ++ [p], true) := by simp [pstep, hne]
    rw [List.foldl_cons, e, pfold_after x r _ fun q hq => h q (List.mem_cons_of_mem _ hq)]
    simp
theorem gLow_none {l : List Note} {k : List UInt8} (h : ∀ p ∈ l, ¬ slt p.key k) : gLow Note.key l k = [] := by
  unfold gLow; rw [List.filter_eq_nil_iff]; simpa using h
theorem gHigh_all {l : List Note} {k : List UInt8} (h : ∀ p ∈ l, slt k p.key) : gHigh Note.key l k = l := by
  unfold gHigh; rw [List.filter_eq_self]; simpa using h
theorem pfin_eq (x : Note) : ∀ (l acc : List Note), gSorted Note.key l → pfin x (l.foldl (pstep x) (acc, false)) = acc ++ pushOne l x
  | [], acc, _ => by simp [pfin, pushOne, gPut, mergeV, gGet, gLow, gHigh]
  | p :: r, acc, h => by
    cases h with
    | cons h1 h2 =>
      rw [List.foldl_cons]
      by_cases hk : p.key = x.key
      · have e : pstep x (acc, false) p = (acc ++ [bothV p x], true) := by simp [pstep, hk]
        have hr : ∀ q ∈ r, slt x.key q.key := fun q hq => by rw [← hk]; exact h1 q hq
        have hm : mergeV (p :: r) x = bothV p x := by simp [mergeV, gGet, hk]
        rw [e, pfold_after x r _ hr]
        unfold pushOne gPut
        rw [mergeV_key, hm]
        have hl : gLow Note.key (p :: r) x.key = [] := gLow_none fun q hq => by
          rcases List.mem_cons.1 hq with rfl | hq
          · rw [hk]; exact slt_irrefl _
          · exact slt_asymm (hr q hq)
        have hh : gHigh Note.key (p :: r) x.key = r := by
          have : gHigh Note.key (p :: r) x.key = gHigh Note.key r x.key := by unfold gHigh; rw [List.filter_cons_of_neg]; simp [hk, slt_irrefl]
          rw [this]; exact gHigh_all hr
        rw [hl, hh]
        simp [pfin]
      · rcases slt_total p.key x.key with hlt | he | hgt
        · have hn : ¬ slt x.key p.key := slt_asymm hlt
          have e : pstep x (acc, false) p = (acc ++ [p], false) := by simp [pstep, hk, hn]
          rw [e, pfin_eq x r _ h2]
          have hm : mergeV (p :: r) x = mergeV r x := by unfold mergeV gGet; rw [List.find?_cons, decide_eq_false hk]
          have hl : gLow Note.key (p :: r) x.key = p :: gLow Note.key r x.key := by unfold gLow; rw [List.filter_cons_of_pos]; simpa using hlt
          have hh : gHigh Note.key (p :: r) x.key = gHigh Note.key r x.key := by unfold gHigh; rw [List.filter_cons_of_neg]; simpa using hn
          unfold pushOne gPut
          rw [mergeV_key, mergeV_key, hm, hl, hh]
          simp
        · exact absurd he hk
        · have e : pstep x (acc, false) p = (acc ++ [x] ++ [p], true) := by simp [pstep, hk, hgt]
          have hr : ∀ q ∈ r, slt x.key q.key := fun q hq => slt_trans hgt (h1 q hq)
          have hall : ∀ q ∈ p :: r, slt x.key q.key := fun q hq => by
            rcases List.mem_cons.1 hq with rfl | hq
            · exact hgt
            · exact hr q hq
          have hg : gGet Note.key (p :: r) x.key = none := by
            unfold gGet
            rw [List.find?_eq_none]
            intro q hq
            have := hall q hq
            simp
            intro e
            rw [e] at this; exact slt_irrefl _ this
          have hm : mergeV (p :: r) x = x := by simp [mergeV, hg]
          rw [e, pfold_after x r _ hr]
          unfold pushOne gPut
          rw [mergeV_key, hm, gLow_none fun q hq => slt_asymm (hall q hq), gHigh_all hall]
          simp [pfin]

set_option maxRecDepth 10000 in
set_option maxHeartbeats 16000000 in
theorem ref11_push (l : List Note) (x : Note) (hl : l.length ≤ 400000) (hs : gSorted Note.key l) (hok : ∀ y ∈ l, y.ok) (hx : x.ok) : Ct Try.prog 33 (YtbciecmoadjigaaVm.ops [.row (l.map Note.pv), x.pv]) (.vals [.row ((pushOne l x).map Note.pv)]) := by
  have hfin := pfin_eq x l [] hs
  rw [List.nil_append] at hfin
  rw [← hfin]
  refine Ct.of_V Try.func33 rfl (by simp [YtbciecmoadjigaaVm.ops, Try.f33]) ?_
  refine V.exec 400 ?_
  simp (config := {contextual := true}) only [go_sem, ↓reduceIte, reduceCtorEq, Bool.false_eq_true, Bool.true_eq_false, Nat.reduceAdd, Nat.reduceLT, Nat.reduceEqDiff, Nat.reduceLeDiff, Nat.reduceSub, Nat.reduceMul, Try.f33, Note.pv]
  refine V.loop (fun m ls os => ∃ (i : Nat), i ≤ l.length ∧ m = l.length - i ∧
        ls = [(0, .val (.row (l.map Note.pv))), (3, .adr 0 0), (5, .ref 1), (6, .val (.bool ((l.take i).foldl (pstep x) ([], false)).2)), (7, .val (.int .i64 i))] ∧
        os = [nb x, .row 32 (((l.take i).foldl (pstep x) ([], false)).1.map Note.pv)]) 2 l.length
      [(0, .val (.row (l.map Note.pv))), (3, .adr 0 0), (5, .ref 1), (6, .val (.bool false)), (7, .val (.int .i64 0))]
      [nb x, .row 32 []] [some 2, none]
      ⟨0, Nat.zero_le _, rfl, rfl, rfl⟩ (by simp only [go_sem, ↓reduceIte, reduceCtorEq, Bool.false_eq_true, Bool.true_eq_false, Nat.reduceAdd, Nat.reduceLT, Nat.reduceEqDiff, Nat.reduceLeDiff, Nat.reduceSub, Nat.reduceMul, nb]; try decide) ?_
  rintro m ls os ⟨i, hi, rfl, rfl, rfl⟩
  refine V.exec 400 ?_
  by_cases hlt : i < l.length
  · have hlt' : (i : Int) < (l.length : Int) := by omega
    obtain ⟨p, hp⟩ : ∃ x, l[i]? = some x := ⟨_, List.getElem?_eq_getElem hlt⟩
    have hw : IntKind.i64.wrap ((i : Int) + 1) = ((i + 1 : Nat) : Int) := by rw [wrap_small3] <;> omega
    have hst : (l.take (i + 1)).foldl (pstep x) ([], false) = pstep x ((l.take i).foldl (pstep x) ([], false)) p := by
      rw [List.take_add_one, hp, List.foldl_append]; rfl
    have hle := pfold_len x (l.take i) ([], false)
    simp only [List.length_nil, List.length_take] at hle
    obtain ⟨out, dn, hD⟩ : ∃ a b, (l.take i).foldl (pstep x) ([], false) = (a, b) := ⟨_, _, rfl⟩
    rw [hD] at hst hle ⊢
    simp only at hle
    by_cases hk : p.key = x.key
    · have hst' : (l.take (i + 1)).foldl (pstep x) ([], false) = (out ++ [bothV p x], true) := by rw [hst]; simp [pstep, hk]
      have cb := ref09_Both p x
      rw [refBoth_eq (hok p (List.mem_of_getElem? hp)) hx] at cb
      simp (config := {contextual := true}) only [go_sem, ↓reduceIte, reduceCtorEq, Bool.false_eq_true, Bool.true_eq_false, Nat.reduceAdd, Nat.reduceLT, Nat.reduceEqDiff, Nat.reduceLeDiff, Nat.reduceSub, Nat.reduceMul, hlt', hp, Note.pv, hw, hk, nb]
      refine ⟨by kernel_rfl, ?_⟩
      refine DV.call [] [] (by simp only [go_sem, ↓reduceIte, reduceCtorEq, Bool.false_eq_true, Bool.true_eq_false, Nat.reduceAdd, Nat.reduceLT, Nat.reduceEqDiff, Nat.reduceLeDiff, Nat.reduceSub, Nat.reduceMul, Note.pv, hk]) (by simp [dOK]) ⟨21, [], by simp only [go_sem, ↓reduceIte, reduceCtorEq, Bool.false_eq_true, Bool.true_eq_false, Nat.reduceAdd, Nat.reduceLT, Nat.reduceEqDiff, Nat.reduceLeDiff, Nat.reduceSub, Nat.reduceMul, Note.pv, hk], ⟨_, rfl, rfl, rfl⟩, .inl ⟨[p.pv, x.pv], _, .inl (by simp only [go_sem, ↓reduceIte, reduceCtorEq, Bool.false_eq_true, Bool.true_eq_false, Nat.reduceAdd, Nat.reduceLT, Nat.reduceEqDiff, Nat.reduceLeDiff, Nat.reduceSub, Nat.reduceMul, Note.pv, hk]), cb, .inr (.inl ⟨_, rfl, rfl, rfl⟩)⟩⟩ (by simp only [go_sem, ↓reduceIte, reduceCtorEq, Bool.false_eq_true, Bool.true_eq_false, Nat.reduceAdd, Nat.reduceLT, Nat.reduceEqDiff, Nat.reduceLeDiff, Nat.reduceSub, Nat.reduceMul, Note.pv, hk]) (by simp only [go_sem, ↓reduceIte, reduceCtorEq, Bool.false_eq_true, Bool.true_eq_false, Nat.reduceAdd, Nat.reduceLT, Nat.reduceEqDiff, Nat.reduceLeDiff, Nat.reduceSub, Nat.reduceMul, Note.pv, hk]) (by simp only [go_sem, ↓reduceIte, reduceCtorEq, Bool.false_eq_true, Bool.true_eq_false, Nat.reduceAdd, Nat.reduceLT, Nat.reduceEqDiff, Nat.reduceLeDiff, Nat.reduceSub, Nat.reduceMul, Note.pv, hk]) (by simp) ?_
      refine DV.exec 400 ?_
      simp (config := {contextual := true}) only [go_sem, ↓reduceIte, reduceCtorEq, Bool.false_eq_true, Bool.true_eq_false, Nat.reduceAdd, Nat.reduceLT, Nat.reduceEqDiff, Nat.reduceLeDiff, Nat.reduceSub, Nat.reduceMul, hp, Note.pv, hw, hk]
      (repeat' (first | (intro _) | (refine ⟨by kernel_rfl, ?_⟩) | (apply And.intro)))
      all_goals first
        | omega
        | (simp only [List.length_append, List.length_map, List.length_cons, List.length_nil]; omega)
        | (exact fun _ _ => rfl)
        | (refine ⟨l.length - (i + 1), _, _, [some 0, some 22], by omega, ⟨i + 1, by omega, rfl, rfl, rfl⟩, ?_⟩
           simp only [go_sem, ↓reduceIte, reduceCtorEq, Bool.false_eq_true, Bool.true_eq_false, Nat.reduceAdd, Nat.reduceLT, Nat.reduceEqDiff, Nat.reduceLeDiff, Nat.reduceSub, Nat.reduceMul, hst', nb, List.map_append, List.map_cons, List.map_nil, Note.pv, hk]
           try decide)
    · have hgf : slt p.key x.key ∨ p.key = x.key ↔ ¬ slt x.key p.key := by
        constructor
        · rintro (h | h)
          · exact slt_asymm h
          · exact absurd h hk
        · intro h
          rcases slt_total p.key x.key with c | c | c
          · exact .inl c
          · exact .inr c
          · exact absurd c h
      by_cases hg : slt x.key p.key
      · cases dn with
        | false =>
          have hgn : ¬ (slt p.key x.key ∨ p.key = x.key) := fun h => hgf.1 h hg
          have hgl : ¬ slt p.key x.key := slt_asymm hg
          have hst' : (l.take (i + 1)).foldl (pstep x) ([], false) = (out ++ [x] ++ [p], true) := by rw [hst]; simp [pstep, hk, hg]
          simp (config := {contextual := true}) only [go_sem, ↓reduceIte, reduceCtorEq, Bool.false_eq_true, Bool.true_eq_false, Nat.reduceAdd, Nat.reduceLT, Nat.reduceEqDiff, Nat.reduceLeDiff, Nat.reduceSub, Nat.reduceMul, hlt', hp, Note.pv, hw, hk, hgl, or_self, nb]
          (repeat' (first | (intro _) | (refine ⟨by kernel_rfl, ?_⟩) | (apply And.intro)))
          all_goals first
            | omega
            | (simp only [List.length_append, List.length_map, List.length_cons, List.length_nil]; omega)
            | (exact fun _ _ => rfl)
            | (refine ⟨l.length - (i + 1), _, _, [some 0, some 38], by omega, ⟨i + 1, by omega, rfl, rfl, rfl⟩, ?_⟩
               simp only [go_sem, ↓reduceIte, reduceCtorEq, Bool.false_eq_true, Bool.true_eq_false, Nat.reduceAdd, Nat.reduceLT, Nat.reduceEqDiff, Nat.reduceLeDiff, Nat.reduceSub, Nat.reduceMul, hst', nb, List.map_append, List.map_cons, List.map_nil, Note.pv, hk]
               try decide)
        | true =>
          have hgn : ¬ (slt p.key x.key ∨ p.key = x.key) := fun h => hgf.1 h hg
          have hgl : ¬ slt p.key x.key := slt_asymm hg
          have hst' : (l.take (i + 1)).foldl (pstep x) ([], false) = (out ++ [p], true) := by rw [hst]; simp [pstep, hk, hg]
          simp (config := {contextual := true}) only [go_sem, ↓reduceIte, reduceCtorEq, Bool.false_eq_true, Bool.true_eq_false, Nat.reduceAdd, Nat.reduceLT, Nat.reduceEqDiff, Nat.reduceLeDiff, Nat.reduceSub, Nat.reduceMul, hlt', hp, Note.pv, hw, hk, hgl, or_self, nb]
          (repeat' (first | (intro _) | (refine ⟨by kernel_rfl, ?_⟩) | (apply And.intro)))
          all_goals first
            | omega
            | (simp only [List.length_append, List.length_map, List.length_cons, List.length_nil]; omega)
            | (exact fun _ _ => rfl)
            | (refine ⟨l.length - (i + 1), _, _, [some 0, some 32], by omega, ⟨i + 1, by omega, rfl, rfl, rfl⟩, ?_⟩
               simp only [go_sem, ↓reduceIte, reduceCtorEq, Bool.false_eq_true, Bool.true_eq_false, Nat.reduceAdd, Nat.reduceLT, Nat.reduceEqDiff, Nat.reduceLeDiff, Nat.reduceSub, Nat.reduceMul, hst', nb, List.map_append, List.map_cons, List.map_nil, Note.pv, hk]
               try decide)
      · cases dn with
        | false =>
          have hst' : (l.take (i + 1)).foldl (pstep x) ([], false) = (out ++ [p], false) := by rw [hst]; simp [pstep, hk, hg]
          have hgl : slt p.key x.key := (hgf.2 hg).resolve_right hk
          simp (config := {contextual := true}) only [go_sem, ↓reduceIte, reduceCtorEq, Bool.false_eq_true, Bool.true_eq_false, Nat.reduceAdd, Nat.reduceLT, Nat.reduceEqDiff, Nat.reduceLeDiff, Nat.reduceSub, Nat.reduceMul, hlt', hp, Note.pv, hw, hk, hgl, true_or, nb]
          (repeat' (first | (intro _) | (refine ⟨by kernel_rfl, ?_⟩) | (apply And.intro)))
          all_goals first
            | omega
            | (simp only [List.length_append, List.length_map, List.length_cons, List.length_nil]; omega)
            | (exact fun _ _ => rfl)
            | (refine ⟨l.length - (i + 1), _, _, [some 0, some 32], by omega, ⟨i + 1, by omega, rfl, rfl, rfl⟩, ?_⟩
               simp only [go_sem, ↓reduceIte, reduceCtorEq, Bool.false_eq_true, Bool.true_eq_false, Nat.reduceAdd, Nat.reduceLT, Nat.reduceEqDiff, Nat.reduceLeDiff, Nat.reduceSub, Nat.reduceMul, hst', nb, List.map_append, List.map_cons, List.map_nil, Note.pv, hk]
               try decide)
        | true =>
          have hst' : (l.take (i + 1)).foldl (pstep x) ([], false) = (out ++ [p], true) := by rw [hst]; simp [pstep, hk, hg]
          have hgl : slt p.key x.key := (hgf.2 hg).resolve_right hk
          simp (config := {contextual := true}) only [go_sem, ↓reduceIte, reduceCtorEq, Bool.false_eq_true, Bool.true_eq_false, Nat.reduceAdd, Nat.reduceLT, Nat.reduceEqDiff, Nat.reduceLeDiff, Nat.reduceSub, Nat.reduceMul, hlt', hp, Note.pv, hw, hk, hgl, true_or, nb]
          (repeat' (first | (intro _) | (refine ⟨by kernel_rfl, ?_⟩) | (apply And.intro)))
          all_goals first
            | omega
            | (simp only [List.length_append, List.length_map, List.length_cons, List.length_nil]; omega)
            | (exact fun _ _ => rfl)
            | (refine ⟨l.length - (i + 1), _, _, [some 0, some 32], by omega, ⟨i + 1, by omega, rfl, rfl, rfl⟩, ?_⟩
               simp only [go_sem, ↓reduceIte, reduceCtorEq, Bool.false_eq_true, Bool.true_eq_false, Nat.reduceAdd, Nat.reduceLT, Nat.reduceEqDiff, Nat.reduceLeDiff, Nat.reduceSub, Nat.reduceMul, hst', nb, List.map_append, List.map_cons, List.map_nil, Note.pv, hk]
               try decide)
  · have hlt' : ¬ (i : Int) < (l.length : Int) := by omega
    rw [List.take_of_length_le (by omega)]
    have hle := pfold_len x l ([], false)
    simp only [List.length_nil] at hle
    obtain ⟨out, dn, hD⟩ : ∃ a b, l.foldl (pstep x) ([], false) = (a, b) := ⟨_, _, rfl⟩
    rw [hD] at hle ⊢
    simp only at hle
    cases dn with
    | true =>
      simp (config := {contextual := true}) only [go_sem, ↓reduceIte, reduceCtorEq, Bool.false_eq_true, Bool.true_eq_false, Nat.reduceAdd, Nat.reduceLT, Nat.reduceEqDiff, Nat.reduceLeDiff, Nat.reduceSub, Nat.reduceMul, hlt', pfin]
    | false =>
      simp (config := {contextual := true}) only [go_sem, ↓reduceIte, reduceCtorEq, Bool.false_eq_true, Bool.true_eq_false, Nat.reduceAdd, Nat.reduceLT, Nat.reduceEqDiff, Nat.reduceLeDiff, Nat.reduceSub, Nat.reduceMul, hlt', pfin, nb, Note.pv]
      refine ⟨⟨by omega, by omega⟩, by simp [Note.pv]⟩
end Go.Proofs.Ytbciecmoadjigaa
