/- A part of a proof: functions of the program, walked. -/
import Derived.Test.YtofmiaecjnfeaaaZ30
set_option linter.unusedVariables false
set_option linter.unusedSimpArgs false
set_option maxRecDepth 8000
namespace Go.Proofs.Ytofmiaecjnfeaaa
open Go Go.Proofs Go.Proofs.YtofmiaecjnfeaaaVm Go.Proofs.Ytofmiaecjnfeaaa.Ty

def delOf (p : Pair) : Note := ⟨2, p.key, [], 0⟩
theorem dels_fold : ∀ (ps : List Pair) (k : List UInt8) (o : Option (List UInt8)), (o = none ∨ ∃ p ∈ ps, p.key = k) → (ps.map delOf).foldl (fun o x => if k = x.key then stepO o x else o) o = none
  | [], k, o, h => by
    rcases h with h | ⟨p, hp, _⟩
    · exact h
    · cases hp
  | p :: ps, k, o, h => by
    rw [List.map_cons, List.foldl_cons]
    by_cases hk : k = (delOf p).key
    · rw [if_pos hk, stepO_del o (show (delOf p).kind = 2 from rfl)]
      exact dels_fold ps k none (.inl rfl)
    · rw [if_neg hk]
      refine dels_fold ps k o ?_
      rcases h with h | ⟨q, hq, hqk⟩
      · exact .inl h
      · rcases List.mem_cons.1 hq with rfl | hq
        · exact absurd hqk.symm hk
        · exact .inr ⟨q, hq, hqk⟩
theorem dels_all {L : List Pair} (hs : Sorted L) (c : Nat) : appV L ((turnT L c).map delOf) = [] := by
  have hs0 : Sorted ([] : List Pair) := .nil
  refine val_ext (appV_sorted _ hs) hs0 fun k => ?_
  rw [appV_val _ hs k]
  have e : val [] k = none := rfl
  rw [e]
  refine dels_fold _ k _ ?_
  unfold val
  cases hg : getL L k with
  | none => exact .inl rfl
  | some p =>
    obtain ⟨h1, h2⟩ := getL_mem hg
    exact .inr ⟨p, (turnT_perm L c).mem_iff.1 h1, h2⟩
theorem delOf_ok {L : List Pair} (ok : pairsOk L) {p : Pair} (hp : p ∈ L) : notesOk [delOf p] := fun y hy => by
  rw [List.mem_singleton] at hy
  rw [hy]
  have hsh := ((pairsOk_iff L).1 ok).2 p hp
  exact ⟨hsh.1, by show (0 : Nat) ≤ 32; omega, .inr (.inl ⟨rfl, rfl, rfl⟩)⟩
set_option maxRecDepth 20000 in
set_option maxHeartbeats 32000000 in
theorem law_EmptiesT (ns : List Note) (hnl : ns.length ≤ maxLen) (by0 : Int) (hby : 0 ≤ by0 ∧ by0 ≤ 255) :
    Ct Try.prog 6 (YtofmiaecjnfeaaaVm.ops [.row (ns.map Note.pv), .int .u8 by0]) (.vals [.bool true]) := by
  have hmax : maxLen = 9223372036854775807 := rfl
  rw [hmax] at hnl
  have aw := awake
  have cf := ref12_Few ns 60 hnl
  rw [show ((60 : Nat) : Int) = 60 from rfl] at cf
  refine Ct.of_V Try.func6 rfl (by simp [YtofmiaecjnfeaaaVm.ops, Try.f6]) ?_
  refine V.exec 400 ?_
  simp (config := {contextual := true, maxSteps := 1000000}) only [go_sem, ↓reduceIte, reduceCtorEq, Bool.false_eq_true, Bool.true_eq_false, Nat.reduceAdd, Nat.reduceLT, Nat.reduceEqDiff, Nat.reduceLeDiff, Nat.reduceSub, Nat.reduceMul, Try.f6]
  refine V.call rfl rfl (by simp [dOK]) ⟨10, [], by simp only [go_sem, ↓reduceIte, reduceCtorEq, Bool.false_eq_true, Bool.true_eq_false, Nat.reduceAdd, Nat.reduceLT, Nat.reduceEqDiff, Nat.reduceLeDiff, Nat.reduceSub, Nat.reduceMul], ⟨_, rfl, rfl, rfl⟩, .inl ⟨[.row (ns.map Note.pv), .int .i64 60], _, .inl (by simp only [go_sem, ↓reduceIte, reduceCtorEq, Bool.false_eq_true, Bool.true_eq_false, Nat.reduceAdd, Nat.reduceLT, Nat.reduceEqDiff, Nat.reduceLeDiff, Nat.reduceSub, Nat.reduceMul]), cf, .inl ⟨_, rfl, rfl, rfl, rfl⟩⟩⟩ ?_
  refine V.exec 400 ?_
  by_cases hf : fewT ns 60
  · have hnl60 : ns.length ≤ 60 := hf.1
    have call := ref09_All ns (by omega)
    simp (config := {contextual := true, maxSteps := 1000000}) only [go_sem, ↓reduceIte, reduceCtorEq, Bool.false_eq_true, Bool.true_eq_false, Nat.reduceAdd, Nat.reduceLT, Nat.reduceEqDiff, Nat.reduceLeDiff, Nat.reduceSub, Nat.reduceMul, hf]
    refine V.call rfl rfl (by simp [dOK]) ⟨19, [], by simp only [go_sem, ↓reduceIte, reduceCtorEq, Bool.false_eq_true, Bool.true_eq_false, Nat.reduceAdd, Nat.reduceLT, Nat.reduceEqDiff, Nat.reduceLeDiff, Nat.reduceSub, Nat.reduceMul], ⟨_, rfl, rfl, rfl⟩, .inl ⟨[.row (ns.map Note.pv)], _, .inl (by simp only [go_sem, ↓reduceIte, reduceCtorEq, Bool.false_eq_true, Bool.true_eq_false, Nat.reduceAdd, Nat.reduceLT, Nat.reduceEqDiff, Nat.reduceLeDiff, Nat.reduceSub, Nat.reduceMul]), call, .inl ⟨_, rfl, rfl, rfl, rfl⟩⟩⟩ ?_
    refine V.exec 400 ?_
    by_cases hn' : notesOk' ns
    · have hn : notesOk ns := hn'
      obtain ⟨u, ca, gu⟩ := tree_ApplyK GoodT.empty ns hn (by omega)
      have gu := gu.mono (H' := 61) (M' := 61) (by omega) (by omega)
      have hLn := appV_len ns (l := []) .nil
      have ok := gu.ok
      have hs := ((pairsOk_iff (appV [] ns)).1 ok).1
      have u1 := trX_cells u
      have u2 := trX_agg u
      have su := tree_ScanA gu (by omega)
      have iu := law12_is gu (by omega) (by omega) (appV [] ns) (by simp at hLn; omega)
      rw [show decide (appV [] ns = appV [] ns) = true from decide_eq_true rfl, trX_pv u] at iu
      have e0 : trX none = .nilp := rfl
      rw [e0] at ca
      obtain ⟨L, hL⟩ : ∃ L, L = appV [] ns := ⟨_, rfl⟩
      rw [← hL] at su iu hLn ok hs gu
      simp only [List.length_nil, Nat.zero_add] at hLn
      obtain ⟨b, hb⟩ : ∃ b : Nat, (b : Int) = by0 := ⟨by0.toNat, by omega⟩
      obtain ⟨c, hc⟩ : ∃ c, c = b % L.length := ⟨_, rfl⟩
      have hTl := turnT_len L c
      have hdl := dels_all hs c
      simp (config := {contextual := true, maxSteps := 1000000}) only [go_sem, ↓reduceIte, reduceCtorEq, Bool.false_eq_true, Bool.true_eq_false, Nat.reduceAdd, Nat.reduceLT, Nat.reduceEqDiff, Nat.reduceLeDiff, Nat.reduceSub, Nat.reduceMul, hn']
      refine V.call rfl rfl (by simp [dOK]) ⟨11, [], by simp only [go_sem, ↓reduceIte, reduceCtorEq, Bool.false_eq_true, Bool.true_eq_false, Nat.reduceAdd, Nat.reduceLT, Nat.reduceEqDiff, Nat.reduceLeDiff, Nat.reduceSub, Nat.reduceMul], ⟨_, rfl, rfl, rfl⟩, .inl ⟨[.agg [.nilp], .row (ns.map Note.pv)], _, .inl (by simp only [go_sem, ↓reduceIte, reduceCtorEq, Bool.false_eq_true, Bool.true_eq_false, Nat.reduceAdd, Nat.reduceLT, Nat.reduceEqDiff, Nat.reduceLeDiff, Nat.reduceSub, Nat.reduceMul]), ca, .inr (.inl ⟨_, rfl, rfl, rfl⟩)⟩⟩ ?_
      refine V.exec 400 ?_
      simp (config := {contextual := true, maxSteps := 1000000}) only [go_sem, ↓reduceIte, reduceCtorEq, Bool.false_eq_true, Bool.true_eq_false, Nat.reduceAdd, Nat.reduceLT, Nat.reduceEqDiff, Nat.reduceLeDiff, Nat.reduceSub, Nat.reduceMul, u1, u2]
      refine V.call rfl rfl (by simp [dOK]) ⟨17, [], by simp only [go_sem, ↓reduceIte, reduceCtorEq, Bool.false_eq_true, Bool.true_eq_false, Nat.reduceAdd, Nat.reduceLT, Nat.reduceEqDiff, Nat.reduceLeDiff, Nat.reduceSub, Nat.reduceMul], ⟨_, rfl, rfl, rfl⟩, .inl ⟨[.agg [trX u], allR.pv], _, .inl (by simp only [go_sem, ↓reduceIte, reduceCtorEq, Bool.false_eq_true, Bool.true_eq_false, Nat.reduceAdd, Nat.reduceLT, Nat.reduceEqDiff, Nat.reduceLeDiff, Nat.reduceSub, Nat.reduceMul, Range.pv, allR]), su, .inr (.inl ⟨_, rfl, rfl, rfl⟩)⟩⟩ ?_
      refine V.exec 400 ?_
      simp (config := {contextual := true, maxSteps := 1000000}) only [go_sem, ↓reduceIte, reduceCtorEq, Bool.false_eq_true, Bool.true_eq_false, Nat.reduceAdd, Nat.reduceLT, Nat.reduceEqDiff, Nat.reduceLeDiff, Nat.reduceSub, Nat.reduceMul, u1, u2]
      refine V.loop (fun m sl os => ∃ (i : Nat) (t : Tr), i ≤ L.length ∧ m = L.length - i ∧ GoodT t (appV L (((turnT L c).take i).map delOf)) (61 + 122 * i) (61 + i) ∧
          sl = [(0, .val (.row (ns.map Note.pv))), (1, .val (.int .u8 by0)), (5, .adr 0 0), (6, .val (.int .i64 0)), (8, .val (.row (L.map Pair.pv))), (9, .adr 1 0), (36, .val (.int .i64 L.length)), (37, .val (.int .i64 i))] ∧ os = [.box true [.val (trX u)], .box true [.val (trX t)]]) 1 L.length
        [(0, .val (.row (ns.map Note.pv))), (1, .val (.int .u8 by0)), (5, .adr 0 0), (6, .val (.int .i64 0)), (8, .val (.row (L.map Pair.pv))), (9, .adr 1 0), (36, .val (.int .i64 L.length)), (37, .val (.int .i64 0))] [.box true [.val (trX u)], .box true [.val (trX u)]] [some 17, some 28]
        ⟨0, u, Nat.zero_le _, rfl, gu, rfl, rfl⟩ (by simp only [go_sem, ↓reduceIte, reduceCtorEq, Bool.false_eq_true, Bool.true_eq_false, Nat.reduceAdd, Nat.reduceLT, Nat.reduceEqDiff, Nat.reduceLeDiff, Nat.reduceSub, Nat.reduceMul]; try decide) ?_
      rintro m sl os ⟨i, t, hi, rfl, gt, rfl, rfl⟩
      have t1 := trX_cells t
      have t2 := trX_agg t
      refine V.exec 400 ?_
      by_cases hlt : i < L.length
      · have hlt' : (i : Int) < (L.length : Int) := by omega
        have hcl : c < L.length := by rw [hc]; exact Nat.mod_lt _ (by omega)
        have hwi : IntKind.i64.wrap ((i : Int) + 1) = ((i + 1 : Nat) : Int) := by rw [wrap_small3] <;> omega
        have hcj := turn_idx (b := b) hlt
        rw [← hc] at hcj
        have hgt := turnT_get L c i hcl hlt
        rw [← hcj] at hgt
        obtain ⟨r, hr⟩ : ∃ r, r = (L.length - i + b) % L.length := ⟨_, rfl⟩
        have hrl : r < L.length := by rw [hr]; exact Nat.mod_lt _ (by omega)
        rw [← hr] at hgt
        obtain ⟨y, hy⟩ : ∃ y, L[r]? = some y := ⟨_, List.getElem?_eq_getElem hrl⟩
        rw [hy] at hgt
        have hT1 : ((turnT L c).take (i + 1)).map delOf = ((turnT L c).take i).map delOf ++ [delOf y] := by rw [List.take_add_one, hgt, List.map_append]; rfl
        have h0' : ¬ (L.length : Int) = 0 := by omega
        have w1 : IntKind.i64.wrap ((L.length : Int) - (i : Int)) = (L.length : Int) - (i : Int) := by rw [wrap_small3] <;> omega
        have w2 : IntKind.i64.wrap by0 = by0 := by rw [wrap_small3] <;> omega
        have w3 : IntKind.i64.wrap ((L.length : Int) - (i : Int) + by0) = ((L.length - i + b : Nat) : Int) := by rw [wrap_small3] <;> omega
        have w4 : ((L.length - i + b : Nat) : Int).tmod (L.length : Int) = (r : Int) := by rw [hr]; rfl
        have w5 : IntKind.i64.wrap (r : Int) = (r : Int) := by rw [wrap_small3] <;> omega
        have hr1 : (r : Int) < (L.length : Int) := by omega
        obtain ⟨t', ct, gt'⟩ := tree_ApplyK gt [delOf y] (delOf_ok ok (List.mem_of_getElem? hy)) (by simp; omega)
        rw [← appV_app, ← hT1] at gt'
        have gt'' := gt'.mono (H' := 61 + 122 * (i + 1)) (M' := 61 + (i + 1)) (by simp; omega) (by simp; omega)
        have t1' := trX_cells t'
        have t2' := trX_agg t'
        simp (config := {contextual := true, maxSteps := 1000000}) only [go_sem, ↓reduceIte, reduceCtorEq, Bool.false_eq_true, Bool.true_eq_false, Nat.reduceAdd, Nat.reduceLT, Nat.reduceEqDiff, Nat.reduceLeDiff, Nat.reduceSub, Nat.reduceMul, hlt', w1, w2, w3, w4, w5, h0', hr1, hy, Pair.pv, t1, t2]
        refine DV.call [20] [20] (by simp only [go_sem, ↓reduceIte, reduceCtorEq, Bool.false_eq_true, Bool.true_eq_false, Nat.reduceAdd, Nat.reduceLT, Nat.reduceEqDiff, Nat.reduceLeDiff, Nat.reduceSub, Nat.reduceMul, List.map_cons, List.map_nil, Note.pv, delOf]) (by simp [dOK]) ⟨11, [], by simp only [go_sem, ↓reduceIte, reduceCtorEq, Bool.false_eq_true, Bool.true_eq_false, Nat.reduceAdd, Nat.reduceLT, Nat.reduceEqDiff, Nat.reduceLeDiff, Nat.reduceSub, Nat.reduceMul, List.map_cons, List.map_nil, Note.pv, delOf], ⟨_, rfl, rfl, rfl⟩, .inl ⟨[.agg [trX t], .row ([delOf y].map Note.pv)], _, .inl (by simp only [go_sem, ↓reduceIte, reduceCtorEq, Bool.false_eq_true, Bool.true_eq_false, Nat.reduceAdd, Nat.reduceLT, Nat.reduceEqDiff, Nat.reduceLeDiff, Nat.reduceSub, Nat.reduceMul, List.map_cons, List.map_nil, Note.pv, delOf]), ct, .inr (.inl ⟨_, rfl, rfl, rfl⟩)⟩⟩ (by simp only [go_sem, ↓reduceIte, reduceCtorEq, Bool.false_eq_true, Bool.true_eq_false, Nat.reduceAdd, Nat.reduceLT, Nat.reduceEqDiff, Nat.reduceLeDiff, Nat.reduceSub, Nat.reduceMul, List.map_cons, List.map_nil, Note.pv, delOf]) (by simp only [go_sem, ↓reduceIte, reduceCtorEq, Bool.false_eq_true, Bool.true_eq_false, Nat.reduceAdd, Nat.reduceLT, Nat.reduceEqDiff, Nat.reduceLeDiff, Nat.reduceSub, Nat.reduceMul, List.map_cons, List.map_nil, Note.pv, delOf]) (by simp only [go_sem, ↓reduceIte, reduceCtorEq, Bool.false_eq_true, Bool.true_eq_false, Nat.reduceAdd, Nat.reduceLT, Nat.reduceEqDiff, Nat.reduceLeDiff, Nat.reduceSub, Nat.reduceMul, List.map_cons, List.map_nil, Note.pv, delOf]) (by simp) ?_
        refine DV.exec 400 ?_
        simp (config := {contextual := true, maxSteps := 1000000}) only [go_sem, ↓reduceIte, reduceCtorEq, Bool.false_eq_true, Bool.true_eq_false, Nat.reduceAdd, Nat.reduceLT, Nat.reduceEqDiff, Nat.reduceLeDiff, Nat.reduceSub, Nat.reduceMul, t1, t2, t1', t2', hwi]
        exact ⟨by kernel_rfl, L.length - (i + 1), _, _, [some 0, some 1], by omega, ⟨i + 1, t', by omega, rfl, gt'', rfl, rfl⟩, by simp only [go_sem, ↓reduceIte, reduceCtorEq, Bool.false_eq_true, Bool.true_eq_false, Nat.reduceAdd, Nat.reduceLT, Nat.reduceEqDiff, Nat.reduceLeDiff, Nat.reduceSub, Nat.reduceMul]; try decide⟩
      · have hlt' : ¬ (i : Int) < (L.length : Int) := by omega
        obtain rfl : i = L.length := by omega
        rw [List.take_of_length_le (by omega), hdl] at gt
        obtain ⟨w, cw, gw⟩ := tree_ApplyK gt ns hn (by omega)
        rw [← hL] at gw
        have x1 := trX_cells w
        have x2 := trX_agg w
        have it := law12_is gt (by omega) (by omega) [] (by simp)
        have iw := law12_is gw (by omega) (by omega) L (by omega)
        rw [show decide (([] : List Pair) = []) = true from decide_eq_true rfl, trX_pv t] at it
        rw [show decide (L = L) = true from decide_eq_true rfl, trX_pv w] at iw
        simp (config := {contextual := true, maxSteps := 1000000}) only [go_sem, ↓reduceIte, reduceCtorEq, Bool.false_eq_true, Bool.true_eq_false, Nat.reduceAdd, Nat.reduceLT, Nat.reduceEqDiff, Nat.reduceLeDiff, Nat.reduceSub, Nat.reduceMul, hlt', t1, t2]
        refine V.call rfl rfl (by simp [dOK]) ⟨11, [], by simp only [go_sem, ↓reduceIte, reduceCtorEq, Bool.false_eq_true, Bool.true_eq_false, Nat.reduceAdd, Nat.reduceLT, Nat.reduceEqDiff, Nat.reduceLeDiff, Nat.reduceSub, Nat.reduceMul], ⟨_, rfl, rfl, rfl⟩, .inl ⟨[.agg [trX t], .row (ns.map Note.pv)], _, .inl (by simp only [go_sem, ↓reduceIte, reduceCtorEq, Bool.false_eq_true, Bool.true_eq_false, Nat.reduceAdd, Nat.reduceLT, Nat.reduceEqDiff, Nat.reduceLeDiff, Nat.reduceSub, Nat.reduceMul]), cw, .inr (.inl ⟨_, rfl, rfl, rfl⟩)⟩⟩ ?_
        refine V.exec 400 ?_
        simp (config := {contextual := true, maxSteps := 1000000}) only [go_sem, ↓reduceIte, reduceCtorEq, Bool.false_eq_true, Bool.true_eq_false, Nat.reduceAdd, Nat.reduceLT, Nat.reduceEqDiff, Nat.reduceLeDiff, Nat.reduceSub, Nat.reduceMul, t1, t2, x1, x2]
        refine V.call rfl rfl (by simp [dOK]) ⟨13, [], by simp only [go_sem, ↓reduceIte, reduceCtorEq, Bool.false_eq_true, Bool.true_eq_false, Nat.reduceAdd, Nat.reduceLT, Nat.reduceEqDiff, Nat.reduceLeDiff, Nat.reduceSub, Nat.reduceMul], ⟨_, rfl, rfl, rfl⟩, .inl ⟨[.agg [trX t], .row []], _, .inl (by simp only [go_sem, ↓reduceIte, reduceCtorEq, Bool.false_eq_true, Bool.true_eq_false, Nat.reduceAdd, Nat.reduceLT, Nat.reduceEqDiff, Nat.reduceLeDiff, Nat.reduceSub, Nat.reduceMul, List.map_nil]), it, .inl ⟨_, rfl, rfl, rfl, rfl⟩⟩⟩ ?_
        refine V.exec 400 ?_
        simp (config := {contextual := true, maxSteps := 1000000}) only [go_sem, ↓reduceIte, reduceCtorEq, Bool.false_eq_true, Bool.true_eq_false, Nat.reduceAdd, Nat.reduceLT, Nat.reduceEqDiff, Nat.reduceLeDiff, Nat.reduceSub, Nat.reduceMul, t1, t2, x1, x2]
        refine V.call rfl rfl (by simp [dOK]) ⟨13, [], by simp only [go_sem, ↓reduceIte, reduceCtorEq, Bool.false_eq_true, Bool.true_eq_false, Nat.reduceAdd, Nat.reduceLT, Nat.reduceEqDiff, Nat.reduceLeDiff, Nat.reduceSub, Nat.reduceMul], ⟨_, rfl, rfl, rfl⟩, .inl ⟨[.agg [trX w], .row (L.map Pair.pv)], _, .inl (by simp only [go_sem, ↓reduceIte, reduceCtorEq, Bool.false_eq_true, Bool.true_eq_false, Nat.reduceAdd, Nat.reduceLT, Nat.reduceEqDiff, Nat.reduceLeDiff, Nat.reduceSub, Nat.reduceMul]), iw, .inl ⟨_, rfl, rfl, rfl, rfl⟩⟩⟩ ?_
        refine V.exec 400 ?_
        simp (config := {contextual := true, maxSteps := 1000000}) only [go_sem, ↓reduceIte, reduceCtorEq, Bool.false_eq_true, Bool.true_eq_false, Nat.reduceAdd, Nat.reduceLT, Nat.reduceEqDiff, Nat.reduceLeDiff, Nat.reduceSub, Nat.reduceMul, t1, t2, x1, x2, u1, u2]
        refine V.call rfl rfl (by simp [dOK]) ⟨13, [], by simp only [go_sem, ↓reduceIte, reduceCtorEq, Bool.false_eq_true, Bool.true_eq_false, Nat.reduceAdd, Nat.reduceLT, Nat.reduceEqDiff, Nat.reduceLeDiff, Nat.reduceSub, Nat.reduceMul], ⟨_, rfl, rfl, rfl⟩, .inl ⟨[.agg [trX u], .row (L.map Pair.pv)], _, .inl (by simp only [go_sem, ↓reduceIte, reduceCtorEq, Bool.false_eq_true, Bool.true_eq_false, Nat.reduceAdd, Nat.reduceLT, Nat.reduceEqDiff, Nat.reduceLeDiff, Nat.reduceSub, Nat.reduceMul]), iu, .inl ⟨_, rfl, rfl, rfl, rfl⟩⟩⟩ ?_
        refine V.exec 400 ?_
        simp (config := {contextual := true, maxSteps := 1000000}) only [go_sem, ↓reduceIte, reduceCtorEq, Bool.false_eq_true, Bool.true_eq_false, Nat.reduceAdd, Nat.reduceLT, Nat.reduceEqDiff, Nat.reduceLeDiff, Nat.reduceSub, Nat.reduceMul, t1, t2, x1, x2, u1, u2]
        refine V.call rfl rfl (by simp [dOK]) ⟨9, [], by simp only [go_sem, ↓reduceIte, reduceCtorEq, Bool.false_eq_true, Bool.true_eq_false, Nat.reduceAdd, Nat.reduceLT, Nat.reduceEqDiff, Nat.reduceLeDiff, Nat.reduceSub, Nat.reduceMul], ⟨_, rfl, rfl, rfl⟩, .inl ⟨[], _, .inl (by simp only [go_sem, ↓reduceIte, reduceCtorEq, Bool.false_eq_true, Bool.true_eq_false, Nat.reduceAdd, Nat.reduceLT, Nat.reduceEqDiff, Nat.reduceLeDiff, Nat.reduceSub, Nat.reduceMul]), aw, .inl ⟨_, rfl, rfl, rfl, rfl⟩⟩⟩ ?_
        refine V.exec 400 ?_
        simp (config := {contextual := true, maxSteps := 1000000}) only [go_sem, ↓reduceIte, reduceCtorEq, Bool.false_eq_true, Bool.true_eq_false, Nat.reduceAdd, Nat.reduceLT, Nat.reduceEqDiff, Nat.reduceLeDiff, Nat.reduceSub, Nat.reduceMul]
    · simp (config := {contextual := true, maxSteps := 1000000}) only [go_sem, ↓reduceIte, reduceCtorEq, Bool.false_eq_true, Bool.true_eq_false, Nat.reduceAdd, Nat.reduceLT, Nat.reduceEqDiff, Nat.reduceLeDiff, Nat.reduceSub, Nat.reduceMul, hn']
      refine V.call rfl rfl (by simp [dOK]) ⟨9, [], by simp only [go_sem, ↓reduceIte, reduceCtorEq, Bool.false_eq_true, Bool.true_eq_false, Nat.reduceAdd, Nat.reduceLT, Nat.reduceEqDiff, Nat.reduceLeDiff, Nat.reduceSub, Nat.reduceMul], ⟨_, rfl, rfl, rfl⟩, .inl ⟨[], _, .inl (by simp only [go_sem, ↓reduceIte, reduceCtorEq, Bool.false_eq_true, Bool.true_eq_false, Nat.reduceAdd, Nat.reduceLT, Nat.reduceEqDiff, Nat.reduceLeDiff, Nat.reduceSub, Nat.reduceMul]), aw, .inl ⟨_, rfl, rfl, rfl, rfl⟩⟩⟩ ?_
      refine V.exec 400 ?_
      simp (config := {contextual := true, maxSteps := 1000000}) only [go_sem, ↓reduceIte, reduceCtorEq, Bool.false_eq_true, Bool.true_eq_false, Nat.reduceAdd, Nat.reduceLT, Nat.reduceEqDiff, Nat.reduceLeDiff, Nat.reduceSub, Nat.reduceMul]
  · simp (config := {contextual := true, maxSteps := 1000000}) only [go_sem, ↓reduceIte, reduceCtorEq, Bool.false_eq_true, Bool.true_eq_false, Nat.reduceAdd, Nat.reduceLT, Nat.reduceEqDiff, Nat.reduceLeDiff, Nat.reduceSub, Nat.reduceMul, hf]
    refine V.call rfl rfl (by simp [dOK]) ⟨9, [], by simp only [go_sem, ↓reduceIte, reduceCtorEq, Bool.false_eq_true, Bool.true_eq_false, Nat.reduceAdd, Nat.reduceLT, Nat.reduceEqDiff, Nat.reduceLeDiff, Nat.reduceSub, Nat.reduceMul], ⟨_, rfl, rfl, rfl⟩, .inl ⟨[], _, .inl (by simp only [go_sem, ↓reduceIte, reduceCtorEq, Bool.false_eq_true, Bool.true_eq_false, Nat.reduceAdd, Nat.reduceLT, Nat.reduceEqDiff, Nat.reduceLeDiff, Nat.reduceSub, Nat.reduceMul]), aw, .inl ⟨_, rfl, rfl, rfl, rfl⟩⟩⟩ ?_
    refine V.exec 400 ?_
    simp (config := {contextual := true, maxSteps := 1000000}) only [go_sem, ↓reduceIte, reduceCtorEq, Bool.false_eq_true, Bool.true_eq_false, Nat.reduceAdd, Nat.reduceLT, Nat.reduceEqDiff, Nat.reduceLeDiff, Nat.reduceSub, Nat.reduceMul]
theorem ctEmptiesT (xs0 : List PV) (l0 : xs0.length ≤ maxLen) (h0 : ∀ x ∈ xs0, ∃ qs, x = .agg qs ∧ qs.map PV.kd = [.int .i64, .str, .str, .int .u64] ∧ ∀ q ∈ qs, q.wfv)
    (a1 : Int) (w1 : (Lit.int .u8 a1).wf = true) :
    Ct Try.prog 6 (YtofmiaecjnfeaaaVm.ops [.row xs0, .int .u8 a1]) (.vals [.bool true]) := by
  obtain ⟨a, rfl⟩ := note_of xs0 h0
  exact law_EmptiesT a (by simpa using l0) a1 (u8_of w1)
end Go.Proofs.Ytofmiaecjnfeaaa
