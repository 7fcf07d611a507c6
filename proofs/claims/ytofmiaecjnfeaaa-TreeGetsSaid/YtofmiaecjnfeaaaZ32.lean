/- A part of a proof: functions of the program, walked. -/
import Derived.Test.YtofmiaecjnfeaaaZ29
import Derived.Test.YtofmiaecjnfeaaaZsz
set_option linter.unusedVariables false
set_option linter.unusedSimpArgs false
set_option maxRecDepth 8000
namespace Go.Proofs.Ytofmiaecjnfeaaa
open Nat renaming reduceAdd → uA, reduceLT → uB, reduceEqDiff → uC, reduceLeDiff → uD, reduceSub → uE, reduceMul → uF
open Bool renaming false_eq_true → yA, true_eq_false → yB
open Go Go.Proofs Go.Proofs.YtofmiaecjnfeaaaVm Go.Proofs.Ytofmiaecjnfeaaa.Ty

theorem slt_zero : ∀ (k x : List UInt8), ¬ slt k (x ++ [0]) ↔ slt x k
  | [], x => by
    constructor
    · intro h
      cases x with
      | nil => exact absurd (by simp [slt, strLt, Op.bytesLess]) h
      | cons a r => exact absurd (by simp [slt, strLt, Op.bytesLess]) h
    · intro h; exact absurd h (slt_nil x)
  | a :: k, [] => by
    constructor
    · intro _; simp [slt, strLt, Op.bytesLess]
    · intro _ h
      rw [List.nil_append, slt_cons] at h
      rcases h with h | ⟨_, h⟩
      · have : a.toNat < (0 : UInt8).toNat := h
        simp at this
      · exact slt_nil k h
  | a :: k, b :: x => by
    have ih := slt_zero k x
    rw [List.cons_append, slt_cons, slt_cons]
    constructor
    · intro h
      by_cases hab : a = b
      · subst hab
        exact .inr ⟨rfl, ih.1 fun g => h (.inr ⟨rfl, g⟩)⟩
      · left
        have h1 : ¬ a < b := fun g => h (.inl g)
        have h2 : ¬ a.toNat < b.toNat := h1
        have h3 : a.toNat ≠ b.toNat := fun g => hab (UInt8.toNat_inj.1 g)
        show b.toNat < a.toNat
        omega
    · intro h g
      rcases h with h | ⟨rfl, h⟩
      · have h' : b.toNat < a.toNat := h
        rcases g with g | ⟨rfl, _⟩
        · have g' : a.toNat < b.toNat := g
          omega
        · omega
      · rcases g with g | ⟨_, g⟩
        · have g' : b.toNat < b.toNat := g
          omega
        · exact ih.2 h g
theorem one_key (k x : List UInt8) : (¬ slt x k ∧ slt x (k ++ [0])) ↔ x = k := by
  constructor
  · rintro ⟨h1, h2⟩
    have h3 : ¬ slt k x := fun h => (slt_zero x k).2 h h2
    rcases slt_total x k with h | h | h
    · exact absurd h h1
    · exact h
    · exact absurd h h3
  · rintro rfl
    exact ⟨slt_irrefl _, Classical.not_not.1 fun hn => slt_irrefl x ((slt_zero x x).1 hn)⟩
theorem getV_at {l : List Pair} (h : pairsOk l) {i : Nat} {x : Pair} (hx : l[i]? = some x) : getV l x.key = (x.value, true) := by
  have hs := ((pairsOk_iff l).1 h).1
  have := getL_of_mem hs (List.mem_of_getElem? hx)
  unfold getV
  rw [if_pos h, this]
theorem pick_one {L : List Pair} (ok : pairsOk L) (k : List UInt8) : (pickV ⟨k, k ++ [0], false⟩ L = [] ∧ getV L k = ([], false)) ∨ ∃ p : Pair, p.key = k ∧ pickV ⟨k, k ++ [0], false⟩ L = [p] ∧ getV L k = (p.value, true) := by
  have hs := ((pairsOk_iff L).1 ok).1
  have e : pickV ⟨k, k ++ [0], false⟩ L = L.filter fun p => decide (p.key = k) := by
    unfold pickV
    congr 1; funext p
    have := one_key k p.key
    simp only [Range.isIn, Bool.false_eq_true, false_or, this]
  rw [e]
  rcases get_find ok k with ⟨h1, h2⟩ | ⟨i, p, h1, h2, h3, h4⟩
  · left
    refine ⟨List.filter_eq_nil_iff.2 fun q hq hk => ?_, h2⟩
    have hk : q.key = k := by simpa using hk
    obtain ⟨j, hj⟩ := List.getElem?_of_mem hq
    have := getV_at ok hj
    rw [hk, h2] at this
    exact absurd (congrArg Prod.snd this) (by simp)
  · right
    have hpk : p.key = k := by
      unfold refFindP at h1
      cases hx : L.findIdx? (fun s => decide (s.key = k)) with
      | none => rw [hx] at h1; simp at h1
      | some m =>
        rw [hx] at h1
        obtain ⟨hlt, hp, _⟩ := List.findIdx?_eq_some_iff_getElem.1 hx
        have hmi : m = i := by
          have h1' : (m : Int) = (i : Int) := by simpa using h1
          omega
        subst hmi
        rw [List.getElem?_eq_getElem hlt] at h2
        cases h2
        simpa using hp
    refine ⟨p, hpk, ?_, h4⟩
    have hu : ∀ q ∈ L, q.key = k → q = p := fun q hq hk => by
      have a := getL_of_mem hs hq
      have b := getL_of_mem hs (List.mem_of_getElem? h2)
      rw [hk] at a
      rw [hpk, a] at b
      cases b; rfl
    have hm := List.mem_of_getElem? h2
    clear h1 h2 h3 h4 e ok
    induction L with
    | nil => cases hm
    | cons q l ih =>
      have hp1 := List.pairwise_cons.1 hs
      rw [List.filter_cons]
      by_cases hq : q.key = k
      · have hqp := hu q List.mem_cons_self hq
        rw [if_pos (by simpa using hq), hqp]
        have : l.filter (fun p => decide (p.key = k)) = [] := List.filter_eq_nil_iff.2 fun y hy hyk => by
          have hyk : y.key = k := by simpa using hyk
          have := hp1.1 y hy
          rw [hq, hyk] at this
          exact slt_irrefl _ this
        rw [this]
      · rw [if_neg (by simpa using hq)]
        rcases List.mem_cons.1 hm with h | h
        · exact absurd (h ▸ hpk) hq
        · exact ih hp1.2 (fun y hy => hu y (List.mem_cons_of_mem _ hy)) h
set_option maxRecDepth 20000 in
set_option maxHeartbeats 32000000 in
theorem law_GetsT (ns : List Note) (hnl : ns.length ≤ maxLen) (ks : List (List UInt8)) (hkl : ks.length ≤ maxLen) (hks : ∀ k ∈ ks, k.length ≤ 140737488351232) :
    Ct Try.prog 5 (YtofmiaecjnfeaaaVm.ops [.row (ns.map Note.pv), .row (ks.map PV.str)]) (.vals [.bool true]) := by
  have hmax : maxLen = 9223372036854775807 := rfl
  rw [hmax] at hnl hkl
  have aw := awake
  have cf := ref12_Few ns 60 hnl
  rw [show ((60 : Nat) : Int) = 60 from rfl] at cf
  refine Ct.of_V Try.func5 rfl (by simp [YtofmiaecjnfeaaaVm.ops, Try.f5]) ?_
  refine V.exec 400 ?_
  simp +contextual (maxSteps := 1000000) only [go_sem, ↓reduceIte, reduceCtorEq, yA, yB, uA, uB, uC, uD, uE, uF, Try.f5]
  refine V.call rfl rfl (by simp [dOK]) ⟨10, [], by simp only [go_sem, ↓reduceIte, reduceCtorEq, yA, yB, uA, uB, uC, uD, uE, uF], ⟨_, rfl, rfl, rfl⟩, .inl ⟨[.row (ns.map Note.pv), .int .i64 60], _, .inl (by simp only [go_sem, ↓reduceIte, reduceCtorEq, yA, yB, uA, uB, uC, uD, uE, uF]), cf, .inl ⟨_, rfl, rfl, rfl, rfl⟩⟩⟩ ?_
  refine V.exec 400 ?_
  by_cases hf : fewT ns 60
  · have hnl60 : ns.length ≤ 60 := hf.1
    by_cases hk60 : ks.length ≤ 60
    · have hk60' : ¬ (60 : Int) < (ks.length : Int) := by omega
      obtain ⟨u, ca, gu⟩ := tree_Apply GoodT.empty ns (by omega)
      have hfin : (if notesOk ns then (0 : Int) else 1) = 0 ∨ ((if notesOk ns then (0 : Int) else 1) = 1 ∧ (if notesOk ns then appV [] ns else []) = []) := by
        by_cases hn : notesOk ns
        · left; rw [if_pos hn]
        · right; rw [if_neg hn, if_neg hn]; exact ⟨rfl, rfl⟩
      generalize (if notesOk ns then appV [] ns else []) = L at *
      generalize (if notesOk ns then (0 : Int) else 1) = e at *
      have hLl := gu.len
      have ok := gu.ok
      have sa := tree_ScanA gu (by omega)
      have e0 : Tr.pv none = .agg [.nilp] := rfl
      rw [trX_pv u, e0] at ca
      have cg := fun k => tree_Get u L _ _ k gu
      have cs := fun r => tree_Scan u L _ _ r gu (by omega)
      rw [trX_pv u] at cg cs
      have u1 := trX_cells u
      have u2 := trX_agg u
      simp +contextual (maxSteps := 1000000) only [go_sem, ↓reduceIte, reduceCtorEq, yA, yB, uA, uB, uC, uD, uE, uF, hf, hk60']
      refine V.call rfl rfl (by simp [dOK]) ⟨11, [], by simp only [go_sem, ↓reduceIte, reduceCtorEq, yA, yB, uA, uB, uC, uD, uE, uF], ⟨_, rfl, rfl, rfl⟩, .inl ⟨[.agg [.nilp], .row (ns.map Note.pv)], _, .inl (by simp only [go_sem, ↓reduceIte, reduceCtorEq, yA, yB, uA, uB, uC, uD, uE, uF]), ca, .inr (.inl ⟨_, rfl, rfl, rfl⟩)⟩⟩ ?_
      refine V.exec 400 ?_
      simp +contextual (maxSteps := 1000000) only [go_sem, ↓reduceIte, reduceCtorEq, yA, yB, uA, uB, uC, uD, uE, uF, u1, u2]
      refine V.call rfl rfl (by simp [dOK]) ⟨17, [], by simp only [go_sem, ↓reduceIte, reduceCtorEq, yA, yB, uA, uB, uC, uD, uE, uF], ⟨_, rfl, rfl, rfl⟩, .inl ⟨[.agg [trX u], allR.pv], _, .inl (by simp only [go_sem, ↓reduceIte, reduceCtorEq, yA, yB, uA, uB, uC, uD, uE, uF, Range.pv, allR]), sa, .inr (.inl ⟨_, rfl, rfl, rfl⟩)⟩⟩ ?_
      refine V.exec 400 ?_
      simp +contextual (maxSteps := 1000000) only [go_sem, ↓reduceIte, reduceCtorEq, yA, yB, uA, uB, uC, uD, uE, uF, u1, u2]
      refine V.loop (fun m sl os => ∃ (i : Nat), i ≤ L.length ∧ m = L.length - i ∧
          sl = [(1, .val (.row (ks.map PV.str))), (5, .adr 0 0), (6, .val (.int .i64 e)), (7, .val (.row (L.map Pair.pv))), (35, .val (.row (L.map Pair.pv))), (36, .val (.int .i64 L.length)), (37, .val (.int .i64 i))] ∧ os = [.box true [.val (trX u)]]) 1 L.length
        [(1, .val (.row (ks.map PV.str))), (5, .adr 0 0), (6, .val (.int .i64 e)), (7, .val (.row (L.map Pair.pv))), (35, .val (.row (L.map Pair.pv))), (36, .val (.int .i64 L.length)), (37, .val (.int .i64 0))] [.box true [.val (trX u)]] [some 17]
        ⟨0, Nat.zero_le _, rfl, rfl, rfl⟩ (by simp only [go_sem, ↓reduceIte, reduceCtorEq, yA, yB, uA, uB, uC, uD, uE, uF]; try decide) ?_
      rintro m sl os ⟨i, hi, rfl, rfl, rfl⟩
      refine V.exec 400 ?_
      by_cases hlt : i < L.length
      · have hlt' : (i : Int) < (L.length : Int) := by omega
        obtain ⟨p, hp⟩ : ∃ p, L[i]? = some p := ⟨_, List.getElem?_eq_getElem hlt⟩
        have hwi : IntKind.i64.wrap ((i : Int) + 1) = ((i + 1 : Nat) : Int) := by rw [wrap_small3] <;> omega
        have cgp := cg p.key
        rw [getV_at ok hp] at cgp
        simp +contextual (maxSteps := 1000000) only [go_sem, ↓reduceIte, reduceCtorEq, yA, yB, uA, uB, uC, uD, uE, uF, hlt', hp, Pair.pv, u1, u2]
        refine V.call rfl rfl (by simp [dOK]) ⟨14, [], by simp only [go_sem, ↓reduceIte, reduceCtorEq, yA, yB, uA, uB, uC, uD, uE, uF], ⟨_, rfl, rfl, rfl⟩, .inl ⟨[.agg [trX u], .str p.key], _, .inl (by simp only [go_sem, ↓reduceIte, reduceCtorEq, yA, yB, uA, uB, uC, uD, uE, uF]), cgp, .inl ⟨_, rfl, rfl, rfl, rfl⟩⟩⟩ ?_
        refine V.exec 400 ?_
        by_cases hi0 : i = 0
        · have hi0' : ¬ (0 : Int) < (i : Int) := by omega
          simp +contextual (maxSteps := 1000000) only [go_sem, ↓reduceIte, reduceCtorEq, yA, yB, uA, uB, uC, uD, uE, uF, hlt', hp, Pair.pv, u1, u2, hi0', hwi]
          exact ⟨by kernel_rfl, L.length - (i + 1), _, _, [some 0], by omega, ⟨i + 1, by omega, rfl, rfl, rfl⟩, by simp only [go_sem, ↓reduceIte, reduceCtorEq, yA, yB, uA, uB, uC, uD, uE, uF]; try decide⟩
        · have hi0' : (0 : Int) < (i : Int) := by omega
          obtain ⟨q, hq⟩ : ∃ q, L[i - 1]? = some q := ⟨_, List.getElem?_eq_getElem (by omega)⟩
          have hqp : slt q.key p.key := by
            have hs := ((pairsOk_iff L).1 ok).1
            obtain ⟨a1, a2⟩ := List.getElem?_eq_some_iff.1 hq
            obtain ⟨b1, b2⟩ := List.getElem?_eq_some_iff.1 hp
            have := List.pairwise_iff_getElem.1 hs (i - 1) i a1 b1 (by omega)
            rwa [a2, b2] at this
          have hwm : IntKind.i64.wrap ((i : Int) - 1) = ((i - 1 : Nat) : Int) := by rw [wrap_small3] <;> omega
          have him : ((i - 1 : Nat) : Int) < (L.length : Int) := by omega
          simp +contextual (maxSteps := 1000000) only [go_sem, ↓reduceIte, reduceCtorEq, yA, yB, uA, uB, uC, uD, uE, uF, hlt', hp, Pair.pv, u1, u2, hi0', hwi, hwm, him, hq, hqp]
          exact ⟨by kernel_rfl, L.length - (i + 1), _, _, [some 0], by omega, ⟨i + 1, by omega, rfl, rfl, rfl⟩, by simp only [go_sem, ↓reduceIte, reduceCtorEq, yA, yB, uA, uB, uC, uD, uE, uF]; try decide⟩
      · have hlt' : ¬ (i : Int) < (L.length : Int) := by omega
        simp +contextual (maxSteps := 1000000) only [go_sem, ↓reduceIte, reduceCtorEq, yA, yB, uA, uB, uC, uD, uE, uF, hlt']
        refine V.loop (fun m sl os => ∃ (i : Nat), i ≤ ks.length ∧ m = ks.length - i ∧
            sl = [(5, .adr 0 0), (6, .val (.int .i64 e)), (7, .val (.row (L.map Pair.pv))), (73, .val (.row (ks.map PV.str))), (74, .val (.int .i64 ks.length)), (75, .val (.int .i64 i))] ∧ os = [.box true [.val (trX u)]]) 1 ks.length
          [(5, .adr 0 0), (6, .val (.int .i64 e)), (7, .val (.row (L.map Pair.pv))), (73, .val (.row (ks.map PV.str))), (74, .val (.int .i64 ks.length)), (75, .val (.int .i64 0))] [.box true [.val (trX u)]] [some 0]
          ⟨0, Nat.zero_le _, rfl, rfl, rfl⟩ (by simp only [go_sem, ↓reduceIte, reduceCtorEq, yA, yB, uA, uB, uC, uD, uE, uF]; try decide) ?_
        rintro m sl os ⟨i, hi, rfl, rfl, rfl⟩
        refine V.exec 400 ?_
        by_cases hkt : i < ks.length
        · have hkt' : (i : Int) < (ks.length : Int) := by omega
          obtain ⟨k, hk⟩ : ∃ k, ks[i]? = some k := ⟨_, List.getElem?_eq_getElem hkt⟩
          have hwi : IntKind.i64.wrap ((i : Int) + 1) = ((i + 1 : Nat) : Int) := by rw [wrap_small3] <;> omega
          have cgk := cg k
          have csk := cs ⟨k, k ++ [0], false⟩
          have hz0 : ((0 : Nat) : Int) = 0 := rfl
          have hz1 : ((1 : Nat) : Int) = 1 := rfl
          have h11n : ¬ (1 : Int) < 1 := by decide
          have h01 : ¬ (0 : Int) = 1 := by decide
          have h10n : ¬ (1 : Int) < 0 := by decide
          rcases pick_one ok k with ⟨p1, p2⟩ | ⟨p, pk, p1, p2⟩
          · rw [p1] at csk
            rw [p2] at cgk
            simp +contextual (maxSteps := 1000000) only [go_sem, ↓reduceIte, reduceCtorEq, yA, yB, uA, uB, uC, uD, uE, uF, hkt', hk, u1, u2]
            refine V.call rfl rfl (by simp [dOK]) ⟨14, [], by simp only [go_sem, ↓reduceIte, reduceCtorEq, yA, yB, uA, uB, uC, uD, uE, uF], ⟨_, rfl, rfl, rfl⟩, .inl ⟨[.agg [trX u], .str k], _, .inl (by simp only [go_sem, ↓reduceIte, reduceCtorEq, yA, yB, uA, uB, uC, uD, uE, uF]), cgk, .inl ⟨_, rfl, rfl, rfl, rfl⟩⟩⟩ ?_
            refine V.exec 400 ?_
            simp +contextual (maxSteps := 1000000) only [go_sem, ↓reduceIte, reduceCtorEq, yA, yB, uA, uB, uC, uD, uE, uF, u1, u2]
            refine ⟨by have := hks _ (List.mem_of_getElem? hk); omega, ?_⟩
            refine V.call rfl rfl (by simp [dOK]) ⟨17, [], by simp only [go_sem, ↓reduceIte, reduceCtorEq, yA, yB, uA, uB, uC, uD, uE, uF], ⟨_, rfl, rfl, rfl⟩, .inl ⟨[.agg [trX u], Range.pv ⟨k, k ++ [0], false⟩], _, .inl (by simp only [go_sem, ↓reduceIte, reduceCtorEq, yA, yB, uA, uB, uC, uD, uE, uF, Range.pv, List.map_nil]), csk, .inr (.inl ⟨_, rfl, rfl, rfl⟩)⟩⟩ ?_
            refine V.exec 400 ?_
            simp +contextual (maxSteps := 1000000) only [go_sem, ↓reduceIte, reduceCtorEq, yA, yB, uA, uB, uC, uD, uE, uF, u1, u2, List.map_nil, List.length_nil, hz0, hwi, h01, h10n]
            exact ⟨ks.length - (i + 1), _, _, [some 0], by omega, ⟨i + 1, by omega, rfl, rfl, rfl⟩, by simp only [go_sem, ↓reduceIte, reduceCtorEq, yA, yB, uA, uB, uC, uD, uE, uF]; try decide⟩
          · rw [p1] at csk
            rw [p2] at cgk
            subst pk
            simp +contextual (maxSteps := 1000000) only [go_sem, ↓reduceIte, reduceCtorEq, yA, yB, uA, uB, uC, uD, uE, uF, hkt', hk, u1, u2]
            refine V.call rfl rfl (by simp [dOK]) ⟨14, [], by simp only [go_sem, ↓reduceIte, reduceCtorEq, yA, yB, uA, uB, uC, uD, uE, uF], ⟨_, rfl, rfl, rfl⟩, .inl ⟨[.agg [trX u], .str p.key], _, .inl (by simp only [go_sem, ↓reduceIte, reduceCtorEq, yA, yB, uA, uB, uC, uD, uE, uF]), cgk, .inl ⟨_, rfl, rfl, rfl, rfl⟩⟩⟩ ?_
            refine V.exec 400 ?_
            simp +contextual (maxSteps := 1000000) only [go_sem, ↓reduceIte, reduceCtorEq, yA, yB, uA, uB, uC, uD, uE, uF, u1, u2]
            refine ⟨by have := hks _ (List.mem_of_getElem? hk); omega, ?_⟩
            refine V.call rfl rfl (by simp [dOK]) ⟨17, [], by simp only [go_sem, ↓reduceIte, reduceCtorEq, yA, yB, uA, uB, uC, uD, uE, uF], ⟨_, rfl, rfl, rfl⟩, .inl ⟨[.agg [trX u], Range.pv ⟨p.key, p.key ++ [0], false⟩], _, .inl (by simp only [go_sem, ↓reduceIte, reduceCtorEq, yA, yB, uA, uB, uC, uD, uE, uF, Range.pv, List.map_cons, List.map_nil]), csk, .inr (.inl ⟨_, rfl, rfl, rfl⟩)⟩⟩ ?_
            refine V.exec 400 ?_
            simp +contextual (maxSteps := 1000000) only [go_sem, ↓reduceIte, reduceCtorEq, yA, yB, uA, uB, uC, uD, uE, uF, u1, u2, List.map_cons, List.map_nil, List.length_cons, List.length_nil, hz1, hwi, Pair.pv, Int.le_refl, Int.toNat_zero, List.getElem?_cons_zero, h11n]
            exact ⟨ks.length - (i + 1), _, _, [some 0], by omega, ⟨i + 1, by omega, rfl, rfl, rfl⟩, by simp only [go_sem, ↓reduceIte, reduceCtorEq, yA, yB, uA, uB, uC, uD, uE, uF]; try decide⟩
        · have hkt' : ¬ (i : Int) < (ks.length : Int) := by omega
          rcases hfin with he | ⟨he, hL⟩
          · simp +contextual (maxSteps := 1000000) only [go_sem, ↓reduceIte, reduceCtorEq, yA, yB, uA, uB, uC, uD, uE, uF, hkt', he]
            refine V.call rfl rfl (by simp [dOK]) ⟨9, [], by simp only [go_sem, ↓reduceIte, reduceCtorEq, yA, yB, uA, uB, uC, uD, uE, uF], ⟨_, rfl, rfl, rfl⟩, .inl ⟨[], _, .inl (by simp only [go_sem, ↓reduceIte, reduceCtorEq, yA, yB, uA, uB, uC, uD, uE, uF]), aw, .inl ⟨_, rfl, rfl, rfl, rfl⟩⟩⟩ ?_
            refine V.exec 400 ?_
            simp +contextual (maxSteps := 1000000) only [go_sem, ↓reduceIte, reduceCtorEq, yA, yB, uA, uB, uC, uD, uE, uF]
          · subst hL
            have hz0 : ((0 : Nat) : Int) = 0 := rfl
            have h10z : ¬ (1 : Int) = 0 := by decide
            simp +contextual (maxSteps := 1000000) only [go_sem, ↓reduceIte, reduceCtorEq, yA, yB, uA, uB, uC, uD, uE, uF, hkt', he, List.map_nil, List.length_nil, hz0, h10z]
            refine V.call rfl rfl (by simp [dOK]) ⟨9, [], by simp only [go_sem, ↓reduceIte, reduceCtorEq, yA, yB, uA, uB, uC, uD, uE, uF], ⟨_, rfl, rfl, rfl⟩, .inl ⟨[], _, .inl (by simp only [go_sem, ↓reduceIte, reduceCtorEq, yA, yB, uA, uB, uC, uD, uE, uF]), aw, .inl ⟨_, rfl, rfl, rfl, rfl⟩⟩⟩ ?_
            refine V.exec 400 ?_
            simp +contextual (maxSteps := 1000000) only [go_sem, ↓reduceIte, reduceCtorEq, yA, yB, uA, uB, uC, uD, uE, uF]
    · have hk60' : (60 : Int) < (ks.length : Int) := by omega
      simp +contextual (maxSteps := 1000000) only [go_sem, ↓reduceIte, reduceCtorEq, yA, yB, uA, uB, uC, uD, uE, uF, hf, hk60']
      refine V.call rfl rfl (by simp [dOK]) ⟨9, [], by simp only [go_sem, ↓reduceIte, reduceCtorEq, yA, yB, uA, uB, uC, uD, uE, uF], ⟨_, rfl, rfl, rfl⟩, .inl ⟨[], _, .inl (by simp only [go_sem, ↓reduceIte, reduceCtorEq, yA, yB, uA, uB, uC, uD, uE, uF]), aw, .inl ⟨_, rfl, rfl, rfl, rfl⟩⟩⟩ ?_
      refine V.exec 400 ?_
      simp +contextual (maxSteps := 1000000) only [go_sem, ↓reduceIte, reduceCtorEq, yA, yB, uA, uB, uC, uD, uE, uF]
  · simp +contextual (maxSteps := 1000000) only [go_sem, ↓reduceIte, reduceCtorEq, yA, yB, uA, uB, uC, uD, uE, uF, hf]
    refine V.call rfl rfl (by simp [dOK]) ⟨9, [], by simp only [go_sem, ↓reduceIte, reduceCtorEq, yA, yB, uA, uB, uC, uD, uE, uF], ⟨_, rfl, rfl, rfl⟩, .inl ⟨[], _, .inl (by simp only [go_sem, ↓reduceIte, reduceCtorEq, yA, yB, uA, uB, uC, uD, uE, uF]), aw, .inl ⟨_, rfl, rfl, rfl, rfl⟩⟩⟩ ?_
    refine V.exec 400 ?_
    simp +contextual (maxSteps := 1000000) only [go_sem, ↓reduceIte, reduceCtorEq, yA, yB, uA, uB, uC, uD, uE, uF]
theorem ctGetsT (xs0 : List PV) (l0 : xs0.length ≤ maxLen) (h0 : ∀ x ∈ xs0, ∃ qs, x = .agg qs ∧ qs.map PV.kd = [.int .i64, .str, .str, .int .u64] ∧ ∀ q ∈ qs, q.wfv)
    (xs1 : List (List UInt8)) (l1 : xs1.length ≤ maxLen) (hb1 : ∀ l ∈ xs1, l.length ≤ reachBytes) :
    Ct Try.prog 5 (YtofmiaecjnfeaaaVm.ops [.row xs0, .row (xs1.map PV.str)]) (.vals [.bool true]) := by
  obtain ⟨a, rfl⟩ := note_of xs0 h0
  exact law_GetsT a (by simpa using l0) xs1 l1 hb1
end Go.Proofs.Ytofmiaecjnfeaaa
