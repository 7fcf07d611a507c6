/- A part of a proof: functions of the program, walked. -/
import Derived.Test.YtjbfcmaiejlnbaaGG
set_option linter.unusedVariables false
set_option linter.unusedSimpArgs false
set_option maxRecDepth 8000
namespace Go.Proofs.Ytjbfcmaiejlnbaa
open Nat renaming reduceAdd → uA, reduceLT → uB, reduceEqDiff → uC, reduceLeDiff → uD, reduceSub → uE, reduceMul → uF
open Bool renaming false_eq_true → yA, true_eq_false → yB
open Go Go.Proofs Go.Proofs.YtjbfcmaiejlnbaaVm Go.Proofs.Ytjbfcmaiejlnbaa.Ty

structure FAct where
  gone : Bool
  n : Int
def FAct.pv (a : FAct) : PV := .agg [.bool (decide (a.gone = true)), .int .i64 a.n]
theorem mp25 : mapT Try.prog 25 := by
  have h : (Try.prog.info? 3).bind (·.zero) = some (.int .i64 0) := by kernel_rfl
  obtain ⟨inf, h1, h2⟩ := Option.bind_eq_some_iff.1 h
  exact ⟨3, 3, inf, by kernel_rfl, by kernel_rfl, h1, h2⟩
theorem mel25 : elOf Try.prog 25 = none := by kernel_rfl

set_option maxRecDepth 100000 in
set_option maxHeartbeats 16000000 in
theorem law_Keeps (acts : List FAct) (hl : acts.length ≤ maxLen) : Ct Try.prog 3 (YtjbfcmaiejlnbaaVm.ops [.row (acts.map FAct.pv)]) (.vals [.bool true]) := by
  have aw := law_awake
  refine Ct.of_V Try.func3 rfl (by simp [YtjbfcmaiejlnbaaVm.ops, Try.f3]) ?_
  refine V.exec 400 ?_
  by_cases h60 : acts.length ≤ 60
  · have h60' : ¬ (60 : Int) < (acts.length : Int) := by omega
    simp +contextual (maxSteps := 1000000) only [go_sem, ↓reduceIte, reduceCtorEq, yA, yB, uA, uB, uC, uD, uE, uF, Try.f3, h60']
    refine V.loop (fun m ls os => ∃ (i : Nat) (l : List Sub) (es : List Ent) (clock : Nat), i ≤ acts.length ∧ m = acts.length - i ∧ Keeps l es clock ∧
        ls = [(3, .val (.row (l.map Sub.pv))), (4, .ref 0), (27, .val (.row (acts.map FAct.pv))), (28, .val (.int .i64 acts.length)), (29, .val (.int .i64 i))] ∧ os = [.imap es clock]) 1 acts.length
      [(3, .val (.row [])), (4, .ref 0), (27, .val (.row (acts.map FAct.pv))), (28, .val (.int .i64 acts.length)), (29, .val (.int .i64 0))] [.imap [] 0] [some 6]
      ⟨0, [], [], 0, Nat.zero_le _, rfl, Keeps.nil, rfl, rfl⟩ (by simp only [go_sem, ↓reduceIte, reduceCtorEq, yA, yB, uA, uB, uC, uD, uE, uF]; try decide) ?_
    rintro m ls os ⟨i, l, es, clock, hi, rfl, hK, rfl, rfl⟩
    have hll : l.length ≤ 1000000 := by have := hK.ok.2; omega
    have hlen := hK.len
    by_cases hlt : i < acts.length
    · have hlt' : (i : Int) < (acts.length : Int) := by omega
      obtain ⟨x, hx⟩ : ∃ x, acts[i]? = some x := ⟨_, List.getElem?_eq_getElem hlt⟩
      have hw : IntKind.i64.wrap ((i : Int) + 1) = ((i + 1 : Nat) : Int) := by rw [wrap_small3] <;> omega
      apply V.join (n := 144) (fun a : List Sub × List Ent × Nat => litSt [(3, .val (.row (a.1.map Sub.pv))), (4, .ref 0), (27, .val (.row (acts.map FAct.pv))), (28, .val (.int .i64 acts.length)), (29, .val (.int .i64 i))] [.imap a.2.1 a.2.2] 1) (fun a => Keeps a.1 a.2.1 a.2.2)
      case main =>
        intro rest
        refine V.execS [25] 400 ?_
        by_cases hg : x.gone = true
        · simp +contextual (maxSteps := 1000000) only [go_sem, ↓reduceIte, reduceCtorEq, yA, yB, uA, uB, uC, uD, uE, uF, hlt', hx, FAct.pv, hg, mp25, mel25]
          refine V.call rfl rfl (by simp [dOK]) ⟨10, [], by simp only [go_sem, ↓reduceIte, reduceCtorEq, yA, yB, uA, uB, uC, uD, uE, uF], ⟨_, rfl, rfl, rfl⟩, .inl ⟨[.row (l.map Sub.pv), .int .i64 x.n], _, .inl (by simp only [go_sem, ↓reduceIte, reduceCtorEq, yA, yB, uA, uB, uC, uD, uE, uF]), floor_Leave l x.n hll, .inr (.inl ⟨_, rfl, rfl, rfl⟩)⟩⟩ ?_
          refine V.execS [25] 400 ?_
          cases hf : es.find? (keyIs x.n) with
          | some e =>
            have hv := hK.there hf
            simp +contextual (maxSteps := 1000000) only [go_sem, ↓reduceIte, reduceCtorEq, yA, yB, uA, uB, uC, uD, uE, uF, mp25, mel25, hf, hv]
            refine V.cut 1 _ _ [some 0] ?_ (rest ((leaveV l x.n).1, es.eraseP (keyIs x.n), clock) (hK.leave x.n))
            simp only [go_sem, ↓reduceIte, reduceCtorEq, yA, yB, uA, uB, uC, uD, uE, uF]
            try decide
          | none =>
            have hv := hK.gone hf
            simp +contextual (maxSteps := 1000000) only [go_sem, ↓reduceIte, reduceCtorEq, yA, yB, uA, uB, uC, uD, uE, uF, mp25, mel25, hf, hv]
            refine V.cut 1 _ _ [some 0] ?_ (rest ((leaveV l x.n).1, es.eraseP (keyIs x.n), clock) (hK.leave x.n))
            simp only [go_sem, ↓reduceIte, reduceCtorEq, yA, yB, uA, uB, uC, uD, uE, uF]
            try decide
        · obtain ⟨c, hc⟩ : ∃ c : Int, c = (if (if 2147483647 < x.n then 2147483647 else x.n) > 0 then if 2147483647 < x.n then 2147483647 else x.n else 0) := ⟨_, rfl⟩
          have hc0 : 0 ≤ c ∧ c ≤ 2147483647 := by rw [hc]; constructor <;> (split <;> (try split) <;> omega)
          simp +contextual (maxSteps := 1000000) only [go_sem, ↓reduceIte, reduceCtorEq, yA, yB, uA, uB, uC, uD, uE, uF, hlt', hx, FAct.pv, hg, mp25, mel25, ← hc]
          have hs0 : (⟨0, ⟨[], [], false⟩, false, [], c⟩ : Sub).pv = .agg [.int .i64 0, .str [], .str [], .bool false, .bool false, .str [], .int .i64 c] := by simp [Sub.pv]
          have ok0 : (⟨0, ⟨[], [], false⟩, false, [], c⟩ : Sub).ok := by simp [Sub.ok, Range.ok]; omega
          have ca := floor_Add l ⟨0, ⟨[], [], false⟩, false, [], c⟩ hll
          rw [hs0] at ca
          refine V.call rfl rfl (by simp [dOK]) ⟨11, [], by simp only [go_sem, ↓reduceIte, reduceCtorEq, yA, yB, uA, uB, uC, uD, uE, uF], ⟨_, rfl, rfl, rfl⟩, .inl ⟨[.row (l.map Sub.pv), .agg [.int .i64 0, .str [], .str [], .bool false, .bool false, .str [], .int .i64 c]], _, .inl (by simp only [go_sem, ↓reduceIte, reduceCtorEq, yA, yB, uA, uB, uC, uD, uE, uF]), ca, .inr (.inl ⟨_, rfl, rfl, rfl⟩)⟩⟩ ?_
          refine V.execS [25] 400 ?_
          by_cases h4 : l.length < 4
          · obtain ⟨k, a1, a2, a3, a4, a5⟩ := hK.add h4 ok0
            have h4' : (es.length : Int) < 4 := by omega
            have hk1 : ¬ (k : Int) + 1 < 1 := by omega
            have hk4 : ¬ (4 : Int) < (k : Int) + 1 := by omega
            simp +contextual (maxSteps := 1000000) only [go_sem, ↓reduceIte, reduceCtorEq, yA, yB, uA, uB, uC, uD, uE, uF, mp25, mel25, a1, a2, a4, h4', hk1, hk4]
            refine V.cut 1 _ _ [some 0] ?_ (rest (_, es ++ [((k : Int) + 1, c, clock)], clock + 1) a5)
            simp only [go_sem, ↓reduceIte, reduceCtorEq, yA, yB, uA, uB, uC, uD, uE, uF]
            try decide
          · have hf := hK.full h4 _ ok0
            have h4' : ¬ (es.length : Int) < 4 := by omega
            have h70 : ¬ (7 : Int) = 0 := by decide
            simp +contextual (maxSteps := 1000000) only [go_sem, ↓reduceIte, reduceCtorEq, yA, yB, uA, uB, uC, uD, uE, uF, mp25, mel25, hf, h4', h70]
            refine V.cut 1 _ _ [some 0] ?_ (rest (l, es, clock) hK)
            simp only [go_sem, ↓reduceIte, reduceCtorEq, yA, yB, uA, uB, uC, uD, uE, uF]
            try decide
      case rest =>
        rintro ⟨l2, es2, clock2⟩ hK2
        refine V.exec 400 ?_
        simp +contextual (maxSteps := 1000000) only [go_sem, ↓reduceIte, reduceCtorEq, yA, yB, uA, uB, uC, uD, uE, uF, mp25, mel25]
        simp only at hK2
        have hll2 : l2.length ≤ 1000000 := by have := hK2.ok.2; omega
        refine V.loop (fun m ls os => ∃ (seen : List Nat) (last : Nat) (least : Int), m = (leftE es2 seen).length ∧ clock2 ≤ last ∧ Least es2 seen least ∧
            ls = [(3, .val (.row (l2.map Sub.pv))), (4, .ref 0), (17, .val (.int .i64 least)), (27, .val (.row (acts.map FAct.pv))), (28, .val (.int .i64 acts.length)), (29, .val (.int .i64 i)), (97, .ref 1)] ∧ os = [.imap es2 clock2, .iter 0 clock2 seen last]) 2 (leftE es2 []).length
          [(3, .val (.row (l2.map Sub.pv))), (4, .ref 0), (17, .val (.int .i64 2147483647)), (27, .val (.row (acts.map FAct.pv))), (28, .val (.int .i64 acts.length)), (29, .val (.int .i64 i)), (97, .ref 1)] [.imap es2 clock2, .iter 0 clock2 [] clock2] [some 0, some 3]
          ⟨[], clock2, _, rfl, Nat.le_refl _, Least.nil, rfl, rfl⟩ (by simp only [go_sem, ↓reduceIte, reduceCtorEq, yA, yB, uA, uB, uC, uD, uE, uF]; try decide) ?_
        rintro m ls os ⟨seen, last, least, rfl, hlast, hL, rfl, rfl⟩
        refine V.exec 2 ?_
        simp +contextual (maxSteps := 1000000) only [go_sem, ↓reduceIte, reduceCtorEq, yA, yB, uA, uB, uC, uD, uE, uF]
        refine V.sop _ (SemOp.mnext (j := 1) (mm := 0) (seen := seen) (es := es2) (clock := clock2) rfl rfl (by simp [dOK]) (by simp only [go_sem, ↓reduceIte, reduceCtorEq, yA, yB, uA, uB, uC, uD, uE, uF]) (by simp only [go_sem, ↓reduceIte, reduceCtorEq, yA, yB, uA, uB, uC, uD, uE, uF]) (by simp only [go_sem, ↓reduceIte, reduceCtorEq, yA, yB, uA, uB, uC, uD, uE, uF]) hK2.lt hlast) (fun σ' h => ?_)
        rcases h with ⟨hnil, rfl⟩ | ⟨e, he, rfl⟩
        · have hfl := hL.all hK2 hnil
          have hlen2 : (l2.length : Int) = (es2.length : Int) := by rw [hK2.len]
          refine V.exec 400 ?_
          simp +contextual (maxSteps := 1000000) only [go_sem, ↓reduceIte, reduceCtorEq, yA, yB, uA, uB, uC, uD, uE, uF]
          refine V.call rfl rfl (by simp [dOK]) ⟨13, [], by simp only [go_sem, ↓reduceIte, reduceCtorEq, yA, yB, uA, uB, uC, uD, uE, uF], ⟨_, rfl, rfl, rfl⟩, .inl ⟨[.row (l2.map Sub.pv)], _, .inl (by simp only [go_sem, ↓reduceIte, reduceCtorEq, yA, yB, uA, uB, uC, uD, uE, uF]), floor_Right l2 hll2, .inl ⟨_, rfl, rfl, rfl, rfl⟩⟩⟩ ?_
          refine V.exec 400 ?_
          simp +contextual (maxSteps := 1000000) only [go_sem, ↓reduceIte, reduceCtorEq, yA, yB, uA, uB, uC, uD, uE, uF, hK2.ok, mp25, mel25, hlen2]
          refine V.call rfl rfl (by simp [dOK]) ⟨14, [], by simp only [go_sem, ↓reduceIte, reduceCtorEq, yA, yB, uA, uB, uC, uD, uE, uF], ⟨_, rfl, rfl, rfl⟩, .inl ⟨[.int .i64 2147483647, .row (l2.map Sub.pv)], _, .inl (by simp only [go_sem, ↓reduceIte, reduceCtorEq, yA, yB, uA, uB, uC, uD, uE, uF]), floor_Of 2147483647 l2 hll2, .inl ⟨_, rfl, rfl, rfl, rfl⟩⟩⟩ ?_
          refine V.exec 400 ?_
          simp +contextual (maxSteps := 1000000) only [go_sem, ↓reduceIte, reduceCtorEq, yA, yB, uA, uB, uC, uD, uE, uF, hfl, hw]
          refine ⟨acts.length - (i + 1), _, _, [some 0], by omega, ⟨i + 1, l2, es2, clock2, by omega, rfl, hK2, rfl, rfl⟩, ?_⟩
          simp only [go_sem, ↓reduceIte, reduceCtorEq, yA, yB, uA, uB, uC, uD, uE, uF]
          try decide
        · obtain ⟨he2, hns⟩ := List.mem_filter.1 he
          obtain ⟨s, hs, hsi, hsc, hsf⟩ := hK2.of_ent he2
          have hgl : (seen ++ [e.2.2]).getLast? = some e.2.2 := by simp
          have hfb : es2.find? (bornIs e.2.2) = some e := find_bornIs es2 hK2.born e he2
          refine V.exec 400 ?_
          simp +contextual (maxSteps := 1000000) only [go_sem, ↓reduceIte, reduceCtorEq, yA, yB, uA, uB, uC, uD, uE, uF, hgl, hfb]
          refine V.call rfl rfl (by simp [dOK]) ⟨12, [], by simp only [go_sem, ↓reduceIte, reduceCtorEq, yA, yB, uA, uB, uC, uD, uE, uF], ⟨_, rfl, rfl, rfl⟩, .inl ⟨[.row (l2.map Sub.pv), .int .i64 e.1], _, .inl (by simp only [go_sem, ↓reduceIte, reduceCtorEq, yA, yB, uA, uB, uC, uD, uE, uF]), floor_Find l2 e.1 hll2, .inr (.inl ⟨_, rfl, rfl, rfl⟩)⟩⟩ ?_
          refine V.exec 400 ?_
          simp +contextual (maxSteps := 1000000) only [go_sem, ↓reduceIte, reduceCtorEq, yA, yB, uA, uB, uC, uD, uE, uF, hsf, Sub.pv, hsi, hsc]
          have hlt2 : (leftE es2 (seen ++ [e.2.2])).length < (leftE es2 seen).length := left_lt he
          refine ⟨(leftE es2 (seen ++ [e.2.2])).length, _, _, [some 0, some 1], hlt2, ⟨seen ++ [e.2.2], clock2, _, rfl, Nat.le_refl _, Least.step hK2 hL he2, rfl, rfl⟩, ?_⟩
          simp only [go_sem, ↓reduceIte, reduceCtorEq, yA, yB, uA, uB, uC, uD, uE, uF]
          try decide
    · have hlt' : ¬ (i : Int) < (acts.length : Int) := by omega
      refine V.exec 400 ?_
      simp +contextual (maxSteps := 1000000) only [go_sem, ↓reduceIte, reduceCtorEq, yA, yB, uA, uB, uC, uD, uE, uF, hlt']
      refine V.call rfl rfl (by simp [dOK]) ⟨9, [], by simp only [go_sem, ↓reduceIte, reduceCtorEq, yA, yB, uA, uB, uC, uD, uE, uF], ⟨_, rfl, rfl, rfl⟩, .inl ⟨[], _, .inl (by simp only [go_sem, ↓reduceIte, reduceCtorEq, yA, yB, uA, uB, uC, uD, uE, uF]), aw, .inl ⟨_, rfl, rfl, rfl, rfl⟩⟩⟩ ?_
      refine V.exec 400 ?_
      simp +contextual (maxSteps := 1000000) only [go_sem, ↓reduceIte, reduceCtorEq, yA, yB, uA, uB, uC, uD, uE, uF]
  · have h60' : (60 : Int) < (acts.length : Int) := by omega
    simp +contextual (maxSteps := 1000000) only [go_sem, ↓reduceIte, reduceCtorEq, yA, yB, uA, uB, uC, uD, uE, uF, Try.f3, h60']
    refine V.call rfl rfl (by simp [dOK]) ⟨9, [], by simp only [go_sem, ↓reduceIte, reduceCtorEq, yA, yB, uA, uB, uC, uD, uE, uF], ⟨_, rfl, rfl, rfl⟩, .inl ⟨[], _, .inl (by simp only [go_sem, ↓reduceIte, reduceCtorEq, yA, yB, uA, uB, uC, uD, uE, uF]), aw, .inl ⟨_, rfl, rfl, rfl, rfl⟩⟩⟩ ?_
    refine V.exec 400 ?_
    simp +contextual (maxSteps := 1000000) only [go_sem, ↓reduceIte, reduceCtorEq, yA, yB, uA, uB, uC, uD, uE, uF]
theorem act_of (xs : List PV) (h : ∀ x ∈ xs, ∃ qs, x = .agg qs ∧ qs.map PV.kd = [.bool, .int .i64] ∧ ∀ q ∈ qs, q.wfv) : ∃ t : List FAct, xs = t.map FAct.pv := by
  induction xs with
  | nil => exact ⟨[], rfl⟩
  | cons x r ih =>
    obtain ⟨t, rfl⟩ := ih (fun y hy => h y (List.mem_cons_of_mem _ hy))
    obtain ⟨qs, rfl, hk, hw⟩ := h x List.mem_cons_self
    match qs, hk with
    | [.bool b, .int k n], hk =>
      simp only [List.map_cons, PV.kd, List.cons.injEq, KD.int.injEq] at hk
      obtain ⟨_, rfl, _⟩ := hk
      exact ⟨⟨b, n⟩ :: t, by simp [FAct.pv]⟩
theorem ctKeeps (xs0 : List PV) (l0 : xs0.length ≤ maxLen) (h0 : ∀ x ∈ xs0, ∃ qs, x = .agg qs ∧ qs.map PV.kd = [.bool, .int .i64] ∧ ∀ q ∈ qs, q.wfv) :
    Ct Try.prog 3 (YtjbfcmaiejlnbaaVm.ops [.row xs0]) (.vals [.bool true]) := by
  obtain ⟨l, rfl⟩ := act_of xs0 h0
  exact law_Keeps l (by simpa using l0)
end Go.Proofs.Ytjbfcmaiejlnbaa
