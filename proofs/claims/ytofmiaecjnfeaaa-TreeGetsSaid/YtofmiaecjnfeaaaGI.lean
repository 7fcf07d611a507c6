/- A part of a proof: functions of the program, walked. -/
import Derived.Test.YtofmiaecjnfeaaaGH
set_option linter.unusedVariables false
set_option linter.unusedSimpArgs false
set_option maxRecDepth 8000
namespace Go.Proofs.Ytofmiaecjnfeaaa
open Go Go.Proofs Go.Proofs.YtofmiaecjnfeaaaVm Go.Proofs.Ytofmiaecjnfeaaa.Ty

def cellsOf (x : List UInt8 × List Nd) (w : List Note) : List PV := [.str x.1, .row (x.2.map Nd.pv), .row (w.map Note.pv), .row []]
theorem cellsOf_agg (x : List UInt8 × List Nd) (w : List Note) : ∀ c ∈ cellsOf x w, c.isAgg = false := by simp [cellsOf, PV.isAgg]
def pairsG (lo : List UInt8) (gs : List (List Nd)) : List (List UInt8 × List Nd) := (partLows lo gs).zip gs
def headG (g : List Nd) : List UInt8 × List Nd := (headLow g, g)
theorem pairsG_cons (lo : List UInt8) (g : List Nd) (r : List (List Nd)) : pairsG lo (g :: r) = (lo, g) :: r.map headG := by
  have : ∀ r : List (List Nd), (r.map headLow).zip r = r.map headG := by
    intro r
    induction r with
    | nil => rfl
    | cons x r ih => rw [List.map_cons, List.zip_cons_cons, ih]; rfl
  show (lo, g) :: (r.map headLow).zip r = _
  rw [this]
def remG (lo : List UInt8) (d : Nat) (gs : List (List Nd)) : List (List UInt8 × List Nd) := if d = 0 then pairsG lo gs else gs.map headG
theorem remG_cons (lo : List UInt8) (d : Nat) (g : List Nd) (r : List (List Nd)) : remG lo d (g :: r) = (if d = 0 then lo else headLow g, g) :: remG lo (d + 1) r := by
  unfold remG
  by_cases h : d = 0
  · rw [if_pos h, if_pos h, pairsG_cons, if_neg (by omega)]
  · rw [if_neg h, if_neg h, if_neg (by omega)]; rfl
theorem remG_nil (lo : List UInt8) (d : Nat) : remG lo d [] = [] := by unfold remG; split <;> rfl
theorem cut_bound {L m : Nat} (h : m + 1 ≤ L) : 0 < (L + m) / (m + 1) ∧ (L + m) / (m + 1) ≤ L ∧ m ≤ L - (L + m) / (m + 1) := by
  obtain ⟨h1, h2⟩ := gparts_step (p := m + 1) (n := L) (by omega)
  rw [Nat.add_sub_cancel] at h1 h2
  generalize (L + m) / (m + 1) = k at *
  have e : k * (m + 1) = k * m + k := Nat.mul_succ k m
  have hk1 : 0 < k := by
    rcases Nat.eq_zero_or_pos k with h5 | h5
    · subst h5; omega
    · exact h5
  have hpp : m ≤ k * m := Nat.le_mul_of_pos_left m hk1
  refine ⟨hk1, ?_, ?_⟩
  · rcases Nat.lt_or_ge L k with h5 | h5
    · rcases Nat.lt_or_ge 1 k with h6 | h6
      · have : 2 * m ≤ k * m := Nat.mul_le_mul_right m h6
        omega
      · omega
    · exact h5
  · rcases Nat.lt_or_ge 1 k with h6 | h6
    · have h7 : 2 * m ≤ k * m := Nat.mul_le_mul_right m h6
      omega
    · have : k = 1 := by omega
      subst this; omega
theorem headLow_take {l : List Nd} {k : Nat} (h : 0 < k) : headLow (l.take k) = headLow l := by
  cases l with
  | nil => simp
  | cons x l =>
    cases k with
    | zero => omega
    | succ k => rfl

def IL (C : Ctx) (lo : List UInt8) (ks : List Nd) (w : List Note) (p : List Pair) (m : Nat) (a : Act) (w1 : World) : Prop :=
  ∃ (C1 : Ctx) (cv : Nat → Value) (bs : List Nat) (done : List (List UInt8 × List Nd)) (rest : List Nd), Lk C C1 ∧ (∀ i, C1.pin i = none) ∧ Rel Try.prog C1 (litSt (pst lo ks w p (bs.map ptrV) rest m) (pob (bs.map ptrV)) 1) a w1 cv ∧ bs.Nodup ∧ bs.length = done.length ∧
    (∀ (i b : Nat) (x : List UInt8 × List Nd), bs[i]? = some b → done[i]? = some x → Hid C C1 b (cellsOf x [])) ∧ done ++ remG lo done.length (gparts m rest) = pairsG lo (groups ks) ∧ m ≤ rest.length ∧ rest.length ≤ 100000 ∧ bs.length + m ≤ 100000

theorem eq_bd1 : bd1 = .seq (cA bd1) (cB bd1) := rfl
theorem eq_bd1b : cB bd1 = .seq (.block 1 bb1) (cB (cB bd1)) := rfl
theorem eq_bb1 : bb1 = .seq (cA bb1) (cB bb1) := rfl
theorem eq_bb1b : cB bb1 = .seq (cA (cB bb1)) (cB (cB bb1)) := rfl
theorem eq_bb1c : cB (cB bb1) = .seq (cA (cB (cB bb1))) (cB (cB (cB bb1))) := rfl

theorem loop1_step {C : Ctx} (hn : C.n = Try.f27.ntmps) {lo : List UInt8} {ks : List Nd} {w : List Note} {p : List Pair} {m : Nat} {a : Act} {w1 : World} (hI : IL C lo ks w p (m + 1) a w1) (b : Frame) (cs : List Frame) (hb : b.roundOf = none) (mm : List Item) :
    ∃ a' w', IL C lo ks w p m a' w' ∧ Steps Try.prog (lone (b.atR a (.code bd1 :: .inLoop bd1 :: .inBlock 0 :: mm)) cs w1) (lone (b.atR a' (.code bd1 :: .inLoop bd1 :: .inBlock 0 :: mm)) cs w') := by
  obtain ⟨C1, cv, bs, done, rest, k1, hpin, h, hnd, hlen, hhid, hall, hm, hr, hbl⟩ := hI
  have hn1 : C1.n = Try.f27.ntmps := k1.n.trans hn
  have hL := k1.lvl
  obtain ⟨c1, c2, c3⟩ := cut_bound hm
  have hne : rest ≠ [] := fun e => by rw [e] at hm; simp at hm
  have hg : gparts (m + 1) rest = rest.take ((rest.length + m) / (m + 1)) :: gparts m (rest.drop ((rest.length + m) / (m + 1))) := rfl
  generalize hk : (rest.length + m) / (m + 1) = k at *
  obtain ⟨a1, x1, v1, r1, s1⟩ := V.segSeq (md := .low) (d := cB bd1) 1 hL hpin (by rw [hn1]; exact pw4 lo ks w p (bs.map ptrV) rest m) h b cs hb (.inLoop bd1 :: .inBlock 0 :: mm)
  obtain ⟨a2, x2, v2, r2, s2⟩ := V.segSeq (md := .low) (d := cB bb1) 1 hL hpin (by rw [hn1]; exact pw6 lo ks w p (bs.map ptrV) rest m hr (by omega)) r1 b cs hb (.inBlock 1 :: .code (cB (cB bd1)) :: .inLoop bd1 :: .inBlock 0 :: mm)
  rw [hk] at r2
  obtain ⟨a3, x3, v3, r3, s3⟩ := V.segSeq (md := .low) (d := cB (cB bb1)) 2 hL hpin (by rw [hn1]; exact pw7 lo ks w p (bs.map ptrV) rest m k hne c2) r2 b cs hb (.inBlock 1 :: .code (cB (cB bd1)) :: .inLoop bd1 :: .inBlock 0 :: mm)
  obtain ⟨a4, x4, v4, r4, s4⟩ := V.segSeq (md := .low) (d := cB (cB (cB bb1))) 2 hL hpin (by rw [hn1]; exact pwX lo ks w p (bs.map ptrV) rest m k (rest.take k)) r3 b cs hb (.inBlock 1 :: .code (cB (cB bd1)) :: .inLoop bd1 :: .inBlock 0 :: mm)
  obtain ⟨nb, C2, k2, n2, pin2, r5, hh, hold⟩ := r4.hide k1 (id := 1) (t := 7) (ag := true) (ps := cellsOf (lowOf lo (bs.map ptrV) rest, rest.take k) []) rfl rfl
  obtain ⟨a6, x6, v6, r6, s6⟩ := V.segM (md := .low) 1 k2.lvl pin2 (by rw [n2, hn1]; exact pw10 lo ks w p (bs.map ptrV) rest m k (rest.take k) (ptrV nb) c2 (by rw [List.length_map]; omega)) r5 b cs hb (.inBlock 1 :: .code (cB (cB bd1)) :: .inLoop bd1 :: .inBlock 0 :: mm)
  obtain ⟨a7, x7, v7, r7, s7⟩ := V.segM (md := .low) 1 k2.lvl pin2 (by rw [n2, hn1]; exact pw5 lo ks w p (bs.map ptrV ++ [ptrV nb]) (rest.drop k) m (by omega)) r6 b cs hb (.inLoop bd1 :: .inBlock 0 :: mm)
  have hmap : bs.map ptrV ++ [ptrV nb] = (bs ++ [nb]).map ptrV := by simp
  rw [hmap] at r7
  have hlow : lowOf lo (bs.map ptrV) rest = if done.length = 0 then lo else headLow (rest.take k) := by
    unfold lowOf
    rw [List.length_map, hlen, headLow_take c1]
  refine ⟨a7, x7, ⟨C2, v7, bs ++ [nb], done ++ [(lowOf lo (bs.map ptrV) rest, rest.take k)], rest.drop k, k2, pin2, r7, ?_, by simp [hlen], fun i b' x hb' hx => ?_, ?_, by rw [List.length_drop]; exact c3, by rw [List.length_drop]; omega, by rw [List.length_append, List.length_singleton]; omega⟩, ?_⟩
  · rw [List.nodup_append]
    refine ⟨hnd, by simp, fun b' hb' b2 hb2 => ?_⟩
    simp only [List.mem_singleton] at hb2
    obtain ⟨i, hi, rfl⟩ := List.mem_iff_getElem.1 hb'
    rw [hb2]
    exact (hold _ _ (hhid i _ _ (List.getElem?_eq_getElem hi) (List.getElem?_eq_getElem (by omega)))).2
  · by_cases hi : i < bs.length
    · rw [List.getElem?_append_left hi] at hb'
      rw [List.getElem?_append_left (by omega)] at hx
      exact (hold _ _ (hhid i b' x hb' hx)).1
    · rw [List.getElem?_append_right (by omega)] at hb'
      rw [List.getElem?_append_right (by omega)] at hx
      have h0 : i - bs.length = 0 := by
        have := (List.getElem?_eq_some_iff.1 hb').1
        simp at this; omega
      rw [h0] at hb'
      rw [← hlen, h0] at hx
      simp at hb' hx
      subst hb' hx
      exact hh
  · rw [← hall, hg, remG_cons, hlow, List.length_append, List.length_singleton, List.append_assoc]; rfl
  · refine .trans (by rw [← eq_bd1] at s1; exact s1) ?_
    rw [eq_bd1b]
    refine .head stepR_seq (.head stepR_block ?_)
    refine .trans (by rw [← eq_bb1] at s2; exact s2) ?_
    refine .trans (by rw [← eq_bb1b] at s3; exact s3) ?_
    refine .trans (by rw [← eq_bb1c] at s4; exact s4) ?_
    refine .trans s6 (.head stepR_inBlock ?_)
    exact .trans s7 (.one stepR_inLoop)
theorem loop1 {C : Ctx} (hn : C.n = Try.f27.ntmps) {lo : List UInt8} {ks : List Nd} {w : List Note} {p : List Pair} : ∀ (m : Nat) (a : Act) (w1 : World), IL C lo ks w p m a w1 → ∀ (b : Frame) (cs : List Frame), b.roundOf = none → ∀ (mm : List Item),
    ∃ a' w', (∃ (C1 : Ctx) (cv : Nat → Value) (bs : List Nat), Lk C C1 ∧ (∀ i, C1.pin i = none) ∧ Rel Try.prog C1 (litSt [(0, .val (ndv lo ks w p)), (3, .ref 0)] (pob (bs.map ptrV)) 1) a' w' cv ∧ bs.Nodup ∧ bs.length = (pairsG lo (groups ks)).length ∧ (∀ (i b : Nat) (x : List UInt8 × List Nd), bs[i]? = some b → (pairsG lo (groups ks))[i]? = some x → Hid C C1 b (cellsOf x []))) ∧
      Steps Try.prog (lone (b.atR a (.code bd1 :: .inLoop bd1 :: .inBlock 0 :: mm)) cs w1) (lone (b.atR a' mm) cs w')
  | 0, a, w1, hI, b, cs, hb, mm => by
    obtain ⟨C1, cv, bs, done, rest, k1, hpin, h, hnd, hlen, hhid, hall, hm, hr, hbl⟩ := hI
    have hn1 : C1.n = Try.f27.ntmps := k1.n.trans hn
    obtain ⟨τ, a', w', cv', r1, hs⟩ := V.segW (md := .low) k1.lvl (fun _ => hpin) (by rw [hn1]; exact pwE lo ks w p (bs.map ptrV) rest) h b cs (fun _ => hb) mm
    rcases hs with ⟨hf, _⟩ | ⟨⟨ρ, hM⟩, hs⟩
    · exact hf.elim
    · obtain ⟨cv2, r2⟩ := r1.rename hM 1 (fun i v hv => by rw [hpin i] at hv; cases hv)
      have hd : done = pairsG lo (groups ks) := by
        rw [← hall]; show done = done ++ remG lo done.length []
        rw [remG_nil, List.append_nil]
      exact ⟨a', w', ⟨C1, cv2, bs, k1, hpin, r2, hnd, by rw [hlen, hd], by rw [← hd]; exact hhid⟩, hs⟩
  | m + 1, a, w1, hI, b, cs, hb, mm => by
    obtain ⟨a1, w2, hI1, s1⟩ := loop1_step hn hI b cs hb mm
    obtain ⟨a2, w3, h2, s2⟩ := loop1 hn m a1 w2 hI1 b cs hb mm
    exact ⟨a2, w3, h2, s1.trans s2⟩
end Go.Proofs.Ytofmiaecjnfeaaa
set_option linter.unusedVariables false
set_option linter.unusedSimpArgs false
set_option maxRecDepth 8000
namespace Go.Proofs.Ytofmiaecjnfeaaa
open Nat renaming reduceAdd → uA, reduceLT → uB, reduceEqDiff → uC, reduceLeDiff → uD, reduceSub → uE, reduceMul → uF
open Bool renaming false_eq_true → yA, true_eq_false → yB
open Go Go.Proofs Go.Proofs.YtofmiaecjnfeaaaVm Go.Proofs.Ytofmiaecjnfeaaa.Ty

def fixM (K : Ctx → Prop) : Md := ⟨K, false, true⟩
set_option maxHeartbeats 4000000 in
theorem pw11 (K : Ctx → Prop) (lo : List UInt8) (ks : List Nd) (w : List Note) (p : List Pair) (outs : List Nd) (ho : outs.length ≤ 100000) (hw : w.length ≤ 100000) : V (fixM K) Try.prog Try.f27.ntmps Fl
    [.code (cA (cA (cB prt3))), .stop (fun σ' => σ'.sl 3 = .ref 0 ∧ ∃ q, q ≠ 0 ∧ σ'.sl 68 = .ref q ∧ σ'.ob q = .row 30 ((splitR w (outs.map Nd.low)).map rowN) ∧ σ'.sl 69 = .val (.int .i64 (splitR w (outs.map Nd.low)).length) ∧ σ'.sl 70 = .val (.int .i64 0))]
    (litSt [(0, .val (ndv lo ks w p)), (3, .ref 0)] [.prow (outs.map Nd.pv)] 10) := by
  have c1 := tree_lows outs (by omega)
  have c2 := pend_SplitO w (outs.map Nd.low) (by omega) (by rw [List.length_map]; omega)
  generalize splitR w (outs.map Nd.low) = S at *
  refine V.exec 400 ?_
  simp +contextual (maxSteps := 1000000) only [go_sem, ↓reduceIte, reduceCtorEq, yA, yB, uA, uB, uC, uD, uE, uF, prt3, prt, cA, cB, Try.f27, ndv]
  refine DV.call [0] [15] (by simp only [go_sem, ↓reduceIte, reduceCtorEq, yA, yB, uA, uB, uC, uD, uE, uF]) (by simp [dOK]) ⟨45, [], by simp only [go_sem, ↓reduceIte, reduceCtorEq, yA, yB, uA, uB, uC, uD, uE, uF], ⟨_, rfl, rfl, rfl⟩, .inl ⟨[.row (outs.map Nd.pv)], _, .inl (by simp only [go_sem, ↓reduceIte, reduceCtorEq, yA, yB, uA, uB, uC, uD, uE, uF]), c1, .inr (.inr ⟨9, ((outs.map Nd.low).map PV.str)   , rfl, by simp only [go_sem, ↓reduceIte, reduceCtorEq, yA, yB, uA, uB, uC, uD, uE, uF], rfl, rfl⟩)⟩⟩ (by simp only [go_sem, ↓reduceIte, reduceCtorEq, yA, yB, uA, uB, uC, uD, uE, uF]) (by simp only [go_sem, ↓reduceIte, reduceCtorEq, yA, yB, uA, uB, uC, uD, uE, uF]) (by simp only [go_sem, ↓reduceIte, reduceCtorEq, yA, yB, uA, uB, uC, uD, uE, uF]) (by simp) ?_
  refine DV.exec 400 ?_
  simp +contextual (maxSteps := 1000000) only [go_sem, ↓reduceIte, reduceCtorEq, yA, yB, uA, uB, uC, uD, uE, uF]
  refine DV.call [15] [15, 16] (by simp only [go_sem, ↓reduceIte, reduceCtorEq, yA, yB, uA, uB, uC, uD, uE, uF]) (by simp [dOK]) ⟨44, [], by simp only [go_sem, ↓reduceIte, reduceCtorEq, yA, yB, uA, uB, uC, uD, uE, uF], ⟨_, rfl, rfl, rfl⟩, .inl ⟨[.row (w.map Note.pv), .row ((outs.map Nd.low).map PV.str)], _, .inl (by simp only [go_sem, ↓reduceIte, reduceCtorEq, yA, yB, uA, uB, uC, uD, uE, uF]), c2, .inr (.inr ⟨30, (S.map rowN)   , rfl, by simp only [go_sem, ↓reduceIte, reduceCtorEq, yA, yB, uA, uB, uC, uD, uE, uF], rfl, rfl⟩)⟩⟩ (by simp only [go_sem, ↓reduceIte, reduceCtorEq, yA, yB, uA, uB, uC, uD, uE, uF]) (by simp only [go_sem, ↓reduceIte, reduceCtorEq, yA, yB, uA, uB, uC, uD, uE, uF]) (by simp only [go_sem, ↓reduceIte, reduceCtorEq, yA, yB, uA, uB, uC, uD, uE, uF]) (by simp) ?_
  refine DV.exec 400 ?_
  simp +contextual (maxSteps := 1000000) only [go_sem, ↓reduceIte, reduceCtorEq, yA, yB, uA, uB, uC, uD, uE, uF]
  exact ⟨by kernel_rfl, 16, by decide, rfl, rfl⟩
def l2s (vs : List Value) (L i : Nat) : List (Nat × AV) := [(3, .val (.row (vs.map PV.raw))), (68, .ref 1), (69, .val (.int .i64 L)), (70, .val (.int .i64 i))]
def bxw (x : List UInt8 × List Nd) (w : List Note) : Ob := .box true ((cellsOf x w).map AV.val)
set_option maxHeartbeats 4000000 in
theorem qw2 (K : Ctx → Prop) (b : Nat) (hK : ∀ C, K C → C.pin 0 = some (ptrV b)) (vs : List Value) (S : List (List Note)) (i : Nat) (s : List Note) (x : List UInt8 × List Nd) (hv : vs[i]? = some (ptrV b)) (hs : S[i]? = some s) (hl : S.length ≤ 100000) :
    V (fixM K) Try.prog Try.f27.ntmps Fl
    [.code bd2, .again (fun σ' => σ'.sl 3 = .val (.row (vs.map PV.raw)) ∧ σ'.sl 68 = .ref 1 ∧ σ'.sl 69 = .val (.int .i64 S.length) ∧ σ'.sl 70 = .val (.int .i64 (i + 1 : Nat)) ∧ σ'.ob 0 = bxw x s ∧ σ'.ob 1 = .row 30 (S.map rowN)), .blk 2, .stop Fl]
    (litSt (l2s vs S.length i) [bxw x [], .row 30 (S.map rowN)] 2) := by
  have hi : i < S.length := (List.getElem?_eq_some_iff.1 hs).1
  have hvl : i < vs.length := (List.getElem?_eq_some_iff.1 hv).1
  have hi' : (i : Int) < (S.length : Int) := by omega
  have hvl' : (i : Int) < (vs.length : Int) := by omega
  have hw : IntKind.i64.wrap ((i : Int) + 1) = ((i + 1 : Nat) : Int) := by rw [wrap_small3] <;> omega
  refine V.execS [14] 400 ?_
  simp +contextual (maxSteps := 1000000) only [go_sem, ↓reduceIte, reduceCtorEq, yA, yB, uA, uB, uC, uD, uE, uF, bd2, cI, prt3, prt, cA, cB, Try.f27, l2s, bxw, cellsOf, hi', hs, rowN, List.map_nil]
  refine V.exec 16 ?_
  simp +contextual (maxSteps := 1000000) only [go_sem, ↓reduceIte, reduceCtorEq, yA, yB, uA, uB, uC, uD, uE, uF, hvl', hv]
  change V _ _ _ _ _ _
  refine V.sop _ (SemOp.nilRaw (id := 0) (b := b) hK rfl rfl (by simp only [go_sem, ↓reduceIte, reduceCtorEq, yA, yB, uA, uB, uC, uD, uE, uF]; rfl) (by simp [dOK])) ?_
  rintro _ rfl
  refine V.exec 400 ?_
  simp +contextual (maxSteps := 1000000) only [go_sem, ↓reduceIte, reduceCtorEq, yA, yB, uA, uB, uC, uD, uE, uF, hw]
theorem qw2E (vs : List Value) (S : List (List Note)) : V .low Try.prog Try.f27.ntmps Fl
    [.code bd2, .again Fl, .blk 2, .stop (fun τ => ∃ ρ, Match Try.prog τ ρ [(3, .val (.row (vs.map PV.raw)))] [])] (litSt (l2s vs S.length S.length) [.gone, .row 30 (S.map rowN)] 2) := by
  have hi' : ¬ (S.length : Int) < (S.length : Int) := by omega
  refine V.exec 400 ?_
  simp +contextual (maxSteps := 1000000) only [go_sem, ↓reduceIte, reduceCtorEq, yA, yB, uA, uB, uC, uD, uE, uF, bd2, cI, prt3, prt, cA, cB, Try.f27, l2s, hi']
  exact ⟨[], by simp only [go_sem, ↓reduceIte, reduceCtorEq, yA, yB, uA, uB, uC, uD, uE, uF]; try decide⟩
end Go.Proofs.Ytofmiaecjnfeaaa
set_option linter.unusedVariables false
set_option linter.unusedSimpArgs false
set_option maxRecDepth 8000
namespace Go.Proofs.Ytofmiaecjnfeaaa
open Go Go.Proofs Go.Proofs.YtofmiaecjnfeaaaVm Go.Proofs.Ytofmiaecjnfeaaa.Ty

theorem cell_in {w : World} {ad : Addr} {u : Value} {arr : List Value} {ty : TypeId} (h : w.heap[ad.block]? = some (.cells ⟨arr⟩ ty (0, 0))) (hc : w.cell? ad = some u) : u ∈ arr := by
  unfold World.cell? at hc
  rw [h] at hc
  simp only at hc
  split at hc
  · cases hc
  · exact List.mem_of_getElem? (by simpa using hc)
/-- Notes take no memory of blocks that hold no number. -/
theorem notes_strip {w : World} {F X : Nat → Prop} (hX : ∀ b, X b → ∃ (arr : List Value) (ty : TypeId), w.heap[b]? = some (.cells ⟨arr⟩ ty (0, 0)) ∧ ∀ v ∈ arr, ∀ k n, v ≠ .int k n) {l : List Note} {v : Value} (h : Rep w F (rowN l) v) : Rep w (fun b => F b ∧ ¬ X b) (rowN l) v := by
  unfold rowN at h ⊢
  have hflat : ∀ c ∈ flat (l.map Note.pv), c.isFlat = true := fun c hc => by
    simp only [YtofmiaecjnfeaaaVm.flat, List.mem_flatMap, List.mem_map] at hc
    obtain ⟨y, ⟨x, _, rfl⟩, hc⟩ := hc
    simp only [Note.pv, PV.cells, List.mem_cons, List.not_mem_nil, or_false] at hc
    rcases hc with rfl | rfl | rfl | rfl <;> rfl
  have hfirst : l.map Note.pv = [] ∨ ∃ (x : Note) (r : List PV), flat (l.map Note.pv) = .int .i64 x.kind :: r := by
    cases l with
    | nil => exact .inl rfl
    | cons x r => exact .inr ⟨x, _, rfl⟩
  generalize l.map Note.pv = R at *
  cases h with
  | rowNil => exact .rowNil
  | row _ ad c sz cvs hc hsz hF hl hcell ha hh =>
    refine .row R ad c sz cvs hc hsz ?_ hl hcell ha (fun i p u hp hu => (hh i p u hp hu).flat (hflat p (List.mem_of_getElem? hp)))
    rcases hfirst with h0 | ⟨x, r, h0⟩
    · left; rw [h0]; rfl
    · right
      refine ⟨hF.resolve_left (by rw [h0]; simp), fun hx => ?_⟩
      obtain ⟨arr, ty, h1, h2⟩ := hX _ hx
      have h3 : 0 < cvs.length := by rw [hl, h0]; simp
      have h4 := hh 0 _ cvs[0] (by rw [h0]; rfl) (List.getElem?_eq_getElem h3)
      have h5 := hcell 0 cvs[0] (List.getElem?_eq_getElem h3)
      rw [add_zero'] at h5
      have h6 := cell_in h1 h5
      generalize cvs[0] = u at *
      cases h4
      exact h2 _ h6 _ _ rfl
theorem cells_noint {w : World} {F : Nat → Prop} {x : List UInt8 × List Nd} {ws : List Note} {arr : List Value} (h : Reps w F (cellsOf x ws) arr) : ∀ v ∈ arr, ∀ k n, v ≠ .int k n := by
  intro v hv k n e
  subst e
  obtain ⟨i, hi, e⟩ := List.mem_iff_getElem.1 hv
  have hl : arr.length = 4 := h.1
  have h2 := fun p hp => h.2 i p _ hp (by rw [List.getElem?_eq_getElem hi, e])
  match i, hi with
  | 0, _ => have := h2 _ rfl; cases this
  | 1, _ =>
    have := h2 (.row (x.2.map Nd.pv)) rfl
    generalize x.2.map Nd.pv = R at this
    cases this
  | 2, _ =>
    have := h2 (.row (ws.map Note.pv)) rfl
    generalize ws.map Note.pv = R at this
    cases this
  | 3, _ => have := h2 _ rfl; cases this
  | i + 4, hi => omega

theorem lit_slots {w : World} {F : Nat → Prop} {cv : Nat → Value} {tmps : Array Value} {ls : List (Nat × AV)} {os : List Ob} {ck : Nat} (h : ∀ y ∈ ls, SRep w F cv y.2 (tmps.getD y.1 undef)) : ∀ t, SRep w F cv ((litSt ls os ck).sl t) (tmps.getD t undef) := by
  intro t
  induction ls with
  | nil => trivial
  | cons y ls ih =>
    rw [lit_sl_cons]
    split
    · rename_i e
      rw [e]; exact h y List.mem_cons_self
    · exact ih fun z hz => h z (List.mem_cons_of_mem _ hz)
/-- What is hidden, of all. -/
def Hids (C C1 : Ctx) (bs : List Nat) (xs : List (List UInt8 × List Nd)) (wt : Nat → List Note) : Prop := ∀ (i b : Nat) (x : List UInt8 × List Nd), bs[i]? = some b → xs[i]? = some x → Hid C C1 b (cellsOf x (wt i))
def outN (x : List UInt8 × List Nd) (w : List Note) : Nd := .mk x.1 x.2 w []
theorem outN_pv (x : List UInt8 × List Nd) (w : List Note) : (outN x w).pv = .ptr (.agg (cellsOf x w)) := by rw [Nd.pv_eq]; rfl

/-- The second loop, one round. -/
def IM (C : Ctx) (bs : List Nat) (xs : List (List UInt8 × List Nd)) (S : List (List Note)) (i : Nat) (a : Act) (w1 : World) : Prop :=
  ∃ (C1 : Ctx) (cv : Nat → Value), Lk C C1 ∧ (∀ i, C1.pin i = none) ∧ Rel Try.prog C1 (litSt (l2s (bs.map ptrV) S.length i) [.gone, .row 30 (S.map rowN)] 2) a w1 cv ∧ Hids C C1 bs xs (fun j => if j < i then S.getD j [] else [])

theorem loop2_step {C : Ctx} (hn : C.n = Try.f27.ntmps) {bs : List Nat} {xs : List (List UInt8 × List Nd)} {S : List (List Note)} {i : Nat} {a : Act} {w1 : World} (hnd : bs.Nodup) (hbx : bs.length = xs.length) (hSb : S.length ≤ bs.length) (hSl : S.length ≤ 100000) (hi : i < S.length)
    (hI : IM C bs xs S i a w1) (bf : Frame) (cs : List Frame) (hb : bf.roundOf = none) (mm : List Item) :
    ∃ a' w', IM C bs xs S (i + 1) a' w' ∧ Steps Try.prog (lone (bf.atR a (.code bd2 :: .inLoop bd2 :: .inBlock 2 :: mm)) cs w1) (lone (bf.atR a' (.code bd2 :: .inLoop bd2 :: .inBlock 2 :: mm)) cs w') := by
  obtain ⟨C1, cv, k1, hpin, h, hh⟩ := hI
  have hn1 : C1.n = Try.f27.ntmps := k1.n.trans hn
  obtain ⟨b, hbi⟩ : ∃ b, bs[i]? = some b := ⟨_, List.getElem?_eq_getElem (by omega)⟩
  obtain ⟨x, hxi⟩ : ∃ x, xs[i]? = some x := ⟨_, List.getElem?_eq_getElem (by omega)⟩
  obtain ⟨s, hsi⟩ : ∃ s, S[i]? = some s := ⟨_, List.getElem?_eq_getElem hi⟩
  have hhb := hh i b x hbi hxi
  simp only [Nat.lt_irrefl, if_false] at hhb
  obtain ⟨o1, o2, o3, arr, ty, o4, o5⟩ := hhb.off h
  -- the variable is laid open
  let σ5 : St := litSt (l2s (bs.map ptrV) S.length i) [bxw x [], .row 30 (S.map rowN)] 2
  let cv5 : Nat → Value := fun k => if k = 0 then ptrV b else cv k
  have hob5 : ∀ k, k ≠ 0 → σ5.ob k = (litSt (l2s (bs.map ptrV) S.length i) [.gone, .row 30 (S.map rowN)] 2).ob k := fun k hk => by
    cases k with
    | zero => exact absurd rfl hk
    | succ k => rfl
  have hlv5 : ∀ k b', Live σ5.ob cv5 k b' → (k = 0 ∧ b' = b) ∨ (k ≠ 0 ∧ Live (litSt (l2s (bs.map ptrV) S.length i) [.gone, .row 30 (S.map rowN)] 2).ob cv k b') := by
    intro k b' ⟨g1, g2⟩
    by_cases hk : k = 0
    · subst hk
      have g2 : some b = some b' := g2
      cases g2
      exact .inl ⟨rfl, rfl⟩
    · refine .inr ⟨hk, ?_, ?_⟩
      · rw [← hob5 k hk]; exact g1
      · have e : cv5 k = cv k := if_neg hk
        rw [← e]; exact g2
  have hsl5 : ∀ t, (σ5.sl t) = (litSt (l2s (bs.map ptrV) S.length i) [.gone, .row 30 (S.map rowN)] 2).sl t := fun t => rfl
  obtain ⟨C5, hC5, r5⟩ : ∃ C5 : Ctx, C5 = ⟨w1, FS C1 (litSt (l2s (bs.map ptrV) S.length i) [.gone, .row 30 (S.map rowN)] 2).ob cv w1, fun b' => ∃ i, Live σ5.ob cv5 i b', C1.n, fun k => if k = 0 then some (ptrV b) else none, 0⟩ ∧ Rel Try.prog C5 σ5 a w1 cv5 := ⟨_, rfl, h.rebase (k1.defers h) (σ1 := σ5) (cv1 := cv5) (F := FS C1 (litSt (l2s (bs.map ptrV) S.length i) [.gone, .row 30 (S.map rowN)] 2).ob cv w1) (pin := fun k => if k = 0 then some (ptrV b) else none)
    (fun b' hf => ⟨h.fs_lt hf, fun k hl => by
      rcases hlv5 k b' hl with ⟨rfl, rfl⟩ | ⟨hk, hl⟩
      · exact o1 hf
      · exact h.fs_live hf hl⟩)
    (fun k b' hl => by
      rcases hlv5 k b' hl with ⟨rfl, rfl⟩ | ⟨hk, hl⟩
      · exact o3
      · exact (h.live k b' hl).2)
    (fun k j b' hk hj => by
      rcases hlv5 k b' hk with ⟨e1, e2⟩ | ⟨hk0, hk1⟩
      · rcases hlv5 j b' hj with ⟨e3, _⟩ | ⟨hj0, hj1⟩
        · rw [e1, e3]
        · rw [e2] at hj1; exact absurd hj1 (o2 j)
      · rcases hlv5 j b' hj with ⟨e3, e4⟩ | ⟨hj0, hj1⟩
        · rw [e4] at hk1; exact absurd hk1 (o2 k)
        · exact h.inj k j b' hk1 hj1)
    (fun k => by
      by_cases hk : k = 0
      · subst hk
        refine ⟨b, ty, arr, rfl, o4, by rw [o5.1, List.length_map], fun c hc => ?_, fun j c v hc hv => ?_⟩
        · obtain ⟨p, hp, rfl⟩ := List.mem_map.1 hc
          have := cellsOf_agg x [] p hp
          simp [AV.cell, this]
        · rw [List.getElem?_map] at hc
          cases hp : (cellsOf x [])[j]? with
          | none => rw [hp] at hc; cases hc
          | some p =>
            rw [hp] at hc
            cases hc
            have := o5.2 j p v hp hv
            exact ⟨this.mono (fun _ _ => rfl : Same C1.F0 w1 w1) (fun _ hb => .inl hb), this.oneCell (cellsOf_agg x [] p (List.mem_of_getElem? hp))⟩
      · rw [hob5 k hk]
        have e : cv5 k = cv k := if_neg hk
        exact (h.obs k).mono (fun _ _ => rfl : Same (FS C1 _ cv w1) w1 w1) (fun _ hb => hb) e (fun j hj => by
          cases k with
          | zero => exact absurd rfl hk
          | succ k => cases k with
            | zero => exact hj.elim
            | succ k => exact hj.elim) (fun _ _ _ => rfl))
    (fun t => by
      rw [hsl5]
      refine (h.slots t).mono (fun _ _ => rfl : Same (FS C1 _ cv w1) w1 w1) (fun _ hb => hb) (fun j hj => ?_)
      obtain ⟨y, hy, hm⟩ := lit_ment hj
      simp only [l2s, List.mem_cons, List.not_mem_nil, or_false] at hy
      rcases hy with rfl | rfl | rfl | rfl
      · exact hm.elim
      · have hm : 1 = j := hm
        subst hm; rfl
      · exact hm.elim
      · exact hm.elim)
    (fun t j hj => by
      rw [hsl5] at hj
      by_cases hj0 : j = 0
      · subst hj0; simp [σ5, litSt, bxw]
      · rw [hob5 j hj0]; exact h.ments t j hj)
    (fun k j hj => by
      cases k with
      | zero =>
        obtain ⟨c, hc, hcj⟩ := hj
        obtain ⟨p, hp, rfl⟩ := List.mem_map.1 hc
        exact hcj.elim
      | succ k => cases k with
        | zero => exact hj.elim
        | succ k => exact hj.elim)
    (fun k v hv => by
      split at hv
      · rename_i hk
        cases hv
        subst hk
        exact ⟨by simp [σ5, litSt, bxw], rfl⟩
      · cases hv)⟩
  have k5 : Lk C C5 := by
    subst hC5
    exact ⟨rfl, k1.n, k1.anc' h, fun b' hf => k1.fs hf, fun b' ⟨k, hl⟩ => by
      rcases hlv5 k b' hl with ⟨e1, e2⟩ | ⟨hk0, hk1⟩
      · rw [e2]; exact hhb.new
      · exact k1.live h hk1⟩
  have hpin5 : C5.pin 0 = some (ptrV b) := by subst hC5; rfl
  have hn5 : C5.n = Try.f27.ntmps := by subst hC5; exact hn1
  have hold : ∀ (j b' : Nat) (y : List UInt8 × List Nd), j ≠ i → bs[j]? = some b' → xs[j]? = some y → Hid C C5 b' (cellsOf y (if j < i then S.getD j [] else [])) := fun j b' y hji hbj hyj => by
    have h1 := hh j b' y hbj hyj
    obtain ⟨g1, g2, _⟩ := h1.off h
    subst hC5
    refine h1.next h (fun _ hb => .inl hb) g1 (fun ⟨k, hl⟩ => ?_)
    rcases hlv5 k b' hl with ⟨e1, e2⟩ | ⟨hk0, hk1⟩
    · subst e2
      exact hji ((List.getElem?_inj (List.getElem?_eq_some_iff.1 hbj).1 hnd).1 (hbj.trans hbi.symm))
    · exact g2 k hk1
  obtain ⟨τ, a', w', cv', r6, hs⟩ := V.segW (md := fixM (fun C => C.lvl = 0 ∧ C.pin 0 = some (ptrV b))) ⟨k5.lvl, hpin5⟩ (fun h => by cases h)
    (by rw [hn5]; exact qw2 (fun C => C.lvl = 0 ∧ C.pin 0 = some (ptrV b)) b (fun C h => h.2) (bs.map ptrV) S i s x (by rw [List.getElem?_map, hbi]; rfl) hsi hSl) r5 bf cs (fun h => by cases h) mm
  rcases hs with ⟨⟨t3, t68, t69, t70, b0, b1⟩, hs⟩ | ⟨hf, _⟩
  case inr => exact hf.elim
  let σ6 : St := litSt (l2s (bs.map ptrV) S.length (i + 1)) [.gone, .row 30 (S.map rowN)] 2
  have hlv6 : ∀ k b', Live σ6.ob cv' k b' → k = 1 ∧ Live τ.ob cv' 1 b' := by
    intro k b' ⟨g1, g2⟩
    match k, g1, g2 with
    | 0, g1, _ => cases g1
    | 1, g1, g2 => exact ⟨rfl, by rw [b1]; rfl, g2⟩
    | k + 2, g1, _ => cases g1
  have hcv0 : cv' 0 = ptrV b := (r6.pin 0 _ hpin5).2
  have hl0 : Live τ.ob cv' 0 b := ⟨by rw [b0]; rfl, by rw [hcv0]; rfl⟩
  obtain ⟨C6, hC6, r7⟩ : ∃ C6 : Ctx, C6 = ⟨w', FS C5 τ.ob cv' w', fun b' => ∃ i, Live σ6.ob cv' i b', C5.n, fun _ => none, 0⟩ ∧ Rel Try.prog C6 σ6 a' w' cv' := ⟨_, rfl, r6.rebase (k5.defers r6) (σ1 := σ6) (cv1 := cv') (F := FS C5 τ.ob cv' w') (pin := fun _ => none)
    (fun b' hf => ⟨r6.fs_lt hf, fun k hl => r6.fs_live hf (hlv6 k b' hl).2⟩) (fun k b' hl => (r6.live 1 b' (hlv6 k b' hl).2).2) (fun k j b' hk hj => (hlv6 k b' hk).1.trans (hlv6 j b' hj).1.symm)
    (fun k => by
      match k with
      | 0 => trivial
      | 1 =>
        have := r6.obs 1
        rw [b1] at this
        exact this
      | k + 2 => trivial)
    (lit_slots fun y hy => by
      simp only [l2s, List.mem_cons, List.not_mem_nil, or_false] at hy
      rcases hy with rfl | rfl | rfl | rfl
      · have := r6.slots 3; rw [t3] at this; exact this
      · have := r6.slots 68; rw [t68] at this; exact this
      · have := r6.slots 69; rw [t69] at this; exact this
      · have := r6.slots 70; rw [t70] at this; exact this)
    (fun t j hj => by
      obtain ⟨y, hy, hm⟩ := lit_ment hj
      simp only [l2s, List.mem_cons, List.not_mem_nil, or_false] at hy
      rcases hy with rfl | rfl | rfl | rfl
      · exact hm.elim
      · have hm : 1 = j := hm
        subst hm; simp [σ6, litSt]
      · exact hm.elim
      · exact hm.elim)
    (fun k j hj => by
      match k, hj with
      | 0, hj => exact hj.elim
      | 1, hj => exact hj.elim
      | k + 2, hj => exact hj.elim)
    (fun k v hv => by cases hv)⟩
  have k6 : Lk C C6 := by
    subst hC6
    exact ⟨rfl, k5.n, k5.anc' r6, fun b' hf => k5.fs hf, fun b' ⟨k, hl⟩ => k5.live r6 (hlv6 k b' hl).2⟩
  refine ⟨a', w', ⟨C6, cv', k6, fun _ => by subst hC6; rfl, r7, fun j b' y hbj hyj => ?_⟩, hs.trans (.one stepR_inLoop)⟩
  by_cases hji : j = i
  · subst hji
    rw [hbi] at hbj
    rw [hxi] at hyj
    cases hbj
    cases hyj
    have hw : (if j < j + 1 then S.getD j [] else []) = s := by rw [if_pos (by omega), List.getD_eq_getElem?_getD, hsi]; rfl
    simp only []
    rw [hw]
    have ho := r6.obs 0
    rw [b0] at ho
    obtain ⟨b2, ty2, arr2, q1, q2, q3, q4, q5⟩ := ho
    rw [hcv0] at q1
    have q1 : some (⟨b, 0, none⟩ : Addr) = some ⟨b2, 0, none⟩ := by injection q1
    have q1 : b = b2 := by injection q1 with q1; injection q1
    subst q1
    subst hC6
    refine ⟨hhb.new, (r6.live 0 b hl0).2, fun hf => r6.fs_live hf hl0, fun ⟨k, hl⟩ => ?_, arr2, ty2, q2, by rw [q3, List.length_map], fun i' p v hp hv => ?_⟩
    · have := r6.inj 0 1 b hl0 (hlv6 k b hl).2
      cases this
    · exact (q5 i' (.val p) v (by rw [List.getElem?_map, hp]; rfl) hv).1
  · have h1 := hold j b' y hji hbj hyj
    have hw : (if j < i + 1 then S.getD j [] else []) = (if j < i then S.getD j [] else []) := by
      by_cases hlt : j < i
      · rw [if_pos hlt, if_pos (by omega)]
      · rw [if_neg hlt, if_neg (by omega)]
    simp only []
    rw [hw]
    obtain ⟨g1, g2, _⟩ := h1.off r6
    subst hC6
    exact h1.next r6 (fun _ hb => .inl hb) g1 (fun ⟨k, hl⟩ => g2 1 (hlv6 k b' hl).2)
end Go.Proofs.Ytofmiaecjnfeaaa
set_option linter.unusedVariables false
set_option linter.unusedSimpArgs false
set_option maxRecDepth 8000
namespace Go.Proofs.Ytofmiaecjnfeaaa
open Nat renaming reduceAdd → uA, reduceLT → uB, reduceEqDiff → uC, reduceLeDiff → uD, reduceSub → uE, reduceMul → uF
open Bool renaming false_eq_true → yA, true_eq_false → yB
open Go Go.Proofs Go.Proofs.YtofmiaecjnfeaaaVm Go.Proofs.Ytofmiaecjnfeaaa.Ty

theorem loop2 {C : Ctx} (hn : C.n = Try.f27.ntmps) {bs : List Nat} {xs : List (List UInt8 × List Nd)} {S : List (List Note)} (hnd : bs.Nodup) (hbx : bs.length = xs.length) (hSb : S.length ≤ bs.length) (hSl : S.length ≤ 100000) : ∀ (d i : Nat) (a : Act) (w1 : World), i + d = S.length →
    IM C bs xs S i a w1 → ∀ (bf : Frame) (cs : List Frame), bf.roundOf = none → ∀ (mm : List Item),
    ∃ a' w', (∃ (C1 : Ctx) (cv : Nat → Value), Lk C C1 ∧ Rel Try.prog C1 (litSt [(3, .val (.row ((bs.map ptrV).map PV.raw)))] [] 1) a' w' cv ∧ Hids C C1 bs xs (fun j => S.getD j [])) ∧ Steps Try.prog (lone (bf.atR a (.code bd2 :: .inLoop bd2 :: .inBlock 2 :: mm)) cs w1) (lone (bf.atR a' mm) cs w')
  | 0, i, a, w1, hd, hI, bf, cs, hb, mm => by
    have hi : i = S.length := by omega
    subst hi
    obtain ⟨C1, cv, k1, hpin, h, hh⟩ := hI
    have hn1 : C1.n = Try.f27.ntmps := k1.n.trans hn
    obtain ⟨τ, a', w', cv', r1, hs⟩ := V.segW (md := .low) k1.lvl (fun _ => hpin) (by rw [hn1]; exact qw2E (bs.map ptrV) S) h bf cs (fun _ => hb) mm
    rcases hs with ⟨hf, _⟩ | ⟨⟨ρ, hM⟩, hs⟩
    · exact hf.elim
    · obtain ⟨cv2, r2⟩ := r1.rename hM 1 (fun i v hv => by rw [hpin i] at hv; cases hv)
      refine ⟨a', w', ⟨C1, cv2, k1, r2, fun j b x hbj hxj => ?_⟩, hs⟩
      have := hh j b x hbj hxj
      have e : (if j < S.length then S.getD j [] else []) = S.getD j [] := by
        by_cases hj : j < S.length
        · rw [if_pos hj]
        · rw [if_neg hj, List.getD_eq_getElem?_getD, List.getElem?_eq_none (by omega)]; rfl
      simp only [e] at this
      exact this
  | d + 1, i, a, w1, hd, hI, bf, cs, hb, mm => by
    obtain ⟨a1, w2, hI1, s1⟩ := loop2_step hn hnd hbx hSb hSl (by omega) hI bf cs hb mm
    obtain ⟨a2, w3, h2, s2⟩ := loop2 hn hnd hbx hSb hSl d (i + 1) a1 w2 (by omega) hI1 bf cs hb mm
    exact ⟨a2, w3, h2, s1.trans s2⟩

theorem mk_eq : ∀ (los : List (List UInt8)) (gs : List (List Nd)) (S : List (List Note)), los.length = gs.length → mkParts los gs S = (los.zip gs).mapIdx fun i x => outN x (S.getD i [])
  | [], [], S, _ => rfl
  | lo :: los, g :: gs, S, h => by
    rw [mkParts, mk_eq los gs S.tail (by simpa using h), List.zip_cons_cons, List.mapIdx_cons]
    have e0 : S.headD [] = S.getD 0 [] := by cases S <;> rfl
    have e1 : ∀ i, S.tail.getD i [] = S.getD (i + 1) [] := fun i => by cases S <;> simp [List.getD_eq_getElem?_getD]
    rw [e0]
    simp only [e1]
    rfl
  | [], _ :: _, _, h => by simp at h
  | _ :: _, [], _, h => by simp at h
theorem partLows_len (lo : List UInt8) (gs : List (List Nd)) : (partLows lo gs).length = gs.length := by
  cases gs <;> simp [partLows]
theorem pairsG_low (lo : List UInt8) (gs : List (List Nd)) : ((pairsG lo gs).map fun x => outN x []).map Nd.low = partLows lo gs := by
  rw [List.map_map]
  have : (Nd.low ∘ fun x => outN x []) = Prod.fst := by funext x; rfl
  rw [this]
  exact List.map_fst_zip (by rw [partLows_len]; exact Nat.le_refl _)

theorem eq_prt : prt = .seq (cA prt) (cB prt) := rfl
theorem eq_prtb : cB prt = .seq (cA (cB prt)) (cB (cB prt)) := rfl
theorem eq_prtc : cB (cB prt) = .seq (cA (cB (cB prt))) prt3 := rfl
theorem eq_prt3 : prt3 = .seq (cA prt3) (cB prt3) := rfl
theorem eq_prt3a : cA prt3 = .seq (cA (cA prt3)) (.block 0 (.loop bd1)) := rfl
theorem eq_prt3b : cB prt3 = .seq (cA (cB prt3)) (cB (cB prt3)) := rfl
theorem eq_prt3c : cA (cB prt3) = .seq (cA (cA (cB prt3))) (.block 2 (.loop bd2)) := rfl

theorem pwR (outs : List Nd) (n : Nat) (hn : n = Try.f27.ntmps) : V .pln Try.prog n (RetSt Try.prog Try.f27.results.toList (.vals [.row (outs.map Nd.pv)])) [.code (cB (cB prt3))] (litSt [(3, .val (.row (outs.map Nd.pv)))] [] 1) := by
  subst hn
  refine V.exec 400 ?_
  simp +contextual (maxSteps := 1000000) only [go_sem, ↓reduceIte, reduceCtorEq, yA, yB, uA, uB, uC, uD, uE, uF, prt3, prt, cA, cB, Try.f27]

set_option maxHeartbeats 4000000 in
theorem tree_parts (lo : List UInt8) (ks : List Nd) (w : List Note) (p : List Pair) (hk : ks.length ≤ 100000) (hw : w.length ≤ 100000) : Ct Try.prog 27 (YtofmiaecjnfeaaaVm.ops [ndv lo ks w p]) (.vals [.row ((partsN lo ks w).map Nd.pv)]) := by
  refine Ct.of_sem (fn := Try.f27) (c := prt) Try.func27 rfl (by simp [YtofmiaecjnfeaaaVm.ops, Try.f27]) ?_
  intro C a w0 cv hlvl hn hpin hd hr bf cs hb
  have hno : ∀ i b, ¬ Live (initSt (YtofmiaecjnfeaaaVm.ops [ndv lo ks w p])).ob cv i b := fun i b ⟨g1, _⟩ => by
    match i, g1 with
    | 0, g1 => cases g1
    | i + 1, g1 => cases g1
  obtain ⟨C1, hC1, r0⟩ : ∃ C1 : Ctx, C1 = ⟨w0, FS C (initSt (YtofmiaecjnfeaaaVm.ops [ndv lo ks w p])).ob cv w0, fun b => ∃ i, Live (initSt (YtofmiaecjnfeaaaVm.ops [ndv lo ks w p])).ob cv i b, C.n, fun _ => none, 0⟩ ∧ Rel Try.prog C1 (initSt (YtofmiaecjnfeaaaVm.ops [ndv lo ks w p])) a w0 cv :=
    ⟨_, rfl, hr.rebase hd (σ1 := initSt (YtofmiaecjnfeaaaVm.ops [ndv lo ks w p])) (cv1 := cv) (fun b hf => ⟨hr.fs_lt hf, fun i hl => hr.fs_live hf hl⟩) (fun i b hl => (hr.live i b hl).2) hr.inj hr.obs hr.slots hr.ments hr.mento (fun i v hv => by cases hv)⟩
  have k1 : Lk C C1 := by
    subst hC1
    refine ⟨rfl, rfl, hr.anc, fun b hf => ?_, fun b ⟨i, hl⟩ => absurd hl (hno i b)⟩
    rcases hf with hf | hf
    · exact .inl hf
    · exact .inr hf.1
  have hpin1 : ∀ i, C1.pin i = none := fun i => by subst hC1; rfl
  have hn1 : C1.n = Try.f27.ntmps := k1.n.trans hn
  obtain ⟨a1, x1, v1, r1, s1⟩ := V.segSeq (md := .low) (d := cB prt) 1 k1.lvl hpin1 (by rw [hn1]; exact pw0 (ndv lo ks w p)) r0 bf cs hb []
  obtain ⟨a2, x2, v2, r2, s2⟩ := V.segSeq (md := .low) (d := cB (cB prt)) 1 k1.lvl hpin1 (by rw [hn1]; exact pw1 (ndv lo ks w p)) r1 bf cs hb []
  obtain ⟨a3, x3, v3, r3, s3⟩ := V.segSeq (md := .low) (d := prt3) 1 k1.lvl hpin1 (by rw [hn1]; exact pw2 lo ks w p) r2 bf cs hb []
  obtain ⟨a4, x4, v4, r4, s4⟩ := V.segSeq (md := .low) (d := .block 0 (.loop bd1)) 1 k1.lvl hpin1 (by rw [hn1]; exact pw3 lo ks w p hk) r3 bf cs hb [.code (cB prt3)]
  have hIL : IL C lo ks w p ((ks.length + 3) / 4) a4 x4 := ⟨C1, v4, [], [], ks, k1, hpin1, r4, .nil, rfl, fun i b x hb' => by simp at hb', rfl, by omega, hk, by simp; omega⟩
  obtain ⟨a5, x5, ⟨C2, v5, bs, k2, pin2, r5, hnd, hlen, hhid⟩, s5⟩ := loop1 hn _ a4 x4 hIL bf cs hb [.code (cB prt3)]
  have hn2 : C2.n = Try.f27.ntmps := k2.n.trans hn
  obtain ⟨xs, hxs⟩ : ∃ xs, xs = pairsG lo (groups ks) := ⟨_, rfl⟩
  rw [← hxs] at hlen hhid
  obtain ⟨outs, houts⟩ : ∃ outs : List Nd, outs = xs.map fun x => outN x [] := ⟨_, rfl⟩
  have hxl : xs.length = (groups ks).length := by rw [hxs, pairsG, List.length_zip, partLows_len, Nat.min_self]
  have hgl := (groups_spec ks).2.1
  have hol : outs.length = xs.length := by rw [houts, List.length_map]
  have hlows : outs.map Nd.low = partLows lo (groups ks) := by rw [houts, hxs]; exact pairsG_low lo (groups ks)
  -- the nodes are laid open
  have h' := (r5.pub (.ref 0)).1
  have epub : (litSt [(0, .val (ndv lo ks w p)), (3, .ref 0)] (pob (bs.map ptrV)) 1).pub (.ref 0) = (litSt [(0, .val (ndv lo ks w p)), (3, .ref 0)] (pob (bs.map ptrV)) 1).setOb 0 (.prow ((bs.map ptrV).map PV.raw)) := rfl
  rw [epub] at h'
  obtain ⟨σp, hσp⟩ : ∃ σp : St, σp = (litSt [(0, .val (ndv lo ks w p)), (3, .ref 0)] (pob (bs.map ptrV)) 1).setOb 0 (.prow ((bs.map ptrV).map PV.raw)) := ⟨_, rfl⟩
  rw [← hσp] at h'
  have hraw : Rep x5 (FS C2 σp.ob v5 x5) (.row ((bs.map ptrV).map PV.raw)) (v5 0) := by
    have := h'.obs 0
    rw [hσp] at this ⊢
    exact this
  have hoff : ∀ b, b ∈ bs → ∃ (x : List UInt8 × List Nd), Hid C C2 b (cellsOf x []) := fun b hb' => by
    obtain ⟨i, hi, rfl⟩ := List.mem_iff_getElem.1 hb'
    exact ⟨xs[i]'(by omega), hhid i _ _ (List.getElem?_eq_getElem hi) (List.getElem?_eq_getElem (by omega))⟩
  obtain ⟨σu, hσu⟩ : ∃ σu : St, σu = litSt [(0, .val (ndv lo ks w p)), (3, .ref 0)] [.prow (outs.map Nd.pv)] 10 := ⟨_, rfl⟩
  have hnou : ∀ i b, ¬ Live σu.ob v5 i b := fun i b ⟨g1, _⟩ => by
    rw [hσu] at g1
    match i, g1 with
    | 0, g1 => cases g1
    | i + 1, g1 => cases g1
  obtain ⟨C3, hC3, r6⟩ : ∃ C3 : Ctx, C3 = ⟨x5, fun b => FS C2 σp.ob v5 x5 b ∨ b ∈ bs, fun b => ∃ i, Live σu.ob v5 i b, C2.n, fun k => if k = 0 then some (v5 0) else none, 0⟩ ∧ Rel Try.prog C3 σu a5 x5 v5 :=
    ⟨_, rfl, h'.rebase (k2.defers h') (σ1 := σu) (cv1 := v5)
      (fun b hf => ⟨by
        rcases hf with hf | hf
        · exact h'.fs_lt hf
        · obtain ⟨x, hx⟩ := hoff b hf
          exact (hx.off h').2.2.1, fun i hl => hnou i b hl⟩)
      (fun i b hl => absurd hl (hnou i b)) (fun i j b hi hj => absurd hi (hnou i b))
      (fun i => by
        rw [hσu]
        match i with
        | 0 =>
          show Rep x5 _ (.row (outs.map Nd.pv)) (v5 0)
          refine rawRow hraw (fun _ hb => .inl hb) (by simp; omega) (fun y hy => ?_) (fun j v y hv hy => ?_)
          · obtain ⟨n, _, rfl⟩ := List.mem_map.1 hy
            exact ⟨Nd.pv_cells n, Nd.pv_isAgg n⟩
          · rw [List.getElem?_map] at hv hy
            cases hbj : bs[j]? with
            | none => rw [hbj] at hv; cases hv
            | some b =>
              rw [hbj] at hv
              cases hv
              obtain ⟨x, hx⟩ : ∃ x, xs[j]? = some x := ⟨_, List.getElem?_eq_getElem (by rw [← hlen]; exact (List.getElem?_eq_some_iff.1 hbj).1)⟩
              rw [houts, List.getElem?_map, hx] at hy
              cases hy
              show Rep x5 _ (outN x []).pv _
              rw [outN_pv]
              exact (hhid j b x hbj hx).ptr h' (fun _ hb => .inl (.inl hb)) (.inr (List.mem_of_getElem? hbj)) (cellsOf_agg x [])
        | i + 1 => trivial)
      (fun t => by
        have := h'.slots t
        have e : σp.sl t = σu.sl t := by rw [hσp, hσu]; rfl
        rw [e] at this
        exact this.mono (fun _ _ => rfl : Same (FS C2 σp.ob v5 x5) x5 x5) (fun _ hb => .inl hb) (fun _ _ => rfl))
      (fun t i hi => by
        have e : σp.sl t = σu.sl t := by rw [hσp, hσu]; rfl
        rw [← e] at hi
        have := h'.ments t i hi
        rw [hσp] at this
        rw [hσu]
        match i, this with
        | 0, _ => simp [litSt]
        | i + 1, this => exact this)
      (fun j i hi => by
        rw [hσu] at hi
        match j, hi with
        | 0, hi => exact hi.elim
        | j + 1, hi => exact hi.elim)
      (fun k v hv => by
        split at hv
        · rename_i hk0
          cases hv
          subst hk0
          exact ⟨by rw [hσu]; simp [litSt], rfl⟩
        · cases hv)⟩
  have hF3 : ∀ b, C3.F0 b ↔ FS C2 σp.ob v5 x5 b ∨ b ∈ bs := fun b => by subst hC3; exact Iff.rfl
  have k3 : Lk C C3 := by
    subst hC3
    refine ⟨rfl, k2.n, k2.anc' h', fun b hf => ?_, fun b ⟨i, hl⟩ => absurd hl (hnou i b)⟩
    rcases hf with hf | hf
    · exact k2.fs hf
    · obtain ⟨x, hx⟩ := hoff b hf
      exact .inr hx.new
  have hw3 : C3.w0 = x5 := by subst hC3; rfl
  have hpin3 : C3.pin 0 = some (v5 0) := by subst hC3; rfl
  have hn3 : C3.n = Try.f27.ntmps := k3.n.trans hn
  obtain ⟨τ, a7, x7, v7, ⟨t3, q, hq0, t68, obq, t69, t70⟩, r7, s7⟩ := V.seg (md := fixM (fun C => C.lvl = 0)) k3.lvl (fun h => by cases h) (by rw [hn3]; exact pw11 (fun C => C.lvl = 0) lo ks w p outs (by omega) hw) (by rw [← hσu]; exact r6) bf cs (fun h => by cases h) (.code (.block 2 (.loop bd2)) :: [.code (cB (cB prt3))])
  obtain ⟨S, hS⟩ : ∃ S, S = splitR w (outs.map Nd.low) := ⟨_, rfl⟩
  rw [← hS] at obq t69
  have hSl : S.length ≤ outs.length := by
    rw [hS]
    have := splitR_len w (outs.map Nd.low)
    rwa [List.length_map] at this
  have hcv0 : v7 0 = v5 0 := (r7.pin 0 _ hpin3).2
  have hsame : Same C3.F0 x5 x7 := by
    have := r7.sameF0
    rwa [hw3] at this
  have hmem : ∀ b, b ∈ bs → x7.heap[b]? = x5.heap[b]? := fun b hb' => hsame b ((hF3 b).2 (.inr hb'))
  have hnF : ∀ b, b ∈ bs → ¬ FS C2 σp.ob v5 x5 b := fun b hb' => by
    obtain ⟨x, hx⟩ := hoff b hb'
    exact (hx.off h').1
  -- and hidden again
  obtain ⟨σ4, hσ4⟩ : ∃ σ4 : St, σ4 = litSt (l2s (bs.map ptrV) S.length 0) [.gone, .row 30 (S.map rowN)] 2 := ⟨_, rfl⟩
  obtain ⟨cv4, hcv4⟩ : ∃ cv4 : Nat → Value, cv4 = fun k => if k = 1 then v7 q else v7 k := ⟨_, rfl⟩
  have hcv41 : cv4 1 = v7 q := by rw [hcv4]; rfl
  have hlv4 : ∀ k b', Live σ4.ob cv4 k b' → k = 1 ∧ Live τ.ob v7 q b' := by
    intro k b' ⟨g1, g2⟩
    rw [hσ4] at g1
    match k, g1, g2 with
    | 0, g1, _ => cases g1
    | 1, g1, g2 => exact ⟨rfl, by rw [obq]; rfl, by rw [← hcv41]; exact g2⟩
    | k + 2, g1, _ => cases g1
  have hFb : ∀ b, b ∈ bs → FS C3 τ.ob v7 x7 b := fun b hb' => .inl ((hF3 b).2 (.inr hb'))
  obtain ⟨C4, hC4, r8⟩ : ∃ C4 : Ctx, C4 = ⟨x7, fun b => FS C3 τ.ob v7 x7 b ∧ ¬ b ∈ bs, fun b => ∃ i, Live σ4.ob cv4 i b, C3.n, fun _ => none, 0⟩ ∧ Rel Try.prog C4 σ4 a7 x7 cv4 :=
    ⟨_, rfl, r7.rebase (k3.defers r7) (σ1 := σ4) (cv1 := cv4)
      (fun b hf => ⟨r7.fs_lt hf.1, fun i hl => r7.fs_live hf.1 (hlv4 i b hl).2⟩) (fun i b hl => (r7.live q b (hlv4 i b hl).2).2) (fun i j b hi hj => (hlv4 i b hi).1.trans (hlv4 j b hj).1.symm)
      (fun i => by
        rw [hσ4]
        match i with
        | 0 => trivial
        | 1 =>
          show OwnRow Try.prog x7 _ (cv4 1) 30 (S.map rowN)
          rw [hcv41]
          have ho := r7.obs q
          rw [obq] at ho
          obtain ⟨sz, cells, g1, g2, g3, g4, g5, g6⟩ := ho
          refine ⟨sz, cells, g1, g2, g3, g4, ⟨g5.1, fun j y v hy hv => ?_⟩, g6⟩
          have hfl : flat (S.map rowN) = S.map rowN := flat_one fun y hy => by
            obtain ⟨s, _, rfl⟩ := List.mem_map.1 hy; rfl
          have h1 := g5.2 j y v hy hv
          rw [hfl, List.getElem?_map] at hy
          cases hs : S[j]? with
          | none => rw [hs] at hy; cases hy
          | some s =>
            rw [hs] at hy
            cases hy
            exact notes_strip (X := fun b => b ∈ bs) (fun b hb' => by
              obtain ⟨x, hx⟩ := hoff b hb'
              obtain ⟨_, _, _, arr, ty, e1, e2⟩ := hx.off h'
              exact ⟨arr, ty, by rw [hmem b hb']; exact e1, cells_noint e2⟩) h1
        | i + 2 => trivial)
      (by
        rw [hσ4]
        refine lit_slots fun y hy => ?_
        simp only [l2s, List.mem_cons, List.not_mem_nil, or_false] at hy
        rcases hy with rfl | rfl | rfl | rfl
        · have h3 := r7.slots 3
          rw [t3] at h3
          have h3 : a7.tmps.getD 3 undef = v7 0 := h3
          show Rep x7 _ (.row _) (a7.tmps.getD 3 undef)
          rw [h3, hcv0]
          exact hraw.mono (fun b hb' => hsame b ((hF3 b).2 (.inl hb'))) (fun b hb' => ⟨.inl ((hF3 b).2 (.inl hb')), fun hin => hnF b hin hb'⟩)
        · have h3 := r7.slots 68
          rw [t68] at h3
          have h3 : a7.tmps.getD 68 undef = v7 q := h3
          show a7.tmps.getD 68 undef = cv4 1
          rw [h3, hcv41]
        · have h3 := r7.slots 69
          rw [t69] at h3
          have h3 : Rep x7 _ _ _ := h3
          exact h3.flat rfl
        · have h3 := r7.slots 70
          rw [t70] at h3
          have h3 : Rep x7 _ _ _ := h3
          exact h3.flat rfl)
      (fun t i hi => by
        rw [hσ4] at hi
        obtain ⟨y, hy, hm⟩ := lit_ment hi
        simp only [l2s, List.mem_cons, List.not_mem_nil, or_false] at hy
        rcases hy with rfl | rfl | rfl | rfl
        · exact hm.elim
        · have hm : 1 = i := hm
          subst hm; rw [hσ4]; simp [litSt]
        · exact hm.elim
        · exact hm.elim)
      (fun j i hi => by
        rw [hσ4] at hi
        match j, hi with
        | 0, hi => exact hi.elim
        | 1, hi => exact hi.elim
        | j + 2, hi => exact hi.elim)
      (fun k v hv => by cases hv)⟩
  have k4 : Lk C C4 := by
    subst hC4
    exact ⟨rfl, k3.n, k3.anc' r7, fun b hf => k3.fs hf.1, fun b ⟨i, hl⟩ => k3.live r7 (hlv4 i b hl).2⟩
  have hIM : IM C bs xs S 0 a7 x7 := by
    refine ⟨C4, cv4, k4, fun _ => by subst hC4; rfl, by rw [← hσ4]; exact r8, fun j b x hbj hxj => ?_⟩
    have hh := hhid j b x hbj hxj
    have hbm := List.mem_of_getElem? hbj
    obtain ⟨_, _, _, arr, ty, e1, e2⟩ := hh.off h'
    have hlt := r7.fs_lt (hFb b hbm)
    have hnl : ∀ i, ¬ Live τ.ob v7 i b := fun i => r7.fs_live (hFb b hbm)
    subst hC4
    refine ⟨hh.new, hlt, fun hf => hf.2 hbm, fun ⟨i, hl⟩ => hnl q (hlv4 i b hl).2, arr, ty, by rw [hmem b hbm]; exact e1, e2.mono (fun b' hb' => hsame b' ((hF3 b').2 (.inl (.inl hb')))) (fun b' hb' => ⟨.inl ((hF3 b').2 (.inl (.inl hb'))), fun hin => hnF b' hin (.inl hb')⟩)⟩
  obtain ⟨a9, x9, ⟨C9, v9, k9, r9, hh9⟩, s9⟩ := loop2 hn hnd hlen (by omega) (by omega) S.length 0 a7 x7 (by omega) hIM bf cs hb [.code (cB (cB prt3))]
  -- back
  obtain ⟨fin, hfin⟩ : ∃ fin : List Nd, fin = xs.mapIdx fun i x => outN x (S.getD i []) := ⟨_, rfl⟩
  have hfl : fin.length = xs.length := by rw [hfin, List.length_mapIdx]
  have hres : partsN lo ks w = fin := by
    rw [hfin, partsN, mk_eq _ _ _ (partLows_len lo (groups ks)), hxs, hS, hlows]; rfl
  have r10 : Rel Try.prog C (litSt [(3, .val (.row (fin.map Nd.pv)))] [] 1) a9 x9 v9 := by
    refine r9.land hr.f0 hr.o0 hpin k9 (F := fun b => FS C9 (litSt [(3, .val (.row ((bs.map ptrV).map PV.raw)))] [] 1).ob v9 x9 b ∨ b ∈ bs) (fun b hf => ?_) (fun i => rfl) (fun i => trivial) (lit_slots fun y hy => ?_) (fun t i hi => ?_) (fun j i hi => hi.elim)
    · rcases hf with hf | hf
      · exact ⟨r9.fs_lt hf, k9.fs hf⟩
      · obtain ⟨i, hi, rfl⟩ := List.mem_iff_getElem.1 hf
        have hh := hh9 i _ (xs[i]'(by omega)) (List.getElem?_eq_getElem hi) (List.getElem?_eq_getElem (by omega))
        exact ⟨(hh.off r9).2.2.1, .inr hh.new⟩
    · simp only [List.mem_cons, List.not_mem_nil, or_false] at hy
      subst hy
      have h3 := r9.slots 3
      have h3 : Rep x9 (FS C9 (litSt [(3, .val (.row ((bs.map ptrV).map PV.raw)))] [] 1).ob v9 x9) (.row ((bs.map ptrV).map PV.raw)) (a9.tmps.getD 3 undef) := h3
      show Rep x9 _ (.row (fin.map Nd.pv)) (a9.tmps.getD 3 undef)
      refine rawRow h3 (fun _ hb => .inl hb) (by simp; omega) (fun y hy => ?_) (fun j v y hv hy => ?_)
      · obtain ⟨n, _, rfl⟩ := List.mem_map.1 hy
        exact ⟨Nd.pv_cells n, Nd.pv_isAgg n⟩
      · rw [List.getElem?_map] at hv hy
        cases hbj : bs[j]? with
        | none => rw [hbj] at hv; cases hv
        | some b =>
          rw [hbj] at hv
          cases hv
          obtain ⟨x, hx⟩ : ∃ x, xs[j]? = some x := ⟨_, List.getElem?_eq_getElem (by rw [← hlen]; exact (List.getElem?_eq_some_iff.1 hbj).1)⟩
          rw [hfin, List.getElem?_mapIdx, hx] at hy
          cases hy
          show Rep x9 _ (outN x (S.getD j [])).pv _
          rw [outN_pv]
          exact (hh9 j b x hbj hx).ptr r9 (fun _ hb => .inl (.inl hb)) (.inr (List.mem_of_getElem? hbj)) (cellsOf_agg x _)
    · obtain ⟨y, hy, hm⟩ := lit_ment hi
      simp only [List.mem_cons, List.not_mem_nil, or_false] at hy
      subst hy; exact hm.elim
  obtain ⟨σ', a', w', cv', todo, ⟨hR, hlv⟩, r11, s11⟩ := V.sound (md := .pln) (Z := fun σ todo => RetSt Try.prog Try.f27.results.toList (.vals [.row (fin.map Nd.pv)]) σ ∧ leaves true todo) hlvl (fun _ => hpin) (fun _ _ h1 h2 => ⟨h1, h2⟩) (pwR fin C.n hn) [.code (cB (cB prt3))] (.code _ .nil) a9 x9 v9 r10 bf cs (fun _ => hb)
  rw [hres]
  refine ⟨σ', a', w', cv', todo, hR, hlv, r11, ?_⟩
  refine .trans (by rw [← eq_prt] at s1; exact s1) ?_
  refine .trans (by rw [← eq_prtb] at s2; exact s2) ?_
  refine .trans (by rw [← eq_prtc] at s3; exact s3) ?_
  rw [eq_prt3]
  refine .head stepR_seq ?_
  refine .trans (by rw [← eq_prt3a] at s4; exact s4) ?_
  refine .head stepR_block (.head stepR_loop ?_)
  refine .trans s5 ?_
  rw [eq_prt3b]
  refine .head stepR_seq ?_
  rw [eq_prt3c]
  refine .head stepR_seq ?_
  refine .trans s7 ?_
  refine .head stepR_block (.head stepR_loop ?_)
  exact .trans s9 s11
end Go.Proofs.Ytofmiaecjnfeaaa
set_option linter.unusedVariables false
set_option linter.unusedSimpArgs false
set_option maxRecDepth 8000
namespace Go.Proofs.Ytofmiaecjnfeaaa
open Nat renaming reduceAdd → uA, reduceLT → uB, reduceEqDiff → uC, reduceLeDiff → uD, reduceSub → uE, reduceMul → uF
open Bool renaming false_eq_true → yA, true_eq_false → yB
open Go Go.Proofs Go.Proofs.YtofmiaecjnfeaaaVm Go.Proofs.Ytofmiaecjnfeaaa.Ty

/-- What put does, as far as a height. -/
def PutCt (h B : Nat) : Prop := ∀ hi n ns, WF h hi n → notesOk ns → (∀ x ∈ ns, In n.low hi x.key) → n.mass + ns.length ≤ B → Ct Try.prog 25 (YtofmiaecjnfeaaaVm.ops [n.pv, .row (ns.map Note.pv)]) (.vals [.row ((putN h n ns).map Nd.pv)])
noncomputable def fls : Code := match Try.f43.body with
  | some c => c
  | none => .skip
def mbx (lo : List UInt8) (w : List Note) : Ob := .box true [.val (.str lo), .ref 1, .val (.row (w.map Note.pv)), .val (.row [])]

/-- What a flush leaves. -/
def FlR (lo : List UInt8) (w : List Note) (ks : List Nd) (σ' : St) : Prop := ∃ q, q ≠ 0 ∧ σ'.ob 0 = .box true [.val (.str lo), .ref q, .val (.row (w.map Note.pv)), .val (.row [])] ∧ σ'.ob q = .row 26 (ks.map Nd.pv)
set_option maxRecDepth 20000 in
set_option maxHeartbeats 16000000 in
theorem flush_walk {h B : Nat} (hB : B ≤ 10000) (hput : PutCt h B) {lo : List UInt8} {hi : Option (List UInt8)} {ks : List Nd} {w : List Note} (d : DI h lo hi ks w) (hw : w ≠ []) (hm : Nd.masss ks + w.length ≤ B) :
    V (fixM fun C => C.lvl = 0) Try.prog Try.f43.ntmps (FlR lo (flushN (putN h) ks w).2 (flushN (putN h) ks w).1)
    [.code fls] (litSt [(0, .adr 0 0)] [mbx lo w, .row 26 (ks.map Nd.pv)] 10) := by
  obtain ⟨e1, e2, e3, e4⟩ := d.split
  obtain ⟨k1, k2⟩ := headLow_of d.head
  have hkl := masss_len ks
  have hlen : 0 < ks.length := List.length_pos_iff.2 k1
  have c1 := tree_lows ks (by omega)
  have c2 := pend_Most w (ks.map Nd.low) (by omega) (by rw [List.length_map]; omega)
  have c3 := pend_SplitO w (ks.map Nd.low) (by omega) (by rw [List.length_map]; omega)
  have hilt : mostV w (ks.map Nd.low) < ks.length := by
    rw [mostV, e1, ← e4]
    exact bestV_lt _ _ (Nat.le_refl _) (by omega)
  have hSl : (splitR w (ks.map Nd.low)).length = ks.length := by rw [e1]; exact e4
  have hflat : ∀ y ∈ (ks.map Nd.low).map PV.str, ∀ c ∈ y.cells, c.isFlat = true := fun y hy c hc => by
    obtain ⟨s, _, rfl⟩ := List.mem_map.1 hy
    simp only [PV.cells, List.mem_singleton] at hc
    subst hc; rfl
  have f1 : (flushN (putN h) ks w).1 = spliceN (putN h (ks.getD (mostV w (ks.map Nd.low)) (.mk [] [] [] [])) ((splitR w (ks.map Nd.low)).getD (mostV w (ks.map Nd.low)) [])) ks (mostV w (ks.map Nd.low)) := rfl
  have f2 : (flushN (putN h) ks w).2 = ((splitR w (ks.map Nd.low)).set (mostV w (ks.map Nd.low)) []).flatten := rfl
  have hSf : (splitR w (ks.map Nd.low)).flatten = w := by rw [e1]; exact e2
  rw [← e1] at e3
  rw [f1, f2]
  generalize splitR w (ks.map Nd.low) = S at *
  generalize mostV w (ks.map Nd.low) = i at *
  obtain ⟨k, hk⟩ : ∃ k, ks[i]? = some k := ⟨_, List.getElem?_eq_getElem hilt⟩
  obtain ⟨s, hs⟩ : ∃ s, S[i]? = some s := ⟨_, List.getElem?_eq_getElem (by omega)⟩
  have hkd : ks.getD i (.mk [] [] [] []) = k := by rw [List.getD_eq_getElem?_getD, hk]; rfl
  have hsd : S.getD i [] = s := by rw [List.getD_eq_getElem?_getD, hs]; rfl
  rw [hkd, hsd]
  have hsub : s.Sublist w := by rw [← hSf]; exact List.sublist_flatten_of_mem (List.mem_of_getElem? hs)
  have hkm := mass_mem (List.mem_of_getElem? hk)
  have hsl := hsub.length_le
  have hwo := (waitOk_iff w).1 d.wok
  have hks : ks = ks.take i ++ k :: ks.drop (i + 1) := by rw [← drop_of_get hk, List.take_append_drop]
  have hSS : S = S.take i ++ s :: S.drop (i + 1) := by rw [← drop_of_get hs, List.take_append_drop]
  have hseg2 := d.seg
  rw [hks] at hseg2
  have e3' := e3
  rw [hks, hSS] at e3'
  have hwk := ((seg_app _ _ hi).1 hseg2).2.1
  have hsin := ((segN_app _ _ _ _ hi (by simp [hSl])).1 e3').2.1
  have c4 := hput _ k s hwk (fun x hx => hwo.2 x (hsub.subset hx)) hsin (by omega)
  have pm := (put_spec h _ k s hwk (fun x hx => hwo.2 x (hsub.subset hx)) hsin).mass
  have hml := masss_len (putN h k s)
  have hi' : (i : Int) < (ks.length : Int) := by omega
  have hiS : (i : Int) < (S.length : Int) := by omega
  have hpc : ∀ l : List Nd, ∀ x ∈ l.map Nd.pv, x.cells.length = 1 := fun l x hx => by
    obtain ⟨n, _, rfl⟩ := List.mem_map.1 hx
    rw [Nd.pv_cells]; rfl
  generalize putN h k s = M at *
  refine V.exec 400 ?_
  simp +contextual (maxSteps := 1000000) only [go_sem, ↓reduceIte, reduceCtorEq, yA, yB, uA, uB, uC, uD, uE, uF, fls, Try.f43, mbx]
  refine V.call rfl rfl (by simp [dOK]) ⟨45, [], by simp only [go_sem, ↓reduceIte, reduceCtorEq, yA, yB, uA, uB, uC, uD, uE, uF], ⟨_, rfl, rfl, rfl⟩, .inr (.inr (.inr ⟨[.row (ks.map Nd.pv)], 9, (ks.map Nd.low).map PV.str, .inl (by simp only [go_sem, ↓reduceIte, reduceCtorEq, yA, yB, uA, uB, uC, uD, uE, uF]), c1, hflat, by simp only [go_sem, ↓reduceIte, reduceCtorEq, yA, yB, uA, uB, uC, uD, uE, uF], rfl, rfl⟩))⟩ ?_
  refine V.exec 400 ?_
  simp +contextual (maxSteps := 1000000) only [go_sem, ↓reduceIte, reduceCtorEq, yA, yB, uA, uB, uC, uD, uE, uF]
  refine V.call rfl rfl (by simp [dOK]) ⟨72, [], by simp only [go_sem, ↓reduceIte, reduceCtorEq, yA, yB, uA, uB, uC, uD, uE, uF], ⟨_, rfl, rfl, rfl⟩, .inl ⟨[.row (w.map Note.pv), .row ((ks.map Nd.low).map PV.str)], _, .inl (by simp only [go_sem, ↓reduceIte, reduceCtorEq, yA, yB, uA, uB, uC, uD, uE, uF]), c2, .inl ⟨_, rfl, rfl, rfl, rfl⟩⟩⟩ ?_
  refine V.exec 400 ?_
  simp +contextual (maxSteps := 1000000) only [go_sem, ↓reduceIte, reduceCtorEq, yA, yB, uA, uB, uC, uD, uE, uF]
  refine V.call rfl rfl (by simp [dOK]) ⟨44, [], by simp only [go_sem, ↓reduceIte, reduceCtorEq, yA, yB, uA, uB, uC, uD, uE, uF], ⟨_, rfl, rfl, rfl⟩, .inl ⟨[.row (w.map Note.pv), .row ((ks.map Nd.low).map PV.str)], _, .inl (by simp only [go_sem, ↓reduceIte, reduceCtorEq, yA, yB, uA, uB, uC, uD, uE, uF]), c3, .inr (.inr ⟨30, (S.map rowN)   , rfl, by simp only [go_sem, ↓reduceIte, reduceCtorEq, yA, yB, uA, uB, uC, uD, uE, uF], rfl, rfl⟩)⟩⟩ ?_
  refine V.exec 400 ?_
  simp +contextual (maxSteps := 1000000) only [go_sem, ↓reduceIte, reduceCtorEq, yA, yB, uA, uB, uC, uD, uE, uF, hi', hiS, hk, hs, rowN]
  refine DV.call [] [] (by simp only [go_sem, ↓reduceIte, reduceCtorEq, yA, yB, uA, uB, uC, uD, uE, uF]) (by simp [dOK]) ⟨25, [], by simp only [go_sem, ↓reduceIte, reduceCtorEq, yA, yB, uA, uB, uC, uD, uE, uF], ⟨_, rfl, rfl, rfl⟩, .inl ⟨[k.pv, .row (s.map Note.pv)], _, .inl (by simp only [go_sem, ↓reduceIte, reduceCtorEq, yA, yB, uA, uB, uC, uD, uE, uF]), c4, .inr (.inl ⟨_, rfl, rfl, rfl⟩)⟩⟩ (by simp only [go_sem, ↓reduceIte, reduceCtorEq, yA, yB, uA, uB, uC, uD, uE, uF]) (by simp only [go_sem, ↓reduceIte, reduceCtorEq, yA, yB, uA, uB, uC, uD, uE, uF]) (by simp only [go_sem, ↓reduceIte, reduceCtorEq, yA, yB, uA, uB, uC, uD, uE, uF]) (by simp) ?_
  refine DV.execS [11] 400 ?_
  have hw1 : IntKind.i64.wrap ((i : Int) + 1) = ((i + 1 : Nat) : Int) := by rw [wrap_small3] <;> omega
  have hi1 : ((i + 1 : Nat) : Int) ≤ (ks.length : Int) := by omega
  have hi2 : (i : Int) ≤ (ks.length : Int) := by omega
  have hset : (S.map rowN).set i (PV.row []) = (S.set i []).map rowN := by rw [List.map_set]; rfl
  have hSetF : (S.set i []).flatten.length ≤ w.length := by
    have e0 : (S.set i []).flatten = (S.take i).flatten ++ (S.drop (i + 1)).flatten := by
      have hl : (S.take i).length = i := by rw [List.length_take]; omega
      conv => lhs; rw [hSS, List.set_append_right _ _ (by omega), hl, Nat.sub_self, List.set_cons_zero, List.flatten_append, List.flatten_cons, List.nil_append]
    have e5 : w = (S.take i).flatten ++ (s ++ (S.drop (i + 1)).flatten) := by
      rw [← hSf]
      conv => lhs; rw [hSS, List.flatten_append, List.flatten_cons]
    rw [e0, e5]
    simp only [List.length_append]; omega
  have c6 := (ConcatNote ((S.set i []).map fun l => l.map Note.pv) (fun l hl x hx => by
    obtain ⟨n, _, rfl⟩ := List.mem_map.1 hl
    obtain ⟨y, _, rfl⟩ := List.mem_map.1 hx; rfl) (by
      have : ((S.set i []).map fun l => l.map Note.pv).flatten = (S.set i []).flatten.map Note.pv := by rw [List.map_flatten]
      rw [this, List.length_map]; omega) (by simp; omega)).forget
  have ec6 : (((S.set i []).map fun l => l.map Note.pv).map PV.row) = (S.set i []).map rowN := by rw [List.map_map]; rfl
  have ef6 : ((S.set i []).map fun l => l.map Note.pv).flatten = (S.set i []).flatten.map Note.pv := by rw [List.map_flatten]
  rw [ec6, ef6] at c6
  -- what is left, behind the kids' own turn
  have tail : ∀ (σ : St) (K' Mo R : List Nd) (mv : AV) (nq : Nat), True → True := fun _ _ _ _ _ _ h => h
  cases hMc : M with
  | cons z zs =>
    rw [← hMc]
    have hM0 : (0 : Int) < (M.length : Int) := by rw [hMc]; simp
    have c5 := ConcatNode [(ks.take i).map Nd.pv, M.map Nd.pv, (ks.drop (i + 1)).map Nd.pv] (fun l hl x hx => by
      simp only [List.mem_cons, List.not_mem_nil, or_false] at hl
      rcases hl with rfl | rfl | rfl <;> exact hpc _ x hx) (by simp; omega) (by simp)
    have er : [(ks.take i).map Nd.pv, M.map Nd.pv, (ks.drop (i + 1)).map Nd.pv].flatten = (spliceN M ks i).map Nd.pv := by
      rw [spliceN, hMc, fix_cons]; simp
    rw [er] at c5
    generalize spliceN M ks i = R at *
    simp +contextual (maxSteps := 1000000) only [go_sem, ↓reduceIte, reduceCtorEq, yA, yB, uA, uB, uC, uD, uE, uF, hi', hiS, hk, hs, rowN, hM0, hw1, hi1, hi2]
    refine ⟨by kernel_rfl, ?_⟩
    refine V.pubc 0 1 1 true [.val (.str lo), .ref 1, .val (.row (w.map Note.pv)), .val (.row [])] 26 (ks.map Nd.pv) (by simp only [go_sem, ↓reduceIte, reduceCtorEq, yA, yB, uA, uB, uC, uD, uE, uF]) rfl (by simp only [go_sem, ↓reduceIte, reduceCtorEq, yA, yB, uA, uB, uC, uD, uE, uF]) ?_
    refine V.exec 400 ?_
    simp +contextual (maxSteps := 1000000) only [go_sem, ↓reduceIte, reduceCtorEq, yA, yB, uA, uB, uC, uD, uE, uF, hi', hiS, hk, hs, rowN, hM0, hw1, hi1, hi2, List.set_cons_succ, List.set_cons_zero]
    refine DV.call [62] [62, 63] (by simp only [go_sem, ↓reduceIte, reduceCtorEq, yA, yB, uA, uB, uC, uD, uE, uF, List.map_cons, List.map_nil, List.map_take, List.map_drop]) (by simp [dOK]) ⟨73, [], by simp only [go_sem, ↓reduceIte, reduceCtorEq, yA, yB, uA, uB, uC, uD, uE, uF, List.map_cons, List.map_nil, List.map_take, List.map_drop], ⟨_, rfl, rfl, rfl⟩, .inl ⟨[.row ([(ks.take i).map Nd.pv, M.map Nd.pv, (ks.drop (i + 1)).map Nd.pv].map PV.row)], _, .inl (by simp only [go_sem, ↓reduceIte, reduceCtorEq, yA, yB, uA, uB, uC, uD, uE, uF, List.map_cons, List.map_nil, List.map_take, List.map_drop]), c5, .inr (.inr ⟨26, (R.map Nd.pv)   , rfl, by simp only [go_sem, ↓reduceIte, reduceCtorEq, yA, yB, uA, uB, uC, uD, uE, uF, List.map_cons, List.map_nil, List.map_take, List.map_drop], rfl, rfl⟩)⟩⟩ (by simp only [go_sem, ↓reduceIte, reduceCtorEq, yA, yB, uA, uB, uC, uD, uE, uF, List.map_cons, List.map_nil, List.map_take, List.map_drop]) (by simp only [go_sem, ↓reduceIte, reduceCtorEq, yA, yB, uA, uB, uC, uD, uE, uF, List.map_cons, List.map_nil, List.map_take, List.map_drop]) (by simp only [go_sem, ↓reduceIte, reduceCtorEq, yA, yB, uA, uB, uC, uD, uE, uF, List.map_cons, List.map_nil, List.map_take, List.map_drop]) (by simp) ?_
    refine DV.exec 400 ?_
    simp +contextual (maxSteps := 1000000) only [go_sem, ↓reduceIte, reduceCtorEq, yA, yB, uA, uB, uC, uD, uE, uF, hiS, hs, rowN, hset]
    refine ⟨by kernel_rfl, ?_⟩
    refine V.call rfl rfl (by simp [dOK]) ⟨74, [], by simp only [go_sem, ↓reduceIte, reduceCtorEq, yA, yB, uA, uB, uC, uD, uE, uF], ⟨_, rfl, rfl, rfl⟩, .inl ⟨[.row ((S.set i []).map rowN)], _, .inl (by simp only [go_sem, ↓reduceIte, reduceCtorEq, yA, yB, uA, uB, uC, uD, uE, uF]), c6, .inr (.inl ⟨_, rfl, rfl, rfl⟩)⟩⟩ ?_
    refine V.exec 400 ?_
    simp +contextual (maxSteps := 1000000) only [go_sem, ↓reduceIte, reduceCtorEq, yA, yB, uA, uB, uC, uD, uE, uF]
    exact ⟨63, by decide, by simp only [go_sem, ↓reduceIte, reduceCtorEq, yA, yB, uA, uB, uC, uD, uE, uF], by simp only [go_sem, ↓reduceIte, reduceCtorEq, yA, yB, uA, uB, uC, uD, uE, uF]⟩
  | nil =>
    subst hMc
    have hM0 : ¬ (0 : Int) < (([] : List Nd).length : Int) := by simp
    have hM0' : ¬ (0 : Int) < ((0 : Nat) : Int) := by omega
    by_cases h1 : ks.length = 1
    · have h1' : (ks.length : Int) = 1 := by omega
      obtain ⟨k0, rfl⟩ : ∃ k0, ks = [k0] := by
        match ks, h1 with
        | [k0], _ => exact ⟨k0, rfl⟩
      have hi0 : i = 0 := by simp at hilt; exact hilt
      subst hi0
      have h11 : ((1 : Nat) : Int) = 1 := rfl
      have hkl : ([k0] : List Nd).length = 1 := rfl
      have hlw0 : (([k0] : List Nd).map Nd.low)[0]? = some k0.low := rfl
      have hR : spliceN [] [k0] 0 = [.mk k0.low [] [] []] := rfl
      rw [hR]
      simp +contextual (maxSteps := 1000000) only [go_sem, ↓reduceIte, reduceCtorEq, yA, yB, uA, uB, uC, uD, uE, uF, hi', hiS, hk, hs, rowN, List.map_nil, List.length_nil, hM0', h11, hw1, hi1, hi2, Int.toNat_zero, Int.le_refl]
      have c5 := ConcatNode [[], [(Nd.mk k0.low [] [] []).pv], []] (fun l hl x hx => by
        simp only [List.mem_cons, List.not_mem_nil, or_false] at hl
        rcases hl with rfl | rfl | rfl
        · cases hx
        · simp only [List.mem_singleton] at hx
          subst hx; rw [Nd.pv_cells]; rfl
        · cases hx) (by simp) (by simp)
      have er : [[], [(Nd.mk k0.low [] [] []).pv], []].flatten = [Nd.mk k0.low [] [] []].map Nd.pv := rfl
      rw [er] at c5
      have epv : (Nd.mk k0.low [] [] []).pv = .ptr (.agg [.str k0.low, .row [], .row [], .row []]) := by rw [Nd.pv_eq]; rfl
      refine ⟨by kernel_rfl, ?_⟩
      refine V.pubc 0 1 1 true [.val (.str lo), .ref 1, .val (.row (w.map Note.pv)), .val (.row [])] 26 [k0.pv] (by simp only [go_sem, ↓reduceIte, reduceCtorEq, yA, yB, uA, uB, uC, uD, uE, uF]) rfl (by simp only [go_sem, ↓reduceIte, reduceCtorEq, yA, yB, uA, uB, uC, uD, uE, uF]) ?_
      refine V.exec 400 ?_
      simp +contextual (maxSteps := 1000000) only [go_sem, ↓reduceIte, reduceCtorEq, yA, yB, uA, uB, uC, uD, uE, uF, hiS, hs, rowN, h11, hw1, List.set_cons_succ, List.set_cons_zero, Int.le_refl, Int.toNat_zero, Int.toNat_one]
      refine ⟨by decide, by decide, ?_⟩
      refine DV.call [76] [76, 77] (by simp only [go_sem, ↓reduceIte, reduceCtorEq, yA, yB, uA, uB, uC, uD, uE, uF, List.map_cons, List.map_nil, epv, Int.toNat_natCast]) (by simp [dOK]) ⟨73, [], by simp only [go_sem, ↓reduceIte, reduceCtorEq, yA, yB, uA, uB, uC, uD, uE, uF, List.map_cons, List.map_nil, epv, Int.toNat_natCast], ⟨_, rfl, rfl, rfl⟩, .inl ⟨[.row ([[], [(Nd.mk k0.low [] [] []).pv], []].map PV.row)], _, .inl (by simp only [go_sem, ↓reduceIte, reduceCtorEq, yA, yB, uA, uB, uC, uD, uE, uF, List.map_cons, List.map_nil, epv, Int.toNat_natCast]), c5, .inr (.inr ⟨26, ([Nd.mk k0.low [] [] []].map Nd.pv)   , rfl, by simp only [go_sem, ↓reduceIte, reduceCtorEq, yA, yB, uA, uB, uC, uD, uE, uF, List.map_cons, List.map_nil, epv, Int.toNat_natCast], rfl, rfl⟩)⟩⟩ (by simp only [go_sem, ↓reduceIte, reduceCtorEq, yA, yB, uA, uB, uC, uD, uE, uF, List.map_cons, List.map_nil, epv, Int.toNat_natCast]) (by simp only [go_sem, ↓reduceIte, reduceCtorEq, yA, yB, uA, uB, uC, uD, uE, uF, List.map_cons, List.map_nil, epv, Int.toNat_natCast]) (by simp only [go_sem, ↓reduceIte, reduceCtorEq, yA, yB, uA, uB, uC, uD, uE, uF, List.map_cons, List.map_nil, epv, Int.toNat_natCast]) (by simp) ?_
      refine DV.exec 400 ?_
      simp +contextual (maxSteps := 1000000) only [go_sem, ↓reduceIte, reduceCtorEq, yA, yB, uA, uB, uC, uD, uE, uF, hiS, hs, rowN, hset]
      refine ⟨by kernel_rfl, ?_⟩
      refine V.call rfl rfl (by simp [dOK]) ⟨74, [], by simp only [go_sem, ↓reduceIte, reduceCtorEq, yA, yB, uA, uB, uC, uD, uE, uF], ⟨_, rfl, rfl, rfl⟩, .inl ⟨[.row ((S.set 0 []).map rowN)], _, .inl (by simp only [go_sem, ↓reduceIte, reduceCtorEq, yA, yB, uA, uB, uC, uD, uE, uF]), c6, .inr (.inl ⟨_, rfl, rfl, rfl⟩)⟩⟩ ?_
      refine V.exec 400 ?_
      simp +contextual (maxSteps := 1000000) only [go_sem, ↓reduceIte, reduceCtorEq, yA, yB, uA, uB, uC, uD, uE, uF]
      exact ⟨77, by decide, by simp only [go_sem, ↓reduceIte, reduceCtorEq, yA, yB, uA, uB, uC, uD, uE, uF], by simp only [go_sem, ↓reduceIte, reduceCtorEq, yA, yB, uA, uB, uC, uD, uE, uF]⟩
    · have h1' : ¬ (ks.length : Int) = 1 := by omega
      by_cases hi0 : i = 0
      · subst hi0
        obtain ⟨a, b, r, hkr⟩ : ∃ a b r, ks = a :: b :: r := by
          match ks, h1, hlen with
          | a :: b :: r, _, _ => exact ⟨a, b, r, rfl⟩
          | [a], h, _ => exact absurd rfl h
          | [], _, h => simp at h
        have hR : spliceN [] ks 0 = setLow a.low b :: r := by rw [hkr, spliceN, fix_zero]; rfl
        have hka : k = a := by rw [hkr] at hk; simp at hk; exact hk.symm
        subst hka
        have hb : ks[1]? = some b := by rw [hkr]; rfl
        have hsl1 : (setLow k.low b).pv = .ptr (.agg [.str k.low, .row (b.kids.map Nd.pv), .row (b.wait.map Note.pv), .row (b.pairs.map Pair.pv)]) := by
          rw [Nd.pv_eq]; cases b; rfl
        have hdr : ((ks.map Nd.pv).set 1 (setLow k.low b).pv).drop 1 = (setLow k.low b :: r).map Nd.pv := by rw [hkr]; rfl
        have h10 : (1 : Int) < (ks.length : Int) := by rw [hkr]; simp; omega
        have h01 : (1 : Int) ≤ (ks.length : Int) := by omega
        have hrl : r.length + 2 = ks.length := by rw [hkr]; rfl
        have h00 : ((0 : Nat) : Int) = 0 := rfl
        have eb := Nd.pv_eq b
        have c5 := ConcatNode [[], [], (setLow k.low b :: r).map Nd.pv] (fun l hl x hx => by
          simp only [List.mem_cons, List.not_mem_nil, or_false] at hl
          rcases hl with rfl | rfl | rfl
          · cases hx
          · cases hx
          · exact hpc _ x hx) (by simp; omega) (by simp)
        have er : [[], [], (setLow k.low b :: r).map Nd.pv].flatten = (setLow k.low b :: r).map Nd.pv := by simp
        rw [er] at c5
        rw [hR]
        generalize setLow k.low b = z at *
        obtain ⟨ZR, hZR⟩ : ∃ ZR, ZR = (z :: r).map Nd.pv := ⟨_, rfl⟩
        rw [← hZR] at hdr c5
        have hw01 : IntKind.i64.wrap (0 + 1) = 1 := by decide
        simp +contextual (maxSteps := 1000000) only [go_sem, ↓reduceIte, reduceCtorEq, yA, yB, uA, uB, uC, uD, uE, uF, hi', hiS, hk, hs, rowN, List.map_nil, List.length_nil, hM0', h1', hw1, hi1, hi2, Int.toNat_zero, Int.le_refl, eb, Int.toNat_one, hb, h10, h00, Int.lt_irrefl]
        refine ⟨by kernel_rfl, by decide, by decide, ?_⟩
        refine V.pubc 0 1 1 true [.val (.str lo), .ref 1, .val (.row (w.map Note.pv)), .val (.row [])] 26 ((ks.map Nd.pv).set 1 z.pv) (by simp only [go_sem, ↓reduceIte, reduceCtorEq, yA, yB, uA, uB, uC, uD, uE, uF]) rfl (by simp only [go_sem, ↓reduceIte, reduceCtorEq, yA, yB, uA, uB, uC, uD, uE, uF, hsl1]) ?_
        refine V.exec 400 ?_
        simp +contextual (maxSteps := 1000000) only [go_sem, ↓reduceIte, reduceCtorEq, yA, yB, uA, uB, uC, uD, uE, uF, hiS, hs, rowN, h00, hw1, hi2, hi1, List.set_cons_succ, List.set_cons_zero, Int.le_refl, Int.toNat_zero, Int.toNat_one, List.length_set, hdr, hw01]
        refine ⟨⟨by decide, h01, fun x hx => ?_⟩, ?_⟩
        · rcases List.mem_or_eq_of_mem_set hx with hx | rfl
          · exact hpc _ x hx
          · rw [Nd.pv_cells]; rfl
        refine DV.call [93] [93, 94] (by simp only [go_sem, ↓reduceIte, reduceCtorEq, yA, yB, uA, uB, uC, uD, uE, uF, List.map_cons, List.map_nil]) (by simp [dOK]) ⟨73, [], by simp only [go_sem, ↓reduceIte, reduceCtorEq, yA, yB, uA, uB, uC, uD, uE, uF, List.map_cons, List.map_nil], ⟨_, rfl, rfl, rfl⟩, .inl ⟨[.row ([[], [], ZR].map PV.row)], _, .inl (by simp only [go_sem, ↓reduceIte, reduceCtorEq, yA, yB, uA, uB, uC, uD, uE, uF, List.map_cons, List.map_nil]), c5, .inr (.inr ⟨26, ZR   , rfl, by simp only [go_sem, ↓reduceIte, reduceCtorEq, yA, yB, uA, uB, uC, uD, uE, uF, List.map_cons, List.map_nil], rfl, rfl⟩)⟩⟩ (by simp only [go_sem, ↓reduceIte, reduceCtorEq, yA, yB, uA, uB, uC, uD, uE, uF, List.map_cons, List.map_nil]) (by simp only [go_sem, ↓reduceIte, reduceCtorEq, yA, yB, uA, uB, uC, uD, uE, uF, List.map_cons, List.map_nil]) (by simp only [go_sem, ↓reduceIte, reduceCtorEq, yA, yB, uA, uB, uC, uD, uE, uF, List.map_cons, List.map_nil]) (by simp) ?_
        refine DV.exec 400 ?_
        simp +contextual (maxSteps := 1000000) only [go_sem, ↓reduceIte, reduceCtorEq, yA, yB, uA, uB, uC, uD, uE, uF, hiS, hs, rowN, hset, h00, Int.le_refl, Int.toNat_zero]
        refine ⟨by kernel_rfl, ?_⟩
        refine V.call rfl rfl (by simp [dOK]) ⟨74, [], by simp only [go_sem, ↓reduceIte, reduceCtorEq, yA, yB, uA, uB, uC, uD, uE, uF], ⟨_, rfl, rfl, rfl⟩, .inl ⟨[.row ((S.set 0 []).map rowN)], _, .inl (by simp only [go_sem, ↓reduceIte, reduceCtorEq, yA, yB, uA, uB, uC, uD, uE, uF]), c6, .inr (.inl ⟨_, rfl, rfl, rfl⟩)⟩⟩ ?_
        refine V.exec 400 ?_
        simp +contextual (maxSteps := 1000000) only [go_sem, ↓reduceIte, reduceCtorEq, yA, yB, uA, uB, uC, uD, uE, uF]
        refine ⟨94, by decide, by simp only [go_sem, ↓reduceIte, reduceCtorEq, yA, yB, uA, uB, uC, uD, uE, uF], ?_⟩
        rw [← hZR]
        simp only [go_sem, ↓reduceIte, reduceCtorEq, yA, yB, uA, uB, uC, uD, uE, uF]
      · have hi0' : ¬ (i : Int) = 0 := by omega
        have hR : spliceN [] ks i = ks.take i ++ ks.drop (i + 1) := by rw [spliceN, fix_else h1 hi0]; simp
        have c5 := ConcatNode [(ks.take i).map Nd.pv, [], (ks.drop (i + 1)).map Nd.pv] (fun l hl x hx => by
          simp only [List.mem_cons, List.not_mem_nil, or_false] at hl
          rcases hl with rfl | rfl | rfl
          · exact hpc _ x hx
          · cases hx
          · exact hpc _ x hx) (by simp; omega) (by simp)
        have er : [(ks.take i).map Nd.pv, [], (ks.drop (i + 1)).map Nd.pv].flatten = (ks.take i ++ ks.drop (i + 1)).map Nd.pv := by simp
        rw [er] at c5
        rw [hR]
        obtain ⟨ZR, hZR⟩ : ∃ ZR, ZR = (ks.take i ++ ks.drop (i + 1)).map Nd.pv := ⟨_, rfl⟩
        rw [← hZR] at c5
        simp +contextual (maxSteps := 1000000) only [go_sem, ↓reduceIte, reduceCtorEq, yA, yB, uA, uB, uC, uD, uE, uF, hi', hiS, hk, hs, rowN, List.map_nil, List.length_nil, hM0', h1', hw1, hi1, hi2, hi0', Int.toNat_zero, Int.le_refl]
        refine ⟨by kernel_rfl, ?_⟩
        refine V.pubc 0 1 1 true [.val (.str lo), .ref 1, .val (.row (w.map Note.pv)), .val (.row [])] 26 (ks.map Nd.pv) (by simp only [go_sem, ↓reduceIte, reduceCtorEq, yA, yB, uA, uB, uC, uD, uE, uF]) rfl (by simp only [go_sem, ↓reduceIte, reduceCtorEq, yA, yB, uA, uB, uC, uD, uE, uF]) ?_
        refine V.exec 400 ?_
        simp +contextual (maxSteps := 1000000) only [go_sem, ↓reduceIte, reduceCtorEq, yA, yB, uA, uB, uC, uD, uE, uF, hiS, hs, rowN, hw1, hi2, hi1, List.set_cons_succ, List.set_cons_zero]
        refine DV.call [72] [72, 73] (by simp only [go_sem, ↓reduceIte, reduceCtorEq, yA, yB, uA, uB, uC, uD, uE, uF, List.map_cons, List.map_nil, List.map_take, List.map_drop]) (by simp [dOK]) ⟨73, [], by simp only [go_sem, ↓reduceIte, reduceCtorEq, yA, yB, uA, uB, uC, uD, uE, uF, List.map_cons, List.map_nil, List.map_take, List.map_drop], ⟨_, rfl, rfl, rfl⟩, .inl ⟨[.row ([(ks.take i).map Nd.pv, [], (ks.drop (i + 1)).map Nd.pv].map PV.row)], _, .inl (by simp only [go_sem, ↓reduceIte, reduceCtorEq, yA, yB, uA, uB, uC, uD, uE, uF, List.map_cons, List.map_nil, List.map_take, List.map_drop]), c5, .inr (.inr ⟨26, ZR   , rfl, by simp only [go_sem, ↓reduceIte, reduceCtorEq, yA, yB, uA, uB, uC, uD, uE, uF, List.map_cons, List.map_nil, List.map_take, List.map_drop], rfl, rfl⟩)⟩⟩ (by simp only [go_sem, ↓reduceIte, reduceCtorEq, yA, yB, uA, uB, uC, uD, uE, uF, List.map_cons, List.map_nil, List.map_take, List.map_drop]) (by simp only [go_sem, ↓reduceIte, reduceCtorEq, yA, yB, uA, uB, uC, uD, uE, uF, List.map_cons, List.map_nil, List.map_take, List.map_drop]) (by simp only [go_sem, ↓reduceIte, reduceCtorEq, yA, yB, uA, uB, uC, uD, uE, uF, List.map_cons, List.map_nil, List.map_take, List.map_drop]) (by simp) ?_
        refine DV.exec 400 ?_
        simp +contextual (maxSteps := 1000000) only [go_sem, ↓reduceIte, reduceCtorEq, yA, yB, uA, uB, uC, uD, uE, uF, hiS, hs, rowN, hset]
        refine ⟨by kernel_rfl, ?_⟩
        refine V.call rfl rfl (by simp [dOK]) ⟨74, [], by simp only [go_sem, ↓reduceIte, reduceCtorEq, yA, yB, uA, uB, uC, uD, uE, uF], ⟨_, rfl, rfl, rfl⟩, .inl ⟨[.row ((S.set i []).map rowN)], _, .inl (by simp only [go_sem, ↓reduceIte, reduceCtorEq, yA, yB, uA, uB, uC, uD, uE, uF]), c6, .inr (.inl ⟨_, rfl, rfl, rfl⟩)⟩⟩ ?_
        refine V.exec 400 ?_
        simp +contextual (maxSteps := 1000000) only [go_sem, ↓reduceIte, reduceCtorEq, yA, yB, uA, uB, uC, uD, uE, uF]
        refine ⟨73, by decide, by simp only [go_sem, ↓reduceIte, reduceCtorEq, yA, yB, uA, uB, uC, uD, uE, uF], ?_⟩
        rw [← hZR]
        simp only [go_sem, ↓reduceIte, reduceCtorEq, yA, yB, uA, uB, uC, uD, uE, uF]
end Go.Proofs.Ytofmiaecjnfeaaa
set_option linter.unusedVariables false
set_option linter.unusedSimpArgs false
set_option maxRecDepth 8000
namespace Go.Proofs.Ytofmiaecjnfeaaa
open Nat renaming reduceAdd → uA, reduceLT → uB, reduceEqDiff → uC, reduceLeDiff → uD, reduceSub → uE, reduceMul → uF
open Bool renaming false_eq_true → yA, true_eq_false → yB
open Go Go.Proofs Go.Proofs.YtofmiaecjnfeaaaVm Go.Proofs.Ytofmiaecjnfeaaa.Ty

set_option maxRecDepth 20000 in
set_option maxHeartbeats 16000000 in
theorem put_leaf {B : Nat} (hB : B ≤ 10000) : PutCt 0 B := by
  intro hi n ns w hn hin hm
  have e := Nd.pv_eq n
  obtain ⟨w1, w2, w3, w4, w5, w6⟩ := w
  have c1 := leaf_Apply n.pairs ns (by omega) (by omega)
  have hpl := applyV_len n.pairs ns
  have c2 := tree_leaves n.low (applyV n.pairs ns).1 (by omega)
  have ep : putN 0 n ns = leavesN n.low (applyV n.pairs ns).1 := rfl
  have h00 : ((0 : Nat) : Int) = 0 := rfl
  rw [ep, e, w1]
  generalize leavesN n.low (applyV n.pairs ns).1 = M at *
  generalize applyV n.pairs ns = G at *
  obtain ⟨g1, g2⟩ := G
  refine Ct.of_V Try.func25 rfl (by simp [YtofmiaecjnfeaaaVm.ops, Try.f25]) ?_
  refine V.exec 400 ?_
  simp +contextual (maxSteps := 1000000) only [go_sem, ↓reduceIte, reduceCtorEq, yA, yB, uA, uB, uC, uD, uE, uF, Try.f25, List.map_nil, List.length_nil, h00]
  refine V.call rfl rfl (by simp [dOK]) ⟨39, [], by simp only [go_sem, ↓reduceIte, reduceCtorEq, yA, yB, uA, uB, uC, uD, uE, uF], ⟨_, rfl, rfl, rfl⟩, .inl ⟨[.row (n.pairs.map Pair.pv), .row (ns.map Note.pv)], _, .inl (by simp only [go_sem, ↓reduceIte, reduceCtorEq, yA, yB, uA, uB, uC, uD, uE, uF]), c1, .inr (.inl ⟨_, rfl, rfl, rfl⟩)⟩⟩ ?_
  refine V.exec 400 ?_
  simp +contextual (maxSteps := 1000000) only [go_sem, ↓reduceIte, reduceCtorEq, yA, yB, uA, uB, uC, uD, uE, uF]
  refine V.call rfl rfl (by simp [dOK]) ⟨40, [], by simp only [go_sem, ↓reduceIte, reduceCtorEq, yA, yB, uA, uB, uC, uD, uE, uF], ⟨_, rfl, rfl, rfl⟩, .inl ⟨[.str n.low, .row (g1.map Pair.pv)], _, .inl (by simp only [go_sem, ↓reduceIte, reduceCtorEq, yA, yB, uA, uB, uC, uD, uE, uF]), c2, .inr (.inl ⟨_, rfl, rfl, rfl⟩)⟩⟩ ?_
  refine V.exec 400 ?_
  simp +contextual (maxSteps := 1000000) only [go_sem, ↓reduceIte, reduceCtorEq, yA, yB, uA, uB, uC, uD, uE, uF]

set_option maxRecDepth 20000 in
set_option maxHeartbeats 16000000 in
theorem put_node {h B : Nat} (hB : B ≤ 10000) (hput : PutCt h B) : PutCt (h + 1) B := by
  intro hi n ns w hn hin hm
  have e := Nd.pv_eq n
  have hall := w.all_node
  obtain ⟨w1, w2, w3, w4, w5, w6, w7, w8, w9⟩ := w
  obtain ⟨k1, k2⟩ := headLow_of w6
  have hemp : n.kids.isEmpty = false := by
    cases hk : n.kids with
    | nil => exact absurd hk k1
    | cons k ks => rfl
  have hpr : (pushR n.wait ns).1 = pushV n.wait ns := by unfold pushR; rw [if_pos ⟨w3, hn⟩]
  have hwo := (waitOk_iff _).1 w3
  have hpo := pushV_ok ns w3 hn
  have hpl := pushV_len ns hwo.1
  have hpin : ∀ x ∈ pushV n.wait ns, In n.low hi x.key := fun x hx => by
    rcases pushV_keys ns hx with h1 | ⟨y, hy, e⟩
    · exact w4 x h1
    · rw [e]; exact hin y hy
  have d0 : DI h n.low hi n.kids (pushV n.wait ns) := ⟨w7, w6, w8, hpo, hpin⟩
  have hmk := mass_kids n
  have ep : putN (h + 1) n ns = partsN n.low (drainN (putN h) (pushV n.wait ns).length n.kids (pushV n.wait ns)).1 (drainN (putN h) (pushV n.wait ns).length n.kids (pushV n.wait ns)).2 := by
    rw [putN, hemp, hpr]; rfl
  have c1 := CloneNode (n.kids.map Nd.pv) (fun x hx => by
    obtain ⟨y, _, rfl⟩ := List.mem_map.1 hx
    rw [Nd.pv_cells]; rfl) (by simp; omega)
  have c2 := pend_Push n.wait ns (by omega) (by omega)
  rw [hpr] at c2
  have hlen : 0 < n.kids.length := List.length_pos_iff.2 k1
  have hl0 : ¬ (n.kids.length : Int) = 0 := by omega
  rw [ep, e]
  generalize (pushR n.wait ns).2 = er at *
  generalize pushV n.wait ns = w0 at *
  refine Ct.of_V Try.func25 rfl (by simp [YtofmiaecjnfeaaaVm.ops, Try.f25]) ?_
  refine V.exec 400 ?_
  simp +contextual (maxSteps := 1000000) only [go_sem, ↓reduceIte, reduceCtorEq, yA, yB, uA, uB, uC, uD, uE, uF, Try.f25, hl0]
  refine DV.call [] [17] (by simp only [go_sem, ↓reduceIte, reduceCtorEq, yA, yB, uA, uB, uC, uD, uE, uF]) (by simp [dOK]) ⟨41, [], by simp only [go_sem, ↓reduceIte, reduceCtorEq, yA, yB, uA, uB, uC, uD, uE, uF], ⟨_, rfl, rfl, rfl⟩, .inl ⟨[.row (n.kids.map Nd.pv)], _, .inl (by simp only [go_sem, ↓reduceIte, reduceCtorEq, yA, yB, uA, uB, uC, uD, uE, uF]), c1, .inr (.inr ⟨26, (n.kids.map Nd.pv)   , rfl, by simp only [go_sem, ↓reduceIte, reduceCtorEq, yA, yB, uA, uB, uC, uD, uE, uF], rfl, rfl⟩)⟩⟩ (by simp only [go_sem, ↓reduceIte, reduceCtorEq, yA, yB, uA, uB, uC, uD, uE, uF]) (by simp only [go_sem, ↓reduceIte, reduceCtorEq, yA, yB, uA, uB, uC, uD, uE, uF]) (by simp only [go_sem, ↓reduceIte, reduceCtorEq, yA, yB, uA, uB, uC, uD, uE, uF]) (by simp) ?_
  refine DV.bref [17] (p0 := .str n.low) (id := 17) (e := 26) (ys := n.kids.map Nd.pv) (zs := [.val (.str []), .nils, .nils, .nils]) (places := [(0, 1), (1, 1), (2, 1), (3, 1)]) (z := [.str [], .row [], .row [], .row []]) (cs := [.str n.low, .row [], .row [], .row []]) (kk := 1) rfl (by simp [dOK]) (by simp only [go_sem, ↓reduceIte, reduceCtorEq, yA, yB, uA, uB, uC, uD, uE, uF]) (by simp only [go_sem, ↓reduceIte, reduceCtorEq, yA, yB, uA, uB, uC, uD, uE, uF]) (by simp only [go_sem, ↓reduceIte, reduceCtorEq, yA, yB, uA, uB, uC, uD, uE, uF]) (by kernel_rfl) (by kernel_rfl) (by kernel_rfl) (by simp [PV.isAgg]) rfl rfl (by simp only [go_sem, ↓reduceIte, reduceCtorEq, yA, yB, uA, uB, uC, uD, uE, uF]) ?_
  refine DV.exec 400 ?_
  simp +contextual (maxSteps := 1000000) only [go_sem, ↓reduceIte, reduceCtorEq, yA, yB, uA, uB, uC, uD, uE, uF]
  refine ⟨by kernel_rfl, ?_⟩
  refine V.call rfl rfl (by simp [dOK]) ⟨42, [], by simp only [go_sem, ↓reduceIte, reduceCtorEq, yA, yB, uA, uB, uC, uD, uE, uF], ⟨_, rfl, rfl, rfl⟩, .inl ⟨[.row (n.wait.map Note.pv), .row (ns.map Note.pv)], _, .inl (by simp only [go_sem, ↓reduceIte, reduceCtorEq, yA, yB, uA, uB, uC, uD, uE, uF]), c2, .inr (.inl ⟨_, rfl, rfl, rfl⟩)⟩⟩ ?_
  refine V.exec 400 ?_
  simp +contextual (maxSteps := 1000000) only [go_sem, ↓reduceIte, reduceCtorEq, yA, yB, uA, uB, uC, uD, uE, uF]
  refine V.loop (fun m ls os => ∃ (ks : List Nd) (w : List Note), DI h n.low hi ks w ∧ w.length ≤ m ∧ Nd.masss ks + w.length ≤ B ∧ drainN (putN h) m ks w = drainN (putN h) w0.length n.kids w0 ∧
        ls = [(7, .adr 0 0)] ∧ os = [mbx n.low w, .row 26 (ks.map Nd.pv)]) 2 w0.length
      [(7, .adr 0 0)] [mbx n.low w0, .row 26 (n.kids.map Nd.pv)] [some 19, some 17]
      ⟨n.kids, w0, d0, Nat.le_refl _, by omega, rfl, rfl, rfl⟩ (by simp only [go_sem, ↓reduceIte, reduceCtorEq, yA, yB, uA, uB, uC, uD, uE, uF, mbx]; try decide) ?_
  rintro m ls os ⟨ks, w, d, hwm, hmw, hdr, rfl, rfl⟩
  by_cases h6 : 6 < w.length
  · have h6' : (6 : Int) < (w.length : Int) := by omega
    have hwne : w ≠ [] := fun e => by rw [e] at h6; simp at h6
    obtain ⟨f1, f2, f3, f4⟩ := flush_spec (put_spec h) d hwne
    have fw := flush_walk hB hput d hwne hmw
    have hdr2 : drainN (putN h) (m - 1) (flushN (putN h) ks w).1 (flushN (putN h) ks w).2 = drainN (putN h) w0.length n.kids w0 := by
      rw [← hdr]
      obtain ⟨m', rfl⟩ : ∃ m', m = m' + 1 := ⟨m - 1, by omega⟩
      rw [drainN, if_pos h6]; rfl
    generalize flushN (putN h) ks w = G at *
    obtain ⟨ks', w'⟩ := G
    have key : ∀ τ : St, τ = litSt [(0, .adr 0 0)] [mbx n.low w, .row 26 (ks.map Nd.pv)] 10 → V (fixM fun C => C.lvl = 0) Try.prog Try.f43.ntmps (fun σ' => FlR n.low w' ks' ⟨fun _ => .any, σ'.ob, 0⟩) [.code fls] τ := fun τ e => by rw [e]; exact fw
    simp only [mbx] at key
    refine V.exec 400 ?_
    simp +contextual (maxSteps := 1000000) only [go_sem, ↓reduceIte, reduceCtorEq, yA, yB, uA, uB, uC, uD, uE, uF, h6', mbx]
    refine V.sop _ (SemOp.inl (fn := Try.f43) (c := fls) (S := fun _ => True) (JE := fun ob => FlR n.low w' ks' ⟨fun _ => .any, ob, 0⟩) rfl rfl rfl Try.func43 rfl rfl rfl (by decide) (by simp [dOK]) (fun _ _ _ => trivial) 10 50 ?_) ?_
    · refine key _ (St.eq_of (fun t => ?_) (fun k => rfl) rfl)
      cases t with
      | zero => rfl
      | succ t => rfl
    · rintro _ ⟨ob, ⟨q, hq, hb0, hbq⟩, rfl⟩
      refine V.exec 400 ?_
      simp +contextual (maxSteps := 1000000) only [go_sem, ↓reduceIte, reduceCtorEq, yA, yB, uA, uB, uC, uD, uE, uF]
      have hb0 : ob 0 = .box true [.val (.str n.low), .ref q, .val (.row (w'.map Note.pv)), .val (.row [])] := hb0
      have hbq : ob q = .row 26 (ks'.map Nd.pv) := hbq
      refine ⟨m - 1, _, _, [some 0, some q], by omega, ⟨ks', w', f1, by simp only at f3; omega, by simp only at f4; omega, hdr2, rfl, rfl⟩, ?_⟩
      simp only [go_sem, ↓reduceIte, reduceCtorEq, yA, yB, uA, uB, uC, uD, uE, uF, mbx, hb0, hbq]
      simp [hq]
  · have h6' : ¬ (6 : Int) < (w.length : Int) := by omega
    have hdd : drainN (putN h) m ks w = (ks, w) := by
      cases m with
      | zero => rfl
      | succ m => rw [drainN, if_neg h6]
    rw [← hdr, hdd]
    have hkl := masss_len ks
    have c3 := tree_parts n.low ks w [] (by omega) (by omega)
    simp only [ndv, List.map_nil] at c3
    refine V.execS [8] 400 ?_
    simp +contextual (maxSteps := 1000000) only [go_sem, ↓reduceIte, reduceCtorEq, yA, yB, uA, uB, uC, uD, uE, uF, h6', mbx]
    refine V.pubc 0 1 1 true [.val (.str n.low), .ref 1, .val (.row (w.map Note.pv)), .val (.row [])] 26 (ks.map Nd.pv) (by simp only [go_sem, ↓reduceIte, reduceCtorEq, yA, yB, uA, uB, uC, uD, uE, uF]) rfl (by simp only [go_sem, ↓reduceIte, reduceCtorEq, yA, yB, uA, uB, uC, uD, uE, uF]) ?_
    refine V.exec 400 ?_
    simp +contextual (maxSteps := 1000000) only [go_sem, ↓reduceIte, reduceCtorEq, yA, yB, uA, uB, uC, uD, uE, uF, List.set_cons_succ, List.set_cons_zero]
    refine V.call rfl rfl (by simp [dOK]) ⟨27, [], by simp only [go_sem, ↓reduceIte, reduceCtorEq, yA, yB, uA, uB, uC, uD, uE, uF], ⟨_, rfl, rfl, rfl⟩, .inl ⟨[.ptr (.agg [.str n.low, .row (ks.map Nd.pv), .row (w.map Note.pv), .row []])], _, .inl (by simp only [go_sem, ↓reduceIte, reduceCtorEq, yA, yB, uA, uB, uC, uD, uE, uF]), c3, .inr (.inl ⟨_, rfl, rfl, rfl⟩)⟩⟩ ?_
    refine V.exec 400 ?_
    simp +contextual (maxSteps := 1000000) only [go_sem, ↓reduceIte, reduceCtorEq, yA, yB, uA, uB, uC, uD, uE, uF]
theorem put_ct {B : Nat} (hB : B ≤ 10000) : ∀ h, PutCt h B
  | 0 => put_leaf hB
  | h + 1 => put_node hB (put_ct hB h)
end Go.Proofs.Ytofmiaecjnfeaaa
set_option linter.unusedVariables false
set_option linter.unusedSimpArgs false
set_option maxRecDepth 8000
namespace Go.Proofs.Ytofmiaecjnfeaaa
open Nat renaming reduceAdd → uA, reduceLT → uB, reduceEqDiff → uC, reduceLeDiff → uD, reduceSub → uE, reduceMul → uF
open Bool renaming false_eq_true → yA, true_eq_false → yB
open Go Go.Proofs Go.Proofs.YtofmiaecjnfeaaaVm Go.Proofs.Ytofmiaecjnfeaaa.Ty

theorem partsN_len (lo : List UInt8) (l : List Nd) (w : List Note) : (partsN lo l w).length = (l.length + 3) / 4 := by
  rw [partsN, mk_eq _ _ _ (partLows_len lo (groups l)), List.length_mapIdx, List.length_zip, partLows_len, Nat.min_self]
  exact (groups_spec l).2.1
theorem tree_Apply1 (x : Note) : Ct Try.prog 23 (YtofmiaecjnfeaaaVm.ops [x.pv]) (.vals [.bool (decide (¬ x.ok))]) := by
  have hc := note_Right x
  refine Ct.of_V Try.func23 rfl (by simp [YtofmiaecjnfeaaaVm.ops, Try.f23]) ?_
  refine V.exec 400 ?_
  simp +contextual (maxSteps := 1000000) only [go_sem, ↓reduceIte, reduceCtorEq, yA, yB, uA, uB, uC, uD, uE, uF, Try.f23, Note.pv]
  refine V.call rfl rfl (by simp [dOK]) ⟨24, [], by simp only [go_sem, ↓reduceIte, reduceCtorEq, yA, yB, uA, uB, uC, uD, uE, uF], ⟨_, rfl, rfl, rfl⟩, .inl ⟨[x.pv], _, .inl (by simp only [go_sem, ↓reduceIte, reduceCtorEq, yA, yB, uA, uB, uC, uD, uE, uF, Note.pv]), hc, .inl ⟨_, rfl, rfl, rfl, rfl⟩⟩⟩ ?_
  refine V.exec 400 ?_
  simp +contextual (maxSteps := 1000000) only [go_sem, ↓reduceIte, reduceCtorEq, yA, yB, uA, uB, uC, uD, uE, uF]
theorem Contains_badT (ns : List Note) (hl : ns.length ≤ 1000000) : Ct Try.prog 22 (YtofmiaecjnfeaaaVm.ops [.row (ns.map Note.pv), .fn 23 []]) (.vals [.bool (decide (¬ notesOk ns))]) := by
  unfold notesOk
  obtain ⟨r, hr, hr1, hr2, hr3⟩ := first_of (fun y => decide (¬ (Note.of y).ok)) (ns.map Note.pv)
  have hi := IndexFuncNote (ns.map Note.pv) 23 [] (fun y => decide (¬ (Note.of y).ok)) (fun y hy => by
      obtain ⟨s, _, rfl⟩ := List.mem_map.1 hy
      exact ⟨rfl, rfl⟩) (by simpa using hl) ⟨_, rfl, rfl, rfl⟩ (fun y hy => by
      obtain ⟨s, _, rfl⟩ := List.mem_map.1 hy
      rw [Note.of_pv]
      simpa using tree_Apply1 s) r hr hr1 hr2
  refine Ct.of_V Try.func22 rfl (by simp [YtofmiaecjnfeaaaVm.ops, Try.f22]) ?_
  refine V.exec 400 ?_
  simp +contextual (maxSteps := 1000000) only [go_sem, ↓reduceIte, reduceCtorEq, yA, yB, uA, uB, uC, uD, uE, uF, Try.f22]
  refine V.call rfl rfl (by simp [dOK]) ⟨38, [], by simp only [go_sem, ↓reduceIte, reduceCtorEq, yA, yB, uA, uB, uC, uD, uE, uF], ⟨_, rfl, rfl, rfl⟩, .inl ⟨[.row (ns.map Note.pv), .fn 23 []], _, .inl (by simp only [go_sem, ↓reduceIte, reduceCtorEq, yA, yB, uA, uB, uC, uD, uE, uF]), hi, .inl ⟨_, rfl, rfl, rfl, rfl⟩⟩⟩ ?_
  refine V.exec 400 ?_
  simp +contextual (maxSteps := 1000000) only [go_sem, ↓reduceIte, reduceCtorEq, yA, yB, uA, uB, uC, uD, uE, uF]
  have e : (∃ y ∈ ns.map Note.pv, decide (¬ (Note.of y).ok) = true) ↔ ¬ ∀ x ∈ ns, x.ok := by
    constructor
    · rintro ⟨y, hy, hp⟩ hc
      obtain ⟨s, hs, rfl⟩ := List.mem_map.1 hy
      rw [Note.of_pv] at hp
      simp at hp
      exact hp (hc s hs)
    · intro h
      simp only [Classical.not_forall] at h
      obtain ⟨x, hx, hp⟩ := h
      exact ⟨x.pv, List.mem_map_of_mem hx, by rw [Note.of_pv]; simpa using hp⟩
  rw [e] at hr3
  rw [List.length_map] at hr3
  by_cases hc : ∀ x ∈ ns, x.ok
  · have : ¬ r < ns.length := fun h => (hr3.1 h) hc
    simp [this]
    exact hc
  · have h2 := hr3.2 hc
    simp [h2, hc]
theorem trPv (t : Tr) : ∃ x, Tr.pv t = .agg [x] ∧ x.isAgg = false ∧ x.cells = [x] := by
  cases t with
  | none => exact ⟨.nilp, rfl, rfl, rfl⟩
  | some n => exact ⟨n.pv, rfl, Nd.pv_isAgg n, Nd.pv_cells n⟩
set_option maxRecDepth 20000 in
set_option maxHeartbeats 8000000 in
theorem tree_Apply_bad (t : Tr) (ns : List Note) (hl : ns.length ≤ 1000000) (hn : ¬ notesOk ns) : Ct Try.prog 11 (YtofmiaecjnfeaaaVm.ops [Tr.pv t, .row (ns.map Note.pv)]) (.vals [Tr.pv t, .int .i64 1]) := by
  obtain ⟨x, ex, ex2, ex3⟩ := trPv t
  have c1 := Contains_badT ns hl
  rw [ex]
  refine Ct.of_V Try.func11 rfl (by simp [YtofmiaecjnfeaaaVm.ops, Try.f11]) ?_
  refine V.exec 400 ?_
  simp +contextual (maxSteps := 1000000) only [go_sem, ↓reduceIte, reduceCtorEq, yA, yB, uA, uB, uC, uD, uE, uF, Try.f11, ex2, ex3]
  refine V.call rfl rfl (by simp [dOK]) ⟨22, [], by simp only [go_sem, ↓reduceIte, reduceCtorEq, yA, yB, uA, uB, uC, uD, uE, uF], ⟨_, rfl, rfl, rfl⟩, .inl ⟨[.row (ns.map Note.pv), .fn 23 []], _, .inl (by simp only [go_sem, ↓reduceIte, reduceCtorEq, yA, yB, uA, uB, uC, uD, uE, uF]), c1, .inl ⟨_, rfl, rfl, rfl, rfl⟩⟩⟩ ?_
  refine V.exec 400 ?_
  simp +contextual (maxSteps := 1000000) only [go_sem, ↓reduceIte, reduceCtorEq, yA, yB, uA, uB, uC, uD, uE, uF, hn, ex2, ex3]
theorem collapse_stop (m : Nat) (n : Nd) (hc : ¬ (n.kids.length = 1 ∧ n.wait.length = 0)) : collapseN m n = n := by
  cases m with
  | zero => rfl
  | succ m =>
    obtain ⟨lo, ks, w, p⟩ := n
    unfold collapseN
    split
    · rename_i he
      cases he
    · rename_i he
      simp only [Nd.kids, Nd.wait, Nd.mk.injEq] at hc he
      obtain ⟨_, rfl, rfl, _⟩ := he
      exact absurd ⟨rfl, rfl⟩ hc
    · rfl
set_option maxRecDepth 20000 in
set_option maxHeartbeats 16000000 in
theorem tree_Apply_ok {h M : Nat} {t : Tr} {L : List Pair} {ns : List Note} (r : Root h (topN t) L M) (hn : notesOk ns) (hM : M + ns.length ≤ 10000) : Ct Try.prog 11 (YtofmiaecjnfeaaaVm.ops [Tr.pv t, .row (ns.map Note.pv)]) (.vals [Tr.pv (applyT h t ns), .int .i64 0]) := by
  obtain ⟨x, ex, ex2, ex3⟩ := trPv t
  have hrm := r.mass
  have c1 := Contains_badT ns (by omega)
  have c2 := tree_top t
  have hin : ∀ x ∈ ns, In (topN t).low none x.key := fun x hx => ⟨by rw [r.low]; exact slt_nil _, fun b hb => by cases hb⟩
  have c3 := put_ct (B := 10000) (by omega) h none (topN t) ns r.wf hn hin (by omega)
  have ps := put_spec h none (topN t) ns r.wf hn hin
  have ea : putN h (topN t) ns ≠ [] → applyT h t ns = some (collapseN (h + (putN h (topN t) ns).length) (headNd (growN (putN h (topN t) ns).length (putN h (topN t) ns)))) := fun hne => by
    unfold applyT
    cases hc : putN h (topN t) ns with
    | nil => exact absurd hc hne
    | cons k ks => rfl
  have ea0 : putN h (topN t) ns = [] → applyT h t ns = none := fun he => by unfold applyT; rw [he]
  rw [ex] at c2 ⊢
  have hml := masss_len (putN h (topN t) ns)
  have hmm := ps.mass
  have hlow := ps.head
  have hfull := ps.full
  have hseg := ps.seg
  rw [r.low] at hlow
  generalize putN h (topN t) ns = l0 at *
  generalize applyT h t ns = T at *
  refine Ct.of_V Try.func11 rfl (by simp [YtofmiaecjnfeaaaVm.ops, Try.f11]) ?_
  refine V.exec 400 ?_
  simp +contextual (maxSteps := 1000000) only [go_sem, ↓reduceIte, reduceCtorEq, yA, yB, uA, uB, uC, uD, uE, uF, Try.f11, ex2, ex3]
  refine V.call rfl rfl (by simp [dOK]) ⟨22, [], by simp only [go_sem, ↓reduceIte, reduceCtorEq, yA, yB, uA, uB, uC, uD, uE, uF], ⟨_, rfl, rfl, rfl⟩, .inl ⟨[.row (ns.map Note.pv), .fn 23 []], _, .inl (by simp only [go_sem, ↓reduceIte, reduceCtorEq, yA, yB, uA, uB, uC, uD, uE, uF]), c1, .inl ⟨_, rfl, rfl, rfl, rfl⟩⟩⟩ ?_
  refine V.exec 400 ?_
  simp +contextual (maxSteps := 1000000) only [go_sem, ↓reduceIte, reduceCtorEq, yA, yB, uA, uB, uC, uD, uE, uF, hn, ex2, ex3]
  refine V.call rfl rfl (by simp [dOK]) ⟨26, [], by simp only [go_sem, ↓reduceIte, reduceCtorEq, yA, yB, uA, uB, uC, uD, uE, uF], ⟨_, rfl, rfl, rfl⟩, .inl ⟨[.agg [x]], _, .inl (by simp only [go_sem, ↓reduceIte, reduceCtorEq, yA, yB, uA, uB, uC, uD, uE, uF]), c2, .inr (.inl ⟨_, rfl, rfl, rfl⟩)⟩⟩ ?_
  refine V.exec 400 ?_
  simp +contextual (maxSteps := 1000000) only [go_sem, ↓reduceIte, reduceCtorEq, yA, yB, uA, uB, uC, uD, uE, uF]
  refine V.call rfl rfl (by simp [dOK]) ⟨25, [], by simp only [go_sem, ↓reduceIte, reduceCtorEq, yA, yB, uA, uB, uC, uD, uE, uF], ⟨_, rfl, rfl, rfl⟩, .inl ⟨[(topN t).pv, .row (ns.map Note.pv)], _, .inl (by simp only [go_sem, ↓reduceIte, reduceCtorEq, yA, yB, uA, uB, uC, uD, uE, uF]), c3, .inr (.inl ⟨_, rfl, rfl, rfl⟩)⟩⟩ ?_
  refine V.exec 400 ?_
  by_cases hl0 : l0 = []
  · have h00 : ((0 : Nat) : Int) = 0 := rfl
    rw [ea0 hl0]
    subst hl0
    simp +contextual (maxSteps := 1000000) only [go_sem, ↓reduceIte, reduceCtorEq, yA, yB, uA, uB, uC, uD, uE, uF, List.map_nil, List.length_nil, h00, Tr.pv]
  · have hlp : 0 < l0.length := List.length_pos_iff.2 hl0
    have hl00 : ¬ (l0.length : Int) = 0 := by omega
    rw [ea hl0]
    obtain ⟨h', g, e1, e2, e3, e4, e5, e6⟩ := grow_spec l0.length h l0 (Nat.le_refl _) hseg hl0 (hlow hl0) (fun h0 _ => hfull h0)
    rw [e1]
    simp +contextual (maxSteps := 1000000) only [go_sem, ↓reduceIte, reduceCtorEq, yA, yB, uA, uB, uC, uD, uE, uF, hl00]
    refine V.loop (fun m ls os => ∃ (l : List Nd), l.length ≤ m ∧ l ≠ [] ∧ l.length ≤ 10000 ∧ growN m l = [g] ∧ ls = [(4, .adr 0 0), (6, .val (.row (l.map Nd.pv)))] ∧ os = [.box true [.val .nilp]]) 1 l0.length
      [(4, .adr 0 0), (6, .val (.row (l0.map Nd.pv)))] [.box true [.val .nilp]] [some 3]
      ⟨l0, Nat.le_refl _, hl0, by omega, e1, rfl, rfl⟩ (by simp only [go_sem, ↓reduceIte, reduceCtorEq, yA, yB, uA, uB, uC, uD, uE, uF]; try decide) ?_
    rintro m ls os ⟨l, hlm, hlne, hll, hgr, rfl, rfl⟩
    have hll0 : 0 < l.length := List.length_pos_iff.2 hlne
    by_cases h1 : 1 < l.length
    · have h1' : (1 : Int) < (l.length : Int) := by omega
      have c4 := tree_parts [] l [] [] (by omega) (by simp)
      simp only [ndv, List.map_nil] at c4
      have hpl := partsN_len [] l []
      obtain ⟨m', rfl⟩ : ∃ m', m = m' + 1 := ⟨m - 1, by omega⟩
      rw [growN, if_pos h1] at hgr
      refine V.exec 400 ?_
      simp +contextual (maxSteps := 1000000) only [go_sem, ↓reduceIte, reduceCtorEq, yA, yB, uA, uB, uC, uD, uE, uF, h1']
      refine V.call rfl rfl (by simp [dOK]) ⟨27, [], by simp only [go_sem, ↓reduceIte, reduceCtorEq, yA, yB, uA, uB, uC, uD, uE, uF], ⟨_, rfl, rfl, rfl⟩, .inl ⟨[.ptr (.agg [.str [], .row (l.map Nd.pv), .row [], .row []])], _, .inl (by simp only [go_sem, ↓reduceIte, reduceCtorEq, yA, yB, uA, uB, uC, uD, uE, uF]), c4, .inr (.inl ⟨_, rfl, rfl, rfl⟩)⟩⟩ ?_
      refine V.exec 400 ?_
      simp +contextual (maxSteps := 1000000) only [go_sem, ↓reduceIte, reduceCtorEq, yA, yB, uA, uB, uC, uD, uE, uF]
      exact ⟨m', _, _, [some 0], by omega, ⟨partsN [] l [], by omega, fun he => by rw [he] at hpl; simp at hpl; omega, by omega, hgr, rfl, rfl⟩, by simp only [go_sem, ↓reduceIte, reduceCtorEq, yA, yB, uA, uB, uC, uD, uE, uF]; try decide⟩
    · have h1' : ¬ (1 : Int) < (l.length : Int) := by omega
      have hlg : l = [g] := by
        cases m with
        | zero => exact hgr
        | succ m => rw [growN, if_neg h1] at hgr; exact hgr
      subst hlg
      have h0g : (([g] : List Nd).map Nd.pv)[(0 : Int).toNat]? = some g.pv := rfl
      refine V.exec 400 ?_
      have h11 : ¬ (1 : Int) < ((1 : Nat) : Int) := by decide
      simp +contextual (maxSteps := 1000000) only [go_sem, ↓reduceIte, reduceCtorEq, yA, yB, uA, uB, uC, uD, uE, uF, h1', List.map_cons, List.map_nil, List.length_cons, List.length_nil, Int.le_refl, Int.toNat_zero, h11]
      obtain ⟨f, hf⟩ : ∃ f, f = h + l0.length := ⟨_, rfl⟩
      have hC : collapseN (h + l0.length) (headNd [g]) = collapseN f g := by rw [hf]; rfl
      rw [hC]
      refine V.loop (fun m ls os => ∃ (n' : Nd) (h2 : Nat), h2 ≤ m ∧ WF h2 none n' ∧ collapseN m n' = collapseN f g ∧ ls = [(4, .adr 0 0), (7, .val n'.pv)] ∧ os = [.box true [.val .nilp]]) 1 f
        [(4, .adr 0 0), (7, .val g.pv)] [.box true [.val .nilp]] [some 0]
        ⟨g, h', by omega, e3, rfl, rfl, rfl⟩ (by simp only [go_sem, ↓reduceIte, reduceCtorEq, yA, yB, uA, uB, uC, uD, uE, uF]; try decide) ?_
      rintro m ls os ⟨n', h2, hle, wf, hcl, rfl, rfl⟩
      rw [Nd.pv_eq]
      by_cases hk1 : n'.kids.length = 1
      · have hk1' : (n'.kids.length : Int) = 1 := by omega
        by_cases hw0 : n'.wait.length = 0
        · have hw0' : (n'.wait.length : Int) = 0 := by omega
          obtain ⟨k, hk⟩ := List.length_eq_one_iff.1 hk1
          have hw := List.eq_nil_of_length_eq_zero hw0
          obtain ⟨lo, ks, w, p⟩ := n'
          simp only [Nd.kids, Nd.wait] at hk hw
          subst hk
          subst hw
          simp only [Nd.kids, Nd.wait, Nd.low, Nd.pairs] at hk1' hw0' ⊢
          have h1e : ((1 : Nat) : Int) = 1 := rfl
          have h0e : ((0 : Nat) : Int) = 0 := rfl
          have h0k : ([k].map Nd.pv)[(0 : Int).toNat]? = some k.pv := rfl
          cases h2 with
          | zero => exact absurd wf.1 (by simp [Nd.kids])
          | succ h2 =>
            obtain ⟨m', rfl⟩ : ∃ m', m = m' + 1 := ⟨m - 1, by omega⟩
            have wk : WF h2 none k := wf.2.2.2.2.2.2.1.1
            refine V.exec 400 ?_
            simp +contextual (maxSteps := 1000000) only [go_sem, ↓reduceIte, reduceCtorEq, yA, yB, uA, uB, uC, uD, uE, uF, h1e, h0e, List.map_cons, List.map_nil, List.length_cons, List.length_nil, Int.le_refl, Int.toNat_zero]
            exact ⟨m', _, _, [some 0], by omega, ⟨k, h2, by omega, wk, hcl, rfl, rfl⟩, by simp only [go_sem, ↓reduceIte, reduceCtorEq, yA, yB, uA, uB, uC, uD, uE, uF]; try decide⟩
        · have hw0' : ¬ (n'.wait.length : Int) = 0 := by omega
          rw [← hcl, collapse_stop m n' (fun hx => hw0 hx.2), show Tr.pv (some n') = .agg [n'.pv] from rfl, Nd.pv_eq]
          refine V.exec 400 ?_
          simp +contextual (maxSteps := 1000000) only [go_sem, ↓reduceIte, reduceCtorEq, yA, yB, uA, uB, uC, uD, uE, uF, hk1', hw0']
      · have hk1' : ¬ (n'.kids.length : Int) = 1 := by omega
        rw [← hcl, collapse_stop m n' (fun hx => hk1 hx.1), show Tr.pv (some n') = .agg [n'.pv] from rfl, Nd.pv_eq]
        refine V.exec 400 ?_
        simp +contextual (maxSteps := 1000000) only [go_sem, ↓reduceIte, reduceCtorEq, yA, yB, uA, uB, uC, uD, uE, uF, hk1']
/-- Apply: what comes back stands well, and holds what the document says. -/
theorem tree_Apply {t : Tr} {L : List Pair} {H M : Nat} (g : GoodT t L H M) (ns : List Note) (hM : M + ns.length ≤ 10000) : ∃ t', Ct Try.prog 11 (YtofmiaecjnfeaaaVm.ops [Tr.pv t, .row (ns.map Note.pv)]) (.vals [Tr.pv t', .int .i64 (if notesOk ns then 0 else 1)]) ∧ GoodT t' (if notesOk ns then appV L ns else L) (H + M + ns.length) (M + ns.length) := by
  by_cases hn : notesOk ns
  · obtain ⟨h, hh, r⟩ := g
    rw [if_pos hn, if_pos hn]
    exact ⟨_, tree_Apply_ok r hn hM, (apply_spec r hn).mono (by omega) (by omega)⟩
  · rw [if_neg hn, if_neg hn]
    exact ⟨t, tree_Apply_bad t ns (by omega) hn, g.mono (by omega) (by omega)⟩
end Go.Proofs.Ytofmiaecjnfeaaa
set_option linter.unusedVariables false
set_option linter.unusedSimpArgs false
set_option maxRecDepth 8000
namespace Go.Proofs.Ytofmiaecjnfeaaa
open Nat renaming reduceAdd → uA, reduceLT → uB, reduceEqDiff → uC, reduceLeDiff → uD, reduceSub → uE, reduceMul → uF
open Bool renaming false_eq_true → yA, true_eq_false → yB
open Go Go.Proofs Go.Proofs.YtofmiaecjnfeaaaVm Go.Proofs.Ytofmiaecjnfeaaa.Ty

def fewT (l : List Note) (m : Nat) : Prop := l.length ≤ m ∧ ∀ p ∈ l, p.key.length ≤ 300 ∧ p.value.length ≤ 300
instance instFewT (l : List Note) (m : Nat) : Decidable (fewT l m) := by unfold fewT; infer_instance
def del0 : Note := ⟨2, [], [], 0⟩
theorem del0_ok : del0.ok := by decide
set_option maxHeartbeats 8000000 in
theorem ref12_Few (l : List Note) (m : Nat) (hl : l.length ≤ 9223372036854775807) : Ct Try.prog 10 (YtofmiaecjnfeaaaVm.ops [.row (l.map Note.pv), .int .i64 m]) (.vals [.bool (decide (fewT l m))]) := by
  have c1 := ref09_Right del0
  refine Ct.of_V Try.func10 rfl (by simp [YtofmiaecjnfeaaaVm.ops, Try.f10]) ?_
  refine V.exec 400 ?_
  simp +contextual (maxSteps := 1000000) only [go_sem, ↓reduceIte, reduceCtorEq, yA, yB, uA, uB, uC, uD, uE, uF, Try.f10]
  refine V.loop (fun f ls os => ∃ (i : Nat), i ≤ l.length ∧ f = l.length - i ∧ (∀ s ∈ l.take i, s.key.length ≤ 300 ∧ s.value.length ≤ 300) ∧
        ls = [(0, .val (.row (l.map Note.pv))), (1, .val (.int .i64 m)), (5, .val (.int .i64 i))] ∧ os = []) 0 l.length
      [(0, .val (.row (l.map Note.pv))), (1, .val (.int .i64 m)), (5, .val (.int .i64 0))] [] []
      ⟨0, Nat.zero_le _, rfl, by simp, rfl, rfl⟩ (by simp only [go_sem, ↓reduceIte, reduceCtorEq, yA, yB, uA, uB, uC, uD, uE, uF]) ?_
  rintro f ls os ⟨i, hi, rfl, hiff, rfl, rfl⟩
  refine V.exec 400 ?_
  by_cases hlt : i < l.length
  · have hlt' : (i : Int) < (l.length : Int) := by omega
    obtain ⟨x, hx⟩ : ∃ x, l[i]? = some x := ⟨_, List.getElem?_eq_getElem hlt⟩
    have hw : IntKind.i64.wrap ((i : Int) + 1) = ((i + 1 : Nat) : Int) := by rw [wrap_small3] <;> omega
    have hxm := List.mem_of_getElem? hx
    have hfalse : ¬ (x.key.length ≤ 300 ∧ x.value.length ≤ 300) → some [PV.bool false] = some [PV.bool (decide (fewT l m))] := fun h => by
      have : ¬ fewT l m := fun g => h (g.2 x hxm)
      simp [this]
    have hnext : x.key.length ≤ 300 ∧ x.value.length ≤ 300 → ∀ s ∈ l.take (i + 1), s.key.length ≤ 300 ∧ s.value.length ≤ 300 := fun h s hs => by
      rw [List.take_add_one, hx] at hs
      rcases List.mem_append.1 hs with hs | hs
      · exact hiff s hs
      · simp at hs; rw [hs]; exact h
    simp +contextual (maxSteps := 1000000) only [go_sem, ↓reduceIte, reduceCtorEq, yA, yB, uA, uB, uC, uD, uE, uF, hlt', hx, Note.pv, hw]
    (repeat' (first | (intro _) | (refine ⟨by kernel_rfl, ?_⟩) | (apply And.intro)))
    all_goals first
      | exact ⟨l.length - (i + 1), _, [], [], by omega, ⟨i + 1, by omega, rfl, hnext ⟨by omega, by omega⟩, rfl, rfl⟩, by simp only [go_sem, ↓reduceIte, reduceCtorEq, yA, yB, uA, uB, uC, uD, uE, uF]⟩
      | exact hfalse fun h => by have := h.1; have := h.2; omega
  · have hlt' : ¬ (i : Int) < (l.length : Int) := by omega
    rw [List.take_of_length_le (by omega)] at hiff
    by_cases hm : l.length ≤ m
    · have hm' : (l.length : Int) ≤ (m : Int) := by omega
      have hf : fewT l m := ⟨hm, hiff⟩
      simp +contextual (maxSteps := 1000000) only [go_sem, ↓reduceIte, reduceCtorEq, yA, yB, uA, uB, uC, uD, uE, uF, hlt', hm']
      refine V.call rfl rfl (by simp [dOK]) ⟨21, [], by simp only [go_sem, ↓reduceIte, reduceCtorEq, yA, yB, uA, uB, uC, uD, uE, uF], ⟨_, rfl, rfl, rfl⟩, .inl ⟨[del0.pv], _, .inl (by simp only [go_sem, ↓reduceIte, reduceCtorEq, yA, yB, uA, uB, uC, uD, uE, uF, Note.pv, del0]), c1, .inl ⟨_, rfl, rfl, rfl, rfl⟩⟩⟩ ?_
      refine V.exec 400 ?_
      simp +contextual (maxSteps := 1000000) only [go_sem, ↓reduceIte, reduceCtorEq, yA, yB, uA, uB, uC, uD, uE, uF, hf, del0_ok]
    · have hm' : ¬ (l.length : Int) ≤ (m : Int) := by omega
      have hf : ¬ fewT l m := fun h => hm h.1
      simp +contextual (maxSteps := 1000000) only [go_sem, ↓reduceIte, reduceCtorEq, yA, yB, uA, uB, uC, uD, uE, uF, hlt', hm', hf]
def Info.Small (x : Info) : Prop := x.depth ≤ 100000 ∧ x.kids ≤ 100000
set_option maxHeartbeats 8000000 in
theorem ref12_deepest (l : List Info) (hl : l.length ≤ 200000000) : Ct Try.prog 48 (YtofmiaecjnfeaaaVm.ops [.row (l.map Info.pv)]) (.vals [.int .i64 (deepN l)]) := by
  refine Ct.of_V Try.func48 rfl (by simp [YtofmiaecjnfeaaaVm.ops, Try.f48]) ?_
  refine V.exec 400 ?_
  simp +contextual (maxSteps := 1000000) only [go_sem, ↓reduceIte, reduceCtorEq, yA, yB, uA, uB, uC, uD, uE, uF, Try.f48]
  refine V.loop (fun f ls os => ∃ (i : Nat), i ≤ l.length ∧ f = l.length - i ∧
        ls = [(0, .val (.row (l.map Info.pv))), (3, .val (.int .i64 (deepN (l.take i)))), (4, .val (.int .i64 i))] ∧ os = []) 0 l.length
      [(0, .val (.row (l.map Info.pv))), (3, .val (.int .i64 0)), (4, .val (.int .i64 0))] [] []
      ⟨0, Nat.zero_le _, rfl, rfl, rfl⟩ (by simp only [go_sem, ↓reduceIte, reduceCtorEq, yA, yB, uA, uB, uC, uD, uE, uF]) ?_
  rintro f ls os ⟨i, hi, rfl, rfl, rfl⟩
  refine V.exec 400 ?_
  by_cases hlt : i < l.length
  · have hlt' : (i : Int) < (l.length : Int) := by omega
    obtain ⟨x, hx⟩ : ∃ x, l[i]? = some x := ⟨_, List.getElem?_eq_getElem hlt⟩
    have hw : IntKind.i64.wrap ((i : Int) + 1) = ((i + 1 : Nat) : Int) := by rw [wrap_small3] <;> omega
    have hd : deepN (l.take (i + 1)) = if deepN (l.take i) < x.depth then x.depth else deepN (l.take i) := by
      unfold deepN
      rw [List.take_add_one, hx, List.foldl_append]; rfl
    by_cases hdd : deepN (l.take i) < x.depth
    · have hdd' : (deepN (l.take i) : Int) < (x.depth : Int) := by omega
      rw [if_pos hdd] at hd
      simp +contextual (maxSteps := 1000000) only [go_sem, ↓reduceIte, reduceCtorEq, yA, yB, uA, uB, uC, uD, uE, uF, hlt', hx, Info.pv, hw, hdd']
      exact ⟨l.length - (i + 1), _, [], [], by omega, ⟨i + 1, by omega, rfl, rfl, rfl⟩, by simp only [go_sem, ↓reduceIte, reduceCtorEq, yA, yB, uA, uB, uC, uD, uE, uF, hd]⟩
    · have hdd' : ¬ (deepN (l.take i) : Int) < (x.depth : Int) := by omega
      rw [if_neg hdd] at hd
      simp +contextual (maxSteps := 1000000) only [go_sem, ↓reduceIte, reduceCtorEq, yA, yB, uA, uB, uC, uD, uE, uF, hlt', hx, Info.pv, hw, hdd']
      exact ⟨l.length - (i + 1), _, [], [], by omega, ⟨i + 1, by omega, rfl, rfl, rfl⟩, by simp only [go_sem, ↓reduceIte, reduceCtorEq, yA, yB, uA, uB, uC, uD, uE, uF, hd]⟩
  · have hlt' : ¬ (i : Int) < (l.length : Int) := by omega
    obtain rfl : i = l.length := by omega
    have et : l.take l.length = l := List.take_length
    simp +contextual (maxSteps := 1000000) only [go_sem, ↓reduceIte, reduceCtorEq, yA, yB, uA, uB, uC, uD, uE, uF, hlt', et]
end Go.Proofs.Ytofmiaecjnfeaaa
set_option linter.unusedVariables false
set_option linter.unusedSimpArgs false
set_option maxRecDepth 8000
namespace Go.Proofs.Ytofmiaecjnfeaaa
open Nat renaming reduceAdd → uA, reduceLT → uB, reduceEqDiff → uC, reduceLeDiff → uD, reduceSub → uE, reduceMul → uF
open Bool renaming false_eq_true → yA, true_eq_false → yB
open Go Go.Proofs Go.Proofs.YtofmiaecjnfeaaaVm Go.Proofs.Ytofmiaecjnfeaaa.Ty

theorem infosN_one (d : Nat) (n : Nd) : 1 ≤ (infosN d n).length := by rw [infosN_eq]; simp
theorem infos_at {L pre rest : List Info} {d : Nat} {n : Nd} (e : L = pre ++ (infosN d n ++ rest)) : L[pre.length]? = some (headI d n) := by
  rw [e, infosN_eq, List.getElem?_append_right (Nat.le_refl _), Nat.sub_self]; rfl
theorem infos_kid {L pre rest : List Info} {d : Nat} {n k : Nd} {i : Nat} (e : L = pre ++ (infosN d n ++ rest)) (hk : n.kids[i]? = some k) :
    L = (pre ++ headI d n :: infosL (d + 1) (n.kids.take i)) ++ (infosN (d + 1) k ++ (infosL (d + 1) (n.kids.drop (i + 1)) ++ rest)) := by
  have hs : n.kids = n.kids.take i ++ k :: n.kids.drop (i + 1) := by
    obtain ⟨hlt, hk'⟩ := List.getElem?_eq_some_iff.1 hk
    rw [← hk']
    exact (List.take_append_drop i n.kids).symm.trans (by rw [List.drop_eq_getElem_cons hlt])
  rw [e, infosN_eq]
  conv => lhs; rw [hs]
  rw [infosL_app, infosL]
  simp only [List.append_assoc, List.cons_append]
theorem infosL_step {d : Nat} {ks : List Nd} {i : Nat} {k : Nd} (hk : ks[i]? = some k) : (infosL d (ks.take (i + 1))).length = (infosL d (ks.take i)).length + (infosN d k).length := by
  rw [List.take_add_one, hk, infosL_app, List.length_append]
  simp [infosL]
set_option maxRecDepth 20000 in
set_option maxHeartbeats 16000000 in
theorem ref12_end : ∀ (h : Nat) (hi : Option (List UInt8)) (n : Nd) (d : Nat) (L pre rest : List Info), WF h hi n → L = pre ++ (infosN d n ++ rest) → L.length ≤ 200000000 → d + h ≤ 10000 →
    Ct Try.prog 47 (YtofmiaecjnfeaaaVm.ops [.row (L.map Info.pv), .int .i64 pre.length, .int .i64 d, .int .i64 (d + h : Nat)]) (.vals [.int .i64 (pre.length + (infosN d n).length : Nat)])
  | h, hi, n, d, L, pre, rest, w, e, hL, hd => by
    have hat := infos_at e
    have hlen : L.length = pre.length + ((infosN d n).length + rest.length) := by rw [e]; simp
    have hone := infosN_one d n
    obtain ⟨p, hp⟩ : ∃ p, p = pre.length := ⟨_, rfl⟩
    have hpl : ¬ (L.length : Int) ≤ (p : Int) := by omega
    have hw : IntKind.i64.wrap ((p : Int) + 1) = ((p + 1 : Nat) : Int) := by rw [wrap_small3] <;> omega
    cases h with
    | zero =>
      obtain ⟨w1, w2, w3, w4, w5, w6⟩ := w
      have hres : (infosN d n).length = 1 := by rw [infosN_eq, w1]; rfl
      rw [hres, ← hp]
      have hH : (headI d n).pv = .agg [.int .i64 d, .int .i64 0, .str n.low, .row [], .row (n.pairs.map Pair.pv)] := by
        unfold headI Info.pv
        rw [w1, w2]; rfl
      rw [← hp] at hat
      generalize headI d n = H at *
      have hp4 : ¬ (4 : Int) < (n.pairs.length : Int) := by omega
      rw [Nat.add_zero]
      have h00 : ¬ (0 : Int) < ((0 : Nat) : Int) := by decide
      refine Ct.of_V Try.func47 rfl (by simp [YtofmiaecjnfeaaaVm.ops, Try.f47]) ?_
      refine V.exec 400 ?_
      simp +contextual (maxSteps := 1000000) only [go_sem, ↓reduceIte, reduceCtorEq, yA, yB, uA, uB, uC, uD, uE, uF, Try.f47, hpl, hat, hH, hw, hp4, h00]
    | succ h =>
      obtain ⟨w1, w2, w3, w4, w5, w6, w7, w8, w9⟩ := w
      obtain ⟨k1, k2⟩ := headLow_of w6
      have hk0 : ¬ (n.kids.length : Int) = 0 := fun h0 => k1 (List.eq_nil_of_length_eq_zero (by omega))
      have hk4 : ¬ (4 : Int) < (n.kids.length : Int) := by omega
      have hkn : ¬ (n.kids.length : Int) < 0 := by omega
      have hn6 : ¬ (6 : Int) < (n.wait.length : Int) := by omega
      have hH : (headI d n).pv = .agg [.int .i64 d, .int .i64 n.kids.length, .str n.low, .row (n.wait.map Note.pv), .row []] := by
        unfold headI Info.pv
        rw [w1]; rfl
      have hkid := fun i k => @infos_kid L pre rest d n k i e
      have hlen2 : (infosN d n).length = 1 + (infosL (d + 1) n.kids).length := by rw [infosN_eq, List.length_cons]; omega
      rw [hlen2] at hlen ⊢
      have hih : ∀ i k, n.kids[i]? = some k → Ct Try.prog 47 (YtofmiaecjnfeaaaVm.ops [.row (L.map Info.pv), .int .i64 (p + 1 + (infosL (d + 1) (n.kids.take i)).length : Nat), .int .i64 (d + 1 : Nat), .int .i64 (d + (h + 1) : Nat)]) (.vals [.int .i64 (p + 1 + (infosL (d + 1) (n.kids.take (i + 1))).length : Nat)]) ∧ p + 1 + (infosL (d + 1) (n.kids.take i)).length < L.length ∧ L[p + 1 + (infosL (d + 1) (n.kids.take i)).length]? = some (headI (d + 1) k) ∧ (h = 0 → 1 < n.kids.length → k.pairs ≠ []) ∧ (k.kids = [] → h = 0) := fun i k hk => by
        have e2 := hkid i k hk
        obtain ⟨b, hb⟩ := seg_mem w7 (List.mem_of_getElem? hk)
        have hpl2 : (pre ++ headI d n :: infosL (d + 1) (n.kids.take i)).length = p + 1 + (infosL (d + 1) (n.kids.take i)).length := by simp; omega
        have c := ref12_end h b k (d + 1) L _ _ hb e2 hL (by omega)
        have a := infos_at e2
        rw [hpl2] at c a
        rw [infosL_step hk, show d + (h + 1) = d + 1 + h by omega, show p + 1 + ((infosL (d + 1) (n.kids.take i)).length + (infosN (d + 1) k).length) = p + 1 + (infosL (d + 1) (n.kids.take i)).length + (infosN (d + 1) k).length by omega]
        refine ⟨c, (List.getElem?_eq_some_iff.1 a).1, a, fun h0 h1 => w8 h0 h1 k (List.mem_of_getElem? hk), fun hkk => ?_⟩
        cases h with
        | zero => rfl
        | succ h => exact absurd hkk (headLow_of hb.2.2.2.2.2.1).1
      rw [← hp] at hat ⊢
      generalize headI d n = H at *
      have hw2 : IntKind.i64.wrap ((d : Int) + 1) = ((d + 1 : Nat) : Int) := by rw [wrap_small3] <;> omega
      clear hkid
      generalize n.kids = ks at *
      have h00 : ¬ (0 : Int) < ((0 : Nat) : Int) := by decide
      refine Ct.of_V Try.func47 rfl (by simp [YtofmiaecjnfeaaaVm.ops, Try.f47]) ?_
      refine V.exec 400 ?_
      simp +contextual (maxSteps := 1000000) only [go_sem, ↓reduceIte, reduceCtorEq, yA, yB, uA, uB, uC, uD, uE, uF, Try.f47, hpl, hat, hH, hw, hk0, hk4, hkn, hn6, h00]
      refine V.loop (fun m ls os => ∃ (i : Nat), i ≤ ks.length ∧ m = ks.length - i ∧
          ls = [(0, .val (.row (L.map Info.pv))), (2, .val (.int .i64 d)), (3, .val (.int .i64 (d + (h + 1) : Nat))), (9, .adr 0 0), (10, .val (.int .i64 (p + 1 + (infosL (d + 1) (ks.take i)).length : Nat))), (11, .val (.int .i64 i))] ∧ os = [.box true [.val (.int .i64 d), .val (.int .i64 ks.length), .val (.str n.low), .val (.row (n.wait.map Note.pv)), .val (.row [])]]) 0 ks.length
        [(0, .val (.row (L.map Info.pv))), (2, .val (.int .i64 d)), (3, .val (.int .i64 (d + (h + 1) : Nat))), (9, .adr 0 0), (10, .val (.int .i64 (p + 1 : Nat))), (11, .val (.int .i64 0))] [.box true [.val (.int .i64 d), .val (.int .i64 ks.length), .val (.str n.low), .val (.row (n.wait.map Note.pv)), .val (.row [])]] [some 22]
        ⟨0, Nat.zero_le _, rfl, by simp [infosL], rfl⟩ (by simp only [go_sem, ↓reduceIte, reduceCtorEq, yA, yB, uA, uB, uC, uD, uE, uF]; try decide) ?_
      rintro m ls os ⟨i, hi', rfl, rfl, rfl⟩
      refine V.exec 400 ?_
      by_cases hlt : i < ks.length
      · have hlt' : (i : Int) < (ks.length : Int) := by omega
        obtain ⟨k, hk⟩ : ∃ k, ks[i]? = some k := ⟨_, List.getElem?_eq_getElem hlt⟩
        have hwi : IntKind.i64.wrap ((i : Int) + 1) = ((i + 1 : Nat) : Int) := by rw [wrap_small3] <;> omega
        obtain ⟨hc, hp2, hx2, hfull, hleaf⟩ := hih i k hk
        have hpl2 : ((p + 1 + (infosL (d + 1) (ks.take i)).length : Nat) : Int) < (L.length : Int) := by omega
        have hH2 : (headI (d + 1) k).pv = .agg [.int .i64 (d + 1 : Nat), .int .i64 k.kids.length, .str k.low, .row (k.wait.map Note.pv), .row (k.pairs.map Pair.pv)] := rfl
        have hge : ¬ ((p + 1 + (infosL (d + 1) (ks.take (i + 1))).length : Nat) : Int) < 0 := by omega
        by_cases q1 : k.kids.length = 0
        · have q1' : (k.kids.length : Int) = 0 := by omega
          by_cases q2 : k.pairs.length = 0
          · have q2' : (k.pairs.length : Int) = 0 := by omega
            have q3 : ¬ 1 < ks.length := fun h1 => hfull (hleaf (List.eq_nil_of_length_eq_zero q1)) h1 (List.eq_nil_of_length_eq_zero q2)
            have q3' : ¬ (1 : Int) < (ks.length : Int) := by omega
            simp +contextual (maxSteps := 1000000) only [go_sem, ↓reduceIte, reduceCtorEq, yA, yB, uA, uB, uC, uD, uE, uF, hlt', hpl2, hx2, hH2, q1', q2', q3', hw2]
            refine V.call rfl rfl (by simp [dOK]) ⟨47, [], by simp only [go_sem, ↓reduceIte, reduceCtorEq, yA, yB, uA, uB, uC, uD, uE, uF], ⟨_, rfl, rfl, rfl⟩, .inl ⟨[.row (L.map Info.pv), .int .i64 (p + 1 + (infosL (d + 1) (ks.take i)).length : Nat), .int .i64 (d + 1 : Nat), .int .i64 (d + (h + 1) : Nat)], _, .inl (by simp only [go_sem, ↓reduceIte, reduceCtorEq, yA, yB, uA, uB, uC, uD, uE, uF]), hc, .inl ⟨_, rfl, rfl, rfl, rfl⟩⟩⟩ ?_
            refine V.exec 400 ?_
            simp +contextual (maxSteps := 1000000) only [go_sem, ↓reduceIte, reduceCtorEq, yA, yB, uA, uB, uC, uD, uE, uF, hge, hwi]
            exact ⟨ks.length - (i + 1), _, _, [some 0], by omega, ⟨i + 1, by omega, rfl, rfl, rfl⟩, by simp only [go_sem, ↓reduceIte, reduceCtorEq, yA, yB, uA, uB, uC, uD, uE, uF]; try decide⟩
          · have q2' : ¬ (k.pairs.length : Int) = 0 := by omega
            simp +contextual (maxSteps := 1000000) only [go_sem, ↓reduceIte, reduceCtorEq, yA, yB, uA, uB, uC, uD, uE, uF, hlt', hpl2, hx2, hH2, q1', q2', hw2]
            refine V.call rfl rfl (by simp [dOK]) ⟨47, [], by simp only [go_sem, ↓reduceIte, reduceCtorEq, yA, yB, uA, uB, uC, uD, uE, uF], ⟨_, rfl, rfl, rfl⟩, .inl ⟨[.row (L.map Info.pv), .int .i64 (p + 1 + (infosL (d + 1) (ks.take i)).length : Nat), .int .i64 (d + 1 : Nat), .int .i64 (d + (h + 1) : Nat)], _, .inl (by simp only [go_sem, ↓reduceIte, reduceCtorEq, yA, yB, uA, uB, uC, uD, uE, uF]), hc, .inl ⟨_, rfl, rfl, rfl, rfl⟩⟩⟩ ?_
            refine V.exec 400 ?_
            simp +contextual (maxSteps := 1000000) only [go_sem, ↓reduceIte, reduceCtorEq, yA, yB, uA, uB, uC, uD, uE, uF, hge, hwi]
            exact ⟨ks.length - (i + 1), _, _, [some 0], by omega, ⟨i + 1, by omega, rfl, rfl, rfl⟩, by simp only [go_sem, ↓reduceIte, reduceCtorEq, yA, yB, uA, uB, uC, uD, uE, uF]; try decide⟩
        · have q1' : ¬ (k.kids.length : Int) = 0 := by omega
          simp +contextual (maxSteps := 1000000) only [go_sem, ↓reduceIte, reduceCtorEq, yA, yB, uA, uB, uC, uD, uE, uF, hlt', hpl2, hx2, hH2, q1', hw2]
          refine V.call rfl rfl (by simp [dOK]) ⟨47, [], by simp only [go_sem, ↓reduceIte, reduceCtorEq, yA, yB, uA, uB, uC, uD, uE, uF], ⟨_, rfl, rfl, rfl⟩, .inl ⟨[.row (L.map Info.pv), .int .i64 (p + 1 + (infosL (d + 1) (ks.take i)).length : Nat), .int .i64 (d + 1 : Nat), .int .i64 (d + (h + 1) : Nat)], _, .inl (by simp only [go_sem, ↓reduceIte, reduceCtorEq, yA, yB, uA, uB, uC, uD, uE, uF]), hc, .inl ⟨_, rfl, rfl, rfl, rfl⟩⟩⟩ ?_
          refine V.exec 400 ?_
          simp +contextual (maxSteps := 1000000) only [go_sem, ↓reduceIte, reduceCtorEq, yA, yB, uA, uB, uC, uD, uE, uF, hge, hwi]
          exact ⟨ks.length - (i + 1), _, _, [some 0], by omega, ⟨i + 1, by omega, rfl, rfl, rfl⟩, by simp only [go_sem, ↓reduceIte, reduceCtorEq, yA, yB, uA, uB, uC, uD, uE, uF]; try decide⟩
      · have hlt' : ¬ (i : Int) < (ks.length : Int) := by omega
        obtain rfl : i = ks.length := by omega
        have et : ks.take ks.length = ks := List.take_length
        simp +contextual (maxSteps := 1000000) only [go_sem, ↓reduceIte, reduceCtorEq, yA, yB, uA, uB, uC, uD, uE, uF, hlt', et]
        rw [Nat.add_assoc]
  termination_by h => h
end Go.Proofs.Ytofmiaecjnfeaaa
set_option linter.unusedVariables false
set_option linter.unusedSimpArgs false
set_option maxRecDepth 8000
namespace Go.Proofs.Ytofmiaecjnfeaaa
open Nat renaming reduceAdd → uA, reduceLT → uB, reduceEqDiff → uC, reduceLeDiff → uD, reduceSub → uE, reduceMul → uF
open Bool renaming false_eq_true → yA, true_eq_false → yB
open Go Go.Proofs Go.Proofs.YtofmiaecjnfeaaaVm Go.Proofs.Ytofmiaecjnfeaaa.Ty

/-- What stands above: the string, and whether there is one. -/
def HiOf (o : Option (List UInt8)) (hs : List UInt8) (b : Bool) : Prop := (b = true ∧ o = some hs) ∨ (b = false ∧ o = none)
set_option maxRecDepth 20000 in
set_option maxHeartbeats 16000000 in
theorem ref12_between (L : List Info) (a : Nat) (x : Info) (hL : L.length ≤ 200000000) (ha : L[a]? = some x) (hb : BetwOK x (L.drop (a + 1))) (h1 : x.notes.length ≤ 1000000) (h2 : x.pairs.length ≤ 1000000) :
    Ct Try.prog 50 (YtofmiaecjnfeaaaVm.ops [.row (L.map Info.pv), .int .i64 a]) (.vals [.bool true]) := by
  have hal : a < L.length := (List.getElem?_eq_some_iff.1 ha).1
  have hal' : (a : Int) < (L.length : Int) := by omega
  have hw : IntKind.i64.wrap ((a : Int) + 1) = ((a + 1 : Nat) : Int) := by rw [wrap_small3] <;> omega
  obtain ⟨o, ho⟩ : ∃ o, highOf x.depth (L.drop (a + 1)) = o := ⟨_, rfl⟩
  unfold BetwOK at hb
  rw [ho] at hb
  have hH : x.pv = .agg [.int .i64 x.depth, .int .i64 x.kids, .str x.low, .row (x.notes.map Note.pv), .row (x.pairs.map Pair.pv)] := rfl
  have hnv : ∀ k hs b, (In x.low o k) → HiOf o hs b → ¬ slt k x.low ∧ (b = true → slt k hs) := fun k hs b hi hh => ⟨hi.1, fun hb => by
    rcases hh with ⟨_, h⟩ | ⟨h, _⟩
    · exact hi.2 _ h
    · rw [hb] at h; cases h⟩
  refine Ct.of_V Try.func50 rfl (by simp [YtofmiaecjnfeaaaVm.ops, Try.f50]) ?_
  refine V.exec 400 ?_
  simp +contextual (maxSteps := 1000000) only [go_sem, ↓reduceIte, reduceCtorEq, yA, yB, uA, uB, uC, uD, uE, uF, Try.f50, ha, hH, hw, hal']
  refine V.loop (fun m ls os => ∃ (j : Nat) (hs : List UInt8) (b : Bool), a + 1 ≤ j ∧ j ≤ L.length ∧ m = L.length - j ∧ ((b = true ∧ o = some hs) ∨ (b = false ∧ highOf x.depth (L.drop j) = o)) ∧
        ls = [(0, .val (.row (L.map Info.pv))), (5, .adr 0 0), (6, .val (.str hs)), (7, .val (.bool b)), (8, .val (.int .i64 j))] ∧ os = [.box true [.val (.int .i64 x.depth), .val (.int .i64 x.kids), .val (.str x.low), .val (.row (x.notes.map Note.pv)), .val (.row (x.pairs.map Pair.pv))]]) 0 (L.length - (a + 1))
      [(0, .val (.row (L.map Info.pv))), (5, .adr 0 0), (6, .val (.str [])), (7, .val (.bool false)), (8, .val (.int .i64 (a + 1 : Nat)))] [.box true [.val (.int .i64 x.depth), .val (.int .i64 x.kids), .val (.str x.low), .val (.row (x.notes.map Note.pv)), .val (.row (x.pairs.map Pair.pv))]] [some 7]
      ⟨a + 1, [], false, Nat.le_refl _, hal, rfl, .inr ⟨rfl, ho⟩, rfl, rfl⟩ (by simp only [go_sem, ↓reduceIte, reduceCtorEq, yA, yB, uA, uB, uC, uD, uE, uF]; try decide) ?_
  rintro m ls os ⟨j, hs, b, hj1, hj2, rfl, hbo, rfl, rfl⟩
  have hin : ¬ (b = false ∧ j < L.length) → HiOf o hs b := fun hn => by
    rcases hbo with h | ⟨h, h'⟩
    · exact .inl h
    · have : L.length ≤ j := by
        apply Classical.byContradiction
        intro hc
        exact hn ⟨h, by omega⟩
      rw [List.drop_eq_nil_of_le this] at h'
      exact .inr ⟨h, h'.symm⟩
  by_cases hc : b = false ∧ j < L.length
  · obtain ⟨rfl, hlt⟩ := hc
    have hlt' : (j : Int) < (L.length : Int) := by omega
    obtain ⟨y, hy⟩ : ∃ y, L[j]? = some y := ⟨_, List.getElem?_eq_getElem hlt⟩
    have hYp : y.pv = .agg [.int .i64 y.depth, .int .i64 y.kids, .str y.low, .row (y.notes.map Note.pv), .row (y.pairs.map Pair.pv)] := rfl
    have hwj : IntKind.i64.wrap ((j : Int) + 1) = ((j + 1 : Nat) : Int) := by rw [wrap_small3] <;> omega
    have hdr : L.drop j = y :: L.drop (j + 1) := by
      obtain ⟨_, hy'⟩ := List.getElem?_eq_some_iff.1 hy
      rw [← hy']
      exact List.drop_eq_getElem_cons hlt
    have h7 : highOf x.depth (L.drop j) = o := by
      rcases hbo with ⟨h, _⟩ | ⟨_, h⟩
      · cases h
      · exact h
    rw [hdr, highOf] at h7
    by_cases hd : y.depth ≤ x.depth
    · have hd' : (y.depth : Int) ≤ (x.depth : Int) := by omega
      rw [if_pos hd] at h7
      refine V.exec 400 ?_
      simp +contextual (maxSteps := 1000000) only [go_sem, ↓reduceIte, reduceCtorEq, yA, yB, uA, uB, uC, uD, uE, uF, hlt', hy, hYp, hd', hwj]
      exact ⟨by kernel_rfl, L.length - (j + 1), _, _, [some 0], by omega, ⟨j + 1, y.low, true, by omega, by omega, rfl, .inl ⟨rfl, h7.symm⟩, rfl, rfl⟩, by simp only [go_sem, ↓reduceIte, reduceCtorEq, yA, yB, uA, uB, uC, uD, uE, uF]; try decide⟩
    · have hd' : ¬ (y.depth : Int) ≤ (x.depth : Int) := by omega
      rw [if_neg hd] at h7
      refine V.exec 400 ?_
      simp +contextual (maxSteps := 1000000) only [go_sem, ↓reduceIte, reduceCtorEq, yA, yB, uA, uB, uC, uD, uE, uF, hlt', hy, hYp, hd', hwj]
      exact ⟨by kernel_rfl, L.length - (j + 1), _, _, [some 0], by omega, ⟨j + 1, hs, false, by omega, by omega, rfl, .inr ⟨rfl, h7⟩, rfl, rfl⟩, by simp only [go_sem, ↓reduceIte, reduceCtorEq, yA, yB, uA, uB, uC, uD, uE, uF]; try decide⟩
  · have hh := hin hc
    by_cases hlt : j < L.length
    · have hlt' : (j : Int) < (L.length : Int) := by omega
      cases b with
      | false => exact absurd ⟨rfl, hlt⟩ hc
      | true =>
        refine V.exec 400 ?_
        simp +contextual (maxSteps := 1000000) only [go_sem, ↓reduceIte, reduceCtorEq, yA, yB, uA, uB, uC, uD, uE, uF, hlt']
        have hnf : ∀ z ∈ x.notes, ¬ slt z.key x.low ∧ (true = true → slt z.key hs) := fun z hz => hnv _ _ _ (hb.1 z hz) hh
        have hpf : ∀ z ∈ x.pairs, ¬ slt z.key x.low ∧ (true = true → slt z.key hs) := fun z hz => hnv _ _ _ (hb.2 z hz) hh
        refine V.loop (fun m ls os => ∃ (i : Nat), i ≤ x.notes.length ∧ m = x.notes.length - i ∧
                ls = [(5, .adr 0 0), (6, .val (.str hs)), (7, .val (.bool true)), (9, .val (.int .i64 i))] ∧ os = [.box true [.val (.int .i64 x.depth), .val (.int .i64 x.kids), .val (.str x.low), .val (.row (x.notes.map Note.pv)), .val (.row (x.pairs.map Pair.pv))]]) 0 x.notes.length
              [(5, .adr 0 0), (6, .val (.str hs)), (7, .val (.bool true)), (9, .val (.int .i64 0))] [.box true [.val (.int .i64 x.depth), .val (.int .i64 x.kids), .val (.str x.low), .val (.row (x.notes.map Note.pv)), .val (.row (x.pairs.map Pair.pv))]] [some 0]
              ⟨0, Nat.zero_le _, rfl, rfl, rfl⟩ (by simp only [go_sem, ↓reduceIte, reduceCtorEq, yA, yB, uA, uB, uC, uD, uE, uF]; try decide) ?_
        rintro m ls os ⟨i, hi, rfl, rfl, rfl⟩
        refine V.exec 400 ?_
        by_cases hlt : i < x.notes.length
        · have hlt' : (i : Int) < (x.notes.length : Int) := by omega
          obtain ⟨z, hz⟩ : ∃ z, x.notes[i]? = some z := ⟨_, List.getElem?_eq_getElem hlt⟩
          have hwi : IntKind.i64.wrap ((i : Int) + 1) = ((i + 1 : Nat) : Int) := by rw [wrap_small3] <;> omega
          obtain ⟨z1, z2⟩ := hnf z (List.mem_of_getElem? hz)
          have z2 := z2 rfl
          simp +contextual (maxSteps := 1000000) only [go_sem, ↓reduceIte, reduceCtorEq, yA, yB, uA, uB, uC, uD, uE, uF, hlt', hz, Note.pv, z1, z2, hwi]
          exact ⟨by kernel_rfl, x.notes.length - (i + 1), _, _, [some 0], by omega, ⟨i + 1, by omega, rfl, rfl, rfl⟩, by simp only [go_sem, ↓reduceIte, reduceCtorEq, yA, yB, uA, uB, uC, uD, uE, uF]; try decide⟩
        · have hlt' : ¬ (i : Int) < (x.notes.length : Int) := by omega
          simp +contextual (maxSteps := 1000000) only [go_sem, ↓reduceIte, reduceCtorEq, yA, yB, uA, uB, uC, uD, uE, uF, hlt']
          refine V.loop (fun m ls os => ∃ (i : Nat), i ≤ x.pairs.length ∧ m = x.pairs.length - i ∧
                ls = [(5, .adr 0 0), (6, .val (.str hs)), (7, .val (.bool true)), (10, .val (.int .i64 i))] ∧ os = [.box true [.val (.int .i64 x.depth), .val (.int .i64 x.kids), .val (.str x.low), .val (.row (x.notes.map Note.pv)), .val (.row (x.pairs.map Pair.pv))]]) 0 x.pairs.length
              [(5, .adr 0 0), (6, .val (.str hs)), (7, .val (.bool true)), (10, .val (.int .i64 0))] [.box true [.val (.int .i64 x.depth), .val (.int .i64 x.kids), .val (.str x.low), .val (.row (x.notes.map Note.pv)), .val (.row (x.pairs.map Pair.pv))]] [some 0]
              ⟨0, Nat.zero_le _, rfl, rfl, rfl⟩ (by simp only [go_sem, ↓reduceIte, reduceCtorEq, yA, yB, uA, uB, uC, uD, uE, uF]; try decide) ?_
          rintro m ls os ⟨i, hi, rfl, rfl, rfl⟩
          refine V.exec 400 ?_
          by_cases hlt : i < x.pairs.length
          · have hlt' : (i : Int) < (x.pairs.length : Int) := by omega
            obtain ⟨z, hz⟩ : ∃ z, x.pairs[i]? = some z := ⟨_, List.getElem?_eq_getElem hlt⟩
            have hwi : IntKind.i64.wrap ((i : Int) + 1) = ((i + 1 : Nat) : Int) := by rw [wrap_small3] <;> omega
            obtain ⟨z1, z2⟩ := hpf z (List.mem_of_getElem? hz)
            have z2 := z2 rfl
            simp +contextual (maxSteps := 1000000) only [go_sem, ↓reduceIte, reduceCtorEq, yA, yB, uA, uB, uC, uD, uE, uF, hlt', hz, Pair.pv, z1, z2, hwi]
            exact ⟨by kernel_rfl, x.pairs.length - (i + 1), _, _, [some 0], by omega, ⟨i + 1, by omega, rfl, rfl, rfl⟩, by simp only [go_sem, ↓reduceIte, reduceCtorEq, yA, yB, uA, uB, uC, uD, uE, uF]; try decide⟩
          · have hlt' : ¬ (i : Int) < (x.pairs.length : Int) := by omega
            simp +contextual (maxSteps := 1000000) only [go_sem, ↓reduceIte, reduceCtorEq, yA, yB, uA, uB, uC, uD, uE, uF, hlt']
    · have hlt' : ¬ (j : Int) < (L.length : Int) := by omega
      cases b with
      | false =>
        refine V.exec 400 ?_
        simp +contextual (maxSteps := 1000000) only [go_sem, ↓reduceIte, reduceCtorEq, yA, yB, uA, uB, uC, uD, uE, uF, hlt']
        have hnf : ∀ z ∈ x.notes, ¬ slt z.key x.low ∧ (false = true → slt z.key hs) := fun z hz => hnv _ _ _ (hb.1 z hz) hh
        have hpf : ∀ z ∈ x.pairs, ¬ slt z.key x.low ∧ (false = true → slt z.key hs) := fun z hz => hnv _ _ _ (hb.2 z hz) hh
        refine V.loop (fun m ls os => ∃ (i : Nat), i ≤ x.notes.length ∧ m = x.notes.length - i ∧
                ls = [(5, .adr 0 0), (6, .val (.str hs)), (7, .val (.bool false)), (9, .val (.int .i64 i))] ∧ os = [.box true [.val (.int .i64 x.depth), .val (.int .i64 x.kids), .val (.str x.low), .val (.row (x.notes.map Note.pv)), .val (.row (x.pairs.map Pair.pv))]]) 0 x.notes.length
              [(5, .adr 0 0), (6, .val (.str hs)), (7, .val (.bool false)), (9, .val (.int .i64 0))] [.box true [.val (.int .i64 x.depth), .val (.int .i64 x.kids), .val (.str x.low), .val (.row (x.notes.map Note.pv)), .val (.row (x.pairs.map Pair.pv))]] [some 0]
              ⟨0, Nat.zero_le _, rfl, rfl, rfl⟩ (by simp only [go_sem, ↓reduceIte, reduceCtorEq, yA, yB, uA, uB, uC, uD, uE, uF]; try decide) ?_
        rintro m ls os ⟨i, hi, rfl, rfl, rfl⟩
        refine V.exec 400 ?_
        by_cases hlt : i < x.notes.length
        · have hlt' : (i : Int) < (x.notes.length : Int) := by omega
          obtain ⟨z, hz⟩ : ∃ z, x.notes[i]? = some z := ⟨_, List.getElem?_eq_getElem hlt⟩
          have hwi : IntKind.i64.wrap ((i : Int) + 1) = ((i + 1 : Nat) : Int) := by rw [wrap_small3] <;> omega
          obtain ⟨z1, z2⟩ := hnf z (List.mem_of_getElem? hz)
          skip
          simp +contextual (maxSteps := 1000000) only [go_sem, ↓reduceIte, reduceCtorEq, yA, yB, uA, uB, uC, uD, uE, uF, hlt', hz, Note.pv, z1, z2, hwi]
          exact ⟨by kernel_rfl, x.notes.length - (i + 1), _, _, [some 0], by omega, ⟨i + 1, by omega, rfl, rfl, rfl⟩, by simp only [go_sem, ↓reduceIte, reduceCtorEq, yA, yB, uA, uB, uC, uD, uE, uF]; try decide⟩
        · have hlt' : ¬ (i : Int) < (x.notes.length : Int) := by omega
          simp +contextual (maxSteps := 1000000) only [go_sem, ↓reduceIte, reduceCtorEq, yA, yB, uA, uB, uC, uD, uE, uF, hlt']
          refine V.loop (fun m ls os => ∃ (i : Nat), i ≤ x.pairs.length ∧ m = x.pairs.length - i ∧
                ls = [(5, .adr 0 0), (6, .val (.str hs)), (7, .val (.bool false)), (10, .val (.int .i64 i))] ∧ os = [.box true [.val (.int .i64 x.depth), .val (.int .i64 x.kids), .val (.str x.low), .val (.row (x.notes.map Note.pv)), .val (.row (x.pairs.map Pair.pv))]]) 0 x.pairs.length
              [(5, .adr 0 0), (6, .val (.str hs)), (7, .val (.bool false)), (10, .val (.int .i64 0))] [.box true [.val (.int .i64 x.depth), .val (.int .i64 x.kids), .val (.str x.low), .val (.row (x.notes.map Note.pv)), .val (.row (x.pairs.map Pair.pv))]] [some 0]
              ⟨0, Nat.zero_le _, rfl, rfl, rfl⟩ (by simp only [go_sem, ↓reduceIte, reduceCtorEq, yA, yB, uA, uB, uC, uD, uE, uF]; try decide) ?_
          rintro m ls os ⟨i, hi, rfl, rfl, rfl⟩
          refine V.exec 400 ?_
          by_cases hlt : i < x.pairs.length
          · have hlt' : (i : Int) < (x.pairs.length : Int) := by omega
            obtain ⟨z, hz⟩ : ∃ z, x.pairs[i]? = some z := ⟨_, List.getElem?_eq_getElem hlt⟩
            have hwi : IntKind.i64.wrap ((i : Int) + 1) = ((i + 1 : Nat) : Int) := by rw [wrap_small3] <;> omega
            obtain ⟨z1, z2⟩ := hpf z (List.mem_of_getElem? hz)
            skip
            simp +contextual (maxSteps := 1000000) only [go_sem, ↓reduceIte, reduceCtorEq, yA, yB, uA, uB, uC, uD, uE, uF, hlt', hz, Pair.pv, z1, z2, hwi]
            exact ⟨by kernel_rfl, x.pairs.length - (i + 1), _, _, [some 0], by omega, ⟨i + 1, by omega, rfl, rfl, rfl⟩, by simp only [go_sem, ↓reduceIte, reduceCtorEq, yA, yB, uA, uB, uC, uD, uE, uF]; try decide⟩
          · have hlt' : ¬ (i : Int) < (x.pairs.length : Int) := by omega
            simp +contextual (maxSteps := 1000000) only [go_sem, ↓reduceIte, reduceCtorEq, yA, yB, uA, uB, uC, uD, uE, uF, hlt']
      | true =>
        refine V.exec 400 ?_
        simp +contextual (maxSteps := 1000000) only [go_sem, ↓reduceIte, reduceCtorEq, yA, yB, uA, uB, uC, uD, uE, uF, hlt']
        have hnf : ∀ z ∈ x.notes, ¬ slt z.key x.low ∧ (true = true → slt z.key hs) := fun z hz => hnv _ _ _ (hb.1 z hz) hh
        have hpf : ∀ z ∈ x.pairs, ¬ slt z.key x.low ∧ (true = true → slt z.key hs) := fun z hz => hnv _ _ _ (hb.2 z hz) hh
        refine V.loop (fun m ls os => ∃ (i : Nat), i ≤ x.notes.length ∧ m = x.notes.length - i ∧
                ls = [(5, .adr 0 0), (6, .val (.str hs)), (7, .val (.bool true)), (9, .val (.int .i64 i))] ∧ os = [.box true [.val (.int .i64 x.depth), .val (.int .i64 x.kids), .val (.str x.low), .val (.row (x.notes.map Note.pv)), .val (.row (x.pairs.map Pair.pv))]]) 0 x.notes.length
              [(5, .adr 0 0), (6, .val (.str hs)), (7, .val (.bool true)), (9, .val (.int .i64 0))] [.box true [.val (.int .i64 x.depth), .val (.int .i64 x.kids), .val (.str x.low), .val (.row (x.notes.map Note.pv)), .val (.row (x.pairs.map Pair.pv))]] [some 0]
              ⟨0, Nat.zero_le _, rfl, rfl, rfl⟩ (by simp only [go_sem, ↓reduceIte, reduceCtorEq, yA, yB, uA, uB, uC, uD, uE, uF]; try decide) ?_
        rintro m ls os ⟨i, hi, rfl, rfl, rfl⟩
        refine V.exec 400 ?_
        by_cases hlt : i < x.notes.length
        · have hlt' : (i : Int) < (x.notes.length : Int) := by omega
          obtain ⟨z, hz⟩ : ∃ z, x.notes[i]? = some z := ⟨_, List.getElem?_eq_getElem hlt⟩
          have hwi : IntKind.i64.wrap ((i : Int) + 1) = ((i + 1 : Nat) : Int) := by rw [wrap_small3] <;> omega
          obtain ⟨z1, z2⟩ := hnf z (List.mem_of_getElem? hz)
          have z2 := z2 rfl
          simp +contextual (maxSteps := 1000000) only [go_sem, ↓reduceIte, reduceCtorEq, yA, yB, uA, uB, uC, uD, uE, uF, hlt', hz, Note.pv, z1, z2, hwi]
          exact ⟨by kernel_rfl, x.notes.length - (i + 1), _, _, [some 0], by omega, ⟨i + 1, by omega, rfl, rfl, rfl⟩, by simp only [go_sem, ↓reduceIte, reduceCtorEq, yA, yB, uA, uB, uC, uD, uE, uF]; try decide⟩
        · have hlt' : ¬ (i : Int) < (x.notes.length : Int) := by omega
          simp +contextual (maxSteps := 1000000) only [go_sem, ↓reduceIte, reduceCtorEq, yA, yB, uA, uB, uC, uD, uE, uF, hlt']
          refine V.loop (fun m ls os => ∃ (i : Nat), i ≤ x.pairs.length ∧ m = x.pairs.length - i ∧
                ls = [(5, .adr 0 0), (6, .val (.str hs)), (7, .val (.bool true)), (10, .val (.int .i64 i))] ∧ os = [.box true [.val (.int .i64 x.depth), .val (.int .i64 x.kids), .val (.str x.low), .val (.row (x.notes.map Note.pv)), .val (.row (x.pairs.map Pair.pv))]]) 0 x.pairs.length
              [(5, .adr 0 0), (6, .val (.str hs)), (7, .val (.bool true)), (10, .val (.int .i64 0))] [.box true [.val (.int .i64 x.depth), .val (.int .i64 x.kids), .val (.str x.low), .val (.row (x.notes.map Note.pv)), .val (.row (x.pairs.map Pair.pv))]] [some 0]
              ⟨0, Nat.zero_le _, rfl, rfl, rfl⟩ (by simp only [go_sem, ↓reduceIte, reduceCtorEq, yA, yB, uA, uB, uC, uD, uE, uF]; try decide) ?_
          rintro m ls os ⟨i, hi, rfl, rfl, rfl⟩
          refine V.exec 400 ?_
          by_cases hlt : i < x.pairs.length
          · have hlt' : (i : Int) < (x.pairs.length : Int) := by omega
            obtain ⟨z, hz⟩ : ∃ z, x.pairs[i]? = some z := ⟨_, List.getElem?_eq_getElem hlt⟩
            have hwi : IntKind.i64.wrap ((i : Int) + 1) = ((i + 1 : Nat) : Int) := by rw [wrap_small3] <;> omega
            obtain ⟨z1, z2⟩ := hpf z (List.mem_of_getElem? hz)
            have z2 := z2 rfl
            simp +contextual (maxSteps := 1000000) only [go_sem, ↓reduceIte, reduceCtorEq, yA, yB, uA, uB, uC, uD, uE, uF, hlt', hz, Pair.pv, z1, z2, hwi]
            exact ⟨by kernel_rfl, x.pairs.length - (i + 1), _, _, [some 0], by omega, ⟨i + 1, by omega, rfl, rfl, rfl⟩, by simp only [go_sem, ↓reduceIte, reduceCtorEq, yA, yB, uA, uB, uC, uD, uE, uF]; try decide⟩
          · have hlt' : ¬ (i : Int) < (x.pairs.length : Int) := by omega
            simp +contextual (maxSteps := 1000000) only [go_sem, ↓reduceIte, reduceCtorEq, yA, yB, uA, uB, uC, uD, uE, uF, hlt']
end Go.Proofs.Ytofmiaecjnfeaaa
set_option linter.unusedVariables false
set_option linter.unusedSimpArgs false
set_option maxRecDepth 8000
namespace Go.Proofs.Ytofmiaecjnfeaaa
open Go Go.Proofs Go.Proofs.YtofmiaecjnfeaaaVm Go.Proofs.Ytofmiaecjnfeaaa.Ty

def notesI (l : List Info) : List Note := l.flatMap Info.notes
theorem notesI_app (a b : List Info) : notesI (a ++ b) = notesI a ++ notesI b := by simp [notesI]
theorem info_small : ∀ (h d : Nat) (hi : Option (List UInt8)) (n : Nd), WF h hi n → ∀ x ∈ infosN d n, x.notes.length ≤ 6 ∧ x.pairs.length ≤ 4
  | 0, d, hi, n, w, x, hx => by
    obtain ⟨w1, w2, w3, w4, w5, w6⟩ := w
    rw [infosN_eq, w1, infosL] at hx
    simp only [List.mem_singleton] at hx
    subst hx
    show n.wait.length ≤ 6 ∧ n.pairs.length ≤ 4
    rw [w2]; exact ⟨by simp, w3⟩
  | h + 1, d, hi, n, w, x, hx => by
    obtain ⟨w1, w2, w3, w4, w5, w6, w7, w8, w9⟩ := w
    have key : ∀ (ks : List Nd) (hi : Option (List UInt8)), Seg (WF h) ks hi → ∀ x ∈ infosL (d + 1) ks, x.notes.length ≤ 6 ∧ x.pairs.length ≤ 4 := by
      intro ks
      induction ks with
      | nil => intro hi _ x hx; cases hx
      | cons k ks ih =>
        intro hi hs x hx
        rw [infosL] at hx
        rcases List.mem_append.1 hx with hx | hx
        · exact info_small h (d + 1) _ k hs.1 x hx
        · exact ih hi hs.2 x hx
    rw [infosN_eq] at hx
    rcases List.mem_cons.1 hx with rfl | hx
    · show n.wait.length ≤ 6 ∧ n.pairs.length ≤ 4
      rw [w1]; exact ⟨w2, by simp⟩
    · exact key n.kids hi w7 x hx
theorem info_vol : ∀ (h d : Nat) (hi : Option (List UInt8)) (n : Nd), WF h hi n → (leafP (infosN d n)).length + (notesI (infosN d n)).length ≤ 4 * n.mass
  | 0, d, hi, n, w => by
    obtain ⟨w1, w2, w3, w4, w5, w6⟩ := w
    have hm := mass_pos n
    rw [infosN_eq, w1, infosL]
    have e1 : leafP [headI d n] = n.pairs := by simp [leafP, headI]
    have e2 : notesI [headI d n] = n.wait := by simp [notesI, headI]
    rw [e1, e2, w2]
    simp only [List.length_nil]; omega
  | h + 1, d, hi, n, w => by
    obtain ⟨w1, w2, w3, w4, w5, w6, w7, w8, w9⟩ := w
    have key : ∀ (ks : List Nd) (hi : Option (List UInt8)), Seg (WF h) ks hi → (leafP (infosL (d + 1) ks)).length + (notesI (infosL (d + 1) ks)).length ≤ 4 * Nd.masss ks := by
      intro ks
      induction ks with
      | nil => intro hi _; exact Nat.zero_le _
      | cons k ks ih =>
        intro hi hs
        have a := info_vol h (d + 1) _ k hs.1
        have b := ih hi hs.2
        rw [infosL, leafP_app, notesI_app, List.length_append, List.length_append, Nd.masss]
        omega
    have a := key n.kids hi w7
    have e1 : leafP (infosN d n) = n.pairs ++ leafP (infosL (d + 1) n.kids) := by rw [infosN_eq]; simp [leafP, headI]
    have e2 : notesI (infosN d n) = n.wait ++ notesI (infosL (d + 1) n.kids) := by rw [infosN_eq]; simp [notesI, headI]
    have e3 : n.mass = n.wait.length + (if n.kids.isEmpty then 1 else 0) + Nd.masss n.kids := by cases n; rfl
    rw [e1, e2, w1, e3, List.nil_append, List.length_append]
    omega
/-- The notes of a depth, and of those below it. -/
def upTo (e : Nat) (l : List Info) : List Note := (l.filter fun x => decide (x.depth ≤ e)).flatMap Info.notes
theorem upTo_le (e : Nat) (l : List Info) : (upTo e l).length ≤ (notesI l).length := by
  induction l with
  | nil => exact Nat.le_refl _
  | cons x l ih =>
    unfold upTo notesI at *
    rw [List.filter_cons]
    split
    · simp only [List.flatMap_cons, List.length_append]; omega
    · simp only [List.flatMap_cons, List.length_append]; omega
theorem upTo_zero (l : List Info) : (upTo 0 l).length = (atD 0 l).length := by
  unfold upTo atD
  congr 2
  congr 1
  funext x
  simp
theorem upTo_succ (e : Nat) (l : List Info) : (upTo (e + 1) l).length = (upTo e l).length + (atD (e + 1) l).length := by
  induction l with
  | nil => rfl
  | cons x l ih =>
    unfold upTo atD at *
    rw [List.filter_cons, List.filter_cons, List.filter_cons]
    by_cases h1 : x.depth ≤ e
    · have h2 : x.depth ≤ e + 1 := by omega
      have h3 : ¬ x.depth = e + 1 := by omega
      simp only [h1, h2, h3, decide_true, decide_false, if_true, Bool.false_eq_true, if_false, List.flatMap_cons, List.length_append]
      omega
    · by_cases h3 : x.depth = e + 1
      · have h2 : x.depth ≤ e + 1 := by omega
        rw [if_pos (by simpa using h2), if_neg (by simpa using h1), if_pos (by simpa using h3), List.flatMap_cons, List.flatMap_cons, List.length_append, List.length_append]
        omega
      · have h2 : ¬ x.depth ≤ e + 1 := by omega
        simp only [h1, h2, h3, decide_true, decide_false, if_true, Bool.false_eq_true, if_false, List.flatMap_cons, List.length_append]
        omega
theorem atD_take (e : Nat) (l : List Info) (i : Nat) (x : Info) (hx : l[i]? = some x) : atD e (l.take (i + 1)) = atD e (l.take i) ++ if x.depth = e then x.notes else [] := by
  rw [List.take_add_one, hx, atD_app]
  show _ ++ atD e [x] = _
  rw [atD_cons]
  simp [atD]
theorem atD_take_le (e : Nat) (l : List Info) (i : Nat) : (atD e (l.take i)).length ≤ (atD e l).length := by
  conv => rhs; rw [← List.take_append_drop i l]
  rw [atD_app, List.length_append]; omega
theorem leafP_take (l : List Info) (i : Nat) (x : Info) (hx : l[i]? = some x) : leafP (l.take (i + 1)) = leafP (l.take i) ++ x.pairs := by
  rw [List.take_add_one, hx, leafP_app]
  simp [leafP]
theorem leafP_take_le (l : List Info) (i : Nat) : (leafP (l.take i)).length ≤ (leafP l).length := by
  conv => rhs; rw [← List.take_append_drop i l]
  rw [leafP_app, List.length_append]; omega
end Go.Proofs.Ytofmiaecjnfeaaa
