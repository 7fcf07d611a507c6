/- A part of a proof: functions of the program, walked. -/
import Derived.Test.YtfemlllmglaimaaGreatGD
set_option linter.unusedVariables false
set_option linter.unusedSimpArgs false
set_option maxRecDepth 8000
namespace Go.Proofs.YtfemlllmglaimaaGreat
open Go Go.Proofs Go.Proofs.Zv Go.Proofs.YtfemlllmglaimaaGreat.Ty
open Nat renaming reduceAdd → uA, reduceLT → uB, reduceEqDiff → uC, reduceLeDiff → uD, reduceSub → uE, reduceMul → uF
open Bool renaming false_eq_true → yA, true_eq_false → yB
theorem trailFrom_weaken : ∀ (l : List Change) (a b : Option Int),(∀ s,b = some s → ∃ s',a = some s' ∧ s ≤ s') → trailFrom a l → trailFrom b l
 | [],_,_,_,_ => trivial
 | c :: r,a,b,h,ht => ⟨ht.1,fun s hs => by
   obtain ⟨s',ha,hle⟩ := h s hs
   have := ht.2.1 s' ha
   omega,ht.2.2⟩
theorem trailFrom_filter (p : Change → Bool) : ∀ (l : List Change) (a : Option Int),trailFrom a l → trailFrom a (l.filter p)
 | [],_,_ => trivial
 | c :: r,a,ht => by
  rw [List.filter_cons]
  split
  ·exact ⟨ht.1,ht.2.1,trailFrom_filter p r _ ht.2.2⟩
  ·refine trailFrom_weaken _ (some c.seq) a (fun s hs => ⟨c.seq,rfl,?_⟩) (trailFrom_filter p r _ ht.2.2)
   have := ht.2.1 s hs
   omega
theorem trailOk_filter (p : Change → Bool) (l : List Change) (h : trailOk l) : trailOk (l.filter p) := trailFrom_filter p l none h
theorem dropV_ok {t : List Change} (h : trailOk t) (n : Int) : dropV t n = t.filter (fun c => decide (n < c.seq)) := by
 simp only [dropV,withoutV,h,if_true]
 congr 1
 funext c
 by_cases hc : c.seq ≤ n
 ·have : ¬ n < c.seq := by omega
  simp [hc,this]
 ·have : n < c.seq := by omega
  simp [hc,this]
theorem dropV_trail {t : List Change} (h : trailOk t) (n : Int) : trailOk (dropV t n) := by
 rw [dropV_ok h]; exact trailOk_filter _ _ h
theorem dropV_drop {t : List Change} (h : trailOk t) {n m : Int} (hnm : n ≤ m) : dropV (dropV t n) m = dropV t m := by
 rw [dropV_ok (dropV_trail h n),dropV_ok h,dropV_ok h,List.filter_filter]
 congr 1
 funext c
 by_cases hc : m < c.seq
 ·have : n < c.seq := by omega
  simp [hc,this]
 ·simp [hc]
theorem trailFrom_gt : ∀ (l : List Change) (s : Int),trailFrom (some s) l → ∀ x ∈ l,s < x.seq
 | [],_,_,_,hx => by simp at hx
 | c :: r,s,h,x,hx => by
  have h1 := h.2.1 s rfl
  rcases List.mem_cons.1 hx with rfl | hx
  ·exact h1
  ·have := trailFrom_gt r c.seq h.2.2 x hx
   omega
theorem trailFrom_upto : ∀ (l : List Change) (a : Option Int) (j : Nat) (x : Change),trailFrom a l → l[j]? = some x → ∀ y ∈ l.take (j + 1),y.seq ≤ x.seq
 | [],_,_,_,_,h,_,_ => by simp at h
 | c :: r,a,0,x,ht,h,y,hy => by
  simp at h hy
  subst h hy
  exact Int.le_refl _
 | c :: r,a,j + 1,x,ht,h,y,hy => by
  rw [List.getElem?_cons_succ] at h
  rw [List.take_succ_cons] at hy
  rcases List.mem_cons.1 hy with rfl | hy
  ·have := trailFrom_gt r y.seq ht.2.2 x (List.mem_of_getElem? h)
   omega
  ·exact trailFrom_upto r _ j x ht.2.2 h y hy
theorem dropV_at {t : List Change} (h : trailOk t) {n : Int} {k : Nat} (hk' : k ≤ t.length) (h1 : ∀ x ∈ t.drop k,n < x.seq) (h2 : ∀ x,0 < k → t[k - 1]? = some x → x.seq ≤ n) : dropV t n = t.drop k := by
 rw [dropV_ok h]
 rw [← List.take_append_drop k t,List.filter_append]
 have e1 : (t.take k).filter (fun c => decide (n < c.seq)) = [] := by
  rw [List.filter_eq_nil_iff]
  intro y hy
  rcases Nat.eq_zero_or_pos k with rfl | hk
  ·simp at hy
  ·have hlt : k - 1 < t.length := by omega
   have hx : t[k - 1]? = some t[k - 1] := List.getElem?_eq_getElem hlt
   have g1 := trailFrom_upto t none (k - 1) _ h hx y (by rw [show k - 1 + 1 = k by omega]; exact hy)
   have g2 := h2 _ hk hx
   simp; omega
 have e2 : (t.drop k).filter (fun c => decide (n < c.seq)) = t.drop k := by
  rw [List.filter_eq_self]
  intro y hy
  simpa using h1 y hy
 rw [e1,e2]
 simp
def backGo (l : List Pair) (s : List Change) : Option (List Pair) := doGo l (s.reverse.map turnC)
theorem backGo_app (l : List Pair) (a s : List Change) : backGo l (a ++ s) = (backGo l s).bind fun p => backGo p a := by
 unfold backGo
 rw [List.reverse_append,List.map_append,doGo_app]
theorem undoV_go {l : List Pair} (h : pairsOk l) (s : List Change) : undoV l s = match backGo l s with | some q => (q,0) | none => (l,1) := by
 unfold undoV doV backGo
 rw [if_pos h]
 first | done | (cases doGo l (s.reverse.map turnC) <;> rfl)
theorem backGo_ok {l q : List Pair} {s : List Change} (h : pairsOk l) (hb : backGo l s = some q) : pairsOk q := (doGo_ok _ h hb).1
def atV (l : List Pair) (t : List Change) (floor seq : Int) : List Pair × Int :=
 if pairsOk l ∧ trailOk t then (if seq < floor then ([],8) else match backGo l (dropV t seq) with | some q => (q,0) | none => ([],1)) else ([],1)
theorem backGo_len {l q : List Pair} {s : List Change} (h : pairsOk l) (hb : backGo l s = some q) : q.length ≤ l.length + s.length := by
 have := doGo_len _ h hb
 simpa using this
theorem dropV_len (t : List Change) (n : Int) : (dropV t n).length ≤ t.length := by
 unfold dropV withoutV
 split
 ·exact List.length_filter_le _ _
 ·simp
theorem atV_len (l : List Pair) (t : List Change) (floor seq : Int) : (atV l t floor seq).1.length ≤ l.length + t.length := by
 unfold atV
 split
 ·rename_i h
  split
  ·simp
  ·split
   ·rename_i q hq
    have h1 := backGo_len h.1 hq
    have h2 := dropV_len t seq
    simp only
    omega
   ·simp
 ·simp
set_option maxHeartbeats 4000000 in
theorem past_At (l : List Pair) (t : List Change) (floor seq : Int) (hl : l.length ≤ 200000) (ht : t.length ≤ 200000) :
  Ct Tryz.prog 61 (Zv.ops [.row (l.map Pair.pv),.row (t.map Change.pv),.int .i64 floor,.int .i64 seq]) (.vals [.row ((atV l t floor seq).1.map Pair.pv),.int .i64 (atV l t floor seq).2]) := by
 have hdl := dropV_len t seq
 refine Ct.of_V Tryz.func61 rfl (by simp [Zv.ops,Tryz.f61]) ?_
 refine V.exec 400 ?_
 simp +contextual (maxSteps := 1000000) only [go_sem,↓reduceIte,reduceCtorEq,yA,yB,uA,uB,uC,uD,uE,uF,Tryz.f61]
 refine V.call rfl rfl (by simp [dOK]) ⟨104,[],by simp only [go_sem,↓reduceIte,reduceCtorEq,yA,yB,uA,uB,uC,uD,uE,uF],⟨_,rfl,rfl,rfl⟩,.inl ⟨[.row (l.map Pair.pv)],_,.inl (by simp only [go_sem,↓reduceIte,reduceCtorEq,yA,yB,uA,uB,uC,uD,uE,uF]),leaf_Right l (by omega),.inl ⟨_,rfl,rfl,rfl,rfl⟩⟩⟩ ?_
 refine V.exec 400 ?_
 by_cases hok : pairsOk l
 ·simp +contextual (maxSteps := 1000000) only [go_sem,↓reduceIte,reduceCtorEq,yA,yB,uA,uB,uC,uD,uE,uF,hok]
  refine V.call rfl rfl (by simp [dOK]) ⟨56,[],by simp only [go_sem,↓reduceIte,reduceCtorEq,yA,yB,uA,uB,uC,uD,uE,uF],⟨_,rfl,rfl,rfl⟩,.inl ⟨[.row (t.map Change.pv)],_,.inl (by simp only [go_sem,↓reduceIte,reduceCtorEq,yA,yB,uA,uB,uC,uD,uE,uF]),trail_Right t (by omega),.inl ⟨_,rfl,rfl,rfl,rfl⟩⟩⟩ ?_
  refine V.exec 400 ?_
  by_cases hto : trailOk t
  ·by_cases hlt : seq < floor
   ·have hv : atV l t floor seq = ([],8) := by unfold atV; rw [if_pos ⟨hok,hto⟩,if_pos hlt]
    simp +contextual (maxSteps := 1000000) only [go_sem,↓reduceIte,reduceCtorEq,yA,yB,uA,uB,uC,uD,uE,uF,hto,hlt,hv,List.map_nil]
   ·simp +contextual (maxSteps := 1000000) only [go_sem,↓reduceIte,reduceCtorEq,yA,yB,uA,uB,uC,uD,uE,uF,hto,hlt]
    refine V.call rfl rfl (by simp [dOK]) ⟨88,[],by simp only [go_sem,↓reduceIte,reduceCtorEq,yA,yB,uA,uB,uC,uD,uE,uF],⟨_,rfl,rfl,rfl⟩,.inl ⟨[.row (t.map Change.pv),.int .i64 seq],_,.inl (by simp only [go_sem,↓reduceIte,reduceCtorEq,yA,yB,uA,uB,uC,uD,uE,uF]),trail_Drop t seq (by omega),.inr (.inl ⟨_,rfl,rfl,rfl⟩)⟩⟩ ?_
    refine V.exec 400 ?_
    simp +contextual (maxSteps := 1000000) only [go_sem,↓reduceIte,reduceCtorEq,yA,yB,uA,uB,uC,uD,uE,uF]
    have hu := change_Undo l (dropV t seq) (by omega) (by omega)
    rw [undoV_go hok] at hu
    cases hb : backGo l (dropV t seq) with
    | none =>
     have hv : atV l t floor seq = ([],1) := by unfold atV; rw [if_pos ⟨hok,hto⟩,if_neg hlt,hb]
     rw [hb] at hu
     simp only at hu
     refine V.call rfl rfl (by simp [dOK]) ⟨105,[],by simp only [go_sem,↓reduceIte,reduceCtorEq,yA,yB,uA,uB,uC,uD,uE,uF],⟨_,rfl,rfl,rfl⟩,.inl ⟨[.row (l.map Pair.pv),.row ((dropV t seq).map Change.pv)],_,.inl (by simp only [go_sem,↓reduceIte,reduceCtorEq,yA,yB,uA,uB,uC,uD,uE,uF]),hu,.inr (.inl ⟨_,rfl,rfl,rfl⟩)⟩⟩ ?_
     refine V.exec 400 ?_
     have h10 : ¬ (1 : Int) = 0 := by decide
     simp +contextual (maxSteps := 1000000) only [go_sem,↓reduceIte,reduceCtorEq,yA,yB,uA,uB,uC,uD,uE,uF,hv,h10,List.map_nil]
    | some q =>
     have hv : atV l t floor seq = (q,0) := by unfold atV; rw [if_pos ⟨hok,hto⟩,if_neg hlt,hb]
     rw [hb] at hu
     simp only at hu
     refine V.call rfl rfl (by simp [dOK]) ⟨105,[],by simp only [go_sem,↓reduceIte,reduceCtorEq,yA,yB,uA,uB,uC,uD,uE,uF],⟨_,rfl,rfl,rfl⟩,.inl ⟨[.row (l.map Pair.pv),.row ((dropV t seq).map Change.pv)],_,.inl (by simp only [go_sem,↓reduceIte,reduceCtorEq,yA,yB,uA,uB,uC,uD,uE,uF]),hu,.inr (.inl ⟨_,rfl,rfl,rfl⟩)⟩⟩ ?_
     refine V.exec 400 ?_
     simp +contextual (maxSteps := 1000000) only [go_sem,↓reduceIte,reduceCtorEq,yA,yB,uA,uB,uC,uD,uE,uF,hv]
  ·have hv : atV l t floor seq = ([],1) := by unfold atV; rw [if_neg (fun h => hto h.2)]
   simp +contextual (maxSteps := 1000000) only [go_sem,↓reduceIte,reduceCtorEq,yA,yB,uA,uB,uC,uD,uE,uF,hto,hv,List.map_nil]
 ·have hv : atV l t floor seq = ([],1) := by unfold atV; rw [if_neg (fun h => hok h.1)]
  simp +contextual (maxSteps := 1000000) only [go_sem,↓reduceIte,reduceCtorEq,yA,yB,uA,uB,uC,uD,uE,uF,hok,hv,List.map_nil]
def cutN (most : Int) (n : Nat) : Nat := (max 0 (min most n)).toNat
def pageV (l : List Pair) (t : List Change) (floor seq most : Int) (r : Range) : List Pair × Bool × Int :=
 if (atV l t floor seq).2 = 0 then ((pickV r (atV l t floor seq).1).take (cutN most (pickV r (atV l t floor seq).1).length),decide (cutN most (pickV r (atV l t floor seq).1).length < (pickV r (atV l t floor seq).1).length),0) else ([],false,(atV l t floor seq).2)
set_option maxHeartbeats 4000000 in
theorem past_Pages (l : List Pair) (t : List Change) (floor seq most : Int) (r : Range) (hl : l.length ≤ 200000) (ht : t.length ≤ 200000) :
  Ct Tryz.prog 79 (Zv.ops [.row (l.map Pair.pv),.row (t.map Change.pv),.int .i64 floor,.int .i64 seq,.int .i64 most,r.pv]) (.vals [.row ((pageV l t floor seq most r).1.map Pair.pv),.bool (decide ((pageV l t floor seq most r).2.1 = true)),.int .i64 (pageV l t floor seq most r).2.2]) := by
 have hc := past_At l t floor seq hl ht
 have hlen := atV_len l t floor seq
 unfold pageV
 obtain ⟨p,e,hp⟩ : ∃ p e,atV l t floor seq = (p,e) := ⟨_,_,rfl⟩
 rw [hp] at hc hlen ⊢
 simp only at hc hlen ⊢
 refine Ct.of_V Tryz.func79 rfl (by simp [Zv.ops,Tryz.f79]) ?_
 refine V.exec 400 ?_
 simp +contextual (maxSteps := 1000000) only [go_sem,↓reduceIte,reduceCtorEq,yA,yB,uA,uB,uC,uD,uE,uF,Tryz.f79,Range.pv]
 refine V.call rfl rfl (by simp [dOK]) ⟨61,[],by simp only [go_sem,↓reduceIte,reduceCtorEq,yA,yB,uA,uB,uC,uD,uE,uF],⟨_,rfl,rfl,rfl⟩,.inl ⟨[.row (l.map Pair.pv),.row (t.map Change.pv),.int .i64 floor,.int .i64 seq],_,.inl (by simp only [go_sem,↓reduceIte,reduceCtorEq,yA,yB,uA,uB,uC,uD,uE,uF]),hc,.inr (.inl ⟨_,rfl,rfl,rfl⟩)⟩⟩ ?_
 refine V.exec 400 ?_
 by_cases he : e = 0
 ·subst he
  have hpl := pickV_len r p
  simp +contextual (maxSteps := 1000000) only [go_sem,↓reduceIte,reduceCtorEq,yA,yB,uA,uB,uC,uD,uE,uF]
  refine V.call rfl rfl (by simp [dOK]) ⟨99,[],by simp only [go_sem,↓reduceIte,reduceCtorEq,yA,yB,uA,uB,uC,uD,uE,uF],⟨_,rfl,rfl,rfl⟩,.inl ⟨[r.pv,.row (p.map Pair.pv)],_,.inl (by simp only [go_sem,↓reduceIte,reduceCtorEq,yA,yB,uA,uB,uC,uD,uE,uF,Range.pv]),stretch_Pick r p (by omega),.inr (.inl ⟨_,rfl,rfl,rfl⟩)⟩⟩ ?_
  refine V.exec 400 ?_
  generalize pickV r p = w at *
  have hc : (if (if (w.length : Int) < most then (w.length : Int) else most) > 0 then (if (w.length : Int) < most then (w.length : Int) else most) else 0) = ((cutN most w.length : Nat) : Int) := by
   unfold cutN
   split <;> split <;> omega
  have hc2 : cutN most w.length ≤ w.length := by unfold cutN; omega
  simp +contextual (maxSteps := 1000000) only [go_sem,↓reduceIte,reduceCtorEq,yA,yB,uA,uB,uC,uD,uE,uF,hc]
  refine ⟨by omega,?_⟩
  rw [List.map_take]
  simp
 ·simp +contextual (maxSteps := 1000000) only [go_sem,↓reduceIte,reduceCtorEq,yA,yB,uA,uB,uC,uD,uE,uF,he,List.map_nil]
def Pair.fine (s : Pair) : Prop := s.key.length ≤ 300 ∧ s.value.length ≤ 300
def Change.fine (s : Change) : Prop := s.key.length ≤ 300 ∧ s.bef.length ≤ 300 ∧ s.aft.length ≤ 300
instance (s : Pair) : Decidable s.fine := by unfold Pair.fine; infer_instance
instance (s : Change) : Decidable s.fine := by unfold Change.fine; infer_instance
def smallPC (l : List Pair) (t : List Change) : Prop := l.length ≤ 60 ∧ t.length ≤ 60 ∧ (∀ s ∈ l,s.fine) ∧ ∀ s ∈ t,s.fine
instance instSmallPC (l : List Pair) (t : List Change) : Decidable (smallPC l t) := by unfold smallPC; infer_instance
theorem range_one (qs : List PV) (hk : qs.map PV.kd = [.str,.str,.bool]) : ∃ s : Range,PV.agg qs = s.pv := by
 match qs,hk with
 | [.str a,.str b,.bool c],hk => exact ⟨⟨a,b,c⟩,by simp [Range.pv]⟩
theorem atV_facts (l : List Pair) (t : List Change) (floor seq : Int) : ((atV l t floor seq).2 = 0 ∧ pairsOk (atV l t floor seq).1 ∧ ¬ seq < floor ∧ pairsOk l ∧ trailOk t) ∨ ((atV l t floor seq).1 = [] ∧ ((atV l t floor seq).2 = 1 ∧ (¬ (pairsOk l ∧ trailOk t) ∨ ¬ seq < floor) ∨ (atV l t floor seq).2 = 8 ∧ seq < floor)) := by
 unfold atV
 by_cases h : pairsOk l ∧ trailOk t
 ·rw [if_pos h]
  by_cases hs : seq < floor
  ·rw [if_pos hs]; exact .inr ⟨rfl,.inr ⟨rfl,hs⟩⟩
  ·rw [if_neg hs]
   cases hb : backGo l (dropV t seq) with
   | none => exact .inr ⟨rfl,.inl ⟨rfl,.inr hs⟩⟩
   | some q => exact .inl ⟨rfl,backGo_ok h.1 hb,hs,h⟩
 ·rw [if_neg h]; exact .inr ⟨rfl,.inl ⟨rfl,.inl h⟩⟩
set_option maxHeartbeats 4000000 in
theorem trail_Since1 (c : Change) (n : Int) (r : Range) : Ct Tryz.prog 72 (Zv.ops [c.pv,.ptr (.int .i64 n),.ptr r.pv]) (.vals [.bool (decide (c.seq ≤ n ∨ ¬ r.isIn c.key))]) := by
 refine Ct.of_V Tryz.func72 rfl (by simp [Zv.ops,Tryz.f72]) ?_
 refine V.exec 400 ?_
 simp +contextual (maxSteps := 1000000) only [go_sem,↓reduceIte,reduceCtorEq,yA,yB,uA,uB,uC,uD,uE,uF,Tryz.f72,Change.pv,Range.pv]
 intro h
 refine V.call rfl rfl (by simp [dOK]) ⟨73,[],by simp only [go_sem,↓reduceIte,reduceCtorEq,yA,yB,uA,uB,uC,uD,uE,uF],⟨_,rfl,rfl,rfl⟩,.inl ⟨[r.pv,.str c.key],_,.inl (by simp only [go_sem,↓reduceIte,reduceCtorEq,yA,yB,uA,uB,uC,uD,uE,uF,Range.pv]),stretch_In r c.key,.inl ⟨_,rfl,rfl,rfl,rfl⟩⟩⟩ ?_
 refine V.exec 400 ?_
 simp +contextual (maxSteps := 1000000) only [go_sem,↓reduceIte,reduceCtorEq,yA,yB,uA,uB,uC,uD,uE,uF,h]
def cutAt (n most : Int) : Nat := (max 0 (min most n)).toNat
def sinceV (t : List Change) (n most : Int) (rs : List Range) : List Change :=
 let w := withoutV t (fun c => decide (c.seq ≤ n ∨ ¬ (meetV rs).isIn c.key))
 w.take (cutAt w.length most)
theorem withoutV_length (t : List Change) (p : Change → Bool) : (withoutV t p).length ≤ t.length := by
 unfold withoutV
 split
 ·exact List.length_filter_le _ _
 ·exact Nat.zero_le _
set_option maxHeartbeats 4000000 in
theorem trail_Since (t : List Change) (n most : Int) (rs : List Range) (ht : t.length ≤ 1000000) (hr : rs.length ≤ 1000000) :
  Ct Tryz.prog 30 (Zv.ops [.row (t.map Change.pv),.int .i64 n,.int .i64 most,.row (rs.map Range.pv)]) (.vals [.row ((sinceV t n most rs).map Change.pv)]) := by
 refine Ct.of_V Tryz.func30 rfl (by simp [Zv.ops,Tryz.f30]) ?_
 refine V.exec 400 ?_
 simp +contextual (maxSteps := 1000000) only [go_sem,↓reduceIte,reduceCtorEq,yA,yB,uA,uB,uC,uD,uE,uF,Tryz.f30]
 refine V.call rfl rfl (by simp [dOK]) ⟨70,[],by simp only [go_sem,↓reduceIte,reduceCtorEq,yA,yB,uA,uB,uC,uD,uE,uF],⟨_,rfl,rfl,rfl⟩,.inl ⟨[.row (rs.map Range.pv)],_,.inl (by simp only [go_sem,↓reduceIte,reduceCtorEq,yA,yB,uA,uB,uC,uD,uE,uF]),stretch_Meet rs hr,.inr (.inl ⟨_,rfl,rfl,rfl⟩)⟩⟩ ?_
 refine V.exec 400 ?_
 simp +contextual (maxSteps := 1000000) only [go_sem,↓reduceIte,reduceCtorEq,yA,yB,uA,uB,uC,uD,uE,uF,Range.pv]
 have hw := trail_without t 72 [.ptr (.int .i64 n),.ptr (meetV rs).pv] (fun c => decide (c.seq ≤ n ∨ ¬ (meetV rs).isIn c.key)) ht ⟨_,rfl,rfl,rfl⟩ (fun x _ => by simpa using trail_Since1 x n (meetV rs))
 refine V.call rfl rfl (by simp [dOK]) ⟨71,[],by simp only [go_sem,↓reduceIte,reduceCtorEq,yA,yB,uA,uB,uC,uD,uE,uF],⟨_,rfl,rfl,rfl⟩,.inl ⟨[.row (t.map Change.pv),.fn 72 [.ptr (.int .i64 n),.ptr (meetV rs).pv]],_,.inl (by simp only [go_sem,↓reduceIte,reduceCtorEq,yA,yB,uA,uB,uC,uD,uE,uF,Range.pv]),hw,.inr (.inl ⟨_,rfl,rfl,rfl⟩)⟩⟩ ?_
 refine V.exec 400 ?_
 have hl := withoutV_length t (fun c => decide (c.seq ≤ n ∨ ¬ (meetV rs).isIn c.key))
 have hv : sinceV t n most rs = (withoutV t (fun c => decide (c.seq ≤ n ∨ ¬ (meetV rs).isIn c.key))).take (cutAt (withoutV t (fun c => decide (c.seq ≤ n ∨ ¬ (meetV rs).isIn c.key))).length most) := rfl
 rw [hv]
 generalize withoutV t (fun c => decide (c.seq ≤ n ∨ ¬ (meetV rs).isIn c.key)) = w at *
 have hc : (if (if (w.length : Int) < most then (w.length : Int) else most) > 0 then (if (w.length : Int) < most then (w.length : Int) else most) else 0) = ((cutAt w.length most : Nat) : Int) := by
  unfold cutAt
  split <;> split <;> omega
 have hc2 : cutAt w.length most ≤ w.length := by unfold cutAt; omega
 simp +contextual (maxSteps := 1000000) only [go_sem,↓reduceIte,reduceCtorEq,yA,yB,uA,uB,uC,uD,uE,uF,hc]
 refine ⟨by omega,?_⟩
 rw [List.map_take]
theorem meet_two (r : Range) (n k : List UInt8) : (meetV [r,⟨n,[],true⟩]).isIn k ↔ r.isIn k ∧ ¬ slt k n := by
 have hmax : ∀ a b : List UInt8,¬ slt k (maxStr a b) ↔ ¬ slt k a ∧ ¬ slt k b := fun a b => by
  unfold maxStr
  split
  ·rename_i h
   exact ⟨fun g => ⟨fun x => g (slt_trans x h),g⟩,fun g => g.2⟩
  ·rename_i h
   refine ⟨fun g => ⟨g,fun x => ?_⟩,fun g => g.1⟩
   rcases slt_total a b with h1 | h1 | h1
   ·exact h h1
   ·exact g (h1 ▸ x)
   ·exact g (slt_trans x h1)
 have e0 : ∀ x : List UInt8,maxStr [] x = x := fun x => by
  unfold maxStr
  split
  ·rfl
  ·rename_i h
   cases x with
   | nil => rfl
   | cons a t => exact absurd (by simp [slt,strLt,Op.bytesLess]) h
 by_cases ho : r.op = true
 ·have e : meetV [r,⟨n,[],true⟩] = ⟨maxStr r.lo n,[],true⟩ := by simp [meetV,meetStep,ho,e0]
  rw [e]; unfold Range.isIn
  simp only [ho,true_or,and_true]
  exact hmax _ _
 ·have e : meetV [r,⟨n,[],true⟩] = ⟨maxStr r.lo n,r.hi,false⟩ := by simp [meetV,meetStep,ho,e0]
  rw [e]; unfold Range.isIn
  simp only [ho,Bool.false_eq_true,false_or,hmax]
  constructor
  ·rintro ⟨⟨a,b⟩,c⟩; exact ⟨⟨a,c⟩,b⟩
  ·rintro ⟨⟨a,c⟩,b⟩; exact ⟨⟨a,b⟩,c⟩
theorem meet_one (r : Range) (k : List UInt8) : (meetV [r]).isIn k ↔ r.isIn k := by
 have e0 : ∀ x : List UInt8,maxStr [] x = x := fun x => by
  unfold maxStr
  split
  ·rfl
  ·rename_i h
   cases x with
   | nil => rfl
   | cons a t => exact absurd (by simp [slt,strLt,Op.bytesLess]) h
 by_cases ho : r.op = true
 ·have e : meetV [r] = ⟨r.lo,[],true⟩ := by simp [meetV,meetStep,ho,e0]
  rw [e]; unfold Range.isIn; simp [ho]
 ·have e : meetV [r] = ⟨r.lo,r.hi,false⟩ := by simp [meetV,meetStep,ho,e0]
  rw [e]; unfold Range.isIn; simp [ho]
def leftP (s : Sub) (p : List Pair) : List Pair := p.filter fun q => decide (s.r.isIn q.key ∧ ¬ slt q.key s.next)
def leftV (s : Sub) (l : List Pair) (t : List Change) (floor : Int) : List Pair × Int :=
 if (atV l t floor s.cur).2 = 0 then (leftP s (atV l t floor s.cur).1,0) else ([],(atV l t floor s.cur).2)
theorem leftP_pick (s : Sub) (p : List Pair) : pickV (meetV [s.r,⟨s.next,[],true⟩]) p = leftP s p := by
 unfold pickV leftP
 congr 1; funext q
 simp only [meet_two]
theorem leftV_len (s : Sub) (l : List Pair) (t : List Change) (floor : Int) : (leftV s l t floor).1.length ≤ l.length + t.length := by
 have := atV_len l t floor s.cur
 unfold leftV
 split
 ·exact Nat.le_trans (List.length_filter_le _ _) this
 ·simp
set_option maxHeartbeats 4000000 in
theorem feed_left (s : Sub) (l : List Pair) (t : List Change) (floor : Int) (hl : l.length ≤ 200000) (ht : t.length ≤ 200000) :
  Ct Tryz.prog 130 (Zv.ops [s.pv,.row (l.map Pair.pv),.row (t.map Change.pv),.int .i64 floor]) (.vals [.row ((leftV s l t floor).1.map Pair.pv),.int .i64 (leftV s l t floor).2]) := by
 have hc := past_At l t floor s.cur hl ht
 have hlen := atV_len l t floor s.cur
 unfold leftV
 obtain ⟨p,e,hp⟩ : ∃ p e,atV l t floor s.cur = (p,e) := ⟨_,_,rfl⟩
 rw [hp] at hc hlen ⊢
 simp only at hc hlen ⊢
 refine Ct.of_V Tryz.func130 rfl (by simp [Zv.ops,Tryz.f130]) ?_
 refine V.exec 400 ?_
 simp +contextual (maxSteps := 1000000) only [go_sem,↓reduceIte,reduceCtorEq,yA,yB,uA,uB,uC,uD,uE,uF,Tryz.f130,Sub.pv]
 refine V.call rfl rfl (by simp [dOK]) ⟨61,[],by simp only [go_sem,↓reduceIte,reduceCtorEq,yA,yB,uA,uB,uC,uD,uE,uF],⟨_,rfl,rfl,rfl⟩,.inl ⟨[.row (l.map Pair.pv),.row (t.map Change.pv),.int .i64 floor,.int .i64 s.cur],_,.inl (by simp only [go_sem,↓reduceIte,reduceCtorEq,yA,yB,uA,uB,uC,uD,uE,uF]),hc,.inr (.inl ⟨_,rfl,rfl,rfl⟩)⟩⟩ ?_
 refine V.exec 400 ?_
 by_cases he : e = 0
 ·subst he
  have hk := stretch_Pick (meetV [s.r,⟨s.next,[],true⟩]) p (by omega)
  rw [leftP_pick] at hk
  simp +contextual (maxSteps := 1000000) only [go_sem,↓reduceIte,reduceCtorEq,yA,yB,uA,uB,uC,uD,uE,uF]
  refine V.call rfl rfl (by simp [dOK]) ⟨70,[],by simp only [go_sem,↓reduceIte,reduceCtorEq,yA,yB,uA,uB,uC,uD,uE,uF],⟨_,rfl,rfl,rfl⟩,.inl ⟨[.row ([s.r,⟨s.next,[],true⟩].map Range.pv)],_,.inl (by simp only [go_sem,↓reduceIte,reduceCtorEq,yA,yB,uA,uB,uC,uD,uE,uF,Range.pv,List.map_cons,List.map_nil,decide_true]),stretch_Meet [s.r,⟨s.next,[],true⟩] (by simp),.inr (.inl ⟨_,rfl,rfl,rfl⟩)⟩⟩ ?_
  refine V.exec 400 ?_
  simp +contextual (maxSteps := 1000000) only [go_sem,↓reduceIte,reduceCtorEq,yA,yB,uA,uB,uC,uD,uE,uF,Range.pv]
  refine V.call rfl rfl (by simp [dOK]) ⟨99,[],by simp only [go_sem,↓reduceIte,reduceCtorEq,yA,yB,uA,uB,uC,uD,uE,uF],⟨_,rfl,rfl,rfl⟩,.inl ⟨[(meetV [s.r,⟨s.next,[],true⟩]).pv,.row (p.map Pair.pv)],_,.inl (by simp only [go_sem,↓reduceIte,reduceCtorEq,yA,yB,uA,uB,uC,uD,uE,uF,Range.pv]),hk,.inr (.inl ⟨_,rfl,rfl,rfl⟩)⟩⟩ ?_
  refine V.exec 400 ?_
  simp +contextual (maxSteps := 1000000) only [go_sem,↓reduceIte,reduceCtorEq,yA,yB,uA,uB,uC,uD,uE,uF]
 ·simp +contextual (maxSteps := 1000000) only [go_sem,↓reduceIte,reduceCtorEq,yA,yB,uA,uB,uC,uD,uE,uF,he,List.map_nil]
structure Chunk where
 ps : List Pair
 cs : List Change
 more : Bool
 deriving DecidableEq
def Chunk.pv (c : Chunk) : PV := .agg [.row (c.ps.map Pair.pv),.row (c.cs.map Change.pv),.bool (decide (c.more = true))]
def Chunk.zero : Chunk := ⟨[],[],false⟩
def sinceA (t : List Change) (s : Sub) : List Change := t.filter fun c => decide (s.cur < c.seq ∧ s.r.isIn c.key)
def cutM (most : Int) (n : Nat) : Nat := min most.toNat n
def pollV (s : Sub) (l : List Pair) (t : List Change) (floor most : Int) : Chunk × Int :=
 if s.ok ∧ 1 ≤ most then
  if (leftV s l t floor).2 = 0 then
   if s.live = true then (⟨[],(sinceA t s).take (cutM most (sinceA t s).length),decide (cutM most (sinceA t s).length < (sinceA t s).length)⟩,0)
   else (⟨(leftV s l t floor).1.take (cutM most (leftV s l t floor).1.length),[],decide (cutM most (leftV s l t floor).1.length < (leftV s l t floor).1.length)⟩,0)
  else (Chunk.zero,(leftV s l t floor).2)
 else (Chunk.zero,1)
theorem sinceA_len (t : List Change) (s : Sub) : (sinceA t s).length ≤ t.length := List.length_filter_le _ _
theorem since_all {t : List Change} (ht : trailOk t) (s : Sub) : sinceV t s.cur t.length [s.r] = sinceA t s := by
 unfold sinceV withoutV
 rw [if_pos ht]
 have e : (t.filter fun c => !decide (c.seq ≤ s.cur ∨ ¬ (meetV [s.r]).isIn c.key)) = sinceA t s := by
  unfold sinceA
  congr 1; funext c
  simp only [meet_one]
  by_cases h1 : c.seq ≤ s.cur
  ·have : ¬ s.cur < c.seq := by omega
   simp [h1,this]
  ·have : s.cur < c.seq := by omega
   simp [h1,this]
 simp only [e]
 rw [List.take_of_length_le]
 have := sinceA_len t s
 unfold cutAt; omega
theorem leftV_trail {s : Sub} {l : List Pair} {t : List Change} {floor : Int} (h : (leftV s l t floor).2 = 0) : trailOk t := by
 have hf := atV_facts l t floor s.cur
 unfold leftV at h
 split at h
 ·rename_i g
  rcases hf with ⟨_,_,_,_,h⟩ | ⟨_,hf⟩
  ·exact h
  ·omega
 ·rename_i g; exact absurd h g
set_option maxHeartbeats 8000000 in
theorem feed_Poll (s : Sub) (l : List Pair) (t : List Change) (floor most : Int) (hl : l.length ≤ 200000) (ht : t.length ≤ 200000) :
  Ct Tryz.prog 82 (Zv.ops [s.pv,.row (l.map Pair.pv),.row (t.map Change.pv),.int .i64 floor,.int .i64 most]) (.vals [(pollV s l t floor most).1.pv,.int .i64 (pollV s l t floor most).2]) := by
 have hc := feed_left s l t floor hl ht
 have hlen := leftV_len s l t floor
 have hto := @leftV_trail s l t floor
 have hbad : ¬ (s.ok ∧ 1 ≤ most) → pollV s l t floor most = (Chunk.zero,1) := fun h => by unfold pollV; rw [if_neg h]
 refine Ct.of_V Tryz.func82 rfl (by simp [Zv.ops,Tryz.f82]) ?_
 refine V.exec 400 ?_
 simp +contextual (maxSteps := 1000000) only [go_sem,↓reduceIte,reduceCtorEq,yA,yB,uA,uB,uC,uD,uE,uF,Tryz.f82,Sub.pv]
 refine V.call rfl rfl (by simp [dOK]) ⟨102,[],by simp only [go_sem,↓reduceIte,reduceCtorEq,yA,yB,uA,uB,uC,uD,uE,uF],⟨_,rfl,rfl,rfl⟩,.inl ⟨[s.pv],_,.inl (by simp only [go_sem,↓reduceIte,reduceCtorEq,yA,yB,uA,uB,uC,uD,uE,uF,Sub.pv]),feed_Right s,.inl ⟨_,rfl,rfl,rfl,rfl⟩⟩⟩ ?_
 refine V.exec 400 ?_
 by_cases hok : s.ok
 ·by_cases hm : most < 1
  ·have hv := hbad (fun h => by omega)
   simp +contextual (maxSteps := 1000000) only [go_sem,↓reduceIte,reduceCtorEq,yA,yB,uA,uB,uC,uD,uE,uF,hok,hm,hv,Chunk.zero,Chunk.pv,List.map_nil]
  ·have hv : pollV s l t floor most = if (leftV s l t floor).2 = 0 then
     if s.live = true then (⟨[],(sinceA t s).take (cutM most (sinceA t s).length),decide (cutM most (sinceA t s).length < (sinceA t s).length)⟩,0)
     else (⟨(leftV s l t floor).1.take (cutM most (leftV s l t floor).1.length),[],decide (cutM most (leftV s l t floor).1.length < (leftV s l t floor).1.length)⟩,0)
    else (Chunk.zero,(leftV s l t floor).2) := by unfold pollV; rw [if_pos ⟨hok,by omega⟩]
   obtain ⟨p,e,hp⟩ : ∃ p e,leftV s l t floor = (p,e) := ⟨_,_,rfl⟩
   rw [hp] at hc hlen hv hto
   simp only at hc hlen hv hto
   simp +contextual (maxSteps := 1000000) only [go_sem,↓reduceIte,reduceCtorEq,yA,yB,uA,uB,uC,uD,uE,uF,hok,hm]
   refine V.call rfl rfl (by simp [dOK]) ⟨130,[],by simp only [go_sem,↓reduceIte,reduceCtorEq,yA,yB,uA,uB,uC,uD,uE,uF],⟨_,rfl,rfl,rfl⟩,.inl ⟨[s.pv,.row (l.map Pair.pv),.row (t.map Change.pv),.int .i64 floor],_,.inl (by simp only [go_sem,↓reduceIte,reduceCtorEq,yA,yB,uA,uB,uC,uD,uE,uF,Sub.pv]),hc,.inr (.inl ⟨_,rfl,rfl,rfl⟩)⟩⟩ ?_
   refine V.exec 400 ?_
   by_cases he : e = 0
   ·subst he
    rw [if_pos rfl] at hv
    by_cases hlv : s.live = true
    ·rw [if_pos hlv] at hv
     have hsl := sinceA_len t s
     have hk := trail_Since t s.cur t.length [s.r] (by omega) (by simp)
     rw [since_all (hto rfl)] at hk
     simp +contextual (maxSteps := 1000000) only [go_sem,↓reduceIte,reduceCtorEq,yA,yB,uA,uB,uC,uD,uE,uF,hlv]
     refine V.call rfl rfl (by simp [dOK]) ⟨30,[],by simp only [go_sem,↓reduceIte,reduceCtorEq,yA,yB,uA,uB,uC,uD,uE,uF],⟨_,rfl,rfl,rfl⟩,.inl ⟨[.row (t.map Change.pv),.int .i64 s.cur,.int .i64 t.length,.row ([s.r].map Range.pv)],_,.inl (by simp only [go_sem,↓reduceIte,reduceCtorEq,yA,yB,uA,uB,uC,uD,uE,uF,Range.pv,List.map_cons,List.map_nil]),hk,.inr (.inl ⟨_,rfl,rfl,rfl⟩)⟩⟩ ?_
     refine V.exec 400 ?_
     generalize sinceA t s = w at *
     have hcm : (if (w.length : Int) < most then (w.length : Int) else most) = ((cutM most w.length : Nat) : Int) := by
      unfold cutM
      split <;> omega
     have hc2 : cutM most w.length ≤ w.length := by unfold cutM; omega
     simp +contextual (maxSteps := 1000000) only [go_sem,↓reduceIte,reduceCtorEq,yA,yB,uA,uB,uC,uD,uE,uF,hcm]
     refine ⟨by omega,?_⟩
     rw [hv]
     simp [Chunk.pv,List.map_take]
    ·rw [if_neg hlv] at hv
     have hcm : (if (p.length : Int) < most then (p.length : Int) else most) = ((cutM most p.length : Nat) : Int) := by
      unfold cutM
      split <;> omega
     have hc2 : cutM most p.length ≤ p.length := by unfold cutM; omega
     simp +contextual (maxSteps := 1000000) only [go_sem,↓reduceIte,reduceCtorEq,yA,yB,uA,uB,uC,uD,uE,uF,hlv,hcm]
     refine ⟨by omega,?_⟩
     rw [hv]
     simp [Chunk.pv,List.map_take]
   ·rw [if_neg he] at hv
    simp +contextual (maxSteps := 1000000) only [go_sem,↓reduceIte,reduceCtorEq,yA,yB,uA,uB,uC,uD,uE,uF,he,hv,Chunk.zero,Chunk.pv,List.map_nil]
 ·have hv := hbad (fun h => hok h.1)
  simp +contextual (maxSteps := 1000000) only [go_sem,↓reduceIte,reduceCtorEq,yA,yB,uA,uB,uC,uD,uE,uF,hok,hv,Chunk.zero,Chunk.pv,List.map_nil]
def tookV (s : Sub) (l : List Pair) (t : List Change) (floor n : Int) : Sub × Int :=
 if s.ok ∧ s.live = false ∧ 0 ≤ n then
  if (leftV s l t floor).2 = 0 then
   if n > ((leftV s l t floor).1.length : Int) then (s,9)
   else if n = ((leftV s l t floor).1.length : Int) then ({ s with live := true,next := [] },0)
   else match (leftV s l t floor).1[n.toNat - 1]? with
    | some x => if 0 < n then ({ s with next := x.key ++ [0] },0) else (s,0)
    | none => (s,0)
  else (s,(leftV s l t floor).2)
 else (s,1)
def ackV (s : Sub) (head seq : Int) : Sub × Int :=
 if s.ok ∧ s.live = true ∧ s.cur ≤ seq then (if head < seq then (s,9) else ({ s with cur := seq },0)) else (s,1)
theorem leftV_keys {s : Sub} {l : List Pair} {t : List Change} {floor : Int} : ∀ x ∈ (leftV s l t floor).1,x.key.length ≤ 16 := fun x hx => by
 have hf := atV_facts l t floor s.cur
 unfold leftV at hx
 split at hx
 ·rename_i g
  rcases hf with ⟨_,h,_⟩ | ⟨_,hf⟩
  ·exact (short_of _ none h x (List.mem_filter.1 hx).1).1
  ·omega
 ·simp at hx
set_option maxHeartbeats 8000000 in
theorem feed_Took (s : Sub) (l : List Pair) (t : List Change) (floor n : Int) (hl : l.length ≤ 200000) (ht : t.length ≤ 200000) :
  Ct Tryz.prog 83 (Zv.ops [s.pv,.row (l.map Pair.pv),.row (t.map Change.pv),.int .i64 floor,.int .i64 n]) (.vals [(tookV s l t floor n).1.pv,.int .i64 (tookV s l t floor n).2]) := by
 have hc := feed_left s l t floor hl ht
 have hlen := leftV_len s l t floor
 have hkeys := @leftV_keys s l t floor
 have hbad : ¬ (s.ok ∧ s.live = false ∧ 0 ≤ n) → tookV s l t floor n = (s,1) := fun h => by unfold tookV; rw [if_neg h]
 refine Ct.of_V Tryz.func83 rfl (by simp [Zv.ops,Tryz.f83]) ?_
 refine V.exec 400 ?_
 simp +contextual (maxSteps := 1000000) only [go_sem,↓reduceIte,reduceCtorEq,yA,yB,uA,uB,uC,uD,uE,uF,Tryz.f83,Sub.pv]
 refine V.call rfl rfl (by simp [dOK]) ⟨102,[],by simp only [go_sem,↓reduceIte,reduceCtorEq,yA,yB,uA,uB,uC,uD,uE,uF],⟨_,rfl,rfl,rfl⟩,.inl ⟨[s.pv],_,.inl (by simp only [go_sem,↓reduceIte,reduceCtorEq,yA,yB,uA,uB,uC,uD,uE,uF,Sub.pv]),feed_Right s,.inl ⟨_,rfl,rfl,rfl,rfl⟩⟩⟩ ?_
 refine V.exec 400 ?_
 by_cases hok : s.ok
 ·by_cases hlv : s.live = true
  ·have hv := hbad (fun h => by rw [hlv] at h; exact Bool.noConfusion h.2.1)
   simp +contextual (maxSteps := 1000000) only [go_sem,↓reduceIte,reduceCtorEq,yA,yB,uA,uB,uC,uD,uE,uF,hok,hlv,hv,Sub.pv]
  ·have hlf : s.live = false := by simpa using hlv
   by_cases hm : n < 0
   ·have hv := hbad (fun h => by omega)
    simp +contextual (maxSteps := 1000000) only [go_sem,↓reduceIte,reduceCtorEq,yA,yB,uA,uB,uC,uD,uE,uF,hok,hlv,hm,hv,Sub.pv]
   ·have hv : tookV s l t floor n = (if (leftV s l t floor).2 = 0 then
      if n > ((leftV s l t floor).1.length : Int) then (s,9)
      else if n = ((leftV s l t floor).1.length : Int) then ({ s with live := true,next := [] },0)
      else match (leftV s l t floor).1[n.toNat - 1]? with
       | some x => if 0 < n then ({ s with next := x.key ++ [0] },0) else (s,0)
       | none => (s,0)
     else (s,(leftV s l t floor).2) : Sub × Int) := by unfold tookV; rw [if_pos ⟨hok,hlf,by omega⟩]; first | done | rfl
    obtain ⟨p,e,hp⟩ : ∃ p e,leftV s l t floor = (p,e) := ⟨_,_,rfl⟩
    rw [hp] at hc hlen hv hkeys
    simp only at hc hlen hv hkeys
    simp +contextual (maxSteps := 1000000) only [go_sem,↓reduceIte,reduceCtorEq,yA,yB,uA,uB,uC,uD,uE,uF,hok,hlv,hm]
    refine V.call rfl rfl (by simp [dOK]) ⟨130,[],by simp only [go_sem,↓reduceIte,reduceCtorEq,yA,yB,uA,uB,uC,uD,uE,uF],⟨_,rfl,rfl,rfl⟩,.inl ⟨[s.pv,.row (l.map Pair.pv),.row (t.map Change.pv),.int .i64 floor],_,.inl (by simp only [go_sem,↓reduceIte,reduceCtorEq,yA,yB,uA,uB,uC,uD,uE,uF,Sub.pv,hlv]),hc,.inr (.inl ⟨_,rfl,rfl,rfl⟩)⟩⟩ ?_
    refine V.exec 400 ?_
    by_cases he : e = 0
    ·subst he
     rw [if_pos rfl] at hv
     by_cases h9 : (p.length : Int) < n
     ·rw [if_pos h9] at hv
      simp +contextual (maxSteps := 1000000) only [go_sem,↓reduceIte,reduceCtorEq,yA,yB,uA,uB,uC,uD,uE,uF,hlv,h9,hv,Sub.pv]
     ·rw [if_neg h9] at hv
      by_cases hn : n = (p.length : Int)
      ·subst hn
       rw [if_pos rfl] at hv
       simp +contextual (maxSteps := 1000000) only [go_sem,↓reduceIte,reduceCtorEq,yA,yB,uA,uB,uC,uD,uE,uF,hlv,h9,hv,Sub.pv,decide_true]
      ·rw [if_neg hn] at hv
       by_cases h0 : 0 < n
       ·obtain ⟨x,hx⟩ : ∃ x,p[n.toNat - 1]? = some x := ⟨_,List.getElem?_eq_getElem (by omega)⟩
        have hxk := hkeys x (List.mem_of_getElem? hx)
        rw [hx] at hv
        simp only [h0,if_true] at hv
        have hw : IntKind.i64.wrap (n - 1) = ((n.toNat - 1 : Nat) : Int) := by rw [wrap_small3] <;> omega
        have hlt : ((n.toNat - 1 : Nat) : Int) < (p.length : Int) := by omega
        simp +contextual (maxSteps := 1000000) only [go_sem,↓reduceIte,reduceCtorEq,yA,yB,uA,uB,uC,uD,uE,uF,hlv,h9,hn,h0,hw,hlt,hx,hv,Pair.pv,Sub.pv]
        omega
       ·have hv2 : tookV s l t floor n = (s,0) := by
         rw [hv]; split <;> simp [h0]
        simp +contextual (maxSteps := 1000000) only [go_sem,↓reduceIte,reduceCtorEq,yA,yB,uA,uB,uC,uD,uE,uF,hlv,h9,hn,h0,hv2,Sub.pv]
    ·rw [if_neg he] at hv
     simp +contextual (maxSteps := 1000000) only [go_sem,↓reduceIte,reduceCtorEq,yA,yB,uA,uB,uC,uD,uE,uF,he,hlv,hv,Sub.pv]
 ·have hv := hbad (fun h => hok h.1)
  simp +contextual (maxSteps := 1000000) only [go_sem,↓reduceIte,reduceCtorEq,yA,yB,uA,uB,uC,uD,uE,uF,hok,hv,Sub.pv]
set_option maxHeartbeats 8000000 in
theorem feed_Ack (s : Sub) (head seq : Int) :
  Ct Tryz.prog 84 (Zv.ops [s.pv,.int .i64 head,.int .i64 seq]) (.vals [(ackV s head seq).1.pv,.int .i64 (ackV s head seq).2]) := by
 have hbad : ¬ (s.ok ∧ s.live = true ∧ s.cur ≤ seq) → ackV s head seq = (s,1) := fun h => by unfold ackV; rw [if_neg h]
 refine Ct.of_V Tryz.func84 rfl (by simp [Zv.ops,Tryz.f84]) ?_
 refine V.exec 400 ?_
 simp +contextual (maxSteps := 1000000) only [go_sem,↓reduceIte,reduceCtorEq,yA,yB,uA,uB,uC,uD,uE,uF,Tryz.f84,Sub.pv]
 refine V.call rfl rfl (by simp [dOK]) ⟨102,[],by simp only [go_sem,↓reduceIte,reduceCtorEq,yA,yB,uA,uB,uC,uD,uE,uF],⟨_,rfl,rfl,rfl⟩,.inl ⟨[s.pv],_,.inl (by simp only [go_sem,↓reduceIte,reduceCtorEq,yA,yB,uA,uB,uC,uD,uE,uF,Sub.pv]),feed_Right s,.inl ⟨_,rfl,rfl,rfl,rfl⟩⟩⟩ ?_
 refine V.exec 400 ?_
 by_cases hok : s.ok
 ·by_cases hlv : s.live = true
  ·by_cases hm : seq < s.cur
   ·have hv := hbad (fun h => by omega)
    simp +contextual (maxSteps := 1000000) only [go_sem,↓reduceIte,reduceCtorEq,yA,yB,uA,uB,uC,uD,uE,uF,hok,hlv,hm,hv,Sub.pv]
   ·by_cases hh : head < seq
    ·have hv : ackV s head seq = (s,9) := by unfold ackV; rw [if_pos ⟨hok,hlv,by omega⟩,if_pos hh]
     simp +contextual (maxSteps := 1000000) only [go_sem,↓reduceIte,reduceCtorEq,yA,yB,uA,uB,uC,uD,uE,uF,hok,hlv,hm,hh,hv,Sub.pv]
    ·have hv : ackV s head seq = ({ s with cur := seq },0) := by unfold ackV; rw [if_pos ⟨hok,hlv,by omega⟩,if_neg hh]
     simp +contextual (maxSteps := 1000000) only [go_sem,↓reduceIte,reduceCtorEq,yA,yB,uA,uB,uC,uD,uE,uF,hok,hlv,hm,hh,hv,Sub.pv]
  ·have hv := hbad (fun h => hlv h.2.1)
   simp +contextual (maxSteps := 1000000) only [go_sem,↓reduceIte,reduceCtorEq,yA,yB,uA,uB,uC,uD,uE,uF,hok,hlv,hv,Sub.pv]
 ·have hv := hbad (fun h => hok h.1)
  simp +contextual (maxSteps := 1000000) only [go_sem,↓reduceIte,reduceCtorEq,yA,yB,uA,uB,uC,uD,uE,uF,hok,hv,Sub.pv]
def noteP (p : Pair) : Note := ⟨1,p.key,p.value,0⟩
def Chunk.slim (c : Chunk) : Prop := c.ps.length ≤ 1000 ∧ c.cs.length ≤ 1000
def replayGo (l0 : List Pair) : List Pair → List Chunk → List Pair × Int
 | out,[] => (out,0)
 | out,c :: r => if (applyV out (c.ps.map noteP)).2 = 0 then (if (doV (applyV out (c.ps.map noteP)).1 c.cs).2 = 0 then replayGo l0 (doV (applyV out (c.ps.map noteP)).1 c.cs).1 r else (l0,(doV (applyV out (c.ps.map noteP)).1 c.cs).2)) else (l0,(applyV out (c.ps.map noteP)).2)
def replayV (l : List Pair) (chunks : List Chunk) : List Pair × Int := replayGo l l chunks
set_option maxHeartbeats 8000000 in
theorem feed_Replay (l : List Pair) (ch : List Chunk) (hl : l.length ≤ 1000) (hn : ch.length ≤ 90) (hs : ∀ c ∈ ch,c.slim) :
  Ct Tryz.prog 28 (Zv.ops [.row (l.map Pair.pv),.row (ch.map Chunk.pv)]) (.vals [.row ((replayV l ch).1.map Pair.pv),.int .i64 (replayV l ch).2]) := by
 obtain ⟨RP,re,hR⟩ : ∃ p e,replayV l ch = (p,e) := ⟨_,_,rfl⟩
 rw [hR]
 unfold replayV at hR
 simp only
 refine Ct.of_V Tryz.func28 rfl (by simp [Zv.ops,Tryz.f28]) ?_
 refine V.exec 400 ?_
 simp +contextual (maxSteps := 1000000) only [go_sem,↓reduceIte,reduceCtorEq,yA,yB,uA,uB,uC,uD,uE,uF,Tryz.f28]
 refine V.loop (fun m ls os => ∃ (i : Nat) (out : List Pair),i ≤ ch.length ∧ m = ch.length - i ∧ out.length ≤ 1000 + 2000 * i ∧ replayGo l out (ch.drop i) = (RP,re) ∧
    ls = [(0,.val (.row (l.map Pair.pv))),(6,.val (.row (out.map Pair.pv))),(15,.val (.row (ch.map Chunk.pv))),(16,.val (.int .i64 ch.length)),(17,.val (.int .i64 i))] ∧ os = []) 0 ch.length
   [(0,.val (.row (l.map Pair.pv))),(6,.val (.row (l.map Pair.pv))),(15,.val (.row (ch.map Chunk.pv))),(16,.val (.int .i64 ch.length)),(17,.val (.int .i64 0))] [] []
   ⟨0,l,Nat.zero_le _,rfl,by omega,hR,rfl,rfl⟩ (by simp only [go_sem,↓reduceIte,reduceCtorEq,yA,yB,uA,uB,uC,uD,uE,uF]) ?_
 rintro m ls os ⟨i,out,hi,rfl,hol,hgo,rfl,rfl⟩
 refine V.exec 400 ?_
 by_cases hlt : i < ch.length
 ·have hlt' : (i : Int) < (ch.length : Int) := by omega
  obtain ⟨c,hx⟩ : ∃ x,ch[i]? = some x := ⟨_,List.getElem?_eq_getElem hlt⟩
  have hsl := hs c (List.mem_of_getElem? hx)
  have hw : IntKind.i64.wrap ((i : Int) + 1) = ((i + 1 : Nat) : Int) := by rw [wrap_small3] <;> omega
  rw [drop_of_get hx,replayGo] at hgo
  simp +contextual (maxSteps := 1000000) only [go_sem,↓reduceIte,reduceCtorEq,yA,yB,uA,uB,uC,uD,uE,uF,hlt',hx,Chunk.pv]
  have hsl1 := hsl.1
  have hsl2 := hsl.2
  have ha := leaf_Apply out (c.ps.map noteP) (by omega) (by simp; omega)
  have hal := applyV_len out (c.ps.map noteP)
  rw [List.length_map] at hal
  obtain ⟨q,e1,hq⟩ : ∃ p e,applyV out (c.ps.map noteP) = (p,e) := ⟨_,_,rfl⟩
  rw [hq] at ha hal hgo
  simp only at ha hal hgo
  have hd := change_Do q c.cs (by omega) (by omega)
  have hdl := doV_len q c.cs
  obtain ⟨q2,e2,hq2⟩ : ∃ p e,doV q c.cs = (p,e) := ⟨_,_,rfl⟩
  rw [hq2] at hd hdl hgo
  simp only at hd hdl hgo
  refine V.loop (fun m ls os => ∃ (j : Nat),j ≤ c.ps.length ∧ m = c.ps.length - j ∧
    ls = [(0,.val (.row (l.map Pair.pv))),(6,.val (.row (out.map Pair.pv))),(8,.adr 0 0),(9,.ref 1),(15,.val (.row (ch.map Chunk.pv))),(16,.val (.int .i64 ch.length)),(17,.val (.int .i64 i)),(22,.val (.row (c.ps.map Pair.pv))),(23,.val (.int .i64 c.ps.length)),(24,.val (.int .i64 j))] ∧ os = [.box true [.val (.row (c.ps.map Pair.pv)),.val (.row (c.cs.map Change.pv)),.val (.bool (decide (c.more = true)))],.row 72 (((c.ps.take j).map noteP).map Note.pv)]) 2 c.ps.length
   [(0,.val (.row (l.map Pair.pv))),(6,.val (.row (out.map Pair.pv))),(8,.adr 0 0),(9,.ref 1),(15,.val (.row (ch.map Chunk.pv))),(16,.val (.int .i64 ch.length)),(17,.val (.int .i64 i)),(22,.val (.row (c.ps.map Pair.pv))),(23,.val (.int .i64 c.ps.length)),(24,.val (.int .i64 0))] [.box true [.val (.row (c.ps.map Pair.pv)),.val (.row (c.cs.map Change.pv)),.val (.bool (decide (c.more = true)))],.row 72 []] [some 3,none]
   ⟨0,Nat.zero_le _,rfl,rfl,rfl⟩ (by simp only [go_sem,↓reduceIte,reduceCtorEq,yA,yB,uA,uB,uC,uD,uE,uF,Chunk.pv]; try decide) ?_
  rintro m ls os ⟨j,hj,rfl,rfl,rfl⟩
  refine V.exec 400 ?_
  by_cases hjt : j < c.ps.length
  ·have hjt' : (j : Int) < (c.ps.length : Int) := by omega
   obtain ⟨x,hy⟩ : ∃ x,c.ps[j]? = some x := ⟨_,List.getElem?_eq_getElem hjt⟩
   have hw2 : IntKind.i64.wrap ((j : Int) + 1) = ((j + 1 : Nat) : Int) := by rw [wrap_small3] <;> omega
   have hts : (c.ps.take (j + 1)).map noteP = (c.ps.take j).map noteP ++ [noteP x] := by rw [List.take_add_one,hy,List.map_append]; rfl
   have htl : ((c.ps.take j).map noteP).length ≤ 1000 := by rw [List.length_map,List.length_take]; omega
   generalize (c.ps.take j).map noteP = N at *
   simp +contextual (maxSteps := 1000000) only [go_sem,↓reduceIte,reduceCtorEq,yA,yB,uA,uB,uC,uD,uE,uF,hjt',hy,Pair.pv,hw2]
   refine ⟨⟨by omega,by omega⟩,c.ps.length - (j + 1),_,_,[some 0,some 14],by omega,⟨j + 1,by omega,rfl,rfl,rfl⟩,?_⟩
   simp only [go_sem,↓reduceIte,reduceCtorEq,yA,yB,uA,uB,uC,uD,uE,uF,hts,List.map_append,List.map_cons,List.map_nil,Note.pv,noteP]
   try decide
  ·have hjt' : ¬ (j : Int) < (c.ps.length : Int) := by omega
   rw [List.take_of_length_le (by omega)]
   simp +contextual (maxSteps := 1000000) only [go_sem,↓reduceIte,reduceCtorEq,yA,yB,uA,uB,uC,uD,uE,uF,hjt']
   refine V.call rfl rfl (by simp [dOK]) ⟨68,[],by simp only [go_sem,↓reduceIte,reduceCtorEq,yA,yB,uA,uB,uC,uD,uE,uF],⟨_,rfl,rfl,rfl⟩,.inl ⟨[.row (out.map Pair.pv),.row ((c.ps.map noteP).map Note.pv)],_,.inl (by simp only [go_sem,↓reduceIte,reduceCtorEq,yA,yB,uA,uB,uC,uD,uE,uF]),ha,.inr (.inl ⟨_,rfl,rfl,rfl⟩)⟩⟩ ?_
   refine V.exec 400 ?_
   by_cases he1 : e1 = 0
   ·rw [if_pos he1] at hgo
    subst he1
    simp +contextual (maxSteps := 1000000) only [go_sem,↓reduceIte,reduceCtorEq,yA,yB,uA,uB,uC,uD,uE,uF]
    refine V.call rfl rfl (by simp [dOK]) ⟨69,[],by simp only [go_sem,↓reduceIte,reduceCtorEq,yA,yB,uA,uB,uC,uD,uE,uF],⟨_,rfl,rfl,rfl⟩,.inl ⟨[.row (q.map Pair.pv),.row (c.cs.map Change.pv)],_,.inl (by simp only [go_sem,↓reduceIte,reduceCtorEq,yA,yB,uA,uB,uC,uD,uE,uF]),hd,.inr (.inl ⟨_,rfl,rfl,rfl⟩)⟩⟩ ?_
    refine V.exec 400 ?_
    by_cases he2 : e2 = 0
    ·rw [if_pos he2] at hgo
     subst he2
     simp +contextual (maxSteps := 1000000) only [go_sem,↓reduceIte,reduceCtorEq,yA,yB,uA,uB,uC,uD,uE,uF,hw]
     exact ⟨ch.length - (i + 1),_,[],[],by omega,⟨i + 1,q2,by omega,rfl,by omega,hgo,rfl,rfl⟩,by simp only [go_sem,↓reduceIte,reduceCtorEq,yA,yB,uA,uB,uC,uD,uE,uF]⟩
    ·rw [if_neg he2,Prod.mk.injEq] at hgo
     obtain ⟨rfl,rfl⟩ := hgo
     simp +contextual (maxSteps := 1000000) only [go_sem,↓reduceIte,reduceCtorEq,yA,yB,uA,uB,uC,uD,uE,uF,he2]
   ·rw [if_neg he1,Prod.mk.injEq] at hgo
    obtain ⟨rfl,rfl⟩ := hgo
    simp +contextual (maxSteps := 1000000) only [go_sem,↓reduceIte,reduceCtorEq,yA,yB,uA,uB,uC,uD,uE,uF,he1]
 ·have hlt' : ¬ (i : Int) < (ch.length : Int) := by omega
  have hd : ch.drop i = [] := List.drop_eq_nil_of_le (by omega)
  rw [hd,replayGo,Prod.mk.injEq] at hgo
  obtain ⟨rfl,rfl⟩ := hgo
  simp +contextual (maxSteps := 1000000) only [go_sem,↓reduceIte,reduceCtorEq,yA,yB,uA,uB,uC,uD,uE,uF,hlt']
theorem took_cases {s : Sub} (hok : s.ok) (hl : s.live = false) {l : List Pair} {t : List Change} {floor n : Int} (hn : 0 ≤ n) :
  ((leftV s l t floor).2 ≠ 0 → tookV s l t floor n = (s,(leftV s l t floor).2)) ∧ ∀ P,leftV s l t floor = (P,0) →
   ((P.length : Int) < n → tookV s l t floor n = (s,9)) ∧ (n = (P.length : Int) → tookV s l t floor n = ({ s with live := true,next := [] },0)) ∧
   (n = 0 → n < (P.length : Int) → tookV s l t floor n = (s,0)) ∧ (∀ j k,n = ((j + 1 : Nat) : Int) → j + 1 < P.length → P[j]? = some k → tookV s l t floor n = ({ s with next := k.key ++ [0] },0)) := by
 have hc : s.ok ∧ s.live = false ∧ 0 ≤ n := ⟨hok,hl,hn⟩
 constructor
 ·intro h
  unfold tookV
  rw [if_pos hc,if_neg h]
 ·intro P hP
  refine ⟨fun h => ?_,fun h => ?_,fun h1 h2 => ?_,fun j k h1 h2 h3 => ?_⟩
  ·unfold tookV; rw [if_pos hc,hP]; simp only [↓reduceIte]; rw [if_pos h]
  ·unfold tookV; rw [if_pos hc,hP]; simp only [↓reduceIte]; rw [if_neg (by omega),if_pos h]
  ·unfold tookV; rw [if_pos hc,hP]; simp only [↓reduceIte]; rw [if_neg (by omega),if_neg (by omega)]
   split
   ·rw [if_neg (by omega)]
   ·rfl
  ·unfold tookV; rw [if_pos hc,hP]; simp only [↓reduceIte]; rw [if_neg (by omega),if_neg (by omega)]
   have e : n.toNat - 1 = j := by omega
   rw [e,h3]
   simp only
   rw [if_pos (by omega)]
theorem pick_sorted {p : List Pair} (hs : Sorted p) (r : Range) : Sorted (pickV r p) := List.Pairwise.sublist List.filter_sublist hs
theorem pick_ok {p : List Pair} (h : pairsOk p) (r : Range) : pairsOk (pickV r p) := by
 obtain ⟨h1,h2⟩ := (pairsOk_iff p).1 h
 exact (pairsOk_iff _).2 ⟨pick_sorted h1 r,fun x hx => h2 x (List.mem_filter.1 hx).1⟩
theorem pick_val {p : List Pair} (hs : Sorted p) (r : Range) (k : List UInt8) : val (pickV r p) k = if r.isIn k then val p k else none := by
 apply Option.ext
 intro v
 rw [val_iff (pick_sorted hs r)]
 unfold pickV
 rw [List.mem_filter]
 simp only [decide_eq_true_eq]
 by_cases h : r.isIn k
 ·rw [if_pos h,val_iff hs]; simp [h]
 ·rw [if_neg h]; simp [h]
theorem pick_one {p : List Pair} (hs : Sorted p) (r : Range) (c : Change) : pickV r (oneV p (noteC c)) = if r.isIn c.key then oneV (pickV r p) (noteC c) else pickV r p := by
 have h1 := oneV_sorted hs (noteC c)
 have h2 := pick_sorted hs r
 split
 ·rename_i hk
  refine val_ext (pick_sorted h1 r) (oneV_sorted h2 _) fun k => ?_
  rw [pick_val h1,val_note hs,val_note h2,pick_val hs]
  by_cases e : k = c.key
  ·subst e; simp [hk]
  ·simp [e]
 ·rename_i hk
  refine val_ext (pick_sorted h1 r) h2 fun k => ?_
  rw [pick_val h1,val_note hs,pick_val hs]
  by_cases e : k = c.key
  ·subst e; simp [hk]
  ·simp [e]
theorem pick_go (r : Range) : ∀ (cs : List Change) {p q : List Pair},pairsOk p → doGo p cs = some q → doGo (pickV r p) (cs.filter fun c => decide (r.isIn c.key)) = some (pickV r q)
 | [],p,q,h,e => by cases e; rfl
 | c :: t,p,q,h,e => by
  simp only [doGo] at e
  split at e
  ·rename_i hc
   have hs := ((pairsOk_iff p).1 h).1
   have ih := pick_go r t (oneV_pairsOk h (noteC_ok hc.1)) e
   rw [pick_one hs] at ih
   by_cases hk : r.isIn c.key
   ·rw [if_pos hk] at ih
    rw [List.filter_cons,if_pos (by simpa using hk)]
    have hfit : fitC (pickV r p) c := (fitC_val (pick_ok h r) hc.1).2 (by rw [pick_val hs,if_pos hk]; exact (fitC_val h hc.1).1 hc.2)
    simp only [doGo]
    rw [if_pos ⟨hc.1,hfit⟩]
    exact ih
   ·rw [if_neg hk] at ih
    rw [List.filter_cons,if_neg (by simpa using hk)]
    exact ih
  ·cases e
theorem take_filter {α : Type} (P : α → Bool) : ∀ (A : List α) (n : Nat),0 < n → n ≤ (A.filter P).length → ∃ j,0 < j ∧ j ≤ A.length ∧ (A.filter P).take n = (A.take j).filter P ∧ ∃ x,A[j - 1]? = some x ∧ ((A.filter P).take n)[n - 1]? = some x
 | [],n,h0,h => by simp at h; omega
 | a :: A,n,h0,h => by
  by_cases hp : P a = true
  ·rw [List.filter_cons,if_pos hp] at h ⊢
   by_cases h1 : n = 1
   ·subst h1
    exact ⟨1,by omega,by simp,by simp [hp],a,by simp,by simp⟩
   ·obtain ⟨m,rfl⟩ : ∃ m,n = m + 1 := ⟨n - 1,by omega⟩
    obtain ⟨j,g1,g2,g3,x,g4,g5⟩ := take_filter P A m (by omega) (by simpa using h)
    refine ⟨j + 1,by omega,by simpa using g2,by rw [List.take_succ_cons,List.take_succ_cons,List.filter_cons,if_pos hp,g3],x,?_,?_⟩
    ·obtain ⟨j',rfl⟩ : ∃ j',j = j' + 1 := ⟨j - 1,by omega⟩
     simpa using g4
    ·obtain ⟨m',rfl⟩ : ∃ m',m = m' + 1 := ⟨m - 1,by omega⟩
     simpa using g5
  ·rw [List.filter_cons,if_neg hp] at h ⊢
   obtain ⟨j,g1,g2,g3,x,g4,g5⟩ := take_filter P A n h0 h
   refine ⟨j + 1,by omega,by simpa using g2,by rw [g3,List.take_succ_cons,List.filter_cons,if_neg hp],x,?_,g5⟩
   obtain ⟨j',rfl⟩ : ∃ j',j = j' + 1 := ⟨j - 1,by omega⟩
   simpa using g4
set_option maxHeartbeats 2000000 in
theorem CloneSub (xs : List PV) (h1 : ∀ x ∈ xs,x.cells.length = 7) (hl : xs.length ≤ 1000000) : Ct Tryz.prog 55 (Zv.ops [.row xs]) (.own 67 xs) := by
 refine Ct.of_V Tryz.func55 rfl (by simp [Zv.ops,Tryz.f55]) ?_
 refine V.exec 400 ?_
 simp +contextual (maxSteps := 1000000) only [go_sem,↓reduceIte,reduceCtorEq,yA,yB,uA,uB,uC,uD,uE,uF,Tryz.f55]
 refine V.nilq (xs := xs) rfl rfl (.inl rfl) (by simp only [go_sem,↓reduceIte,Nat.reduceEqDiff]) (by simp only [go_sem]; rfl) (by simp [dOK]) fun c hc => ?_
 refine V.exec 400 ?_
 simp +contextual (maxSteps := 1000000) only [go_sem,↓reduceIte,reduceCtorEq,yA,yB,uA,uB,uC,uD,uE,uF]
 exact ⟨fun h => ⟨hc h,7,rfl,by decide⟩,fun _ => ⟨h1,by omega,by omega⟩⟩
set_option maxHeartbeats 2000000 in
theorem IndexFuncSub (xs : List PV) (g : FuncId) (caps : List PV) (p : PV → Bool) (h1 : ∀ x ∈ xs,x.cells.length = 7 ∧ x.isAgg = true) (hl : xs.length ≤ 1000000) (hg : Entered Tryz.prog g)
  (hp : ∀ x ∈ xs,Ct Tryz.prog g (Zv.ops ([x] ++ caps)) (.vals [.bool (decide (p x = true))])) (r : Nat) (hr : r ≤ xs.length) (hr1 : ∀ x ∈ xs.take r,p x = false) (hr2 : ∀ x,xs[r]? = some x → p x = true) :
  Ct Tryz.prog 103 (Zv.ops [.row xs,.fn g caps]) (.vals [.int .i64 (if r < xs.length then (r : Int) else -1)]) := by
 refine Ct.of_V Tryz.func103 rfl (by simp [Zv.ops,Tryz.f103]) ?_
 refine V.exec 400 ?_
 simp +contextual (maxSteps := 1000000) only [go_sem,↓reduceIte,reduceCtorEq,yA,yB,uA,uB,uC,uD,uE,uF,Tryz.f103]
 refine V.loop (fun m ls os => ∃ i : Nat,i ≤ r ∧ m = xs.length - i ∧
    ls = [(0,.val (.row xs)),(1,.val (.fn g caps)),(7,.val (.int .i64 xs.length)),(8,.val (.int .i64 i))] ∧ os = []) 0 xs.length [(0,.val (.row xs)),(1,.val (.fn g caps)),(7,.val (.int .i64 xs.length)),(8,.val (.int .i64 0))] [] []
   ⟨0,Nat.zero_le _,rfl,rfl,rfl⟩ (by simp only [go_sem,↓reduceIte,reduceCtorEq,yA,yB,uA,uB,uC,uD,uE,uF]) ?_
 rintro m ls os ⟨i,hi,rfl,rfl,rfl⟩
 refine V.exec 400 ?_
 by_cases hlt : i < xs.length
 ·have hlt' : (i : Int) < (xs.length : Int) := by omega
  obtain ⟨x,hx⟩ : ∃ x,xs[i]? = some x := ⟨_,List.getElem?_eq_getElem hlt⟩
  have hxm : x ∈ xs := List.mem_of_getElem? hx
  obtain ⟨hxc,hxa⟩ := h1 x hxm
  have hw : IntKind.i64.wrap ((i : Int) + 1) = ((i + 1 : Nat) : Int) := by rw [wrap_small] <;> omega
  simp +contextual (maxSteps := 1000000) only [go_sem,↓reduceIte,reduceCtorEq,yA,yB,uA,uB,uC,uD,uE,uF,hlt',hx,hxc,hxa]
  refine V.call rfl rfl (by simp [dOK]) ⟨g,caps,by simp only [go_sem,↓reduceIte,reduceCtorEq,yA,yB,uA,uB,uC,uD,uE,uF],hg,.inl ⟨[x],_,.inl (by simp only [go_sem,↓reduceIte,reduceCtorEq,yA,yB,uA,uB,uC,uD,uE,uF]),hp x hxm,.inl ⟨_,rfl,rfl,rfl,rfl⟩⟩⟩ ?_
  refine V.exec 400 ?_
  simp +contextual (maxSteps := 1000000) only [go_sem,↓reduceIte,reduceCtorEq,yA,yB,uA,uB,uC,uD,uE,uF,hw]
  constructor
  ·intro hpx
   have hir : i = r := by
    rcases Nat.lt_or_ge i r with h | h
    ·have := hr1 x (List.mem_of_getElem? (i := i) (by rw [List.getElem?_take_of_lt h]; exact hx))
     rw [this] at hpx; cases hpx
    ·omega
   subst hir
   rw [if_pos hlt]
  ·intro hpx
   have hir : i < r := by
    rcases Nat.lt_or_ge i r with h | h
    ·exact h
    ·have : i = r := by omega
     subst this
     exact absurd (hr2 x hx) hpx
   exact ⟨xs.length - (i + 1),_,[],[],by omega,⟨i + 1,by omega,rfl,rfl,rfl⟩,by simp only [go_sem,↓reduceIte,reduceCtorEq,yA,yB,uA,uB,uC,uD,uE,uF]⟩
 ·have hlt' : ¬ (i : Int) < (xs.length : Int) := by omega
  simp +contextual (maxSteps := 1000000) only [go_sem,↓reduceIte,reduceCtorEq,yA,yB,uA,uB,uC,uD,uE,uF,hlt']
  rw [if_neg (by omega)]
set_option maxHeartbeats 4000000 in
theorem DeleteFuncSub (xs : List PV) (g : FuncId) (caps : List PV) (p : PV → Bool) (h1 : ∀ x ∈ xs,x.cells.length = 7 ∧ x.isAgg = true ∧ ∀ c ∈ x.cells,c.isAgg = false) (hl : xs.length ≤ 1000000) (hg : Entered Tryz.prog g)
  (hp : ∀ x ∈ xs,Ct Tryz.prog g (Zv.ops ([x] ++ caps)) (.vals [.bool (decide (p x = true))])) (hz : (zeroPV Tryz.prog 67 7).isSome = true) :
  Ct Tryz.prog 131 (.o 67 xs :: Zv.ops [.fn g caps]) (.own 67 (xs.filter fun x => !p x)) := by
 obtain ⟨r,hr,hr1,hr2⟩ : ∃ r,r ≤ xs.length ∧ (∀ x ∈ xs.take r,p x = false) ∧ ∀ x,xs[r]? = some x → p x = true := by
  clear h1 hl hp
  induction xs with
  | nil => exact ⟨0,by simp,by simp,by simp⟩
  | cons x xs ih =>
   by_cases hx : p x = true
   ·exact ⟨0,by simp,by simp,by simp [hx]⟩
   ·obtain ⟨r,h1,h2,h3⟩ := ih
    refine ⟨r + 1,by simpa using h1,?_,by simpa using h3⟩
    intro y hy
    simp only [List.take_succ_cons,List.mem_cons] at hy
    rcases hy with rfl | hy
    ·simpa using hx
    ·exact h2 y hy
 refine Ct.of_V Tryz.func131 rfl (by simp [Zv.ops,Tryz.f131]) ?_
 refine V.exec 400 ?_
 simp +contextual (maxSteps := 1000000) only [go_sem,↓reduceIte,reduceCtorEq,yA,yB,uA,uB,uC,uD,uE,uF,Tryz.f131]
 refine V.call rfl rfl (by simp [dOK]) ⟨103,[],by simp only [go_sem,↓reduceIte,reduceCtorEq,yA,yB,uA,uB,uC,uD,uE,uF],⟨_,rfl,rfl,rfl⟩,.inl ⟨[.row xs,.fn g caps],_,.inl (by simp only [go_sem,↓reduceIte,reduceCtorEq,yA,yB,uA,uB,uC,uD,uE,uF]),IndexFuncSub xs g caps p (fun x hx => ⟨(h1 x hx).1,(h1 x hx).2.1⟩) hl hg hp r hr hr1 hr2,.inl ⟨_,rfl,rfl,rfl,rfl⟩⟩⟩ ?_
 refine V.exec 400 ?_
 simp +contextual (maxSteps := 1000000) only [go_sem,↓reduceIte,reduceCtorEq,yA,yB,uA,uB,uC,uD,uE,uF]
 constructor
 ·intro h
  have hrl : ¬ r < xs.length := by intro h'; rw [if_pos h'] at h; omega
  have : xs.filter (fun x => !p x) = xs := by
   rw [List.filter_eq_self]
   intro x hx
   have := hr1 x (by rw [List.take_of_length_le (by omega)]; exact hx)
   simp [this]
  rw [this]
 ·intro h
  have hrl : r < xs.length := by
   rcases Nat.lt_or_ge r xs.length with h' | h'
   ·exact h'
   ·rw [if_neg (by omega)] at h; exact absurd rfl h
  simp only [if_pos hrl]
  have hw0 : IntKind.i64.wrap ((r : Int) + 1) = ((r + 1 : Nat) : Int) := by rw [wrap_small] <;> omega
  simp only [hw0]
  refine V.loop (fun m ls os => ∃ (i j : Nat) (ys : List PV),i < j ∧ j ≤ xs.length ∧ m = xs.length - j ∧ ys.length = xs.length ∧ ys.take i = (xs.take j).filter (fun x => !p x) ∧ ys.drop j = xs.drop j ∧ (∀ y ∈ ys,y ∈ xs) ∧
    ls = [(0,.ref 0),(1,.val (.fn g caps)),(5,.val (.int .i64 i)),(6,.val (.int .i64 j))] ∧ os = [.row 67 ys]) 1 (xs.length - (r + 1)) [(0,.ref 0),(1,.val (.fn g caps)),(5,.val (.int .i64 r)),(6,.val (.int .i64 (r + 1 : Nat)))] [.row 67 xs] [some 0]
   ⟨r,r + 1,xs,by omega,by omega,rfl,rfl,?_,rfl,fun y hy => hy,rfl,rfl⟩ (by simp only [go_sem,↓reduceIte,reduceCtorEq,yA,yB,uA,uB,uC,uD,uE,uF]) ?_
  ·obtain ⟨x,hx⟩ : ∃ x,xs[r]? = some x := ⟨_,List.getElem?_eq_getElem hrl⟩
   rw [List.take_add_one,hx,List.filter_append]
   have e1 : (xs.take r).filter (fun x => !p x) = xs.take r := by
    rw [List.filter_eq_self]; intro y hy; simp [hr1 y hy]
   rw [e1]
   simp [hr2 x hx]
  ·rintro m ls os ⟨i,j,ys,hij,hj,rfl,hyl,hyt,hyd,hym,rfl,rfl⟩
   by_cases hlt : j < xs.length
   ·have hlt' : (j : Int) < (ys.length : Int) := by omega
    refine V.exec 400 ?_
    obtain ⟨x,hx⟩ : ∃ x,ys[j]? = some x := ⟨_,List.getElem?_eq_getElem (by omega)⟩
    obtain ⟨z,hz'⟩ : ∃ z,ys[i]? = some z := ⟨_,List.getElem?_eq_getElem (by omega)⟩
    have hxm : x ∈ xs := hym x (List.mem_of_getElem? hx)
    have hzm : z ∈ xs := hym z (List.mem_of_getElem? hz')
    obtain ⟨hzc,hza,_⟩ := h1 z hzm
    obtain ⟨hxc,hxa,hxn⟩ := h1 x hxm
    have hpx := hp x hxm
    obtain ⟨c0,c1,c2,c3,c4,c5,c6,rfl⟩ : ∃ c0 c1 c2 c3 c4 c5 c6,x = .agg [c0,c1,c2,c3,c4,c5,c6] := by
     cases x with
     | agg cs =>
      match cs,hxc with
      | [c0,c1,c2,c3,c4,c5,c6],_ => exact ⟨c0,c1,c2,c3,c4,c5,c6,rfl⟩
     | _ => cases hxa
    have n0 : c0.isAgg = false := hxn c0 (by simp [PV.cells])
    have n1 : c1.isAgg = false := hxn c1 (by simp [PV.cells])
    have n2 : c2.isAgg = false := hxn c2 (by simp [PV.cells])
    have n3 : c3.isAgg = false := hxn c3 (by simp [PV.cells])
    have n4 : c4.isAgg = false := hxn c4 (by simp [PV.cells])
    have n5 : c5.isAgg = false := hxn c5 (by simp [PV.cells])
    have n6 : c6.isAgg = false := hxn c6 (by simp [PV.cells])
    have hwi : IntKind.i64.wrap ((i : Int) + 1) = ((i + 1 : Nat) : Int) := by rw [wrap_small] <;> omega
    have hwj : IntKind.i64.wrap ((j : Int) + 1) = ((j + 1 : Nat) : Int) := by rw [wrap_small] <;> omega
    simp +contextual (maxSteps := 1000000) only [go_sem,↓reduceIte,reduceCtorEq,yA,yB,uA,uB,uC,uD,uE,uF,hlt',hx,n0,n1,n2,n3,n4,n5,n6]
    refine V.call rfl rfl (by simp [dOK]) ⟨g,caps,by simp only [go_sem,↓reduceIte,reduceCtorEq,yA,yB,uA,uB,uC,uD,uE,uF],hg,.inl ⟨[_],_,.inl (by simp only [go_sem,↓reduceIte,reduceCtorEq,yA,yB,uA,uB,uC,uD,uE,uF]),hpx,.inl ⟨_,rfl,rfl,rfl,rfl⟩⟩⟩ ?_
    refine V.exec 400 ?_
    simp +contextual (maxSteps := 1000000) only [go_sem,↓reduceIte,reduceCtorEq,yA,yB,uA,uB,uC,uD,uE,uF,hwi,hwj,hz',hzc,n0,n1,n2,n3,n4,n5,n6]
    have hxj : xs[j]? = some (.agg [c0,c1,c2,c3,c4,c5,c6]) := by
     have e1 : (ys.drop j)[0]? = (xs.drop j)[0]? := by rw [hyd]
     simp only [List.getElem?_drop,Nat.add_zero] at e1
     rw [← e1]; exact hx
    have hdrop : ys.drop (j + 1) = xs.drop (j + 1) := by rw [← List.drop_drop,← List.drop_drop,hyd]
    have htk : xs.take (j + 1) = xs.take j ++ [.agg [c0,c1,c2,c3,c4,c5,c6]] := by rw [List.take_add_one,hxj]; rfl
    constructor
    ·intro hpx
     refine ⟨xs.length - (j + 1),_,_,[some 0],by omega,⟨i + 1,j + 1,ys.set i (.agg [c0,c1,c2,c3,c4,c5,c6]),by omega,by omega,rfl,by simpa using hyl,?_,?_,?_,rfl,rfl⟩,?_⟩
     ·rw [htk,List.filter_append,← hyt,List.take_add_one,List.getElem?_set_self (by omega),List.take_set_of_le (Nat.le_refl _)]
      simp [hpx]
     ·rw [List.drop_set_of_lt (by omega)]; exact hdrop
     ·intro y hy
      rcases List.mem_or_eq_of_mem_set hy with hy | hy
      ·exact hym y hy
      ·rw [hy]; exact hxm
     ·simp only [go_sem,↓reduceIte,reduceCtorEq,yA,yB,uA,uB,uC,uD,uE,uF]
    ·intro hpx
     refine ⟨xs.length - (j + 1),_,_,[some 0],by omega,⟨i,j + 1,ys,by omega,by omega,rfl,hyl,?_,hdrop,hym,rfl,rfl⟩,?_⟩
     ·rw [htk,List.filter_append,hyt]
      simp [hpx]
     ·simp only [go_sem,↓reduceIte,reduceCtorEq,yA,yB,uA,uB,uC,uD,uE,uF]
   ·have hlt' : ¬ (j : Int) < (ys.length : Int) := by omega
    refine V.execS [11] 400 ?_
    simp +contextual (maxSteps := 1000000) only [go_sem,↓reduceIte,reduceCtorEq,yA,yB,uA,uB,uC,uD,uE,uF,hlt']
    refine V.opn 0 7 67 ys (by simp only [go_sem,↓reduceIte,reduceCtorEq,yA,yB,uA,uB,uC,uD,uE,uF]) (by simp only [go_sem,↓reduceIte,reduceCtorEq,yA,yB,uA,uB,uC,uD,uE,uF]) fun q => ?_
    refine V.exec 400 ?_
    simp +contextual (maxSteps := 1000000) only [go_sem,↓reduceIte,reduceCtorEq,yA,yB,uA,uB,uC,uD,uE,uF]
    have hi : i ≤ ys.length := by omega
    have hjx : j = xs.length := by omega
    rw [show 0 + i = i from Nat.zero_add i,over_length hi,List.length_replicate]
    refine ⟨⟨hi,by omega⟩,⟨hi,by omega⟩,⟨by omega,by omega⟩,by omega,?_⟩
    rw [hjx,List.take_length] at hyt
    rw [Nat.sub_zero,over,List.append_assoc,List.take_append_of_le_length (by simp [Nat.min_eq_left hi]),List.take_take,Nat.min_self,hyt]
set_option maxHeartbeats 4000000 in
theorem InsertSub (xs : List PV) (y : PV) (i : Nat) (h1 : ∀ x ∈ xs,x.cells.length = 7) (hy : y.cells.length = 7) (hi : i ≤ xs.length) (hl : xs.length ≤ 1000000) :
  Ct Tryz.prog 128 (.o 67 xs :: Zv.ops [.int .i64 i,.rowp [y]]) (.own 67 (xs.take i ++ [y] ++ xs.drop i)) := by
 refine Ct.of_V Tryz.func128 rfl (by simp [Zv.ops,Tryz.f128]) ?_
 refine V.opn 0 7 67 xs rfl (by simp only [go_sem,↓reduceIte,reduceCtorEq,yA,yB,uA,uB,uC,uD,uE,uF]) fun q => ?_
 have hw : IntKind.i64.wrap ((xs.length : Int) + ((0 + 1 : Nat) : Int)) = ((xs.length + 1 : Nat) : Int) := by rw [wrap_small'] <;> omega
 have hw2 : IntKind.i64.wrap (((xs.length + 1 : Nat) : Int) - (i : Int)) = ((xs.length + 1 - i : Nat) : Int) := by rw [wrap_small'] <;> omega
 have hw3 : IntKind.i64.wrap ((i : Int) + ((0 + 1 : Nat) : Int)) = ((i + 1 : Nat) : Int) := by rw [wrap_small'] <;> omega
 refine V.execS [10,14] 400 ?_
 simp +contextual (maxSteps := 1000000) only [go_sem,↓reduceIte,reduceCtorEq,yA,yB,uA,uB,uC,uD,uE,uF,Tryz.f128,hy,hw,hw2,hw3]
 refine ⟨⟨hi,by omega⟩,fun h => absurd h (by omega),fun _ => ⟨fun he => ?_,fun hne => ⟨by omega,fun hlt => ⟨⟨by omega,by omega⟩,⟨by omega,by omega,by omega,by omega,by omega⟩,?_⟩,fun hge => ⟨by omega,?_⟩⟩⟩⟩
 ·-- at the end
  have hin : i = xs.length := by omega
  subst hin
  have e1 : xs.take xs.length ++ [y] ++ xs.drop xs.length = xs ++ [y] := by simp
  rw [e1]
  refine ⟨fun hr => ⟨by omega,?_,?_⟩,fun hr => ⟨⟨by omega,by omega,by omega,by omega⟩,by rw [List.take_length]⟩⟩
  ·rw [over_length (by omega)]; simp
  ·have e2 : over xs [y] (0 + xs.length) = xs ++ [y] := by simp [over]
   rw [e2,List.take_of_length_le (by simp)]
 ·-- no room: a new row
  have hin : i < xs.length := by omega
  have hYl : (List.take (i - 0) xs ++ List.replicate (xs.length + 1 - i) (PV.agg [.int .i64 0,.str [],.str [],.bool false,.bool false,.str [],.int .i64 0])).length = xs.length + 1 := by
   simp; omega
  have hYt : (List.take (i - 0) xs ++ List.replicate (xs.length + 1 - i) (PV.agg [.int .i64 0,.str [],.str [],.bool false,.bool false,.str [],.int .i64 0])).take i = xs.take i := by
   rw [Nat.sub_zero,List.take_append_of_le_length (by simp; omega),List.take_take,Nat.min_self]
  generalize List.take (i - 0) xs ++ List.replicate (xs.length + 1 - i) (PV.agg [.int .i64 0,.str [],.str [],.bool false,.bool false,.str [],.int .i64 0]) = Y at *
  refine V.opn 32 7 67 Y (by simp only [go_sem,↓reduceIte,reduceCtorEq,yA,yB,uA,uB,uC,uD,uE,uF]) (by simp only [go_sem,↓reduceIte,reduceCtorEq,yA,yB,uA,uB,uC,uD,uE,uF]) fun q2 => ?_
  refine V.exec 400 ?_
  have m1 : min 1 (Y.length - i) = 1 := by omega
  have m2 : min (xs.length - i) (Y.length - (i + 1)) = xs.length - i := by omega
  simp +contextual (maxSteps := 1000000) only [go_sem,↓reduceIte,reduceCtorEq,yA,yB,uA,uB,uC,uD,uE,uF,hy,hw,hw2,hw3,Nat.zero_add,Nat.sub_zero,m1,m2]
  have hol : (over Y [y] i).length = Y.length := by rw [over_length (by omega)]; simp; omega
  have hdl : (List.take (xs.length - i) (List.drop i xs)).length = xs.length - i := by simp
  simp only [hol,hdl]
  refine ⟨⟨by omega,by omega⟩,⟨by omega,by omega⟩,⟨by omega,by omega⟩,⟨by omega,by omega⟩,⟨by omega,by omega,by omega⟩,by kernel_rfl,?_⟩
  have hd : List.take (xs.length - i) (List.take (xs.length - i) (List.drop i xs)) = xs.drop i := by rw [List.take_of_length_le (by simp),List.take_of_length_le (by simp)]
  rw [hd,ins_grow xs [y] i Y rfl hin hYl hYt]
  exact ⟨by simp; omega,(List.take_of_length_le (by simp; omega)).symm⟩
 ·-- there is room
  refine V.exec 400 ?_
  simp +contextual (maxSteps := 1000000) only [go_sem,↓reduceIte,reduceCtorEq,yA,yB,uA,uB,uC,uD,uE,uF,hy,hw,hw2,hw3,Nat.zero_add,Nat.sub_zero]
  refine ⟨⟨by omega,by omega⟩,?_⟩
  refine V.ovl (f := 162) (zs := [y]) (id := 0) (sz := 7) (l := i + 1) (len := xs.length + 1 - (i + 1)) (xs := xs) (q := q) (e := 67) (tS := 29) (tR := 4) rfl rfl (by simp [dOK]) (by simp only [go_sem,↓reduceIte,reduceCtorEq,yA,yB,uA,uB,uC,uD,uE,uF]) rfl rfl rfl (by kernel_rfl) (by kernel_rfl) (by simp only [go_sem,↓reduceIte,reduceCtorEq,yA,yB,uA,uB,uC,uD,uE,uF]) (by simp only [go_sem,↓reduceIte,reduceCtorEq,yA,yB,uA,uB,uC,uD,uE,uF]) (by simp only [go_sem,↓reduceIte,reduceCtorEq,yA,yB,uA,uB,uC,uD,uE,uF]) (by simp only [go_sem,↓reduceIte,reduceCtorEq,yA,yB,uA,uB,uC,uD,uE,uF]) (by simp only [go_sem,↓reduceIte,reduceCtorEq,yA,yB,uA,uB,uC,uD,uE,uF]) (by omega) ?_
  refine V.exec 400 ?_
  have hin : i < xs.length := by omega
  have m3 : min (xs.length + 1 - i) (xs.length + 1 - (i + 1)) = xs.length - i := by omega
  have m4 : min 1 (xs.length + 1 - i) = 1 := by omega
  have hd2 : List.take (xs.length - i) (List.take (xs.length + 1 - i) (List.drop i xs)) = xs.drop i := by rw [List.take_take,List.take_of_length_le (by simp; omega)]
  have hd3 : (List.take (xs.length + 1 - i) (List.drop i xs)).length = xs.length - i := by simp; omega
  have hol : (over xs (xs.drop i) (i + 1)).length = xs.length + 1 := by rw [over_length (by omega),List.length_drop]; omega
  have hol2 : (over (over xs (xs.drop i) (i + 1)) [y] i).length = xs.length + 1 := by rw [over_length (by omega),hol]; simp; omega
  simp +contextual (maxSteps := 1000000) only [go_sem,↓reduceIte,reduceCtorEq,yA,yB,uA,uB,uC,uD,uE,uF,hy,hw,hw2,hw3,Nat.zero_add,Nat.sub_zero,m3,m4,hd2,hd3,hol,hol2]
  refine ⟨⟨by omega,by omega⟩,⟨by omega,by omega⟩,⟨by omega,by omega,by omega⟩,by kernel_rfl,⟨by omega,by omega⟩,⟨by omega,by omega⟩,by omega,?_⟩
  rw [ins_room xs [y] i rfl hin]
  exact (List.take_of_length_le (by simp; omega)).symm
set_option maxHeartbeats 4000000 in
theorem BSearchSub (xs : List PV) (t : PV) (g : FuncId) (caps : List PV) (c : PV → Int) (h1 : ∀ x ∈ xs,x.cells.length = 7 ∧ x.isAgg = true) (hl : xs.length ≤ 1000000) (hg : Entered Tryz.prog g)
  (hp : ∀ x ∈ xs,Ct Tryz.prog g (Zv.ops ([x,t] ++ caps)) (.vals [.int .i64 (c x)])) (r : Nat) (hr : r ≤ xs.length) (hr1 : ∀ i x,i < r → xs[i]? = some x → c x < 0) (hr2 : ∀ i x,r ≤ i → xs[i]? = some x → ¬ c x < 0) :
  Ct Tryz.prog 164 (Zv.ops [.row xs,t,.fn g caps]) (.vals [.int .i64 r,.bool (decide (∃ x,xs[r]? = some x ∧ c x = 0))]) := by
 refine Ct.of_V Tryz.func164 rfl (by simp [Zv.ops,Tryz.f164]) ?_
 refine V.exec 400 ?_
 simp +contextual (maxSteps := 1000000) only [go_sem,↓reduceIte,reduceCtorEq,yA,yB,uA,uB,uC,uD,uE,uF,Tryz.f164]
 refine V.loop (fun m ls os => ∃ (i j : Nat),i ≤ r ∧ r ≤ j ∧ j ≤ xs.length ∧ m = j - i ∧
    ls = [(0,.val (.row xs)),(1,.val t),(2,.val (.fn g caps)),(8,.val (.int .i64 xs.length)),(9,.val (.int .i64 i)),(10,.val (.int .i64 j))] ∧ os = []) 0 xs.length
   [(0,.val (.row xs)),(1,.val t),(2,.val (.fn g caps)),(8,.val (.int .i64 xs.length)),(9,.val (.int .i64 0)),(10,.val (.int .i64 xs.length))] [] []
   ⟨0,xs.length,Nat.zero_le _,hr,Nat.le_refl _,rfl,rfl,rfl⟩ (by simp only [go_sem,↓reduceIte,reduceCtorEq,yA,yB,uA,uB,uC,uD,uE,uF]) ?_
 rintro m ls os ⟨i,j,hi,hj,hjl,rfl,rfl,rfl⟩
 refine V.exec 400 ?_
 by_cases hlt : i < j
 ·have hlt' : (i : Int) < (j : Int) := by omega
  have hm : (i + j) / 2 < xs.length := by omega
  obtain ⟨x,hx⟩ : ∃ x,xs[(i + j) / 2]? = some x := ⟨_,List.getElem?_eq_getElem hm⟩
  have hxm : x ∈ xs := List.mem_of_getElem? hx
  obtain ⟨hxc,hxa⟩ := h1 x hxm
  have hw1 : IntKind.i64.wrap ((i : Int) + (j : Int)) = ((i + j : Nat) : Int) := by rw [wrap_small2] <;> omega
  have hw2 : IntKind.u64.wrap ((i + j : Nat) : Int) = ((i + j : Nat) : Int) := by rw [wrap_u2] <;> omega
  have hw3 : ((i + j : Nat) : Int) / 2 = (((i + j) / 2 : Nat) : Int) := by omega
  have hw4 : IntKind.i64.wrap (((i + j) / 2 : Nat) : Int) = (((i + j) / 2 : Nat) : Int) := by rw [wrap_small2] <;> omega
  have hw5 : IntKind.i64.wrap ((((i + j) / 2 : Nat) : Int) + 1) = (((i + j) / 2 + 1 : Nat) : Int) := by rw [wrap_small2] <;> omega
  simp +contextual (maxSteps := 1000000) only [go_sem,↓reduceIte,reduceCtorEq,yA,yB,uA,uB,uC,uD,uE,uF,hlt',hw1,hw2,hw3,hw4,hx,hxc,hxa]
  refine V.call rfl rfl (by simp [dOK]) ⟨g,caps,by simp only [go_sem,↓reduceIte,reduceCtorEq,yA,yB,uA,uB,uC,uD,uE,uF],hg,.inl ⟨[x,t],_,.inl (by simp only [go_sem,↓reduceIte,reduceCtorEq,yA,yB,uA,uB,uC,uD,uE,uF]),hp x hxm,.inl ⟨_,rfl,rfl,rfl,rfl⟩⟩⟩ ?_
  refine V.exec 400 ?_
  simp +contextual (maxSteps := 1000000) only [go_sem,↓reduceIte,reduceCtorEq,yA,yB,uA,uB,uC,uD,uE,uF,hw5]
  constructor
  ·intro hc
   have : (i + j) / 2 < r := by
    rcases Nat.lt_or_ge ((i + j) / 2) r with h | h
    ·exact h
    ·exact absurd hc (hr2 _ x h hx)
   exact ⟨j - ((i + j) / 2 + 1),_,[],[],by omega,⟨(i + j) / 2 + 1,j,by omega,hj,hjl,rfl,rfl,rfl⟩,by simp only [go_sem,↓reduceIte,reduceCtorEq,yA,yB,uA,uB,uC,uD,uE,uF]⟩
  ·intro hc
   have : r ≤ (i + j) / 2 := by
    rcases Nat.lt_or_ge ((i + j) / 2) r with h | h
    ·exact absurd (hr1 _ x h hx) hc
    ·exact h
   exact ⟨(i + j) / 2 - i,_,[],[],by omega,⟨i,(i + j) / 2,hi,this,by omega,rfl,rfl,rfl⟩,by simp only [go_sem,↓reduceIte,reduceCtorEq,yA,yB,uA,uB,uC,uD,uE,uF]⟩
 ·have hlt' : ¬ (i : Int) < (j : Int) := by omega
  have hir : i = r := by omega
  subst hir
  by_cases hil : i < xs.length
  ·have hil' : (i : Int) < (xs.length : Int) := by omega
   obtain ⟨x,hx⟩ : ∃ x,xs[i]? = some x := ⟨_,List.getElem?_eq_getElem hil⟩
   have hxm : x ∈ xs := List.mem_of_getElem? hx
   obtain ⟨hxc,hxa⟩ := h1 x hxm
   simp +contextual (maxSteps := 1000000) only [go_sem,↓reduceIte,reduceCtorEq,yA,yB,uA,uB,uC,uD,uE,uF,hlt',hil',hx,hxc,hxa]
   refine V.call rfl rfl (by simp [dOK]) ⟨g,caps,by simp only [go_sem,↓reduceIte,reduceCtorEq,yA,yB,uA,uB,uC,uD,uE,uF],hg,.inl ⟨[x,t],_,.inl (by simp only [go_sem,↓reduceIte,reduceCtorEq,yA,yB,uA,uB,uC,uD,uE,uF]),hp x hxm,.inl ⟨_,rfl,rfl,rfl,rfl⟩⟩⟩ ?_
   refine V.exec 400 ?_
   simp +contextual (maxSteps := 1000000) only [go_sem,↓reduceIte,reduceCtorEq,yA,yB,uA,uB,uC,uD,uE,uF,hx]
   simp [hx]
  ·have hil' : ¬ (i : Int) < (xs.length : Int) := by omega
   simp +contextual (maxSteps := 1000000) only [go_sem,↓reduceIte,reduceCtorEq,yA,yB,uA,uB,uC,uD,uE,uF,hlt',hil']
   have : xs[i]? = none := List.getElem?_eq_none (by omega)
   simp [this]
def cmpInt (a b : Int) : Int := if a < b then -1 else if b < a then 1 else 0
theorem isNaN55 (a : Int) : Ct Tryz.prog 189 (Zv.ops [.int .i64 a]) (.vals [.bool false]) := by
 refine Ct.of_V Tryz.func189 rfl (by simp [Zv.ops,Tryz.f189]) ?_
 refine V.exec 400 ?_
 simp +contextual (maxSteps := 1000000) only [go_sem,↓reduceIte,reduceCtorEq,yA,yB,uA,uB,uC,uD,uE,uF,Tryz.f189]
theorem Compare48 (a b : Int) : Ct Tryz.prog 166 (Zv.ops [.int .i64 a,.int .i64 b]) (.vals [.int .i64 (cmpInt a b)]) := by
 refine Ct.of_V Tryz.func166 rfl (by simp [Zv.ops,Tryz.f166]) ?_
 refine V.exec 400 ?_
 simp +contextual (maxSteps := 1000000) only [go_sem,↓reduceIte,reduceCtorEq,yA,yB,uA,uB,uC,uD,uE,uF,Tryz.f166]
 refine V.call rfl rfl (by simp [dOK]) ⟨189,[],by simp only [go_sem,↓reduceIte,reduceCtorEq,yA,yB,uA,uB,uC,uD,uE,uF],⟨_,rfl,rfl,rfl⟩,.inl ⟨[.int .i64 a],_,.inl (by simp only [go_sem,↓reduceIte,reduceCtorEq,yA,yB,uA,uB,uC,uD,uE,uF]),isNaN55 a,.inl ⟨_,rfl,rfl,rfl,rfl⟩⟩⟩ ?_
 refine V.exec 400 ?_
 simp +contextual (maxSteps := 1000000) only [go_sem,↓reduceIte,reduceCtorEq,yA,yB,uA,uB,uC,uD,uE,uF]
 refine V.call rfl rfl (by simp [dOK]) ⟨189,[],by simp only [go_sem,↓reduceIte,reduceCtorEq,yA,yB,uA,uB,uC,uD,uE,uF],⟨_,rfl,rfl,rfl⟩,.inl ⟨[.int .i64 b],_,.inl (by simp only [go_sem,↓reduceIte,reduceCtorEq,yA,yB,uA,uB,uC,uD,uE,uF]),isNaN55 b,.inl ⟨_,rfl,rfl,rfl,rfl⟩⟩⟩ ?_
 refine V.exec 400 ?_
 simp +contextual (maxSteps := 1000000) only [go_sem,↓reduceIte,reduceCtorEq,yA,yB,uA,uB,uC,uD,uE,uF]
 grind [cmpInt]
theorem place1_47 (s : Sub) (id : Int) : Ct Tryz.prog 165 (Zv.ops [s.pv,.int .i64 id]) (.vals [.int .i64 (cmpInt s.id id)]) := by
 refine Ct.of_V Tryz.func165 rfl (by simp [Zv.ops,Tryz.f165]) ?_
 refine V.exec 400 ?_
 simp +contextual (maxSteps := 1000000) only [go_sem,↓reduceIte,reduceCtorEq,yA,yB,uA,uB,uC,uD,uE,uF,Tryz.f165,Sub.pv]
 refine V.call rfl rfl (by simp [dOK]) ⟨166,[],by simp only [go_sem,↓reduceIte,reduceCtorEq,yA,yB,uA,uB,uC,uD,uE,uF],⟨_,rfl,rfl,rfl⟩,.inl ⟨[.int .i64 s.id,.int .i64 id],_,.inl (by simp only [go_sem,↓reduceIte,reduceCtorEq,yA,yB,uA,uB,uC,uD,uE,uF]),Compare48 s.id id,.inl ⟨_,rfl,rfl,rfl,rfl⟩⟩⟩ ?_
 refine V.exec 400 ?_
 simp +contextual (maxSteps := 1000000) only [go_sem,↓reduceIte,reduceCtorEq,yA,yB,uA,uB,uC,uD,uE,uF]
def cOf (id : Int) : PV → Int
 | .agg (.int _ n :: _) => cmpInt n id
 | _ => 0
def rank (id : Int) : List Sub → Nat
 | [] => 0
 | s :: r => if s.id < id then rank id r + 1 else 0
theorem cmp_neg {a b : Int} : cmpInt a b < 0 ↔ a < b := by unfold cmpInt; split <;> (try split) <;> omega
theorem cmp_zero {a b : Int} : cmpInt a b = 0 ↔ a = b := by unfold cmpInt; split <;> (try split) <;> omega
theorem rank_le (id : Int) (l : List Sub) : rank id l ≤ l.length := by
 induction l with
 | nil => simp [rank]
 | cons s r ih => unfold rank; split <;> simp <;> omega
theorem rank_lt {id : Int} : ∀ (l : List Sub) (i : Nat) (x : Sub),i < rank id l → l[i]? = some x → x.id < id := by
 intro l
 induction l with
 | nil => intro i x h; simp [rank] at h
 | cons s r ih =>
  intro i x h hx
  unfold rank at h
  split at h
  ·cases i with
   | zero => simp at hx; subst hx; assumption
   | succ i => exact ih i x (by omega) (by simpa using hx)
  ·omega
theorem above {last : Int} : ∀ (l : List Sub),rightFrom last l → ∀ x ∈ l,last < x.id := by
 intro l
 induction l generalizing last with
 | nil => intro _ x hx; simp at hx
 | cons s r ih =>
  intro h x hx
  obtain ⟨_,h1,h2⟩ := h
  rcases List.mem_cons.1 hx with rfl | hx
  ·exact h1
  ·have := ih h2 x hx; omega
theorem rank_ge {id last : Int} : ∀ (l : List Sub),rightFrom last l → ∀ (i : Nat) (x : Sub),rank id l ≤ i → l[i]? = some x → ¬ x.id < id := by
 intro l
 induction l generalizing last with
 | nil => intro _ i x _ hx; simp at hx
 | cons s r ih =>
  intro hr i x h hx
  obtain ⟨_,_,h2⟩ := hr
  unfold rank at h
  split at h
  ·cases i with
   | zero => omega
   | succ i => exact ih h2 i x (by omega) (by simpa using hx)
  ·cases i with
   | zero => simp at hx; subst hx; assumption
   | succ i =>
    have := above r h2 x (List.mem_of_getElem? (i := i) (by simpa using hx))
    omega
set_option maxHeartbeats 2000000 in
theorem floor_place (l : List Sub) (id : Int) (hl : l.length ≤ 1000000) (hs : rightFrom 0 l) :
  Ct Tryz.prog 129 (Zv.ops [.row (l.map Sub.pv),.int .i64 id]) (.vals [.int .i64 (rank id l),.bool (decide (∃ x,l[rank id l]? = some x ∧ x.id = id))]) := by
 have hb := BSearchSub (l.map Sub.pv) (.int .i64 id) 165 [] (cOf id) (fun x hx => by
   obtain ⟨s,_,rfl⟩ := List.mem_map.1 hx
   exact ⟨rfl,rfl⟩) (by simpa using hl) ⟨_,rfl,rfl,rfl⟩ (fun x hx => by
   obtain ⟨s,_,rfl⟩ := List.mem_map.1 hx
   exact place1_47 s id) (rank id l) (by simpa using rank_le id l) (fun i x hi hx => by
   rw [List.getElem?_map,Option.map_eq_some_iff] at hx
   obtain ⟨s,hs',rfl⟩ := hx
   exact cmp_neg.2 (rank_lt l i s hi hs')) (fun i x hi hx => by
   rw [List.getElem?_map,Option.map_eq_some_iff] at hx
   obtain ⟨s,hs',rfl⟩ := hx
   exact fun h => rank_ge l hs i s hi hs' (cmp_neg.1 h))
 have e1 : (∃ x,(l.map Sub.pv)[rank id l]? = some x ∧ cOf id x = 0) ↔ ∃ x,l[rank id l]? = some x ∧ x.id = id := by
  constructor
  ·rintro ⟨x,hx,hc⟩
   rw [List.getElem?_map,Option.map_eq_some_iff] at hx
   obtain ⟨s,hs',rfl⟩ := hx
   exact ⟨s,hs',cmp_zero.1 hc⟩
  ·rintro ⟨s,hs',hc⟩
   exact ⟨s.pv,by rw [List.getElem?_map,hs']; rfl,cmp_zero.2 hc⟩
 simp only [e1] at hb
 refine Ct.of_V Tryz.func129 rfl (by simp [Zv.ops,Tryz.f129]) ?_
 refine V.exec 400 ?_
 simp +contextual (maxSteps := 1000000) only [go_sem,↓reduceIte,reduceCtorEq,yA,yB,uA,uB,uC,uD,uE,uF,Tryz.f129]
 refine V.call rfl rfl (by simp [dOK]) ⟨164,[],by simp only [go_sem,↓reduceIte,reduceCtorEq,yA,yB,uA,uB,uC,uD,uE,uF],⟨_,rfl,rfl,rfl⟩,.inl ⟨[.row (l.map Sub.pv),.int .i64 id,.fn 165 []],_,.inl (by simp only [go_sem,↓reduceIte,reduceCtorEq,yA,yB,uA,uB,uC,uD,uE,uF]),hb,.inl ⟨_,rfl,rfl,rfl,rfl⟩⟩⟩ ?_
 refine V.exec 400 ?_
 simp +contextual (maxSteps := 1000000) only [go_sem,↓reduceIte,reduceCtorEq,yA,yB,uA,uB,uC,uD,uE,uF]
def Sub.zero : Sub := ⟨0,⟨[],[],false⟩,false,[],0⟩
theorem Sub.zero_pv : Sub.zero.pv = .agg [.int .i64 0,.str [],.str [],.bool false,.bool false,.str [],.int .i64 0] := by simp [Sub.pv,Sub.zero]
def findL (l : List Sub) (id : Int) : Option Sub := l.find? fun s => decide (s.id = id)
theorem rank_find {id last : Int} : ∀ (l : List Sub),rightFrom last l → ∀ x,(l[rank id l]? = some x ∧ x.id = id) ↔ findL l id = some x := by
 intro l
 induction l generalizing last with
 | nil => intro _ x; simp [rank,findL]
 | cons s r ih =>
  intro hr x
  obtain ⟨_,h1,h2⟩ := hr
  unfold rank findL
  by_cases h : s.id < id
  ·have hne : ¬ s.id = id := by omega
   simp only [h,if_true,List.getElem?_cons_succ,List.find?_cons,hne,decide_false]
   exact ih h2 x
  ·by_cases he : s.id = id
   ·rw [if_neg h,List.getElem?_cons_zero,List.find?_cons]
    simp only [he,decide_true,Option.some.injEq]
    constructor
    ·rintro ⟨rfl,_⟩; rfl
    ·rintro rfl; exact ⟨rfl,he⟩
   ·simp only [h,if_false,List.getElem?_cons_zero,List.find?_cons,he,decide_false,Option.some.injEq]
    constructor
    ·rintro ⟨rfl,h'⟩; exact absurd h' he
    ·intro h'
     have hm := List.mem_of_find?_eq_some h'
     have hi := List.find?_some h'
     have := above r h2 x hm
     simp at hi
     omega
def findV (l : List Sub) (id : Int) : Sub × Int := if subsOk l then match findL l id with | some x => (x,0) | none => (Sub.zero,3) else (Sub.zero,1)
set_option maxHeartbeats 2000000 in
theorem floor_Find (l : List Sub) (id : Int) (hl : l.length ≤ 1000000) : Ct Tryz.prog 81 (Zv.ops [.row (l.map Sub.pv),.int .i64 id]) (.vals [(findV l id).1.pv,.int .i64 (findV l id).2]) := by
 refine Ct.of_V Tryz.func81 rfl (by simp [Zv.ops,Tryz.f81]) ?_
 refine V.exec 400 ?_
 simp +contextual (maxSteps := 1000000) only [go_sem,↓reduceIte,reduceCtorEq,yA,yB,uA,uB,uC,uD,uE,uF,Tryz.f81]
 refine V.call rfl rfl (by simp [dOK]) ⟨57,[],by simp only [go_sem,↓reduceIte,reduceCtorEq,yA,yB,uA,uB,uC,uD,uE,uF],⟨_,rfl,rfl,rfl⟩,.inl ⟨[.row (l.map Sub.pv)],_,.inl (by simp only [go_sem,↓reduceIte,reduceCtorEq,yA,yB,uA,uB,uC,uD,uE,uF]),floor_Right l hl,.inl ⟨_,rfl,rfl,rfl,rfl⟩⟩⟩ ?_
 refine V.exec 400 ?_
 by_cases hs : subsOk l
 ·simp +contextual (maxSteps := 1000000) only [go_sem,↓reduceIte,reduceCtorEq,yA,yB,uA,uB,uC,uD,uE,uF,hs]
  refine V.call rfl rfl (by simp [dOK]) ⟨129,[],by simp only [go_sem,↓reduceIte,reduceCtorEq,yA,yB,uA,uB,uC,uD,uE,uF],⟨_,rfl,rfl,rfl⟩,.inl ⟨[.row (l.map Sub.pv),.int .i64 id],_,.inl (by simp only [go_sem,↓reduceIte,reduceCtorEq,yA,yB,uA,uB,uC,uD,uE,uF]),floor_place l id hl hs.1,.inl ⟨_,rfl,rfl,rfl,rfl⟩⟩⟩ ?_
  refine V.exec 400 ?_
  cases hf : findL l id with
  | some x =>
   have hx := (rank_find l hs.1 x).2 hf
   have he : (∃ x_1,some x = some x_1 ∧ x_1.id = id) := ⟨x,rfl,hx.2⟩
   have hv : findV l id = (x,0) := by simp [findV,hs,hf]
   simp +contextual (maxSteps := 1000000) only [go_sem,↓reduceIte,reduceCtorEq,yA,yB,uA,uB,uC,uD,uE,uF,he,hx.1,hv,Sub.pv]
  | none =>
   have he : ¬ (∃ x,l[rank id l]? = some x ∧ x.id = id) := fun ⟨x,hx⟩ => by have := (rank_find l hs.1 x).1 hx; rw [hf] at this; cases this
   have hv : findV l id = (Sub.zero,3) := by simp [findV,hs,hf]
   simp +contextual (maxSteps := 1000000) only [go_sem,↓reduceIte,reduceCtorEq,yA,yB,uA,uB,uC,uD,uE,uF,he,hv,Sub.zero_pv]
 ·have hv : findV l id = (Sub.zero,1) := by simp [findV,hs]
  simp +contextual (maxSteps := 1000000) only [go_sem,↓reduceIte,reduceCtorEq,yA,yB,uA,uB,uC,uD,uE,uF,hs,hv,Sub.zero_pv]
theorem leave1_31 (s : Sub) (id : Int) : Ct Tryz.prog 132 (Zv.ops [s.pv,.ptr (.int .i64 id)]) (.vals [.bool (decide (s.id = id))]) := by
 refine Ct.of_V Tryz.func132 rfl (by simp [Zv.ops,Tryz.f132]) ?_
 refine V.exec 400 ?_
 simp +contextual (maxSteps := 1000000) only [go_sem,↓reduceIte,reduceCtorEq,yA,yB,uA,uB,uC,uD,uE,uF,Tryz.f132,Sub.pv]
def idOf : PV → Int
 | .agg (.int _ n :: _) => n
 | _ => 0
def leaveV (l : List Sub) (id : Int) : List Sub × Int := if (findV l id).2 = 0 then (l.filter fun s => !decide (s.id = id),0) else (l,(findV l id).2)
theorem filter_pv (l : List Sub) (id : Int) : (l.map Sub.pv).filter (fun x => !decide (idOf x = id)) = (l.filter fun s => !decide (s.id = id)).map Sub.pv := by
 induction l with
 | nil => rfl
 | cons s r ih =>
  have e : idOf s.pv = s.id := rfl
  simp only [List.map_cons,List.filter_cons,e,ih]
  split <;> rfl
set_option maxHeartbeats 2000000 in
theorem floor_Leave (l : List Sub) (id : Int) (hl : l.length ≤ 1000000) : Ct Tryz.prog 86 (Zv.ops [.row (l.map Sub.pv),.int .i64 id]) (.vals [.row ((leaveV l id).1.map Sub.pv),.int .i64 (leaveV l id).2]) := by
 refine Ct.of_V Tryz.func86 rfl (by simp [Zv.ops,Tryz.f86]) ?_
 refine V.exec 400 ?_
 simp +contextual (maxSteps := 1000000) only [go_sem,↓reduceIte,reduceCtorEq,yA,yB,uA,uB,uC,uD,uE,uF,Tryz.f86]
 refine V.call rfl rfl (by simp [dOK]) ⟨81,[],by simp only [go_sem,↓reduceIte,reduceCtorEq,yA,yB,uA,uB,uC,uD,uE,uF],⟨_,rfl,rfl,rfl⟩,.inl ⟨[.row (l.map Sub.pv),.int .i64 id],_,.inl (by simp only [go_sem,↓reduceIte,reduceCtorEq,yA,yB,uA,uB,uC,uD,uE,uF]),floor_Find l id hl,.inr (.inl ⟨_,rfl,rfl,rfl⟩)⟩⟩ ?_
 refine V.exec 400 ?_
 by_cases he : (findV l id).2 = 0
 ·have hv : leaveV l id = (l.filter (fun s => !decide (s.id = id)),0) := by simp [leaveV,he]
  simp +contextual (maxSteps := 1000000) only [go_sem,↓reduceIte,reduceCtorEq,yA,yB,uA,uB,uC,uD,uE,uF,he,hv,Sub.pv]
  have h7 : ∀ x ∈ l.map Sub.pv,x.cells.length = 7 ∧ x.isAgg = true ∧ ∀ c ∈ x.cells,c.isAgg = false := fun x hx => by
   obtain ⟨s,_,rfl⟩ := List.mem_map.1 hx
   exact ⟨rfl,rfl,by simp [Sub.pv,PV.cells,PV.isAgg]⟩
  have hdel := DeleteFuncSub (l.map Sub.pv) 132 [.ptr (.int .i64 id)] (fun x => decide (idOf x = id)) h7 (by simpa using hl) ⟨_,rfl,rfl,rfl⟩ (fun x hx => by
   obtain ⟨s,_,rfl⟩ := List.mem_map.1 hx
   have := leave1_31 s id
   simpa [idOf,Sub.pv] using this) (by simp only [go_sem,↓reduceIte,reduceCtorEq,yA,yB,uA,uB,uC,uD,uE,uF])
  rw [filter_pv] at hdel
  refine V.call rfl rfl (by simp [dOK]) ⟨55,[],by simp only [go_sem,↓reduceIte,reduceCtorEq,yA,yB,uA,uB,uC,uD,uE,uF],⟨_,rfl,rfl,rfl⟩,.inl ⟨[.row (l.map Sub.pv)],_,.inl (by simp only [go_sem,↓reduceIte,reduceCtorEq,yA,yB,uA,uB,uC,uD,uE,uF]),CloneSub (l.map Sub.pv) (fun x hx => (h7 x hx).1) (by simpa using hl),.inr (.inr ⟨67,l.map Sub.pv,rfl,by simp only [go_sem,↓reduceIte,reduceCtorEq,yA,yB,uA,uB,uC,uD,uE,uF],rfl,rfl⟩)⟩⟩ ?_
  refine V.exec 400 ?_
  simp +contextual (maxSteps := 1000000) only [go_sem,↓reduceIte,reduceCtorEq,yA,yB,uA,uB,uC,uD,uE,uF]
  refine V.call rfl rfl (by simp [dOK]) ⟨131,[],by simp only [go_sem,↓reduceIte,reduceCtorEq,yA,yB,uA,uB,uC,uD,uE,uF],⟨_,rfl,rfl,rfl⟩,.inr (.inl ⟨17,67,l.map Sub.pv,[.val (.fn 132 [.ptr (.int .i64 id)])],[.fn 132 [.ptr (.int .i64 id)]],67,_,by simp only [go_sem,↓reduceIte,reduceCtorEq,yA,yB,uA,uB,uC,uD,uE,uF],by simp only [go_sem,↓reduceIte,reduceCtorEq,yA,yB,uA,uB,uC,uD,uE,uF],.inl (by simp only [go_sem,↓reduceIte,reduceCtorEq,yA,yB,uA,uB,uC,uD,uE,uF]),hdel,by simp only [go_sem,↓reduceIte,reduceCtorEq,yA,yB,uA,uB,uC,uD,uE,uF],rfl,rfl⟩)⟩ ?_
  refine V.exec 400 ?_
  simp +contextual (maxSteps := 1000000) only [go_sem,↓reduceIte,reduceCtorEq,yA,yB,uA,uB,uC,uD,uE,uF]
 ·have hv : leaveV l id = (l,(findV l id).2) := by simp [leaveV,he]
  simp +contextual (maxSteps := 1000000) only [go_sem,↓reduceIte,reduceCtorEq,yA,yB,uA,uB,uC,uD,uE,uF,he,hv,Sub.pv]
def setV (l : List Sub) (s : Sub) : List Sub × Int := if subsOk l ∧ s.ok then (if (findL l s.id).isSome = true then (l.set (rank s.id l) s,0) else (l,3)) else (l,1)
set_option maxHeartbeats 2000000 in
theorem floor_Set (l : List Sub) (s : Sub) (hl : l.length ≤ 1000000) : Ct Tryz.prog 85 (Zv.ops [.row (l.map Sub.pv),s.pv]) (.vals [.row ((setV l s).1.map Sub.pv),.int .i64 (setV l s).2]) := by
 refine Ct.of_V Tryz.func85 rfl (by simp [Zv.ops,Tryz.f85]) ?_
 refine V.exec 400 ?_
 simp +contextual (maxSteps := 1000000) only [go_sem,↓reduceIte,reduceCtorEq,yA,yB,uA,uB,uC,uD,uE,uF,Tryz.f85,Sub.pv]
 refine V.call rfl rfl (by simp [dOK]) ⟨57,[],by simp only [go_sem,↓reduceIte,reduceCtorEq,yA,yB,uA,uB,uC,uD,uE,uF],⟨_,rfl,rfl,rfl⟩,.inl ⟨[.row (l.map Sub.pv)],_,.inl (by simp only [go_sem,↓reduceIte,reduceCtorEq,yA,yB,uA,uB,uC,uD,uE,uF]),floor_Right l hl,.inl ⟨_,rfl,rfl,rfl,rfl⟩⟩⟩ ?_
 refine V.exec 400 ?_
 by_cases hs : subsOk l
 ·simp +contextual (maxSteps := 1000000) only [go_sem,↓reduceIte,reduceCtorEq,yA,yB,uA,uB,uC,uD,uE,uF,hs]
  refine V.call rfl rfl (by simp [dOK]) ⟨102,[],by simp only [go_sem,↓reduceIte,reduceCtorEq,yA,yB,uA,uB,uC,uD,uE,uF],⟨_,rfl,rfl,rfl⟩,.inl ⟨[s.pv],_,.inl (by simp only [go_sem,↓reduceIte,reduceCtorEq,yA,yB,uA,uB,uC,uD,uE,uF,Sub.pv]),feed_Right s,.inl ⟨_,rfl,rfl,rfl,rfl⟩⟩⟩ ?_
  refine V.exec 400 ?_
  by_cases hk : s.ok
  ·simp +contextual (maxSteps := 1000000) only [go_sem,↓reduceIte,reduceCtorEq,yA,yB,uA,uB,uC,uD,uE,uF,hk]
   refine V.call rfl rfl (by simp [dOK]) ⟨129,[],by simp only [go_sem,↓reduceIte,reduceCtorEq,yA,yB,uA,uB,uC,uD,uE,uF],⟨_,rfl,rfl,rfl⟩,.inl ⟨[.row (l.map Sub.pv),.int .i64 s.id],_,.inl (by simp only [go_sem,↓reduceIte,reduceCtorEq,yA,yB,uA,uB,uC,uD,uE,uF]),floor_place l s.id hl hs.1,.inl ⟨_,rfl,rfl,rfl,rfl⟩⟩⟩ ?_
   refine V.exec 400 ?_
   cases hf : findL l s.id with
   | some x =>
    have hx := (rank_find l hs.1 x).2 hf
    have he : (∃ x_1,some x = some x_1 ∧ x_1.id = s.id) := ⟨x,rfl,hx.2⟩
    have hv : setV l s = (l.set (rank s.id l) s,0) := by simp [setV,hs,hk,hf]
    simp +contextual (maxSteps := 1000000) only [go_sem,↓reduceIte,reduceCtorEq,yA,yB,uA,uB,uC,uD,uE,uF,he,hx.1,hv]
    refine V.call rfl rfl (by simp [dOK]) ⟨55,[],by simp only [go_sem,↓reduceIte,reduceCtorEq,yA,yB,uA,uB,uC,uD,uE,uF],⟨_,rfl,rfl,rfl⟩,.inl ⟨[.row (l.map Sub.pv)],_,.inl (by simp only [go_sem,↓reduceIte,reduceCtorEq,yA,yB,uA,uB,uC,uD,uE,uF]),CloneSub (l.map Sub.pv) (fun x hx => by
      obtain ⟨s,_,rfl⟩ := List.mem_map.1 hx
      rfl) (by simpa using hl),.inr (.inr ⟨67,l.map Sub.pv,rfl,by simp only [go_sem,↓reduceIte,reduceCtorEq,yA,yB,uA,uB,uC,uD,uE,uF],rfl,rfl⟩)⟩⟩ ?_
    refine V.exec 400 ?_
    simp +contextual (maxSteps := 1000000) only [go_sem,↓reduceIte,reduceCtorEq,yA,yB,uA,uB,uC,uD,uE,uF,hx.1,Sub.pv]
    try simp [List.map_set,Sub.pv]
   | none =>
    have he : ¬ (∃ x,l[rank s.id l]? = some x ∧ x.id = s.id) := fun ⟨x,hx⟩ => by have := (rank_find l hs.1 x).1 hx; rw [hf] at this; cases this
    have hv : setV l s = (l,3) := by simp [setV,hs,hk,hf]
    simp +contextual (maxSteps := 1000000) only [go_sem,↓reduceIte,reduceCtorEq,yA,yB,uA,uB,uC,uD,uE,uF,he,hv]
  ·have hv : setV l s = (l,1) := by simp [setV,hk]
   simp +contextual (maxSteps := 1000000) only [go_sem,↓reduceIte,reduceCtorEq,yA,yB,uA,uB,uC,uD,uE,uF,hk,hv]
 ·have hv : setV l s = (l,1) := by simp [setV,hs]
  simp +contextual (maxSteps := 1000000) only [go_sem,↓reduceIte,reduceCtorEq,yA,yB,uA,uB,uC,uD,uE,uF,hs,hv]
def gapAt : Nat → List Sub → Nat
 | k,[] => k
 | k,s :: r => if s.id = (k : Int) + 1 then gapAt (k + 1) r else k
def addV (l : List Sub) (s : Sub) : List Sub × Int × Int :=
 if subsOk l ∧ s.ok then (if 4 ≤ l.length then (l,0,7) else
  let k := gapAt 0 l
  (l.take k ++ [{ s with id := (k : Int) + 1 }] ++ l.drop k,(k : Int) + 1,0)) else (l,0,1)
set_option maxHeartbeats 4000000 in
theorem floor_Add (l : List Sub) (s : Sub) (hl : l.length ≤ 1000000) : Ct Tryz.prog 80 (Zv.ops [.row (l.map Sub.pv),s.pv]) (.vals [.row ((addV l s).1.map Sub.pv),.int .i64 (addV l s).2.1,.int .i64 (addV l s).2.2]) := by
 refine Ct.of_V Tryz.func80 rfl (by simp [Zv.ops,Tryz.f80]) ?_
 have h7 : ∀ x ∈ l.map Sub.pv,x.cells.length = 7 := fun x hx => by
  obtain ⟨s,_,rfl⟩ := List.mem_map.1 hx
  rfl
 refine V.exec 400 ?_
 simp +contextual (maxSteps := 1000000) only [go_sem,↓reduceIte,reduceCtorEq,yA,yB,uA,uB,uC,uD,uE,uF,Tryz.f80,Sub.pv]
 refine V.call rfl rfl (by simp [dOK]) ⟨57,[],by simp only [go_sem,↓reduceIte,reduceCtorEq,yA,yB,uA,uB,uC,uD,uE,uF],⟨_,rfl,rfl,rfl⟩,.inl ⟨[.row (l.map Sub.pv)],_,.inl (by simp only [go_sem,↓reduceIte,reduceCtorEq,yA,yB,uA,uB,uC,uD,uE,uF]),floor_Right l hl,.inl ⟨_,rfl,rfl,rfl,rfl⟩⟩⟩ ?_
 refine V.exec 400 ?_
 by_cases hs : subsOk l
 ·simp +contextual (maxSteps := 1000000) only [go_sem,↓reduceIte,reduceCtorEq,yA,yB,uA,uB,uC,uD,uE,uF,hs]
  refine V.call rfl rfl (by simp [dOK]) ⟨102,[],by simp only [go_sem,↓reduceIte,reduceCtorEq,yA,yB,uA,uB,uC,uD,uE,uF],⟨_,rfl,rfl,rfl⟩,.inl ⟨[s.pv],_,.inl (by simp only [go_sem,↓reduceIte,reduceCtorEq,yA,yB,uA,uB,uC,uD,uE,uF,Sub.pv]),feed_Right s,.inl ⟨_,rfl,rfl,rfl,rfl⟩⟩⟩ ?_
  refine V.exec 400 ?_
  by_cases hk : s.ok
  ·by_cases h4 : 4 ≤ l.length
   ·have hv : addV l s = (l,0,7) := by simp [addV,hs,hk,h4]
    have h4' : (4 : Int) ≤ (l.length : Int) := by omega
    simp +contextual (maxSteps := 1000000) only [go_sem,↓reduceIte,reduceCtorEq,yA,yB,uA,uB,uC,uD,uE,uF,hk,hv,h4']
   ·have h4' : ¬ (4 : Int) ≤ (l.length : Int) := by omega
    simp +contextual (maxSteps := 1000000) only [go_sem,↓reduceIte,reduceCtorEq,yA,yB,uA,uB,uC,uD,uE,uF,hk,h4']
    refine V.loop (fun m ls os => ∃ k : Nat,k ≤ l.length ∧ m = l.length - k ∧ gapAt 0 l = gapAt k (l.drop k) ∧
      ls = [(0,.val (.row (l.map Sub.pv))),(3,.adr 0 0),(7,.val (.int .i64 k))] ∧ os = [.box true [.val (.int .i64 s.id),.val (.str s.r.lo),.val (.str s.r.hi),.val (.bool (decide (s.r.op = true))),.val (.bool (decide (s.live = true))),.val (.str s.next),.val (.int .i64 s.cur)]]) 1 l.length
     [(0,.val (.row (l.map Sub.pv))),(3,.adr 0 0),(7,.val (.int .i64 0))] [.box true [.val (.int .i64 s.id),.val (.str s.r.lo),.val (.str s.r.hi),.val (.bool (decide (s.r.op = true))),.val (.bool (decide (s.live = true))),.val (.str s.next),.val (.int .i64 s.cur)]] [some 2]
     ⟨0,Nat.zero_le _,rfl,rfl,rfl,rfl⟩ (by simp only [go_sem,↓reduceIte,reduceCtorEq,yA,yB,uA,uB,uC,uD,uE,uF]) ?_
    rintro m ls os ⟨k,hkl,rfl,hg,rfl,rfl⟩
    have hw : IntKind.i64.wrap ((k : Int) + 1) = ((k + 1 : Nat) : Int) := by rw [wrap_small3] <;> omega
    by_cases hx : ∃ x,l[k]? = some x ∧ x.id = (k : Int) + 1
    ·obtain ⟨x,hx,hxi⟩ := hx
     have hlt : k < l.length := (List.getElem?_eq_some_iff.1 hx).1
     have hlt' : (k : Int) < (l.length : Int) := by omega
     rw [drop_of_get hx,gapAt,if_pos hxi] at hg
     have hxi' : x.id = ((k + 1 : Nat) : Int) := by omega
     refine V.exec 400 ?_
     simp +contextual (maxSteps := 1000000) only [go_sem,↓reduceIte,reduceCtorEq,yA,yB,uA,uB,uC,uD,uE,uF,hlt',hx,Sub.pv,hw,hxi']
     exact ⟨l.length - (k + 1),_,_,[some 0],by omega,⟨k + 1,by omega,rfl,hg,rfl,rfl⟩,by simp only [go_sem,↓reduceIte,reduceCtorEq,yA,yB,uA,uB,uC,uD,uE,uF]⟩
    ·have hgk : gapAt 0 l = k := by
      cases hd : l[k]? with
      | none =>
       rw [hg,List.drop_eq_nil_of_le (List.getElem?_eq_none_iff.1 hd)]; rfl
      | some x =>
       rw [hg,drop_of_get hd,gapAt,if_neg (fun e => hx ⟨x,hd,e⟩)]
     have hv : addV l s = (l.take k ++ [{ s with id := (k : Int) + 1 }] ++ l.drop k,(k : Int) + 1,0) := by simp [addV,hs,hk,h4,hgk]
     have hvw : (k : Int) + 1 = ((k + 1 : Nat) : Int) := by omega
     rw [hv]
     have hins := InsertSub (l.map Sub.pv) (Sub.pv { s with id := (k : Int) + 1 }) k h7 rfl (by simpa using hkl) (by simpa using hl)
     by_cases hlt : k < l.length
     ·have hlt' : (k : Int) < (l.length : Int) := by omega
      obtain ⟨x,hx'⟩ : ∃ x,l[k]? = some x := ⟨_,List.getElem?_eq_getElem hlt⟩
      have hxi : ¬ x.id = ((k + 1 : Nat) : Int) := fun e => hx ⟨x,hx',by omega⟩
      refine V.exec 400 ?_
      simp +contextual (maxSteps := 1000000) only [go_sem,↓reduceIte,reduceCtorEq,yA,yB,uA,uB,uC,uD,uE,uF,hlt',hx',Sub.pv,hw,hxi]
      refine DV.call [] [20] (by simp only [go_sem,↓reduceIte,reduceCtorEq,yA,yB,uA,uB,uC,uD,uE,uF]) (by simp [dOK]) ⟨55,[],by simp only [go_sem,↓reduceIte,reduceCtorEq,yA,yB,uA,uB,uC,uD,uE,uF],⟨_,rfl,rfl,rfl⟩,.inl ⟨[.row (l.map Sub.pv)],_,.inl (by simp only [go_sem,↓reduceIte,reduceCtorEq,yA,yB,uA,uB,uC,uD,uE,uF]),CloneSub (l.map Sub.pv) h7 (by simpa using hl),.inr (.inr ⟨67,(l.map Sub.pv)   ,rfl,by simp only [go_sem,↓reduceIte,reduceCtorEq,yA,yB,uA,uB,uC,uD,uE,uF],rfl,rfl⟩)⟩⟩ (by simp only [go_sem,↓reduceIte,reduceCtorEq,yA,yB,uA,uB,uC,uD,uE,uF]) (by simp only [go_sem,↓reduceIte,reduceCtorEq,yA,yB,uA,uB,uC,uD,uE,uF]) (by simp only [go_sem,↓reduceIte,reduceCtorEq,yA,yB,uA,uB,uC,uD,uE,uF]) (by simp) ?_
      refine DV.exec 400 ?_
      simp +contextual (maxSteps := 1000000) only [go_sem,↓reduceIte,reduceCtorEq,yA,yB,uA,uB,uC,uD,uE,uF]
      refine DV.call [20,23] [20,23,24] (by simp only [go_sem,↓reduceIte,reduceCtorEq,yA,yB,uA,uB,uC,uD,uE,uF]) (by simp [dOK]) ⟨128,[],by simp only [go_sem,↓reduceIte,reduceCtorEq,yA,yB,uA,uB,uC,uD,uE,uF],⟨_,rfl,rfl,rfl⟩,.inr (.inl ⟨20,67,l.map Sub.pv,[.val (.int .i64 k),.ref 23],[.int .i64 k,.rowp [Sub.pv { s with id := (k : Int) + 1 }]],67,_,by simp only [go_sem,↓reduceIte,reduceCtorEq,yA,yB,uA,uB,uC,uD,uE,uF],by simp only [go_sem,↓reduceIte,reduceCtorEq,yA,yB,uA,uB,uC,uD,uE,uF],.inr ⟨[.val (.int .i64 k)],23,67,[Sub.pv { s with id := (k : Int) + 1 }],[.int .i64 k],rfl,rfl,by simp only [go_sem,↓reduceIte,reduceCtorEq,yA,yB,uA,uB,uC,uD,uE,uF,Sub.pv,hvw],rfl⟩,hins,by simp only [go_sem,↓reduceIte,reduceCtorEq,yA,yB,uA,uB,uC,uD,uE,uF],rfl,rfl⟩)⟩ (by simp only [go_sem,↓reduceIte,reduceCtorEq,yA,yB,uA,uB,uC,uD,uE,uF]) (by simp only [go_sem,↓reduceIte,reduceCtorEq,yA,yB,uA,uB,uC,uD,uE,uF]) (by simp only [go_sem,↓reduceIte,reduceCtorEq,yA,yB,uA,uB,uC,uD,uE,uF]) (by simp) ?_
      refine DV.exec 400 ?_
      simp +contextual (maxSteps := 1000000) only [go_sem,↓reduceIte,reduceCtorEq,yA,yB,uA,uB,uC,uD,uE,uF,hvw]
      refine ⟨by kernel_rfl,?_⟩
      simp [List.map_append,List.map_take,List.map_drop]
     ·have hlt' : ¬ (k : Int) < (l.length : Int) := by omega
      refine V.exec 400 ?_
      simp +contextual (maxSteps := 1000000) only [go_sem,↓reduceIte,reduceCtorEq,yA,yB,uA,uB,uC,uD,uE,uF,hlt',hw]
      refine DV.call [] [20] (by simp only [go_sem,↓reduceIte,reduceCtorEq,yA,yB,uA,uB,uC,uD,uE,uF]) (by simp [dOK]) ⟨55,[],by simp only [go_sem,↓reduceIte,reduceCtorEq,yA,yB,uA,uB,uC,uD,uE,uF],⟨_,rfl,rfl,rfl⟩,.inl ⟨[.row (l.map Sub.pv)],_,.inl (by simp only [go_sem,↓reduceIte,reduceCtorEq,yA,yB,uA,uB,uC,uD,uE,uF]),CloneSub (l.map Sub.pv) h7 (by simpa using hl),.inr (.inr ⟨67,(l.map Sub.pv)   ,rfl,by simp only [go_sem,↓reduceIte,reduceCtorEq,yA,yB,uA,uB,uC,uD,uE,uF],rfl,rfl⟩)⟩⟩ (by simp only [go_sem,↓reduceIte,reduceCtorEq,yA,yB,uA,uB,uC,uD,uE,uF]) (by simp only [go_sem,↓reduceIte,reduceCtorEq,yA,yB,uA,uB,uC,uD,uE,uF]) (by simp only [go_sem,↓reduceIte,reduceCtorEq,yA,yB,uA,uB,uC,uD,uE,uF]) (by simp) ?_
      refine DV.exec 400 ?_
      simp +contextual (maxSteps := 1000000) only [go_sem,↓reduceIte,reduceCtorEq,yA,yB,uA,uB,uC,uD,uE,uF]
      refine DV.call [20,23] [20,23,24] (by simp only [go_sem,↓reduceIte,reduceCtorEq,yA,yB,uA,uB,uC,uD,uE,uF]) (by simp [dOK]) ⟨128,[],by simp only [go_sem,↓reduceIte,reduceCtorEq,yA,yB,uA,uB,uC,uD,uE,uF],⟨_,rfl,rfl,rfl⟩,.inr (.inl ⟨20,67,l.map Sub.pv,[.val (.int .i64 k),.ref 23],[.int .i64 k,.rowp [Sub.pv { s with id := (k : Int) + 1 }]],67,_,by simp only [go_sem,↓reduceIte,reduceCtorEq,yA,yB,uA,uB,uC,uD,uE,uF],by simp only [go_sem,↓reduceIte,reduceCtorEq,yA,yB,uA,uB,uC,uD,uE,uF],.inr ⟨[.val (.int .i64 k)],23,67,[Sub.pv { s with id := (k : Int) + 1 }],[.int .i64 k],rfl,rfl,by simp only [go_sem,↓reduceIte,reduceCtorEq,yA,yB,uA,uB,uC,uD,uE,uF,Sub.pv,hvw],rfl⟩,hins,by simp only [go_sem,↓reduceIte,reduceCtorEq,yA,yB,uA,uB,uC,uD,uE,uF],rfl,rfl⟩)⟩ (by simp only [go_sem,↓reduceIte,reduceCtorEq,yA,yB,uA,uB,uC,uD,uE,uF]) (by simp only [go_sem,↓reduceIte,reduceCtorEq,yA,yB,uA,uB,uC,uD,uE,uF]) (by simp only [go_sem,↓reduceIte,reduceCtorEq,yA,yB,uA,uB,uC,uD,uE,uF]) (by simp) ?_
      refine DV.exec 400 ?_
      simp +contextual (maxSteps := 1000000) only [go_sem,↓reduceIte,reduceCtorEq,yA,yB,uA,uB,uC,uD,uE,uF,hvw]
      refine ⟨by kernel_rfl,?_⟩
      simp [List.map_append,List.map_take,List.map_drop]
  ·have hv : addV l s = (l,0,1) := by simp [addV,hk]
   simp +contextual (maxSteps := 1000000) only [go_sem,↓reduceIte,reduceCtorEq,yA,yB,uA,uB,uC,uD,uE,uF,hk,hv]
 ·have hv : addV l s = (l,0,1) := by simp [addV,hs]
  simp +contextual (maxSteps := 1000000) only [go_sem,↓reduceIte,reduceCtorEq,yA,yB,uA,uB,uC,uD,uE,uF,hs,hv]
theorem floorOf_le_head : ∀ (l : List Sub) (h : Int),floorOf h l ≤ h
 | [],h => Int.le_refl h
 | s :: r,h => by
  have := floorOf_le_head r (min h s.cur)
  simp only [floorOf]
  omega
theorem floorOf_le_cur : ∀ (l : List Sub) (h : Int) (s : Sub),s ∈ l → floorOf h l ≤ s.cur
 | c :: r,h,s,hs => by
  simp only [floorOf]
  rcases List.mem_cons.1 hs with rfl | hs
  ·have := floorOf_le_head r (min h s.cur)
   omega
  ·exact floorOf_le_cur r _ s hs
theorem floorOf_iff : ∀ (l : List Sub) (h m : Int),floorOf h l = m ↔ (m ≤ h ∧ (∀ s ∈ l,m ≤ s.cur)) ∧ (m = h ∨ ∃ s ∈ l,m = s.cur)
 | [],h,m => by simp [floorOf]; omega
 | s :: r,h,m => by
  rw [floorOf,floorOf_iff r]
  constructor
  ·rintro ⟨⟨a,b⟩,c⟩
   refine ⟨⟨by omega,fun x hx => ?_⟩,?_⟩
   ·rcases List.mem_cons.1 hx with rfl | hx
    ·omega
    ·exact b x hx
   ·rcases c with c | ⟨x,hx,c⟩
    ·by_cases hh : h ≤ s.cur
     ·exact .inl (by omega)
     ·exact .inr ⟨s,List.mem_cons_self,by omega⟩
    ·exact .inr ⟨x,List.mem_cons_of_mem _ hx,c⟩
  ·rintro ⟨⟨a,b⟩,c⟩
   have hs := b s List.mem_cons_self
   refine ⟨⟨by omega,fun x hx => b x (List.mem_cons_of_mem _ hx)⟩,?_⟩
   rcases c with c | ⟨x,hx,c⟩
   ·exact .inl (by omega)
   ·rcases List.mem_cons.1 hx with rfl | hx
    ·exact .inl (by omega)
    ·exact .inr ⟨x,hx,c⟩
theorem Sub.inj (s t : Sub) : (s.pv = t.pv) = (s = t) := by
 obtain ⟨i,⟨a,b,c⟩,d,e,f⟩ := s
 obtain ⟨i',⟨a',b',c'⟩,d',e',f'⟩ := t
 simp [Sub.pv,and_assoc]
theorem rightFrom_set {s : Sub} (hk : s.ok) : ∀ (l : List Sub) (last : Int) (r : Nat) (x : Sub),rightFrom last l → l[r]? = some x → x.id = s.id → rightFrom last (l.set r s)
 | [],_,_,_,h,_,_ => h
 | c :: t,last,0,x,h,hx,he => by
  simp at hx
  subst hx
  exact ⟨hk,by have := h.2.1; omega,by rw [← he]; exact h.2.2⟩
 | c :: t,last,r + 1,x,h,hx,he => by
  simp at hx
  exact ⟨h.1,h.2.1,rightFrom_set hk t c.id r x h.2.2 hx he⟩
theorem rightFrom_weaken : ∀ (l : List Sub) {a b : Int},b ≤ a → rightFrom a l → rightFrom b l
 | [],_,_,_,_ => trivial
 | c :: r,a,b,h,ht => ⟨ht.1,by have := ht.2.1; omega,ht.2.2⟩
theorem rightFrom_filter (p : Sub → Bool) : ∀ (l : List Sub) (a : Int),rightFrom a l → rightFrom a (l.filter p)
 | [],_,_ => trivial
 | c :: r,a,ht => by
  rw [List.filter_cons]
  split
  ·exact ⟨ht.1,ht.2.1,rightFrom_filter p r _ ht.2.2⟩
  ·exact rightFrom_weaken _ (by have := ht.2.1; omega) (rightFrom_filter p r _ ht.2.2)
theorem gapAt_ge : ∀ (l : List Sub) (b : Nat),b ≤ gapAt b l
 | [],b => Nat.le_refl b
 | s :: r,b => by
  unfold gapAt
  split
  ·have := gapAt_ge r (b + 1); omega
  ·exact Nat.le_refl b
structure Cmd where
 d : Int
 ns : List Note
 key : List UInt8
 r : Range
 id : Int
 seq : Int
 n : Int
def Cmd.pv (c : Cmd) : PV := .agg [.int .i64 c.d,.row (c.ns.map Note.pv),.str c.key,.str c.r.lo,.str c.r.hi,.bool (decide (c.r.op = true)),.int .i64 c.id,.int .i64 c.seq,.int .i64 c.n]
structure Tell where
 err : Int
 n : Int
 has : Bool
 v : List UInt8
 k : Chunk
 deriving DecidableEq
def Tell.pv (t : Tell) : PV := .agg [.int .i64 t.err,.int .i64 t.n,.bool (decide (t.has = true)),.str t.v,.row (t.k.ps.map Pair.pv),.row (t.k.cs.map Change.pv),.bool (decide (t.k.more = true))]
def Tell.bad (e : Int) : Tell := ⟨e,0,false,[],Chunk.zero⟩
def Tell.num (n : Int) : Tell := ⟨0,n,false,[],Chunk.zero⟩
structure KSt where
 L : List Pair
 T : List Change
 S : List Sub
 seq : Int
 floor : Int
 deriving DecidableEq
def KSt.pv (k : KSt) : PV := .agg [.row (k.L.map Pair.pv),.row (k.T.map Change.pv),.row (k.S.map Sub.pv),.int .i64 k.seq,.int .i64 k.floor]
def KSt.zero : KSt := ⟨[],[],[],0,0⟩
def KSt.ok (k : KSt) : Prop := pairsOk k.L ∧ trailOk k.T ∧ subsOk k.S ∧ k.L.length ≤ 60 ∧ k.T.length ≤ 60 ∧ 0 ≤ k.floor ∧ k.floor ≤ k.seq ∧ k.seq ≤ 2147483647 ∧
 (∀ c ∈ k.T,k.floor < c.seq ∧ c.seq ≤ k.seq) ∧ (∀ s ∈ k.S,k.floor ≤ s.cur ∧ s.cur ≤ k.seq) ∧ (backGo k.L k.T).isSome = true
def writeV (k : KSt) (c : Cmd) : KSt × Tell :=
 if (runV k.L k.seq c.ns).2.2 = 0 then
  if 60 < (runV k.L k.seq c.ns).2.1.length ∨ 60 < k.T.length + (runV k.L k.seq c.ns).1.length then (k,Tell.bad 5)
  else (⟨(runV k.L k.seq c.ns).2.1,k.T ++ (runV k.L k.seq c.ns).1,k.S,k.seq + ((runV k.L k.seq c.ns).1.length : Int),k.floor⟩,Tell.num (k.seq + ((runV k.L k.seq c.ns).1.length : Int)))
 else (k,Tell.bad (runV k.L k.seq c.ns).2.2)
def pageK (k : KSt) (c : Cmd) (seq : Int) : Tell :=
 if c.r.ok ∧ 1 ≤ c.n then
  if k.seq < seq then Tell.bad 9
  else if (pageV k.L k.T k.floor seq c.n c.r).2.2 = 0 then ⟨0,0,false,[],⟨(pageV k.L k.T k.floor seq c.n c.r).1,[],(pageV k.L k.T k.floor seq c.n c.r).2.1⟩⟩
  else Tell.bad (pageV k.L k.T k.floor seq c.n c.r).2.2
 else Tell.bad 1
def withV (k : KSt) (l : List Sub) (n e : Int) : KSt × Tell := if e = 0 then ({ k with S := l },Tell.num n) else (k,Tell.bad e)
def pollK (k : KSt) (c : Cmd) : Tell :=
 match findL k.S c.id with
 | none => Tell.bad 3
 | some x => ⟨(pollV x k.L k.T k.floor c.n).2,0,false,[],(pollV x k.L k.T k.floor c.n).1⟩
def goesV (k : KSt) (c : Cmd) : KSt × Tell :=
 match findL k.S c.id with
 | none => (k,Tell.bad 3)
 | some x => if c.d = 8 then withV k (setV k.S (tookV x k.L k.T k.floor c.n).1).1 0 (tookV x k.L k.T k.floor c.n).2 else withV k (setV k.S (ackV x k.seq c.seq).1).1 0 (ackV x k.seq c.seq).2
def joinV2 (k : KSt) (s : Sub) : KSt × Tell := withV k (addV k.S s).1 (addV k.S s).2.1 (addV k.S s).2.2
def trimV (k : KSt) : KSt × Tell := (⟨k.L,dropV k.T (floorOf k.seq k.S),k.S,k.seq,floorOf k.seq k.S⟩,Tell.num (floorOf k.seq k.S))
def doK (k : KSt) (c : Cmd) : KSt × Tell :=
 if c.d = 1 then writeV k c
 else if c.d = 2 then (k,⟨0,0,(getV k.L c.key).2,(getV k.L c.key).1,Chunk.zero⟩)
 else if c.d = 3 then (k,pageK k c k.seq)
 else if c.d = 4 then (k,pageK k c c.seq)
 else if c.d = 5 then joinV2 k ⟨0,c.r,false,[],k.seq⟩
 else if c.d = 6 then (if c.seq < k.floor then (k,Tell.bad 8) else if k.seq < c.seq then (k,Tell.bad 9) else joinV2 k ⟨0,c.r,true,[],c.seq⟩)
 else if c.d = 7 then (k,pollK k c)
 else if c.d = 8 ∨ c.d = 9 then goesV k c
 else if c.d = 10 then withV k (leaveV k.S c.id).1 0 (leaveV k.S c.id).2
 else if c.d = 11 then trimV k
 else if c.d = 12 then (k,Tell.num k.seq)
 else (k,Tell.bad 1)
theorem trail_split (n : Int) : ∀ (t : List Change) (o : Option Int),trailFrom o t → ∃ a,t = a ++ t.filter (fun c => decide (n < c.seq)) ∧ ∀ x ∈ a,x.seq ≤ n
 | [],o,_ => ⟨[],rfl,by simp⟩
 | c :: r,o,h => by
  by_cases hc : n < c.seq
  ·refine ⟨[],?_,by simp⟩
   rw [List.nil_append,List.filter_eq_self.2]
   intro x hx
   rcases List.mem_cons.1 hx with rfl | hx
   ·simpa using hc
   ·have := trailFrom_gt r c.seq h.2.2 x hx
    simp; omega
  ·obtain ⟨a,e,ha⟩ := trail_split n r _ h.2.2
   refine ⟨c :: a,?_,fun x hx => ?_⟩
   ·rw [List.filter_cons,if_neg (by simpa using hc),List.cons_append,← e]
   ·rcases List.mem_cons.1 hx with rfl | hx
    ·omega
    ·exact ha x hx
theorem back_part {L : List Pair} {T : List Change} (h : trailOk T) (hb : (backGo L T).isSome = true) (n : Int) : ∃ a P Q,T = a ++ dropV T n ∧ backGo L (dropV T n) = some P ∧ backGo P a = some Q ∧ ∀ x ∈ a,x.seq ≤ n := by
 obtain ⟨a,e,ha⟩ := trail_split n T none h
 rw [← dropV_ok h n] at e
 have hb' := hb
 rw [e,backGo_app] at hb'
 cases hq : backGo L (dropV T n) with
 | none => rw [hq] at hb'; cases hb'
 | some P =>
  rw [hq,Option.bind_some] at hb'
  obtain ⟨Q,hQ⟩ := Option.isSome_iff_exists.1 hb'
  exact ⟨a,P,Q,e,rfl,hQ,ha⟩
theorem KSt.ok.at {k : KSt} (h : k.ok) {q : Int} (hq : k.floor ≤ q) : ∃ P,backGo k.L (dropV k.T q) = some P ∧ atV k.L k.T k.floor q = (P,0) ∧ pairsOk P := by
 obtain ⟨h1,h2,h3,h4,h5,h6,h7,h8,h9,h10,h11⟩ := h
 obtain ⟨a,P,Q,e,hP,_⟩ := back_part h2 h11 q
 refine ⟨P,hP,?_,backGo_ok h1 hP⟩
 unfold atV
 rw [if_pos ⟨h1,h2⟩,if_neg (by omega),hP]
theorem drop_none {T : List Change} (h : trailOk T) {q : Int} (hq : ∀ c ∈ T,c.seq ≤ q) : dropV T q = [] := by
 rw [dropV_ok h,List.filter_eq_nil_iff]
 intro c hc
 have := hq c hc
 simp; omega
theorem drop_all {T : List Change} (h : trailOk T) {q : Int} (hq : ∀ c ∈ T,q < c.seq) : dropV T q = T := by
 rw [dropV_ok h,List.filter_eq_self]
 intro c hc
 have := hq c hc
 simp; omega
theorem KSt.ok.now {k : KSt} (h : k.ok) {q : Int} (hq : k.seq ≤ q) : atV k.L k.T k.floor q = (k.L,0) := by
 obtain ⟨h1,h2,h3,h4,h5,h6,h7,h8,h9,h10,h11⟩ := h
 unfold atV
 rw [if_pos ⟨h1,h2⟩,if_neg (by omega),drop_none h2 (fun c hc => by have := (h9 c hc).2; omega)]
 rfl
theorem rightFrom_ok : ∀ (l : List Sub) (b : Int),rightFrom b l → ∀ s ∈ l,s.ok
 | s :: r,b,h,x,hx => by
  rcases List.mem_cons.1 hx with rfl | hx
  ·exact h.1
  ·exact rightFrom_ok r _ h.2.2 x hx
theorem gap_right {s : Sub} (hs : s.ok) : ∀ (l : List Sub) (b : Nat),rightFrom (b : Int) l → rightFrom (b : Int) (l.take (gapAt b l - b) ++ [{ s with id := (gapAt b l : Int) + 1 }] ++ l.drop (gapAt b l - b))
 | [],b,_ => by
  simp only [List.take_nil,List.drop_nil,List.nil_append,List.append_nil,gapAt]
  exact ⟨hs,by show (b : Int) < (b : Int) + 1; omega,trivial⟩
 | x :: r,b,h => by
  unfold gapAt
  split
  ·rename_i hx
   have hg := gapAt_ge r (b + 1)
   have h2 : rightFrom ((b + 1 : Nat) : Int) r := by have := h.2.2; rw [hx] at this; exact this
   have ih := gap_right hs r (b + 1) h2
   obtain ⟨m,hm⟩ : ∃ m,gapAt (b + 1) r - b = m + 1 := ⟨gapAt (b + 1) r - b - 1,by omega⟩
   have hm2 : gapAt (b + 1) r - (b + 1) = m := by omega
   rw [hm2] at ih
   rw [hm,List.take_succ_cons,List.drop_succ_cons]
   refine ⟨h.1,h.2.1,?_⟩
   have e : x.id = ((b + 1 : Nat) : Int) := by rw [hx]; omega
   rw [e]
   exact ih
  ·rename_i hx
   rw [Nat.sub_self]
   have h1 := h.2.1
   exact ⟨hs,by show (b : Int) < (b : Int) + 1; omega,h.1,by show (b : Int) + 1 < x.id; omega,h.2.2⟩
theorem addV_ok {l : List Sub} {s : Sub} (hl : subsOk l) : subsOk (addV l s).1 ∧ ∀ x ∈ (addV l s).1,x ∈ l ∨ x.cur = s.cur := by
 unfold addV
 by_cases hs : s.ok
 ·rw [if_pos ⟨hl,hs⟩]
  split
  ·exact ⟨hl,fun x hx => .inl hx⟩
  ·rename_i hn
   have hg := gap_right hs l 0 hl.1
   rw [Nat.sub_zero] at hg
   have h4 := hl.2
   refine ⟨⟨hg,?_⟩,fun x hx => ?_⟩
   ·simp only [List.length_append,List.length_take,List.length_drop,List.length_singleton]; omega
   ·rcases List.mem_append.1 hx with hx | hx
    ·rcases List.mem_append.1 hx with hx | hx
     ·exact .inl (List.mem_of_mem_take hx)
     ·right; rw [List.mem_singleton] at hx; rw [hx]
    ·exact .inl (List.mem_of_mem_drop hx)
 ·rw [if_neg (fun h => hs h.2)]
  exact ⟨hl,fun x hx => .inl hx⟩
theorem setV_ok {l : List Sub} {s : Sub} (hl : subsOk l) : subsOk (setV l s).1 ∧ ∀ x ∈ (setV l s).1,x ∈ l ∨ x = s := by
 by_cases hk : s.ok
 ·cases hf : findL l s.id with
  | none =>
   have hv : setV l s = (l,3) := by simp [setV,hl,hk,hf]
   rw [hv]; exact ⟨hl,fun x hx => .inl hx⟩
  | some x =>
   have hx := (rank_find l hl.1 x).2 hf
   have hv : setV l s = (l.set (rank s.id l) s,0) := by simp [setV,hl,hk,hf]
   have hr := rightFrom_set hk l 0 _ x hl.1 hx.1 hx.2
   rw [hv]
   refine ⟨⟨hr,by rw [List.length_set]; exact hl.2⟩,fun y hy => ?_⟩
   rcases List.mem_or_eq_of_mem_set hy with h | h
   ·exact .inl h
   ·exact .inr h
 ·have hv : setV l s = (l,1) := by simp [setV,hk]
  rw [hv]; exact ⟨hl,fun x hx => .inl hx⟩
theorem leaveV_ok {l : List Sub} {id : Int} (hl : subsOk l) : subsOk (leaveV l id).1 ∧ ∀ x ∈ (leaveV l id).1,x ∈ l := by
 unfold leaveV
 split
 ·refine ⟨⟨rightFrom_filter _ l 0 hl.1,?_⟩,fun x hx => (List.mem_filter.1 hx).1⟩
  have h1 := List.length_filter_le (fun s : Sub => !decide (s.id = id)) l
  have h2 := hl.2
  show (l.filter fun s : Sub => !decide (s.id = id)).length ≤ 4
  omega
 ·exact ⟨hl,fun x hx => hx⟩
theorem tookV_cur (s : Sub) (l : List Pair) (t : List Change) (floor n : Int) : (tookV s l t floor n).1.cur = s.cur ∧ (tookV s l t floor n).1.id = s.id ∧ (tookV s l t floor n).1.r = s.r := by
 unfold tookV
 split
 ·split
  ·split
   ·exact ⟨rfl,rfl,rfl⟩
   ·split
    ·exact ⟨rfl,rfl,rfl⟩
    ·split
     ·split <;> exact ⟨rfl,rfl,rfl⟩
     ·exact ⟨rfl,rfl,rfl⟩
  ·exact ⟨rfl,rfl,rfl⟩
 ·exact ⟨rfl,rfl,rfl⟩
theorem ackV_cur (s : Sub) (head seq : Int) : ((ackV s head seq).1 = s ∨ ((ackV s head seq).1 = { s with cur := seq } ∧ s.cur ≤ seq ∧ seq ≤ head)) := by
 unfold ackV
 split
 ·rename_i h
  split
  ·exact .inl rfl
  ·exact .inr ⟨rfl,h.2.2,by omega⟩
 ·exact .inl rfl
theorem find_mem {l : List Sub} {id : Int} {x : Sub} (h : findL l id = some x) : x ∈ l ∧ x.id = id := by
 unfold findL at h
 exact ⟨List.mem_of_find?_eq_some h,by simpa using List.find?_some h⟩
theorem KSt.ok.subs {k : KSt} (h : k.ok) {l : List Sub} (hl : subsOk l) (hc : ∀ x ∈ l,x ∈ k.S ∨ (k.floor ≤ x.cur ∧ x.cur ≤ k.seq)) : KSt.ok { k with S := l } := by
 obtain ⟨h1,h2,h3,h4,h5,h6,h7,h8,h9,h10,h11⟩ := h
 refine ⟨h1,h2,hl,h4,h5,h6,h7,h8,h9,fun x hx => ?_,h11⟩
 rcases hc x hx with h | h
 ·exact h10 x h
 ·exact h
theorem with_ok {k : KSt} (h : k.ok) {l : List Sub} {n e : Int} (hl : subsOk l) (hc : ∀ x ∈ l,x ∈ k.S ∨ (k.floor ≤ x.cur ∧ x.cur ≤ k.seq)) : (withV k l n e).1.ok := by
 unfold withV
 split
 ·exact h.subs hl hc
 ·exact h
theorem trail_app : ∀ (a : List Change) (o : Option Int) (b : Int) (t : List Change),trailFrom o a → (∀ x ∈ a,x.seq ≤ b) → trailFrom (some b) t → (∀ s,o = some s → s ≤ b) → trailFrom o (a ++ t)
 | [],o,b,t,_,_,ht,ho => trailFrom_weaken t (some b) o (fun s hs => ⟨b,rfl,ho s hs⟩) ht
 | c :: r,o,b,t,ha,hb,ht,ho => ⟨ha.1,ha.2.1,trail_app r (some c.seq) b t ha.2.2 (fun x hx => hb x (List.mem_cons_of_mem _ hx)) ht (fun s hs => by cases hs; exact hb c List.mem_cons_self)⟩
structure Wrote (k : KSt) (ns : List Note) (t : List Change) (p : List Pair) : Prop where
 ok : pairsOk p
 back : backGo p t = some k.L
 does : doGo k.L t = some p
 seqs : ∀ x ∈ t,k.seq < x.seq ∧ x.seq ≤ k.seq + (t.length : Int)
 trail : trailOk (k.T ++ t)
 len : t.length ≤ 8
 top : k.seq + (t.length : Int) ≤ 2147483647
 app : appV k.L ns = p
theorem wrote {k : KSt} (h : k.ok) {ns : List Note} (hr : (runV k.L k.seq ns).2.2 = 0) : Wrote k ns (runV k.L k.seq ns).1 (runV k.L k.seq ns).2.1 := by
 obtain ⟨h1,h2,h3,h4,h5,h6,h7,h8,h9,h10,h11⟩ := h
 obtain ⟨f1,f2,f3,f4,f5,f6,f7,f8⟩ := runV_facts hr
 obtain ⟨g1,g2,g3,g4,g5,g6⟩ := runV_lead hr
 have hn := f1.1
 have hb := doGo_undo _ h1 g4
 have hseq : ∀ x ∈ (runV k.L k.seq ns).1,k.seq < x.seq ∧ x.seq ≤ k.seq + ((runV k.L k.seq ns).1.length : Int) := fun x hx => by
  obtain ⟨j,hj,rfl⟩ := List.getElem_of_mem hx
  have := g5 j _ (List.getElem?_eq_getElem hj)
  omega
 exact ⟨g3,hb,g4,hseq,trail_app k.T none k.seq _ h2 (fun x hx => (h9 x hx).2) (consec_trail (base := 0) _ (some k.seq) k.seq (fun s hs => by cases hs; exact Int.le_refl _) (doGo_ok _ h1 g4).2 g5) (fun s hs => by cases hs),by omega,by omega,g6⟩
theorem write_ok {k : KSt} (h : k.ok) (c : Cmd) : (writeV k c).1.ok := by
 unfold writeV
 split
 ·rename_i hr
  have w := wrote h hr
  obtain ⟨h1,h2,h3,h4,h5,h6,h7,h8,h9,h10,h11⟩ := h
  split
  ·exact ⟨h1,h2,h3,h4,h5,h6,h7,h8,h9,h10,h11⟩
  ·rename_i hf
   have hlen : (k.T ++ (runV k.L k.seq c.ns).1).length = k.T.length + (runV k.L k.seq c.ns).1.length := List.length_append
   refine ⟨w.ok,w.trail,h3,by show (runV k.L k.seq c.ns).2.1.length ≤ 60; omega,by show (k.T ++ _).length ≤ 60; omega,h6,by show k.floor ≤ k.seq + _; omega,w.top,fun x hx => ?_,fun s hs => ?_,?_⟩
   ·rcases List.mem_append.1 hx with hx | hx
    ·have := h9 x hx
     exact ⟨this.1,by show x.seq ≤ k.seq + _; omega⟩
    ·have := w.seqs x hx
     exact ⟨by show k.floor < x.seq; omega,this.2⟩
   ·have := h10 s hs
    exact ⟨this.1,by show s.cur ≤ k.seq + _; omega⟩
   ·show (backGo _ (k.T ++ _)).isSome = true
    rw [backGo_app,w.back,Option.bind_some]
    exact h11
 ·exact h
theorem floor_in {k : KSt} (h : k.ok) : k.floor ≤ floorOf k.seq k.S ∧ floorOf k.seq k.S ≤ k.seq ∧ ∀ s ∈ k.S,floorOf k.seq k.S ≤ s.cur := by
 obtain ⟨h1,h2,h3,h4,h5,h6,h7,h8,h9,h10,h11⟩ := h
 refine ⟨?_,floorOf_le_head _ _,fun s hs => floorOf_le_cur _ _ s hs⟩
 obtain ⟨g1,g2⟩ := (floorOf_iff k.S k.seq (floorOf k.seq k.S)).1 rfl
 rcases g2 with g | ⟨s,hs,g⟩
 ·omega
 ·have := (h10 s hs).1
  omega
theorem trim_ok {k : KSt} (h : k.ok) : (trimV k).1.ok := by
 obtain ⟨f1,f2,f3⟩ := floor_in h
 obtain ⟨h1,h2,h3,h4,h5,h6,h7,h8,h9,h10,h11⟩ := h
 have hl := dropV_len k.T (floorOf k.seq k.S)
 obtain ⟨a,P,Q,e,hP,_⟩ := back_part h2 h11 (floorOf k.seq k.S)
 refine ⟨h1,dropV_trail h2 _,h3,h4,by show (dropV _ _).length ≤ 60; omega,by show 0 ≤ floorOf _ _; omega,f2,h8,fun x hx => ?_,fun s hs => ⟨f3 s hs,(h10 s hs).2⟩,?_⟩
 ·have hx' : x ∈ dropV k.T (floorOf k.seq k.S) := hx
  rw [dropV_ok h2] at hx'
  obtain ⟨g1,g2⟩ := List.mem_filter.1 hx'
  exact ⟨by show floorOf k.seq k.S < x.seq; simpa using g2,(h9 x g1).2⟩
 ·show (backGo k.L (dropV _ _)).isSome = true
  rw [hP]; rfl
theorem join_ok {k : KSt} (h : k.ok) {s : Sub} (hs : k.floor ≤ s.cur ∧ s.cur ≤ k.seq) : (joinV2 k s).1.ok := by
 obtain ⟨a1,a2⟩ := addV_ok (s := s) h.2.2.1
 exact with_ok h a1 fun x hx => by
  rcases a2 x hx with g | g
  ·exact .inl g
  ·right; rw [g]; exact hs
theorem goes_ok {k : KSt} (h : k.ok) (c : Cmd) : (goesV k c).1.ok := by
 unfold goesV
 split
 ·exact h
 ·rename_i x hx
  have hm := (find_mem hx).1
  have hc := h.2.2.2.2.2.2.2.2.2.1 x hm
  split
  ·obtain ⟨a1,a2⟩ := setV_ok (s := (tookV x k.L k.T k.floor c.n).1) h.2.2.1
   exact with_ok h a1 fun y hy => by
    rcases a2 y hy with g | g
    ·exact .inl g
    ·right; rw [g,(tookV_cur x k.L k.T k.floor c.n).1]; exact hc
  ·obtain ⟨a1,a2⟩ := setV_ok (s := (ackV x k.seq c.seq).1) h.2.2.1
   exact with_ok h a1 fun y hy => by
    rcases a2 y hy with g | g
    ·exact .inl g
    ·right
     rcases ackV_cur x k.seq c.seq with e | ⟨e,e1,e2⟩
     ·rw [g,e]; exact hc
     ·rw [g,e]; exact ⟨by show k.floor ≤ c.seq; omega,e2⟩
theorem doK_ok {k : KSt} (h : k.ok) (c : Cmd) : (doK k c).1.ok := by
 unfold doK
 have h7 := h.2.2.2.2.2.2.1
 split
 ·exact write_ok h c
 split
 ·exact h
 split
 ·exact h
 split
 ·exact h
 split
 ·exact join_ok h ⟨h7,Int.le_refl _⟩
 split
 ·split
  ·exact h
  ·split
   ·exact h
   ·exact join_ok h ⟨by show k.floor ≤ c.seq; omega,by show c.seq ≤ k.seq; omega⟩
 split
 ·exact h
 split
 ·exact goes_ok h c
 split
 ·obtain ⟨a1,a2⟩ := leaveV_ok (id := c.id) h.2.2.1
  exact with_ok h a1 fun x hx => .inl (a2 x hx)
 split
 ·exact trim_ok h
 split
 ·exact h
 ·exact h
theorem zero_ok : KSt.zero.ok := by
 refine ⟨trivial,trivial,⟨trivial,by decide⟩,by decide,by decide,by decide,by decide,by decide,fun c hc => ?_,fun s hs => ?_,rfl⟩
 ·cases hc
 ·cases hs
def bothV (a b : Note) : Note :=
  if b.kind = 1 ∨ b.kind = 2 then b
  else if b.kind = 3 then
    (if a.kind = 1 then ⟨1,b.key,(doneOne (a.value,true) b).1,0⟩
     else if a.kind = 2 then ⟨1,b.key,(doneOne ([],false) b).1,0⟩
     else if a.kind = 3 then { b with n := IntKind.u64.wrap (b.n + a.n) } else b)
  else { a with key := b.key }
theorem doneV_one_t (v : List UInt8) (b : Note) : doneV v true [b] = doneOne (v,true) b := rfl
theorem doneV_one_f (v : List UInt8) (b : Note) : doneV v false [b] = doneOne ([],false) b := rfl
set_option maxRecDepth 4000 in
set_option maxHeartbeats 8000000 in
theorem note_Both (a b : Note) : Ct Tryz.prog 176 (Zv.ops [a.pv,b.pv]) (.vals [(bothV a b).pv]) := by
 have h12 : ¬ (1 : Int) = 2 := by decide
 have h13 : ¬ (1 : Int) = 3 := by decide
 have h21 : ¬ (2 : Int) = 1 := by decide
 have h23 : ¬ (2 : Int) = 3 := by decide
 have h31 : ¬ (3 : Int) = 1 := by decide
 have h32 : ¬ (3 : Int) = 2 := by decide
 refine Ct.of_V Tryz.func176 rfl (by simp [Zv.ops,Tryz.f176]) ?_
 refine V.exec 400 ?_
 by_cases b1 : b.kind = 1
 ·have e : bothV a b = b := by simp [bothV,b1]
  rw [e]
  simp +contextual (maxSteps := 1000000) only [go_sem,↓reduceIte,reduceCtorEq,yA,yB,uA,uB,uC,uD,uE,uF,Tryz.f176,Note.pv,b1,h12,h13]
 ·by_cases b2 : b.kind = 2
  ·have e : bothV a b = b := by simp [bothV,b2]
   rw [e]
   simp +contextual (maxSteps := 1000000) only [go_sem,↓reduceIte,reduceCtorEq,yA,yB,uA,uB,uC,uD,uE,uF,Tryz.f176,Note.pv,b2,h21,h23]
  ·by_cases b3 : b.kind = 3
   ·by_cases a1 : a.kind = 1
    ·have e : bothV a b = ⟨1,b.key,(doneOne (a.value,true) b).1,0⟩ := by simp [bothV,b3,a1]
     have c := note_Done a.value true [b] (by simp)
     rw [doneV_one_t] at c
     rw [e]
     simp +contextual (maxSteps := 1000000) only [go_sem,↓reduceIte,reduceCtorEq,yA,yB,uA,uB,uC,uD,uE,uF,Tryz.f176,Note.pv,b3,h31,h32,a1,h12]
     refine V.call rfl rfl (by simp [dOK]) ⟨117,[],by simp only [go_sem,↓reduceIte,reduceCtorEq,yA,yB,uA,uB,uC,uD,uE,uF],⟨_,rfl,rfl,rfl⟩,.inl ⟨[.str a.value,.bool (decide (true = true)),.row ([b].map Note.pv)],_,.inl (by simp only [go_sem,↓reduceIte,reduceCtorEq,yA,yB,uA,uB,uC,uD,uE,uF,Note.pv,List.map_cons,List.map_nil,decide_true,b3]),c,.inr (.inl ⟨_,rfl,rfl,rfl⟩)⟩⟩ ?_
     refine V.exec 400 ?_
     simp +contextual (maxSteps := 1000000) only [go_sem,↓reduceIte,reduceCtorEq,yA,yB,uA,uB,uC,uD,uE,uF]
    ·by_cases a2 : a.kind = 2
     ·have e : bothV a b = ⟨1,b.key,(doneOne ([],false) b).1,0⟩ := by simp [bothV,b3,a2]
      have c := note_Done a.value false [b] (by simp)
      rw [doneV_one_f] at c
      rw [e]
      simp +contextual (maxSteps := 1000000) only [go_sem,↓reduceIte,reduceCtorEq,yA,yB,uA,uB,uC,uD,uE,uF,Tryz.f176,Note.pv,b3,h31,h32,a2,h21]
      refine V.call rfl rfl (by simp [dOK]) ⟨117,[],by simp only [go_sem,↓reduceIte,reduceCtorEq,yA,yB,uA,uB,uC,uD,uE,uF],⟨_,rfl,rfl,rfl⟩,.inl ⟨[.str a.value,.bool (decide (false = true)),.row ([b].map Note.pv)],_,.inl (by simp only [go_sem,↓reduceIte,reduceCtorEq,yA,yB,uA,uB,uC,uD,uE,uF,Note.pv,List.map_cons,List.map_nil,decide_false,b3]),c,.inr (.inl ⟨_,rfl,rfl,rfl⟩)⟩⟩ ?_
      refine V.exec 400 ?_
      simp +contextual (maxSteps := 1000000) only [go_sem,↓reduceIte,reduceCtorEq,yA,yB,uA,uB,uC,uD,uE,uF]
     ·by_cases a3 : a.kind = 3
      ·have e : bothV a b = { b with n := IntKind.u64.wrap (b.n + a.n) } := by simp [bothV,b3,a3]
       rw [e]
       simp +contextual (maxSteps := 1000000) only [go_sem,↓reduceIte,reduceCtorEq,yA,yB,uA,uB,uC,uD,uE,uF,Tryz.f176,Note.pv,b3,h31,h32,a3]
      ·have e : bothV a b = b := by simp [bothV,b3,a1,a2,a3]
       rw [e]
       simp +contextual (maxSteps := 1000000) only [go_sem,↓reduceIte,reduceCtorEq,yA,yB,uA,uB,uC,uD,uE,uF,Tryz.f176,Note.pv,b3,h31,h32,a1,a2,a3]
   ·have e : bothV a b = { a with key := b.key } := by simp [bothV,b1,b2,b3]
    rw [e]
    simp +contextual (maxSteps := 1000000) only [go_sem,↓reduceIte,reduceCtorEq,yA,yB,uA,uB,uC,uD,uE,uF,Tryz.f176,Note.pv,b1,b2,b3]
section
variable {α : Type} (key : α → List UInt8)
def gSorted (l : List α) : Prop := l.Pairwise fun a b => slt (key a) (key b)
def gBelow (k : List UInt8) : List α → Nat
 | [] => 0
 | p :: r => if slt (key p) k then gBelow k r + 1 else 0
def gGet (l : List α) (k : List UInt8) : Option α := l.find? fun p => decide (key p = k)
def gLow (l : List α) (k : List UInt8) : List α := l.filter fun p => decide (slt (key p) k)
def gHigh (l : List α) (k : List UInt8) : List α := l.filter fun p => decide (slt k (key p))
theorem gBelow_le (k : List UInt8) : ∀ l : List α,gBelow key k l ≤ l.length
 | [] => Nat.le_refl _
 | p :: r => by unfold gBelow; split <;> simp; exact gBelow_le k r
theorem gBelow_lt {k : List UInt8} : ∀ (l : List α) (i : Nat) (x : α),i < gBelow key k l → l[i]? = some x → slt (key x) k
 | p :: r,i,x,hi,hx => by
  unfold gBelow at hi
  split at hi
  ·cases i with
   | zero => simp at hx; subst hx; assumption
   | succ i => exact gBelow_lt r i x (by omega) (by simpa using hx)
  ·omega
theorem gBelow_ge {k : List UInt8} : ∀ (l : List α),gSorted key l → ∀ (i : Nat) (x : α),gBelow key k l ≤ i → l[i]? = some x → ¬ slt (key x) k
 | p :: r,h,i,x,hi,hx => by
  cases h with
  | cons h1 h2 =>
   unfold gBelow at hi
   split at hi
   ·cases i with
    | zero => omega
    | succ i => exact gBelow_ge r h2 i x (by omega) (by simpa using hx)
   ·rename_i hn
    cases i with
    | zero => simp at hx; subst hx; exact hn
    | succ i =>
     have h3 := h1 x (List.mem_of_getElem? (i := i) (by simpa using hx))
     exact fun hc => hn (slt_trans h3 hc)
theorem gGet_mem {l : List α} {k : List UInt8} {p : α} (h : gGet key l k = some p) : p ∈ l ∧ key p = k := by
 unfold gGet at h
 exact ⟨List.mem_of_find?_eq_some h,by simpa using List.find?_some h⟩
theorem gGet_of_mem {l : List α} (hs : gSorted key l) {p : α} (h : p ∈ l) : gGet key l (key p) = some p := by
 unfold gGet
 induction l with
 | nil => cases h
 | cons q r ih =>
  cases hs with
  | cons h1 h2 =>
   rw [List.find?_cons]
   rcases List.mem_cons.1 h with rfl | h
   ·simp
   ·have := h1 p h
    have hne : ¬ key q = key p := fun e => slt_irrefl (key p) (by rw [e] at this; exact this)
    simp [hne,ih h2 h]
theorem gGet_iff {l : List α} (hs : gSorted key l) {k : List UInt8} {p : α} : gGet key l k = some p ↔ p ∈ l ∧ key p = k :=
 ⟨gGet_mem key,fun ⟨h,e⟩ => by rw [← e]; exact gGet_of_mem key hs h⟩
theorem gBelow_find {k : List UInt8} : ∀ (l : List α),gSorted key l → ∀ x,(l[gBelow key k l]? = some x ∧ key x = k) ↔ gGet key l k = some x
 | [],_,x => by simp [gBelow,gGet]
 | p :: r,h,x => by
  cases h with
  | cons h1 h2 =>
   unfold gBelow gGet
   by_cases hk : slt (key p) k
   ·have hne : ¬ key p = k := fun e => slt_irrefl k (by rw [e] at hk; exact hk)
    rw [if_pos hk,List.find?_cons,decide_eq_false hne]
    simpa [gGet] using gBelow_find r h2 x
   ·rw [if_neg hk,List.find?_cons]
    by_cases he : key p = k
    ·simp [he]
     rintro rfl; exact he
    ·have hr : r.find? (fun p => decide (key p = k)) = none := by
      rw [List.find?_eq_none]
      intro y hy
      have h3 := h1 y hy
      simp
      rintro rfl
      exact hk h3
     simp [he,hr]
     rintro rfl; exact he
theorem gLow_eq {k : List UInt8} : ∀ (l : List α),gSorted key l → gLow key l k = l.take (gBelow key k l)
 | [],_ => rfl
 | p :: r,hs => by
  cases hs with
  | cons h1 h2 =>
   unfold gLow gBelow
   by_cases hk : slt (key p) k
   ·rw [if_pos hk,List.filter_cons,if_pos (by simpa using hk),List.take_succ_cons,← gLow_eq r h2]; rfl
   ·rw [if_neg hk,List.take_zero,List.filter_eq_nil_iff]
    intro y hy
    rcases List.mem_cons.1 hy with rfl | hy
    ·simpa using hk
    ·have := h1 y hy
     simp
     exact fun hc => hk (slt_trans this hc)
theorem gHigh_eq {k : List UInt8} : ∀ (l : List α),gSorted key l → gHigh key l k = (match gGet key l k with | some _ => l.drop (gBelow key k l + 1) | none => l.drop (gBelow key k l))
 | [],_ => rfl
 | p :: r,hs => by
  cases hs with
  | cons h1 h2 =>
   have ih := gHigh_eq (k := k) r h2
   unfold gHigh gGet at ih
   unfold gHigh gGet gBelow
   by_cases hk : slt (key p) k
   ·have hne : ¬ key p = k := fun e => slt_irrefl k (by rw [e] at hk; exact hk)
    rw [if_pos hk,List.filter_cons,if_neg (by simpa using slt_asymm hk),List.find?_cons,decide_eq_false hne,ih]
    cases r.find? (fun p => decide (key p = k)) <;> simp
   ·by_cases he : key p = k
    ·subst he
     rw [if_neg hk,List.filter_cons,if_neg (by simpa using hk),List.find?_cons]
     simp
     intro y hy
     exact h1 y hy
    ·have hgt : slt k (key p) := by
      rcases slt_total (key p) k with h | h | h
      ·exact absurd h hk
      ·exact absurd h he
      ·exact h
     have hnone : (p :: r).find? (fun p => decide (key p = k)) = none := by
      rw [List.find?_eq_none]
      intro y hy
      rcases List.mem_cons.1 hy with rfl | hy
      ·simpa using he
      ·have := h1 y hy
       simp
       rintro rfl
       exact slt_irrefl _ (slt_trans hgt this)
     rw [hnone,if_neg hk]
     simp only [List.drop_zero]
     rw [List.filter_eq_self]
     intro y hy
     rcases List.mem_cons.1 hy with rfl | hy
     ·simpa using hgt
     ·simpa using slt_trans hgt (h1 y hy)
def gPut (l : List α) (y : α) : List α := gLow key l (key y) ++ [y] ++ gHigh key l (key y)
theorem gPut_sorted {l : List α} (hs : gSorted key l) (y : α) : gSorted key (gPut key l y) := by
 unfold gPut gSorted
 have hl : ∀ a ∈ gLow key l (key y),slt (key a) (key y) := fun a ha => by simpa using (List.mem_filter.1 ha).2
 have hh : ∀ a ∈ gHigh key l (key y),slt (key y) (key a) := fun a ha => by simpa using (List.mem_filter.1 ha).2
 rw [List.pairwise_append,List.pairwise_append]
 refine ⟨⟨hs.filter _,List.pairwise_singleton _ _,fun a ha b hb => ?_⟩,hs.filter _,fun a ha b hb => ?_⟩
 ·simp at hb; subst hb; exact hl a ha
 ·rcases List.mem_append.1 ha with ha | ha
  ·exact slt_trans (hl a ha) (hh b hb)
  ·simp at ha; subst ha; exact hh b hb
theorem gPut_get {l : List α} (hs : gSorted key l) (y : α) (k : List UInt8) : gGet key (gPut key l y) k = if k = key y then some y else gGet key l k := by
 have ho := gPut_sorted key hs y
 apply Option.ext
 intro v
 rw [gGet_iff key ho]
 unfold gPut gLow gHigh
 rw [List.mem_append,List.mem_append,List.mem_filter,List.mem_filter]
 simp only [decide_eq_true_eq,List.mem_singleton]
 by_cases hk : k = key y
 ·subst hk
  rw [if_pos rfl]
  have := slt_irrefl (key y)
  constructor
  ·rintro ⟨(h | h) | h,e⟩
   ·exact absurd h.2 (by rw [e]; exact this)
   ·rw [h]
   ·exact absurd h.2 (by rw [e]; exact this)
  ·intro h
   cases h
   exact ⟨.inl (.inr rfl),rfl⟩
 ·rw [if_neg hk,gGet_iff key hs]
  constructor
  ·rintro ⟨(h | h) | h,e⟩
   ·exact ⟨h.1,e⟩
   ·exact absurd (by rw [← e,h]) hk
   ·exact ⟨h.1,e⟩
  ·rintro ⟨h,e⟩
   refine ⟨?_,e⟩
   rcases slt_total (key v) (key y) with c | c | c
   ·exact .inl (.inl ⟨h,c⟩)
   ·exact absurd (by rw [← e]; exact c) hk
   ·exact .inr ⟨h,c⟩
theorem gPut_some {l : List α} (hs : gSorted key l) {y p : α} (h : gGet key l (key y) = some p) : gPut key l y = l.set (gBelow key (key y) l) y := by
 have h1 := gLow_eq key (k := key y) l hs
 have h2 := gHigh_eq key (k := key y) l hs
 rw [h] at h2
 have hb := (gBelow_find key l hs p).2 h
 have hlt := (List.getElem?_eq_some_iff.1 hb.1).1
 unfold gPut
 rw [h1,h2,List.set_eq_take_append_cons_drop,if_pos hlt]
 simp
theorem gPut_none {l : List α} (hs : gSorted key l) {y : α} (h : gGet key l (key y) = none) : gPut key l y = l.take (gBelow key (key y) l) ++ [y] ++ l.drop (gBelow key (key y) l) := by
 have h1 := gLow_eq key (k := key y) l hs
 have h2 := gHigh_eq key (k := key y) l hs
 rw [h] at h2
 unfold gPut
 rw [h1,h2]
theorem gPut_len {l : List α} (hs : gSorted key l) (y : α) : (gPut key l y).length ≤ l.length + 1 := by
 cases h : gGet key l (key y) with
 | some p => rw [gPut_some key hs h]; simp
 | none => rw [gPut_none key hs h]; simp; omega
end
def noteFrom : Option (List UInt8) → List Note → Prop
 | _,[] => True
 | last,p :: r => p.ok ∧ (∀ k,last = some k → slt k p.key) ∧ noteFrom (some p.key) r
def waitOk (l : List Note) : Prop := noteFrom none l
instance instNF : ∀ (last : Option (List UInt8)) (l : List Note),Decidable (noteFrom last l)
 | _,[] => isTrue trivial
 | none,s :: r => by
  unfold noteFrom
  have := instNF (some s.key) r
  have : Decidable (∀ k,none = some k → slt k s.key) := isTrue (fun k h => by cases h)
  infer_instance
 | some k,s :: r => by
  unfold noteFrom
  have := instNF (some s.key) r
  have : Decidable (∀ k',some k = some k' → slt k' s.key) := decidable_of_iff (slt k s.key) ⟨fun h k' e => by cases e; exact h,fun h => h k rfl⟩
  infer_instance
instance instWaitOk (l : List Note) : Decidable (waitOk l) := by unfold waitOk; infer_instance
def prevNote (l : List Note) (i : Nat) : Option (List UInt8) := if i = 0 then none else (l[i - 1]?).map Note.key
theorem noteFrom_iff : ∀ (l : List Note) (last : Option (List UInt8)),noteFrom last l ↔ (∀ k,last = some k → ∀ x ∈ l,slt k x.key) ∧ gSorted Note.key l ∧ ∀ x ∈ l,x.ok
 | [],last => by simp [noteFrom,gSorted]
 | p :: r,last => by
  rw [noteFrom,noteFrom_iff r]
  unfold gSorted
  rw [List.pairwise_cons]
  constructor
  ·rintro ⟨h1,h2,h3,h4,h5⟩
   refine ⟨fun k hk x hx => ?_,⟨fun x hx => h3 _ rfl x hx,h4⟩,fun x hx => ?_⟩
   ·rcases List.mem_cons.1 hx with rfl | hx
    ·exact h2 k hk
    ·exact slt_trans (h2 k hk) (h3 _ rfl x hx)
   ·rcases List.mem_cons.1 hx with rfl | hx
    ·exact h1
    ·exact h5 x hx
  ·rintro ⟨h1,⟨h2,h3⟩,h4⟩
   exact ⟨h4 p List.mem_cons_self,fun k hk => h1 k hk p List.mem_cons_self,fun k hk x hx => by cases hk; exact h2 x hx,h3,fun x hx => h4 x (List.mem_cons_of_mem _ hx)⟩
theorem waitOk_iff (l : List Note) : waitOk l ↔ gSorted Note.key l ∧ ∀ x ∈ l,x.ok := by
 unfold waitOk
 rw [noteFrom_iff]
 simp
set_option maxRecDepth 4000 in
set_option maxHeartbeats 8000000 in
theorem pend_Right (l : List Note) (hl : l.length ≤ 1000000) : Ct Tryz.prog 161 (Zv.ops [.row (l.map Note.pv)]) (.vals [.bool (decide (waitOk l))]) := by
  refine Ct.of_V Tryz.func161 rfl (by simp [Zv.ops,Tryz.f161]) ?_
  refine V.exec 400 ?_
  simp +contextual (maxSteps := 1000000) only [go_sem,↓reduceIte,reduceCtorEq,yA,yB,uA,uB,uC,uD,uE,uF,Tryz.f161]
  refine V.loop (fun m ls os => ∃ (i : Nat),i ≤ l.length ∧ m = l.length - i ∧ (waitOk l ↔ noteFrom (prevNote l i) (l.drop i)) ∧
        ls = [(0,.val (.row (l.map Note.pv))),(5,.val (.row (l.map Note.pv))),(6,.val (.int .i64 l.length)),(7,.val (.int .i64 i))] ∧ os = []) 0 l.length
      [(0,.val (.row (l.map Note.pv))),(5,.val (.row (l.map Note.pv))),(6,.val (.int .i64 l.length)),(7,.val (.int .i64 0))] [] []
      ⟨0,Nat.zero_le _,rfl,Iff.rfl,rfl,rfl⟩ (by simp only [go_sem,↓reduceIte,reduceCtorEq,yA,yB,uA,uB,uC,uD,uE,uF]) ?_
  rintro m ls os ⟨i,hi,rfl,hiff,rfl,rfl⟩
  refine V.exec 400 ?_
  by_cases hlt : i < l.length
  · have hlt' : (i : Int) < (l.length : Int) := by omega
    obtain ⟨x,hx⟩ : ∃ x,l[i]? = some x := ⟨_,List.getElem?_eq_getElem hlt⟩
    have hw : IntKind.i64.wrap ((i : Int) + 1) = ((i + 1 : Nat) : Int) := by rw [wrap_small3] <;> omega
    rw [drop_of_get hx,noteFrom] at hiff
    have hpk : prevNote l (i + 1) = some x.key := by simp [prevNote,hx]
    have fin : x.ok → (∀ k,prevNote l i = some k → slt k x.key) → (waitOk l ↔ noteFrom (prevNote l (i + 1)) (l.drop (i + 1))) := fun a b => by
      rw [hiff,hpk]; exact ⟨fun h => h.2.2,fun h => ⟨a,b,h⟩⟩
    have hfalse : ¬ waitOk l → some [PV.bool false] = some [PV.bool (decide (waitOk l))] := fun h => by simp [h]
    simp +contextual (maxSteps := 1000000) only [go_sem,↓reduceIte,reduceCtorEq,yA,yB,uA,uB,uC,uD,uE,uF,hlt',hx,Note.pv]
    refine DV.call [] [] (by simp only [go_sem,↓reduceIte,reduceCtorEq,yA,yB,uA,uB,uC,uD,uE,uF,Note.pv]) (by simp [dOK]) ⟨108,[],by simp only [go_sem,↓reduceIte,reduceCtorEq,yA,yB,uA,uB,uC,uD,uE,uF,Note.pv],⟨_,rfl,rfl,rfl⟩,.inl ⟨[x.pv],_,.inl (by simp only [go_sem,↓reduceIte,reduceCtorEq,yA,yB,uA,uB,uC,uD,uE,uF,Note.pv]),note_Right x,.inl ⟨_,rfl,rfl,rfl,rfl⟩⟩⟩ (by simp only [go_sem,↓reduceIte,reduceCtorEq,yA,yB,uA,uB,uC,uD,uE,uF,Note.pv]) (by simp only [go_sem,↓reduceIte,reduceCtorEq,yA,yB,uA,uB,uC,uD,uE,uF,Note.pv]) (by simp only [go_sem,↓reduceIte,reduceCtorEq,yA,yB,uA,uB,uC,uD,uE,uF,Note.pv]) (by simp) ?_
    refine DV.exec 400 ?_
    by_cases hok : x.ok
    · rcases Nat.eq_zero_or_pos i with rfl | hpos
      · have hz : ¬ (0 : Int) < ((0 : Nat) : Int) := by omega
        simp +contextual (maxSteps := 1000000) only [go_sem,↓reduceIte,reduceCtorEq,yA,yB,uA,uB,uC,uD,uE,uF,hlt',hx,Note.pv,hw,hz,hok]
        (repeat' (first | (intro _) | (refine ⟨by kernel_rfl,?_⟩) | (apply And.intro)))
        exact ⟨l.length - (0 + 1),_,[],[],by omega,⟨1,by omega,rfl,fin hok (fun k h => by simp [prevNote] at h),rfl,rfl⟩,by simp only [go_sem,↓reduceIte,reduceCtorEq,yA,yB,uA,uB,uC,uD,uE,uF]⟩
      · obtain ⟨j,rfl⟩ : ∃ j,i = j + 1 := ⟨i - 1,by omega⟩
        have hw2 : IntKind.i64.wrap (((j + 1 : Nat) : Int) - 1) = (j : Int) := by rw [wrap_small3] <;> omega
        have hjp : (0 : Int) < ((j + 1 : Nat) : Int) := by omega
        obtain ⟨y,hy⟩ : ∃ y,l[j]? = some y := ⟨_,List.getElem?_eq_getElem (by omega)⟩
        simp +contextual (maxSteps := 1000000) only [go_sem,↓reduceIte,reduceCtorEq,yA,yB,uA,uB,uC,uD,uE,uF,hlt',hx,Note.pv,hw,hw2,hjp,hy,hok]
        (repeat' (first | (intro _) | (refine ⟨by kernel_rfl,?_⟩) | (apply And.intro)))
        all_goals first
          | exact ⟨l.length - (j + 1 + 1),_,[],[],by omega,⟨j + 1 + 1,by omega,rfl,fin hok (fun k h => by simp [prevNote,hy] at h; rw [← h]; assumption),rfl,rfl⟩,by simp only [go_sem,↓reduceIte,reduceCtorEq,yA,yB,uA,uB,uC,uD,uE,uF]⟩
          | (refine hfalse fun h => ?_
             have := (hiff.1 h).2.1 y.key (by simp [prevNote,hy])
             contradiction)
    · simp +contextual (maxSteps := 1000000) only [go_sem,↓reduceIte,reduceCtorEq,yA,yB,uA,uB,uC,uD,uE,uF,hlt',hx,Note.pv,hw,hok]
      (repeat' (first | (intro _) | (refine ⟨by kernel_rfl,?_⟩) | (apply And.intro)))
      all_goals exact hfalse fun h => hok (hiff.1 h).1
  · have hlt' : ¬ (i : Int) < (l.length : Int) := by omega
    have hd : l.drop i = [] := List.drop_eq_nil_of_le (by omega)
    rw [hd,noteFrom] at hiff
    simp +contextual (maxSteps := 1000000) only [go_sem,↓reduceIte,reduceCtorEq,yA,yB,uA,uB,uC,uD,uE,uF,hlt']
    simp [hiff]
theorem pend_place1 (p : Note) (k : List UInt8) : Ct Tryz.prog 187 (Zv.ops [p.pv,.str k]) (.vals [.int .i64 (cmpStr p.key k)]) := by
 refine Ct.of_V Tryz.func187 rfl (by simp [Zv.ops,Tryz.f187]) ?_
 refine V.exec 400 ?_
 simp +contextual (maxSteps := 1000000) only [go_sem,↓reduceIte,reduceCtorEq,yA,yB,uA,uB,uC,uD,uE,uF,Tryz.f187,Note.pv]
 refine V.call rfl rfl (by simp [dOK]) ⟨153,[],by simp only [go_sem,↓reduceIte,reduceCtorEq,yA,yB,uA,uB,uC,uD,uE,uF],⟨_,rfl,rfl,rfl⟩,.inl ⟨[.str p.key,.str k],_,.inl (by simp only [go_sem,↓reduceIte,reduceCtorEq,yA,yB,uA,uB,uC,uD,uE,uF]),Compare_str p.key k,.inl ⟨_,rfl,rfl,rfl,rfl⟩⟩⟩ ?_
 refine V.exec 400 ?_
 simp +contextual (maxSteps := 1000000) only [go_sem,↓reduceIte,reduceCtorEq,yA,yB,uA,uB,uC,uD,uE,uF]
def kOfN (k : List UInt8) : PV → Int
 | .agg (_ :: .str a :: _) => cmpStr a k
 | _ => 0
def posN (l : List Note) (k : List UInt8) : Nat := bsI (cAt (kOfN k) (l.map Note.pv)) 0 l.length
set_option maxHeartbeats 2000000 in
theorem pend_place (l : List Note) (k : List UInt8) (hl : l.length ≤ 1000000) :
  Ct Tryz.prog 160 (Zv.ops [.row (l.map Note.pv),.str k]) (.vals [.int .i64 (posN l k),.bool (decide (∃ x,l[posN l k]? = some x ∧ x.key = k))]) := by
 have hb := BSearchNote_any (l.map Note.pv) (.str k) 187 [] (kOfN k) (fun x hx => by
   obtain ⟨s,_,rfl⟩ := List.mem_map.1 hx
   exact ⟨rfl,rfl⟩) (by simpa using hl) ⟨_,rfl,rfl,rfl⟩ (fun x hx => by
   obtain ⟨s,_,rfl⟩ := List.mem_map.1 hx
   exact pend_place1 s k)
 have e0 : bsI (cAt (kOfN k) (l.map Note.pv)) 0 (l.map Note.pv).length = posN l k := by rw [List.length_map]; rfl
 rw [e0] at hb
 have e1 : (∃ x,(l.map Note.pv)[posN l k]? = some x ∧ kOfN k x = 0) ↔ ∃ x,l[posN l k]? = some x ∧ x.key = k := by
  constructor
  ·rintro ⟨x,hx,hc⟩
   rw [List.getElem?_map,Option.map_eq_some_iff] at hx
   obtain ⟨s,hs',rfl⟩ := hx
   exact ⟨s,hs',cmpStr_zero.1 hc⟩
  ·rintro ⟨s,hs',hc⟩
   exact ⟨s.pv,by rw [List.getElem?_map,hs']; rfl,cmpStr_zero.2 hc⟩
 simp only [e1] at hb
 refine Ct.of_V Tryz.func160 rfl (by simp [Zv.ops,Tryz.f160]) ?_
 refine V.exec 400 ?_
 simp +contextual (maxSteps := 1000000) only [go_sem,↓reduceIte,reduceCtorEq,yA,yB,uA,uB,uC,uD,uE,uF,Tryz.f160]
 refine V.call rfl rfl (by simp [dOK]) ⟨186,[],by simp only [go_sem,↓reduceIte,reduceCtorEq,yA,yB,uA,uB,uC,uD,uE,uF],⟨_,rfl,rfl,rfl⟩,.inl ⟨[.row (l.map Note.pv),.str k,.fn 187 []],_,.inl (by simp only [go_sem,↓reduceIte,reduceCtorEq,yA,yB,uA,uB,uC,uD,uE,uF]),hb,.inl ⟨_,rfl,rfl,rfl,rfl⟩⟩⟩ ?_
 refine V.exec 400 ?_
 simp +contextual (maxSteps := 1000000) only [go_sem,↓reduceIte,reduceCtorEq,yA,yB,uA,uB,uC,uD,uE,uF]
theorem posN_eq {l : List Note} (h : gSorted Note.key l) (k : List UInt8) : posN l k = gBelow Note.key k l := by
 refine bsI_eq _ _ _ _ (Nat.zero_le _) (gBelow_le Note.key k l) (fun m _ hm => ?_) (fun m hm hm2 => ?_)
 ·obtain ⟨x,hx⟩ : ∃ x,l[m]? = some x := ⟨_,List.getElem?_eq_getElem (by have := gBelow_le Note.key k l; omega)⟩
  have := gBelow_lt Note.key l m x hm hx
  simp only [cAt,List.getElem?_map,hx,Option.map_some]
  exact cmpStr_neg.2 this
 ·obtain ⟨x,hx⟩ : ∃ x,l[m]? = some x := ⟨_,List.getElem?_eq_getElem hm2⟩
  have := gBelow_ge Note.key l h m x hm hx
  simp only [cAt,List.getElem?_map,hx,Option.map_some]
  exact fun hc => this (cmpStr_neg.1 hc)
def Note.zero : Note := ⟨0,[],[],0⟩
def findN (l : List Note) (k : List UInt8) : Note × Bool := if waitOk l then match gGet Note.key l k with | some p => (p,true) | none => (Note.zero,false) else (Note.zero,false)
set_option maxHeartbeats 2000000 in
theorem pend_Find (l : List Note) (k : List UInt8) (hl : l.length ≤ 1000000) : Ct Tryz.prog 127 (Zv.ops [.row (l.map Note.pv),.str k]) (.vals [(findN l k).1.pv,.bool (decide ((findN l k).2 = true))]) := by
 refine Ct.of_V Tryz.func127 rfl (by simp [Zv.ops,Tryz.f127]) ?_
 refine V.exec 400 ?_
 simp +contextual (maxSteps := 1000000) only [go_sem,↓reduceIte,reduceCtorEq,yA,yB,uA,uB,uC,uD,uE,uF,Tryz.f127]
 refine V.call rfl rfl (by simp [dOK]) ⟨160,[],by simp only [go_sem,↓reduceIte,reduceCtorEq,yA,yB,uA,uB,uC,uD,uE,uF],⟨_,rfl,rfl,rfl⟩,.inl ⟨[.row (l.map Note.pv),.str k],_,.inl (by simp only [go_sem,↓reduceIte,reduceCtorEq,yA,yB,uA,uB,uC,uD,uE,uF]),pend_place l k hl,.inl ⟨_,rfl,rfl,rfl,rfl⟩⟩⟩ ?_
 refine V.exec 400 ?_
 by_cases he : ∃ x,l[posN l k]? = some x ∧ x.key = k
 ·obtain ⟨x,hx⟩ := he
  have he : (∃ x,l[posN l k]? = some x ∧ x.key = k) := ⟨x,hx⟩
  have hlt := (List.getElem?_eq_some_iff.1 hx.1).1
  have hlt' : ((posN l k : Nat) : Int) < (l.length : Int) := by omega
  have hE : (∃ y,some x = some y ∧ y.key = k) := ⟨x,rfl,hx.2⟩
  simp +contextual (maxSteps := 1000000) only [go_sem,↓reduceIte,reduceCtorEq,yA,yB,uA,uB,uC,uD,uE,uF,hx.1,hE]
  refine V.call rfl rfl (by simp [dOK]) ⟨161,[],by simp only [go_sem,↓reduceIte,reduceCtorEq,yA,yB,uA,uB,uC,uD,uE,uF],⟨_,rfl,rfl,rfl⟩,.inl ⟨[.row (l.map Note.pv)],_,.inl (by simp only [go_sem,↓reduceIte,reduceCtorEq,yA,yB,uA,uB,uC,uD,uE,uF]),pend_Right l hl,.inl ⟨_,rfl,rfl,rfl,rfl⟩⟩⟩ ?_
  refine V.exec 400 ?_
  by_cases hok : waitOk l
  ·have hr := ((waitOk_iff l).1 hok).1
   have hp := posN_eq hr k
   have hg := (gBelow_find Note.key l hr x).1 (by rw [← hp]; exact hx)
   have hv : findN l k = (x,true) := by simp [findN,hok,hg]
   simp +contextual (maxSteps := 1000000) only [go_sem,↓reduceIte,reduceCtorEq,yA,yB,uA,uB,uC,uD,uE,uF,hok,hx.1,hlt',hv,Note.pv]
  ·have hv : findN l k = (Note.zero,false) := by simp [findN,hok]
   simp +contextual (maxSteps := 1000000) only [go_sem,↓reduceIte,reduceCtorEq,yA,yB,uA,uB,uC,uD,uE,uF,hok,hv,Note.zero,Note.pv]
 ·have hv : findN l k = (Note.zero,false) := by
   unfold findN
   split
   ·rename_i hok
    have hr := ((waitOk_iff l).1 hok).1
    have hp := posN_eq hr k
    cases hg : gGet Note.key l k with
    | none => rfl
    | some x => exact absurd ⟨x,by rw [hp]; exact (gBelow_find Note.key l hr x).2 hg⟩ he
   ·rfl
  simp +contextual (maxSteps := 1000000) only [go_sem,↓reduceIte,reduceCtorEq,yA,yB,uA,uB,uC,uD,uE,uF,he,hv,Note.zero,Note.pv]
theorem bothV_key (a b : Note) : (bothV a b).key = b.key := by
 unfold bothV
 split
 ·rfl
 ·split
  ·split
   ·rfl
   ·split
    ·rfl
    ·split <;> rfl
  ·rfl
theorem beB_short (n : Int) : (beB n 8).length ≤ 32 := by rw [beB_len]; decide
theorem doneOne_short (st : List UInt8 × Bool) {x : Note} (hx : x.ok) : (doneOne st x).1.length ≤ 32 := by
 unfold doneOne
 have := hx.2.1
 rcases hx.2.2 with h | h | h <;> simp [h.1]
 ·exact this
 ·exact beB_short _
theorem bothV_ok {a b : Note} (ha : a.ok) (hb : b.ok) : (bothV a b).ok := by
 unfold bothV
 split
 ·exact hb
 ·split
  ·rename_i h3
   split
   ·exact ⟨hb.1,doneOne_short _ hb,.inl ⟨rfl,rfl⟩⟩
   ·split
    ·exact ⟨hb.1,doneOne_short _ hb,.inl ⟨rfl,rfl⟩⟩
    ·split
     ·refine ⟨hb.1,hb.2.1,.inr (.inr ⟨h3,?_⟩)⟩
      rcases hb.2.2 with h | h | h
      ·rw [h3] at h; exact absurd h.1 (by decide)
      ·rw [h3] at h; exact absurd h.1 (by decide)
      ·exact h.2
     ·exact hb
  ·rename_i h1 h3
   rcases hb.2.2 with h | h | h
   ·exact absurd (.inl h.1) h1
   ·exact absurd (.inr h.1) h1
   ·exact absurd h.1 h3
def mergeV (l : List Note) (x : Note) : Note := match gGet Note.key l x.key with
 | some o => bothV o x
 | none => x
theorem mergeV_key (l : List Note) (x : Note) : (mergeV l x).key = x.key := by
 unfold mergeV
 split
 ·exact bothV_key _ _
 ·rfl
def pushOne (l : List Note) (x : Note) : List Note := gPut Note.key l (mergeV l x)
def pushV (l : List Note) (ns : List Note) : List Note := ns.foldl pushOne l
theorem pushOne_sorted {l : List Note} (hs : gSorted Note.key l) (x : Note) : gSorted Note.key (pushOne l x) := gPut_sorted Note.key hs _
theorem pushOne_len {l : List Note} (hs : gSorted Note.key l) (x : Note) : (pushOne l x).length ≤ l.length + 1 := gPut_len Note.key hs _
theorem pushOne_get {l : List Note} (hs : gSorted Note.key l) (x : Note) (k : List UInt8) :
  gGet Note.key (pushOne l x) k = if k = x.key then some (match gGet Note.key l k with | some o => bothV o x | none => x) else gGet Note.key l k := by
 unfold pushOne
 rw [gPut_get Note.key hs,mergeV_key]
 by_cases h : k = x.key
 ·subst h; rfl
 ·rw [if_neg h,if_neg h]
theorem pushOne_ok {l : List Note} (h : waitOk l) {x : Note} (hx : x.ok) : waitOk (pushOne l x) := by
 rw [waitOk_iff] at *
 refine ⟨pushOne_sorted h.1 x,fun y hy => ?_⟩
 unfold pushOne gPut at hy
 rw [List.mem_append,List.mem_append] at hy
 rcases hy with (hy | hy) | hy
 ·exact h.2 y (List.mem_filter.1 hy).1
 ·simp at hy
  subst hy
  unfold mergeV
  split
  ·rename_i o ho
   exact bothV_ok (h.2 o (gGet_mem Note.key ho).1) hx
  ·exact hx
 ·exact h.2 y (List.mem_filter.1 hy).1
theorem pushV_ok : ∀ (ns : List Note) {l : List Note},waitOk l → (∀ x ∈ ns,x.ok) → waitOk (pushV l ns)
 | [],_,h,_ => h
 | x :: r,_,h,hn => pushV_ok r (pushOne_ok h (hn x List.mem_cons_self)) fun y hy => hn y (List.mem_cons_of_mem _ hy)
theorem pushV_len : ∀ (ns : List Note) {l : List Note},gSorted Note.key l → (pushV l ns).length ≤ l.length + ns.length
 | [],_,_ => Nat.le_refl _
 | x :: r,l,h => by
  have h1 := pushV_len r (pushOne_sorted h x)
  have h2 := pushOne_len h x
  show (pushV (pushOne l x) r).length ≤ _
  simp only [List.length_cons]
  omega
def allOk (ns : List Note) : Prop := ∀ x ∈ ns,x.ok
instance instAllOk (ns : List Note) : Decidable (allOk ns) := by unfold allOk; infer_instance
def pushR (l : List Note) (ns : List Note) : List Note × Int := if waitOk l ∧ allOk ns then (pushV l ns,0) else (l,1)
theorem pend_Push1 (x : Note) : Ct Tryz.prog 175 (Zv.ops [x.pv]) (.vals [.bool (decide (¬ x.ok))]) := by
 refine Ct.of_V Tryz.func175 rfl (by simp [Zv.ops,Tryz.f175]) ?_
 refine V.exec 400 ?_
 simp +contextual (maxSteps := 1000000) only [go_sem,↓reduceIte,reduceCtorEq,yA,yB,uA,uB,uC,uD,uE,uF,Tryz.f175,Note.pv]
 refine V.call rfl rfl (by simp [dOK]) ⟨108,[],by simp only [go_sem,↓reduceIte,reduceCtorEq,yA,yB,uA,uB,uC,uD,uE,uF],⟨_,rfl,rfl,rfl⟩,.inl ⟨[x.pv],_,.inl (by simp only [go_sem,↓reduceIte,reduceCtorEq,yA,yB,uA,uB,uC,uD,uE,uF,Note.pv]),note_Right x,.inl ⟨_,rfl,rfl,rfl,rfl⟩⟩⟩ ?_
 refine V.exec 400 ?_
 simp +contextual (maxSteps := 1000000) only [go_sem,↓reduceIte,reduceCtorEq,yA,yB,uA,uB,uC,uD,uE,uF]
def Note.ofP : PV → Note
 | .agg [.int _ a,.str b,.str c,.int _ d] => ⟨a,b,c,d⟩
 | _ => ⟨0,[],[],0⟩
theorem Note.ofP_pv (x : Note) : Note.ofP x.pv = x := rfl
theorem Contains_badP (ns : List Note) (hl : ns.length ≤ 1000000) : Ct Tryz.prog 106 (Zv.ops [.row (ns.map Note.pv),.fn 175 []]) (.vals [.bool (decide (¬ allOk ns))]) := by
 unfold allOk
 obtain ⟨r,hr,hr1,hr2,hr3⟩ := first_of (fun y => decide (¬ (Note.ofP y).ok)) (ns.map Note.pv)
 have hi := IndexFuncNote (ns.map Note.pv) 175 [] (fun y => decide (¬ (Note.ofP y).ok)) (fun y hy => by
   obtain ⟨s,_,rfl⟩ := List.mem_map.1 hy
   exact ⟨rfl,rfl⟩) (by simpa using hl) ⟨_,rfl,rfl,rfl⟩ (fun y hy => by
   obtain ⟨s,_,rfl⟩ := List.mem_map.1 hy
   rw [Note.ofP_pv]
   simpa using pend_Push1 s) r hr hr1 hr2
 refine Ct.of_V Tryz.func106 rfl (by simp [Zv.ops,Tryz.f106]) ?_
 refine V.exec 400 ?_
 simp +contextual (maxSteps := 1000000) only [go_sem,↓reduceIte,reduceCtorEq,yA,yB,uA,uB,uC,uD,uE,uF,Tryz.f106]
 refine V.call rfl rfl (by simp [dOK]) ⟨144,[],by simp only [go_sem,↓reduceIte,reduceCtorEq,yA,yB,uA,uB,uC,uD,uE,uF],⟨_,rfl,rfl,rfl⟩,.inl ⟨[.row (ns.map Note.pv),.fn 175 []],_,.inl (by simp only [go_sem,↓reduceIte,reduceCtorEq,yA,yB,uA,uB,uC,uD,uE,uF]),hi,.inl ⟨_,rfl,rfl,rfl,rfl⟩⟩⟩ ?_
 refine V.exec 400 ?_
 simp +contextual (maxSteps := 1000000) only [go_sem,↓reduceIte,reduceCtorEq,yA,yB,uA,uB,uC,uD,uE,uF]
 have e : (∃ y ∈ ns.map Note.pv,decide (¬ (Note.ofP y).ok) = true) ↔ ¬ ∀ x ∈ ns,x.ok := by
  constructor
  ·rintro ⟨y,hy,hp⟩ hc
   obtain ⟨s,hs,rfl⟩ := List.mem_map.1 hy
   rw [Note.ofP_pv] at hp
   simp at hp
   exact hp (hc s hs)
  ·intro h
   simp only [Classical.not_forall] at h
   obtain ⟨x,hx,hp⟩ := h
   exact ⟨x.pv,List.mem_map_of_mem hx,by rw [Note.ofP_pv]; simpa using hp⟩
 rw [e] at hr3
 rw [List.length_map] at hr3
 by_cases hc : ∀ x ∈ ns,x.ok
 ·have : ¬ r < ns.length := fun h => (hr3.1 h) hc
  simp [this]
  exact hc
 ·have h2 := hr3.2 hc
  simp [h2,hc]
set_option maxRecDepth 10000 in
set_option maxHeartbeats 16000000 in
theorem pend_Push (l : List Note) (ns : List Note) (hl : l.length ≤ 400000) (hn : ns.length ≤ 400000) : Ct Tryz.prog 147 (Zv.ops [.row (l.map Note.pv),.row (ns.map Note.pv)]) (.vals [.row ((pushR l ns).1.map Note.pv),.int .i64 (pushR l ns).2]) := by
 have h2 : ∀ (l : List Note),∀ x ∈ l.map Note.pv,x.cells.length = 4 := fun l x hx => by
  obtain ⟨s,_,rfl⟩ := List.mem_map.1 hx
  rfl
 refine Ct.of_V Tryz.func147 rfl (by simp [Zv.ops,Tryz.f147]) ?_
 refine V.exec 400 ?_
 simp +contextual (maxSteps := 1000000) only [go_sem,↓reduceIte,reduceCtorEq,yA,yB,uA,uB,uC,uD,uE,uF,Tryz.f147]
 refine V.call rfl rfl (by simp [dOK]) ⟨174,[],by simp only [go_sem,↓reduceIte,reduceCtorEq,yA,yB,uA,uB,uC,uD,uE,uF],⟨_,rfl,rfl,rfl⟩,.inl ⟨[.row (l.map Note.pv)],_,.inl (by simp only [go_sem,↓reduceIte,reduceCtorEq,yA,yB,uA,uB,uC,uD,uE,uF]),CloneNote (l.map Note.pv) (h2 l) (by simp; omega),.inr (.inr ⟨72,(l.map Note.pv)   ,rfl,by simp only [go_sem,↓reduceIte,reduceCtorEq,yA,yB,uA,uB,uC,uD,uE,uF],rfl,rfl⟩)⟩⟩ ?_
 refine V.exec 400 ?_
 simp +contextual (maxSteps := 1000000) only [go_sem,↓reduceIte,reduceCtorEq,yA,yB,uA,uB,uC,uD,uE,uF]
 refine V.call rfl rfl (by simp [dOK]) ⟨161,[],by simp only [go_sem,↓reduceIte,reduceCtorEq,yA,yB,uA,uB,uC,uD,uE,uF],⟨_,rfl,rfl,rfl⟩,.inl ⟨[.row (l.map Note.pv)],_,.inl (by simp only [go_sem,↓reduceIte,reduceCtorEq,yA,yB,uA,uB,uC,uD,uE,uF]),pend_Right l (by omega),.inl ⟨_,rfl,rfl,rfl,rfl⟩⟩⟩ ?_
 refine V.exec 400 ?_
 by_cases hok : waitOk l
 ·simp +contextual (maxSteps := 1000000) only [go_sem,↓reduceIte,reduceCtorEq,yA,yB,uA,uB,uC,uD,uE,uF,hok]
  refine V.call rfl rfl (by simp [dOK]) ⟨106,[],by simp only [go_sem,↓reduceIte,reduceCtorEq,yA,yB,uA,uB,uC,uD,uE,uF],⟨_,rfl,rfl,rfl⟩,.inl ⟨[.row (ns.map Note.pv),.fn 175 []],_,.inl (by simp only [go_sem,↓reduceIte,reduceCtorEq,yA,yB,uA,uB,uC,uD,uE,uF]),Contains_badP ns (by omega),.inl ⟨_,rfl,rfl,rfl,rfl⟩⟩⟩ ?_
  refine V.exec 400 ?_
  by_cases hall : allOk ns
  ·have hv : pushR l ns = (pushV l ns,0) := by simp only [pushR]; rw [if_pos ⟨hok,hall⟩]
   simp +contextual (maxSteps := 1000000) only [go_sem,↓reduceIte,reduceCtorEq,yA,yB,uA,uB,uC,uD,uE,uF,hall,hv]
   refine V.loop (fun m ls os => ∃ (i : Nat) (cur : List Note),i ≤ ns.length ∧ m = ns.length - i ∧ gSorted Note.key cur ∧ cur.length ≤ l.length + i ∧ pushV cur (ns.drop i) = pushV l ns ∧
     ls = [(6,.ref 0),(21,.val (.row (ns.map Note.pv))),(22,.val (.int .i64 ns.length)),(23,.val (.int .i64 i))] ∧ os = [.row 72 (cur.map Note.pv)]) 1 ns.length
    [(6,.ref 0),(21,.val (.row (ns.map Note.pv))),(22,.val (.int .i64 ns.length)),(23,.val (.int .i64 0))] [.row 72 (l.map Note.pv)] [some 5]
    ⟨0,l,Nat.zero_le _,rfl,((waitOk_iff l).1 hok).1,Nat.le_refl _,rfl,rfl,rfl⟩ (by simp only [go_sem,↓reduceIte,reduceCtorEq,yA,yB,uA,uB,uC,uD,uE,uF]; try decide) ?_
   rintro m ls os ⟨i,cur,hi,rfl,hcs,hcl,hca,rfl,rfl⟩
   refine V.exec 400 ?_
   by_cases hlt : i < ns.length
   ·have hlt' : (i : Int) < (ns.length : Int) := by omega
    obtain ⟨x,hx⟩ : ∃ x,ns[i]? = some x := ⟨_,List.getElem?_eq_getElem hlt⟩
    have hw : IntKind.i64.wrap ((i : Int) + 1) = ((i + 1 : Nat) : Int) := by rw [wrap_small3] <;> omega
    rw [drop_of_get hx,pushV,List.foldl_cons] at hca
    have hos := pushOne_sorted hcs x
    have hol := pushOne_len hcs x
    have hpb := posN_eq hcs x.key
    have hpl := pend_place cur x.key (by omega)
    rw [hpb] at hpl
    have hbl := gBelow_le Note.key x.key cur
    simp +contextual (maxSteps := 1000000) only [go_sem,↓reduceIte,reduceCtorEq,yA,yB,uA,uB,uC,uD,uE,uF,hlt',hx,Note.pv]
    refine V.call rfl rfl (by simp [dOK]) ⟨160,[],by simp only [go_sem,↓reduceIte,reduceCtorEq,yA,yB,uA,uB,uC,uD,uE,uF],⟨_,rfl,rfl,rfl⟩,.inl ⟨[.row (cur.map Note.pv),.str x.key],_,.inl (by simp only [go_sem,↓reduceIte,reduceCtorEq,yA,yB,uA,uB,uC,uD,uE,uF]),hpl,.inl ⟨_,rfl,rfl,rfl,rfl⟩⟩⟩ ?_
    refine V.exec 400 ?_
    cases hg : gGet Note.key cur x.key with
    | some p =>
     have hp := (gBelow_find Note.key cur hcs p).2 hg
     have hE : (∃ y,some p = some y ∧ y.key = x.key) := ⟨p,rfl,hp.2⟩
     have hrl := (List.getElem?_eq_some_iff.1 hp.1).1
     have hrl' : ((gBelow Note.key x.key cur : Nat) : Int) < (cur.length : Int) := by omega
     have hm : mergeV cur x = bothV p x := by simp [mergeV,hg]
     have hone : pushOne cur x = cur.set (gBelow Note.key x.key cur) (bothV p x) := by
      unfold pushOne
      rw [gPut_some Note.key hcs (p := p) (by rw [mergeV_key]; exact hg),mergeV_key,hm]
     simp +contextual (maxSteps := 1000000) only [go_sem,↓reduceIte,reduceCtorEq,yA,yB,uA,uB,uC,uD,uE,uF,hp.1,hE,hrl',Note.pv]
     refine DV.call [] [] (by simp only [go_sem,↓reduceIte,reduceCtorEq,yA,yB,uA,uB,uC,uD,uE,uF,Note.pv]) (by simp [dOK]) ⟨176,[],by simp only [go_sem,↓reduceIte,reduceCtorEq,yA,yB,uA,uB,uC,uD,uE,uF,Note.pv],⟨_,rfl,rfl,rfl⟩,.inl ⟨[p.pv,x.pv],_,.inl (by simp only [go_sem,↓reduceIte,reduceCtorEq,yA,yB,uA,uB,uC,uD,uE,uF,Note.pv]),note_Both p x,.inr (.inl ⟨_,rfl,rfl,rfl⟩)⟩⟩ (by simp only [go_sem,↓reduceIte,reduceCtorEq,yA,yB,uA,uB,uC,uD,uE,uF,Note.pv]) (by simp only [go_sem,↓reduceIte,reduceCtorEq,yA,yB,uA,uB,uC,uD,uE,uF,Note.pv]) (by simp only [go_sem,↓reduceIte,reduceCtorEq,yA,yB,uA,uB,uC,uD,uE,uF,Note.pv]) (by simp) ?_
     refine DV.exec 400 ?_
     simp +contextual (maxSteps := 1000000) only [go_sem,↓reduceIte,reduceCtorEq,yA,yB,uA,uB,uC,uD,uE,uF,hp.1,hE,hrl',Note.pv,hw]
     refine ⟨by kernel_rfl,ns.length - (i + 1),_,_,[some 0],by omega,⟨i + 1,pushOne cur x,by omega,rfl,hos,by omega,hca,rfl,rfl⟩,?_⟩
     simp only [go_sem,↓reduceIte,reduceCtorEq,yA,yB,uA,uB,uC,uD,uE,uF,hone,List.map_set,Note.pv]
     try decide
    | none =>
     have hE : ¬ ∃ y,cur[gBelow Note.key x.key cur]? = some y ∧ y.key = x.key := fun ⟨y,hy⟩ => by
      have := (gBelow_find Note.key cur hcs y).1 hy
      rw [hg] at this; cases this
     have hm : mergeV cur x = x := by simp [mergeV,hg]
     have hone : pushOne cur x = cur.take (gBelow Note.key x.key cur) ++ [x] ++ cur.drop (gBelow Note.key x.key cur) := by
      unfold pushOne
      rw [hm,gPut_none Note.key hcs hg]
     have hins := InsertNote (cur.map Note.pv) x.pv (gBelow Note.key x.key cur) (h2 cur) rfl (by simpa using hbl) (by simp; omega)
     have he : (cur.map Note.pv).take (gBelow Note.key x.key cur) ++ [x.pv] ++ (cur.map Note.pv).drop (gBelow Note.key x.key cur) = (pushOne cur x).map Note.pv := by
      rw [hone]; simp [List.map_append,List.map_take,List.map_drop]
     rw [he] at hins
     simp +contextual (maxSteps := 1000000) only [go_sem,↓reduceIte,reduceCtorEq,yA,yB,uA,uB,uC,uD,uE,uF,hE,Note.pv]
     refine V.call rfl rfl (by simp [dOK]) ⟨177,[],by simp only [go_sem,↓reduceIte,reduceCtorEq,yA,yB,uA,uB,uC,uD,uE,uF],⟨_,rfl,rfl,rfl⟩,.inr (.inl ⟨0,72,cur.map Note.pv,[.val (.int .i64 (gBelow Note.key x.key cur : Nat)),.ref 19],[.int .i64 (gBelow Note.key x.key cur : Nat),.rowp [x.pv]],72,_,by simp only [go_sem,↓reduceIte,reduceCtorEq,yA,yB,uA,uB,uC,uD,uE,uF],by simp only [go_sem,↓reduceIte,reduceCtorEq,yA,yB,uA,uB,uC,uD,uE,uF],.inr ⟨[.val (.int .i64 (gBelow Note.key x.key cur : Nat))],19,72,[x.pv],[.int .i64 (gBelow Note.key x.key cur : Nat)],rfl,rfl,by simp only [go_sem,↓reduceIte,reduceCtorEq,yA,yB,uA,uB,uC,uD,uE,uF,Note.pv],rfl⟩,hins,by simp only [go_sem,↓reduceIte,reduceCtorEq,yA,yB,uA,uB,uC,uD,uE,uF],rfl,rfl⟩)⟩ ?_
     refine V.exec 400 ?_
     simp +contextual (maxSteps := 1000000) only [go_sem,↓reduceIte,reduceCtorEq,yA,yB,uA,uB,uC,uD,uE,uF,hw]
     refine ⟨ns.length - (i + 1),_,_,[some 20],by omega,⟨i + 1,pushOne cur x,by omega,rfl,hos,by omega,hca,rfl,rfl⟩,?_⟩
     simp only [go_sem,↓reduceIte,reduceCtorEq,yA,yB,uA,uB,uC,uD,uE,uF]
   ·have hlt' : ¬ (i : Int) < (ns.length : Int) := by omega
    have hd : ns.drop i = [] := List.drop_eq_nil_of_le (by omega)
    rw [hd] at hca
    simp +contextual (maxSteps := 1000000) only [go_sem,↓reduceIte,reduceCtorEq,yA,yB,uA,uB,uC,uD,uE,uF,hlt',← hca]
    rfl
  ·have hv : pushR l ns = (l,1) := by simp only [pushR]; rw [if_neg (fun h => hall h.2)]
   simp +contextual (maxSteps := 1000000) only [go_sem,↓reduceIte,reduceCtorEq,yA,yB,uA,uB,uC,uD,uE,uF,hall,hv]
 ·have hv : pushR l ns = (l,1) := by simp only [pushR]; rw [if_neg (fun h => hok h.1)]
  simp +contextual (maxSteps := 1000000) only [go_sem,↓reduceIte,reduceCtorEq,yA,yB,uA,uB,uC,uD,uE,uF,hok,hv]
def risesFrom : Option (List UInt8) → List (List UInt8) → Prop
 | _,[] => True
 | last,s :: r => (∀ k,last = some k → slt k s) ∧ risesFrom (some s) r
def risesOk (l : List (List UInt8)) : Prop := risesFrom none l
instance instRFs : ∀ (last : Option (List UInt8)) (l : List (List UInt8)),Decidable (risesFrom last l)
 | _,[] => isTrue trivial
 | none,s :: r => by
  unfold risesFrom
  have := instRFs (some s) r
  have : Decidable (∀ k,none = some k → slt k s) := isTrue (fun k h => by cases h)
  infer_instance
 | some k,s :: r => by
  unfold risesFrom
  have := instRFs (some s) r
  have : Decidable (∀ k',some k = some k' → slt k' s) := decidable_of_iff (slt k s) ⟨fun h k' e => by cases e; exact h,fun h => h k rfl⟩
  infer_instance
instance instRisesOk (l : List (List UInt8)) : Decidable (risesOk l) := by unfold risesOk; infer_instance
def prevStr (l : List (List UInt8)) (i : Nat) : Option (List UInt8) := if i = 0 then none else l[i - 1]?
set_option maxRecDepth 4000 in
set_option maxHeartbeats 8000000 in
theorem pend_rises (l : List (List UInt8)) (hl : l.length ≤ 1000000) : Ct Tryz.prog 181 (Zv.ops [.row (l.map PV.str)]) (.vals [.bool (decide (risesOk l))]) := by
  refine Ct.of_V Tryz.func181 rfl (by simp [Zv.ops,Tryz.f181]) ?_
  refine V.exec 400 ?_
  simp +contextual (maxSteps := 1000000) only [go_sem,↓reduceIte,reduceCtorEq,yA,yB,uA,uB,uC,uD,uE,uF,Tryz.f181]
  refine V.loop (fun m ls os => ∃ (i : Nat),i ≤ l.length ∧ m = l.length - i ∧ (risesOk l ↔ risesFrom (prevStr l i) (l.drop i)) ∧
        ls = [(0,.val (.row (l.map PV.str))),(5,.val (.row (l.map PV.str))),(6,.val (.int .i64 l.length)),(7,.val (.int .i64 i))] ∧ os = []) 0 l.length
      [(0,.val (.row (l.map PV.str))),(5,.val (.row (l.map PV.str))),(6,.val (.int .i64 l.length)),(7,.val (.int .i64 0))] [] []
      ⟨0,Nat.zero_le _,rfl,Iff.rfl,rfl,rfl⟩ (by simp only [go_sem,↓reduceIte,reduceCtorEq,yA,yB,uA,uB,uC,uD,uE,uF]) ?_
  rintro m ls os ⟨i,hi,rfl,hiff,rfl,rfl⟩
  refine V.exec 400 ?_
  by_cases hlt : i < l.length
  · have hlt' : (i : Int) < (l.length : Int) := by omega
    obtain ⟨x,hx⟩ : ∃ x,l[i]? = some x := ⟨_,List.getElem?_eq_getElem hlt⟩
    have hw : IntKind.i64.wrap ((i : Int) + 1) = ((i + 1 : Nat) : Int) := by rw [wrap_small3] <;> omega
    rw [drop_of_get hx,risesFrom] at hiff
    have hpk : prevStr l (i + 1) = some x := by simp [prevStr,hx]
    have fin : (∀ k,prevStr l i = some k → slt k x) → (risesOk l ↔ risesFrom (prevStr l (i + 1)) (l.drop (i + 1))) := fun b => by
      rw [hiff,hpk]; exact ⟨fun h => h.2,fun h => ⟨b,h⟩⟩
    have hfalse : ¬ risesOk l → some [PV.bool false] = some [PV.bool (decide (risesOk l))] := fun h => by simp [h]
    rcases Nat.eq_zero_or_pos i with rfl | hpos
    · have hz : ¬ (0 : Int) < ((0 : Nat) : Int) := by omega
      simp +contextual (maxSteps := 1000000) only [go_sem,↓reduceIte,reduceCtorEq,yA,yB,uA,uB,uC,uD,uE,uF,hlt',hx,hw,hz]
      (repeat' (first | (intro _) | (refine ⟨by kernel_rfl,?_⟩) | (apply And.intro)))
      all_goals exact ⟨l.length - (0 + 1),_,[],[],by omega,⟨1,by omega,rfl,fin (fun k h => by simp [prevStr] at h),rfl,rfl⟩,by simp only [go_sem,↓reduceIte,reduceCtorEq,yA,yB,uA,uB,uC,uD,uE,uF]⟩
    · obtain ⟨j,rfl⟩ : ∃ j,i = j + 1 := ⟨i - 1,by omega⟩
      have hw2 : IntKind.i64.wrap (((j + 1 : Nat) : Int) - 1) = (j : Int) := by rw [wrap_small3] <;> omega
      have hjp : (0 : Int) < ((j + 1 : Nat) : Int) := by omega
      obtain ⟨y,hy⟩ : ∃ y,l[j]? = some y := ⟨_,List.getElem?_eq_getElem (by omega)⟩
      simp +contextual (maxSteps := 1000000) only [go_sem,↓reduceIte,reduceCtorEq,yA,yB,uA,uB,uC,uD,uE,uF,hlt',hx,hw,hw2,hjp,hy]
      (repeat' (first | (intro _) | (refine ⟨by kernel_rfl,?_⟩) | (apply And.intro)))
      all_goals first
        | exact ⟨l.length - (j + 1 + 1),_,[],[],by omega,⟨j + 1 + 1,by omega,rfl,fin (fun k h => by simp [prevStr,hy] at h; rw [← h]; assumption),rfl,rfl⟩,by simp only [go_sem,↓reduceIte,reduceCtorEq,yA,yB,uA,uB,uC,uD,uE,uF]⟩
        | (refine hfalse fun h => ?_
           have := (hiff.1 h).1 y (by simp [prevStr,hy])
           contradiction)
  · have hlt' : ¬ (i : Int) < (l.length : Int) := by omega
    have hd : l.drop i = [] := List.drop_eq_nil_of_le (by omega)
    rw [hd,risesFrom] at hiff
    simp +contextual (maxSteps := 1000000) only [go_sem,↓reduceIte,reduceCtorEq,yA,yB,uA,uB,uC,uD,uE,uF,hlt']
    simp [hiff]
def splitV : List Note → List (List UInt8) → List (List Note)
 | _,[] => []
 | l,[_] => [l]
 | l,_ :: t :: r => l.take (gBelow Note.key t l) :: splitV (l.drop (gBelow Note.key t l)) (t :: r)
theorem splitV_len : ∀ (ls : List (List UInt8)) (l : List Note),(splitV l ls).length = ls.length
 | [],_ => rfl
 | [_],_ => rfl
 | _ :: t :: r,l => by rw [splitV,List.length_cons,splitV_len (t :: r)]; rfl
def splitR (l : List Note) (lows : List (List UInt8)) : List (List Note) := if waitOk l ∧ risesOk lows ∧ lows ≠ [] then splitV l lows else []
def rowN (l : List Note) : PV := .row (l.map Note.pv)
theorem set_mid {α : Type} (d : List α) (k : Nat) (z v : α) : (d ++ List.replicate (k + 1) z).set d.length v = (d ++ [v]) ++ List.replicate k z := by
 rw [List.set_append_right _ _ (Nat.le_refl _),Nat.sub_self,List.replicate_succ,List.set_cons_zero]
 simp
set_option maxRecDepth 10000 in
set_option maxHeartbeats 16000000 in
theorem pend_SplitO (l : List Note) (lows : List (List UInt8)) (hl : l.length ≤ 400000) (hw : lows.length ≤ 400000) : Ct Tryz.prog 149 (Zv.ops [.row (l.map Note.pv),.row (lows.map PV.str)]) (.own 36 ((splitR l lows).map rowN)) := by
 have h2 : ∀ (l : List Note),∀ x ∈ l.map Note.pv,x.cells.length = 4 := fun l x hx => by
  obtain ⟨s,_,rfl⟩ := List.mem_map.1 hx
  rfl
 refine Ct.of_V Tryz.func149 rfl (by simp [Zv.ops,Tryz.f149]) ?_
 refine V.exec 400 ?_
 simp +contextual (maxSteps := 1000000) only [go_sem,↓reduceIte,reduceCtorEq,yA,yB,uA,uB,uC,uD,uE,uF,Tryz.f149]
 refine V.call rfl rfl (by simp [dOK]) ⟨161,[],by simp only [go_sem,↓reduceIte,reduceCtorEq,yA,yB,uA,uB,uC,uD,uE,uF],⟨_,rfl,rfl,rfl⟩,.inl ⟨[.row (l.map Note.pv)],_,.inl (by simp only [go_sem,↓reduceIte,reduceCtorEq,yA,yB,uA,uB,uC,uD,uE,uF]),pend_Right l (by omega),.inl ⟨_,rfl,rfl,rfl,rfl⟩⟩⟩ ?_
 refine V.exec 400 ?_
 by_cases hok : waitOk l
 ·simp +contextual (maxSteps := 1000000) only [go_sem,↓reduceIte,reduceCtorEq,yA,yB,uA,uB,uC,uD,uE,uF,hok]
  refine V.call rfl rfl (by simp [dOK]) ⟨181,[],by simp only [go_sem,↓reduceIte,reduceCtorEq,yA,yB,uA,uB,uC,uD,uE,uF],⟨_,rfl,rfl,rfl⟩,.inl ⟨[.row (lows.map PV.str)],_,.inl (by simp only [go_sem,↓reduceIte,reduceCtorEq,yA,yB,uA,uB,uC,uD,uE,uF]),pend_rises lows (by omega),.inl ⟨_,rfl,rfl,rfl,rfl⟩⟩⟩ ?_
  refine V.exec 400 ?_
  by_cases hr : risesOk lows
  ·by_cases h0 : lows.length = 0
   ·have h0' : (lows.length : Int) = 0 := by omega
    have hv : splitR l lows = [] := by
     unfold splitR; rw [if_neg (fun h => h.2.2 (List.eq_nil_of_length_eq_zero h0))]
    simp +contextual (maxSteps := 1000000) only [go_sem,↓reduceIte,reduceCtorEq,yA,yB,uA,uB,uC,uD,uE,uF,hr,h0',hv,List.map_nil]
    exact ⟨1,rfl,by decide⟩
   ·have h0' : ¬ (lows.length : Int) = 0 := by omega
    have hv : splitR l lows = splitV l lows := by
     unfold splitR; rw [if_pos ⟨hok,hr,fun e => h0 (by rw [e]; rfl)⟩]
    have hsr := ((waitOk_iff l).1 hok).1
    simp +contextual (maxSteps := 1000000) only [go_sem,↓reduceIte,reduceCtorEq,yA,yB,uA,uB,uC,uD,uE,uF,hr,h0',hv]
    refine ⟨⟨by omega,by omega⟩,?_⟩
    refine V.loop (fun m ls os => ∃ (i : Nat) (rest : List Note) (done : List (List Note)),i ≤ lows.length ∧ m = lows.length - i ∧ gSorted Note.key rest ∧ rest.length ≤ l.length ∧ done.length = i ∧ done ++ splitV rest (lows.drop i) = splitV l lows ∧
      ls = [(0,.val (.row (rest.map Note.pv))),(1,.val (.row (lows.map PV.str))),(5,.ref 0),(24,.val (.row (lows.map PV.str))),(25,.val (.int .i64 lows.length)),(26,.val (.int .i64 i))] ∧ os = [.row 36 (done.map rowN ++ List.replicate (lows.length - i) (PV.row []))]) 1 lows.length
     [(0,.val (.row (l.map Note.pv))),(1,.val (.row (lows.map PV.str))),(5,.ref 0),(24,.val (.row (lows.map PV.str))),(25,.val (.int .i64 lows.length)),(26,.val (.int .i64 0))] [.row 36 (List.replicate lows.length (PV.row []))] [some 18]
     ⟨0,l,[],Nat.zero_le _,rfl,hsr,Nat.le_refl _,rfl,rfl,rfl,rfl⟩ (by simp only [go_sem,↓reduceIte,reduceCtorEq,yA,yB,uA,uB,uC,uD,uE,uF]; try decide) ?_
    rintro m ls os ⟨i,rest,done,hi,rfl,hrs,hrl,hdl,hda,rfl,rfl⟩
    refine V.exec 400 ?_
    by_cases hlt : i < lows.length
    ·have hlt' : (i : Int) < (lows.length : Int) := by omega
     obtain ⟨s,hs⟩ : ∃ x,lows[i]? = some x := ⟨_,List.getElem?_eq_getElem hlt⟩
     have hw : IntKind.i64.wrap ((i : Int) + 1) = ((i + 1 : Nat) : Int) := by rw [wrap_small3] <;> omega
     have hRl : (done.map rowN ++ List.replicate (lows.length - i) (PV.row [])).length = lows.length := by simp [hdl]; omega
     have hRi : (done.map rowN ++ List.replicate (lows.length - i) (PV.row []))[i]? = some (PV.row []) := by
      rw [List.getElem?_append_right (by simp [hdl]),List.length_map,hdl,Nat.sub_self,List.getElem?_replicate,if_pos (by omega)]
     have hset : ∀ v,(done.map rowN ++ List.replicate (lows.length - i) (PV.row [])).set i v = (done.map rowN ++ [v]) ++ List.replicate (lows.length - (i + 1)) (PV.row []) := fun v => by
      have e : lows.length - i = (lows.length - (i + 1)) + 1 := by omega
      rw [e]
      have := set_mid (done.map rowN) (lows.length - (i + 1)) (PV.row []) v
      rw [List.length_map,hdl] at this
      exact this
     generalize hR : done.map rowN ++ List.replicate (lows.length - i) (PV.row []) = R at *
     by_cases hn1 : i + 1 < lows.length
     ·have hn1' : ((i + 1 : Nat) : Int) < (lows.length : Int) := by omega
      obtain ⟨t,ht⟩ : ∃ x,lows[i + 1]? = some x := ⟨_,List.getElem?_eq_getElem hn1⟩
      have hdi : lows.drop i = s :: t :: lows.drop (i + 2) := by rw [drop_of_get hs,drop_of_get ht]
      have hdi2 : lows.drop (i + 1) = t :: lows.drop (i + 2) := drop_of_get ht
      have hbl := gBelow_le Note.key t rest
      have hpl := pend_place rest t (by omega)
      rw [posN_eq hrs t] at hpl
      generalize hB : gBelow Note.key t rest = B at *
      have hda2 : done ++ [rest.take B] ++ splitV (rest.drop B) (lows.drop (i + 1)) = splitV l lows := by
       rw [← hda,hdi,hdi2,splitV,hB]; simp
      have hcl := (CloneNote ((rest.map Note.pv).take B) (fun x hx => h2 rest x (List.mem_of_mem_take hx)) (by simp; omega)).forget
      have hBl' : ((B : Nat) : Int) ≤ (rest.length : Int) := by omega
      have hst := hset (rowN (rest.take B))
      simp only [rowN,List.map_take] at hst
      simp +contextual (maxSteps := 1000000) only [go_sem,↓reduceIte,reduceCtorEq,yA,yB,uA,uB,uC,uD,uE,uF,hlt',hw,hn1',ht]
      refine V.call rfl rfl (by simp [dOK]) ⟨160,[],by simp only [go_sem,↓reduceIte,reduceCtorEq,yA,yB,uA,uB,uC,uD,uE,uF],⟨_,rfl,rfl,rfl⟩,.inl ⟨[.row (rest.map Note.pv),.str t],_,.inl (by simp only [go_sem,↓reduceIte,reduceCtorEq,yA,yB,uA,uB,uC,uD,uE,uF]),hpl,.inl ⟨_,rfl,rfl,rfl,rfl⟩⟩⟩ ?_
      refine V.exec 400 ?_
      simp +contextual (maxSteps := 1000000) only [go_sem,↓reduceIte,reduceCtorEq,yA,yB,uA,uB,uC,uD,uE,uF,hBl']
      refine DV.call [] [] (by simp only [go_sem,↓reduceIte,reduceCtorEq,yA,yB,uA,uB,uC,uD,uE,uF]) (by simp [dOK]) ⟨174,[],by simp only [go_sem,↓reduceIte,reduceCtorEq,yA,yB,uA,uB,uC,uD,uE,uF],⟨_,rfl,rfl,rfl⟩,.inl ⟨[.row ((rest.map Note.pv).take B)],_,.inl (by simp only [go_sem,↓reduceIte,reduceCtorEq,yA,yB,uA,uB,uC,uD,uE,uF]),hcl,.inr (.inl ⟨_,rfl,rfl,rfl⟩)⟩⟩ (by simp only [go_sem,↓reduceIte,reduceCtorEq,yA,yB,uA,uB,uC,uD,uE,uF]) (by simp only [go_sem,↓reduceIte,reduceCtorEq,yA,yB,uA,uB,uC,uD,uE,uF]) (by simp only [go_sem,↓reduceIte,reduceCtorEq,yA,yB,uA,uB,uC,uD,uE,uF]) (by simp) ?_
      refine DV.exec 400 ?_
      simp +contextual (maxSteps := 1000000) only [go_sem,↓reduceIte,reduceCtorEq,yA,yB,uA,uB,uC,uD,uE,uF,hRl,hRi,hst,hlt',hw,hBl']
      refine ⟨fun _ _ => rfl,by kernel_rfl,lows.length - (i + 1),_,_,[some 0],by omega,⟨i + 1,rest.drop B,done ++ [rest.take B],by omega,rfl,List.Pairwise.sublist (List.drop_sublist _ _) hrs,by simp; omega,by simp [hdl],hda2,rfl,rfl⟩,?_⟩
      simp only [go_sem,↓reduceIte,reduceCtorEq,yA,yB,uA,uB,uC,uD,uE,uF,rowN,List.map_append,List.map_take,List.map_drop]
      try decide
     ·have hn1' : ¬ ((i + 1 : Nat) : Int) < (lows.length : Int) := by omega
      have hdi : lows.drop i = [s] := by rw [drop_of_get hs,List.drop_eq_nil_of_le (by omega)]
      rw [hdi] at hda
      have hda2 : done ++ [rest] ++ splitV [] (lows.drop (i + 1)) = splitV l lows := by
       rw [List.drop_eq_nil_of_le (by omega)]; simpa [splitV] using hda
      have hcl := (CloneNote ((rest.map Note.pv).take rest.length) (fun x hx => h2 rest x (List.mem_of_mem_take hx)) (by simp; omega)).forget
      have htk : (rest.map Note.pv).take rest.length = rest.map Note.pv := List.take_of_length_le (by simp)
      have hdk : (rest.map Note.pv).drop rest.length = [] := List.drop_eq_nil_of_le (by simp)
      rw [htk] at hcl
      have hst := hset (rowN rest)
      simp only [rowN] at hst
      simp +contextual (maxSteps := 1000000) only [go_sem,↓reduceIte,reduceCtorEq,yA,yB,uA,uB,uC,uD,uE,uF,hlt',hw,hn1',htk,hdk]
      refine ⟨Int.le_refl _,?_⟩
      refine DV.call [] [] (by simp only [go_sem,↓reduceIte,reduceCtorEq,yA,yB,uA,uB,uC,uD,uE,uF]) (by simp [dOK]) ⟨174,[],by simp only [go_sem,↓reduceIte,reduceCtorEq,yA,yB,uA,uB,uC,uD,uE,uF],⟨_,rfl,rfl,rfl⟩,.inl ⟨[.row (rest.map Note.pv)],_,.inl (by simp only [go_sem,↓reduceIte,reduceCtorEq,yA,yB,uA,uB,uC,uD,uE,uF]),hcl,.inr (.inl ⟨_,rfl,rfl,rfl⟩)⟩⟩ (by simp only [go_sem,↓reduceIte,reduceCtorEq,yA,yB,uA,uB,uC,uD,uE,uF]) (by simp only [go_sem,↓reduceIte,reduceCtorEq,yA,yB,uA,uB,uC,uD,uE,uF]) (by simp only [go_sem,↓reduceIte,reduceCtorEq,yA,yB,uA,uB,uC,uD,uE,uF]) (by simp) ?_
      refine DV.exec 400 ?_
      simp +contextual (maxSteps := 1000000) only [go_sem,↓reduceIte,reduceCtorEq,yA,yB,uA,uB,uC,uD,uE,uF,hRl,hRi,hst,htk,hdk,hlt',hw]
      refine ⟨⟨Int.le_refl _,fun _ _ => rfl⟩,by kernel_rfl,lows.length - (i + 1),_,_,[some 0],by omega,⟨i + 1,[],done ++ [rest],by omega,rfl,List.Pairwise.nil,by simp,by simp [hdl],hda2,rfl,rfl⟩,?_⟩
      simp only [go_sem,↓reduceIte,reduceCtorEq,yA,yB,uA,uB,uC,uD,uE,uF,rowN,List.map_append]
      try decide
    ·have hlt' : ¬ (i : Int) < (lows.length : Int) := by omega
     have hd : lows.drop i = [] := List.drop_eq_nil_of_le (by omega)
     have hsn : ∀ r,splitV r [] = [] := fun r => by unfold splitV; rfl
     have hz : lows.length - i = 0 := by omega
     rw [hd,hsn,List.append_nil] at hda
     rw [hz]
     simp +contextual (maxSteps := 1000000) only [go_sem,↓reduceIte,reduceCtorEq,yA,yB,uA,uB,uC,uD,uE,uF,hlt',List.replicate_zero,List.append_nil,hda]
  ·have hv : splitR l lows = [] := by
    unfold splitR; rw [if_neg (fun h => hr h.2.1)]
   simp +contextual (maxSteps := 1000000) only [go_sem,↓reduceIte,reduceCtorEq,yA,yB,uA,uB,uC,uD,uE,uF,hr,hv,List.map_nil]
   exact ⟨1,rfl,by decide⟩
 ·have hv : splitR l lows = [] := by
   unfold splitR; rw [if_neg (fun h => hok h.1)]
  simp +contextual (maxSteps := 1000000) only [go_sem,↓reduceIte,reduceCtorEq,yA,yB,uA,uB,uC,uD,uE,uF,hok,hv,List.map_nil]
  exact ⟨1,rfl,by decide⟩
theorem pend_Split (l : List Note) (lows : List (List UInt8)) (hl : l.length ≤ 400000) (hw : lows.length ≤ 400000) : Ct Tryz.prog 149 (Zv.ops [.row (l.map Note.pv),.row (lows.map PV.str)]) (.vals [.row ((splitR l lows).map rowN)]) := (pend_SplitO l lows hl hw).forget
def bestV (ps : List (List Note)) : Nat → Nat
 | 0 => 0
 | i + 1 => if (ps.getD (bestV ps i) []).length < (ps.getD i []).length then i else bestV ps i
theorem bestV_lt (ps : List (List Note)) : ∀ i,i ≤ ps.length → 0 < ps.length → bestV ps i < ps.length
 | 0,_,h => h
 | i + 1,h,h0 => by
  unfold bestV
  split
  ·omega
  ·exact bestV_lt ps i (by omega) h0
theorem bestV_le (ps : List (List Note)) : ∀ i,∀ j < i,(ps.getD j []).length ≤ (ps.getD (bestV ps i) []).length
 | 0,_,h => absurd h (by omega)
 | i + 1,j,h => by
  have ih := bestV_le ps i
  unfold bestV
  split
  ·rename_i hc
   by_cases hj : j = i
   ·subst hj; exact Nat.le_refl _
   ·exact Nat.le_of_lt (Nat.lt_of_le_of_lt (ih j (by omega)) hc)
  ·rename_i hc
   by_cases hj : j = i
   ·subst hj; omega
   ·exact ih j (by omega)
def mostV (l : List Note) (lows : List (List UInt8)) : Nat := bestV (splitR l lows) (splitR l lows).length
theorem getD_of {ps : List (List Note)} {i : Nat} {x : List Note} (h : ps[i]? = some x) : ps.getD i [] = x := by rw [List.getD_eq_getElem?_getD,h]; rfl
theorem splitR_len (l : List Note) (lows : List (List UInt8)) : (splitR l lows).length ≤ lows.length := by
 unfold splitR
 split
 ·rw [splitV_len]; exact Nat.le_refl _
 ·exact Nat.zero_le _
set_option maxRecDepth 10000 in
set_option maxHeartbeats 16000000 in
theorem pend_Most (l : List Note) (lows : List (List UInt8)) (hl : l.length ≤ 400000) (hw : lows.length ≤ 400000) : Ct Tryz.prog 178 (Zv.ops [.row (l.map Note.pv),.row (lows.map PV.str)]) (.vals [.int .i64 (mostV l lows)]) := by
 have c1 := pend_Split l lows hl hw
 have hsl := splitR_len l lows
 unfold mostV
 generalize splitR l lows = ps at *
 refine Ct.of_V Tryz.func178 rfl (by simp [Zv.ops,Tryz.f178]) ?_
 refine V.exec 400 ?_
 simp +contextual (maxSteps := 1000000) only [go_sem,↓reduceIte,reduceCtorEq,yA,yB,uA,uB,uC,uD,uE,uF,Tryz.f178]
 refine V.call rfl rfl (by simp [dOK]) ⟨149,[],by simp only [go_sem,↓reduceIte,reduceCtorEq,yA,yB,uA,uB,uC,uD,uE,uF],⟨_,rfl,rfl,rfl⟩,.inl ⟨[.row (l.map Note.pv),.row (lows.map PV.str)],_,.inl (by simp only [go_sem,↓reduceIte,reduceCtorEq,yA,yB,uA,uB,uC,uD,uE,uF]),c1,.inr (.inl ⟨_,rfl,rfl,rfl⟩)⟩⟩ ?_
 refine V.exec 400 ?_
 simp +contextual (maxSteps := 1000000) only [go_sem,↓reduceIte,reduceCtorEq,yA,yB,uA,uB,uC,uD,uE,uF]
 refine V.loop (fun m ls os => ∃ (i : Nat),i ≤ ps.length ∧ m = ps.length - i ∧
    ls = [(5,.val (.int .i64 (bestV ps i))),(6,.val (.row (ps.map rowN))),(12,.val (.row (ps.map rowN))),(13,.val (.int .i64 ps.length)),(14,.val (.int .i64 i))] ∧ os = []) 0 ps.length
   [(5,.val (.int .i64 0)),(6,.val (.row (ps.map rowN))),(12,.val (.row (ps.map rowN))),(13,.val (.int .i64 ps.length)),(14,.val (.int .i64 0))] [] []
   ⟨0,Nat.zero_le _,rfl,rfl,rfl⟩ (by simp only [go_sem,↓reduceIte,reduceCtorEq,yA,yB,uA,uB,uC,uD,uE,uF]) ?_
 rintro m ls os ⟨i,hi,rfl,rfl,rfl⟩
 refine V.exec 400 ?_
 by_cases hlt : i < ps.length
 ·have hlt' : (i : Int) < (ps.length : Int) := by omega
  obtain ⟨x,hx⟩ : ∃ x,ps[i]? = some x := ⟨_,List.getElem?_eq_getElem hlt⟩
  have hb := bestV_lt ps i (by omega) (by omega)
  obtain ⟨y,hy⟩ : ∃ y,ps[bestV ps i]? = some y := ⟨_,List.getElem?_eq_getElem hb⟩
  have hb' : ((bestV ps i : Nat) : Int) < (ps.length : Int) := by omega
  have hw : IntKind.i64.wrap ((i : Int) + 1) = ((i + 1 : Nat) : Int) := by rw [wrap_small3] <;> omega
  by_cases hc : y.length < x.length
  ·have hc' : (y.length : Int) < (x.length : Int) := by omega
   have hn : bestV ps (i + 1) = i := by rw [bestV,getD_of hx,getD_of hy,if_pos hc]
   simp +contextual (maxSteps := 1000000) only [go_sem,↓reduceIte,reduceCtorEq,yA,yB,uA,uB,uC,uD,uE,uF,hlt',hx,hy,hb',hw,rowN,hc']
   exact ⟨ps.length - (i + 1),_,[],[],by omega,⟨i + 1,by omega,rfl,rfl,rfl⟩,by simp only [go_sem,↓reduceIte,reduceCtorEq,yA,yB,uA,uB,uC,uD,uE,uF,hn]⟩
  ·have hc' : ¬ (y.length : Int) < (x.length : Int) := by omega
   have hn : bestV ps (i + 1) = bestV ps i := by rw [bestV,getD_of hx,getD_of hy,if_neg hc]
   simp +contextual (maxSteps := 1000000) only [go_sem,↓reduceIte,reduceCtorEq,yA,yB,uA,uB,uC,uD,uE,uF,hlt',hx,hy,hb',hw,rowN,hc']
   exact ⟨ps.length - (i + 1),_,[],[],by omega,⟨i + 1,by omega,rfl,rfl,rfl⟩,by simp only [go_sem,↓reduceIte,reduceCtorEq,yA,yB,uA,uB,uC,uD,uE,uF,hn]⟩
 ·have hlt' : ¬ (i : Int) < (ps.length : Int) := by omega
  obtain rfl : i = ps.length := by omega
  simp +contextual (maxSteps := 1000000) only [go_sem,↓reduceIte,reduceCtorEq,yA,yB,uA,uB,uC,uD,uE,uF,hlt']
def partsV : Nat → List Pair → List (List Pair)
 | 0,_ => []
 | p + 1,l => l.take ((l.length + p) / (p + 1)) :: partsV p (l.drop ((l.length + p) / (p + 1)))
def howMany (n m : Nat) : Nat := if 0 < n % m then n / m + 1 else n / m
def shareV (l : List Pair) (most : Int) : List (List Pair) := if most < 1 then [] else partsV (howMany l.length most.toNat) l
def rowP (l : List Pair) : PV := .row (l.map Pair.pv)
set_option maxRecDepth 10000 in
set_option maxHeartbeats 16000000 in
theorem leaf_Share (l : List Pair) (most : Int) (hl : l.length ≤ 400000) (h0 : most ≤ 9223372036854775807) : Ct Tryz.prog 173 (Zv.ops [.row (l.map Pair.pv),.int .i64 most]) (.vals [.row ((shareV l most).map rowP)]) := by
 have h2 : ∀ (l : List Pair),∀ x ∈ l.map Pair.pv,x.cells.length = 2 := fun l x hx => by
  obtain ⟨s,_,rfl⟩ := List.mem_map.1 hx
  rfl
 refine Ct.of_V Tryz.func173 rfl (by simp [Zv.ops,Tryz.f173]) ?_
 refine V.exec 400 ?_
 by_cases hm : most < 1
 ·have hv : shareV l most = [] := by simp [shareV,hm]
  simp +contextual (maxSteps := 1000000) only [go_sem,↓reduceIte,reduceCtorEq,yA,yB,uA,uB,uC,uD,uE,uF,Tryz.f173,hm,hv,List.map_nil]
 ·obtain ⟨k,rfl⟩ : ∃ k : Nat,most = (k : Int) := ⟨most.toNat,by omega⟩
  have hk : 0 < k := by omega
  have hk0 : ¬ (k : Int) = 0 := by omega
  have hv : shareV l k = partsV (howMany l.length k) l := by simp [shareV,hm]
  have hq : IntKind.i64.wrap ((l.length : Int).tdiv (k : Int)) = ((l.length / k : Nat) : Int) := by
   have e : (l.length : Int).tdiv (k : Int) = ((l.length / k : Nat) : Int) := rfl
   have : l.length / k ≤ l.length := Nat.div_le_self _ _
   rw [e]
   generalize l.length / k = c at *
   rw [wrap_small3] <;> omega
  have hr : (l.length : Int).tmod (k : Int) = ((l.length % k : Nat) : Int) := rfl
  have hw : IntKind.i64.wrap (((l.length / k : Nat) : Int) + 1) = ((l.length / k + 1 : Nat) : Int) := by
   have : l.length / k ≤ l.length := Nat.div_le_self _ _
   generalize l.length / k = c at *
   rw [wrap_small3] <;> omega
  rw [hv]
  simp +contextual (maxSteps := 1000000) only [go_sem,↓reduceIte,reduceCtorEq,yA,yB,uA,uB,uC,uD,uE,uF,Tryz.f173,hm,hk0,hq,hr,hw]
  have hpl : howMany l.length k ≤ l.length + 1 := by
   have : l.length / k ≤ l.length := Nat.div_le_self _ _
   unfold howMany; split <;> omega
  have loop : ∀ (n : Nat),n = howMany l.length k → True := fun _ _ => trivial
  by_cases hrem : 0 < l.length % k
  ·have hrem' : (0 : Int) < ((l.length % k : Nat) : Int) := by omega
   have hn : howMany l.length k = l.length / k + 1 := by simp [howMany,hrem]
   rw [hn] at hpl ⊢
   simp only [hrem',true_implies,not_true_eq_false,false_imp_iff,and_true]
   generalize l.length / k + 1 = P at *
   refine V.loop (fun m ls os => ∃ (p : Nat) (r : List Pair) (done : List (List Pair)),p ≤ l.length + 1 ∧ r.length ≤ l.length ∧ m = p ∧ done ++ partsV p r = partsV P l ∧ done.length + p ≤ l.length + 1 ∧
     ls = [(0,.val (.row (r.map Pair.pv))),(5,.ref 0),(6,.val (.int .i64 p))] ∧ os = [.row 32 (done.map rowP)]) 1 P
    [(0,.val (.row (l.map Pair.pv))),(5,.ref 0),(6,.val (.int .i64 P))] [.row 32 []] [none]
    ⟨P,l,[],hpl,Nat.le_refl _,rfl,rfl,by simpa using hpl,rfl,rfl⟩ (by simp only [go_sem,↓reduceIte,reduceCtorEq,yA,yB,uA,uB,uC,uD,uE,uF]; try decide) ?_
   rintro m ls os ⟨p,r,done,hp,hrl,hmp,hd,hdl,rfl,rfl⟩
   subst hmp
   refine V.exec 400 ?_
   cases m with
   | zero =>
    have h0 : ¬ (0 : Int) < ((0 : Nat) : Int) := by omega
    simp +contextual (maxSteps := 1000000) only [go_sem,↓reduceIte,reduceCtorEq,yA,yB,uA,uB,uC,uD,uE,uF,h0]
    simp [partsV] at hd
    rw [hd]
   | succ p =>
    have h0 : (0 : Int) < ((p + 1 : Nat) : Int) := by omega
    have hw1 : IntKind.i64.wrap ((r.length : Int) + ((p + 1 : Nat) : Int)) = ((r.length + (p + 1) : Nat) : Int) := by rw [wrap_small3] <;> omega
    have hw2 : IntKind.i64.wrap (((r.length + (p + 1) : Nat) : Int) - 1) = ((r.length + p : Nat) : Int) := by rw [wrap_small3] <;> omega
    have hw3 : IntKind.i64.wrap (((r.length + p : Nat) : Int).tdiv ((p + 1 : Nat) : Int)) = (((r.length + p) / (p + 1) : Nat) : Int) := by
     have e : ((r.length + p : Nat) : Int).tdiv ((p + 1 : Nat) : Int) = (((r.length + p) / (p + 1) : Nat) : Int) := rfl
     have : (r.length + p) / (p + 1) ≤ r.length + p := Nat.div_le_self _ _
     rw [e]
     generalize (r.length + p) / (p + 1) = c at *
     rw [wrap_small3] <;> omega
    have hw4 : IntKind.i64.wrap (((p + 1 : Nat) : Int) - 1) = (p : Int) := by rw [wrap_small3] <;> omega
    have hp0 : ¬ ((p + 1 : Nat) : Int) = 0 := by omega
    have hnl : (r.length + p) / (p + 1) ≤ r.length := by
     rw [Nat.div_le_iff_le_mul_add_pred (by omega)]
     have : r.length ≤ (p + 1) * r.length := Nat.le_mul_of_pos_left _ (by omega)
     omega
    have hcl := (ClonePair ((r.map Pair.pv).take ((r.length + p) / (p + 1))) (fun x hx => h2 r x (List.mem_of_mem_take hx)) (by simp; omega)).forget
    have hnl' : (((r.length + p) / (p + 1) : Nat) : Int) ≤ (r.length : Int) := by omega
    simp +contextual (maxSteps := 1000000) only [go_sem,↓reduceIte,reduceCtorEq,yA,yB,uA,uB,uC,uD,uE,uF,h0,hw1,hw2,hw3,hp0]
    refine ⟨by omega,?_⟩
    refine DV.call [] [] (by simp only [go_sem,↓reduceIte,reduceCtorEq,yA,yB,uA,uB,uC,uD,uE,uF]) (by simp [dOK]) ⟨114,[],by simp only [go_sem,↓reduceIte,reduceCtorEq,yA,yB,uA,uB,uC,uD,uE,uF],⟨_,rfl,rfl,rfl⟩,.inl ⟨[.row ((r.map Pair.pv).take ((r.length + p) / (p + 1)))],_,.inl (by simp only [go_sem,↓reduceIte,reduceCtorEq,yA,yB,uA,uB,uC,uD,uE,uF]),hcl,.inr (.inl ⟨_,rfl,rfl,rfl⟩)⟩⟩ (by simp only [go_sem,↓reduceIte,reduceCtorEq,yA,yB,uA,uB,uC,uD,uE,uF]) (by simp only [go_sem,↓reduceIte,reduceCtorEq,yA,yB,uA,uB,uC,uD,uE,uF]) (by simp only [go_sem,↓reduceIte,reduceCtorEq,yA,yB,uA,uB,uC,uD,uE,uF]) (by simp) ?_
    refine DV.exec 400 ?_
    simp +contextual (maxSteps := 1000000) only [go_sem,↓reduceIte,reduceCtorEq,yA,yB,uA,uB,uC,uD,uE,uF,hw4]
    refine ⟨⟨by omega,by omega⟩,⟨hnl',fun j _ => rfl⟩,by kernel_rfl,p,_,_,[some 17],by omega,⟨p,r.drop ((r.length + p) / (p + 1)),done ++ [r.take ((r.length + p) / (p + 1))],by omega,Nat.le_trans (by rw [List.length_drop]; exact Nat.sub_le _ _) hrl,rfl,?_,by rw [List.length_append,List.length_singleton]; omega,rfl,rfl⟩,?_⟩
    ·rw [← hd]; simp [partsV]
    ·simp only [go_sem,↓reduceIte,reduceCtorEq,yA,yB,uA,uB,uC,uD,uE,uF,List.map_append,List.map_cons,List.map_nil,rowP,List.map_take,List.map_drop]
     try decide
  ·have hrem' : ¬ (0 : Int) < ((l.length % k : Nat) : Int) := by omega
   have hn : howMany l.length k = l.length / k := by simp [howMany,hrem]
   rw [hn] at hpl ⊢
   simp only [hrem',false_imp_iff,not_false_eq_true,true_implies,true_and]
   generalize l.length / k = P at *
   refine V.loop (fun m ls os => ∃ (p : Nat) (r : List Pair) (done : List (List Pair)),p ≤ l.length + 1 ∧ r.length ≤ l.length ∧ m = p ∧ done ++ partsV p r = partsV P l ∧ done.length + p ≤ l.length + 1 ∧
     ls = [(0,.val (.row (r.map Pair.pv))),(5,.ref 0),(6,.val (.int .i64 p))] ∧ os = [.row 32 (done.map rowP)]) 1 P
    [(0,.val (.row (l.map Pair.pv))),(5,.ref 0),(6,.val (.int .i64 P))] [.row 32 []] [none]
    ⟨P,l,[],hpl,Nat.le_refl _,rfl,rfl,by simpa using hpl,rfl,rfl⟩ (by simp only [go_sem,↓reduceIte,reduceCtorEq,yA,yB,uA,uB,uC,uD,uE,uF]; try decide) ?_
   rintro m ls os ⟨p,r,done,hp,hrl,hmp,hd,hdl,rfl,rfl⟩
   subst hmp
   refine V.exec 400 ?_
   cases m with
   | zero =>
    have h0 : ¬ (0 : Int) < ((0 : Nat) : Int) := by omega
    simp +contextual (maxSteps := 1000000) only [go_sem,↓reduceIte,reduceCtorEq,yA,yB,uA,uB,uC,uD,uE,uF,h0]
    simp [partsV] at hd
    rw [hd]
   | succ p =>
    have h0 : (0 : Int) < ((p + 1 : Nat) : Int) := by omega
    have hw1 : IntKind.i64.wrap ((r.length : Int) + ((p + 1 : Nat) : Int)) = ((r.length + (p + 1) : Nat) : Int) := by rw [wrap_small3] <;> omega
    have hw2 : IntKind.i64.wrap (((r.length + (p + 1) : Nat) : Int) - 1) = ((r.length + p : Nat) : Int) := by rw [wrap_small3] <;> omega
    have hw3 : IntKind.i64.wrap (((r.length + p : Nat) : Int).tdiv ((p + 1 : Nat) : Int)) = (((r.length + p) / (p + 1) : Nat) : Int) := by
     have e : ((r.length + p : Nat) : Int).tdiv ((p + 1 : Nat) : Int) = (((r.length + p) / (p + 1) : Nat) : Int) := rfl
     have : (r.length + p) / (p + 1) ≤ r.length + p := Nat.div_le_self _ _
     rw [e]
     generalize (r.length + p) / (p + 1) = c at *
     rw [wrap_small3] <;> omega
    have hw4 : IntKind.i64.wrap (((p + 1 : Nat) : Int) - 1) = (p : Int) := by rw [wrap_small3] <;> omega
    have hp0 : ¬ ((p + 1 : Nat) : Int) = 0 := by omega
    have hnl : (r.length + p) / (p + 1) ≤ r.length := by
     rw [Nat.div_le_iff_le_mul_add_pred (by omega)]
     have : r.length ≤ (p + 1) * r.length := Nat.le_mul_of_pos_left _ (by omega)
     omega
    have hcl := (ClonePair ((r.map Pair.pv).take ((r.length + p) / (p + 1))) (fun x hx => h2 r x (List.mem_of_mem_take hx)) (by simp; omega)).forget
    have hnl' : (((r.length + p) / (p + 1) : Nat) : Int) ≤ (r.length : Int) := by omega
    simp +contextual (maxSteps := 1000000) only [go_sem,↓reduceIte,reduceCtorEq,yA,yB,uA,uB,uC,uD,uE,uF,h0,hw1,hw2,hw3,hp0]
    refine ⟨by omega,?_⟩
    refine DV.call [] [] (by simp only [go_sem,↓reduceIte,reduceCtorEq,yA,yB,uA,uB,uC,uD,uE,uF]) (by simp [dOK]) ⟨114,[],by simp only [go_sem,↓reduceIte,reduceCtorEq,yA,yB,uA,uB,uC,uD,uE,uF],⟨_,rfl,rfl,rfl⟩,.inl ⟨[.row ((r.map Pair.pv).take ((r.length + p) / (p + 1)))],_,.inl (by simp only [go_sem,↓reduceIte,reduceCtorEq,yA,yB,uA,uB,uC,uD,uE,uF]),hcl,.inr (.inl ⟨_,rfl,rfl,rfl⟩)⟩⟩ (by simp only [go_sem,↓reduceIte,reduceCtorEq,yA,yB,uA,uB,uC,uD,uE,uF]) (by simp only [go_sem,↓reduceIte,reduceCtorEq,yA,yB,uA,uB,uC,uD,uE,uF]) (by simp only [go_sem,↓reduceIte,reduceCtorEq,yA,yB,uA,uB,uC,uD,uE,uF]) (by simp) ?_
    refine DV.exec 400 ?_
    simp +contextual (maxSteps := 1000000) only [go_sem,↓reduceIte,reduceCtorEq,yA,yB,uA,uB,uC,uD,uE,uF,hw4]
    refine ⟨⟨by omega,by omega⟩,⟨hnl',fun j _ => rfl⟩,by kernel_rfl,p,_,_,[some 17],by omega,⟨p,r.drop ((r.length + p) / (p + 1)),done ++ [r.take ((r.length + p) / (p + 1))],by omega,Nat.le_trans (by rw [List.length_drop]; exact Nat.sub_le _ _) hrl,rfl,?_,by rw [List.length_append,List.length_singleton]; omega,rfl,rfl⟩,?_⟩
    ·rw [← hd]; simp [partsV]
    ·simp only [go_sem,↓reduceIte,reduceCtorEq,yA,yB,uA,uB,uC,uD,uE,uF,List.map_append,List.map_cons,List.map_nil,rowP,List.map_take,List.map_drop]
     try decide
theorem Note.inj (s t : Note) : (s.pv = t.pv) = (s = t) := by
 cases s; cases t
 simp [Note.pv]
def fewN (l : List Note) : Prop := l.length ≤ 60 ∧ ∀ p ∈ l,p.key.length ≤ 300 ∧ p.value.length ≤ 300
instance instFewN (l : List Note) : Decidable (fewN l) := by unfold fewN; infer_instance
theorem doneOne_key (st : List UInt8 × Bool) {x : Note} (h : x.kind = 1) : doneOne st x = (x.value,true) := by simp [doneOne,h]
theorem doneOne_del (st : List UInt8 × Bool) {x : Note} (h : x.kind = 2) : doneOne st x = ([],false) := by simp [doneOne,h]
def keyStep (k : List UInt8) (o : Option Note) (x : Note) : Option Note := if k = x.key then some (match o with | some w => bothV w x | none => x) else o
theorem pushV_get : ∀ (ns : List Note) {l : List Note},gSorted Note.key l → ∀ k,gGet Note.key (pushV l ns) k = ns.foldl (keyStep k) (gGet Note.key l k)
 | [],_,_,_ => rfl
 | x :: r,l,h,k => by
  show gGet Note.key (pushV (pushOne l x) r) k = _
  rw [pushV_get r (pushOne_sorted h x) k,pushOne_get h,List.foldl_cons]
  rfl
def nb (w : Note) : Ob := .box true [.val (.int .i64 w.kind),.val (.str w.key),.val (.str w.value),.val (.int .u64 w.n)]
theorem u64_eq (x : Int) : IntKind.u64.wrap x = x % 18446744073709551616 := by simp [IntKind.wrap,IntKind.bits,IntKind.signed]
theorem beN_foldl : ∀ (l : List UInt8) (a : Int),l.foldl (fun n b => n * 256 + (b.toNat : Int)) a = a * 256 ^ l.length + beN l
 | [],a => by simp [beN]
 | b :: l,a => by
  have h1 := beN_foldl l (a * 256 + (b.toNat : Int))
  have h2 := beN_foldl l (b.toNat : Int)
  have h3 : beN (b :: l) = l.foldl (fun n b => n * 256 + (b.toNat : Int)) (b.toNat : Int) := by simp [beN]
  rw [List.foldl_cons,h1,h3,h2,List.length_cons,Int.pow_succ,Int.add_mul,Int.mul_assoc,Int.mul_comm 256,Int.add_assoc]
theorem beN_cons (b : UInt8) (l : List UInt8) : beN (b :: l) = (b.toNat : Int) * 256 ^ l.length + beN l := by
 have := beN_foldl l (b.toNat : Int)
 rw [← this]; simp [beN]
theorem beN_beB : ∀ (k m : Nat),beN (beB (m : Int) k) = ((m % 256 ^ k : Nat) : Int)
 | 0,m => by simp [beB,beN,Nat.mod_one]
 | k + 1,m => by
  rw [beB_succ,beN_cons,beN_beB k m,beB_len]
  have e : ((m : Int) / 256 ^ k % 256) = ((m / 256 ^ k % 256 : Nat) : Int) := by
   rw [Int.natCast_emod,Int.natCast_ediv,Int.natCast_pow]; rfl
  have h : (UInt8.ofNat ((m : Int) / 256 ^ k % 256).toNat).toNat = m / 256 ^ k % 256 := by
   rw [e,Int.toNat_natCast,UInt8.toNat_ofNat']
   exact Nat.mod_eq_of_lt (Nat.mod_lt _ (by decide))
  rw [h,Nat.pow_succ,Nat.mod_mul,Int.natCast_add,Int.natCast_mul,Int.natCast_pow]
  rw [Int.mul_comm,Int.add_comm]; rfl
theorem numV_beB {w : Int} (h0 : 0 ≤ w) (h1 : w < 18446744073709551616) : numV (beB w 8) = w := by
 unfold numV
 rw [if_pos (beB_len _ _)]
 obtain ⟨m,rfl⟩ := Int.eq_ofNat_of_zero_le h0
 rw [beN_beB]
 have : m < 256 ^ 8 := by
  have e : (256 : Nat) ^ 8 = 18446744073709551616 := by decide
  omega
 rw [Nat.mod_eq_of_lt this]
theorem numV_wrap (x : Int) : numV (beB (IntKind.u64.wrap x) 8) = IntKind.u64.wrap x := numV_beB (u64_wrap_nonneg x) (u64_wrap_lt x)
def okO (o : Option Note) : Prop := ∀ w,o = some w → w.ok
theorem keyStep_ok (k : List UInt8) {o : Option Note} (ho : okO o) {x : Note} (hx : x.ok) : okO (keyStep k o x) := by
 unfold keyStep
 split
 ·intro w hw
  cases o with
  | none => cases hw; exact hx
  | some v => cases hw; exact bothV_ok (ho v rfl) hx
 ·exact ho
theorem fold_other (k : List UInt8) : ∀ (ns : List Note) (o : Option Note),(∀ x ∈ ns,¬ k = x.key) → ns.foldl (keyStep k) o = o
 | [],_,_ => rfl
 | x :: r,o,h => by
  rw [List.foldl_cons]
  have : keyStep k o x = o := by unfold keyStep; rw [if_neg (h x List.mem_cons_self)]
  rw [this]
  exact fold_other k r o fun y hy => h y (List.mem_cons_of_mem _ hy)
theorem fold_sorted (k : List UInt8) : ∀ (ns : List Note),gSorted Note.key ns → ns.foldl (keyStep k) none = gGet Note.key ns k
 | [],_ => rfl
 | x :: r,h => by
  cases h with
  | cons h1 h2 =>
   rw [List.foldl_cons]
   unfold gGet
   rw [List.find?_cons]
   by_cases hk : k = x.key
   ·have e : keyStep k none x = some x := by unfold keyStep; rw [if_pos hk]
    rw [e,fold_other k r _ (fun y hy e2 => by
     have := h1 y hy
     rw [← hk,← e2] at this
     exact slt_irrefl _ this)]
    simp [hk]
   ·have e : keyStep k none x = none := by unfold keyStep; rw [if_neg hk]
    rw [e,fold_sorted k r h2]
    have hd : decide (x.key = k) = false := decide_eq_false (fun e => hk e.symm)
    rw [hd]; rfl
theorem allOk_app {a b : List Note} : allOk (a ++ b) ↔ allOk a ∧ allOk b := by
 unfold allOk
 simp only [List.mem_append]
 exact ⟨fun h => ⟨fun x hx => h x (.inl hx),fun x hx => h x (.inr hx)⟩,fun h x hx => hx.elim (h.1 x) (h.2 x)⟩
theorem risesFrom_iff : ∀ (l : List (List UInt8)) (last : Option (List UInt8)),risesFrom last l ↔ (∀ k,last = some k → ∀ s ∈ l,slt k s) ∧ l.Pairwise slt
 | [],last => by simp [risesFrom]
 | s :: r,last => by
  rw [risesFrom,risesFrom_iff r,List.pairwise_cons]
  constructor
  ·rintro ⟨h1,h2,h3⟩
   refine ⟨fun k hk x hx => ?_,fun x hx => h2 _ rfl x hx,h3⟩
   rcases List.mem_cons.1 hx with rfl | hx
   ·exact h1 k hk
   ·exact slt_trans (h1 k hk) (h2 _ rfl x hx)
  ·rintro ⟨h1,h2,h3⟩
   exact ⟨fun k hk => h1 k hk s List.mem_cons_self,fun k hk x hx => by cases hk; exact h2 x hx,h3⟩
theorem risesOk_iff (l : List (List UInt8)) : risesOk l ↔ l.Pairwise slt := by
 unfold risesOk; rw [risesFrom_iff]; simp
theorem stepO_both (o : Option (List UInt8)) {a b : Note} (ha : a.ok) (hb : b.ok) : stepO (stepO o a) b = stepO o (bothV a b) := by
 obtain ⟨_,_,ka⟩ := ha
 obtain ⟨_,_,kb⟩ := hb
 have d1 : ¬ (3 : Int) = 1 := by decide
 have d2 : ¬ (3 : Int) = 2 := by decide
 have d3 : ¬ (2 : Int) = 1 := by decide
 rcases kb with kb | kb | kb
 ·have e : bothV a b = b := by simp [bothV,kb.1]
  rw [e,stepO_put _ kb.1,stepO_put _ kb.1]
 ·have e : bothV a b = b := by simp [bothV,kb.1]
  rw [e,stepO_del _ kb.1,stepO_del _ kb.1]
 ·rcases ka with ka | ka | ka
  ·have e : bothV a b = ⟨1,b.key,(doneOne (a.value,true) b).1,0⟩ := by simp [bothV,kb.1,ka.1]
   have e2 : stepO o ⟨1,b.key,(doneOne (a.value,true) b).1,0⟩ = some (doneOne (a.value,true) b).1 := stepO_put o rfl
   rw [e,e2,stepO_put _ ka.1]
   simp [stepO,doneOne,kb.1]
  ·have e : bothV a b = ⟨1,b.key,(doneOne ([],false) b).1,0⟩ := by simp [bothV,kb.1,ka.1]
   have e2 : stepO o ⟨1,b.key,(doneOne ([],false) b).1,0⟩ = some (doneOne ([],false) b).1 := stepO_put o rfl
   rw [e,e2,stepO_del _ ka.1]
   simp [stepO,doneOne,kb.1]
  ·have e : bothV a b = { b with n := IntKind.u64.wrap (b.n + a.n) } := by simp [bothV,kb.1,ka.1]
   rw [e]
   have hw : ∀ u : Int,IntKind.u64.wrap (IntKind.u64.wrap (u + a.n) + b.n) = IntKind.u64.wrap (u + IntKind.u64.wrap (b.n + a.n)) := fun u => by
    simp only [u64_eq]; omega
   cases o with
   | none => simp [stepO,doneOne,kb.1,ka.1,numV_wrap,hw]
   | some v => simp [stepO,doneOne,kb.1,ka.1,numV_wrap,hw]
def actO (o : Option (List UInt8)) : Option Note → Option (List UInt8)
 | none => o
 | some w => stepO o w
def valF (k : List UInt8) (o : Option (List UInt8)) (x : Note) : Option (List UInt8) := if k = x.key then stepO o x else o
theorem valF_act (k : List UInt8) (o : Option (List UInt8)) {p : Option Note} (hp : okO p) {x : Note} (hx : x.ok) : valF k (actO o p) x = actO o (keyStep k p x) := by
 unfold valF keyStep
 by_cases h : k = x.key
 ·rw [if_pos h,if_pos h]
  cases p with
  | none => rfl
  | some w => exact stepO_both o (hp w rfl) hx
 ·rw [if_neg h,if_neg h]
theorem fold_act (k : List UInt8) (o : Option (List UInt8)) : ∀ (ns : List Note) {p : Option Note},okO p → allOk ns → ns.foldl (valF k) (actO o p) = actO o (ns.foldl (keyStep k) p)
 | [],_,_,_ => rfl
 | x :: r,p,hp,hn => by
  have hx := hn x List.mem_cons_self
  rw [List.foldl_cons,List.foldl_cons,valF_act k o hp hx]
  exact fold_act k o r (keyStep_ok k hp hx) fun y hy => hn y (List.mem_cons_of_mem _ hy)
theorem app_act {l : List Pair} (hs : Sorted l) {ns : List Note} (hn : allOk ns) (k : List UInt8) : val (appV l ns) k = actO (val l k) (ns.foldl (keyStep k) none) := by
 rw [appV_val ns hs k]
 exact fold_act k (val l k) ns (p := none) (fun w h => by cases h) hn
theorem push_does {p : List Pair} (hp : Sorted p) {l more : List Note} (hl : waitOk l) (hm : allOk more) : appV p (pushV l more) = appV p (l ++ more) := by
 have hl' := (waitOk_iff l).1 hl
 have hw := (waitOk_iff _).1 (pushV_ok more hl hm)
 refine val_ext (appV_sorted _ hp) (appV_sorted _ hp) fun k => ?_
 rw [app_act hp hw.2,app_act hp (allOk_app.2 ⟨hl'.2,hm⟩),fold_sorted k _ hw.1,pushV_get more hl'.1 k,List.foldl_append,fold_sorted k l hl'.1]
inductive Nd where
 | mk (low : List UInt8) (kids : List Nd) (wait : List Note) (pairs : List Pair)
def Nd.low : Nd → List UInt8 | .mk l _ _ _ => l
def Nd.kids : Nd → List Nd | .mk _ k _ _ => k
def Nd.wait : Nd → List Note | .mk _ _ w _ => w
def Nd.pairs : Nd → List Pair | .mk _ _ _ p => p
mutual
def Nd.pv : Nd → PV
 | .mk l ks w p => .ptr (.agg [.str l,.row (Nd.pvs ks),.row (w.map Note.pv),.row (p.map Pair.pv)])
def Nd.pvs : List Nd → List PV
 | [] => []
 | k :: ks => k.pv :: Nd.pvs ks
end
theorem Nd.pvs_eq : ∀ ks : List Nd,Nd.pvs ks = ks.map Nd.pv
 | [] => rfl
 | k :: ks => by rw [Nd.pvs,Nd.pvs_eq ks]; rfl
theorem Nd.pv_eq (n : Nd) : n.pv = .ptr (.agg [.str n.low,.row (n.kids.map Nd.pv),.row (n.wait.map Note.pv),.row (n.pairs.map Pair.pv)]) := by
 cases n with
 | mk l ks w p => rw [Nd.pv,Nd.pvs_eq]; rfl
mutual
def Nd.all : Nd → List Pair
 | .mk _ ks w p => (applyV (p ++ Nd.alls ks) w).1
def Nd.alls : List Nd → List Pair
 | [] => []
 | k :: ks => k.all ++ Nd.alls ks
end
mutual
def Nd.mass : Nd → Nat
 | .mk _ ks w _ => w.length + (if ks.isEmpty then 1 else 0) + Nd.masss ks
def Nd.masss : List Nd → Nat
 | [] => 0
 | k :: ks => k.mass + Nd.masss ks
end
theorem alls_app : ∀ (a b : List Nd),Nd.alls (a ++ b) = Nd.alls a ++ Nd.alls b
 | [],b => rfl
 | k :: a,b => by rw [List.cons_append,Nd.alls,alls_app a b,Nd.alls,List.append_assoc]
theorem masss_app : ∀ (a b : List Nd),Nd.masss (a ++ b) = Nd.masss a + Nd.masss b
 | [],b => by simp [Nd.masss]
 | k :: a,b => by rw [List.cons_append,Nd.masss,masss_app a b,Nd.masss]; omega
mutual
theorem mass_pos : ∀ n : Nd,0 < n.mass
 | .mk lo ks w p => by
  rw [Nd.mass]
  have := masss_len ks
  cases ks with
  | nil => simp; omega
  | cons k ks => simp at this ⊢; omega
theorem masss_len : ∀ ks : List Nd,ks.length ≤ Nd.masss ks
 | [] => Nat.le_refl _
 | k :: ks => by
  have h1 := mass_pos k
  have h2 := masss_len ks
  rw [Nd.masss,List.length_cons]; omega
end
def gparts {α : Type} : Nat → List α → List (List α)
 | 0,_ => []
 | p + 1,l => l.take ((l.length + p) / (p + 1)) :: gparts p (l.drop ((l.length + p) / (p + 1)))
def headLow : List Nd → List UInt8
 | [] => []
 | k :: _ => k.low
def setLow (lo : List UInt8) : Nd → Nd
 | .mk _ ks w p => .mk lo ks w p
def mkParts : List (List UInt8) → List (List Nd) → List (List Note) → List Nd
 | lo :: los,g :: gs,ws => .mk lo g (ws.headD []) [] :: mkParts los gs ws.tail
 | _,_,_ => []
def partLows (lo : List UInt8) : List (List Nd) → List (List UInt8)
 | [] => []
 | _ :: r => lo :: r.map headLow
def groups (ks : List Nd) : List (List Nd) := gparts ((ks.length + 3) / 4) ks
def partsN (lo : List UInt8) (ks : List Nd) (w : List Note) : List Nd :=
 mkParts (partLows lo (groups ks)) (groups ks) (splitR w (partLows lo (groups ks)))
def fixMore (more ks : List Nd) (i : Nat) : List Nd × List Nd :=
 match more with
 | _ :: _ => (more,ks)
 | [] => if ks.length = 1 then ([.mk (headLow ks) [] [] []],ks) else if i = 0 then ([],match ks with | a :: b :: r => a :: setLow a.low b :: r | l => l) else ([],ks)
def spliceN (more ks : List Nd) (i : Nat) : List Nd := (fixMore more ks i).2.take i ++ (fixMore more ks i).1 ++ (fixMore more ks i).2.drop (i + 1)
def flushN (putf : Nd → List Note → List Nd) (ks : List Nd) (w : List Note) : List Nd × List Note :=
 (spliceN (putf (ks.getD (mostV w (ks.map Nd.low)) (.mk [] [] [] [])) ((splitR w (ks.map Nd.low)).getD (mostV w (ks.map Nd.low)) [])) ks (mostV w (ks.map Nd.low)),
  ((splitR w (ks.map Nd.low)).set (mostV w (ks.map Nd.low)) []).flatten)
def drainN (putf : Nd → List Note → List Nd) : Nat → List Nd → List Note → List Nd × List Note
 | 0,ks,w => (ks,w)
 | f + 1,ks,w => if 6 < w.length then drainN putf f (flushN putf ks w).1 (flushN putf ks w).2 else (ks,w)
def headKey : List Pair → List UInt8
 | [] => []
 | p :: _ => p.key
def leafOf (q : List Pair) : Nd := .mk (headKey q) [] [] q
def leavesN (lo : List UInt8) (l : List Pair) : List Nd :=
 match shareV l 4 with
 | [] => []
 | p :: r => .mk lo [] [] p :: r.map leafOf
def putN : Nat → Nd → List Note → List Nd
 | 0,n,ns => leavesN n.low (applyV n.pairs ns).1
 | h + 1,n,ns => if n.kids.isEmpty = true then leavesN n.low (applyV n.pairs ns).1 else
   partsN n.low (drainN (putN h) (pushR n.wait ns).1.length n.kids (pushR n.wait ns).1).1 (drainN (putN h) (pushR n.wait ns).1.length n.kids (pushR n.wait ns).1).2
def In (lo : List UInt8) (hi : Option (List UInt8)) (k : List UInt8) : Prop := ¬ slt k lo ∧ ∀ b,hi = some b → slt k b
theorem lt_ge {x y b : List UInt8} (h : slt x b) (g : ¬ slt y b) : slt x y := by
 rcases slt_total y b with h1 | h1 | h1
 ·exact absurd h1 g
 ·rw [h1]; exact h
 ·exact slt_trans h h1
theorem ge_lt {x y z : List UInt8} (e : slt x z) (h : ¬ slt x y) : slt y z := by
 rcases slt_total x y with h1 | h1 | h1
 ·exact absurd h1 h
 ·rw [← h1]; exact e
 ·exact slt_trans h1 e
theorem ge_trans {x y z : List UInt8} (h : ¬ slt x y) (g : ¬ slt y z) : ¬ slt x z := fun e => g (ge_lt e h)
theorem ge_of_lt {x y : List UInt8} (h : slt x y) : ¬ slt y x := slt_asymm h
def nextLow : List Nd → Option (List UInt8) → Option (List UInt8)
 | [],hi => hi
 | k :: _,_ => some k.low
def Seg (R : Option (List UInt8) → Nd → Prop) : List Nd → Option (List UInt8) → Prop
 | [],_ => True
 | k :: ks,hi => R (nextLow ks hi) k ∧ Seg R ks hi
theorem nextLow_app (a b : List Nd) (hi : Option (List UInt8)) : nextLow (a ++ b) hi = nextLow a (nextLow b hi) := by cases a <;> rfl
theorem seg_app {R : Option (List UInt8) → Nd → Prop} : ∀ (a b : List Nd) (hi : Option (List UInt8)),Seg R (a ++ b) hi ↔ Seg R a (nextLow b hi) ∧ Seg R b hi
 | [],b,hi => by simp [Seg]
 | k :: a,b,hi => by simp only [List.cons_append,Seg,seg_app a b hi,nextLow_app,and_assoc]
def Full (h : Nat) (ks : List Nd) : Prop := h = 0 → 1 < ks.length → ∀ k ∈ ks,k.pairs ≠ []
def Gap (lo : List UInt8) (hi : Option (List UInt8)) : Prop := ∀ b,hi = some b → slt lo b
def WF : Nat → Option (List UInt8) → Nd → Prop
 | 0,hi,n => n.kids = [] ∧ n.wait = [] ∧ n.pairs.length ≤ 4 ∧ pairsOk n.pairs ∧ (∀ x ∈ n.pairs,In n.low hi x.key) ∧ Gap n.low hi
 | h + 1,hi,n => n.pairs = [] ∧ n.wait.length ≤ 6 ∧ waitOk n.wait ∧ (∀ x ∈ n.wait,In n.low hi x.key) ∧ n.kids.length ≤ 4 ∧ nextLow n.kids none = some n.low ∧ Seg (WF h) n.kids hi ∧ Full h n.kids ∧ Gap n.low hi
theorem WF.gap {h : Nat} {hi : Option (List UInt8)} {n : Nd} (w : WF h hi n) : Gap n.low hi := by
 cases h with
 | zero => exact w.2.2.2.2.2
 | succ h => exact w.2.2.2.2.2.2.2.2
theorem seg_gap {h : Nat} : ∀ (ks : List Nd) (hi : Option (List UInt8)),Seg (WF h) ks hi → ∀ k ∈ ks,Gap k.low hi
 | k :: ks,hi,hs,x,hx => by
  have h1 := hs.1.gap
  rcases List.mem_cons.1 hx with rfl | hx
  ·cases ks with
   | nil => exact h1
   | cons y ys =>
    intro b hb
    exact slt_trans (h1 _ rfl) (seg_gap (y :: ys) hi hs.2 y List.mem_cons_self b hb)
  ·exact seg_gap ks hi hs.2 x hx
theorem seg_above {h : Nat} : ∀ (ks : List Nd) (hi : Option (List UInt8)) (k : Nd),Seg (WF h) (k :: ks) hi → ∀ x ∈ ks,slt k.low x.low
 | y :: ys,hi,k,hs,x,hx => by
  have h1 : slt k.low y.low := hs.1.gap _ rfl
  rcases List.mem_cons.1 hx with rfl | hx
  ·exact h1
  ·exact slt_trans h1 (seg_above ys hi y hs.2 x hx)
theorem seg_rises {h : Nat} : ∀ (ks : List Nd) (hi : Option (List UInt8)),Seg (WF h) ks hi → (ks.map Nd.low).Pairwise slt
 | [],_,_ => .nil
 | k :: ks,hi,hs => .cons (fun s hs' => by
   obtain ⟨x,hx,rfl⟩ := List.mem_map.1 hs'
   exact seg_above ks hi k hs x hx) (seg_rises ks hi hs.2)
theorem val_app_l {A B : List Pair} {k : List UInt8} (hB : ∀ p ∈ B,slt k p.key) : val (A ++ B) k = val A k := by
 have h2 : B.find? (fun p => decide (p.key = k)) = none := List.find?_eq_none.2 fun p hp => by
  have := hB p hp
  intro e
  rw [decide_eq_true_eq] at e
  rw [e] at this
  exact slt_irrefl k this
 unfold val getL
 rw [List.find?_append,h2,Option.or_none]
theorem val_app_r {A B : List Pair} {k : List UInt8} (hA : ∀ p ∈ A,slt p.key k) : val (A ++ B) k = val B k := by
 have h2 : A.find? (fun p => decide (p.key = k)) = none := List.find?_eq_none.2 fun p hp => by
  have := hA p hp
  intro e
  rw [decide_eq_true_eq] at e
  rw [e] at this
  exact slt_irrefl k this
 unfold val getL
 rw [List.find?_append,h2,Option.none_or]
theorem filter_none {α : Type} {p : α → Bool} {l : List α} (h : ∀ x ∈ l,p x = false) : l.filter p = [] := List.filter_eq_nil_iff.2 fun x hx => by rw [h x hx]; simp
theorem filter_all {α : Type} {p : α → Bool} {l : List α} (h : ∀ x ∈ l,p x = true) : l.filter p = l := List.filter_eq_self.2 h
theorem oneV_l {A B : List Pair} {x : Note} (hB : ∀ p ∈ B,slt x.key p.key) : oneV (A ++ B) x = oneV A x ++ B := by
 have h1 : lowP (A ++ B) x.key = lowP A x.key := by
  unfold lowP
  rw [List.filter_append,filter_none (l := B) fun p hp => by simpa using slt_asymm (hB p hp),List.append_nil]
 have h2 : highP (A ++ B) x.key = highP A x.key ++ B := by
  unfold highP
  rw [List.filter_append,filter_all (l := B) fun p hp => by simpa using hB p hp]
 unfold oneV mids
 rw [h1,h2,val_app_l hB]
 simp only [List.append_assoc]
theorem oneV_r {A B : List Pair} {x : Note} (hA : ∀ p ∈ A,slt p.key x.key) : oneV (A ++ B) x = A ++ oneV B x := by
 have h1 : lowP (A ++ B) x.key = A ++ lowP B x.key := by
  unfold lowP
  rw [List.filter_append,filter_all (l := A) fun p hp => by simpa using hA p hp]
 have h2 : highP (A ++ B) x.key = highP B x.key := by
  unfold highP
  rw [List.filter_append,filter_none (l := A) fun p hp => by simpa using slt_asymm (hA p hp),List.nil_append]
 unfold oneV mids
 rw [h1,h2,val_app_r hA]
 simp only [List.append_assoc]
theorem oneV_key {l : List Pair} {x : Note} {p : Pair} (h : p ∈ oneV l x) : p ∈ l ∨ p.key = x.key := by
 unfold oneV at h
 rcases List.mem_append.1 h with h | h
 ·rcases List.mem_append.1 h with h | h
  ·exact .inl (List.mem_filter.1 h).1
  ·unfold mids at h
   split at h
   ·simp at h; rw [h]; exact .inr rfl
   ·cases h
 ·exact .inl (List.mem_filter.1 h).1
theorem appV_key : ∀ (ns : List Note) {l : List Pair} {p : Pair},p ∈ appV l ns → p ∈ l ∨ ∃ x ∈ ns,p.key = x.key
 | [],l,p,h => .inl h
 | x :: ns,l,p,h => by
  rcases appV_key ns (l := oneV l x) h with h | ⟨y,hy,e⟩
  ·rcases oneV_key h with h | h
   ·exact .inl h
   ·exact .inr ⟨x,List.mem_cons_self,h⟩
  ·exact .inr ⟨y,List.mem_cons_of_mem _ hy,e⟩
theorem appV_l : ∀ (ns : List Note) {A B : List Pair},(∀ x ∈ ns,∀ p ∈ B,slt x.key p.key) → appV (A ++ B) ns = appV A ns ++ B
 | [],A,B,_ => rfl
 | x :: ns,A,B,h => by
  show appV (oneV (A ++ B) x) ns = appV (oneV A x) ns ++ B
  rw [oneV_l (h x List.mem_cons_self)]
  exact appV_l ns fun y hy => h y (List.mem_cons_of_mem _ hy)
theorem appV_r : ∀ (ns : List Note) {A B : List Pair},(∀ x ∈ ns,∀ p ∈ A,slt p.key x.key) → appV (A ++ B) ns = A ++ appV B ns
 | [],A,B,_ => rfl
 | x :: ns,A,B,h => by
  show appV (oneV (A ++ B) x) ns = A ++ appV (oneV B x) ns
  rw [oneV_r (h x List.mem_cons_self)]
  exact appV_r ns fun y hy => h y (List.mem_cons_of_mem _ hy)
theorem appV_cut {A B : List Pair} {wa wb : List Note} {b : List UInt8} (h1 : ∀ p ∈ A,slt p.key b) (h2 : ∀ x ∈ wa,slt x.key b) (h3 : ∀ p ∈ B,¬ slt p.key b) (h4 : ∀ x ∈ wb,¬ slt x.key b) :
  appV (A ++ B) (wa ++ wb) = appV A wa ++ appV B wb := by
 rw [appV_app,appV_l wa fun x hx p hp => lt_ge (h2 x hx) (h3 p hp),appV_r wb fun x hx p hp => ?_]
 rcases appV_key wa hp with hp | ⟨y,hy,e⟩
 ·exact lt_ge (h1 p hp) (h4 x hx)
 ·rw [e]; exact lt_ge (h2 y hy) (h4 x hx)
theorem pairsOk_app {A B : List Pair} (hA : pairsOk A) (hB : pairsOk B) (h : ∀ p ∈ A,∀ q ∈ B,slt p.key q.key) : pairsOk (A ++ B) := by
 rw [pairsOk_iff] at *
 exact ⟨List.pairwise_append.2 ⟨hA.1,hB.1,h⟩,fun p hp => (List.mem_append.1 hp).elim (hA.2 p) (hB.2 p)⟩
theorem pairsOk_nil : pairsOk [] := (pairsOk_iff []).2 ⟨.nil,fun p hp => by cases hp⟩
def AllIn (n : Nd) (hi : Option (List UInt8)) : Prop := pairsOk n.all ∧ ∀ x ∈ n.all,In n.low hi x.key
theorem seg_all' {h : Nat} (ih : ∀ hi n,WF h hi n → AllIn n hi) : ∀ (ks : List Nd) (hi : Option (List UInt8)),Seg (WF h) ks hi → pairsOk (Nd.alls ks) ∧ ∀ x ∈ Nd.alls ks,In (headLow ks) hi x.key
 | [],hi,_ => ⟨pairsOk_nil,fun x hx => by cases hx⟩
 | k :: ks,hi,hs => by
  obtain ⟨a1,a2⟩ := ih _ k hs.1
  obtain ⟨b1,b2⟩ := seg_all' ih ks hi hs.2
  have hg := seg_gap (k :: ks) hi hs
  refine ⟨pairsOk_app a1 b1 fun p hp q hq => ?_,fun x hx => ?_⟩
  ·cases ks with
   | nil => cases hq
   | cons y ys => exact lt_ge ((a2 p hp).2 y.low rfl) (b2 q hq).1
  ·rw [Nd.alls] at hx
   rcases List.mem_append.1 hx with h1 | h1
   ·refine ⟨(a2 x h1).1,fun b hb => ?_⟩
    cases ks with
    | nil => exact (a2 x h1).2 b hb
    | cons y ys => exact slt_trans ((a2 x h1).2 _ rfl) (hg y (List.mem_cons_of_mem _ List.mem_cons_self) b hb)
   ·refine ⟨?_,(b2 x h1).2⟩
    cases ks with
    | nil => cases h1
    | cons y ys => exact ge_trans (b2 x h1).1 (ge_of_lt (hs.1.gap y.low rfl))
theorem Nd.all_eq (n : Nd) : n.all = (applyV (n.pairs ++ Nd.alls n.kids) n.wait).1 := by
 cases n; rw [Nd.all]; rfl
theorem WF.all : ∀ (h : Nat) (hi : Option (List UInt8)) (n : Nd),WF h hi n → AllIn n hi
 | 0,hi,n,w => by
  obtain ⟨h1,h2,h3,h4,h5,h6⟩ := w
  have e : n.all = n.pairs := by
   rw [Nd.all_eq,h1,h2,Nd.alls,List.append_nil,applyV_ok h4 (fun x hx => by cases hx)]; rfl
  unfold AllIn
  rw [e]
  exact ⟨h4,h5⟩
 | h + 1,hi,n,w => by
  obtain ⟨h1,h2,h3,h4,h5,h6,h7,h8,h9⟩ := w
  obtain ⟨a1,a2⟩ := seg_all' (WF.all h) n.kids hi h7
  have hw := (waitOk_iff _).1 h3
  have e : n.all = appV (Nd.alls n.kids) n.wait := by rw [Nd.all_eq,h1,List.nil_append,applyV_ok a1 hw.2]
  have hl : headLow n.kids = n.low := by
   cases hk : n.kids with
   | nil => rw [hk] at h6; cases h6
   | cons k ks => rw [hk] at h6; exact Option.some.inj h6
  unfold AllIn
  rw [e]
  refine ⟨appV_ok _ a1 hw.2,fun x hx => ?_⟩
  rcases appV_key _ hx with hx | ⟨y,hy,ey⟩
  ·have := a2 x hx; rw [hl] at this; exact this
  ·rw [ey]; exact h4 y hy
theorem seg_all {h : Nat} (ks : List Nd) (hi : Option (List UInt8)) (hs : Seg (WF h) ks hi) : pairsOk (Nd.alls ks) ∧ ∀ x ∈ Nd.alls ks,In (headLow ks) hi x.key := seg_all' (WF.all h) ks hi hs
theorem WF.all_leaf {hi : Option (List UInt8)} {n : Nd} (w : WF 0 hi n) : n.all = n.pairs := by
 obtain ⟨h1,h2,h3,h4,h5,h6⟩ := w
 rw [Nd.all_eq,h1,h2,Nd.alls,List.append_nil,applyV_ok h4 (fun x hx => by cases hx)]; rfl
theorem WF.all_node {h : Nat} {hi : Option (List UInt8)} {n : Nd} (w : WF (h + 1) hi n) : n.all = appV (Nd.alls n.kids) n.wait := by
 obtain ⟨h1,h2,h3,h4,h5,h6,h7,h8,h9⟩ := w
 rw [Nd.all_eq,h1,List.nil_append,applyV_ok (seg_all n.kids hi h7).1 ((waitOk_iff _).1 h3).2]
end Go.Proofs.YtfemlllmglaimaaGreat
