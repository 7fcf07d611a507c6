/- A part of a proof: functions of the program, walked. -/
import Derived.Test.YtfemlllmglaimaaGreatGG
set_option linter.unusedVariables false
set_option linter.unusedSimpArgs false
set_option maxRecDepth 8000
namespace Go.Proofs.YtfemlllmglaimaaGreat
open Go Go.Proofs Go.Proofs.Zv Go.Proofs.YtfemlllmglaimaaGreat.Ty
open Nat renaming reduceAdd → uA, reduceLT → uB, reduceEqDiff → uC, reduceLeDiff → uD, reduceSub → uE, reduceMul → uF
open Bool renaming false_eq_true → yA, true_eq_false → yB
theorem back_go {L P : List Pair} {t : List Change} (h : pairsOk L) (hb : backGo L t = some P) : doGo P t = some L := by
 have := doGo_undo _ h hb
 have e : (t.reverse.map turnC).reverse.map turnC = t := by
  rw [← List.map_reverse,List.reverse_reverse,List.map_map]
  have : (turnC ∘ turnC) = id := by funext c; rfl
  rw [this,List.map_id]
 rwa [e] at this
theorem trail_after : ∀ (l : List Change) (o : Option Int) (i : Nat) (x : Change),trailFrom o l → l[i]? = some x → ∀ y ∈ l.drop (i + 1),x.seq < y.seq
 | [],_,_,_,_,h,_,_ => by simp at h
 | c :: r,o,0,x,ht,h,y,hy => by
  simp only [List.getElem?_cons_zero,Option.some.injEq] at h
  subst h
  exact trailFrom_gt r _ ht.2.2 y (by simpa using hy)
 | c :: r,o,i + 1,x,ht,h,y,hy => by
  rw [List.getElem?_cons_succ] at h
  exact trail_after r _ i x ht.2.2 h y (by simpa using hy)
structure Fol (r : Range) (k : KSt) (got : List Pair) (s : Sub) (P : List Pair) : Prop where
 ok : k.ok
 hd : ∃ rest,k.S = s :: rest
 id : s.id = 1
 rg : s.r = r
 back : backGo k.L (dropV k.T s.cur) = some P
 got : got = pickV r P
 dead : s.live = false → P = [] ∧ s.next = []
def mu (k : KSt) (s : Sub) : Nat := (if s.live = true then 0 else 1) + (dropV k.T s.cur).length
theorem Fol.mem {r : Range} {k : KSt} {got : List Pair} {s : Sub} {P : List Pair} (f : Fol r k got s P) : s ∈ k.S := by
 obtain ⟨rest,e⟩ := f.hd
 rw [e]; exact List.mem_cons_self
theorem Fol.muB {r : Range} {k : KSt} {got : List Pair} {s : Sub} {P : List Pair} (f : Fol r k got s P) : mu k s ≤ 61 := by
 have h1 := dropV_len k.T s.cur
 have h2 := f.ok.lens.2.1
 unfold mu
 split <;> omega
theorem Fol.sub {r : Range} {k : KSt} {got : List Pair} {s : Sub} {P : List Pair} (f : Fol r k got s P) : s.ok ∧ findL k.S 1 = some s ∧ k.floor ≤ s.cur ∧ s.cur ≤ k.seq ∧ pairsOk P ∧ P.length ≤ 120 := by
 have hm := f.mem
 obtain ⟨h1,h2⟩ := f.ok.2.2.2.2.2.2.2.2.2.1 s hm
 refine ⟨rightFrom_ok _ 0 f.ok.2.2.1.1 s hm,?_,h1,h2,backGo_ok f.ok.1 f.back,?_⟩
 ·obtain ⟨rest,e⟩ := f.hd
  rw [e]
  unfold findL
  rw [List.find?_cons,f.id]
  simp
 ·have h3 := backGo_len f.ok.1 f.back
  have h4 := dropV_len k.T s.cur
  obtain ⟨h5,h6,_⟩ := f.ok.lens
  omega
theorem addV_head {s x : Sub} {rest : List Sub} (h : s.id = 1) : ∃ q,(addV (s :: rest) x).1 = s :: q := by
 unfold addV
 split
 ·split
  ·exact ⟨rest,rfl⟩
  ·have hg : 1 ≤ gapAt 0 (s :: rest) := by
    unfold gapAt
    rw [if_pos (by rw [h]; rfl)]
    exact gapAt_ge rest 1
   obtain ⟨m,hm⟩ : ∃ m,gapAt 0 (s :: rest) = m + 1 := ⟨gapAt 0 (s :: rest) - 1,by omega⟩
   rw [hm]
   exact ⟨_,by simp only [List.take_succ_cons,List.cons_append,List.drop_succ_cons]; rfl⟩
 ·exact ⟨rest,rfl⟩
theorem Fol.join {r : Range} {k : KSt} {got : List Pair} {s : Sub} {P : List Pair} (f : Fol r k got s P) {x : Sub} (hx : k.floor ≤ x.cur ∧ x.cur ≤ k.seq) : Fol r (joinV2 k x).1 got s P := by
 have hok := join_ok f.ok hx
 obtain ⟨rest,e⟩ := f.hd
 obtain ⟨_,_,w1,w2,w3,w4⟩ := with_err k (addV k.S x).1 (addV k.S x).2.1 (addV k.S x).2.2
 have hS : ∃ q,(joinV2 k x).1.S = s :: q := by
  unfold joinV2 withV
  split
  ·rw [e]; exact addV_head f.id
  ·exact ⟨rest,e⟩
 have h1 : (joinV2 k x).1.L = k.L := w1
 have h2 : (joinV2 k x).1.T = k.T := w2
 exact ⟨hok,hS,f.id,f.rg,by rw [h1,h2]; exact f.back,f.got,f.dead⟩
theorem Fol.cmd {r : Range} {k : KSt} {got : List Pair} {s : Sub} {P : List Pair} (f : Fol r k got s P) (c : Cmd) (hc : c.d = 1 ∨ c.d = 5 ∨ c.d = 6 ∨ c.d = 11) : Fol r (doK k c).1 got s P := by
 have hok := doK_ok f.ok c
 obtain ⟨_,_,c1,c2,_,_⟩ := f.sub
 rcases hc with hc | hc | hc | hc
 ·have hv : doK k c = writeV k c := by unfold doK; rw [if_pos hc]
  rw [hv] at hok ⊢
  by_cases hr : (runV k.L k.seq c.ns).2.2 = 0
  ·have w := wrote f.ok hr
   by_cases hb : 60 < (runV k.L k.seq c.ns).2.1.length ∨ 60 < k.T.length + (runV k.L k.seq c.ns).1.length
   ·have : writeV k c = (k,Tell.bad 5) := by unfold writeV; rw [if_pos hr,if_pos hb]
    rw [this]; exact f
   ·have hw : writeV k c = (⟨(runV k.L k.seq c.ns).2.1,k.T ++ (runV k.L k.seq c.ns).1,k.S,k.seq + ((runV k.L k.seq c.ns).1.length : Int),k.floor⟩,Tell.num (k.seq + ((runV k.L k.seq c.ns).1.length : Int))) := by unfold writeV; rw [if_pos hr,if_neg hb]
    rw [hw] at hok ⊢
    refine ⟨hok,f.hd,f.id,f.rg,?_,f.got,f.dead⟩
    show backGo (runV k.L k.seq c.ns).2.1 (dropV (k.T ++ (runV k.L k.seq c.ns).1) s.cur) = some P
    have e : dropV (k.T ++ (runV k.L k.seq c.ns).1) s.cur = dropV k.T s.cur ++ (runV k.L k.seq c.ns).1 := by
     rw [dropV_ok w.trail,dropV_ok f.ok.2.1,List.filter_append]
     congr 1
     rw [List.filter_eq_self]
     intro x hx
     have := (w.seqs x hx).1
     simp; omega
    rw [e,backGo_app,w.back,Option.bind_some]
    exact f.back
  ·have : writeV k c = (k,Tell.bad (runV k.L k.seq c.ns).2.2) := by unfold writeV; rw [if_neg hr]
   rw [this]; exact f
 ·have hv : doK k c = joinV2 k ⟨0,c.r,false,[],k.seq⟩ := by simp [doK,hc]
  rw [hv]
  exact f.join ⟨f.ok.2.2.2.2.2.2.1,Int.le_refl _⟩
 ·have hv : doK k c = (if c.seq < k.floor then (k,Tell.bad 8) else if k.seq < c.seq then (k,Tell.bad 9) else joinV2 k ⟨0,c.r,true,[],c.seq⟩) := by simp [doK,hc]
  rw [hv]
  by_cases h1 : c.seq < k.floor
  ·rw [if_pos h1]; exact f
  ·rw [if_neg h1]
   by_cases h2 : k.seq < c.seq
   ·rw [if_pos h2]; exact f
   ·rw [if_neg h2]
    exact f.join ⟨by show k.floor ≤ c.seq; omega,by show c.seq ≤ k.seq; omega⟩
 ·have hv : doK k c = trimV k := by simp [doK,hc]
  rw [hv] at hok ⊢
  obtain ⟨f1,f2,f3⟩ := floor_in f.ok
  obtain ⟨_,_,hd⟩ := trim_facts f.ok
  exact ⟨hok,f.hd,f.id,f.rg,by rw [hd s.cur (f3 s f.mem)]; exact f.back,f.got,f.dead⟩
def pollC (n : Int) : Cmd := ⟨7,[],[],r0,1,0,n⟩
def tookC (n : Int) : Cmd := ⟨8,[],[],r0,1,0,n⟩
def ackC (q : Int) : Cmd := ⟨9,[],[],r0,1,q,0⟩
theorem set_head {s x : Sub} {rest : List Sub} (hs : subsOk (s :: rest)) (hx : x.ok) (h : s.id = 1) (hi : x.id = 1) : (setV (s :: rest) x).1 = x :: rest := by
 have hf : findL (s :: rest) x.id = some s := by
  unfold findL
  rw [List.find?_cons,hi,h]
  simp
 have hr : rank x.id (s :: rest) = 0 := by
  unfold rank
  rw [if_neg (by omega)]
 unfold setV
 rw [if_pos ⟨hs,hx⟩,hf,hr]
 rfl
theorem doV_nilK {l : List Pair} (h : pairsOk l) : doV l [] = (l,0) := doV_zero.2 ⟨h,rfl⟩
theorem applyV_nilK {l : List Pair} (h : pairsOk l) : applyV l [] = (l,0) := by
 unfold applyV
 rw [if_pos ⟨h,fun x hx => by simp at hx⟩]
 rfl
theorem Fol.dead_step {r : Range} {k : KSt} {got : List Pair} {s : Sub} {P : List Pair} (f : Fol r k got s P) (hl : s.live = false) {n : Int} (hn : 1 ≤ n) :
  doK k (pollC n) = (k,⟨0,0,false,[],Chunk.zero⟩) ∧ replayV got [Chunk.zero] = (got,0) ∧ ∃ k' s',doK k (tookC 0) = (k',Tell.num 0) ∧ Fol r k' got s' P ∧ mu k' s' + 1 ≤ mu k s := by
 obtain ⟨so,sf,c1,c2,po,_⟩ := f.sub
 obtain ⟨rfl,hnx⟩ := f.dead hl
 obtain ⟨P',b1,b2,b3,_⟩ := left_ok f.ok f.mem
 rw [f.back] at b1
 cases b1
 have hP : leftP s [] = [] := rfl
 rw [hP] at b2
 have hgot : got = [] := by rw [f.got]; rfl
 refine ⟨?_,?_,?_⟩
 ·have hv : doK k (pollC n) = (k,pollK k (pollC n)) := by simp [doK,pollC]
  rw [hv]
  unfold pollK
  have e1 : (pollC n).id = 1 := rfl
  have e2 : (pollC n).n = n := rfl
  have hp : pollV s k.L k.T k.floor n = (Chunk.zero,0) := by
   unfold pollV
   rw [if_pos ⟨so,hn⟩,b2]
   simp [hl,cutM,Chunk.zero]
  rw [e1,sf,e2]
  simp only [hp]
 ·rw [hgot]
  unfold replayV replayGo Chunk.zero
  simp only [List.map_nil,applyV_nilK pairsOk_nil,doV_nilK pairsOk_nil,if_true,replayGo]
 ·obtain ⟨_,t2⟩ := @took_cases s so hl k.L k.T k.floor 0 (by omega)
  obtain ⟨_,t3,_,_⟩ := t2 _ b2
  have ht := t3 rfl
  have hok' : Sub.ok { s with live := true,next := [] } := ⟨so.1,by simp,fun _ => rfl,so.2.2.2⟩
  obtain ⟨rest,e⟩ := f.hd
  have hso := f.ok.2.2.1
  have hv : doK k (tookC 0) = ({ k with S := (setV k.S { s with live := true,next := [] }).1 },Tell.num 0) := by
   have : doK k (tookC 0) = goesV k (tookC 0) := by simp [doK,tookC]
   rw [this]
   unfold goesV
   have e1 : (tookC 0).id = 1 := rfl
   rw [e1,sf]
   have e2 : (tookC 0).d = 8 := rfl
   have e3 : (tookC 0).n = 0 := rfl
   simp only [e2,e3,if_true,ht]
   unfold withV
   rw [if_pos rfl]
  have hok2 := doK_ok f.ok (tookC 0)
  rw [hv] at hok2
  refine ⟨_,{ s with live := true,next := [] },hv,⟨hok2,⟨rest,?_⟩,f.id,f.rg,f.back,f.got,fun h => by cases h⟩,?_⟩
  ·show (setV k.S _).1 = _
   rw [e]
   rw [e] at hso
   exact set_head hso hok' f.id f.id
  ·show (if true = true then 0 else 1) + (dropV k.T s.cur).length + 1 ≤ (if s.live = true then 0 else 1) + (dropV k.T s.cur).length
   rw [hl]
   simp; omega
theorem Fol.live_step {r : Range} {k : KSt} {got : List Pair} {s : Sub} {P : List Pair} (f : Fol r k got s P) (hl : s.live = true) {n : Int} (hn : 1 ≤ n) :
    ∃ cs more got',doK k (pollC n) = (k,⟨0,0,false,[],⟨[],cs,more⟩⟩) ∧ replayV got [⟨[],cs,more⟩] = (got',0) ∧ cs.length ≤ 100 ∧
      ((cs = [] ∧ got' = got ∧ pickV r k.L = got ∧ sinceA k.T s = [] ∧ doK k (tookC 0) = (k,Tell.bad 1)) ∨
       (∃ x,0 < cs.length ∧ cs[cs.length - 1]? = some x ∧ ∃ k' s' P',doK k (ackC x.seq) = (k',Tell.num 0) ∧ Fol r k' got' s' P' ∧ mu k' s' + 1 ≤ mu k s)) := by
  obtain ⟨so,sf,c1,c2,po,_⟩ := f.sub
  obtain ⟨P',b1,b2,b3,_⟩ := left_ok f.ok f.mem
  rw [f.back] at b1
  cases b1
  have hrg := f.rg
  subst hrg
  have hpo := pick_ok po s.r
  have hgo := back_go f.ok.1 f.back
  have htr := dropV_trail f.ok.2.1 s.cur
  have hsin : sinceA k.T s = (dropV k.T s.cur).filter fun c => decide (s.r.isIn c.key) := by
    unfold sinceA
    rw [dropV_ok f.ok.2.1,List.filter_filter]
    apply List.filter_congr
    intro x _
    by_cases h1 : s.cur < x.seq <;> by_cases h2 : s.r.isIn x.key <;> simp [h1,h2]
  have hdl := dropV_len k.T s.cur
  have hTl := f.ok.lens.2.1
  have hpoll : doK k (pollC n) = (k,⟨0,0,false,[],⟨[],(sinceA k.T s).take (cutM n (sinceA k.T s).length),decide (cutM n (sinceA k.T s).length < (sinceA k.T s).length)⟩⟩) := by
    have hv : doK k (pollC n) = (k,pollK k (pollC n)) := by simp [doK,pollC]
    rw [hv]
    unfold pollK
    have e1 : (pollC n).id = 1 := rfl
    have e2 : (pollC n).n = n := rfl
    have hp : pollV s k.L k.T k.floor n = (⟨[],(sinceA k.T s).take (cutM n (sinceA k.T s).length),decide (cutM n (sinceA k.T s).length < (sinceA k.T s).length)⟩,0) := by
      unfold pollV
      rw [if_pos ⟨so,hn⟩,b2]
      simp [hl]
    rw [e1,sf,e2]
    simp only [hp]
  have hback := f.back
  generalize hA : dropV k.T s.cur = A at *
  have hcl : cutM n (sinceA k.T s).length ≤ (sinceA k.T s).length := by unfold cutM; omega
  have hfl : (A.filter fun c => decide (s.r.isIn c.key)).length ≤ A.length := List.length_filter_le _ _
  by_cases h0 : (sinceA k.T s).length = 0
  · have hnil : sinceA k.T s = [] := List.eq_nil_of_length_eq_zero h0
    have hpg := pick_go s.r A po hgo
    rw [← hsin,hnil] at hpg
    simp only [doGo,Option.some.injEq] at hpg
    have hg := f.got
    refine ⟨[],decide (cutM n (sinceA k.T s).length < (sinceA k.T s).length),got,?_,?_,by simp,.inl ⟨rfl,rfl,?_,hnil,?_⟩⟩
    · rw [hpoll,hnil,List.take_nil]
    · rw [hg]
      unfold replayV replayGo
      simp only [List.map_nil,applyV_nilK hpo,doV_nilK hpo,if_true,replayGo]
    · rw [hg,hpg]
    · have : doK k (tookC 0) = goesV k (tookC 0) := by simp [doK,tookC]
      rw [this]
      unfold goesV
      have e1 : (tookC 0).id = 1 := rfl
      rw [e1,sf]
      have e2 : (tookC 0).d = 8 := rfl
      have ht : tookV s k.L k.T k.floor (tookC 0).n = (s,1) := by
        unfold tookV
        rw [if_neg (fun h => by rw [hl] at h; exact absurd h.2.1 (by decide))]
      simp only [e2,if_true,ht]
      unfold withV
      rw [if_neg (by decide)]
  · have hcp : 0 < cutM n (sinceA k.T s).length := by unfold cutM; omega
    rw [hsin] at hcl hcp hpoll h0
    obtain ⟨jj,g1,g2,g3,x,g4,g5⟩ := take_filter (fun c => decide (s.r.isIn c.key)) A _ hcp hcl
    have htl : ((A.filter fun c => decide (s.r.isIn c.key)).take (cutM n (A.filter fun c => decide (s.r.isIn c.key)).length)).length = cutM n (A.filter fun c => decide (s.r.isIn c.key)).length := by rw [List.length_take]; omega
    have hsplit := hback
    rw [← List.take_append_drop jj A,backGo_app] at hsplit
    cases hq : backGo k.L (A.drop jj) with
    | none => rw [hq] at hsplit; cases hsplit
    | some Q =>
      rw [hq,Option.bind_some] at hsplit
      have hQ := backGo_ok f.ok.1 hq
      have hgo2 := back_go hQ hsplit
      have hpg := pick_go s.r _ po hgo2
      rw [← g3] at hpg
      have hdo : doV (pickV s.r P) ((A.filter fun c => decide (s.r.isIn c.key)).take (cutM n (A.filter fun c => decide (s.r.isIn c.key)).length)) = (pickV s.r Q,0) := doV_zero.2 ⟨hpo,hpg⟩
      have hxA : x ∈ A := List.mem_of_getElem? g4
      have hx1 : s.cur < x.seq := by
        rw [← hA,dropV_ok f.ok.2.1] at hxA
        simpa using (List.mem_filter.1 hxA).2
      have hx2 : x.seq ≤ k.seq := by
        rw [← hA,dropV_ok f.ok.2.1] at hxA
        exact (f.ok.2.2.2.2.2.2.2.2.1 x (List.mem_filter.1 hxA).1).2
      have hdrop : dropV k.T x.seq = A.drop jj := by
        rw [← dropV_drop f.ok.2.1 (show s.cur ≤ x.seq by omega),hA]
        refine dropV_at htr g2 (fun y hy => ?_) (fun y _ hy => by rw [g4] at hy; cases hy; exact Int.le_refl _)
        have := trail_after A none (jj - 1) x htr g4 y (by rw [show jj - 1 + 1 = jj by omega]; exact hy)
        exact this
      have hmx := f.ok.2.2.2.2.2.2.2.1
      have hcur0 := so.2.2.2.1
      have hok' : Sub.ok { s with cur := x.seq } := ⟨so.1,so.2.1,so.2.2.1,by show 0 ≤ x.seq; omega,by show x.seq ≤ 2147483647; omega⟩
      obtain ⟨rest,e⟩ := f.hd
      have hso := f.ok.2.2.1
      have hv : doK k (ackC x.seq) = ({ k with S := (setV k.S { s with cur := x.seq }).1 },Tell.num 0) := by
        have : doK k (ackC x.seq) = goesV k (ackC x.seq) := by simp [doK,ackC]
        rw [this]
        unfold goesV
        have e1 : (ackC x.seq).id = 1 := rfl
        rw [e1,sf]
        have e2 : ¬ (ackC x.seq).d = 8 := by simp [ackC]
        have ha : ackV s k.seq (ackC x.seq).seq = ({ s with cur := x.seq },0) := by
          show ackV s k.seq x.seq = _
          unfold ackV
          rw [if_pos ⟨so,hl,by omega⟩,if_neg (by omega)]
        simp only [e2,if_false,ha]
        unfold withV
        rw [if_pos rfl]
      have hok2 := doK_ok f.ok (ackC x.seq)
      rw [hv] at hok2
      refine ⟨_,_,pickV s.r Q,hpoll,?_,?_,.inr ⟨x,?_,?_,_,{ s with cur := x.seq },Q,hv,⟨hok2,⟨rest,?_⟩,f.id,rfl,?_,rfl,fun h => ?_⟩,?_⟩⟩
      · rw [f.got]
        unfold replayV replayGo
        simp only [List.map_nil,applyV_nilK hpo,hdo,if_true,replayGo]
      · rw [htl]; omega
      · rw [htl]; exact hcp
      · rw [htl]; exact g5
      · show (setV k.S _).1 = _
        rw [e]
        rw [e] at hso
        exact set_head hso hok' f.id f.id
      · show backGo k.L (dropV k.T x.seq) = some Q
        rw [hdrop]; exact hq
      · have : s.live = false := h
        rw [hl] at this; cases this
      · show (if s.live = true then 0 else 1) + (dropV k.T x.seq).length + 1 ≤ (if s.live = true then 0 else 1) + (dropV k.T s.cur).length
        rw [hdrop,hA,List.length_drop]
        omega
def subC (r : Range) : Cmd := ⟨5,[],[],r,0,0,0⟩
def S1 (r : Range) : KSt := ⟨[],[],[⟨1,r,false,[],0⟩],0,0⟩
theorem do_sub0 (r : Range) : doK KSt.zero (subC r) = if r.ok then (S1 r,Tell.num 1) else (KSt.zero,Tell.bad 1) := by
 have h1 : doK KSt.zero (subC r) = joinV2 KSt.zero ⟨0,r,false,[],0⟩ := by simp [doK,subC,KSt.zero]
 rw [h1]
 unfold joinV2 addV
 have h2 : (subsOk KSt.zero.S ∧ Sub.ok ⟨0,r,false,[],0⟩) ↔ r.ok := by
  constructor
  ·rintro ⟨_,h⟩; exact h.1
  ·intro h; exact ⟨zero_ok.2.2.1,h,by simp,fun h => by simp at h,by simp,by simp⟩
 by_cases hr : r.ok
 ·rw [if_pos hr,if_pos (h2.2 hr)]
  rfl
 ·rw [if_neg hr,if_neg (fun g => hr (h2.1 g))]
  rfl
theorem Fol.first {r : Range} (h : r.ok) : Fol r (S1 r) [] ⟨1,r,false,[],0⟩ [] := by
 have hk := doK_ok zero_ok (subC r)
 rw [do_sub0,if_pos h] at hk
 exact ⟨hk,⟨[],rfl⟩,rfl,rfl,rfl,rfl,fun _ => ⟨rfl,rfl⟩⟩
theorem since_nil {t : List Change} {s : Sub} {r : Range} (hr : s.r = r) (h : sinceA t s = []) (n : Int) : sinceV t s.cur n [r] = [] := by
 have hw : withoutV t (fun c => decide (c.seq ≤ s.cur ∨ ¬ (meetV [r]).isIn c.key)) = [] := by
  unfold withoutV
  split
  ·rw [List.filter_eq_nil_iff]
   intro x hx
   unfold sinceA at h
   rw [List.filter_eq_nil_iff] at h
   have := h x hx
   rw [hr] at this
   simp only [meet_one,decide_eq_true_eq,Bool.not_eq_true',decide_eq_false_iff_not] at this ⊢
   intro g
   exact this ⟨by omega,Classical.not_not.1 fun q => g (.inr q)⟩
  ·rfl
 unfold sinceV
 simp only [hw,List.take_nil]
theorem u8_rngF {a : Int} (w : (Lit.int .u8 a).wf = true) : 0 ≤ a ∧ a ≤ 255 := by
 simp only [Lit.wf,Bool.and_eq_true,decide_eq_true_eq] at w
 have e1 : IntKind.min .u8 = 0 := by decide
 have e2 : IntKind.max .u8 = 255 := by decide
 rw [e1,e2] at w
 exact w
set_option maxRecDepth 20000 in
set_option maxHeartbeats 32000000 in
theorem law_Follows (r : Range) (l : List Cmd) (hl : l.length ≤ maxLen) (most : Int) (hm0 : 0 ≤ most) (hm1 : most ≤ 255) : Ct Tryz.prog 11 (Zv.ops [r.pv,.row (l.map Cmd.pv),.int .u8 most]) (.vals [.bool true]) := by
 have hmax : maxLen = 9223372036854775807 := rfl
 rw [hmax] at hl
 have aw := law_awake
 have cf := law_Few l 30 hl (by decide)
 rw [show ((30 : Nat) : Int) = 30 from rfl] at cf
 obtain ⟨c,hc⟩ : ∃ c,min l.length 30 = c := ⟨_,rfl⟩
 have hnl : c ≤ l.length := by omega
 have hn30 : c ≤ 30 := by omega
 rw [hc] at cf
 have hmm : (-1 : Int) < 0 := by decide
 have h50 : ¬ (5 : Int) = 0 := by decide
 refine Ct.of_V Tryz.func11 rfl (by simp [Zv.ops,Tryz.f11]) ?_
 refine V.exec 400 ?_
 simp +contextual (maxSteps := 1000000) only [go_sem,↓reduceIte,reduceCtorEq,yA,yB,uA,uB,uC,uD,uE,uF,Tryz.f11,Range.pv]
 refine V.call rfl rfl (by simp [dOK]) ⟨12,[],by simp only [go_sem,↓reduceIte,reduceCtorEq,yA,yB,uA,uB,uC,uD,uE,uF],⟨_,rfl,rfl,rfl⟩,.inl ⟨[.row (l.map Cmd.pv),.int .i64 30],_,.inl (by simp only [go_sem,↓reduceIte,reduceCtorEq,yA,yB,uA,uB,uC,uD,uE,uF]),cf,.inl ⟨_,rfl,rfl,rfl,rfl⟩⟩⟩ ?_
 by_cases hf : fewK l c
 ·have hn0 : ¬ (c : Int) < 0 := by omega
  by_cases h1 : 300 < r.lo.length
  ·have h1' : (300 : Int) < (r.lo.length : Int) := by omega
   refine V.exec 400 ?_
   simp +contextual (maxSteps := 1000000) only [go_sem,↓reduceIte,reduceCtorEq,yA,yB,uA,uB,uC,uD,uE,uF,hf,hn0,h1']
   refine V.call rfl rfl (by simp [dOK]) ⟨13,[],by simp only [go_sem,↓reduceIte,reduceCtorEq,yA,yB,uA,uB,uC,uD,uE,uF],⟨_,rfl,rfl,rfl⟩,.inl ⟨[],_,.inl (by simp only [go_sem,↓reduceIte,reduceCtorEq,yA,yB,uA,uB,uC,uD,uE,uF]),aw,.inl ⟨_,rfl,rfl,rfl,rfl⟩⟩⟩ ?_
   refine V.exec 400 ?_
   simp +contextual (maxSteps := 1000000) only [go_sem,↓reduceIte,reduceCtorEq,yA,yB,uA,uB,uC,uD,uE,uF]
  have h1' : ¬ (300 : Int) < (r.lo.length : Int) := by omega
  by_cases h2 : 300 < r.hi.length
  ·have h2' : (300 : Int) < (r.hi.length : Int) := by omega
   refine V.exec 400 ?_
   simp +contextual (maxSteps := 1000000) only [go_sem,↓reduceIte,reduceCtorEq,yA,yB,uA,uB,uC,uD,uE,uF,hf,hn0,h1',h2']
   refine V.call rfl rfl (by simp [dOK]) ⟨13,[],by simp only [go_sem,↓reduceIte,reduceCtorEq,yA,yB,uA,uB,uC,uD,uE,uF],⟨_,rfl,rfl,rfl⟩,.inl ⟨[],_,.inl (by simp only [go_sem,↓reduceIte,reduceCtorEq,yA,yB,uA,uB,uC,uD,uE,uF]),aw,.inl ⟨_,rfl,rfl,rfl,rfl⟩⟩⟩ ?_
   refine V.exec 400 ?_
   simp +contextual (maxSteps := 1000000) only [go_sem,↓reduceIte,reduceCtorEq,yA,yB,uA,uB,uC,uD,uE,uF]
  have h2' : ¬ (300 : Int) < (r.hi.length : Int) := by omega
  have bsub : (subC r).pv = .agg [.int .i64 5,.row [],.str [],.str r.lo,.str r.hi,.bool (decide (r.op = true)),.int .i64 0,.int .i64 0,.int .i64 0] := rfl
  have bpoll : ∀ n : Int,(pollC n).pv = .agg [.int .i64 7,.row [],.str [],.str [],.str [],.bool false,.int .i64 1,.int .i64 0,.int .i64 n] := fun _ => rfl
  have btook : (tookC 0).pv = .agg [.int .i64 8,.row [],.str [],.str [],.str [],.bool false,.int .i64 1,.int .i64 0,.int .i64 ((0 : Nat) : Int)] := rfl
  have back : ∀ n : Int,(ackC n).pv = .agg [.int .i64 9,.row [],.str [],.str [],.str [],.bool false,.int .i64 1,.int .i64 n,.int .i64 0] := fun _ => rfl
  obtain ⟨u0,H0,cd0,g0⟩ := keeper_Do GoodT.empty (by omega) zero_ok (subC r) (by simp [subC])
  rw [do_sub0] at cd0 g0
  refine V.exec 400 ?_
  simp +contextual (maxSteps := 1000000) only [go_sem,↓reduceIte,reduceCtorEq,yA,yB,uA,uB,uC,uD,uE,uF,hf,hn0,h1',h2']
  by_cases hr : r.ok
  ·rw [if_pos hr] at cd0 g0
   simp only at cd0 g0
   refine V.call rfl rfl (by simp [dOK]) ⟨14,[],by simp only [go_sem,↓reduceIte,reduceCtorEq,yA,yB,uA,uB,uC,uD,uE,uF],⟨_,rfl,rfl,rfl⟩,.inl ⟨[storeX none KSt.zero,(subC r).pv],_,.inl (by simp only [go_sem,↓reduceIte,reduceCtorEq,yA,yB,uA,uB,uC,uD,uE,uF,storeX,KSt.zero,trX,List.map_nil,bsub]),cd0,.inr (.inl ⟨_,rfl,rfl,rfl⟩)⟩⟩ ?_
   refine V.exec 400 ?_
   have hm2 : 0 ≤ most.tmod 5 := Int.tmod_nonneg 5 hm0
   have hm3 : most.tmod 5 < 5 := Int.tmod_lt_of_pos most (by decide)
   obtain ⟨n,hn⟩ : ∃ n : Nat,(n : Int) = 1 + most.tmod 5 := ⟨(1 + most.tmod 5).toNat,by omega⟩
   have hwa : IntKind.i64.wrap (most.tmod 5) = most.tmod 5 := by rw [wrap_small3] <;> omega
   have hwb : IntKind.i64.wrap (1 + most.tmod 5) = (n : Int) := by rw [wrap_small3] <;> omega
   simp +contextual (maxSteps := 1000000) only [go_sem,↓reduceIte,reduceCtorEq,yA,yB,uA,uB,uC,uD,uE,uF,storeX,trX_cells,trX_agg,Tell.num,Tell.pv,Chunk.zero]
   refine V.loop (fun m ls os => ∃ (i : Nat) (k : KSt) (u : Tr) (H : Nat) (got : List Pair) (s : Sub) (P : List Pair),m = 400 - i ∧ i ≤ 399 ∧ (i ≤ c ∨ i + mu k s ≤ c + 61) ∧ Fol r k got s P ∧ GoodT u k.L H (9 + 24 * i) ∧
     ls = [(1,.val (.row (l.map Cmd.pv))),(2,.val (.int .u8 most)),(3,.adr 0 0),(7,.val (.int .i64 c)),(8,.adr 1 0),(9,.adr 2 0),(10,.val (.row (got.map Pair.pv))),(55,.val (.int .i64 i))] ∧
     os = [.box true [.val (.str r.lo),.val (.str r.hi),.val (.bool (decide (r.op = true)))],sbox u k,rbox (Tell.num 1)]) 3 400
    [(1,.val (.row (l.map Cmd.pv))),(2,.val (.int .u8 most)),(3,.adr 0 0),(7,.val (.int .i64 c)),(8,.adr 1 0),(9,.adr 2 0),(10,.val (.row [])),(55,.val (.int .i64 0))]
    [.box true [.val (.str r.lo),.val (.str r.hi),.val (.bool (decide (r.op = true)))],sbox u0 (S1 r),rbox (Tell.num 1)]
    [some 3,some 29,some 30]
    ⟨0,S1 r,u0,H0,[],_,[],rfl,by omega,.inl (Nat.zero_le _),Fol.first hr,g0,rfl,rfl⟩ (by simp only [go_sem,↓reduceIte,reduceCtorEq,yA,yB,uA,uB,uC,uD,uE,uF,sbox,rbox,trX_agg,Tell.num,Chunk.zero]; try decide) ?_
   rintro m ls os ⟨i,k,u,H,got,s,P,rfl,hi,hmu,fo,gd,rfl,rfl⟩
   have hi400 : (i : Int) < 400 := by omega
   have hgotl : ∀ {k : KSt} {got : List Pair} {s : Sub} {P : List Pair},Fol r k got s P → got.length ≤ 120 := fun f => by
    rw [f.got]
    have h1 := pickV_len r
    have h2 := f.sub.2.2.2.2.2
    exact Nat.le_trans (List.length_filter_le _ _) h2
   apply V.join (n := 218) (fun a : KSt × Tr × Nat => litSt [(1,.val (.row (l.map Cmd.pv))),(2,.val (.int .u8 most)),(3,.adr 0 0),(7,.val (.int .i64 c)),(8,.adr 1 0),(9,.adr 2 0),(10,.val (.row (got.map Pair.pv))),(11,.val (.int .i64 i)),(55,.val (.int .i64 i))] [.box true [.val (.str r.lo),.val (.str r.hi),.val (.bool (decide (r.op = true)))],sbox a.2.1 a.1,rbox (Tell.num 1)] 3) (fun a => Fol r a.1 got s P ∧ GoodT a.2.1 a.1.L a.2.2 (9 + 24 * i + 8) ∧ (i < c ∨ (c ≤ i ∧ i + mu a.1 s ≤ c + 61)))
   case main =>
    intro rest
    refine V.execS [16] 400 ?_
    by_cases hlt : i < c
    ·have hlt' : (i : Int) < (c : Int) := by omega
     obtain ⟨x,hx⟩ : ∃ x,l[i]? = some x := ⟨_,List.getElem?_eq_getElem (by omega)⟩
     obtain ⟨ux,Hx,cx,gx⟩ := keeper_Do gd (by omega) fo.ok x (slim_len hf x (List.mem_of_getElem? (i := i) (by rw [List.getElem?_take_of_lt hlt,hx])))
     by_cases d1 : x.d = 1
     ·have e1 := eq_true d1
      simp +contextual (maxSteps := 1000000) only [go_sem,↓reduceIte,reduceCtorEq,yA,yB,uA,uB,uC,uD,uE,uF,hi400,hlt',hx,Cmd.pv,sbox,trX_agg,trX_cells,e1]
      refine V.call rfl rfl (by simp [dOK]) ⟨14,[],by simp only [go_sem,↓reduceIte,reduceCtorEq,yA,yB,uA,uB,uC,uD,uE,uF],⟨_,rfl,rfl,rfl⟩,.inl ⟨[storeX u k,x.pv],_,.inl (by simp only [go_sem,↓reduceIte,reduceCtorEq,yA,yB,uA,uB,uC,uD,uE,uF,storeX,Cmd.pv]),cx,.inr (.inl ⟨_,rfl,rfl,rfl⟩)⟩⟩ ?_
      refine V.execS [16] 400 ?_
      simp +contextual (maxSteps := 1000000) only [go_sem,↓reduceIte,reduceCtorEq,yA,yB,uA,uB,uC,uD,uE,uF,storeX,trX_cells,trX_agg]
      refine V.cut 3 _ _ [some 0,some 1,some 2] ?_ (rest ((doK k x).1,ux,Hx) ⟨fo.cmd x (.inl d1),gx,.inl (by omega)⟩)
      simp only [go_sem,↓reduceIte,reduceCtorEq,yA,yB,uA,uB,uC,uD,uE,uF,sbox,rbox,trX_agg]; try decide
     by_cases d2 : x.d = 11
     ·have e2 := eq_true d2
      simp +contextual (maxSteps := 1000000) only [go_sem,↓reduceIte,reduceCtorEq,yA,yB,uA,uB,uC,uD,uE,uF,hi400,hlt',hx,Cmd.pv,sbox,trX_agg,trX_cells,d1,e2]
      refine V.call rfl rfl (by simp [dOK]) ⟨14,[],by simp only [go_sem,↓reduceIte,reduceCtorEq,yA,yB,uA,uB,uC,uD,uE,uF],⟨_,rfl,rfl,rfl⟩,.inl ⟨[storeX u k,x.pv],_,.inl (by simp only [go_sem,↓reduceIte,reduceCtorEq,yA,yB,uA,uB,uC,uD,uE,uF,storeX,Cmd.pv]),cx,.inr (.inl ⟨_,rfl,rfl,rfl⟩)⟩⟩ ?_
      refine V.execS [16] 400 ?_
      simp +contextual (maxSteps := 1000000) only [go_sem,↓reduceIte,reduceCtorEq,yA,yB,uA,uB,uC,uD,uE,uF,storeX,trX_cells,trX_agg]
      refine V.cut 3 _ _ [some 0,some 1,some 2] ?_ (rest ((doK k x).1,ux,Hx) ⟨fo.cmd x (.inr (.inr (.inr d2))),gx,.inl (by omega)⟩)
      simp only [go_sem,↓reduceIte,reduceCtorEq,yA,yB,uA,uB,uC,uD,uE,uF,sbox,rbox,trX_agg]; try decide
     by_cases d3 : x.d = 5
     ·have e3 := eq_true d3
      simp +contextual (maxSteps := 1000000) only [go_sem,↓reduceIte,reduceCtorEq,yA,yB,uA,uB,uC,uD,uE,uF,hi400,hlt',hx,Cmd.pv,sbox,trX_agg,trX_cells,d1,d2,e3]
      refine V.call rfl rfl (by simp [dOK]) ⟨14,[],by simp only [go_sem,↓reduceIte,reduceCtorEq,yA,yB,uA,uB,uC,uD,uE,uF],⟨_,rfl,rfl,rfl⟩,.inl ⟨[storeX u k,x.pv],_,.inl (by simp only [go_sem,↓reduceIte,reduceCtorEq,yA,yB,uA,uB,uC,uD,uE,uF,storeX,Cmd.pv]),cx,.inr (.inl ⟨_,rfl,rfl,rfl⟩)⟩⟩ ?_
      refine V.execS [16] 400 ?_
      simp +contextual (maxSteps := 1000000) only [go_sem,↓reduceIte,reduceCtorEq,yA,yB,uA,uB,uC,uD,uE,uF,storeX,trX_cells,trX_agg]
      refine V.cut 3 _ _ [some 0,some 1,some 2] ?_ (rest ((doK k x).1,ux,Hx) ⟨fo.cmd x (.inr (.inl d3)),gx,.inl (by omega)⟩)
      simp only [go_sem,↓reduceIte,reduceCtorEq,yA,yB,uA,uB,uC,uD,uE,uF,sbox,rbox,trX_agg]; try decide
     by_cases d4 : x.d = 6
     ·have e4 := eq_true d4
      simp +contextual (maxSteps := 1000000) only [go_sem,↓reduceIte,reduceCtorEq,yA,yB,uA,uB,uC,uD,uE,uF,hi400,hlt',hx,Cmd.pv,sbox,trX_agg,trX_cells,d1,d2,d3,e4]
      refine V.call rfl rfl (by simp [dOK]) ⟨14,[],by simp only [go_sem,↓reduceIte,reduceCtorEq,yA,yB,uA,uB,uC,uD,uE,uF],⟨_,rfl,rfl,rfl⟩,.inl ⟨[storeX u k,x.pv],_,.inl (by simp only [go_sem,↓reduceIte,reduceCtorEq,yA,yB,uA,uB,uC,uD,uE,uF,storeX,Cmd.pv]),cx,.inr (.inl ⟨_,rfl,rfl,rfl⟩)⟩⟩ ?_
      refine V.execS [16] 400 ?_
      simp +contextual (maxSteps := 1000000) only [go_sem,↓reduceIte,reduceCtorEq,yA,yB,uA,uB,uC,uD,uE,uF,storeX,trX_cells,trX_agg]
      refine V.cut 3 _ _ [some 0,some 1,some 2] ?_ (rest ((doK k x).1,ux,Hx) ⟨fo.cmd x (.inr (.inr (.inl d4))),gx,.inl (by omega)⟩)
      simp only [go_sem,↓reduceIte,reduceCtorEq,yA,yB,uA,uB,uC,uD,uE,uF,sbox,rbox,trX_agg]; try decide
     simp +contextual (maxSteps := 1000000) only [go_sem,↓reduceIte,reduceCtorEq,yA,yB,uA,uB,uC,uD,uE,uF,hi400,hlt',hx,Cmd.pv,sbox,trX_agg,trX_cells,d1,d2,d3,d4]
     refine V.call rfl rfl (by simp [dOK]) ⟨13,[],by simp only [go_sem,↓reduceIte,reduceCtorEq,yA,yB,uA,uB,uC,uD,uE,uF],⟨_,rfl,rfl,rfl⟩,.inl ⟨[],_,.inl (by simp only [go_sem,↓reduceIte,reduceCtorEq,yA,yB,uA,uB,uC,uD,uE,uF]),aw,.inl ⟨_,rfl,rfl,rfl,rfl⟩⟩⟩ ?_
     refine V.exec 400 ?_
     simp +contextual (maxSteps := 1000000) only [go_sem,↓reduceIte,reduceCtorEq,yA,yB,uA,uB,uC,uD,uE,uF]
    ·have hlt' : ¬ (i : Int) < (c : Int) := by omega
     have hb := fo.muB
     simp +contextual (maxSteps := 1000000) only [go_sem,↓reduceIte,reduceCtorEq,yA,yB,uA,uB,uC,uD,uE,uF,hi400,hlt']
     refine V.cut 3 _ _ [some 0,some 1,some 2] ?_ (rest (k,u,H) ⟨fo,gd.mono (Nat.le_refl _) (by omega),.inr ⟨by omega,by show i + mu k s ≤ c + 61; omega⟩⟩)
     simp only [go_sem,↓reduceIte,reduceCtorEq,yA,yB,uA,uB,uC,uD,uE,uF,sbox,rbox,trX_agg]; try decide
   case rest =>
    rintro ⟨K,U,HH⟩ ⟨f1,g1,hc1⟩
    simp only at f1 g1 hc1
    have hn1 : 1 ≤ (n : Int) := by omega
    have hgl := hgotl f1
    have hwi : IntKind.i64.wrap ((i : Int) + 1) = ((i + 1 : Nat) : Int) := by rw [wrap_small3] <;> omega
    obtain ⟨hL0,hT0,hS0⟩ := f1.ok.lens
    obtain ⟨u1,H1,cp,g2⟩ := keeper_Do g1 (by omega) f1.ok (pollC n) (by simp [pollC])
    have hx0 : K.S[Int.toNat 0]? = some s := by
     obtain ⟨rs,hS⟩ := f1.hd
     rw [hS]; rfl
    have hS1 : ¬ (K.S.length : Int) = 0 := by
     obtain ⟨rs,hS⟩ := f1.hd
     rw [hS,List.length_cons]; omega
    have hS2 : (0 : Int) < (K.S.length : Int) := by omega
    have h00 : (0 : Int) ≤ 0 := Int.le_refl 0
    have hn00 : ¬ (0 : Int) < ((0 : Nat) : Int) := by decide
    have hw0 : IntKind.i64.wrap (((0 : Nat) : Int) + ((0 : Nat) : Int)) = 0 := by decide
    by_cases hl : s.live = true
    ·obtain ⟨cs,more,got',hp,hrep,hcs,hcase⟩ := f1.live_step hl hn1
     rw [hp] at cp g2
     simp only at cp g2
     have crp := feed_Replay got [⟨[],cs,more⟩] (by omega) (by simp) (fun x hx => by
      rw [List.mem_singleton] at hx
      subst hx
      exact ⟨Nat.zero_le _,by show cs.length ≤ 1000; omega⟩)
     rw [hrep] at crp
     simp only [List.map_cons,List.map_nil] at crp
     have sh := keeper_Show g2 (by omega) (by omega) (by omega)
     have hwc : IntKind.i64.wrap (((0 : Nat) : Int) + (cs.length : Int)) = (cs.length : Int) := by rw [wrap_small3] <;> omega
     refine V.exec 400 ?_
     simp +contextual (maxSteps := 1000000) only [go_sem,↓reduceIte,reduceCtorEq,yA,yB,uA,uB,uC,uD,uE,uF,hwa,hwb,sbox,rbox,trX_agg,trX_cells,Tell.num]
     refine ⟨h50,?_⟩
     refine V.call rfl rfl (by simp [dOK]) ⟨14,[],by simp only [go_sem,↓reduceIte,reduceCtorEq,yA,yB,uA,uB,uC,uD,uE,uF],⟨_,rfl,rfl,rfl⟩,.inl ⟨[storeX U K,(pollC n).pv],_,.inl (by simp only [go_sem,↓reduceIte,reduceCtorEq,yA,yB,uA,uB,uC,uD,uE,uF,storeX,bpoll]),cp,.inr (.inl ⟨_,rfl,rfl,rfl⟩)⟩⟩ ?_
     refine V.exec 400 ?_
     simp +contextual (maxSteps := 1000000) only [go_sem,↓reduceIte,reduceCtorEq,yA,yB,uA,uB,uC,uD,uE,uF,storeX,trX_agg,trX_cells,Tell.pv,Chunk.zero]
     refine V.call rfl rfl (by simp [dOK]) ⟨28,[],by simp only [go_sem,↓reduceIte,reduceCtorEq,yA,yB,uA,uB,uC,uD,uE,uF],⟨_,rfl,rfl,rfl⟩,.inl ⟨[.row (got.map Pair.pv),.row [Chunk.pv ⟨[],cs,more⟩]],_,.inl (by simp only [go_sem,↓reduceIte,reduceCtorEq,yA,yB,uA,uB,uC,uD,uE,uF,Chunk.pv]),crp,.inr (.inl ⟨_,rfl,rfl,rfl⟩)⟩⟩ ?_
     refine V.exec 400 ?_
     simp +contextual (maxSteps := 1000000) only [go_sem,↓reduceIte,reduceCtorEq,yA,yB,uA,uB,uC,uD,uE,uF,hl,trX_agg,trX_cells]
     refine V.call rfl rfl (by simp [dOK]) ⟨20,[],by simp only [go_sem,↓reduceIte,reduceCtorEq,yA,yB,uA,uB,uC,uD,uE,uF],⟨_,rfl,rfl,rfl⟩,.inl ⟨[storeX u1 K],_,.inl (by simp only [go_sem,↓reduceIte,reduceCtorEq,yA,yB,uA,uB,uC,uD,uE,uF,storeX]),sh,.inr (.inl ⟨_,rfl,rfl,rfl⟩)⟩⟩ ?_
     refine V.exec 400 ?_
     rcases hcase with ⟨rfl,rfl,hpk,hsin,ht⟩ | ⟨x,hpos,hx,k',s',P',ht,f2,hm2⟩
     ·obtain ⟨u3,H3,ct,g3⟩ := keeper_Do g2 (by omega) f1.ok (tookC 0) (by simp [tookC])
      rw [ht] at ct g3
      simp only at ct g3
      have hz : ([] : List Change).length = 0 := rfl
      have h10 : ¬ (1 : Int) = 0 := by decide
      by_cases hge : c ≤ i
      ·have hge' : (c : Int) ≤ (i : Int) := by omega
       have cpk := ref03_Pick r K.L (by omega)
       rw [hpk] at cpk
       have cps := pairs_self got' (by omega)
       have cts := trail_Since K.T s.cur 99 [r] (by omega) (by simp)
       rw [since_nil f1.rg hsin] at cts
       have cne := ref13_Same [] [] (by decide)
       simp only [List.map_cons,List.map_nil,decide_true] at cts cne
       simp +contextual (maxSteps := 1000000) only [go_sem,↓reduceIte,reduceCtorEq,yA,yB,uA,uB,uC,uD,uE,uF,KSt.pv,hx0,hS1,hS2,Sub.pv,hl,decide_true,h00,hn00,trX_agg,trX_cells,hge',hw0,hz]
       refine DV.call [] [] (by simp only [go_sem,↓reduceIte,reduceCtorEq,yA,yB,uA,uB,uC,uD,uE,uF,Range.pv]) (by simp [dOK]) ⟨24,[],by simp only [go_sem,↓reduceIte,reduceCtorEq,yA,yB,uA,uB,uC,uD,uE,uF,Range.pv],⟨_,rfl,rfl,rfl⟩,.inl ⟨[r.pv,.row (K.L.map Pair.pv)],_,.inl (by simp only [go_sem,↓reduceIte,reduceCtorEq,yA,yB,uA,uB,uC,uD,uE,uF,Range.pv]),cpk,.inr (.inl ⟨_,rfl,rfl,rfl⟩)⟩⟩ (by simp only [go_sem,↓reduceIte,reduceCtorEq,yA,yB,uA,uB,uC,uD,uE,uF,Range.pv]) (by simp only [go_sem,↓reduceIte,reduceCtorEq,yA,yB,uA,uB,uC,uD,uE,uF,Range.pv]) (by simp only [go_sem,↓reduceIte,reduceCtorEq,yA,yB,uA,uB,uC,uD,uE,uF,Range.pv]) (by simp) ?_
       refine DV.exec 400 ?_
       simp +contextual (maxSteps := 1000000) only [go_sem,↓reduceIte,reduceCtorEq,yA,yB,uA,uB,uC,uD,uE,uF]
       refine DV.call [] [] (by simp only [go_sem,↓reduceIte,reduceCtorEq,yA,yB,uA,uB,uC,uD,uE,uF]) (by simp [dOK]) ⟨23,[],by simp only [go_sem,↓reduceIte,reduceCtorEq,yA,yB,uA,uB,uC,uD,uE,uF],⟨_,rfl,rfl,rfl⟩,.inl ⟨[.row (got'.map Pair.pv),.row (got'.map Pair.pv)],_,.inl (by simp only [go_sem,↓reduceIte,reduceCtorEq,yA,yB,uA,uB,uC,uD,uE,uF]),cps,.inl ⟨_,rfl,rfl,rfl,rfl⟩⟩⟩ (by simp only [go_sem,↓reduceIte,reduceCtorEq,yA,yB,uA,uB,uC,uD,uE,uF]) (by simp only [go_sem,↓reduceIte,reduceCtorEq,yA,yB,uA,uB,uC,uD,uE,uF]) (by simp only [go_sem,↓reduceIte,reduceCtorEq,yA,yB,uA,uB,uC,uD,uE,uF]) (by simp) ?_
       refine DV.exec 400 ?_
       simp +contextual (maxSteps := 1000000) only [go_sem,↓reduceIte,reduceCtorEq,yA,yB,uA,uB,uC,uD,uE,uF,hx0,hS2,h00,Sub.pv]
       refine DV.call [83] [83] (by simp only [go_sem,↓reduceIte,reduceCtorEq,yA,yB,uA,uB,uC,uD,uE,uF,Range.pv]) (by simp [dOK]) ⟨30,[],by simp only [go_sem,↓reduceIte,reduceCtorEq,yA,yB,uA,uB,uC,uD,uE,uF,Range.pv],⟨_,rfl,rfl,rfl⟩,.inl ⟨[.row (K.T.map Change.pv),.int .i64 s.cur,.int .i64 99,.row [r.pv]],_,.inl (by simp only [go_sem,↓reduceIte,reduceCtorEq,yA,yB,uA,uB,uC,uD,uE,uF,Range.pv]),cts,.inr (.inl ⟨_,rfl,rfl,rfl⟩)⟩⟩ (by simp only [go_sem,↓reduceIte,reduceCtorEq,yA,yB,uA,uB,uC,uD,uE,uF,Range.pv]) (by simp only [go_sem,↓reduceIte,reduceCtorEq,yA,yB,uA,uB,uC,uD,uE,uF,Range.pv]) (by simp only [go_sem,↓reduceIte,reduceCtorEq,yA,yB,uA,uB,uC,uD,uE,uF,Range.pv]) (by simp) ?_
       refine DV.exec 400 ?_
       simp +contextual (maxSteps := 1000000) only [go_sem,↓reduceIte,reduceCtorEq,yA,yB,uA,uB,uC,uD,uE,uF]
       refine DV.call [] [] (by simp only [go_sem,↓reduceIte,reduceCtorEq,yA,yB,uA,uB,uC,uD,uE,uF]) (by simp [dOK]) ⟨29,[],by simp only [go_sem,↓reduceIte,reduceCtorEq,yA,yB,uA,uB,uC,uD,uE,uF],⟨_,rfl,rfl,rfl⟩,.inl ⟨[.row [],.row []],_,.inl (by simp only [go_sem,↓reduceIte,reduceCtorEq,yA,yB,uA,uB,uC,uD,uE,uF]),cne,.inl ⟨_,rfl,rfl,rfl,rfl⟩⟩⟩ (by simp only [go_sem,↓reduceIte,reduceCtorEq,yA,yB,uA,uB,uC,uD,uE,uF]) (by simp only [go_sem,↓reduceIte,reduceCtorEq,yA,yB,uA,uB,uC,uD,uE,uF]) (by simp only [go_sem,↓reduceIte,reduceCtorEq,yA,yB,uA,uB,uC,uD,uE,uF]) (by simp) ?_
       refine DV.exec 400 ?_
       simp +contextual (maxSteps := 1000000) only [go_sem,↓reduceIte,reduceCtorEq,yA,yB,uA,uB,uC,uD,uE,uF]
       refine DV.call [] [] (by simp only [go_sem,↓reduceIte,reduceCtorEq,yA,yB,uA,uB,uC,uD,uE,uF]) (by simp [dOK]) ⟨13,[],by simp only [go_sem,↓reduceIte,reduceCtorEq,yA,yB,uA,uB,uC,uD,uE,uF],⟨_,rfl,rfl,rfl⟩,.inl ⟨[],_,.inl (by simp only [go_sem,↓reduceIte,reduceCtorEq,yA,yB,uA,uB,uC,uD,uE,uF]),aw,.inl ⟨_,rfl,rfl,rfl,rfl⟩⟩⟩ (by simp only [go_sem,↓reduceIte,reduceCtorEq,yA,yB,uA,uB,uC,uD,uE,uF]) (by simp only [go_sem,↓reduceIte,reduceCtorEq,yA,yB,uA,uB,uC,uD,uE,uF]) (by simp only [go_sem,↓reduceIte,reduceCtorEq,yA,yB,uA,uB,uC,uD,uE,uF]) (by simp) ?_
       refine DV.exec 400 ?_
       simp +contextual (maxSteps := 1000000) only [go_sem,↓reduceIte,reduceCtorEq,yA,yB,uA,uB,uC,uD,uE,uF]
       kernel_rfl
      ·have hge' : ¬ (c : Int) ≤ (i : Int) := by omega
       simp +contextual (maxSteps := 1000000) only [go_sem,↓reduceIte,reduceCtorEq,yA,yB,uA,uB,uC,uD,uE,uF,KSt.pv,hx0,hS1,hS2,Sub.pv,hl,decide_true,h00,hn00,trX_agg,trX_cells,hge',hw0,hz]
       refine V.call rfl rfl (by simp [dOK]) ⟨14,[],by simp only [go_sem,↓reduceIte,reduceCtorEq,yA,yB,uA,uB,uC,uD,uE,uF],⟨_,rfl,rfl,rfl⟩,.inl ⟨[storeX u1 K,(tookC 0).pv],_,.inl (by simp only [go_sem,↓reduceIte,reduceCtorEq,yA,yB,uA,uB,uC,uD,uE,uF,storeX,btook]),ct,.inr (.inl ⟨_,rfl,rfl,rfl⟩)⟩⟩ ?_
       refine V.exec 400 ?_
       simp +contextual (maxSteps := 1000000) only [go_sem,↓reduceIte,reduceCtorEq,yA,yB,uA,uB,uC,uD,uE,uF,storeX,trX_agg,trX_cells,Tell.num,Tell.bad,Tell.pv,Chunk.zero,hl,hx0,hwi,Sub.pv,decide_true,hz,hn00,h10,h00,hS2]
       exact ⟨400 - (i + 1),_,_,[some 0,some 1,some 2],by omega,⟨i + 1,K,u3,H3,got',s,P,by omega,by omega,by omega,f1,g3.mono (Nat.le_refl _) (by omega),rfl,rfl⟩,by simp only [go_sem,↓reduceIte,reduceCtorEq,yA,yB,uA,uB,uC,uD,uE,uF,sbox,rbox,trX_agg,Tell.num,Chunk.zero]; try decide⟩
     ·obtain ⟨u3,H3,ct,g3⟩ := keeper_Do g2 (by omega) f1.ok (ackC x.seq) (by simp [ackC])
      rw [ht] at ct g3
      simp only at ct g3
      have hposI : (0 : Int) < (cs.length : Int) := by omega
      have hne : ¬ (cs.length : Int) = 0 := by omega
      have hw1 : IntKind.i64.wrap ((cs.length : Int) - 1) = ((cs.length - 1 : Nat) : Int) := by rw [wrap_small3] <;> omega
      have hlt1 : ((cs.length - 1 : Nat) : Int) < (cs.length : Int) := by omega
      by_cases hge : c ≤ i
      ·have hge' : (c : Int) ≤ (i : Int) := by omega
       simp +contextual (maxSteps := 1000000) only [go_sem,↓reduceIte,reduceCtorEq,yA,yB,uA,uB,uC,uD,uE,uF,KSt.pv,hx0,hS1,hS2,Sub.pv,hl,decide_true,h00,hn00,trX_agg,trX_cells,hge',hwc,hposI,hne,hw1,hlt1,hx,Change.pv]
       refine ⟨by kernel_rfl,?_⟩
       refine V.call rfl rfl (by simp [dOK]) ⟨14,[],by simp only [go_sem,↓reduceIte,reduceCtorEq,yA,yB,uA,uB,uC,uD,uE,uF],⟨_,rfl,rfl,rfl⟩,.inl ⟨[storeX u1 K,(ackC x.seq).pv],_,.inl (by simp only [go_sem,↓reduceIte,reduceCtorEq,yA,yB,uA,uB,uC,uD,uE,uF,storeX,back]),ct,.inr (.inl ⟨_,rfl,rfl,rfl⟩)⟩⟩ ?_
       refine V.exec 400 ?_
       simp +contextual (maxSteps := 1000000) only [go_sem,↓reduceIte,reduceCtorEq,yA,yB,uA,uB,uC,uD,uE,uF,storeX,trX_agg,trX_cells,Tell.num,Tell.bad,Tell.pv,Chunk.zero,hl,hx0,hwi,Sub.pv,decide_true,h00,hS2]
       exact ⟨400 - (i + 1),_,_,[some 0,some 1,some 2],by omega,⟨i + 1,k',u3,H3,got',s',P',by omega,by omega,by omega,f2,g3.mono (Nat.le_refl _) (by omega),rfl,rfl⟩,by simp only [go_sem,↓reduceIte,reduceCtorEq,yA,yB,uA,uB,uC,uD,uE,uF,sbox,rbox,trX_agg,Tell.num,Chunk.zero]; try decide⟩
      ·have hge' : ¬ (c : Int) ≤ (i : Int) := by omega
       simp +contextual (maxSteps := 1000000) only [go_sem,↓reduceIte,reduceCtorEq,yA,yB,uA,uB,uC,uD,uE,uF,KSt.pv,hx0,hS1,hS2,Sub.pv,hl,decide_true,h00,hn00,trX_agg,trX_cells,hge',hwc,hposI,hne,hw1,hlt1,hx,Change.pv]
       refine ⟨by kernel_rfl,?_⟩
       refine V.call rfl rfl (by simp [dOK]) ⟨14,[],by simp only [go_sem,↓reduceIte,reduceCtorEq,yA,yB,uA,uB,uC,uD,uE,uF],⟨_,rfl,rfl,rfl⟩,.inl ⟨[storeX u1 K,(ackC x.seq).pv],_,.inl (by simp only [go_sem,↓reduceIte,reduceCtorEq,yA,yB,uA,uB,uC,uD,uE,uF,storeX,back]),ct,.inr (.inl ⟨_,rfl,rfl,rfl⟩)⟩⟩ ?_
       refine V.exec 400 ?_
       simp +contextual (maxSteps := 1000000) only [go_sem,↓reduceIte,reduceCtorEq,yA,yB,uA,uB,uC,uD,uE,uF,storeX,trX_agg,trX_cells,Tell.num,Tell.bad,Tell.pv,Chunk.zero,hl,hx0,hwi,Sub.pv,decide_true,h00,hS2]
       exact ⟨400 - (i + 1),_,_,[some 0,some 1,some 2],by omega,⟨i + 1,k',u3,H3,got',s',P',by omega,by omega,by omega,f2,g3.mono (Nat.le_refl _) (by omega),rfl,rfl⟩,by simp only [go_sem,↓reduceIte,reduceCtorEq,yA,yB,uA,uB,uC,uD,uE,uF,sbox,rbox,trX_agg,Tell.num,Chunk.zero]; try decide⟩
    ·have hl' : s.live = false := by simpa using hl
     obtain ⟨hp,hrep,k',s',ht,f2,hmm2⟩ := f1.dead_step hl' hn1
     rw [hp] at cp g2
     simp only at cp g2
     obtain ⟨rfl,_⟩ := f1.dead hl'
     have crp := feed_Replay got [Chunk.zero] (by omega) (by decide) (fun x hx => by
      rw [List.mem_singleton] at hx
      subst hx
      exact ⟨Nat.zero_le _,Nat.zero_le _⟩)
     rw [hrep] at crp
     simp only [List.map_cons,List.map_nil] at crp
     have sh := keeper_Show g2 (by omega) (by omega) (by omega)
     obtain ⟨u3,H3,ct,g3⟩ := keeper_Do g2 (by omega) f1.ok (tookC 0) (by simp [tookC])
     rw [ht] at ct g3
     simp only at ct g3
     refine V.exec 400 ?_
     simp +contextual (maxSteps := 1000000) only [go_sem,↓reduceIte,reduceCtorEq,yA,yB,uA,uB,uC,uD,uE,uF,hwa,hwb,sbox,rbox,trX_agg,trX_cells,Tell.num]
     refine ⟨h50,?_⟩
     refine V.call rfl rfl (by simp [dOK]) ⟨14,[],by simp only [go_sem,↓reduceIte,reduceCtorEq,yA,yB,uA,uB,uC,uD,uE,uF],⟨_,rfl,rfl,rfl⟩,.inl ⟨[storeX U K,(pollC n).pv],_,.inl (by simp only [go_sem,↓reduceIte,reduceCtorEq,yA,yB,uA,uB,uC,uD,uE,uF,storeX,bpoll]),cp,.inr (.inl ⟨_,rfl,rfl,rfl⟩)⟩⟩ ?_
     refine V.exec 400 ?_
     simp +contextual (maxSteps := 1000000) only [go_sem,↓reduceIte,reduceCtorEq,yA,yB,uA,uB,uC,uD,uE,uF,storeX,trX_agg,trX_cells,Tell.pv,Chunk.zero]
     refine V.call rfl rfl (by simp [dOK]) ⟨28,[],by simp only [go_sem,↓reduceIte,reduceCtorEq,yA,yB,uA,uB,uC,uD,uE,uF],⟨_,rfl,rfl,rfl⟩,.inl ⟨[.row (got.map Pair.pv),.row [Chunk.zero.pv]],_,.inl (by simp only [go_sem,↓reduceIte,reduceCtorEq,yA,yB,uA,uB,uC,uD,uE,uF,Chunk.pv,Chunk.zero]),crp,.inr (.inl ⟨_,rfl,rfl,rfl⟩)⟩⟩ ?_
     refine V.exec 400 ?_
     simp +contextual (maxSteps := 1000000) only [go_sem,↓reduceIte,reduceCtorEq,yA,yB,uA,uB,uC,uD,uE,uF,hl',trX_agg,trX_cells]
     refine V.call rfl rfl (by simp [dOK]) ⟨20,[],by simp only [go_sem,↓reduceIte,reduceCtorEq,yA,yB,uA,uB,uC,uD,uE,uF],⟨_,rfl,rfl,rfl⟩,.inl ⟨[storeX u1 K],_,.inl (by simp only [go_sem,↓reduceIte,reduceCtorEq,yA,yB,uA,uB,uC,uD,uE,uF,storeX]),sh,.inr (.inl ⟨_,rfl,rfl,rfl⟩)⟩⟩ ?_
     refine V.exec 400 ?_
     by_cases hge : c ≤ i
     ·have hge' : (c : Int) ≤ (i : Int) := by omega
      simp +contextual (maxSteps := 1000000) only [go_sem,↓reduceIte,reduceCtorEq,yA,yB,uA,uB,uC,uD,uE,uF,KSt.pv,hx0,hS1,hS2,Sub.pv,hl',decide_false,hge',hw0,h00,hn00,trX_agg,trX_cells]
      refine V.call rfl rfl (by simp [dOK]) ⟨14,[],by simp only [go_sem,↓reduceIte,reduceCtorEq,yA,yB,uA,uB,uC,uD,uE,uF],⟨_,rfl,rfl,rfl⟩,.inl ⟨[storeX u1 K,(tookC 0).pv],_,.inl (by simp only [go_sem,↓reduceIte,reduceCtorEq,yA,yB,uA,uB,uC,uD,uE,uF,storeX,btook]),ct,.inr (.inl ⟨_,rfl,rfl,rfl⟩)⟩⟩ ?_
      refine V.exec 400 ?_
      simp +contextual (maxSteps := 1000000) only [go_sem,↓reduceIte,reduceCtorEq,yA,yB,uA,uB,uC,uD,uE,uF,storeX,trX_agg,trX_cells,Tell.num,Tell.pv,Chunk.zero,hl',hx0,hwi,Sub.pv,decide_false]
      exact ⟨400 - (i + 1),_,_,[some 0,some 1,some 2],by omega,⟨i + 1,k',u3,H3,got,s',[],by omega,by omega,by omega,f2,g3.mono (Nat.le_refl _) (by omega),rfl,rfl⟩,by simp only [go_sem,↓reduceIte,reduceCtorEq,yA,yB,uA,uB,uC,uD,uE,uF,sbox,rbox,trX_agg,Tell.num,Chunk.zero]; try decide⟩
     ·have hge' : ¬ (c : Int) ≤ (i : Int) := by omega
      simp +contextual (maxSteps := 1000000) only [go_sem,↓reduceIte,reduceCtorEq,yA,yB,uA,uB,uC,uD,uE,uF,KSt.pv,hx0,hS1,hS2,Sub.pv,hl',decide_false,hge',hw0,h00,hn00,trX_agg,trX_cells]
      refine V.call rfl rfl (by simp [dOK]) ⟨14,[],by simp only [go_sem,↓reduceIte,reduceCtorEq,yA,yB,uA,uB,uC,uD,uE,uF],⟨_,rfl,rfl,rfl⟩,.inl ⟨[storeX u1 K,(tookC 0).pv],_,.inl (by simp only [go_sem,↓reduceIte,reduceCtorEq,yA,yB,uA,uB,uC,uD,uE,uF,storeX,btook]),ct,.inr (.inl ⟨_,rfl,rfl,rfl⟩)⟩⟩ ?_
      refine V.exec 400 ?_
      simp +contextual (maxSteps := 1000000) only [go_sem,↓reduceIte,reduceCtorEq,yA,yB,uA,uB,uC,uD,uE,uF,storeX,trX_agg,trX_cells,Tell.num,Tell.pv,Chunk.zero,hl',hx0,hwi,Sub.pv,decide_false]
      exact ⟨400 - (i + 1),_,_,[some 0,some 1,some 2],by omega,⟨i + 1,k',u3,H3,got,s',[],by omega,by omega,by omega,f2,g3.mono (Nat.le_refl _) (by omega),rfl,rfl⟩,by simp only [go_sem,↓reduceIte,reduceCtorEq,yA,yB,uA,uB,uC,uD,uE,uF,sbox,rbox,trX_agg,Tell.num,Chunk.zero]; try decide⟩
  ·rw [if_neg hr] at cd0 g0
   simp only at cd0 g0
   have h10 : ¬ (1 : Int) = 0 := by decide
   refine V.call rfl rfl (by simp [dOK]) ⟨14,[],by simp only [go_sem,↓reduceIte,reduceCtorEq,yA,yB,uA,uB,uC,uD,uE,uF],⟨_,rfl,rfl,rfl⟩,.inl ⟨[storeX none KSt.zero,(subC r).pv],_,.inl (by simp only [go_sem,↓reduceIte,reduceCtorEq,yA,yB,uA,uB,uC,uD,uE,uF,storeX,KSt.zero,trX,List.map_nil,bsub]),cd0,.inr (.inl ⟨_,rfl,rfl,rfl⟩)⟩⟩ ?_
   refine V.exec 400 ?_
   simp +contextual (maxSteps := 1000000) only [go_sem,↓reduceIte,reduceCtorEq,yA,yB,uA,uB,uC,uD,uE,uF,storeX,trX_cells,trX_agg,Tell.bad,Tell.pv,Chunk.zero,h10]
   refine V.call rfl rfl (by simp [dOK]) ⟨13,[],by simp only [go_sem,↓reduceIte,reduceCtorEq,yA,yB,uA,uB,uC,uD,uE,uF],⟨_,rfl,rfl,rfl⟩,.inl ⟨[],_,.inl (by simp only [go_sem,↓reduceIte,reduceCtorEq,yA,yB,uA,uB,uC,uD,uE,uF]),aw,.inl ⟨_,rfl,rfl,rfl,rfl⟩⟩⟩ ?_
   refine V.exec 400 ?_
   simp +contextual (maxSteps := 1000000) only [go_sem,↓reduceIte,reduceCtorEq,yA,yB,uA,uB,uC,uD,uE,uF]
 ·refine V.exec 400 ?_
  simp +contextual (maxSteps := 1000000) only [go_sem,↓reduceIte,reduceCtorEq,yA,yB,uA,uB,uC,uD,uE,uF,hf,hmm]
  refine V.call rfl rfl (by simp [dOK]) ⟨13,[],by simp only [go_sem,↓reduceIte,reduceCtorEq,yA,yB,uA,uB,uC,uD,uE,uF],⟨_,rfl,rfl,rfl⟩,.inl ⟨[],_,.inl (by simp only [go_sem,↓reduceIte,reduceCtorEq,yA,yB,uA,uB,uC,uD,uE,uF]),aw,.inl ⟨_,rfl,rfl,rfl,rfl⟩⟩⟩ ?_
  refine V.exec 400 ?_
  simp +contextual (maxSteps := 1000000) only [go_sem,↓reduceIte,reduceCtorEq,yA,yB,uA,uB,uC,uD,uE,uF]
theorem ctFollows (xs0 : List PV) (h0 : xs0.map PV.kd = [.str,.str,.bool]) (w0 : ∀ q ∈ xs0,q.wfv) (xs1 : List PV) (l1 : xs1.length ≤ maxLen) (h1 : ∀ x ∈ xs1,∃ qs,x = .agg qs ∧ mSs cmdSh qs) (a2 : Int) (w2 : (Lit.int .u8 a2).wf = true) : Ct Tryz.prog 11 (Zv.ops [.agg xs0,.row xs1,.int .u8 a2]) (.vals [.bool true]) := by
 obtain ⟨r,e⟩ := range_one xs0 h0
 obtain ⟨l,rfl,_⟩ := cmds_of xs1 h1
 rw [e]
 exact law_Follows r l (by simpa using l1) a2 (u8_rngF w2).1 (u8_rngF w2).2
end Go.Proofs.YtfemlllmglaimaaGreat
