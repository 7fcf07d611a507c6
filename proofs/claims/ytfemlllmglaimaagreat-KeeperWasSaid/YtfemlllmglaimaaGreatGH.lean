/- A part of a proof: functions of the program, walked. -/
import Derived.Test.YtfemlllmglaimaaGreatGG
set_option linter.unusedVariables false
set_option linter.unusedSimpArgs false
set_option maxRecDepth 8000
namespace Go.Proofs.YtfemlllmglaimaaGreat
open Go Go.Proofs Go.Proofs.Zv Go.Proofs.YtfemlllmglaimaaGreat.Ty
open Nat renaming reduceAdd → uA, reduceLT → uB, reduceEqDiff → uC, reduceLeDiff → uD, reduceSub → uE, reduceMul → uF
open Bool renaming false_eq_true → yA, true_eq_false → yB
def headC : Cmd := ⟨12,[],[],r0,0,0,0⟩
def scanC (r : Range) (n : Int) : Cmd := ⟨3,[],[],r,0,0,n⟩
def wasC (r : Range) (n q : Int) : Cmd := ⟨4,[],[],r,0,q,n⟩
theorem do_head (k : KSt) : doK k headC = (k,Tell.num k.seq) := by simp [doK,headC]
theorem do_scan (k : KSt) (r : Range) (n : Int) : doK k (scanC r n) = (k,pageK k (scanC r n) k.seq) := by simp [doK,scanC]
theorem do_was (k : KSt) (r : Range) (n q : Int) : doK k (wasC r n q) = (k,pageK k (wasC r n q) q) := by simp [doK,wasC]
theorem Ext.all {k : KSt} (h : k.ok) (l : List Cmd) : ∀ j,(∀ c ∈ l.take j,c.d ≠ 11) → Ext k (stK k l j)
 | 0,_ => Ext.refl k
 | j + 1,hj => by
  have ih := Ext.all h l j (fun c hc => hj c (by
   have : l.take j = (l.take (j + 1)).take j := by rw [List.take_take,Nat.min_eq_left (by omega)]
   rw [this] at hc
   exact List.mem_of_mem_take hc))
  cases hx : l[j]? with
  | none =>
   have : stK k l (j + 1) = stK k l j := by unfold stK; rw [List.take_add_one,hx]; simp
   rw [this]; exact ih
  | some c =>
   rw [stK_succ k l hx]
   exact ih.step (stK_ok h l j) c (hj c (by rw [List.take_add_one,hx]; simp))
set_option maxRecDepth 20000 in
set_option maxHeartbeats 32000000 in
theorem law_Was (l m : List Cmd) (hl : l.length ≤ maxLen) (hm : m.length ≤ maxLen) (r : Range) (most : Int) (hmo : 0 ≤ most ∧ most ≤ 255) : Ct Tryz.prog 6 (Zv.ops [.row (l.map Cmd.pv),.row (m.map Cmd.pv),r.pv,.int .u8 most]) (.vals [.bool true]) := by
 have hmax : maxLen = 9223372036854775807 := rfl
 rw [hmax] at hl hm
 have aw := law_awake
 have cf := law_Few l 15 hl (by decide)
 have cg := law_Few m 15 hm (by decide)
 rw [show ((15 : Nat) : Int) = 15 from rfl] at cf cg
 obtain ⟨n,hn⟩ : ∃ n,min l.length 15 = n := ⟨_,rfl⟩
 obtain ⟨k,hk⟩ : ∃ k,min m.length 15 = k := ⟨_,rfl⟩
 have hnl : n ≤ l.length := by omega
 have hn15 : n ≤ 15 := by omega
 have hkl : k ≤ m.length := by omega
 have hk15 : k ≤ 15 := by omega
 rw [hn] at cf
 rw [hk] at cg
 have hmt : (l.map Cmd.pv).take n = (l.take n).map Cmd.pv := by rw [List.map_take]
 have hmu : (m.map Cmd.pv).take k = (m.take k).map Cmd.pv := by rw [List.map_take]
 have hm1 : (-1 : Int) < 0 := by decide
 have hwm : IntKind.i64.wrap most = most := by rw [wrap_small3] <;> omega
 refine Ct.of_V Tryz.func6 rfl (by simp [Zv.ops,Tryz.f6]) ?_
 refine V.exec 400 ?_
 simp +contextual (maxSteps := 1000000) only [go_sem,↓reduceIte,reduceCtorEq,yA,yB,uA,uB,uC,uD,uE,uF,Tryz.f6,Range.pv]
 refine V.call rfl rfl (by simp [dOK]) ⟨12,[],by simp only [go_sem,↓reduceIte,reduceCtorEq,yA,yB,uA,uB,uC,uD,uE,uF],⟨_,rfl,rfl,rfl⟩,.inl ⟨[.row (l.map Cmd.pv),.int .i64 15],_,.inl (by simp only [go_sem,↓reduceIte,reduceCtorEq,yA,yB,uA,uB,uC,uD,uE,uF]),cf,.inl ⟨_,rfl,rfl,rfl,rfl⟩⟩⟩ ?_
 refine V.exec 400 ?_
 simp +contextual (maxSteps := 1000000) only [go_sem,↓reduceIte,reduceCtorEq,yA,yB,uA,uB,uC,uD,uE,uF]
 refine V.call rfl rfl (by simp [dOK]) ⟨12,[],by simp only [go_sem,↓reduceIte,reduceCtorEq,yA,yB,uA,uB,uC,uD,uE,uF],⟨_,rfl,rfl,rfl⟩,.inl ⟨[.row (m.map Cmd.pv),.int .i64 15],_,.inl (by simp only [go_sem,↓reduceIte,reduceCtorEq,yA,yB,uA,uB,uC,uD,uE,uF]),cg,.inl ⟨_,rfl,rfl,rfl,rfl⟩⟩⟩ ?_
 refine V.exec 400 ?_
 by_cases hf : fewK l n
 ·have hn0 : ¬ (n : Int) < 0 := by omega
  by_cases hg : fewK m k
  ·have hk0 : ¬ (k : Int) < 0 := by omega
   by_cases h1 : 300 < r.lo.length
   ·have h1' : (300 : Int) < (r.lo.length : Int) := by omega
    simp +contextual (maxSteps := 1000000) only [go_sem,↓reduceIte,reduceCtorEq,yA,yB,uA,uB,uC,uD,uE,uF,hf,hg,hn0,hk0,h1']
    refine V.call rfl rfl (by simp [dOK]) ⟨13,[],by simp only [go_sem,↓reduceIte,reduceCtorEq,yA,yB,uA,uB,uC,uD,uE,uF],⟨_,rfl,rfl,rfl⟩,.inl ⟨[],_,.inl (by simp only [go_sem,↓reduceIte,reduceCtorEq,yA,yB,uA,uB,uC,uD,uE,uF]),aw,.inl ⟨_,rfl,rfl,rfl,rfl⟩⟩⟩ ?_
    refine V.exec 400 ?_
    simp +contextual (maxSteps := 1000000) only [go_sem,↓reduceIte,reduceCtorEq,yA,yB,uA,uB,uC,uD,uE,uF]
   have h1' : ¬ (300 : Int) < (r.lo.length : Int) := by omega
   by_cases h2 : 300 < r.hi.length
   ·have h2' : (300 : Int) < (r.hi.length : Int) := by omega
    simp +contextual (maxSteps := 1000000) only [go_sem,↓reduceIte,reduceCtorEq,yA,yB,uA,uB,uC,uD,uE,uF,hf,hg,hn0,hk0,h1',h2']
    refine V.call rfl rfl (by simp [dOK]) ⟨13,[],by simp only [go_sem,↓reduceIte,reduceCtorEq,yA,yB,uA,uB,uC,uD,uE,uF],⟨_,rfl,rfl,rfl⟩,.inl ⟨[],_,.inl (by simp only [go_sem,↓reduceIte,reduceCtorEq,yA,yB,uA,uB,uC,uD,uE,uF]),aw,.inl ⟨_,rfl,rfl,rfl,rfl⟩⟩⟩ ?_
    refine V.exec 400 ?_
    simp +contextual (maxSteps := 1000000) only [go_sem,↓reduceIte,reduceCtorEq,yA,yB,uA,uB,uC,uD,uE,uF]
   have h2' : ¬ (300 : Int) < (r.hi.length : Int) := by omega
   obtain ⟨u0,H0,cr,g0⟩ := run_zero hf hnl (by omega)
   have ok0 := stK_ok zero_ok (l.take n) n
   generalize stK KSt.zero (l.take n) n = K at *
   generalize tlK KSt.zero (l.take n) n = TT at *
   obtain ⟨u1,H1,ch,g1⟩ := keeper_Do g0 (by omega) ok0 headC (by decide)
   rw [do_head] at ch g1
   obtain ⟨u2,H2,ca,g2⟩ := keeper_Do g0 (by omega) ok0 (scanC r most) (by simp [scanC])
   have tl := tell_len ok0 (scanC r most)
   rw [do_scan] at ca g2 tl
   simp only at ch g1 ca g2 tl
   have hml : (m.take k).length = k := by rw [List.length_take]; omega
   obtain ⟨us,hu0,hus⟩ := stores g0 ok0 (m.take k) (slim_len hg) (by omega)
   have hok := stK_ok ok0 (m.take k)
   have hext := Ext.all ok0 (m.take k)
   generalize hta : pageK K (scanC r most) K.seq = ta at *
   generalize hmm : m.take k = mm at *
   have e1 : headC.pv = .agg [.int .i64 12,.row [],.str [],.str [],.str [],.bool false,.int .i64 0,.int .i64 0,.int .i64 0] := rfl
   have e2 : (scanC r most).pv = .agg [.int .i64 3,.row [],.str [],.str r.lo,.str r.hi,.bool (decide (r.op = true)),.int .i64 0,.int .i64 0,.int .i64 most] := rfl
   have hz0 : ((0 : Nat) : Int) = 0 := rfl
   simp +contextual (maxSteps := 1000000) only [go_sem,↓reduceIte,reduceCtorEq,yA,yB,uA,uB,uC,uD,uE,uF,hf,hg,hn0,hk0,h1',h2',hmt]
   refine ⟨by omega,?_⟩
   refine V.call rfl rfl (by simp [dOK]) ⟨21,[],by simp only [go_sem,↓reduceIte,reduceCtorEq,yA,yB,uA,uB,uC,uD,uE,uF],⟨_,rfl,rfl,rfl⟩,.inl ⟨[storeX none KSt.zero,.row ((l.take n).map Cmd.pv)],_,.inl (by simp only [go_sem,↓reduceIte,reduceCtorEq,yA,yB,uA,uB,uC,uD,uE,uF,storeX,KSt.zero,trX,List.map_nil]),cr,.inr (.inl ⟨_,rfl,rfl,rfl⟩)⟩⟩ ?_
   refine V.exec 400 ?_
   simp +contextual (maxSteps := 1000000) only [go_sem,↓reduceIte,reduceCtorEq,yA,yB,uA,uB,uC,uD,uE,uF,storeX,trX_cells,trX_agg]
   refine V.call rfl rfl (by simp [dOK]) ⟨14,[],by simp only [go_sem,↓reduceIte,reduceCtorEq,yA,yB,uA,uB,uC,uD,uE,uF],⟨_,rfl,rfl,rfl⟩,.inl ⟨[storeX u0 K,headC.pv],_,.inl (by simp only [go_sem,↓reduceIte,reduceCtorEq,yA,yB,uA,uB,uC,uD,uE,uF,storeX,e1]),ch,.inr (.inl ⟨_,rfl,rfl,rfl⟩)⟩⟩ ?_
   refine V.exec 400 ?_
   simp +contextual (maxSteps := 1000000) only [go_sem,↓reduceIte,reduceCtorEq,yA,yB,uA,uB,uC,uD,uE,uF,storeX,trX_cells,trX_agg,Tell.num,Tell.pv,Chunk.zero,hwm]
   refine V.call rfl rfl (by simp [dOK]) ⟨14,[],by simp only [go_sem,↓reduceIte,reduceCtorEq,yA,yB,uA,uB,uC,uD,uE,uF],⟨_,rfl,rfl,rfl⟩,.inl ⟨[storeX u0 K,(scanC r most).pv],_,.inl (by simp only [go_sem,↓reduceIte,reduceCtorEq,yA,yB,uA,uB,uC,uD,uE,uF,storeX,e2]),ca,.inr (.inl ⟨_,rfl,rfl,rfl⟩)⟩⟩ ?_
   refine V.exec 400 ?_
   simp +contextual (maxSteps := 1000000) only [go_sem,↓reduceIte,reduceCtorEq,yA,yB,uA,uB,uC,uD,uE,uF,storeX,trX_cells,trX_agg,Tell.pv,hmu,hml]
   refine ⟨by omega,?_⟩
   refine V.loop (fun m' ls os => ∃ i : Nat,i ≤ k ∧ m' = k - i ∧ (∀ c ∈ mm.take i,c.d ≠ 11) ∧
     ls = [(3,.val (.int .u8 most)),(6,.adr 0 0),(11,.adr 1 0),(14,.adr 2 0),(16,.adr 3 0),(69,.val (.row (mm.map Cmd.pv))),(70,.val (.int .i64 k)),(71,.val (.int .i64 i))] ∧
     os = [.box true [.val (.str r.lo),.val (.str r.hi),.val (.bool (decide (r.op = true)))],sbox (us i) (stK K mm i),rbox (Tell.num K.seq),rbox ta]) 4 k
    [(3,.val (.int .u8 most)),(6,.adr 0 0),(11,.adr 1 0),(14,.adr 2 0),(16,.adr 3 0),(69,.val (.row (mm.map Cmd.pv))),(70,.val (.int .i64 k)),(71,.val (.int .i64 0))]
    [.box true [.val (.str r.lo),.val (.str r.hi),.val (.bool (decide (r.op = true)))],sbox u0 K,rbox (Tell.num K.seq),rbox ta] [some 4,some 38,some 48,some 61]
    ⟨0,Nat.zero_le _,rfl,fun c hc => by simp at hc,by rw [hz0],by rw [hu0]; rfl⟩ (by simp only [go_sem,↓reduceIte,reduceCtorEq,yA,yB,uA,uB,uC,uD,uE,uF,sbox,rbox,Tell.num,Chunk.zero]; try decide) ?_
   rintro m' ls os ⟨i,hi,rfl,hno,rfl,rfl⟩
   refine V.exec 400 ?_
   by_cases hlt : i < k
   ·have hlt' : (i : Int) < (k : Int) := by omega
    obtain ⟨c,hx⟩ : ∃ c,mm[i]? = some c := ⟨_,List.getElem?_eq_getElem (by omega)⟩
    have hwi : IntKind.i64.wrap ((i : Int) + 1) = ((i + 1 : Nat) : Int) := by rw [wrap_small3] <;> omega
    have cd := (hus i).2 c hx
    have hs := stK_succ K mm hx
    rw [← hs] at cd
    by_cases h11 : c.d = 11
    ·have e11 := eq_true h11
     simp +contextual (maxSteps := 1000000) only [go_sem,↓reduceIte,reduceCtorEq,yA,yB,uA,uB,uC,uD,uE,uF,hlt',hx,Cmd.pv,e11]
     refine V.call rfl rfl (by simp [dOK]) ⟨13,[],by simp only [go_sem,↓reduceIte,reduceCtorEq,yA,yB,uA,uB,uC,uD,uE,uF],⟨_,rfl,rfl,rfl⟩,.inl ⟨[],_,.inl (by simp only [go_sem,↓reduceIte,reduceCtorEq,yA,yB,uA,uB,uC,uD,uE,uF]),aw,.inl ⟨_,rfl,rfl,rfl,rfl⟩⟩⟩ ?_
     refine V.exec 400 ?_
     simp +contextual (maxSteps := 1000000) only [go_sem,↓reduceIte,reduceCtorEq,yA,yB,uA,uB,uC,uD,uE,uF]
    ·simp +contextual (maxSteps := 1000000) only [go_sem,↓reduceIte,reduceCtorEq,yA,yB,uA,uB,uC,uD,uE,uF,hlt',hx,Cmd.pv,h11,trX_cells,trX_agg]
     refine V.call rfl rfl (by simp [dOK]) ⟨14,[],by simp only [go_sem,↓reduceIte,reduceCtorEq,yA,yB,uA,uB,uC,uD,uE,uF],⟨_,rfl,rfl,rfl⟩,.inl ⟨[storeX (us i) (stK K mm i),c.pv],_,.inl (by simp only [go_sem,↓reduceIte,reduceCtorEq,yA,yB,uA,uB,uC,uD,uE,uF,storeX,Cmd.pv]),cd,.inr (.inl ⟨_,rfl,rfl,rfl⟩)⟩⟩ ?_
     refine V.exec 400 ?_
     simp +contextual (maxSteps := 1000000) only [go_sem,↓reduceIte,reduceCtorEq,yA,yB,uA,uB,uC,uD,uE,uF,storeX,trX_cells,trX_agg,Tell.pv,hwi]
     refine ⟨k - (i + 1),_,_,[some 0,some 1,some 2,some 3],by omega,⟨i + 1,by omega,rfl,fun y hy => ?_,rfl,rfl⟩,by simp only [go_sem,↓reduceIte,reduceCtorEq,yA,yB,uA,uB,uC,uD,uE,uF,sbox,rbox,trX_agg]; try decide⟩
     rw [List.take_add_one,hx] at hy
     simp only [Option.toList_some,List.mem_append,List.mem_singleton] at hy
     rcases hy with hy | rfl
     ·exact hno y hy
     ·exact h11
   ·have hlt' : ¬ (i : Int) < (k : Int) := by omega
    obtain rfl : i = k := by omega
    have hE := hext i hno
    have okE := hok i
    obtain ⟨H3,g3⟩ := (hus i).1 (by omega)
    obtain ⟨u4,H4,cb,g4⟩ := keeper_Do g3 (by omega) okE (wasC r most K.seq) (by simp [wasC])
    rw [do_was,was_same ok0 okE hE (scanC r most) (wasC r most K.seq) rfl rfl,hta] at cb
    simp only at cb
    have e3 : (wasC r most K.seq).pv = .agg [.int .i64 4,.row [],.str [],.str r.lo,.str r.hi,.bool (decide (r.op = true)),.int .i64 0,.int .i64 K.seq,.int .i64 most] := rfl
    generalize stK K mm i = K' at *
    generalize us i = u5 at *
    have rp := law_Reply ta
    have td := told_self ta (by omega) (by omega)
    simp +contextual (maxSteps := 1000000) only [go_sem,↓reduceIte,reduceCtorEq,yA,yB,uA,uB,uC,uD,uE,uF,hlt',sbox,rbox,trX_agg,trX_cells,Tell.num,hwm]
    refine V.call rfl rfl (by simp [dOK]) ⟨14,[],by simp only [go_sem,↓reduceIte,reduceCtorEq,yA,yB,uA,uB,uC,uD,uE,uF],⟨_,rfl,rfl,rfl⟩,.inl ⟨[storeX u5 K',(wasC r most K.seq).pv],_,.inl (by simp only [go_sem,↓reduceIte,reduceCtorEq,yA,yB,uA,uB,uC,uD,uE,uF,storeX,e3]),cb,.inr (.inl ⟨_,rfl,rfl,rfl⟩)⟩⟩ ?_
    refine V.exec 400 ?_
    simp +contextual (maxSteps := 1000000) only [go_sem,↓reduceIte,reduceCtorEq,yA,yB,uA,uB,uC,uD,uE,uF,storeX,trX_cells,trX_agg,Tell.pv]
    refine DV.call [] [] (by simp only [go_sem,↓reduceIte,reduceCtorEq,yA,yB,uA,uB,uC,uD,uE,uF,Tell.pv]) (by simp [dOK]) ⟨17,[],by simp only [go_sem,↓reduceIte,reduceCtorEq,yA,yB,uA,uB,uC,uD,uE,uF,Tell.pv],⟨_,rfl,rfl,rfl⟩,.inl ⟨[ta.pv],_,.inl (by simp only [go_sem,↓reduceIte,reduceCtorEq,yA,yB,uA,uB,uC,uD,uE,uF,Tell.pv]),rp,.inr (.inl ⟨_,rfl,rfl,rfl⟩)⟩⟩ (by simp only [go_sem,↓reduceIte,reduceCtorEq,yA,yB,uA,uB,uC,uD,uE,uF,Tell.pv]) (by simp only [go_sem,↓reduceIte,reduceCtorEq,yA,yB,uA,uB,uC,uD,uE,uF,Tell.pv]) (by simp only [go_sem,↓reduceIte,reduceCtorEq,yA,yB,uA,uB,uC,uD,uE,uF,Tell.pv]) (by simp) ?_
    refine DV.exec 400 ?_
    simp +contextual (maxSteps := 1000000) only [go_sem,↓reduceIte,reduceCtorEq,yA,yB,uA,uB,uC,uD,uE,uF,Tell.pv]
    refine DV.call [] [] (by simp only [go_sem,↓reduceIte,reduceCtorEq,yA,yB,uA,uB,uC,uD,uE,uF,Tell.pv]) (by simp [dOK]) ⟨17,[],by simp only [go_sem,↓reduceIte,reduceCtorEq,yA,yB,uA,uB,uC,uD,uE,uF,Tell.pv],⟨_,rfl,rfl,rfl⟩,.inl ⟨[ta.pv],_,.inl (by simp only [go_sem,↓reduceIte,reduceCtorEq,yA,yB,uA,uB,uC,uD,uE,uF,Tell.pv]),rp,.inr (.inl ⟨_,rfl,rfl,rfl⟩)⟩⟩ (by simp only [go_sem,↓reduceIte,reduceCtorEq,yA,yB,uA,uB,uC,uD,uE,uF,Tell.pv]) (by simp only [go_sem,↓reduceIte,reduceCtorEq,yA,yB,uA,uB,uC,uD,uE,uF,Tell.pv]) (by simp only [go_sem,↓reduceIte,reduceCtorEq,yA,yB,uA,uB,uC,uD,uE,uF,Tell.pv]) (by simp) ?_
    refine DV.exec 400 ?_
    simp +contextual (maxSteps := 1000000) only [go_sem,↓reduceIte,reduceCtorEq,yA,yB,uA,uB,uC,uD,uE,uF,Tell.pv]
    refine DV.call [] [] (by simp only [go_sem,↓reduceIte,reduceCtorEq,yA,yB,uA,uB,uC,uD,uE,uF,Tell.pv]) (by simp [dOK]) ⟨16,[],by simp only [go_sem,↓reduceIte,reduceCtorEq,yA,yB,uA,uB,uC,uD,uE,uF,Tell.pv],⟨_,rfl,rfl,rfl⟩,.inl ⟨[ta.pv,ta.pv],_,.inl (by simp only [go_sem,↓reduceIte,reduceCtorEq,yA,yB,uA,uB,uC,uD,uE,uF,Tell.pv]),td,.inl ⟨_,rfl,rfl,rfl,rfl⟩⟩⟩ (by simp only [go_sem,↓reduceIte,reduceCtorEq,yA,yB,uA,uB,uC,uD,uE,uF,Tell.pv]) (by simp only [go_sem,↓reduceIte,reduceCtorEq,yA,yB,uA,uB,uC,uD,uE,uF,Tell.pv]) (by simp only [go_sem,↓reduceIte,reduceCtorEq,yA,yB,uA,uB,uC,uD,uE,uF,Tell.pv]) (by simp) ?_
    refine DV.exec 400 ?_
    simp +contextual (maxSteps := 1000000) only [go_sem,↓reduceIte,reduceCtorEq,yA,yB,uA,uB,uC,uD,uE,uF]
    refine DV.call [] [] (by simp only [go_sem,↓reduceIte,reduceCtorEq,yA,yB,uA,uB,uC,uD,uE,uF]) (by simp [dOK]) ⟨13,[],by simp only [go_sem,↓reduceIte,reduceCtorEq,yA,yB,uA,uB,uC,uD,uE,uF],⟨_,rfl,rfl,rfl⟩,.inl ⟨[],_,.inl (by simp only [go_sem,↓reduceIte,reduceCtorEq,yA,yB,uA,uB,uC,uD,uE,uF]),aw,.inl ⟨_,rfl,rfl,rfl,rfl⟩⟩⟩ (by simp only [go_sem,↓reduceIte,reduceCtorEq,yA,yB,uA,uB,uC,uD,uE,uF]) (by simp only [go_sem,↓reduceIte,reduceCtorEq,yA,yB,uA,uB,uC,uD,uE,uF]) (by simp only [go_sem,↓reduceIte,reduceCtorEq,yA,yB,uA,uB,uC,uD,uE,uF]) (by simp) ?_
    refine DV.exec 400 ?_
    simp +contextual (maxSteps := 1000000) only [go_sem,↓reduceIte,reduceCtorEq,yA,yB,uA,uB,uC,uD,uE,uF]
    kernel_rfl
  ·simp +contextual (maxSteps := 1000000) only [go_sem,↓reduceIte,reduceCtorEq,yA,yB,uA,uB,uC,uD,uE,uF,hf,hg,hn0,hm1]
   refine V.call rfl rfl (by simp [dOK]) ⟨13,[],by simp only [go_sem,↓reduceIte,reduceCtorEq,yA,yB,uA,uB,uC,uD,uE,uF],⟨_,rfl,rfl,rfl⟩,.inl ⟨[],_,.inl (by simp only [go_sem,↓reduceIte,reduceCtorEq,yA,yB,uA,uB,uC,uD,uE,uF]),aw,.inl ⟨_,rfl,rfl,rfl,rfl⟩⟩⟩ ?_
   refine V.exec 400 ?_
   simp +contextual (maxSteps := 1000000) only [go_sem,↓reduceIte,reduceCtorEq,yA,yB,uA,uB,uC,uD,uE,uF]
 ·simp +contextual (maxSteps := 1000000) only [go_sem,↓reduceIte,reduceCtorEq,yA,yB,uA,uB,uC,uD,uE,uF,hf,hm1]
  refine V.call rfl rfl (by simp [dOK]) ⟨13,[],by simp only [go_sem,↓reduceIte,reduceCtorEq,yA,yB,uA,uB,uC,uD,uE,uF],⟨_,rfl,rfl,rfl⟩,.inl ⟨[],_,.inl (by simp only [go_sem,↓reduceIte,reduceCtorEq,yA,yB,uA,uB,uC,uD,uE,uF]),aw,.inl ⟨_,rfl,rfl,rfl,rfl⟩⟩⟩ ?_
  refine V.exec 400 ?_
  simp +contextual (maxSteps := 1000000) only [go_sem,↓reduceIte,reduceCtorEq,yA,yB,uA,uB,uC,uD,uE,uF]
theorem u8_rng {a : Int} (w : (Lit.int .u8 a).wf = true) : 0 ≤ a ∧ a ≤ 255 := by
 simp only [Lit.wf,Bool.and_eq_true,decide_eq_true_eq] at w
 have e1 : IntKind.min .u8 = 0 := by decide
 have e2 : IntKind.max .u8 = 255 := by decide
 rw [e1,e2] at w
 exact w
theorem ctWas (xs0 : List PV) (l0 : xs0.length ≤ maxLen) (h0 : ∀ x ∈ xs0,∃ qs,x = .agg qs ∧ mSs cmdSh qs) (xs1 : List PV) (l1 : xs1.length ≤ maxLen) (h1 : ∀ x ∈ xs1,∃ qs,x = .agg qs ∧ mSs cmdSh qs)
  (xs2 : List PV) (h2 : xs2.map PV.kd = [.str,.str,.bool]) (w2 : ∀ q ∈ xs2,q.wfv) (a3 : Int) (w3 : (Lit.int .u8 a3).wf = true) : Ct Tryz.prog 6 (Zv.ops [.row xs0,.row xs1,.agg xs2,.int .u8 a3]) (.vals [.bool true]) := by
 obtain ⟨l,rfl,_⟩ := cmds_of xs0 h0
 obtain ⟨m,rfl,_⟩ := cmds_of xs1 h1
 obtain ⟨r,e⟩ := range_one xs2 h2
 rw [e]
 exact law_Was l m (by simpa using l0) (by simpa using l1) r a3 (u8_rng w3)
end Go.Proofs.YtfemlllmglaimaaGreat
