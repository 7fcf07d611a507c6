/- A part of a proof: functions of the program, walked. -/
import Derived.Test.YtfemlllmglaimaaGreatGG
set_option linter.unusedVariables false
set_option linter.unusedSimpArgs false
set_option maxRecDepth 8000
namespace Go.Proofs.YtfemlllmglaimaaGreat
open Go Go.Proofs Go.Proofs.Zv Go.Proofs.YtfemlllmglaimaaGreat.Ty
open Nat renaming reduceAdd → uA, reduceLT → uB, reduceEqDiff → uC, reduceLeDiff → uD, reduceSub → uE, reduceMul → uF
open Bool renaming false_eq_true → yA, true_eq_false → yB
theorem write_one {k : KSt} (h : k.ok) (hseq : k.seq ≤ 1000) {x : Note} (hx : x.ok) {c : Cmd} (hd : c.d = 1) (hc : c.ns = [x]) :
  ((doK k c).2.err = 5 ∨ (doK k c).2.err = 0) ∧ ((doK k c).2.err = 0 → (doK k c).1.L = oneV k.L x) := by
 have hv : doK k c = writeV k c := by unfold doK; rw [if_pos hd]
 have h0 : 0 ≤ k.seq := by have := h.2.2.2.2.2.1; have := h.2.2.2.2.2.2.1; omega
 have hr : (runV k.L k.seq c.ns).2.2 = 0 := by
  rw [hc]
  unfold runV
  have hb : batchOk [x] ∧ pairsOk k.L ∧ 0 ≤ k.seq ∧ k.seq ≤ 2147483647 := ⟨⟨by simp,fun y hy => by rw [List.mem_singleton] at hy; rw [hy]; exact hx⟩,h.1,h0,by omega⟩
  have hn : ¬ (2147483647 : Int) - (([x] : List Note).length : Int) < k.seq := by simp; omega
  rw [if_pos hb,if_neg hn]
 have w := wrote h hr
 rw [hv]
 unfold writeV
 rw [if_pos hr]
 split
 ·exact ⟨.inl rfl,fun g => absurd g (by simp [Tell.bad])⟩
 ·refine ⟨.inr rfl,fun _ => ?_⟩
  show (runV k.L k.seq c.ns).2.1 = _
  rw [← w.app,hc]
  rfl
theorem doK_seq {k : KSt} (h : k.ok) (c : Cmd) : (doK k c).1.seq ≤ k.seq + 8 := by
 have hw : ∀ (l : List Sub) (n e : Int),(withV k l n e).1.seq ≤ k.seq + 8 := fun l n e => by rw [(with_err k l n e).2.2.2.2.1]; omega
 have z : k.seq ≤ k.seq + 8 := by omega
 unfold doK
 split
 ·unfold writeV
  split
  ·rename_i hr
   have w := wrote h hr
   split
   ·exact z
   ·show k.seq + ((runV k.L k.seq c.ns).1.length : Int) ≤ k.seq + 8
    have := w.len
    omega
  ·exact z
 split
 ·exact z
 split
 ·exact z
 split
 ·exact z
 split
 ·exact hw _ _ _
 split
 ·split
  ·exact z
  ·split
   ·exact z
   ·exact hw _ _ _
 split
 ·exact z
 split
 ·unfold goesV
  split
  ·exact z
  ·split <;> exact hw _ _ _
 split
 ·exact hw _ _ _
 split
 ·exact z
 split
 ·exact z
 ·exact z
theorem stK_seq (l : List Cmd) : ∀ i : Nat,(stK KSt.zero l i).seq ≤ 8 * (i : Int)
 | 0 => by show (0 : Int) ≤ _; omega
 | i + 1 => by
  have ih := stK_seq l i
  cases hx : l[i]? with
  | none =>
   have : stK KSt.zero l (i + 1) = stK KSt.zero l i := by unfold stK; rw [List.take_add_one,hx]; simp
   rw [this]; omega
  | some c =>
   rw [stK_succ _ l hx]
   have := doK_seq (stK_ok zero_ok l i) c
   omega
def putC (k v : List UInt8) : Cmd := ⟨1,[⟨1,k,v,0⟩],[],r0,0,0,0⟩
def delC (k : List UInt8) : Cmd := ⟨1,[⟨2,k,[],0⟩],[],r0,0,0,0⟩
def getC (k : List UInt8) : Cmd := ⟨2,[],k,r0,0,0,0⟩
theorem do_get (k : KSt) (key : List UInt8) : doK k (getC key) = (k,⟨0,0,(getV k.L key).2,(getV k.L key).1,Chunk.zero⟩) := by simp [doK,getC]
theorem gets_law {k : KSt} (h : k.ok) (hseq : k.seq ≤ 900) (key value other : List UInt8) (hk : key.length ≤ 16) (hv : value.length ≤ 32) :
  ((doK k (putC key value)).2.err = 5 ∨ (doK k (putC key value)).2.err = 0) ∧ ((doK (doK k (putC key value)).1 (delC key)).2.err = 5 ∨ (doK (doK k (putC key value)).1 (delC key)).2.err = 0) ∧
  ((doK k (putC key value)).2.err = 0 → (doK (doK k (putC key value)).1 (delC key)).2.err = 0 →
   getV (doK k (putC key value)).1.L key = (value,true) ∧ getV (doK (doK k (putC key value)).1 (delC key)).1.L key = ([],false) ∧ (other ≠ key → getV (doK (doK k (putC key value)).1 (delC key)).1.L other = getV k.L other)) := by
 have hp : Note.ok ⟨1,key,value,0⟩ := ⟨hk,hv,.inl ⟨rfl,rfl⟩⟩
 have hd : Note.ok ⟨2,key,[],0⟩ := ⟨hk,by simp,.inr (.inl ⟨rfl,rfl,rfl⟩)⟩
 obtain ⟨a1,a2⟩ := write_one h (by omega) hp (c := putC key value) rfl rfl
 have ok1 := doK_ok h (putC key value)
 have s1 := doK_seq h (putC key value)
 obtain ⟨b1,b2⟩ := write_one ok1 (by omega) hd (c := delC key) rfl rfl
 have ok2 := doK_ok ok1 (delC key)
 refine ⟨a1,b1,fun e1 e2 => ?_⟩
 have l1 := a2 e1
 have l2 := b2 e2
 have p0 := h.1
 have p1 := ok1.1
 have p2 := ok2.1
 have v1 : ∀ q,val (doK k (putC key value)).1.L q = if q = key then some value else val k.L q := fun q => by
  rw [l1,oneV_val ((pairsOk_iff _).1 p0).1]
  show (if q = key then _ else _) = _
  split
  ·unfold stepO
   cases val k.L q <;> rfl
  ·rfl
 have v2 : ∀ q,val (doK (doK k (putC key value)).1 (delC key)).1.L q = if q = key then none else val k.L q := fun q => by
  rw [l2,oneV_val ((pairsOk_iff _).1 p1).1]
  show (if q = key then _ else _) = _
  split
  ·unfold stepO
   cases val (doK k (putC key value)).1.L q <;> rfl
  ·rename_i hq
   rw [v1,if_neg hq]
 refine ⟨?_,?_,fun ho => ?_⟩
 ·rw [getV_val p1,v1,if_pos rfl]
 ·rw [getV_val p2,v2,if_pos rfl]
 ·rw [getV_val p2,getV_val p0,v2,if_neg ho]
theorem stK_app (k : KSt) (a b : List Cmd) (j : Nat) : stK k (a ++ b) (a.length + j) = stK (stK k a a.length) b j := by
 unfold stK
 rw [List.take_length,List.take_append,List.take_of_length_le (by omega : a.length ≤ a.length + j),List.foldl_append]
 congr 2
 omega
theorem tlK_app (k : KSt) (a b : List Cmd) : ∀ j,j ≤ b.length → tlK k (a ++ b) (a.length + j) = tlK k a a.length ++ tlK (stK k a a.length) b j
 | 0,_ => by
  have : ∀ i,i ≤ a.length → tlK k (a ++ b) i = tlK k a i := by
   intro i
   induction i with
   | zero => intro _; rfl
   | succ i ih =>
    intro hi
    have hx : a[i]? = some a[i] := List.getElem?_eq_getElem (by omega)
    have hx2 : (a ++ b)[i]? = some a[i] := by rw [List.getElem?_append_left (by omega),hx]
    rw [tlK_succ k (a ++ b) hx2,tlK_succ k a hx,ih (by omega)]
    congr 4
    unfold stK
    rw [List.take_append_of_le_length (by omega)]
  rw [Nat.add_zero,this a.length (Nat.le_refl _)]
  simp [tlK]
 | j + 1,hj => by
  have hx : b[j]? = some b[j] := List.getElem?_eq_getElem (by omega)
  have hx2 : (a ++ b)[a.length + j]? = some b[j] := by rw [List.getElem?_append_right (by omega),Nat.add_sub_cancel_left,hx]
  rw [← Nat.add_assoc,tlK_succ k (a ++ b) hx2,tlK_app k a b j (by omega),tlK_succ _ b hx,stK_app,List.append_assoc]
set_option maxRecDepth 20000 in
set_option maxHeartbeats 32000000 in
theorem law_Gets (l : List Cmd) (hl : l.length ≤ maxLen) (key value other : List UInt8) : Ct Tryz.prog 7 (Zv.ops [.row (l.map Cmd.pv),.str key,.str value,.str other]) (.vals [.bool true]) := by
 have hmax : maxLen = 9223372036854775807 := rfl
 rw [hmax] at hl
 have aw := law_awake
 have cf := law_Few l 20 hl (by decide)
 rw [show ((20 : Nat) : Int) = 20 from rfl] at cf
 obtain ⟨n,hn⟩ : ∃ n,min l.length 20 = n := ⟨_,rfl⟩
 have hnl : n ≤ l.length := by omega
 have hn20 : n ≤ 20 := by omega
 rw [hn] at cf
 have hmt : (l.map Cmd.pv).take n = (l.take n).map Cmd.pv := by rw [List.map_take]
 have hm1 : (-1 : Int) < 0 := by decide
 refine Ct.of_V Tryz.func7 rfl (by simp [Zv.ops,Tryz.f7]) ?_
 refine V.exec 400 ?_
 simp +contextual (maxSteps := 1000000) only [go_sem,↓reduceIte,reduceCtorEq,yA,yB,uA,uB,uC,uD,uE,uF,Tryz.f7]
 refine V.call rfl rfl (by simp [dOK]) ⟨12,[],by simp only [go_sem,↓reduceIte,reduceCtorEq,yA,yB,uA,uB,uC,uD,uE,uF],⟨_,rfl,rfl,rfl⟩,.inl ⟨[.row (l.map Cmd.pv),.int .i64 20],_,.inl (by simp only [go_sem,↓reduceIte,reduceCtorEq,yA,yB,uA,uB,uC,uD,uE,uF]),cf,.inl ⟨_,rfl,rfl,rfl,rfl⟩⟩⟩ ?_
 refine V.exec 400 ?_
 by_cases hf : fewK l n
 ·have hn0 : ¬ (n : Int) < 0 := by omega
  by_cases h1 : 16 < key.length
  ·have h1' : (16 : Int) < (key.length : Int) := by omega
   simp +contextual (maxSteps := 1000000) only [go_sem,↓reduceIte,reduceCtorEq,yA,yB,uA,uB,uC,uD,uE,uF,hf,hn0,h1']
   refine V.call rfl rfl (by simp [dOK]) ⟨13,[],by simp only [go_sem,↓reduceIte,reduceCtorEq,yA,yB,uA,uB,uC,uD,uE,uF],⟨_,rfl,rfl,rfl⟩,.inl ⟨[],_,.inl (by simp only [go_sem,↓reduceIte,reduceCtorEq,yA,yB,uA,uB,uC,uD,uE,uF]),aw,.inl ⟨_,rfl,rfl,rfl,rfl⟩⟩⟩ ?_
   refine V.exec 400 ?_
   simp +contextual (maxSteps := 1000000) only [go_sem,↓reduceIte,reduceCtorEq,yA,yB,uA,uB,uC,uD,uE,uF]
  have h1' : ¬ (16 : Int) < (key.length : Int) := by omega
  by_cases h2 : 32 < value.length
  ·have h2' : (32 : Int) < (value.length : Int) := by omega
   simp +contextual (maxSteps := 1000000) only [go_sem,↓reduceIte,reduceCtorEq,yA,yB,uA,uB,uC,uD,uE,uF,hf,hn0,h1',h2']
   refine V.call rfl rfl (by simp [dOK]) ⟨13,[],by simp only [go_sem,↓reduceIte,reduceCtorEq,yA,yB,uA,uB,uC,uD,uE,uF],⟨_,rfl,rfl,rfl⟩,.inl ⟨[],_,.inl (by simp only [go_sem,↓reduceIte,reduceCtorEq,yA,yB,uA,uB,uC,uD,uE,uF]),aw,.inl ⟨_,rfl,rfl,rfl,rfl⟩⟩⟩ ?_
   refine V.exec 400 ?_
   simp +contextual (maxSteps := 1000000) only [go_sem,↓reduceIte,reduceCtorEq,yA,yB,uA,uB,uC,uD,uE,uF]
  have h2' : ¬ (32 : Int) < (value.length : Int) := by omega
  by_cases h3 : 300 < other.length
  ·have h3' : (300 : Int) < (other.length : Int) := by omega
   simp +contextual (maxSteps := 1000000) only [go_sem,↓reduceIte,reduceCtorEq,yA,yB,uA,uB,uC,uD,uE,uF,hf,hn0,h1',h2',h3']
   refine V.call rfl rfl (by simp [dOK]) ⟨13,[],by simp only [go_sem,↓reduceIte,reduceCtorEq,yA,yB,uA,uB,uC,uD,uE,uF],⟨_,rfl,rfl,rfl⟩,.inl ⟨[],_,.inl (by simp only [go_sem,↓reduceIte,reduceCtorEq,yA,yB,uA,uB,uC,uD,uE,uF]),aw,.inl ⟨_,rfl,rfl,rfl,rfl⟩⟩⟩ ?_
   refine V.exec 400 ?_
   simp +contextual (maxSteps := 1000000) only [go_sem,↓reduceIte,reduceCtorEq,yA,yB,uA,uB,uC,uD,uE,uF]
  have h3' : ¬ (300 : Int) < (other.length : Int) := by omega
  obtain ⟨u0,H0,cr,g0⟩ := run_zero hf hnl (by omega)
  have ok0 := stK_ok zero_ok (l.take n) n
  have hsq := stK_seq (l.take n) n
  generalize stK KSt.zero (l.take n) n = K at *
  generalize tlK KSt.zero (l.take n) n = TT at *
  obtain ⟨la,lb,lc⟩ := gets_law ok0 (by omega) key value other (by omega) (by omega)
  obtain ⟨u1,H1,ca,g1⟩ := keeper_Do g0 (by omega) ok0 (putC key value) (by simp [putC])
  have ok1 := doK_ok ok0 (putC key value)
  generalize (doK K (putC key value)).2 = ta at *
  generalize (doK K (putC key value)).1 = T at *
  obtain ⟨u2,H2,cb,g2⟩ := keeper_Do g1 (by omega) ok1 (delC key) (by simp [delC])
  have ok2 := doK_ok ok1 (delC key)
  generalize (doK T (delC key)).2 = tb at *
  generalize (doK T (delC key)).1 = U at *
  obtain ⟨u3,H3,cx,g3⟩ := keeper_Do g1 (by omega) ok1 (getC key) (by simp [getC])
  obtain ⟨u4,H4,cy,g4⟩ := keeper_Do g2 (by omega) ok2 (getC key) (by simp [getC])
  obtain ⟨u5,H5,cz,g5⟩ := keeper_Do g0 (by omega) ok0 (getC other) (by simp [getC])
  obtain ⟨u6,H6,cw,g6⟩ := keeper_Do g2 (by omega) ok2 (getC other) (by simp [getC])
  rw [do_get] at cx cy cz cw
  simp only at cx cy cz cw
  have e1 : (putC key value).pv = .agg [.int .i64 1,.row [.agg [.int .i64 1,.str key,.str value,.int .u64 0]],.str [],.str [],.str [],.bool false,.int .i64 0,.int .i64 0,.int .i64 0] := rfl
  have e2 : (delC key).pv = .agg [.int .i64 1,.row [.agg [.int .i64 2,.str key,.str [],.int .u64 0]],.str [],.str [],.str [],.bool false,.int .i64 0,.int .i64 0,.int .i64 0] := rfl
  have e3 : ∀ k,(getC k).pv = .agg [.int .i64 2,.row [],.str k,.str [],.str [],.bool false,.int .i64 0,.int .i64 0,.int .i64 0] := fun _ => rfl
  simp +contextual (maxSteps := 1000000) only [go_sem,↓reduceIte,reduceCtorEq,yA,yB,uA,uB,uC,uD,uE,uF,hf,hn0,h1',h2',h3',hmt]
  refine ⟨by omega,?_⟩
  refine V.call rfl rfl (by simp [dOK]) ⟨21,[],by simp only [go_sem,↓reduceIte,reduceCtorEq,yA,yB,uA,uB,uC,uD,uE,uF],⟨_,rfl,rfl,rfl⟩,.inl ⟨[storeX none KSt.zero,.row ((l.take n).map Cmd.pv)],_,.inl (by simp only [go_sem,↓reduceIte,reduceCtorEq,yA,yB,uA,uB,uC,uD,uE,uF,storeX,KSt.zero,trX,List.map_nil]),cr,.inr (.inl ⟨_,rfl,rfl,rfl⟩)⟩⟩ ?_
  refine V.exec 36 ?_
  simp +contextual (maxSteps := 1000000) only [go_sem,↓reduceIte,reduceCtorEq,yA,yB,uA,uB,uC,uD,uE,uF,storeX,trX_cells,trX_agg]
  refine V.pubt 57 (.row [.agg [.int .i64 1,.str key,.str value,.int .u64 0]]) (by simp only [go_sem,↓reduceIte,reduceCtorEq,yA,yB,uA,uB,uC,uD,uE,uF]) ?_
  refine V.exec 400 ?_
  simp +contextual (maxSteps := 1000000) only [go_sem,↓reduceIte,reduceCtorEq,yA,yB,uA,uB,uC,uD,uE,uF,storeX,trX_cells,trX_agg]
  refine V.call rfl rfl (by simp [dOK]) ⟨14,[],by simp only [go_sem,↓reduceIte,reduceCtorEq,yA,yB,uA,uB,uC,uD,uE,uF],⟨_,rfl,rfl,rfl⟩,.inl ⟨[storeX u0 K,(putC key value).pv],_,.inl (by simp only [go_sem,↓reduceIte,reduceCtorEq,yA,yB,uA,uB,uC,uD,uE,uF,storeX,e1]),ca,.inr (.inl ⟨_,rfl,rfl,rfl⟩)⟩⟩ ?_
  refine V.exec 36 ?_
  simp +contextual (maxSteps := 1000000) only [go_sem,↓reduceIte,reduceCtorEq,yA,yB,uA,uB,uC,uD,uE,uF,storeX,trX_cells,trX_agg,Tell.pv]
  refine V.pubt 66 (.row [.agg [.int .i64 2,.str key,.str [],.int .u64 0]]) (by simp only [go_sem,↓reduceIte,reduceCtorEq,yA,yB,uA,uB,uC,uD,uE,uF]) ?_
  refine V.exec 400 ?_
  simp +contextual (maxSteps := 1000000) only [go_sem,↓reduceIte,reduceCtorEq,yA,yB,uA,uB,uC,uD,uE,uF,storeX,trX_cells,trX_agg]
  refine V.call rfl rfl (by simp [dOK]) ⟨14,[],by simp only [go_sem,↓reduceIte,reduceCtorEq,yA,yB,uA,uB,uC,uD,uE,uF],⟨_,rfl,rfl,rfl⟩,.inl ⟨[storeX u1 T,(delC key).pv],_,.inl (by simp only [go_sem,↓reduceIte,reduceCtorEq,yA,yB,uA,uB,uC,uD,uE,uF,storeX,e2]),cb,.inr (.inl ⟨_,rfl,rfl,rfl⟩)⟩⟩ ?_
  refine V.exec 400 ?_
  simp +contextual (maxSteps := 1000000) only [go_sem,↓reduceIte,reduceCtorEq,yA,yB,uA,uB,uC,uD,uE,uF,storeX,trX_cells,trX_agg,Tell.pv]
  refine V.call rfl rfl (by simp [dOK]) ⟨14,[],by simp only [go_sem,↓reduceIte,reduceCtorEq,yA,yB,uA,uB,uC,uD,uE,uF],⟨_,rfl,rfl,rfl⟩,.inl ⟨[storeX u1 T,(getC key).pv],_,.inl (by simp only [go_sem,↓reduceIte,reduceCtorEq,yA,yB,uA,uB,uC,uD,uE,uF,storeX,e3]),cx,.inr (.inl ⟨_,rfl,rfl,rfl⟩)⟩⟩ ?_
  refine V.exec 400 ?_
  simp +contextual (maxSteps := 1000000) only [go_sem,↓reduceIte,reduceCtorEq,yA,yB,uA,uB,uC,uD,uE,uF,storeX,trX_cells,trX_agg,Tell.pv]
  refine V.call rfl rfl (by simp [dOK]) ⟨14,[],by simp only [go_sem,↓reduceIte,reduceCtorEq,yA,yB,uA,uB,uC,uD,uE,uF],⟨_,rfl,rfl,rfl⟩,.inl ⟨[storeX u2 U,(getC key).pv],_,.inl (by simp only [go_sem,↓reduceIte,reduceCtorEq,yA,yB,uA,uB,uC,uD,uE,uF,storeX,e3]),cy,.inr (.inl ⟨_,rfl,rfl,rfl⟩)⟩⟩ ?_
  refine V.exec 400 ?_
  simp +contextual (maxSteps := 1000000) only [go_sem,↓reduceIte,reduceCtorEq,yA,yB,uA,uB,uC,uD,uE,uF,storeX,trX_cells,trX_agg,Tell.pv]
  refine V.call rfl rfl (by simp [dOK]) ⟨14,[],by simp only [go_sem,↓reduceIte,reduceCtorEq,yA,yB,uA,uB,uC,uD,uE,uF],⟨_,rfl,rfl,rfl⟩,.inl ⟨[storeX u0 K,(getC other).pv],_,.inl (by simp only [go_sem,↓reduceIte,reduceCtorEq,yA,yB,uA,uB,uC,uD,uE,uF,storeX,e3]),cz,.inr (.inl ⟨_,rfl,rfl,rfl⟩)⟩⟩ ?_
  refine V.exec 400 ?_
  simp +contextual (maxSteps := 1000000) only [go_sem,↓reduceIte,reduceCtorEq,yA,yB,uA,uB,uC,uD,uE,uF,storeX,trX_cells,trX_agg,Tell.pv]
  refine V.call rfl rfl (by simp [dOK]) ⟨14,[],by simp only [go_sem,↓reduceIte,reduceCtorEq,yA,yB,uA,uB,uC,uD,uE,uF],⟨_,rfl,rfl,rfl⟩,.inl ⟨[storeX u2 U,(getC other).pv],_,.inl (by simp only [go_sem,↓reduceIte,reduceCtorEq,yA,yB,uA,uB,uC,uD,uE,uF,storeX,e3]),cw,.inr (.inl ⟨_,rfl,rfl,rfl⟩)⟩⟩ ?_
  refine V.exec 400 ?_
  have h50 : ¬ (5 : Int) = 0 := by decide
  have h05 : ¬ (0 : Int) = 5 := by decide
  rcases la with ha | ha
  ·simp +contextual (maxSteps := 1000000) only [go_sem,↓reduceIte,reduceCtorEq,yA,yB,uA,uB,uC,uD,uE,uF,ha,h50,trX_agg,trX_cells,storeX,Tell.pv]
   refine V.call rfl rfl (by simp [dOK]) ⟨13,[],by simp only [go_sem,↓reduceIte,reduceCtorEq,yA,yB,uA,uB,uC,uD,uE,uF],⟨_,rfl,rfl,rfl⟩,.inl ⟨[],_,.inl (by simp only [go_sem,↓reduceIte,reduceCtorEq,yA,yB,uA,uB,uC,uD,uE,uF]),aw,.inl ⟨_,rfl,rfl,rfl,rfl⟩⟩⟩ ?_
   refine V.exec 400 ?_
   simp +contextual (maxSteps := 1000000) only [go_sem,↓reduceIte,reduceCtorEq,yA,yB,uA,uB,uC,uD,uE,uF]
  ·rcases lb with hb | hb
   ·simp +contextual (maxSteps := 1000000) only [go_sem,↓reduceIte,reduceCtorEq,yA,yB,uA,uB,uC,uD,uE,uF,ha,hb,h50,h05,trX_agg,trX_cells,storeX,Tell.pv]
    refine V.call rfl rfl (by simp [dOK]) ⟨13,[],by simp only [go_sem,↓reduceIte,reduceCtorEq,yA,yB,uA,uB,uC,uD,uE,uF],⟨_,rfl,rfl,rfl⟩,.inl ⟨[],_,.inl (by simp only [go_sem,↓reduceIte,reduceCtorEq,yA,yB,uA,uB,uC,uD,uE,uF]),aw,.inl ⟨_,rfl,rfl,rfl,rfl⟩⟩⟩ ?_
    refine V.exec 400 ?_
    simp +contextual (maxSteps := 1000000) only [go_sem,↓reduceIte,reduceCtorEq,yA,yB,uA,uB,uC,uD,uE,uF]
   ·obtain ⟨x1,x2,x3⟩ := lc ha hb
    by_cases ho : other = key
    ·simp +contextual (maxSteps := 1000000) only [go_sem,↓reduceIte,reduceCtorEq,yA,yB,uA,uB,uC,uD,uE,uF,ha,hb,x1,x2,ho,trX_agg,trX_cells,storeX,Tell.pv]
     refine V.call rfl rfl (by simp [dOK]) ⟨13,[],by simp only [go_sem,↓reduceIte,reduceCtorEq,yA,yB,uA,uB,uC,uD,uE,uF],⟨_,rfl,rfl,rfl⟩,.inl ⟨[],_,.inl (by simp only [go_sem,↓reduceIte,reduceCtorEq,yA,yB,uA,uB,uC,uD,uE,uF]),aw,.inl ⟨_,rfl,rfl,rfl,rfl⟩⟩⟩ ?_
     refine V.exec 400 ?_
     simp +contextual (maxSteps := 1000000) only [go_sem,↓reduceIte,reduceCtorEq,yA,yB,uA,uB,uC,uD,uE,uF]
    ·have x4 := x3 ho
     simp +contextual (maxSteps := 1000000) only [go_sem,↓reduceIte,reduceCtorEq,yA,yB,uA,uB,uC,uD,uE,uF,ha,hb,x1,x2,x4,ho,trX_agg,trX_cells,storeX,Tell.pv]
     refine V.call rfl rfl (by simp [dOK]) ⟨13,[],by simp only [go_sem,↓reduceIte,reduceCtorEq,yA,yB,uA,uB,uC,uD,uE,uF],⟨_,rfl,rfl,rfl⟩,.inl ⟨[],_,.inl (by simp only [go_sem,↓reduceIte,reduceCtorEq,yA,yB,uA,uB,uC,uD,uE,uF]),aw,.inl ⟨_,rfl,rfl,rfl,rfl⟩⟩⟩ ?_
     refine V.exec 400 ?_
     simp +contextual (maxSteps := 1000000) only [go_sem,↓reduceIte,reduceCtorEq,yA,yB,uA,uB,uC,uD,uE,uF]
 ·simp +contextual (maxSteps := 1000000) only [go_sem,↓reduceIte,reduceCtorEq,yA,yB,uA,uB,uC,uD,uE,uF,hf,hm1]
  refine V.call rfl rfl (by simp [dOK]) ⟨13,[],by simp only [go_sem,↓reduceIte,reduceCtorEq,yA,yB,uA,uB,uC,uD,uE,uF],⟨_,rfl,rfl,rfl⟩,.inl ⟨[],_,.inl (by simp only [go_sem,↓reduceIte,reduceCtorEq,yA,yB,uA,uB,uC,uD,uE,uF]),aw,.inl ⟨_,rfl,rfl,rfl,rfl⟩⟩⟩ ?_
  refine V.exec 400 ?_
  simp +contextual (maxSteps := 1000000) only [go_sem,↓reduceIte,reduceCtorEq,yA,yB,uA,uB,uC,uD,uE,uF]
theorem ctGets (xs0 : List PV) (l0 : xs0.length ≤ maxLen) (h0 : ∀ x ∈ xs0,∃ qs,x = .agg qs ∧ mSs cmdSh qs) (xs1 xs2 xs3 : List UInt8) : Ct Tryz.prog 7 (Zv.ops [.row xs0,.str xs1,.str xs2,.str xs3]) (.vals [.bool true]) := by
 obtain ⟨l,rfl,_⟩ := cmds_of xs0 h0
 exact law_Gets l (by simpa using l0) xs1 xs2 xs3
end Go.Proofs.YtfemlllmglaimaaGreat
