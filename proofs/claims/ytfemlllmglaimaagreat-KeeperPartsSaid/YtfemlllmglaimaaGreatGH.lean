/- A part of a proof: functions of the program, walked. -/
import Derived.Test.YtfemlllmglaimaaGreatGG
set_option linter.unusedVariables false
set_option linter.unusedSimpArgs false
set_option maxRecDepth 8000
namespace Go.Proofs.YtfemlllmglaimaaGreat
open Go Go.Proofs Go.Proofs.Zv Go.Proofs.YtfemlllmglaimaaGreat.Ty
open Nat renaming reduceAdd → uA, reduceLT → uB, reduceEqDiff → uC, reduceLeDiff → uD, reduceSub → uE, reduceMul → uF
open Bool renaming false_eq_true → yA, true_eq_false → yB
theorem write_one {k : KSt} (h : k.ok) (hseq : k.seq ≤ 1000) {x : Note} (hx : x.ok) {c : Cmd} (hd : c.d = 1) (hc : c.ns = [x]) :
  ((doK k c).2.err = 5 ∨ (doK k c).2.err = 0) ∧ ((doK k c).2.err = 0 → (doK k c).1.L = oneV k.L x) := by
 have hv : doK k c = writeV k c := by unfold doK; rw [if_pos hd]
 have h0 : 0 ≤ k.seq := by have := h.2.2.2.2.2.1; have := h.2.2.2.2.2.2.1; omega
 have hr : (runV k.L k.seq c.ns).2.2 = 0 := by
  rw [hc]
  unfold runV
  have hb : batchOk [x] ∧ pairsOk k.L ∧ 0 ≤ k.seq ∧ k.seq ≤ 2147483647 := ⟨⟨by simp,fun y hy => by rw [List.mem_singleton] at hy; rw [hy]; exact hx⟩,h.1,h0,by omega⟩
  have hn : ¬ (2147483647 : Int) - (([x] : List Note).length : Int) < k.seq := by simp; omega
  rw [if_pos hb,if_neg hn]
 have w := wrote h hr
 rw [hv]
 unfold writeV
 rw [if_pos hr]
 split
 ·exact ⟨.inl rfl,fun g => absurd g (by simp [Tell.bad])⟩
 ·refine ⟨.inr rfl,fun _ => ?_⟩
  show (runV k.L k.seq c.ns).2.1 = _
  rw [← w.app,hc]
  rfl
theorem doK_seq {k : KSt} (h : k.ok) (c : Cmd) : (doK k c).1.seq ≤ k.seq + 8 := by
 have hw : ∀ (l : List Sub) (n e : Int),(withV k l n e).1.seq ≤ k.seq + 8 := fun l n e => by rw [(with_err k l n e).2.2.2.2.1]; omega
 have z : k.seq ≤ k.seq + 8 := by omega
 unfold doK
 split
 ·unfold writeV
  split
  ·rename_i hr
   have w := wrote h hr
   split
   ·exact z
   ·show k.seq + ((runV k.L k.seq c.ns).1.length : Int) ≤ k.seq + 8
    have := w.len
    omega
  ·exact z
 split
 ·exact z
 split
 ·exact z
 split
 ·exact z
 split
 ·exact hw _ _ _
 split
 ·split
  ·exact z
  ·split
   ·exact z
   ·exact hw _ _ _
 split
 ·exact z
 split
 ·unfold goesV
  split
  ·exact z
  ·split <;> exact hw _ _ _
 split
 ·exact hw _ _ _
 split
 ·exact z
 split
 ·exact z
 ·exact z
theorem stK_seq (l : List Cmd) : ∀ i : Nat,(stK KSt.zero l i).seq ≤ 8 * (i : Int)
 | 0 => by show (0 : Int) ≤ _; omega
 | i + 1 => by
  have ih := stK_seq l i
  cases hx : l[i]? with
  | none =>
   have : stK KSt.zero l (i + 1) = stK KSt.zero l i := by unfold stK; rw [List.take_add_one,hx]; simp
   rw [this]; omega
  | some c =>
   rw [stK_succ _ l hx]
   have := doK_seq (stK_ok zero_ok l i) c
   omega
def putC (k v : List UInt8) : Cmd := ⟨1,[⟨1,k,v,0⟩],[],r0,0,0,0⟩
def delC (k : List UInt8) : Cmd := ⟨1,[⟨2,k,[],0⟩],[],r0,0,0,0⟩
def getC (k : List UInt8) : Cmd := ⟨2,[],k,r0,0,0,0⟩
theorem do_get (k : KSt) (key : List UInt8) : doK k (getC key) = (k,⟨0,0,(getV k.L key).2,(getV k.L key).1,Chunk.zero⟩) := by simp [doK,getC]
theorem gets_law {k : KSt} (h : k.ok) (hseq : k.seq ≤ 900) (key value other : List UInt8) (hk : key.length ≤ 16) (hv : value.length ≤ 32) :
  ((doK k (putC key value)).2.err = 5 ∨ (doK k (putC key value)).2.err = 0) ∧ ((doK (doK k (putC key value)).1 (delC key)).2.err = 5 ∨ (doK (doK k (putC key value)).1 (delC key)).2.err = 0) ∧
  ((doK k (putC key value)).2.err = 0 → (doK (doK k (putC key value)).1 (delC key)).2.err = 0 →
   getV (doK k (putC key value)).1.L key = (value,true) ∧ getV (doK (doK k (putC key value)).1 (delC key)).1.L key = ([],false) ∧ (other ≠ key → getV (doK (doK k (putC key value)).1 (delC key)).1.L other = getV k.L other)) := by
 have hp : Note.ok ⟨1,key,value,0⟩ := ⟨hk,hv,.inl ⟨rfl,rfl⟩⟩
 have hd : Note.ok ⟨2,key,[],0⟩ := ⟨hk,by simp,.inr (.inl ⟨rfl,rfl,rfl⟩)⟩
 obtain ⟨a1,a2⟩ := write_one h (by omega) hp (c := putC key value) rfl rfl
 have ok1 := doK_ok h (putC key value)
 have s1 := doK_seq h (putC key value)
 obtain ⟨b1,b2⟩ := write_one ok1 (by omega) hd (c := delC key) rfl rfl
 have ok2 := doK_ok ok1 (delC key)
 refine ⟨a1,b1,fun e1 e2 => ?_⟩
 have l1 := a2 e1
 have l2 := b2 e2
 have p0 := h.1
 have p1 := ok1.1
 have p2 := ok2.1
 have v1 : ∀ q,val (doK k (putC key value)).1.L q = if q = key then some value else val k.L q := fun q => by
  rw [l1,oneV_val ((pairsOk_iff _).1 p0).1]
  show (if q = key then _ else _) = _
  split
  ·unfold stepO
   cases val k.L q <;> rfl
  ·rfl
 have v2 : ∀ q,val (doK (doK k (putC key value)).1 (delC key)).1.L q = if q = key then none else val k.L q := fun q => by
  rw [l2,oneV_val ((pairsOk_iff _).1 p1).1]
  show (if q = key then _ else _) = _
  split
  ·unfold stepO
   cases val (doK k (putC key value)).1.L q <;> rfl
  ·rename_i hq
   rw [v1,if_neg hq]
 refine ⟨?_,?_,fun ho => ?_⟩
 ·rw [getV_val p1,v1,if_pos rfl]
 ·rw [getV_val p2,v2,if_pos rfl]
 ·rw [getV_val p2,getV_val p0,v2,if_neg ho]
theorem stK_app (k : KSt) (a b : List Cmd) (j : Nat) : stK k (a ++ b) (a.length + j) = stK (stK k a a.length) b j := by
 unfold stK
 rw [List.take_length,List.take_append,List.take_of_length_le (by omega : a.length ≤ a.length + j),List.foldl_append]
 congr 2
 omega
theorem tlK_app (k : KSt) (a b : List Cmd) : ∀ j,j ≤ b.length → tlK k (a ++ b) (a.length + j) = tlK k a a.length ++ tlK (stK k a a.length) b j
 | 0,_ => by
  have : ∀ i,i ≤ a.length → tlK k (a ++ b) i = tlK k a i := by
   intro i
   induction i with
   | zero => intro _; rfl
   | succ i ih =>
    intro hi
    have hx : a[i]? = some a[i] := List.getElem?_eq_getElem (by omega)
    have hx2 : (a ++ b)[i]? = some a[i] := by rw [List.getElem?_append_left (by omega),hx]
    rw [tlK_succ k (a ++ b) hx2,tlK_succ k a hx,ih (by omega)]
    congr 4
    unfold stK
    rw [List.take_append_of_le_length (by omega)]
  rw [Nat.add_zero,this a.length (Nat.le_refl _)]
  simp [tlK]
 | j + 1,hj => by
  have hx : b[j]? = some b[j] := List.getElem?_eq_getElem (by omega)
  have hx2 : (a ++ b)[a.length + j]? = some b[j] := by rw [List.getElem?_append_right (by omega),Nat.add_sub_cancel_left,hx]
  rw [← Nat.add_assoc,tlK_succ k (a ++ b) hx2,tlK_app k a b j (by omega),tlK_succ _ b hx,stK_app,List.append_assoc]
theorem puts_ok {L : List Pair} (h : pairsOk L) : notesOk (L.map noteP) ∧ appV [] (L.map noteP) = L := by
 obtain ⟨h1,h2⟩ := (pairsOk_iff L).1 h
 refine ⟨fun x hx => ?_,put_all L (l := []) h1⟩
 obtain ⟨p,hp,rfl⟩ := List.mem_map.1 hx
 have := h2 p hp
 exact ⟨this.1,this.2,.inl ⟨rfl,rfl⟩⟩
set_option maxRecDepth 10000 in
set_option maxHeartbeats 16000000 in
theorem keeper_Of_bad (k : KSt) (hk : ¬ k.ok) (hL : k.L.length ≤ 100000) (hT : k.T.length ≤ 100000) (hS : k.S.length ≤ 100000) : Ct Tryz.prog 26 (Zv.ops [k.pv]) (.vals [storeX none KSt.zero,.int .i64 1]) := by
 have c1 := keeper_Right k hL hT hS
 refine Ct.of_V Tryz.func26 rfl (by simp [Zv.ops,Tryz.f26]) ?_
 refine V.exec 400 ?_
 simp +contextual (maxSteps := 1000000) only [go_sem,↓reduceIte,reduceCtorEq,yA,yB,uA,uB,uC,uD,uE,uF,Tryz.f26,KSt.pv]
 refine V.call rfl rfl (by simp [dOK]) ⟨22,[],by simp only [go_sem,↓reduceIte,reduceCtorEq,yA,yB,uA,uB,uC,uD,uE,uF],⟨_,rfl,rfl,rfl⟩,.inl ⟨[k.pv],_,.inl (by simp only [go_sem,↓reduceIte,reduceCtorEq,yA,yB,uA,uB,uC,uD,uE,uF,KSt.pv]),c1,.inl ⟨_,rfl,rfl,rfl,rfl⟩⟩⟩ ?_
 refine V.exec 400 ?_
 simp +contextual (maxSteps := 1000000) only [go_sem,↓reduceIte,reduceCtorEq,yA,yB,uA,uB,uC,uD,uE,uF,hk,storeX,KSt.zero,trX,List.map_nil]
set_option maxRecDepth 10000 in
set_option maxHeartbeats 16000000 in
theorem keeper_Of {k : KSt} (hk : k.ok) : ∃ v H,Ct Tryz.prog 26 (Zv.ops [k.pv]) (.vals [storeX v k,.int .i64 0]) ∧ GoodT v k.L H 61 := by
 obtain ⟨hL,hT,hS⟩ := hk.lens
 obtain ⟨p1,p2⟩ := puts_ok hk.1
 obtain ⟨v,ca,gv⟩ := tree_ApplyK GoodT.empty (k.L.map noteP) p1 (by simp; omega)
 rw [p2] at gv
 refine ⟨v,1000,?_,gv.mono (by simp; omega) (by simp; omega)⟩
 have c1 := keeper_Right k (by omega) (by omega) (by omega)
 have c2 := (CloneChange (k.T.map Change.pv) (fun x hx => by obtain ⟨c,_,rfl⟩ := List.mem_map.1 hx; rfl) (by simp; omega)).forget
 have c3 := (CloneSub (k.S.map Sub.pv) (fun x hx => by obtain ⟨c,_,rfl⟩ := List.mem_map.1 hx; rfl) (by simp; omega)).forget
 refine Ct.of_V Tryz.func26 rfl (by simp [Zv.ops,Tryz.f26]) ?_
 refine V.exec 400 ?_
 simp +contextual (maxSteps := 1000000) only [go_sem,↓reduceIte,reduceCtorEq,yA,yB,uA,uB,uC,uD,uE,uF,Tryz.f26,KSt.pv]
 refine V.call rfl rfl (by simp [dOK]) ⟨22,[],by simp only [go_sem,↓reduceIte,reduceCtorEq,yA,yB,uA,uB,uC,uD,uE,uF],⟨_,rfl,rfl,rfl⟩,.inl ⟨[k.pv],_,.inl (by simp only [go_sem,↓reduceIte,reduceCtorEq,yA,yB,uA,uB,uC,uD,uE,uF,KSt.pv]),c1,.inl ⟨_,rfl,rfl,rfl,rfl⟩⟩⟩ ?_
 refine V.exec 400 ?_
 simp +contextual (maxSteps := 1000000) only [go_sem,↓reduceIte,reduceCtorEq,yA,yB,uA,uB,uC,uD,uE,uF,hk]
 refine V.loop (fun m ls os => ∃ i : Nat,i ≤ k.L.length ∧ m = k.L.length - i ∧
   ls = [(1,.adr 0 0),(2,.adr 1 0),(4,.ref 2),(14,.val (.row (k.L.map Pair.pv))),(15,.val (.int .i64 k.L.length)),(16,.val (.int .i64 i))] ∧
   os = [.box true [.val (.row (k.L.map Pair.pv)),.val (.row (k.T.map Change.pv)),.val (.row (k.S.map Sub.pv)),.val (.int .i64 k.seq),.val (.int .i64 k.floor)],
    .box true [.val .nilp,.nils,.nils,.val (.int .i64 0),.val (.int .i64 0)],.row 72 (((k.L.take i).map noteP).map Note.pv)]) 3 k.L.length
  [(1,.adr 0 0),(2,.adr 1 0),(4,.ref 2),(14,.val (.row (k.L.map Pair.pv))),(15,.val (.int .i64 k.L.length)),(16,.val (.int .i64 0))]
  [.box true [.val (.row (k.L.map Pair.pv)),.val (.row (k.T.map Change.pv)),.val (.row (k.S.map Sub.pv)),.val (.int .i64 k.seq),.val (.int .i64 k.floor)],
    .box true [.val .nilp,.nils,.nils,.val (.int .i64 0),.val (.int .i64 0)],.row 72 []]
  [some 1,some 2,none] ⟨0,Nat.zero_le _,rfl,rfl,rfl⟩ (by simp only [go_sem,↓reduceIte,reduceCtorEq,yA,yB,uA,uB,uC,uD,uE,uF]; try decide) ?_
 rintro m ls os ⟨i,hi,rfl,rfl,rfl⟩
 refine V.exec 400 ?_
 by_cases hlt : i < k.L.length
 ·have hlt' : (i : Int) < (k.L.length : Int) := by omega
  obtain ⟨x,hx⟩ : ∃ x,k.L[i]? = some x := ⟨_,List.getElem?_eq_getElem hlt⟩
  have hwi : IntKind.i64.wrap ((i : Int) + 1) = ((i + 1 : Nat) : Int) := by rw [wrap_small3] <;> omega
  have et : (k.L.take (i + 1)).map noteP = (k.L.take i).map noteP ++ [noteP x] := by rw [List.take_add_one,hx]; simp
  have hlen : ((k.L.take i).map noteP).length ≤ 60 := by simp; omega
  generalize (k.L.take i).map noteP = Q at *
  simp +contextual (maxSteps := 1000000) only [go_sem,↓reduceIte,reduceCtorEq,yA,yB,uA,uB,uC,uD,uE,uF,hlt',hx,Pair.pv,hwi]
  refine ⟨⟨by omega,by omega⟩,k.L.length - (i + 1),_,_,[some 0,some 1,some 15],by omega,⟨i + 1,by omega,rfl,rfl,rfl⟩,?_⟩
  simp only [go_sem,↓reduceIte,reduceCtorEq,yA,yB,uA,uB,uC,uD,uE,uF,et,List.map_append,List.map_cons,List.map_nil,Note.pv,noteP]
  try decide
 ·have hlt' : ¬ (i : Int) < (k.L.length : Int) := by omega
  obtain rfl : i = k.L.length := by omega
  have et : (k.L.take k.L.length).map noteP = k.L.map noteP := by rw [List.take_length]
  rw [et]
  simp +contextual (maxSteps := 1000000) only [go_sem,↓reduceIte,reduceCtorEq,yA,yB,uA,uB,uC,uD,uE,uF,hlt']
  refine V.call rfl rfl (by simp [dOK]) ⟨63,[],by simp only [go_sem,↓reduceIte,reduceCtorEq,yA,yB,uA,uB,uC,uD,uE,uF],⟨_,rfl,rfl,rfl⟩,.inl ⟨[.agg [trX none],.row ((k.L.map noteP).map Note.pv)],_,.inl (by simp only [go_sem,↓reduceIte,reduceCtorEq,yA,yB,uA,uB,uC,uD,uE,uF,trX]),ca,.inr (.inl ⟨_,rfl,rfl,rfl⟩)⟩⟩ ?_
  refine V.exec 400 ?_
  simp +contextual (maxSteps := 1000000) only [go_sem,↓reduceIte,reduceCtorEq,yA,yB,uA,uB,uC,uD,uE,uF,trX_cells,trX_agg]
  refine DV.call [] [] (by simp only [go_sem,↓reduceIte,reduceCtorEq,yA,yB,uA,uB,uC,uD,uE,uF]) (by simp [dOK]) ⟨54,[],by simp only [go_sem,↓reduceIte,reduceCtorEq,yA,yB,uA,uB,uC,uD,uE,uF],⟨_,rfl,rfl,rfl⟩,.inl ⟨[.row (k.T.map Change.pv)],_,.inl (by simp only [go_sem,↓reduceIte,reduceCtorEq,yA,yB,uA,uB,uC,uD,uE,uF]),c2,.inr (.inl ⟨_,rfl,rfl,rfl⟩)⟩⟩ (by simp only [go_sem,↓reduceIte,reduceCtorEq,yA,yB,uA,uB,uC,uD,uE,uF]) (by simp only [go_sem,↓reduceIte,reduceCtorEq,yA,yB,uA,uB,uC,uD,uE,uF]) (by simp only [go_sem,↓reduceIte,reduceCtorEq,yA,yB,uA,uB,uC,uD,uE,uF]) (by simp) ?_
  refine DV.exec 400 ?_
  simp +contextual (maxSteps := 1000000) only [go_sem,↓reduceIte,reduceCtorEq,yA,yB,uA,uB,uC,uD,uE,uF,trX_cells,trX_agg]
  refine DV.call [] [] (by simp only [go_sem,↓reduceIte,reduceCtorEq,yA,yB,uA,uB,uC,uD,uE,uF]) (by simp [dOK]) ⟨55,[],by simp only [go_sem,↓reduceIte,reduceCtorEq,yA,yB,uA,uB,uC,uD,uE,uF],⟨_,rfl,rfl,rfl⟩,.inl ⟨[.row (k.S.map Sub.pv)],_,.inl (by simp only [go_sem,↓reduceIte,reduceCtorEq,yA,yB,uA,uB,uC,uD,uE,uF]),c3,.inr (.inl ⟨_,rfl,rfl,rfl⟩)⟩⟩ (by simp only [go_sem,↓reduceIte,reduceCtorEq,yA,yB,uA,uB,uC,uD,uE,uF]) (by simp only [go_sem,↓reduceIte,reduceCtorEq,yA,yB,uA,uB,uC,uD,uE,uF]) (by simp only [go_sem,↓reduceIte,reduceCtorEq,yA,yB,uA,uB,uC,uD,uE,uF]) (by simp) ?_
  refine DV.exec 400 ?_
  simp +contextual (maxSteps := 1000000) only [go_sem,↓reduceIte,reduceCtorEq,yA,yB,uA,uB,uC,uD,uE,uF,trX_cells,trX_agg,storeX]
  kernel_rfl
theorem tlK_get (k : KSt) (l : List Cmd) : ∀ i,i ≤ l.length → ∀ j c,j < i → l[j]? = some c → (tlK k l i)[j]? = some (doK (stK k l j) c).2
 | 0,_,j,c,hj,_ => by omega
 | i + 1,hi,j,c,hj,hc => by
  have hx : l[i]? = some l[i] := List.getElem?_eq_getElem (by omega)
  rw [tlK_succ k l hx]
  have hlen := tlK_len k l i (by omega)
  by_cases he : j = i
  ·subst he
   rw [hx] at hc; cases hc
   rw [List.getElem?_append_right (by omega),hlen]
   simp
  ·rw [List.getElem?_append_left (by omega)]
   exact tlK_get k l i (by omega) j c (by omega) hc
set_option maxRecDepth 20000 in
set_option maxHeartbeats 32000000 in
theorem law_Parts (l m : List Cmd) (hl : l.length ≤ maxLen) (hm : m.length ≤ maxLen) : Ct Tryz.prog 10 (Zv.ops [.row (l.map Cmd.pv),.row (m.map Cmd.pv)]) (.vals [.bool true]) := by
 have hmax : maxLen = 9223372036854775807 := rfl
 rw [hmax] at hl hm
 have aw := law_awake
 have cf := law_Few l 20 hl (by decide)
 have cg := law_Few m 20 hm (by decide)
 rw [show ((20 : Nat) : Int) = 20 from rfl] at cf cg
 obtain ⟨n,hn⟩ : ∃ n,min l.length 20 = n := ⟨_,rfl⟩
 obtain ⟨k,hk⟩ : ∃ k,min m.length 20 = k := ⟨_,rfl⟩
 have hnl : n ≤ l.length := by omega
 have hn20 : n ≤ 20 := by omega
 have hkl : k ≤ m.length := by omega
 have hk20 : k ≤ 20 := by omega
 rw [hn] at cf
 rw [hk] at cg
 have hmt : (l.map Cmd.pv).take n = (l.take n).map Cmd.pv := by rw [List.map_take]
 have hmu : (m.map Cmd.pv).take k = (m.take k).map Cmd.pv := by rw [List.map_take]
 have hm1 : (-1 : Int) < 0 := by decide
 refine Ct.of_V Tryz.func10 rfl (by simp [Zv.ops,Tryz.f10]) ?_
 refine V.exec 400 ?_
 simp +contextual (maxSteps := 1000000) only [go_sem,↓reduceIte,reduceCtorEq,yA,yB,uA,uB,uC,uD,uE,uF,Tryz.f10]
 refine V.call rfl rfl (by simp [dOK]) ⟨12,[],by simp only [go_sem,↓reduceIte,reduceCtorEq,yA,yB,uA,uB,uC,uD,uE,uF],⟨_,rfl,rfl,rfl⟩,.inl ⟨[.row (l.map Cmd.pv),.int .i64 20],_,.inl (by simp only [go_sem,↓reduceIte,reduceCtorEq,yA,yB,uA,uB,uC,uD,uE,uF]),cf,.inl ⟨_,rfl,rfl,rfl,rfl⟩⟩⟩ ?_
 refine V.exec 400 ?_
 simp +contextual (maxSteps := 1000000) only [go_sem,↓reduceIte,reduceCtorEq,yA,yB,uA,uB,uC,uD,uE,uF]
 refine V.call rfl rfl (by simp [dOK]) ⟨12,[],by simp only [go_sem,↓reduceIte,reduceCtorEq,yA,yB,uA,uB,uC,uD,uE,uF],⟨_,rfl,rfl,rfl⟩,.inl ⟨[.row (m.map Cmd.pv),.int .i64 20],_,.inl (by simp only [go_sem,↓reduceIte,reduceCtorEq,yA,yB,uA,uB,uC,uD,uE,uF]),cg,.inl ⟨_,rfl,rfl,rfl,rfl⟩⟩⟩ ?_
 refine V.exec 400 ?_
 by_cases hf : fewK l n
 ·have hn0 : ¬ (n : Int) < 0 := by omega
  by_cases hg : fewK m k
  ·have hk0 : ¬ (k : Int) < 0 := by omega
   have hal : (l.take n).length = n := by rw [List.length_take]; omega
   have hbl : (m.take k).length = k := by rw [List.length_take]; omega
   have hsa := slim_len hf
   have hsb := slim_len hg
   generalize l.take n = a at *
   generalize m.take k = b at *
   obtain ⟨u0,H0,cr,g0⟩ := keeper_Run GoodT.empty zero_ok a hsa (by omega) (by omega)
   have ok0 := stK_ok zero_ok a a.length
   obtain ⟨u1,H1,cs,g1⟩ := keeper_Run g0 ok0 b hsb (by omega) (by omega)
   have ok1 := stK_ok ok0 b b.length
   obtain ⟨u2,H2,ct,g2⟩ := keeper_Run GoodT.empty zero_ok (a ++ b) (fun c hc => by
    rcases List.mem_append.1 hc with hc | hc
    ·exact hsa c hc
    ·exact hsb c hc) (by rw [List.length_append]; omega) (by rw [List.length_append]; omega)
   rw [List.length_append,stK_app,tlK_app _ a b b.length (Nat.le_refl _)] at ct
   rw [List.length_append,stK_app] at g2
   obtain ⟨hL0,hT0,hS0⟩ := ok0.lens
   obtain ⟨hL1,hT1,hS1⟩ := ok1.lens
   have sh0 := keeper_Show g0 (by omega) (by omega) (by omega)
   have sh1 := keeper_Show g1 (by omega) (by omega) (by omega)
   have sh2 := keeper_Show g2 (by omega) (by omega) (by omega)
   obtain ⟨v0,H3,co,g3⟩ := keeper_Of ok0
   obtain ⟨v1,H4,cv,g4⟩ := keeper_Run g3 ok0 b hsb (by omega) (by omega)
   have sh4 := keeper_Show g4 (by omega) (by omega) (by omega)
   have hta := tlK_len KSt.zero a a.length (Nat.le_refl _)
   have htb := tlK_len (stK KSt.zero a a.length) b b.length (Nat.le_refl _)
   have hget := tlK_get (stK KSt.zero a a.length) b b.length (Nat.le_refl _)
   have hok := stK_ok ok0 b
   generalize tlK KSt.zero a a.length = TA at *
   generalize tlK (stK KSt.zero a a.length) b b.length = TB at *
   have hTB : ∀ (j : Nat) (x : Tell),TB[j]? = some x → x.k.ps.length ≤ 1000 ∧ x.k.cs.length ≤ 1000 := fun j x hx => by
    have hj : j < b.length := by rw [← htb]; exact (List.getElem?_eq_some_iff.1 hx).1
    have := hget j b[j] hj (List.getElem?_eq_getElem hj)
    rw [hx] at this
    cases this
    exact tell_len (hok j) _
   generalize stK (stK KSt.zero a a.length) b b.length = K1 at *
   generalize stK KSt.zero a a.length = K0 at *
   subst hal hbl
   have rf1 := law_Ref K1 (by omega)
   have ss1 := state_self K1 (by omega) (by omega) (by omega)
   rw [List.map_append] at ct
   simp +contextual (maxSteps := 1000000) only [go_sem,↓reduceIte,reduceCtorEq,yA,yB,uA,uB,uC,uD,uE,uF,hf,hg,hn0,hk0,hmt]
   refine ⟨by omega,?_⟩
   refine V.call rfl rfl (by simp [dOK]) ⟨21,[],by simp only [go_sem,↓reduceIte,reduceCtorEq,yA,yB,uA,uB,uC,uD,uE,uF],⟨_,rfl,rfl,rfl⟩,.inl ⟨[storeX none KSt.zero,.row (a.map Cmd.pv)],_,.inl (by simp only [go_sem,↓reduceIte,reduceCtorEq,yA,yB,uA,uB,uC,uD,uE,uF,storeX,KSt.zero,trX,List.map_nil]),cr,.inr (.inl ⟨_,rfl,rfl,rfl⟩)⟩⟩ ?_
   refine V.exec 400 ?_
   simp +contextual (maxSteps := 1000000) only [go_sem,↓reduceIte,reduceCtorEq,yA,yB,uA,uB,uC,uD,uE,uF,storeX,trX_cells,trX_agg,hmu]
   refine ⟨by omega,?_⟩
   refine DV.call [] [] (by simp only [go_sem,↓reduceIte,reduceCtorEq,yA,yB,uA,uB,uC,uD,uE,uF,storeX]) (by simp [dOK]) ⟨21,[],by simp only [go_sem,↓reduceIte,reduceCtorEq,yA,yB,uA,uB,uC,uD,uE,uF,storeX],⟨_,rfl,rfl,rfl⟩,.inl ⟨[storeX u0 K0,.row (b.map Cmd.pv)],_,.inl (by simp only [go_sem,↓reduceIte,reduceCtorEq,yA,yB,uA,uB,uC,uD,uE,uF,storeX]),cs,.inr (.inl ⟨_,rfl,rfl,rfl⟩)⟩⟩ (by simp only [go_sem,↓reduceIte,reduceCtorEq,yA,yB,uA,uB,uC,uD,uE,uF,storeX]) (by simp only [go_sem,↓reduceIte,reduceCtorEq,yA,yB,uA,uB,uC,uD,uE,uF,storeX]) (by simp only [go_sem,↓reduceIte,reduceCtorEq,yA,yB,uA,uB,uC,uD,uE,uF,storeX]) (by simp) ?_
   refine DV.exec 400 ?_
   simp +contextual (maxSteps := 1000000) only [go_sem,↓reduceIte,reduceCtorEq,yA,yB,uA,uB,uC,uD,uE,uF,storeX,trX_cells,trX_agg,hmt,hmu]
   refine ⟨by kernel_rfl,by omega,fun _ _ => rfl,⟨by omega,by omega⟩,by omega,fun _ _ => rfl,⟨by omega,by omega⟩,?_⟩
   refine DV.call [46] [46] (by simp only [go_sem,↓reduceIte,reduceCtorEq,yA,yB,uA,uB,uC,uD,uE,uF,storeX,KSt.zero,trX,List.map_nil]) (by simp [dOK]) ⟨21,[],by simp only [go_sem,↓reduceIte,reduceCtorEq,yA,yB,uA,uB,uC,uD,uE,uF,storeX,KSt.zero,trX,List.map_nil],⟨_,rfl,rfl,rfl⟩,.inl ⟨[storeX none KSt.zero,.row (a.map Cmd.pv ++ b.map Cmd.pv)],_,.inl (by simp only [go_sem,↓reduceIte,reduceCtorEq,yA,yB,uA,uB,uC,uD,uE,uF,storeX,KSt.zero,trX,List.map_nil]),ct,.inr (.inl ⟨_,rfl,rfl,rfl⟩)⟩⟩ (by simp only [go_sem,↓reduceIte,reduceCtorEq,yA,yB,uA,uB,uC,uD,uE,uF,storeX,KSt.zero,trX,List.map_nil]) (by simp only [go_sem,↓reduceIte,reduceCtorEq,yA,yB,uA,uB,uC,uD,uE,uF,storeX,KSt.zero,trX,List.map_nil]) (by simp only [go_sem,↓reduceIte,reduceCtorEq,yA,yB,uA,uB,uC,uD,uE,uF,storeX,KSt.zero,trX,List.map_nil]) (by simp) ?_
   refine DV.exec 400 ?_
   simp +contextual (maxSteps := 1000000) only [go_sem,↓reduceIte,reduceCtorEq,yA,yB,uA,uB,uC,uD,uE,uF,storeX,trX_cells,trX_agg]
   refine ⟨by kernel_rfl,?_⟩
   refine V.call rfl rfl (by simp [dOK]) ⟨20,[],by simp only [go_sem,↓reduceIte,reduceCtorEq,yA,yB,uA,uB,uC,uD,uE,uF],⟨_,rfl,rfl,rfl⟩,.inl ⟨[storeX u0 K0],_,.inl (by simp only [go_sem,↓reduceIte,reduceCtorEq,yA,yB,uA,uB,uC,uD,uE,uF,storeX]),sh0,.inr (.inl ⟨_,rfl,rfl,rfl⟩)⟩⟩ ?_
   refine V.exec 400 ?_
   simp +contextual (maxSteps := 1000000) only [go_sem,↓reduceIte,reduceCtorEq,yA,yB,uA,uB,uC,uD,uE,uF,KSt.pv]
   refine V.call rfl rfl (by simp [dOK]) ⟨26,[],by simp only [go_sem,↓reduceIte,reduceCtorEq,yA,yB,uA,uB,uC,uD,uE,uF],⟨_,rfl,rfl,rfl⟩,.inl ⟨[K0.pv],_,.inl (by simp only [go_sem,↓reduceIte,reduceCtorEq,yA,yB,uA,uB,uC,uD,uE,uF,KSt.pv]),co,.inr (.inl ⟨_,rfl,rfl,rfl⟩)⟩⟩ ?_
   refine V.exec 400 ?_
   simp +contextual (maxSteps := 1000000) only [go_sem,↓reduceIte,reduceCtorEq,yA,yB,uA,uB,uC,uD,uE,uF,storeX,trX_cells,trX_agg,hmu]
   refine ⟨by omega,?_⟩
   refine DV.call [] [] (by simp only [go_sem,↓reduceIte,reduceCtorEq,yA,yB,uA,uB,uC,uD,uE,uF,storeX]) (by simp [dOK]) ⟨21,[],by simp only [go_sem,↓reduceIte,reduceCtorEq,yA,yB,uA,uB,uC,uD,uE,uF,storeX],⟨_,rfl,rfl,rfl⟩,.inl ⟨[storeX v0 K0,.row (b.map Cmd.pv)],_,.inl (by simp only [go_sem,↓reduceIte,reduceCtorEq,yA,yB,uA,uB,uC,uD,uE,uF,storeX]),cv,.inr (.inl ⟨_,rfl,rfl,rfl⟩)⟩⟩ (by simp only [go_sem,↓reduceIte,reduceCtorEq,yA,yB,uA,uB,uC,uD,uE,uF,storeX]) (by simp only [go_sem,↓reduceIte,reduceCtorEq,yA,yB,uA,uB,uC,uD,uE,uF,storeX]) (by simp only [go_sem,↓reduceIte,reduceCtorEq,yA,yB,uA,uB,uC,uD,uE,uF,storeX]) (by simp) ?_
   refine DV.exec 400 ?_
   have hwn : IntKind.i64.wrap ((a.length : Int) + (b.length : Int)) = ((a.length + b.length : Nat) : Int) := by rw [wrap_small3] <;> omega
   have hlc : (TA ++ TB).length = a.length + b.length := by rw [List.length_append,hta,htb]
   simp +contextual (maxSteps := 1000000) only [go_sem,↓reduceIte,reduceCtorEq,yA,yB,uA,uB,uC,uD,uE,uF,storeX,trX_cells,trX_agg,hta,htb,hwn,hlc]
   refine ⟨by kernel_rfl,?_⟩
   refine V.loop (fun m' ls os => ∃ i : Nat,i ≤ b.length ∧ m' = b.length - i ∧
     ls = [(5,.val (.int .i64 a.length)),(9,.adr 0 0),(10,.val (.row (TB.map Tell.pv))),(11,.adr 1 0),(12,.val (.row ((TA ++ TB).map Tell.pv))),(13,.adr 2 0),(15,.val (.row (TB.map Tell.pv))),(102,.val (.int .i64 b.length)),(103,.val (.int .i64 i))] ∧ os = [sbox u1 K1,sbox u2 K1,sbox v1 K1]) 3 b.length
    [(5,.val (.int .i64 a.length)),(9,.adr 0 0),(10,.val (.row (TB.map Tell.pv))),(11,.adr 1 0),(12,.val (.row ((TA ++ TB).map Tell.pv))),(13,.adr 2 0),(15,.val (.row (TB.map Tell.pv))),(102,.val (.int .i64 b.length)),(103,.val (.int .i64 0))] [sbox u1 K1,sbox u2 K1,sbox v1 K1] [some 34,some 51,some 60]
    ⟨0,Nat.zero_le _,rfl,rfl,rfl⟩ (by simp only [go_sem,↓reduceIte,reduceCtorEq,yA,yB,uA,uB,uC,uD,uE,uF,sbox,trX_agg,htb]; try decide) ?_
   rintro m' ls os ⟨i,hi,rfl,rfl,rfl⟩
   refine V.exec 400 ?_
   by_cases hlt : i < b.length
   ·have hlt' : (i : Int) < (b.length : Int) := by omega
    obtain ⟨x,hx⟩ : ∃ x,TB[i]? = some x := ⟨_,List.getElem?_eq_getElem (by omega)⟩
    have hx2 : (TA ++ TB)[a.length + i]? = some x := by rw [List.getElem?_append_right (by omega),hta,Nat.add_sub_cancel_left,hx]
    have hwi : IntKind.i64.wrap ((i : Int) + 1) = ((i + 1 : Nat) : Int) := by rw [wrap_small3] <;> omega
    have hwj : IntKind.i64.wrap ((a.length : Int) + (i : Int)) = ((a.length + i : Nat) : Int) := by rw [wrap_small3] <;> omega
    have hlj : ((a.length + i : Nat) : Int) < ((a.length + b.length : Nat) : Int) := by omega
    have hxl := hTB i x hx
    have rp := law_Reply x
    have td := told_self x (by omega) (by omega)
    simp +contextual (maxSteps := 1000000) only [go_sem,↓reduceIte,reduceCtorEq,yA,yB,uA,uB,uC,uD,uE,uF,hlt',hx,hx2,hwj,hlc,htb,hlj,Tell.pv]
    refine DV.call [] [] (by simp only [go_sem,↓reduceIte,reduceCtorEq,yA,yB,uA,uB,uC,uD,uE,uF,Tell.pv]) (by simp [dOK]) ⟨17,[],by simp only [go_sem,↓reduceIte,reduceCtorEq,yA,yB,uA,uB,uC,uD,uE,uF,Tell.pv],⟨_,rfl,rfl,rfl⟩,.inl ⟨[x.pv],_,.inl (by simp only [go_sem,↓reduceIte,reduceCtorEq,yA,yB,uA,uB,uC,uD,uE,uF,Tell.pv]),rp,.inr (.inl ⟨_,rfl,rfl,rfl⟩)⟩⟩ (by simp only [go_sem,↓reduceIte,reduceCtorEq,yA,yB,uA,uB,uC,uD,uE,uF,Tell.pv]) (by simp only [go_sem,↓reduceIte,reduceCtorEq,yA,yB,uA,uB,uC,uD,uE,uF,Tell.pv]) (by simp only [go_sem,↓reduceIte,reduceCtorEq,yA,yB,uA,uB,uC,uD,uE,uF,Tell.pv]) (by simp) ?_
    refine DV.exec 400 ?_
    simp +contextual (maxSteps := 1000000) only [go_sem,↓reduceIte,reduceCtorEq,yA,yB,uA,uB,uC,uD,uE,uF,Tell.pv,hlt',hx,hx2,hwj,hlc,htb,hlj]
    refine DV.call [] [] (by simp only [go_sem,↓reduceIte,reduceCtorEq,yA,yB,uA,uB,uC,uD,uE,uF,Tell.pv]) (by simp [dOK]) ⟨17,[],by simp only [go_sem,↓reduceIte,reduceCtorEq,yA,yB,uA,uB,uC,uD,uE,uF,Tell.pv],⟨_,rfl,rfl,rfl⟩,.inl ⟨[x.pv],_,.inl (by simp only [go_sem,↓reduceIte,reduceCtorEq,yA,yB,uA,uB,uC,uD,uE,uF,Tell.pv]),rp,.inr (.inl ⟨_,rfl,rfl,rfl⟩)⟩⟩ (by simp only [go_sem,↓reduceIte,reduceCtorEq,yA,yB,uA,uB,uC,uD,uE,uF,Tell.pv]) (by simp only [go_sem,↓reduceIte,reduceCtorEq,yA,yB,uA,uB,uC,uD,uE,uF,Tell.pv]) (by simp only [go_sem,↓reduceIte,reduceCtorEq,yA,yB,uA,uB,uC,uD,uE,uF,Tell.pv]) (by simp) ?_
    refine DV.exec 400 ?_
    simp +contextual (maxSteps := 1000000) only [go_sem,↓reduceIte,reduceCtorEq,yA,yB,uA,uB,uC,uD,uE,uF,Tell.pv,hlt',hx,hx2,hwj,hlc,htb,hlj]
    refine DV.call [] [] (by simp only [go_sem,↓reduceIte,reduceCtorEq,yA,yB,uA,uB,uC,uD,uE,uF,Tell.pv]) (by simp [dOK]) ⟨16,[],by simp only [go_sem,↓reduceIte,reduceCtorEq,yA,yB,uA,uB,uC,uD,uE,uF,Tell.pv],⟨_,rfl,rfl,rfl⟩,.inl ⟨[x.pv,x.pv],_,.inl (by simp only [go_sem,↓reduceIte,reduceCtorEq,yA,yB,uA,uB,uC,uD,uE,uF,Tell.pv]),td,.inl ⟨_,rfl,rfl,rfl,rfl⟩⟩⟩ (by simp only [go_sem,↓reduceIte,reduceCtorEq,yA,yB,uA,uB,uC,uD,uE,uF,Tell.pv]) (by simp only [go_sem,↓reduceIte,reduceCtorEq,yA,yB,uA,uB,uC,uD,uE,uF,Tell.pv]) (by simp only [go_sem,↓reduceIte,reduceCtorEq,yA,yB,uA,uB,uC,uD,uE,uF,Tell.pv]) (by simp) ?_
    refine DV.exec 400 ?_
    simp +contextual (maxSteps := 1000000) only [go_sem,↓reduceIte,reduceCtorEq,yA,yB,uA,uB,uC,uD,uE,uF,Tell.pv,hlt',hx,hx2,hwj,hlc,htb,hlj]
    refine DV.call [] [] (by simp only [go_sem,↓reduceIte,reduceCtorEq,yA,yB,uA,uB,uC,uD,uE,uF,Tell.pv]) (by simp [dOK]) ⟨17,[],by simp only [go_sem,↓reduceIte,reduceCtorEq,yA,yB,uA,uB,uC,uD,uE,uF,Tell.pv],⟨_,rfl,rfl,rfl⟩,.inl ⟨[x.pv],_,.inl (by simp only [go_sem,↓reduceIte,reduceCtorEq,yA,yB,uA,uB,uC,uD,uE,uF,Tell.pv]),rp,.inr (.inl ⟨_,rfl,rfl,rfl⟩)⟩⟩ (by simp only [go_sem,↓reduceIte,reduceCtorEq,yA,yB,uA,uB,uC,uD,uE,uF,Tell.pv]) (by simp only [go_sem,↓reduceIte,reduceCtorEq,yA,yB,uA,uB,uC,uD,uE,uF,Tell.pv]) (by simp only [go_sem,↓reduceIte,reduceCtorEq,yA,yB,uA,uB,uC,uD,uE,uF,Tell.pv]) (by simp) ?_
    refine DV.exec 400 ?_
    simp +contextual (maxSteps := 1000000) only [go_sem,↓reduceIte,reduceCtorEq,yA,yB,uA,uB,uC,uD,uE,uF,Tell.pv,hlt',hx,hx2,hwj,hlc,htb,hlj]
    refine DV.call [] [] (by simp only [go_sem,↓reduceIte,reduceCtorEq,yA,yB,uA,uB,uC,uD,uE,uF,Tell.pv]) (by simp [dOK]) ⟨17,[],by simp only [go_sem,↓reduceIte,reduceCtorEq,yA,yB,uA,uB,uC,uD,uE,uF,Tell.pv],⟨_,rfl,rfl,rfl⟩,.inl ⟨[x.pv],_,.inl (by simp only [go_sem,↓reduceIte,reduceCtorEq,yA,yB,uA,uB,uC,uD,uE,uF,Tell.pv]),rp,.inr (.inl ⟨_,rfl,rfl,rfl⟩)⟩⟩ (by simp only [go_sem,↓reduceIte,reduceCtorEq,yA,yB,uA,uB,uC,uD,uE,uF,Tell.pv]) (by simp only [go_sem,↓reduceIte,reduceCtorEq,yA,yB,uA,uB,uC,uD,uE,uF,Tell.pv]) (by simp only [go_sem,↓reduceIte,reduceCtorEq,yA,yB,uA,uB,uC,uD,uE,uF,Tell.pv]) (by simp) ?_
    refine DV.exec 400 ?_
    simp +contextual (maxSteps := 1000000) only [go_sem,↓reduceIte,reduceCtorEq,yA,yB,uA,uB,uC,uD,uE,uF,Tell.pv,hlt',hx,hx2,hwj,hlc,htb,hlj]
    refine DV.call [] [] (by simp only [go_sem,↓reduceIte,reduceCtorEq,yA,yB,uA,uB,uC,uD,uE,uF,Tell.pv]) (by simp [dOK]) ⟨16,[],by simp only [go_sem,↓reduceIte,reduceCtorEq,yA,yB,uA,uB,uC,uD,uE,uF,Tell.pv],⟨_,rfl,rfl,rfl⟩,.inl ⟨[x.pv,x.pv],_,.inl (by simp only [go_sem,↓reduceIte,reduceCtorEq,yA,yB,uA,uB,uC,uD,uE,uF,Tell.pv]),td,.inl ⟨_,rfl,rfl,rfl,rfl⟩⟩⟩ (by simp only [go_sem,↓reduceIte,reduceCtorEq,yA,yB,uA,uB,uC,uD,uE,uF,Tell.pv]) (by simp only [go_sem,↓reduceIte,reduceCtorEq,yA,yB,uA,uB,uC,uD,uE,uF,Tell.pv]) (by simp only [go_sem,↓reduceIte,reduceCtorEq,yA,yB,uA,uB,uC,uD,uE,uF,Tell.pv]) (by simp) ?_
    refine DV.exec 400 ?_
    simp +contextual (maxSteps := 1000000) only [go_sem,↓reduceIte,reduceCtorEq,yA,yB,uA,uB,uC,uD,uE,uF,hwi]
    refine ⟨by kernel_rfl,b.length - (i + 1),_,_,[some 0,some 1,some 2],by omega,⟨i + 1,by omega,rfl,rfl,rfl⟩,by simp only [go_sem,↓reduceIte,reduceCtorEq,yA,yB,uA,uB,uC,uD,uE,uF,sbox,trX_agg]; try decide⟩
   ·have hlt' : ¬ (i : Int) < (b.length : Int) := by omega
    simp +contextual (maxSteps := 1000000) only [go_sem,↓reduceIte,reduceCtorEq,yA,yB,uA,uB,uC,uD,uE,uF,hlt',trX_agg,trX_cells]
    refine V.call rfl rfl (by simp [dOK]) ⟨20,[],by simp only [go_sem,↓reduceIte,reduceCtorEq,yA,yB,uA,uB,uC,uD,uE,uF],⟨_,rfl,rfl,rfl⟩,.inl ⟨[storeX u1 K1],_,.inl (by simp only [go_sem,↓reduceIte,reduceCtorEq,yA,yB,uA,uB,uC,uD,uE,uF,storeX]),sh1,.inr (.inl ⟨_,rfl,rfl,rfl⟩)⟩⟩ ?_
    refine V.exec 400 ?_
    simp +contextual (maxSteps := 1000000) only [go_sem,↓reduceIte,reduceCtorEq,yA,yB,uA,uB,uC,uD,uE,uF,KSt.pv]
    refine V.call rfl rfl (by simp [dOK]) ⟨19,[],by simp only [go_sem,↓reduceIte,reduceCtorEq,yA,yB,uA,uB,uC,uD,uE,uF],⟨_,rfl,rfl,rfl⟩,.inl ⟨[K1.pv],_,.inl (by simp only [go_sem,↓reduceIte,reduceCtorEq,yA,yB,uA,uB,uC,uD,uE,uF,KSt.pv]),rf1,.inr (.inl ⟨_,rfl,rfl,rfl⟩)⟩⟩ ?_
    refine V.exec 400 ?_
    simp +contextual (maxSteps := 1000000) only [go_sem,↓reduceIte,reduceCtorEq,yA,yB,uA,uB,uC,uD,uE,uF,KSt.pv,trX_agg,trX_cells]
    refine DV.call [] [] (by simp only [go_sem,↓reduceIte,reduceCtorEq,yA,yB,uA,uB,uC,uD,uE,uF,storeX]) (by simp [dOK]) ⟨20,[],by simp only [go_sem,↓reduceIte,reduceCtorEq,yA,yB,uA,uB,uC,uD,uE,uF,storeX],⟨_,rfl,rfl,rfl⟩,.inl ⟨[storeX u2 K1],_,.inl (by simp only [go_sem,↓reduceIte,reduceCtorEq,yA,yB,uA,uB,uC,uD,uE,uF,storeX]),sh2,.inr (.inl ⟨_,rfl,rfl,rfl⟩)⟩⟩ (by simp only [go_sem,↓reduceIte,reduceCtorEq,yA,yB,uA,uB,uC,uD,uE,uF,storeX]) (by simp only [go_sem,↓reduceIte,reduceCtorEq,yA,yB,uA,uB,uC,uD,uE,uF,storeX]) (by simp only [go_sem,↓reduceIte,reduceCtorEq,yA,yB,uA,uB,uC,uD,uE,uF,storeX]) (by simp) ?_
    refine DV.exec 400 ?_
    simp +contextual (maxSteps := 1000000) only [go_sem,↓reduceIte,reduceCtorEq,yA,yB,uA,uB,uC,uD,uE,uF,KSt.pv]
    refine DV.call [] [] (by simp only [go_sem,↓reduceIte,reduceCtorEq,yA,yB,uA,uB,uC,uD,uE,uF,KSt.pv]) (by simp [dOK]) ⟨19,[],by simp only [go_sem,↓reduceIte,reduceCtorEq,yA,yB,uA,uB,uC,uD,uE,uF,KSt.pv],⟨_,rfl,rfl,rfl⟩,.inl ⟨[K1.pv],_,.inl (by simp only [go_sem,↓reduceIte,reduceCtorEq,yA,yB,uA,uB,uC,uD,uE,uF,KSt.pv]),rf1,.inr (.inl ⟨_,rfl,rfl,rfl⟩)⟩⟩ (by simp only [go_sem,↓reduceIte,reduceCtorEq,yA,yB,uA,uB,uC,uD,uE,uF,KSt.pv]) (by simp only [go_sem,↓reduceIte,reduceCtorEq,yA,yB,uA,uB,uC,uD,uE,uF,KSt.pv]) (by simp only [go_sem,↓reduceIte,reduceCtorEq,yA,yB,uA,uB,uC,uD,uE,uF,KSt.pv]) (by simp) ?_
    refine DV.exec 400 ?_
    simp +contextual (maxSteps := 1000000) only [go_sem,↓reduceIte,reduceCtorEq,yA,yB,uA,uB,uC,uD,uE,uF,KSt.pv]
    refine DV.call [] [] (by simp only [go_sem,↓reduceIte,reduceCtorEq,yA,yB,uA,uB,uC,uD,uE,uF,KSt.pv]) (by simp [dOK]) ⟨18,[],by simp only [go_sem,↓reduceIte,reduceCtorEq,yA,yB,uA,uB,uC,uD,uE,uF,KSt.pv],⟨_,rfl,rfl,rfl⟩,.inl ⟨[K1.pv,K1.pv],_,.inl (by simp only [go_sem,↓reduceIte,reduceCtorEq,yA,yB,uA,uB,uC,uD,uE,uF,KSt.pv]),ss1,.inl ⟨_,rfl,rfl,rfl,rfl⟩⟩⟩ (by simp only [go_sem,↓reduceIte,reduceCtorEq,yA,yB,uA,uB,uC,uD,uE,uF,KSt.pv]) (by simp only [go_sem,↓reduceIte,reduceCtorEq,yA,yB,uA,uB,uC,uD,uE,uF,KSt.pv]) (by simp only [go_sem,↓reduceIte,reduceCtorEq,yA,yB,uA,uB,uC,uD,uE,uF,KSt.pv]) (by simp) ?_
    refine DV.exec 400 ?_
    simp +contextual (maxSteps := 1000000) only [go_sem,↓reduceIte,reduceCtorEq,yA,yB,uA,uB,uC,uD,uE,uF,trX_agg,trX_cells]
    refine DV.call [] [] (by simp only [go_sem,↓reduceIte,reduceCtorEq,yA,yB,uA,uB,uC,uD,uE,uF,storeX]) (by simp [dOK]) ⟨20,[],by simp only [go_sem,↓reduceIte,reduceCtorEq,yA,yB,uA,uB,uC,uD,uE,uF,storeX],⟨_,rfl,rfl,rfl⟩,.inl ⟨[storeX v1 K1],_,.inl (by simp only [go_sem,↓reduceIte,reduceCtorEq,yA,yB,uA,uB,uC,uD,uE,uF,storeX]),sh4,.inr (.inl ⟨_,rfl,rfl,rfl⟩)⟩⟩ (by simp only [go_sem,↓reduceIte,reduceCtorEq,yA,yB,uA,uB,uC,uD,uE,uF,storeX]) (by simp only [go_sem,↓reduceIte,reduceCtorEq,yA,yB,uA,uB,uC,uD,uE,uF,storeX]) (by simp only [go_sem,↓reduceIte,reduceCtorEq,yA,yB,uA,uB,uC,uD,uE,uF,storeX]) (by simp) ?_
    refine DV.exec 400 ?_
    simp +contextual (maxSteps := 1000000) only [go_sem,↓reduceIte,reduceCtorEq,yA,yB,uA,uB,uC,uD,uE,uF,KSt.pv]
    refine DV.call [] [] (by simp only [go_sem,↓reduceIte,reduceCtorEq,yA,yB,uA,uB,uC,uD,uE,uF,KSt.pv]) (by simp [dOK]) ⟨19,[],by simp only [go_sem,↓reduceIte,reduceCtorEq,yA,yB,uA,uB,uC,uD,uE,uF,KSt.pv],⟨_,rfl,rfl,rfl⟩,.inl ⟨[K1.pv],_,.inl (by simp only [go_sem,↓reduceIte,reduceCtorEq,yA,yB,uA,uB,uC,uD,uE,uF,KSt.pv]),rf1,.inr (.inl ⟨_,rfl,rfl,rfl⟩)⟩⟩ (by simp only [go_sem,↓reduceIte,reduceCtorEq,yA,yB,uA,uB,uC,uD,uE,uF,KSt.pv]) (by simp only [go_sem,↓reduceIte,reduceCtorEq,yA,yB,uA,uB,uC,uD,uE,uF,KSt.pv]) (by simp only [go_sem,↓reduceIte,reduceCtorEq,yA,yB,uA,uB,uC,uD,uE,uF,KSt.pv]) (by simp) ?_
    refine DV.exec 400 ?_
    simp +contextual (maxSteps := 1000000) only [go_sem,↓reduceIte,reduceCtorEq,yA,yB,uA,uB,uC,uD,uE,uF,KSt.pv]
    refine DV.call [] [] (by simp only [go_sem,↓reduceIte,reduceCtorEq,yA,yB,uA,uB,uC,uD,uE,uF,KSt.pv]) (by simp [dOK]) ⟨18,[],by simp only [go_sem,↓reduceIte,reduceCtorEq,yA,yB,uA,uB,uC,uD,uE,uF,KSt.pv],⟨_,rfl,rfl,rfl⟩,.inl ⟨[K1.pv,K1.pv],_,.inl (by simp only [go_sem,↓reduceIte,reduceCtorEq,yA,yB,uA,uB,uC,uD,uE,uF,KSt.pv]),ss1,.inl ⟨_,rfl,rfl,rfl,rfl⟩⟩⟩ (by simp only [go_sem,↓reduceIte,reduceCtorEq,yA,yB,uA,uB,uC,uD,uE,uF,KSt.pv]) (by simp only [go_sem,↓reduceIte,reduceCtorEq,yA,yB,uA,uB,uC,uD,uE,uF,KSt.pv]) (by simp only [go_sem,↓reduceIte,reduceCtorEq,yA,yB,uA,uB,uC,uD,uE,uF,KSt.pv]) (by simp) ?_
    refine DV.exec 400 ?_
    simp +contextual (maxSteps := 1000000) only [go_sem,↓reduceIte,reduceCtorEq,yA,yB,uA,uB,uC,uD,uE,uF]
    refine DV.call [] [] (by simp only [go_sem,↓reduceIte,reduceCtorEq,yA,yB,uA,uB,uC,uD,uE,uF]) (by simp [dOK]) ⟨13,[],by simp only [go_sem,↓reduceIte,reduceCtorEq,yA,yB,uA,uB,uC,uD,uE,uF],⟨_,rfl,rfl,rfl⟩,.inl ⟨[],_,.inl (by simp only [go_sem,↓reduceIte,reduceCtorEq,yA,yB,uA,uB,uC,uD,uE,uF]),aw,.inl ⟨_,rfl,rfl,rfl,rfl⟩⟩⟩ (by simp only [go_sem,↓reduceIte,reduceCtorEq,yA,yB,uA,uB,uC,uD,uE,uF]) (by simp only [go_sem,↓reduceIte,reduceCtorEq,yA,yB,uA,uB,uC,uD,uE,uF]) (by simp only [go_sem,↓reduceIte,reduceCtorEq,yA,yB,uA,uB,uC,uD,uE,uF]) (by simp) ?_
    refine DV.exec 400 ?_
    simp +contextual (maxSteps := 1000000) only [go_sem,↓reduceIte,reduceCtorEq,yA,yB,uA,uB,uC,uD,uE,uF]
    kernel_rfl
  ·simp +contextual (maxSteps := 1000000) only [go_sem,↓reduceIte,reduceCtorEq,yA,yB,uA,uB,uC,uD,uE,uF,hf,hg,hn0,hm1]
   refine V.call rfl rfl (by simp [dOK]) ⟨13,[],by simp only [go_sem,↓reduceIte,reduceCtorEq,yA,yB,uA,uB,uC,uD,uE,uF],⟨_,rfl,rfl,rfl⟩,.inl ⟨[],_,.inl (by simp only [go_sem,↓reduceIte,reduceCtorEq,yA,yB,uA,uB,uC,uD,uE,uF]),aw,.inl ⟨_,rfl,rfl,rfl,rfl⟩⟩⟩ ?_
   refine V.exec 400 ?_
   simp +contextual (maxSteps := 1000000) only [go_sem,↓reduceIte,reduceCtorEq,yA,yB,uA,uB,uC,uD,uE,uF]
 ·simp +contextual (maxSteps := 1000000) only [go_sem,↓reduceIte,reduceCtorEq,yA,yB,uA,uB,uC,uD,uE,uF,hf,hm1]
  refine V.call rfl rfl (by simp [dOK]) ⟨13,[],by simp only [go_sem,↓reduceIte,reduceCtorEq,yA,yB,uA,uB,uC,uD,uE,uF],⟨_,rfl,rfl,rfl⟩,.inl ⟨[],_,.inl (by simp only [go_sem,↓reduceIte,reduceCtorEq,yA,yB,uA,uB,uC,uD,uE,uF]),aw,.inl ⟨_,rfl,rfl,rfl,rfl⟩⟩⟩ ?_
  refine V.exec 400 ?_
  simp +contextual (maxSteps := 1000000) only [go_sem,↓reduceIte,reduceCtorEq,yA,yB,uA,uB,uC,uD,uE,uF]
theorem ctParts (xs0 : List PV) (l0 : xs0.length ≤ maxLen) (h0 : ∀ x ∈ xs0,∃ qs,x = .agg qs ∧ mSs cmdSh qs) (xs1 : List PV) (l1 : xs1.length ≤ maxLen) (h1 : ∀ x ∈ xs1,∃ qs,x = .agg qs ∧ mSs cmdSh qs) : Ct Tryz.prog 10 (Zv.ops [.row xs0,.row xs1]) (.vals [.bool true]) := by
 obtain ⟨l,rfl,_⟩ := cmds_of xs0 h0
 obtain ⟨m,rfl,_⟩ := cmds_of xs1 h1
 exact law_Parts l m (by simpa using l0) (by simpa using l1)
end Go.Proofs.YtfemlllmglaimaaGreat
