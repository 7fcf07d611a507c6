/- A part of a proof: functions of the program, walked. -/
import Derived.Test.YtfemlllmglaimaaGreatGG
set_option linter.unusedVariables false
set_option linter.unusedSimpArgs false
set_option maxRecDepth 8000
namespace Go.Proofs.YtfemlllmglaimaaGreat
open Go Go.Proofs Go.Proofs.Zv Go.Proofs.YtfemlllmglaimaaGreat.Ty
open Nat renaming reduceAdd → uA, reduceLT → uB, reduceEqDiff → uC, reduceLeDiff → uD, reduceSub → uE, reduceMul → uF
open Bool renaming false_eq_true → yA, true_eq_false → yB
theorem write_one {k : KSt} (h : k.ok) (hseq : k.seq ≤ 1000) {x : Note} (hx : x.ok) {c : Cmd} (hd : c.d = 1) (hc : c.ns = [x]) :
  ((doK k c).2.err = 5 ∨ (doK k c).2.err = 0) ∧ ((doK k c).2.err = 0 → (doK k c).1.L = oneV k.L x) := by
 have hv : doK k c = writeV k c := by unfold doK; rw [if_pos hd]
 have h0 : 0 ≤ k.seq := by have := h.2.2.2.2.2.1; have := h.2.2.2.2.2.2.1; omega
 have hr : (runV k.L k.seq c.ns).2.2 = 0 := by
  rw [hc]
  unfold runV
  have hb : batchOk [x] ∧ pairsOk k.L ∧ 0 ≤ k.seq ∧ k.seq ≤ 2147483647 := ⟨⟨by simp,fun y hy => by rw [List.mem_singleton] at hy; rw [hy]; exact hx⟩,h.1,h0,by omega⟩
  have hn : ¬ (2147483647 : Int) - (([x] : List Note).length : Int) < k.seq := by simp; omega
  rw [if_pos hb,if_neg hn]
 have w := wrote h hr
 rw [hv]
 unfold writeV
 rw [if_pos hr]
 split
 ·exact ⟨.inl rfl,fun g => absurd g (by simp [Tell.bad])⟩
 ·refine ⟨.inr rfl,fun _ => ?_⟩
  show (runV k.L k.seq c.ns).2.1 = _
  rw [← w.app,hc]
  rfl
theorem doK_seq {k : KSt} (h : k.ok) (c : Cmd) : (doK k c).1.seq ≤ k.seq + 8 := by
 have hw : ∀ (l : List Sub) (n e : Int),(withV k l n e).1.seq ≤ k.seq + 8 := fun l n e => by rw [(with_err k l n e).2.2.2.2.1]; omega
 have z : k.seq ≤ k.seq + 8 := by omega
 unfold doK
 split
 ·unfold writeV
  split
  ·rename_i hr
   have w := wrote h hr
   split
   ·exact z
   ·show k.seq + ((runV k.L k.seq c.ns).1.length : Int) ≤ k.seq + 8
    have := w.len
    omega
  ·exact z
 split
 ·exact z
 split
 ·exact z
 split
 ·exact z
 split
 ·exact hw _ _ _
 split
 ·split
  ·exact z
  ·split
   ·exact z
   ·exact hw _ _ _
 split
 ·exact z
 split
 ·unfold goesV
  split
  ·exact z
  ·split <;> exact hw _ _ _
 split
 ·exact hw _ _ _
 split
 ·exact z
 split
 ·exact z
 ·exact z
theorem stK_seq (l : List Cmd) : ∀ i : Nat,(stK KSt.zero l i).seq ≤ 8 * (i : Int)
 | 0 => by show (0 : Int) ≤ _; omega
 | i + 1 => by
  have ih := stK_seq l i
  cases hx : l[i]? with
  | none =>
   have : stK KSt.zero l (i + 1) = stK KSt.zero l i := by unfold stK; rw [List.take_add_one,hx]; simp
   rw [this]; omega
  | some c =>
   rw [stK_succ _ l hx]
   have := doK_seq (stK_ok zero_ok l i) c
   omega
def putC (k v : List UInt8) : Cmd := ⟨1,[⟨1,k,v,0⟩],[],r0,0,0,0⟩
def delC (k : List UInt8) : Cmd := ⟨1,[⟨2,k,[],0⟩],[],r0,0,0,0⟩
def getC (k : List UInt8) : Cmd := ⟨2,[],k,r0,0,0,0⟩
theorem do_get (k : KSt) (key : List UInt8) : doK k (getC key) = (k,⟨0,0,(getV k.L key).2,(getV k.L key).1,Chunk.zero⟩) := by simp [doK,getC]
theorem gets_law {k : KSt} (h : k.ok) (hseq : k.seq ≤ 900) (key value other : List UInt8) (hk : key.length ≤ 16) (hv : value.length ≤ 32) :
  ((doK k (putC key value)).2.err = 5 ∨ (doK k (putC key value)).2.err = 0) ∧ ((doK (doK k (putC key value)).1 (delC key)).2.err = 5 ∨ (doK (doK k (putC key value)).1 (delC key)).2.err = 0) ∧
  ((doK k (putC key value)).2.err = 0 → (doK (doK k (putC key value)).1 (delC key)).2.err = 0 →
   getV (doK k (putC key value)).1.L key = (value,true) ∧ getV (doK (doK k (putC key value)).1 (delC key)).1.L key = ([],false) ∧ (other ≠ key → getV (doK (doK k (putC key value)).1 (delC key)).1.L other = getV k.L other)) := by
 have hp : Note.ok ⟨1,key,value,0⟩ := ⟨hk,hv,.inl ⟨rfl,rfl⟩⟩
 have hd : Note.ok ⟨2,key,[],0⟩ := ⟨hk,by simp,.inr (.inl ⟨rfl,rfl,rfl⟩)⟩
 obtain ⟨a1,a2⟩ := write_one h (by omega) hp (c := putC key value) rfl rfl
 have ok1 := doK_ok h (putC key value)
 have s1 := doK_seq h (putC key value)
 obtain ⟨b1,b2⟩ := write_one ok1 (by omega) hd (c := delC key) rfl rfl
 have ok2 := doK_ok ok1 (delC key)
 refine ⟨a1,b1,fun e1 e2 => ?_⟩
 have l1 := a2 e1
 have l2 := b2 e2
 have p0 := h.1
 have p1 := ok1.1
 have p2 := ok2.1
 have v1 : ∀ q,val (doK k (putC key value)).1.L q = if q = key then some value else val k.L q := fun q => by
  rw [l1,oneV_val ((pairsOk_iff _).1 p0).1]
  show (if q = key then _ else _) = _
  split
  ·unfold stepO
   cases val k.L q <;> rfl
  ·rfl
 have v2 : ∀ q,val (doK (doK k (putC key value)).1 (delC key)).1.L q = if q = key then none else val k.L q := fun q => by
  rw [l2,oneV_val ((pairsOk_iff _).1 p1).1]
  show (if q = key then _ else _) = _
  split
  ·unfold stepO
   cases val (doK k (putC key value)).1.L q <;> rfl
  ·rename_i hq
   rw [v1,if_neg hq]
 refine ⟨?_,?_,fun ho => ?_⟩
 ·rw [getV_val p1,v1,if_pos rfl]
 ·rw [getV_val p2,v2,if_pos rfl]
 ·rw [getV_val p2,getV_val p0,v2,if_neg ho]
theorem stK_app (k : KSt) (a b : List Cmd) (j : Nat) : stK k (a ++ b) (a.length + j) = stK (stK k a a.length) b j := by
 unfold stK
 rw [List.take_length,List.take_append,List.take_of_length_le (by omega : a.length ≤ a.length + j),List.foldl_append]
 congr 2
 omega
theorem tlK_app (k : KSt) (a b : List Cmd) : ∀ j,j ≤ b.length → tlK k (a ++ b) (a.length + j) = tlK k a a.length ++ tlK (stK k a a.length) b j
 | 0,_ => by
  have : ∀ i,i ≤ a.length → tlK k (a ++ b) i = tlK k a i := by
   intro i
   induction i with
   | zero => intro _; rfl
   | succ i ih =>
    intro hi
    have hx : a[i]? = some a[i] := List.getElem?_eq_getElem (by omega)
    have hx2 : (a ++ b)[i]? = some a[i] := by rw [List.getElem?_append_left (by omega),hx]
    rw [tlK_succ k (a ++ b) hx2,tlK_succ k a hx,ih (by omega)]
    congr 4
    unfold stK
    rw [List.take_append_of_le_length (by omega)]
  rw [Nat.add_zero,this a.length (Nat.le_refl _)]
  simp [tlK]
 | j + 1,hj => by
  have hx : b[j]? = some b[j] := List.getElem?_eq_getElem (by omega)
  have hx2 : (a ++ b)[a.length + j]? = some b[j] := by rw [List.getElem?_append_right (by omega),Nat.add_sub_cancel_left,hx]
  rw [← Nat.add_assoc,tlK_succ k (a ++ b) hx2,tlK_app k a b j (by omega),tlK_succ _ b hx,stK_app,List.append_assoc]
noncomputable def fldA (σ : St) : AV → Option (St × AV)
 | .val p => match stField2 Tryz.prog 59 0 p with
  | some q => some (σ,.val q)
  | none => none
 | _ => none
theorem step_fieldS {σ : St} {i : Nat} {x : Operand} : stepOp Tryz.prog σ i (.field 59 x 0) = fldA σ (σ.ev x) := rfl
theorem fldA_agg {σ : St} {c : PV} {cs : List PV} : fldA σ (.val (.agg (c :: cs))) = some (σ,.val c) := by
 unfold fldA stField2
 simp only [fld59_0,sz32,ag32]
 rfl
def scanP (r : Range) (n : Int) : Cmd := ⟨3,[],[],r,0,0,n⟩
theorem do_scanP {k : KSt} (h : k.ok) {r : Range} (hr : r.ok) {n : Int} (hn : 1 ≤ n) : doK k (scanP r n) = (k,⟨0,0,false,[],⟨(pickV r k.L).take (cutN n (pickV r k.L).length),[],decide (cutN n (pickV r k.L).length < (pickV r k.L).length)⟩⟩) := by
 have h1 : doK k (scanP r n) = (k,pageK k (scanP r n) k.seq) := by simp [doK,scanP]
 rw [h1]
 unfold pageK pageV
 rw [h.now (Int.le_refl _)]
 have h2 : (scanP r n).r.ok ∧ 1 ≤ (scanP r n).n := ⟨hr,hn⟩
 have h3 : ¬ k.seq < k.seq := by omega
 rw [if_pos h2,if_neg h3]
 rfl
theorem u8_rngP {a : Int} (w : (Lit.int .u8 a).wf = true) : 0 ≤ a ∧ a ≤ 255 := by
 simp only [Lit.wf,Bool.and_eq_true,decide_eq_true_eq] at w
 have e1 : IntKind.min .u8 = 0 := by decide
 have e2 : IntKind.max .u8 = 255 := by decide
 rw [e1,e2] at w
 exact w
set_option maxRecDepth 20000 in
set_option maxHeartbeats 32000000 in
theorem law_Pages (l : List Cmd) (hl : l.length ≤ maxLen) (r : Range) (most : Int) (hm0 : 0 ≤ most) (hm1 : most ≤ 255) : Ct Tryz.prog 8 (Zv.ops [.row (l.map Cmd.pv),r.pv,.int .u8 most]) (.vals [.bool true]) := by
 have hmax : maxLen = 9223372036854775807 := rfl
 rw [hmax] at hl
 have aw := law_awake
 have cf := law_Few l 20 hl (by decide)
 rw [show ((20 : Nat) : Int) = 20 from rfl] at cf
 obtain ⟨c,hc⟩ : ∃ c,min l.length 20 = c := ⟨_,rfl⟩
 have hnl : c ≤ l.length := by omega
 have hn20 : c ≤ 20 := by omega
 rw [hc] at cf
 have hmt : (l.map Cmd.pv).take c = (l.take c).map Cmd.pv := by rw [List.map_take]
 have hmm : (-1 : Int) < 0 := by decide
 refine Ct.of_V Tryz.func8 rfl (by simp [Zv.ops,Tryz.f8]) ?_
 refine V.exec 400 ?_
 simp +contextual (maxSteps := 1000000) only [go_sem,↓reduceIte,reduceCtorEq,yA,yB,uA,uB,uC,uD,uE,uF,Tryz.f8,Range.pv]
 refine V.call rfl rfl (by simp [dOK]) ⟨12,[],by simp only [go_sem,↓reduceIte,reduceCtorEq,yA,yB,uA,uB,uC,uD,uE,uF],⟨_,rfl,rfl,rfl⟩,.inl ⟨[.row (l.map Cmd.pv),.int .i64 20],_,.inl (by simp only [go_sem,↓reduceIte,reduceCtorEq,yA,yB,uA,uB,uC,uD,uE,uF]),cf,.inl ⟨_,rfl,rfl,rfl,rfl⟩⟩⟩ ?_
 by_cases hf : fewK l c
 ·have hn0 : ¬ (c : Int) < 0 := by omega
  by_cases h1 : 16 < r.lo.length
  ·have h1' : (16 : Int) < (r.lo.length : Int) := by omega
   refine V.exec 400 ?_
   simp +contextual (maxSteps := 1000000) only [go_sem,↓reduceIte,reduceCtorEq,yA,yB,uA,uB,uC,uD,uE,uF,hf,hn0,h1']
   refine V.call rfl rfl (by simp [dOK]) ⟨13,[],by simp only [go_sem,↓reduceIte,reduceCtorEq,yA,yB,uA,uB,uC,uD,uE,uF],⟨_,rfl,rfl,rfl⟩,.inl ⟨[],_,.inl (by simp only [go_sem,↓reduceIte,reduceCtorEq,yA,yB,uA,uB,uC,uD,uE,uF]),aw,.inl ⟨_,rfl,rfl,rfl,rfl⟩⟩⟩ ?_
   refine V.exec 400 ?_
   simp +contextual (maxSteps := 1000000) only [go_sem,↓reduceIte,reduceCtorEq,yA,yB,uA,uB,uC,uD,uE,uF]
  have h1' : ¬ (16 : Int) < (r.lo.length : Int) := by omega
  by_cases h2 : 17 < r.hi.length
  ·have h2' : (17 : Int) < (r.hi.length : Int) := by omega
   refine V.exec 400 ?_
   simp +contextual (maxSteps := 1000000) only [go_sem,↓reduceIte,reduceCtorEq,yA,yB,uA,uB,uC,uD,uE,uF,hf,hn0,h1',h2']
   refine V.call rfl rfl (by simp [dOK]) ⟨13,[],by simp only [go_sem,↓reduceIte,reduceCtorEq,yA,yB,uA,uB,uC,uD,uE,uF],⟨_,rfl,rfl,rfl⟩,.inl ⟨[],_,.inl (by simp only [go_sem,↓reduceIte,reduceCtorEq,yA,yB,uA,uB,uC,uD,uE,uF]),aw,.inl ⟨_,rfl,rfl,rfl,rfl⟩⟩⟩ ?_
   refine V.exec 400 ?_
   simp +contextual (maxSteps := 1000000) only [go_sem,↓reduceIte,reduceCtorEq,yA,yB,uA,uB,uC,uD,uE,uF]
  have h2' : ¬ (17 : Int) < (r.hi.length : Int) := by omega
  by_cases h3 : r.op = true ∧ r.hi ≠ []
  ·obtain ⟨h3a,h3b⟩ := h3
   refine V.exec 400 ?_
   simp +contextual (maxSteps := 1000000) only [go_sem,↓reduceIte,reduceCtorEq,yA,yB,uA,uB,uC,uD,uE,uF,hf,hn0,h1',h2',h3a,h3b]
   refine V.call rfl rfl (by simp [dOK]) ⟨13,[],by simp only [go_sem,↓reduceIte,reduceCtorEq,yA,yB,uA,uB,uC,uD,uE,uF],⟨_,rfl,rfl,rfl⟩,.inl ⟨[],_,.inl (by simp only [go_sem,↓reduceIte,reduceCtorEq,yA,yB,uA,uB,uC,uD,uE,uF]),aw,.inl ⟨_,rfl,rfl,rfl,rfl⟩⟩⟩ ?_
   refine V.exec 400 ?_
   simp +contextual (maxSteps := 1000000) only [go_sem,↓reduceIte,reduceCtorEq,yA,yB,uA,uB,uC,uD,uE,uF]
  have hrok : ∀ lo : List UInt8,lo.length ≤ 16 → Range.ok ⟨lo,r.hi,r.op⟩ := fun lo hlo => ⟨hlo,by show r.hi.length ≤ 17; omega,fun h => Classical.not_not.1 fun g => h3 ⟨h,g⟩⟩
  have hm2 : 0 ≤ most.tmod 9 := Int.tmod_nonneg 9 hm0
  have hm3 : most.tmod 9 < 9 := Int.tmod_lt_of_pos most (by decide)
  obtain ⟨n,hn⟩ : ∃ n : Nat,(n : Int) = 1 + most.tmod 9 := ⟨(1 + most.tmod 9).toNat,by omega⟩
  have hwa : IntKind.i64.wrap (most.tmod 9) = most.tmod 9 := by rw [wrap_small3] <;> omega
  have hwb : IntKind.i64.wrap (1 + most.tmod 9) = (n : Int) := by rw [wrap_small3] <;> omega
  have h90 : ¬ (9 : Int) = 0 := by decide
  obtain ⟨u0,H0,cr,g0⟩ := run_zero hf hnl (by omega)
  have ok0 := stK_ok zero_ok (l.take c) c
  generalize stK KSt.zero (l.take c) c = K at *
  generalize tlK KSt.zero (l.take c) c = TT at *
  obtain ⟨hL0,hT0,hS0⟩ := ok0.lens
  have sh0 := keeper_Show g0 (by omega) (by omega) (by omega)
  have hsp := ((pairsOk_iff K.L).1 ok0.1).1
  have hPl := pickV_len r K.L
  have cpk := ref03_Pick r K.L (by omega)
  generalize hP : pickV r K.L = P at *
  have cps := pairs_self P (by omega)
  have bx : ∀ lo : List UInt8,(scanP ⟨lo,r.hi,r.op⟩ n).pv = .agg [.int .i64 3,.row [],.str [],.str lo,.str r.hi,.bool (decide (r.op = true)),.int .i64 0,.int .i64 0,.int .i64 n] := fun _ => rfl
  have hopen : (decide (r.op = true) = true ∧ ¬ r.hi = []) = False := eq_false fun h => h3 ⟨by simpa using h.1,h.2⟩
  apply V.join (n := 120) (fun _ : Unit => litSt [(0,.val (.row (l.map Cmd.pv))),(2,.val (.int .u8 most)),(4,.adr 0 0),(7,.val (.int .i64 c))] [.box true [.val (.str r.lo),.val (.str r.hi),.val (.bool (decide (r.op = true)))]] 1) (fun _ => True)
  case main =>
   intro rest
   refine V.execS [4] 400 ?_
   by_cases hop : r.op = true
   ·have hhi : r.hi = [] := Classical.not_not.1 fun g => h3 ⟨hop,g⟩
    have hz0 : ((0 : Nat) : Int) = 0 := rfl
    have h170 : ¬ (17 : Int) < 0 := by decide
    simp +contextual (maxSteps := 1000000) only [go_sem,↓reduceIte,reduceCtorEq,yA,yB,uA,uB,uC,uD,uE,uF,hf,hn0,h1',h2',hop,hhi,hz0,h170]
    refine V.cut 1 _ _ [some 3] ?_ (rest () trivial)
    simp only [go_sem,↓reduceIte,reduceCtorEq,yA,yB,uA,uB,uC,uD,uE,uF,hop,hhi]; try decide
   ·simp +contextual (maxSteps := 1000000) only [go_sem,↓reduceIte,reduceCtorEq,yA,yB,uA,uB,uC,uD,uE,uF,hf,hn0,h1',h2',hop]
    refine V.cut 1 _ _ [some 3] ?_ (rest () trivial)
    simp only [go_sem,↓reduceIte,reduceCtorEq,yA,yB,uA,uB,uC,uD,uE,uF,hop]; try decide
  case rest =>
   rintro _ _
   refine V.exec 400 ?_
   simp +contextual (maxSteps := 1000000) only [go_sem,↓reduceIte,reduceCtorEq,yA,yB,uA,uB,uC,uD,uE,uF,hmt]
   refine ⟨by omega,?_⟩
   refine V.call rfl rfl (by simp [dOK]) ⟨21,[],by simp only [go_sem,↓reduceIte,reduceCtorEq,yA,yB,uA,uB,uC,uD,uE,uF],⟨_,rfl,rfl,rfl⟩,.inl ⟨[storeX none KSt.zero,.row ((l.take c).map Cmd.pv)],_,.inl (by simp only [go_sem,↓reduceIte,reduceCtorEq,yA,yB,uA,uB,uC,uD,uE,uF,storeX,KSt.zero,trX,List.map_nil]),cr,.inr (.inl ⟨_,rfl,rfl,rfl⟩)⟩⟩ ?_
   refine V.exec 400 ?_
   simp +contextual (maxSteps := 1000000) only [go_sem,↓reduceIte,reduceCtorEq,yA,yB,uA,uB,uC,uD,uE,uF,storeX,trX_cells,trX_agg]
   refine V.loop (fun m ls os => ∃ (i k : Nat) (lo : List UInt8),i ≤ k ∧ m = 100 - i ∧ (k < P.length ∨ k = 0) ∧ lo.length ≤ 16 ∧ pickV ⟨lo,r.hi,r.op⟩ K.L = P.drop k ∧
     ls = [(2,.val (.int .u8 most)),(4,.adr 0 0),(8,.adr 1 0),(10,.ref 2),(11,.adr 3 0),(50,.val (.int .i64 i))] ∧
     os = [.box true [.val (.str r.lo),.val (.str r.hi),.val (.bool (decide (r.op = true)))],sbox u0 K,.row 77 ((P.take k).map Pair.pv),.box true [.val (.str lo),.val (.str r.hi),.val (.bool (decide (r.op = true)))]]) 4 100
    [(2,.val (.int .u8 most)),(4,.adr 0 0),(8,.adr 1 0),(10,.ref 2),(11,.adr 3 0),(50,.val (.int .i64 0))]
    [.box true [.val (.str r.lo),.val (.str r.hi),.val (.bool (decide (r.op = true)))],sbox u0 K,.row 77 [],.box true [.val (.str r.lo),.val (.str r.hi),.val (.bool (decide (r.op = true)))]]
    [some 0,some 9,none,some 14]
    ⟨0,0,r.lo,Nat.le_refl _,rfl,.inr rfl,by omega,hP,rfl,rfl⟩ (by simp only [go_sem,↓reduceIte,reduceCtorEq,yA,yB,uA,uB,uC,uD,uE,uF,sbox,trX_agg]; try decide) ?_
   rintro m ls os ⟨i,k,lo,hik,rfl,hk,hlo,hpk,rfl,rfl⟩
   have hi70 : (i : Int) < 70 := by omega
   obtain ⟨u1,H1,cd,_⟩ := keeper_Do g0 (by omega) ok0 (scanP ⟨lo,r.hi,r.op⟩ n) (by simp [scanP])
   rw [do_scanP ok0 (hrok lo hlo) (by omega),hpk] at cd
   simp only at cd
   have hkl : k ≤ P.length := by omega
   have hdl : (P.drop k).length = P.length - k := List.length_drop
   by_cases hmore : n < (P.drop k).length
   ·have hcut : cutN n (P.drop k).length = n := by unfold cutN; omega
    have hpl : ((P.drop k).take n).length = n := by rw [List.length_take]; omega
    obtain ⟨x,hx⟩ : ∃ x,P[k + (n - 1)]? = some x := ⟨_,List.getElem?_eq_getElem (by omega)⟩
    have hpx : ((P.drop k).take n)[n - 1]? = some x := by rw [List.getElem?_take_of_lt (by omega),List.getElem?_drop,hx]
    have htk : P.take (k + n) = P.take k ++ (P.drop k).take n := List.take_add
    have hpk2 : pickV ⟨x.key ++ [0],r.hi,r.op⟩ K.L = P.drop (k + n) := by
     rw [pick_behind hsp r (j := k + (n - 1)) (by rw [hP]; exact hx),hP]
     congr 1; omega
    have htl : (P.take k).length = k := by rw [List.length_take]; omega
    have hxs : x.key.length ≤ 16 := by
     have hxm : x ∈ pickV r K.L := by rw [hP]; exact List.mem_of_getElem? hx
     exact (short_of K.L none ok0.1 x (List.mem_filter.1 hxm).1).1
    rw [hcut,decide_eq_true hmore] at cd
    have hw1 : IntKind.i64.wrap ((n : Int) - 1) = ((n - 1 : Nat) : Int) := by rw [wrap_small3] <;> omega
    have hw2 : IntKind.i64.wrap ((i : Int) + 1) = ((i + 1 : Nat) : Int) := by rw [wrap_small3] <;> omega
    have hlt1 : ((n - 1 : Nat) : Int) < (n : Int) := by omega
    generalize hG : (P.drop k).take n = G at *
    generalize hT : P.take k = T at *
    refine V.exec 400 ?_
    simp +contextual (maxSteps := 1000000) only [go_sem,↓reduceIte,reduceCtorEq,yA,yB,uA,uB,uC,uD,uE,uF,hi70,hwa,hwb,sbox,trX_agg,trX_cells]
    refine ⟨h90,?_⟩
    refine V.call rfl rfl (by simp [dOK]) ⟨14,[],by simp only [go_sem,↓reduceIte,reduceCtorEq,yA,yB,uA,uB,uC,uD,uE,uF],⟨_,rfl,rfl,rfl⟩,.inl ⟨[storeX u0 K,(scanP ⟨lo,r.hi,r.op⟩ n).pv],_,.inl (by simp only [go_sem,↓reduceIte,reduceCtorEq,yA,yB,uA,uB,uC,uD,uE,uF,storeX,bx]),cd,.inr (.inl ⟨_,rfl,rfl,rfl⟩)⟩⟩ ?_
    refine V.exec 400 ?_
    by_cases hx16 : x.key.length = 16
    ·have hx16' : (x.key.length : Int) = 16 := by omega
     simp +contextual (maxSteps := 1000000) only [go_sem,↓reduceIte,reduceCtorEq,yA,yB,uA,uB,uC,uD,uE,uF,hpl,hw1,hlt1,hpx,Pair.pv,Tell.pv,h90,hwa,hwb,hx16',storeX,trX_agg,trX_cells,decide_true]
     refine ⟨⟨by omega,by omega⟩,?_⟩
     refine V.call rfl rfl (by simp [dOK]) ⟨13,[],by simp only [go_sem,↓reduceIte,reduceCtorEq,yA,yB,uA,uB,uC,uD,uE,uF],⟨_,rfl,rfl,rfl⟩,.inl ⟨[],_,.inl (by simp only [go_sem,↓reduceIte,reduceCtorEq,yA,yB,uA,uB,uC,uD,uE,uF]),aw,.inl ⟨_,rfl,rfl,rfl,rfl⟩⟩⟩ ?_
     refine V.exec 400 ?_
     simp +contextual (maxSteps := 1000000) only [go_sem,↓reduceIte,reduceCtorEq,yA,yB,uA,uB,uC,uD,uE,uF]
    ·have hx16' : ¬ (x.key.length : Int) = 16 := by omega
     simp +contextual (maxSteps := 1000000) only [go_sem,↓reduceIte,reduceCtorEq,yA,yB,uA,uB,uC,uD,uE,uF,hpl,hw1,hw2,hlt1,hpx,Pair.pv,Tell.pv,h90,hwa,hwb,hx16',storeX,trX_agg,trX_cells,decide_true]
     refine ⟨⟨by omega,by omega⟩,by omega,100 - (i + 1),_,_,[some 0,some 1,some 43,some 3],by omega,⟨i + 1,k + n,_,by omega,rfl,.inl (by omega),by rw [List.length_append]; simp; omega,hpk2,rfl,rfl⟩,?_⟩
     simp only [go_sem,↓reduceIte,reduceCtorEq,yA,yB,uA,uB,uC,uD,uE,uF,htk,List.map_append,sbox,trX_agg]
     try decide
   ·have hcut : cutN n (P.drop k).length = (P.drop k).length := by unfold cutN; omega
    have hall : P.take k ++ P.drop k = P := List.take_append_drop k P
    have htl : (P.take k).length = k := by rw [List.length_take]; omega
    rw [hcut,List.take_length] at cd
    simp only [Nat.lt_irrefl,decide_false,Bool.false_eq_true] at cd
    generalize hG : P.drop k = G at *
    generalize hT : P.take k = T at *
    refine V.exec 400 ?_
    simp +contextual (maxSteps := 1000000) only [go_sem,↓reduceIte,reduceCtorEq,yA,yB,uA,uB,uC,uD,uE,uF,hi70,hwa,hwb,sbox,trX_agg,trX_cells]
    refine ⟨h90,?_⟩
    refine V.call rfl rfl (by simp [dOK]) ⟨14,[],by simp only [go_sem,↓reduceIte,reduceCtorEq,yA,yB,uA,uB,uC,uD,uE,uF],⟨_,rfl,rfl,rfl⟩,.inl ⟨[storeX u0 K,(scanP ⟨lo,r.hi,r.op⟩ n).pv],_,.inl (by simp only [go_sem,↓reduceIte,reduceCtorEq,yA,yB,uA,uB,uC,uD,uE,uF,storeX,bx]),cd,.inr (.inl ⟨_,rfl,rfl,rfl⟩)⟩⟩ ?_
    refine V.exec 400 ?_
    have cps2 : Ct Tryz.prog 23 (Zv.ops [.row (T.map Pair.pv ++ G.map Pair.pv),.row (P.map Pair.pv)]) (.vals [.bool true]) := by
     rw [← List.map_append,hall]; exact cps
    simp +contextual (maxSteps := 1000000) only [go_sem,↓reduceIte,reduceCtorEq,yA,yB,uA,uB,uC,uD,uE,uF,Tell.pv,h90,hwa,hwb,storeX,trX_agg,trX_cells,decide_false]
    refine ⟨fun _ _ => rfl,⟨by omega,by omega⟩,?_⟩
    refine DV.call [] [] (by simp only [go_sem,↓reduceIte,reduceCtorEq,yA,yB,uA,uB,uC,uD,uE,uF,storeX]) (by simp [dOK]) ⟨20,[],by simp only [go_sem,↓reduceIte,reduceCtorEq,yA,yB,uA,uB,uC,uD,uE,uF,storeX],⟨_,rfl,rfl,rfl⟩,.inl ⟨[storeX u0 K],_,.inl (by simp only [go_sem,↓reduceIte,reduceCtorEq,yA,yB,uA,uB,uC,uD,uE,uF,storeX]),sh0,.inr (.inl ⟨_,rfl,rfl,rfl⟩)⟩⟩ (by simp only [go_sem,↓reduceIte,reduceCtorEq,yA,yB,uA,uB,uC,uD,uE,uF,storeX]) (by simp only [go_sem,↓reduceIte,reduceCtorEq,yA,yB,uA,uB,uC,uD,uE,uF,storeX]) (by simp only [go_sem,↓reduceIte,reduceCtorEq,yA,yB,uA,uB,uC,uD,uE,uF,storeX]) (by simp) ?_
    refine DV.exec 400 ?_
    simp +contextual (maxSteps := 1000000) only [go_sem,↓reduceIte,reduceCtorEq,yA,yB,uA,uB,uC,uD,uE,uF,KSt.pv,step_fieldS,fldA_agg]
    refine DV.call [] [] (by simp only [go_sem,↓reduceIte,reduceCtorEq,yA,yB,uA,uB,uC,uD,uE,uF,Range.pv]) (by simp [dOK]) ⟨24,[],by simp only [go_sem,↓reduceIte,reduceCtorEq,yA,yB,uA,uB,uC,uD,uE,uF,Range.pv],⟨_,rfl,rfl,rfl⟩,.inl ⟨[r.pv,.row (K.L.map Pair.pv)],_,.inl (by simp only [go_sem,↓reduceIte,reduceCtorEq,yA,yB,uA,uB,uC,uD,uE,uF,Range.pv]),cpk,.inr (.inl ⟨_,rfl,rfl,rfl⟩)⟩⟩ (by simp only [go_sem,↓reduceIte,reduceCtorEq,yA,yB,uA,uB,uC,uD,uE,uF,Range.pv]) (by simp only [go_sem,↓reduceIte,reduceCtorEq,yA,yB,uA,uB,uC,uD,uE,uF,Range.pv]) (by simp only [go_sem,↓reduceIte,reduceCtorEq,yA,yB,uA,uB,uC,uD,uE,uF,Range.pv]) (by simp) ?_
    refine DV.exec 400 ?_
    simp +contextual (maxSteps := 1000000) only [go_sem,↓reduceIte,reduceCtorEq,yA,yB,uA,uB,uC,uD,uE,uF]
    refine DV.call [43] [43] (by simp only [go_sem,↓reduceIte,reduceCtorEq,yA,yB,uA,uB,uC,uD,uE,uF]) (by simp [dOK]) ⟨23,[],by simp only [go_sem,↓reduceIte,reduceCtorEq,yA,yB,uA,uB,uC,uD,uE,uF],⟨_,rfl,rfl,rfl⟩,.inl ⟨[.row (T.map Pair.pv ++ G.map Pair.pv),.row (P.map Pair.pv)],_,.inl (by simp only [go_sem,↓reduceIte,reduceCtorEq,yA,yB,uA,uB,uC,uD,uE,uF]),cps2,.inl ⟨_,rfl,rfl,rfl,rfl⟩⟩⟩ (by simp only [go_sem,↓reduceIte,reduceCtorEq,yA,yB,uA,uB,uC,uD,uE,uF]) (by simp only [go_sem,↓reduceIte,reduceCtorEq,yA,yB,uA,uB,uC,uD,uE,uF]) (by simp only [go_sem,↓reduceIte,reduceCtorEq,yA,yB,uA,uB,uC,uD,uE,uF]) (by simp) ?_
    refine DV.exec 400 ?_
    simp +contextual (maxSteps := 1000000) only [go_sem,↓reduceIte,reduceCtorEq,yA,yB,uA,uB,uC,uD,uE,uF]
    refine DV.call [] [] (by simp only [go_sem,↓reduceIte,reduceCtorEq,yA,yB,uA,uB,uC,uD,uE,uF]) (by simp [dOK]) ⟨13,[],by simp only [go_sem,↓reduceIte,reduceCtorEq,yA,yB,uA,uB,uC,uD,uE,uF],⟨_,rfl,rfl,rfl⟩,.inl ⟨[],_,.inl (by simp only [go_sem,↓reduceIte,reduceCtorEq,yA,yB,uA,uB,uC,uD,uE,uF]),aw,.inl ⟨_,rfl,rfl,rfl,rfl⟩⟩⟩ (by simp only [go_sem,↓reduceIte,reduceCtorEq,yA,yB,uA,uB,uC,uD,uE,uF]) (by simp only [go_sem,↓reduceIte,reduceCtorEq,yA,yB,uA,uB,uC,uD,uE,uF]) (by simp only [go_sem,↓reduceIte,reduceCtorEq,yA,yB,uA,uB,uC,uD,uE,uF]) (by simp) ?_
    refine DV.exec 400 ?_
    simp +contextual (maxSteps := 1000000) only [go_sem,↓reduceIte,reduceCtorEq,yA,yB,uA,uB,uC,uD,uE,uF]
    kernel_rfl
 ·refine V.exec 400 ?_
  simp +contextual (maxSteps := 1000000) only [go_sem,↓reduceIte,reduceCtorEq,yA,yB,uA,uB,uC,uD,uE,uF,hf,hmm]
  refine V.call rfl rfl (by simp [dOK]) ⟨13,[],by simp only [go_sem,↓reduceIte,reduceCtorEq,yA,yB,uA,uB,uC,uD,uE,uF],⟨_,rfl,rfl,rfl⟩,.inl ⟨[],_,.inl (by simp only [go_sem,↓reduceIte,reduceCtorEq,yA,yB,uA,uB,uC,uD,uE,uF]),aw,.inl ⟨_,rfl,rfl,rfl,rfl⟩⟩⟩ ?_
  refine V.exec 400 ?_
  simp +contextual (maxSteps := 1000000) only [go_sem,↓reduceIte,reduceCtorEq,yA,yB,uA,uB,uC,uD,uE,uF]
theorem ctPages (xs0 : List PV) (l0 : xs0.length ≤ maxLen) (h0 : ∀ x ∈ xs0,∃ qs,x = .agg qs ∧ mSs cmdSh qs) (xs1 : List PV) (h1 : xs1.map PV.kd = [.str,.str,.bool]) (w1 : ∀ q ∈ xs1,q.wfv) (a2 : Int) (w2 : (Lit.int .u8 a2).wf = true) : Ct Tryz.prog 8 (Zv.ops [.row xs0,.agg xs1,.int .u8 a2]) (.vals [.bool true]) := by
 obtain ⟨l,rfl,_⟩ := cmds_of xs0 h0
 obtain ⟨r,e⟩ := range_one xs1 h1
 rw [e]
 exact law_Pages l (by simpa using l0) r a2 (u8_rngP w2).1 (u8_rngP w2).2
end Go.Proofs.YtfemlllmglaimaaGreat
