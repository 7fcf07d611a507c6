/- A part of a proof: functions of the program, walked. -/
import Derived.Test.YtfemlllmglaimaaGreatIC
set_option linter.unusedVariables false
set_option linter.unusedSimpArgs false
set_option maxRecDepth 8000
namespace Go.Proofs.YtfemlllmglaimaaGreat
open Go Go.Proofs Go.Proofs.Zv Go.Proofs.YtfemlllmglaimaaGreat.Ty
open Go.Proofs.Tryz renaming prog → pG
open List renaming getElem?_eq_getElem → zA, map_nil → zB, map_cons → zC, take_of_length_le → zD, mem_of_getElem? → zE, mem_cons_self → zG, mem_cons_of_mem → zH, mem_cons → zI, length_append → zJ, drop_eq_nil_of_le → zK, take_add_one → zL, map_append → zM, mem_map → zN, mem_append → zO, eq_nil_of_length_eq_zero → zP, getElem?_eq_some_iff → zQ, getElem?_map → zS, length_cons → zT, length_take → zU, filter_append → zV, length_map → zW
open Nat renaming zero_le → zF, le_refl → zR
def rightFrom (last : Int) : List Sub → Prop
 | [] => True
 | s :: r => s.ok ∧ last < s.id ∧ rightFrom s.id r
def subsOk (l : List Sub) : Prop := rightFrom 0 l ∧ l.length ≤ 4
instance instRF : ∀ (last : Int) (l : List Sub),Decidable (rightFrom last l)
 | _,[] => isTrue trivial
 | last,s :: r => by
  unfold rightFrom
  have := instRF s.id r
  infer_instance
instance instSubsOk (l : List Sub) : Decidable (subsOk l) := by unfold subsOk; infer_instance
set_option maxHeartbeats 4000000 in
theorem floor_Right (l : List Sub) (hl : l.length ≤ 1000000) : Ct pG 57 (Zv.ops [.row (l.map Sub.pv)]) (.vals [.bool (decide (subsOk l))]) := by
 refine Ct.of_V Tryz.func57 rfl (by simp [Zv.ops,Tryz.f57]) ?_
 refine V.exec 400 ?_
 simp +contextual (maxSteps:=9^7) only [go_sem,Tryz.f57]
 refine V.loop (fun m ls os => ∃ (i : Nat) (last : Int),i ≤ l.length ∧ m = l.length - i ∧ (rightFrom 0 l ↔ rightFrom last (l.drop i)) ∧
    ls = [(0,.val (.row (l.map Sub.pv))),(3,.val (.int .i64 last)),(6,.val (.row (l.map Sub.pv))),(7,.val (.int .i64 l.length)),(8,.val (.int .i64 i))] ∧ os = []) 0 l.length
   [(0,.val (.row (l.map Sub.pv))),(3,.val (.int .i64 0)),(6,.val (.row (l.map Sub.pv))),(7,.val (.int .i64 l.length)),(8,.val (.int .i64 0))] [] []
   ⟨0,0,zF _,rfl,Iff.rfl,rfl,rfl⟩ (by simp only [go_sem]) ?_
 rintro m ls os ⟨i,last,hi,rfl,hiff,rfl,rfl⟩
 refine V.exec 400 ?_
 by_cases hlt : i < l.length
 ·have hlt' : (i : Int) < (l.length : Int) := by omega
  obtain ⟨x,hx⟩ : ∃ x,l[i]? = some x := ⟨_,zA hlt⟩
  have hw : IntKind.i64.wrap ((i : Int) + 1) = ((i + 1 : Nat) : Int) := by rw [wrap_small3] <;> omega
  rw [drop_of_get hx,rightFrom] at hiff
  simp +contextual (maxSteps:=9^7) only [go_sem,hlt',hx,Sub.pv]
  refine V.call rfl rfl (by simp [dOK]) ⟨102,[],by simp only [go_sem],⟨_,rfl,rfl,rfl⟩,.inl ⟨[x.pv],_,.inl (by simp only [go_sem,Sub.pv]),feed_Right x,.inl ⟨_,rfl,rfl,rfl,rfl⟩⟩⟩ ?_
  refine V.exec 400 ?_
  simp +contextual (maxSteps:=9^7) only [go_sem,hw]
  have hfalse : ¬ rightFrom 0 l → some [PV.bool false] = some [PV.bool (decide (subsOk l))] := fun h => by
   have : ¬ subsOk l := fun h' => h h'.1
   simp [this]
  refine ⟨fun hok => ⟨fun hle => hfalse (fun h => ?_),fun hgt => ?_⟩,fun hno => hfalse (fun h => hno (hiff.1 h).1)⟩
  ·have := (hiff.1 h).2.1; omega
  ·refine ⟨l.length - (i + 1),_,[],[],by omega,⟨i + 1,x.id,by omega,rfl,?_,rfl,rfl⟩,by simp only [go_sem]⟩
   rw [hiff]
   exact ⟨fun h => h.2.2,fun h => ⟨hok,by omega,h⟩⟩
 ·have hlt' : ¬ (i : Int) < (l.length : Int) := by omega
  have hd : l.drop i = [] := zK (by omega)
  rw [hd,rightFrom] at hiff
  simp +contextual (maxSteps:=9^7) only [go_sem,hlt']
  have e1 : ((l.length : Int) ≤ 4) = (l.length ≤ 4) := by apply propext; omega
  simp [subsOk,hiff,e1]
def floorOf (head : Int) : List Sub → Int
 | [] => head
 | s :: r => floorOf (min head s.cur) r
set_option maxHeartbeats 4000000 in
theorem floor_Of (head : Int) (l : List Sub) (hl : l.length ≤ 1000000) : Ct pG 87 (Zv.ops [.int .i64 head,.row (l.map Sub.pv)]) (.vals [.int .i64 (floorOf head l)]) := by
 refine Ct.of_V Tryz.func87 rfl (by simp [Zv.ops,Tryz.f87]) ?_
 refine V.exec 400 ?_
 simp +contextual (maxSteps:=9^7) only [go_sem,Tryz.f87]
 refine V.loop (fun m ls os => ∃ (i : Nat) (h : Int),i ≤ l.length ∧ m = l.length - i ∧ floorOf head l = floorOf h (l.drop i) ∧
    ls = [(0,.val (.int .i64 h)),(7,.val (.row (l.map Sub.pv))),(8,.val (.int .i64 l.length)),(9,.val (.int .i64 i))] ∧ os = []) 0 l.length
   [(0,.val (.int .i64 head)),(7,.val (.row (l.map Sub.pv))),(8,.val (.int .i64 l.length)),(9,.val (.int .i64 0))] [] []
   ⟨0,head,zF _,rfl,rfl,rfl,rfl⟩ (by simp only [go_sem]) ?_
 rintro m ls os ⟨i,h,hi,rfl,heq,rfl,rfl⟩
 refine V.exec 400 ?_
 by_cases hlt : i < l.length
 ·have hlt' : (i : Int) < (l.length : Int) := by omega
  obtain ⟨x,hx⟩ : ∃ x,l[i]? = some x := ⟨_,zA hlt⟩
  have hw : IntKind.i64.wrap ((i : Int) + 1) = ((i + 1 : Nat) : Int) := by rw [wrap_small3] <;> omega
  rw [drop_of_get hx,floorOf] at heq
  have hm : (if x.cur < h then x.cur else h) = min h x.cur := by simp only [Int.min_def]; split <;> split <;> omega
  simp +contextual (maxSteps:=9^7) only [go_sem,hlt',hx,Sub.pv,hw,hm]
  exact ⟨l.length - (i + 1),_,[],[],by omega,⟨i + 1,min h x.cur,by omega,rfl,heq,rfl,rfl⟩,by simp only [go_sem]⟩
 ·have hlt' : ¬ (i : Int) < (l.length : Int) := by omega
  have hd : l.drop i = [] := zK (by omega)
  rw [hd,floorOf] at heq
  simp +contextual (maxSteps:=9^7) only [go_sem,hlt',heq]
def Change.of : PV → Change
 | .agg [.int _ s,.str k,.bool h,.str b,.bool h',.str a] => ⟨s,k,h,b,h',a⟩
 | _ => ⟨0,[],false,[],false,[]⟩
theorem Change.of_pv (c : Change) : Change.of c.pv = c := by simp [Change.of,Change.pv]
theorem Change.filter_pv (l : List Change) (p : Change → Bool) : (l.map Change.pv).filter (fun x => !p (Change.of x)) = (l.filter fun c => !p c).map Change.pv := by
 induction l with
 | nil => rfl
 | cons s r ih =>
  simp only [zC,List.filter_cons,Change.of_pv,ih]
  split <;> rfl
def withoutV (l : List Change) (p : Change → Bool) : List Change := if trailOk l then l.filter (fun c => !p c) else []
set_option maxHeartbeats 4000000 in
theorem trail_without (l : List Change) (g : FuncId) (caps : List PV) (p : Change → Bool) (hl : l.length ≤ 1000000) (hg : Entered pG g)
  (hp : ∀ x ∈ l,Ct pG g (Zv.ops ([x.pv] ++ caps)) (.vals [.bool (decide (p x = true))])) :
  Ct pG 71 (Zv.ops [.row (l.map Change.pv),.fn g caps]) (.vals [.row ((withoutV l p).map Change.pv)]) := by
 refine Ct.of_V Tryz.func71 rfl (by simp [Zv.ops,Tryz.f71]) ?_
 refine V.exec 400 ?_
 simp +contextual (maxSteps:=9^7) only [go_sem,Tryz.f71]
 refine V.call rfl rfl (by simp [dOK]) ⟨56,[],by simp only [go_sem],⟨_,rfl,rfl,rfl⟩,.inl ⟨[.row (l.map Change.pv)],_,.inl (by simp only [go_sem]),trail_Right l hl,.inl ⟨_,rfl,rfl,rfl,rfl⟩⟩⟩ ?_
 refine V.exec 400 ?_
 by_cases hok : trailOk l
 ·have hv : withoutV l p = l.filter (fun c => !p c) := by simp [withoutV,hok]
  simp +contextual (maxSteps:=9^7) only [go_sem,hok,hv]
  have h7 : ∀ x ∈ l.map Change.pv,x.cells.length = 6 ∧ x.isAgg = true ∧ ∀ c ∈ x.cells,c.isAgg = false := fun x hx => by
   obtain ⟨s,_,rfl⟩ := zN.1 hx
   exact ⟨rfl,rfl,by simp [Change.pv,PV.cells,PV.isAgg]⟩
  have hdel := DeleteFuncChange (l.map Change.pv) g caps (fun x => p (Change.of x)) h7 (by simpa using hl) hg (fun x hx => by
   obtain ⟨s,hs,rfl⟩ := zN.1 hx
   rw [Change.of_pv]
   exact hp s hs) (by simp only [go_sem])
  rw [Change.filter_pv] at hdel
  refine V.call rfl rfl (by simp [dOK]) ⟨54,[],by simp only [go_sem],⟨_,rfl,rfl,rfl⟩,.inl ⟨[.row (l.map Change.pv)],_,.inl (by simp only [go_sem]),CloneChange (l.map Change.pv) (fun x hx => (h7 x hx).1) (by simpa using hl),.inr (.inr ⟨89,(l.map Change.pv)   ,rfl,by simp only [go_sem],rfl,rfl⟩)⟩⟩ ?_
  refine V.exec 400 ?_
  simp +contextual (maxSteps:=9^7) only [go_sem]
  refine V.call rfl rfl (by simp [dOK]) ⟨122,[],by simp only [go_sem],⟨_,rfl,rfl,rfl⟩,.inr (.inl ⟨7,89,l.map Change.pv,[.val (.fn g caps)],[.fn g caps],89,_,by simp only [go_sem],by simp only [go_sem],.inl (by simp only [go_sem]),hdel,by simp only [go_sem],rfl,rfl⟩)⟩ ?_
  refine V.exec 400 ?_
  simp +contextual (maxSteps:=9^7) only [go_sem]
 ·have hv : withoutV l p = [] := by simp [withoutV,hok]
  simp +contextual (maxSteps:=9^7) only [go_sem,hok,hv,zB]
theorem trail_Drop1 (c : Change) (n : Int) : Ct pG 133 (Zv.ops [c.pv,.ptr (.int .i64 n)]) (.vals [.bool (decide (c.seq ≤ n))]) := by
 refine Ct.of_V Tryz.func133 rfl (by simp [Zv.ops,Tryz.f133]) ?_
 refine V.exec 400 ?_
 simp +contextual (maxSteps:=9^7) only [go_sem,Tryz.f133,Change.pv]
def dropV (l : List Change) (n : Int) : List Change := withoutV l (fun c => decide (c.seq ≤ n))
theorem trail_Drop (l : List Change) (n : Int) (hl : l.length ≤ 1000000) : Ct pG 88 (Zv.ops [.row (l.map Change.pv),.int .i64 n]) (.vals [.row ((dropV l n).map Change.pv)]) := by
 refine Ct.of_V Tryz.func88 rfl (by simp [Zv.ops,Tryz.f88]) ?_
 refine V.exec 400 ?_
 simp +contextual (maxSteps:=9^7) only [go_sem,Tryz.f88]
 refine V.call rfl rfl (by simp [dOK]) ⟨71,[],by simp only [go_sem],⟨_,rfl,rfl,rfl⟩,.inl ⟨[.row (l.map Change.pv),.fn 133 [.ptr (.int .i64 n)]],_,.inl (by simp only [go_sem]),trail_without l 133 [.ptr (.int .i64 n)] (fun c => decide (c.seq ≤ n)) hl ⟨_,rfl,rfl,rfl⟩ (fun x _ => by simpa using trail_Drop1 x n),.inr (.inl ⟨_,rfl,rfl,rfl⟩)⟩⟩ ?_
 refine V.exec 400 ?_
 simp +contextual (maxSteps:=9^7) only [go_sem]
 rfl
theorem floor_Trim (t : List Change) (h : Int) (l : List Sub) (ht : t.length ≤ 1000000) (hl : l.length ≤ 1000000) : Ct pG 39 (Zv.ops [.row (t.map Change.pv),.int .i64 h,.row (l.map Sub.pv)])
  (.vals [.row ((dropV t (floorOf h l)).map Change.pv),.int .i64 (floorOf h l)]) := by
 refine Ct.of_V Tryz.func39 rfl (by simp [Zv.ops,Tryz.f39]) ?_
 refine V.exec 400 ?_
 simp +contextual (maxSteps:=9^7) only [go_sem,Tryz.f39]
 refine V.call rfl rfl (by simp [dOK]) ⟨87,[],by simp only [go_sem],⟨_,rfl,rfl,rfl⟩,.inl ⟨[.int .i64 h,.row (l.map Sub.pv)],_,.inl (by simp only [go_sem]),floor_Of h l hl,.inl ⟨_,rfl,rfl,rfl,rfl⟩⟩⟩ ?_
 refine V.exec 400 ?_
 simp +contextual (maxSteps:=9^7) only [go_sem]
 refine V.call rfl rfl (by simp [dOK]) ⟨88,[],by simp only [go_sem],⟨_,rfl,rfl,rfl⟩,.inl ⟨[.row (t.map Change.pv),.int .i64 (floorOf h l)],_,.inl (by simp only [go_sem]),trail_Drop t (floorOf h l) ht,.inr (.inl ⟨_,rfl,rfl,rfl⟩)⟩⟩ ?_
 refine V.exec 400 ?_
 simp +contextual (maxSteps:=9^7) only [go_sem]
def Range.isIn (r : Range) (k : List UInt8) : Prop := ¬ slt k r.lo ∧ (r.op = true ∨ slt k r.hi)
instance Range.instIn (r : Range) (k : List UInt8) : Decidable (r.isIn k) := by unfold Range.isIn; infer_instance
theorem stretch_In (r : Range) (k : List UInt8) : Ct pG 73 (Zv.ops [r.pv,.str k]) (.vals [.bool (decide (r.isIn k))]) := by
 refine Ct.of_V Tryz.func73 rfl (by simp [Zv.ops,Tryz.f73]) ?_
 refine V.exec 400 ?_
 simp +contextual (maxSteps:=9^7) only [go_sem,Tryz.f73,Range.pv]
 simp only [Option.some.injEq,List.cons.injEq,PV.bool.injEq,and_true]
 grind [Range.isIn]
def maxStr (a b : List UInt8) : List UInt8 := if slt a b then b else a
def minStr (a b : List UInt8) : List UInt8 := if slt a b ∨ a = b then a else b
def meetStep (o r : Range) : Range :=
 if r.op = true then { o with lo := maxStr o.lo r.lo } else if o.op = true then ⟨maxStr o.lo r.lo,r.hi,false⟩ else ⟨maxStr o.lo r.lo,minStr o.hi r.hi,o.op⟩
def meetV (l : List Range) : Range := l.foldl meetStep ⟨[],[],true⟩
set_option maxHeartbeats 4000000 in
theorem stretch_Meet (l : List Range) (hl : l.length ≤ 1000000) : Ct pG 70 (Zv.ops [.row (l.map Range.pv)]) (.vals [(meetV l).pv]) := by
 refine Ct.of_V Tryz.func70 rfl (by simp [Zv.ops,Tryz.f70]) ?_
 refine V.exec 400 ?_
 simp +contextual (maxSteps:=9^7) only [go_sem,Tryz.f70]
 refine V.loop (fun m ls os => ∃ (i : Nat) (o : Range),i ≤ l.length ∧ m = l.length - i ∧ (l.drop i).foldl meetStep o = meetV l ∧
    ls = [(2,.adr 0 0),(3,.adr 1 0),(7,.val (.row (l.map Range.pv))),(8,.val (.int .i64 l.length)),(9,.val (.int .i64 i))] ∧
    os = [.box true [.val (.str []),.val (.str []),.val (.bool false)],.box true [.val (.str o.lo),.val (.str o.hi),.val (.bool (decide (o.op = true)))]]) 2 l.length
   [(2,.adr 0 0),(3,.adr 1 0),(7,.val (.row (l.map Range.pv))),(8,.val (.int .i64 l.length)),(9,.val (.int .i64 0))]
   [.box true [.val (.str []),.val (.str []),.val (.bool false)],.box true [.val (.str []),.val (.str []),.val (.bool (decide (true = true)))]] [some 1,some 3]
   ⟨0,⟨[],[],true⟩,zF _,rfl,rfl,rfl,rfl⟩ (by simp only [go_sem]; try decide) ?_
 rintro m ls os ⟨i,o,hi,rfl,hf,rfl,rfl⟩
 refine V.exec 400 ?_
 by_cases hlt : i < l.length
 ·have hlt' : (i : Int) < (l.length : Int) := by omega
  obtain ⟨x,hx⟩ : ∃ x,l[i]? = some x := ⟨_,zA hlt⟩
  have hw : IntKind.i64.wrap ((i : Int) + 1) = ((i + 1 : Nat) : Int) := by rw [wrap_small3] <;> omega
  rw [drop_of_get hx,List.foldl_cons] at hf
  simp +contextual (maxSteps:=9^7) only [go_sem,hlt',hx,Range.pv,hw]
  refine ⟨fun h1 => ?_,fun h1 => ⟨fun h2 => ?_,fun h2 => ?_⟩⟩
  all_goals refine ⟨l.length - (i + 1),_,_,[some 0,some 1],by omega,⟨i + 1,meetStep o x,by omega,rfl,hf,rfl,rfl⟩,?_⟩
  ·have e : meetStep o x = ⟨maxStr o.lo x.lo,o.hi,o.op⟩ := by simp [meetStep,h1]
   simp only [go_sem,e,maxStr,minStr]
   try decide
  ·have e : meetStep o x = ⟨maxStr o.lo x.lo,x.hi,false⟩ := by simp [meetStep,h1,h2]
   simp only [go_sem,e,maxStr,minStr]
   try decide
  ·have e : meetStep o x = ⟨maxStr o.lo x.lo,minStr o.hi x.hi,o.op⟩ := by simp [meetStep,h1,h2]
   simp only [go_sem,e,maxStr,minStr,h2]
   try decide
 ·have hlt' : ¬ (i : Int) < (l.length : Int) := by omega
  have hd : l.drop i = [] := zK (by omega)
  rw [hd,List.foldl_nil] at hf
  simp +contextual (maxSteps:=9^7) only [go_sem,hlt',← hf,Range.pv]
set_option maxHeartbeats 2000000 in
theorem IndexFuncPair (xs : List PV) (g : FuncId) (caps : List PV) (p : PV → Bool) (h1 : ∀ x ∈ xs,x.cells.length = 2 ∧ x.isAgg = true) (hl : xs.length ≤ 1000000) (hg : Entered pG g)
  (hp : ∀ x ∈ xs,Ct pG g (Zv.ops ([x] ++ caps)) (.vals [.bool (decide (p x = true))])) (r : Nat) (hr : r ≤ xs.length) (hr1 : ∀ x ∈ xs.take r,p x = false) (hr2 : ∀ x,xs[r]? = some x → p x = true) :
  Ct pG 170 (Zv.ops [.row xs,.fn g caps]) (.vals [.int .i64 (if r < xs.length then (r : Int) else -1)]) := by
 refine Ct.of_V Tryz.func170 rfl (by simp [Zv.ops,Tryz.f170]) ?_
 refine V.exec 400 ?_
 simp +contextual (maxSteps:=9^7) only [go_sem,Tryz.f170]
 refine V.loop (fun m ls os => ∃ i : Nat,i ≤ r ∧ m = xs.length - i ∧
    ls = [(0,.val (.row xs)),(1,.val (.fn g caps)),(7,.val (.int .i64 xs.length)),(8,.val (.int .i64 i))] ∧ os = []) 0 xs.length [(0,.val (.row xs)),(1,.val (.fn g caps)),(7,.val (.int .i64 xs.length)),(8,.val (.int .i64 0))] [] []
   ⟨0,zF _,rfl,rfl,rfl⟩ (by simp only [go_sem]) ?_
 rintro m ls os ⟨i,hi,rfl,rfl,rfl⟩
 refine V.exec 400 ?_
 by_cases hlt : i < xs.length
 ·have hlt' : (i : Int) < (xs.length : Int) := by omega
  obtain ⟨x,hx⟩ : ∃ x,xs[i]? = some x := ⟨_,zA hlt⟩
  have hxm : x ∈ xs := zE hx
  obtain ⟨hxc,hxa⟩ := h1 x hxm
  have hw : IntKind.i64.wrap ((i : Int) + 1) = ((i + 1 : Nat) : Int) := by rw [wrap_small] <;> omega
  simp +contextual (maxSteps:=9^7) only [go_sem,hlt',hx,hxc,hxa]
  refine V.call rfl rfl (by simp [dOK]) ⟨g,caps,by simp only [go_sem],hg,.inl ⟨[x],_,.inl (by simp only [go_sem]),hp x hxm,.inl ⟨_,rfl,rfl,rfl,rfl⟩⟩⟩ ?_
  refine V.exec 400 ?_
  simp +contextual (maxSteps:=9^7) only [go_sem,hw]
  constructor
  ·intro hpx
   have hir : i = r := by
    rcases Nat.lt_or_ge i r with h | h
    ·have := hr1 x (zE (i := i) (by rw [List.getElem?_take_of_lt h]; exact hx))
     rw [this] at hpx; cases hpx
    ·omega
   subst hir
   rw [if_pos hlt]
  ·intro hpx
   have hir : i < r := by
    rcases Nat.lt_or_ge i r with h | h
    ·exact h
    ·have : i = r := by omega
     subst this
     exact absurd (hr2 x hx) hpx
   exact ⟨xs.length - (i + 1),_,[],[],by omega,⟨i + 1,by omega,rfl,rfl,rfl⟩,by simp only [go_sem]⟩
 ·have hlt' : ¬ (i : Int) < (xs.length : Int) := by omega
  simp +contextual (maxSteps:=9^7) only [go_sem,hlt']
  rw [if_neg (by omega)]
set_option maxHeartbeats 4000000 in
theorem DeleteFuncPair (xs : List PV) (g : FuncId) (caps : List PV) (p : PV → Bool) (h1 : ∀ x ∈ xs,x.cells.length = 2 ∧ x.isAgg = true ∧ ∀ c ∈ x.cells,c.isAgg = false) (hl : xs.length ≤ 1000000) (hg : Entered pG g)
  (hp : ∀ x ∈ xs,Ct pG g (Zv.ops ([x] ++ caps)) (.vals [.bool (decide (p x = true))])) (hz : (zeroPV pG 77 2).isSome = true) :
  Ct pG 139 (.o 77 xs :: Zv.ops [.fn g caps]) (.own 77 (xs.filter fun x => !p x)) := by
 obtain ⟨r,hr,hr1,hr2⟩ : ∃ r,r ≤ xs.length ∧ (∀ x ∈ xs.take r,p x = false) ∧ ∀ x,xs[r]? = some x → p x = true := by
  clear h1 hl hp
  induction xs with
  | nil => exact ⟨0,by simp,by simp,by simp⟩
  | cons x xs ih =>
   by_cases hx : p x = true
   ·exact ⟨0,by simp,by simp,by simp [hx]⟩
   ·obtain ⟨r,h1,h2,h3⟩ := ih
    refine ⟨r + 1,by simpa using h1,?_,by simpa using h3⟩
    intro y hy
    simp only [List.take_succ_cons,zI] at hy
    rcases hy with rfl | hy
    ·simpa using hx
    ·exact h2 y hy
 refine Ct.of_V Tryz.func139 rfl (by simp [Zv.ops,Tryz.f139]) ?_
 refine V.exec 400 ?_
 simp +contextual (maxSteps:=9^7) only [go_sem,Tryz.f139]
 refine V.call rfl rfl (by simp [dOK]) ⟨170,[],by simp only [go_sem],⟨_,rfl,rfl,rfl⟩,.inl ⟨[.row xs,.fn g caps],_,.inl (by simp only [go_sem]),IndexFuncPair xs g caps p (fun x hx => ⟨(h1 x hx).1,(h1 x hx).2.1⟩) hl hg hp r hr hr1 hr2,.inl ⟨_,rfl,rfl,rfl,rfl⟩⟩⟩ ?_
 refine V.exec 400 ?_
 simp +contextual (maxSteps:=9^7) only [go_sem]
 constructor
 ·intro h
  have hrl : ¬ r < xs.length := by intro h'; rw [if_pos h'] at h; omega
  have : xs.filter (fun x => !p x) = xs := by
   rw [List.filter_eq_self]
   intro x hx
   have := hr1 x (by rw [zD (by omega)]; exact hx)
   simp [this]
  rw [this]
 ·intro h
  have hrl : r < xs.length := by
   rcases Nat.lt_or_ge r xs.length with h' | h'
   ·exact h'
   ·rw [if_neg (by omega)] at h; exact absurd rfl h
  simp only [if_pos hrl]
  have hw0 : IntKind.i64.wrap ((r : Int) + 1) = ((r + 1 : Nat) : Int) := by rw [wrap_small] <;> omega
  simp only [hw0]
  refine V.loop (fun m ls os => ∃ (i j : Nat) (ys : List PV),i < j ∧ j ≤ xs.length ∧ m = xs.length - j ∧ ys.length = xs.length ∧ ys.take i = (xs.take j).filter (fun x => !p x) ∧ ys.drop j = xs.drop j ∧ (∀ y ∈ ys,y ∈ xs) ∧
    ls = [(0,.ref 0),(1,.val (.fn g caps)),(5,.val (.int .i64 i)),(6,.val (.int .i64 j))] ∧ os = [.row 77 ys]) 1 (xs.length - (r + 1)) [(0,.ref 0),(1,.val (.fn g caps)),(5,.val (.int .i64 r)),(6,.val (.int .i64 (r + 1 : Nat)))] [.row 77 xs] [some 0]
   ⟨r,r + 1,xs,by omega,by omega,rfl,rfl,?_,rfl,fun y hy => hy,rfl,rfl⟩ (by simp only [go_sem]) ?_
  ·obtain ⟨x,hx⟩ : ∃ x,xs[r]? = some x := ⟨_,zA hrl⟩
   rw [zL,hx,zV]
   have e1 : (xs.take r).filter (fun x => !p x) = xs.take r := by
    rw [List.filter_eq_self]; intro y hy; simp [hr1 y hy]
   rw [e1]
   simp [hr2 x hx]
  ·rintro m ls os ⟨i,j,ys,hij,hj,rfl,hyl,hyt,hyd,hym,rfl,rfl⟩
   by_cases hlt : j < xs.length
   ·have hlt' : (j : Int) < (ys.length : Int) := by omega
    refine V.exec 400 ?_
    obtain ⟨x,hx⟩ : ∃ x,ys[j]? = some x := ⟨_,zA (by omega)⟩
    obtain ⟨z,hz'⟩ : ∃ z,ys[i]? = some z := ⟨_,zA (by omega)⟩
    have hxm : x ∈ xs := hym x (zE hx)
    have hzm : z ∈ xs := hym z (zE hz')
    obtain ⟨hzc,hza,_⟩ := h1 z hzm
    obtain ⟨hxc,hxa,hxn⟩ := h1 x hxm
    have hpx := hp x hxm
    obtain ⟨c0,c1,rfl⟩ : ∃ c0 c1,x = .agg [c0,c1] := by
     cases x with
     | agg cs =>
      match cs,hxc with
      | [c0,c1],_ => exact ⟨c0,c1,rfl⟩
     | _ => cases hxa
    have n0 : c0.isAgg = false := hxn c0 (by simp [PV.cells])
    have n1 : c1.isAgg = false := hxn c1 (by simp [PV.cells])
    have hwi : IntKind.i64.wrap ((i : Int) + 1) = ((i + 1 : Nat) : Int) := by rw [wrap_small] <;> omega
    have hwj : IntKind.i64.wrap ((j : Int) + 1) = ((j + 1 : Nat) : Int) := by rw [wrap_small] <;> omega
    simp +contextual (maxSteps:=9^7) only [go_sem,hlt',hx,n0,n1]
    refine V.call rfl rfl (by simp [dOK]) ⟨g,caps,by simp only [go_sem],hg,.inl ⟨[_],_,.inl (by simp only [go_sem]),hpx,.inl ⟨_,rfl,rfl,rfl,rfl⟩⟩⟩ ?_
    refine V.exec 400 ?_
    simp +contextual (maxSteps:=9^7) only [go_sem,hwi,hwj,hz',hzc,n0,n1]
    have hxj : xs[j]? = some (.agg [c0,c1]) := by
     have e1 : (ys.drop j)[0]? = (xs.drop j)[0]? := by rw [hyd]
     simp only [List.getElem?_drop,Nat.add_zero] at e1
     rw [← e1]; exact hx
    have hdrop : ys.drop (j + 1) = xs.drop (j + 1) := by rw [← List.drop_drop,← List.drop_drop,hyd]
    have htk : xs.take (j + 1) = xs.take j ++ [.agg [c0,c1]] := by rw [zL,hxj]; rfl
    constructor
    ·intro hpx
     refine ⟨xs.length - (j + 1),_,_,[some 0],by omega,⟨i + 1,j + 1,ys.set i (.agg [c0,c1]),by omega,by omega,rfl,by simpa using hyl,?_,?_,?_,rfl,rfl⟩,?_⟩
     ·rw [htk,zV,← hyt,zL,List.getElem?_set_self (by omega),List.take_set_of_le (zR _)]
      simp [hpx]
     ·rw [List.drop_set_of_lt (by omega)]; exact hdrop
     ·intro y hy
      rcases List.mem_or_eq_of_mem_set hy with hy | hy
      ·exact hym y hy
      ·rw [hy]; exact hxm
     ·simp only [go_sem]
    ·intro hpx
     refine ⟨xs.length - (j + 1),_,_,[some 0],by omega,⟨i,j + 1,ys,by omega,by omega,rfl,hyl,?_,hdrop,hym,rfl,rfl⟩,?_⟩
     ·rw [htk,zV,hyt]
      simp [hpx]
     ·simp only [go_sem]
   ·have hlt' : ¬ (j : Int) < (ys.length : Int) := by omega
    refine V.execS [11] 400 ?_
    simp +contextual (maxSteps:=9^7) only [go_sem,hlt']
    refine V.opn 0 2 77 ys (by simp only [go_sem]) (by simp only [go_sem]) fun q => ?_
    refine V.exec 400 ?_
    simp +contextual (maxSteps:=9^7) only [go_sem]
    have hi : i ≤ ys.length := by omega
    have hjx : j = xs.length := by omega
    rw [show 0 + i = i from Nat.zero_add i,over_length hi,List.length_replicate]
    refine ⟨⟨hi,by omega⟩,⟨hi,by omega⟩,⟨by omega,by omega⟩,by omega,?_⟩
    rw [hjx,List.take_length] at hyt
    rw [Nat.sub_zero,over,List.append_assoc,List.take_append_of_le_length (by simp [Nat.min_eq_left hi]),List.take_take,Nat.min_self,hyt]
set_option maxHeartbeats 2000000 in
theorem ClonePair (xs : List PV) (h1 : ∀ x ∈ xs,x.cells.length = 2) (hl : xs.length ≤ 1000000) : Ct pG 114 (Zv.ops [.row xs]) (.own 77 xs) := by
 refine Ct.of_V Tryz.func114 rfl (by simp [Zv.ops,Tryz.f114]) ?_
 refine V.exec 400 ?_
 simp +contextual (maxSteps:=9^7) only [go_sem,Tryz.f114]
 refine V.nilq (xs := xs) rfl rfl (.inl rfl) (by simp only [go_sem,↓reduceIte,Nat.reduceEqDiff]) (by simp only [go_sem]; rfl) (by simp [dOK]) fun c hc => ?_
 refine V.exec 400 ?_
 simp +contextual (maxSteps:=9^7) only [go_sem]
 exact ⟨fun h => ⟨hc h,2,rfl,by decide⟩,fun _ => ⟨h1,by omega,by omega⟩⟩
set_option maxHeartbeats 4000000 in
theorem InsertPair (xs : List PV) (y : PV) (i : Nat) (h1 : ∀ x ∈ xs,x.cells.length = 2) (hy : y.cells.length = 2) (hi : i ≤ xs.length) (hl : xs.length ≤ 1000000) :
  Ct pG 119 (.o 77 xs :: Zv.ops [.int .i64 i,.rowp [y]]) (.own 77 (xs.take i ++ [y] ++ xs.drop i)) := by
 refine Ct.of_V Tryz.func119 rfl (by simp [Zv.ops,Tryz.f119]) ?_
 refine V.opn 0 2 77 xs rfl (by simp only [go_sem]) fun q => ?_
 have hw : IntKind.i64.wrap ((xs.length : Int) + ((0 + 1 : Nat) : Int)) = ((xs.length + 1 : Nat) : Int) := by rw [wrap_small'] <;> omega
 have hw2 : IntKind.i64.wrap (((xs.length + 1 : Nat) : Int) - (i : Int)) = ((xs.length + 1 - i : Nat) : Int) := by rw [wrap_small'] <;> omega
 have hw3 : IntKind.i64.wrap ((i : Int) + ((0 + 1 : Nat) : Int)) = ((i + 1 : Nat) : Int) := by rw [wrap_small'] <;> omega
 refine V.execS [10,14] 400 ?_
 simp +contextual (maxSteps:=9^7) only [go_sem,Tryz.f119,hy,hw,hw2,hw3]
 refine ⟨⟨hi,by omega⟩,fun h => absurd h (by omega),fun _ => ⟨fun he => ?_,fun hne => ⟨by omega,fun hlt => ⟨⟨by omega,by omega⟩,⟨by omega,by omega,by omega,by omega,by omega⟩,?_⟩,fun hge => ⟨by omega,?_⟩⟩⟩⟩
 ·-- at the end
  have hin : i = xs.length := by omega
  subst hin
  have e1 : xs.take xs.length ++ [y] ++ xs.drop xs.length = xs ++ [y] := by simp
  rw [e1]
  refine ⟨fun hr => ⟨by omega,?_,?_⟩,fun hr => ⟨⟨by omega,by omega,by omega,by omega⟩,by rw [List.take_length]⟩⟩
  ·rw [over_length (by omega)]; simp
  ·have e2 : over xs [y] (0 + xs.length) = xs ++ [y] := by simp [over]
   rw [e2,zD (by simp)]
 ·-- no room: a new row
  have hin : i < xs.length := by omega
  have hYl : (List.take (i - 0) xs ++ List.replicate (xs.length + 1 - i) (PV.agg [.str [],.str []])).length = xs.length + 1 := by
   simp; omega
  have hYt : (List.take (i - 0) xs ++ List.replicate (xs.length + 1 - i) (PV.agg [.str [],.str []])).take i = xs.take i := by
   rw [Nat.sub_zero,List.take_append_of_le_length (by simp; omega),List.take_take,Nat.min_self]
  generalize List.take (i - 0) xs ++ List.replicate (xs.length + 1 - i) (PV.agg [.str [],.str []]) = Y at *
  refine V.opn 32 2 77 Y (by simp only [go_sem]) (by simp only [go_sem]) fun q2 => ?_
  refine V.exec 400 ?_
  have m1 : min 1 (Y.length - i) = 1 := by omega
  have m2 : min (xs.length - i) (Y.length - (i + 1)) = xs.length - i := by omega
  simp +contextual (maxSteps:=9^7) only [go_sem,hy,hw,hw2,hw3,Nat.zero_add,Nat.sub_zero,m1,m2]
  have hol : (over Y [y] i).length = Y.length := by rw [over_length (by omega)]; simp; omega
  have hdl : (List.take (xs.length - i) (List.drop i xs)).length = xs.length - i := by simp
  simp only [hol,hdl]
  refine ⟨⟨by omega,by omega⟩,⟨by omega,by omega⟩,⟨by omega,by omega⟩,⟨by omega,by omega⟩,⟨by omega,by omega,by omega⟩,by kernel_rfl,?_⟩
  have hd : List.take (xs.length - i) (List.take (xs.length - i) (List.drop i xs)) = xs.drop i := by rw [zD (by simp),zD (by simp)]
  rw [hd,ins_grow xs [y] i Y rfl hin hYl hYt]
  exact ⟨by simp; omega,(zD (by simp; omega)).symm⟩
 ·-- there is room
  refine V.exec 400 ?_
  simp +contextual (maxSteps:=9^7) only [go_sem,hy,hw,hw2,hw3,Nat.zero_add,Nat.sub_zero]
  refine ⟨⟨by omega,by omega⟩,?_⟩
  refine V.ovl (f := 156) (zs := [y]) (id := 0) (sz := 2) (l := i + 1) (len := xs.length + 1 - (i + 1)) (xs := xs) (q := q) (e := 77) (tS := 32) (tR := 4) rfl rfl (by simp [dOK]) (by simp only [go_sem]) rfl rfl rfl (by kernel_rfl) (by kernel_rfl) (by simp only [go_sem]) (by simp only [go_sem]) (by simp only [go_sem]) (by simp only [go_sem]) (by simp only [go_sem]) (by omega) ?_
  refine V.exec 400 ?_
  have hin : i < xs.length := by omega
  have m3 : min (xs.length + 1 - i) (xs.length + 1 - (i + 1)) = xs.length - i := by omega
  have m4 : min 1 (xs.length + 1 - i) = 1 := by omega
  have hd2 : List.take (xs.length - i) (List.take (xs.length + 1 - i) (List.drop i xs)) = xs.drop i := by rw [List.take_take,zD (by simp; omega)]
  have hd3 : (List.take (xs.length + 1 - i) (List.drop i xs)).length = xs.length - i := by simp; omega
  have hol : (over xs (xs.drop i) (i + 1)).length = xs.length + 1 := by rw [over_length (by omega),List.length_drop]; omega
  have hol2 : (over (over xs (xs.drop i) (i + 1)) [y] i).length = xs.length + 1 := by rw [over_length (by omega),hol]; simp; omega
  simp +contextual (maxSteps:=9^7) only [go_sem,hy,hw,hw2,hw3,Nat.zero_add,Nat.sub_zero,m3,m4,hd2,hd3,hol,hol2]
  refine ⟨⟨by omega,by omega⟩,⟨by omega,by omega⟩,⟨by omega,by omega,by omega⟩,by kernel_rfl,⟨by omega,by omega⟩,⟨by omega,by omega⟩,by omega,?_⟩
  rw [ins_room xs [y] i rfl hin]
  exact (zD (by simp; omega)).symm
set_option maxHeartbeats 4000000 in
theorem BSearchPair_any (xs : List PV) (t : PV) (g : FuncId) (caps : List PV) (c : PV → Int) (h1 : ∀ x ∈ xs,x.cells.length = 2 ∧ x.isAgg = true) (hl : xs.length ≤ 1000000) (hg : Entered pG g)
  (hp : ∀ x ∈ xs,Ct pG g (Zv.ops ([x,t] ++ caps)) (.vals [.int .i64 (c x)])) :
  Ct pG 151 (Zv.ops [.row xs,t,.fn g caps]) (.vals [.int .i64 (bsI (cAt c xs) 0 xs.length : Nat),.bool (decide (∃ x,xs[bsI (cAt c xs) 0 xs.length]? = some x ∧ c x = 0))]) := by
 generalize hR : bsI (cAt c xs) 0 xs.length = r
 refine Ct.of_V Tryz.func151 rfl (by simp [Zv.ops,Tryz.f151]) ?_
 refine V.exec 400 ?_
 simp +contextual (maxSteps:=9^7) only [go_sem,Tryz.f151]
 refine V.loop (fun m ls os => ∃ (i j : Nat),i ≤ j ∧ j ≤ xs.length ∧ m = j - i ∧ bsI (cAt c xs) i j = r ∧
    ls = [(0,.val (.row xs)),(1,.val t),(2,.val (.fn g caps)),(8,.val (.int .i64 xs.length)),(9,.val (.int .i64 i)),(10,.val (.int .i64 j))] ∧ os = []) 0 xs.length
   [(0,.val (.row xs)),(1,.val t),(2,.val (.fn g caps)),(8,.val (.int .i64 xs.length)),(9,.val (.int .i64 0)),(10,.val (.int .i64 xs.length))] [] []
   ⟨0,xs.length,zF _,zR _,rfl,hR,rfl,rfl⟩ (by simp only [go_sem]) ?_
 rintro m ls os ⟨i,j,hij,hjl,rfl,hr,rfl,rfl⟩
 refine V.exec 400 ?_
 by_cases hlt : i < j
 ·have hlt' : (i : Int) < (j : Int) := by omega
  have hm : (i + j) / 2 < xs.length := by omega
  obtain ⟨x,hx⟩ : ∃ x,xs[(i + j) / 2]? = some x := ⟨_,zA hm⟩
  have hxm : x ∈ xs := zE hx
  obtain ⟨hxc,hxa⟩ := h1 x hxm
  have hca : cAt c xs ((i + j) / 2) = c x := by simp [cAt,hx]
  rw [bsI,dif_pos hlt,hca] at hr
  have hw1 : IntKind.i64.wrap ((i : Int) + (j : Int)) = ((i + j : Nat) : Int) := by rw [wrap_small2] <;> omega
  have hw2 : IntKind.u64.wrap ((i + j : Nat) : Int) = ((i + j : Nat) : Int) := by rw [wrap_u2] <;> omega
  have hw3 : ((i + j : Nat) : Int) / 2 = (((i + j) / 2 : Nat) : Int) := by omega
  have hw4 : IntKind.i64.wrap (((i + j) / 2 : Nat) : Int) = (((i + j) / 2 : Nat) : Int) := by rw [wrap_small2] <;> omega
  have hw5 : IntKind.i64.wrap ((((i + j) / 2 : Nat) : Int) + 1) = (((i + j) / 2 + 1 : Nat) : Int) := by rw [wrap_small2] <;> omega
  simp +contextual (maxSteps:=9^7) only [go_sem,hlt',hw1,hw2,hw3,hw4,hx,hxc,hxa]
  refine V.call rfl rfl (by simp [dOK]) ⟨g,caps,by simp only [go_sem],hg,.inl ⟨[x,t],_,.inl (by simp only [go_sem]),hp x hxm,.inl ⟨_,rfl,rfl,rfl,rfl⟩⟩⟩ ?_
  refine V.exec 400 ?_
  simp +contextual (maxSteps:=9^7) only [go_sem,hw5]
  constructor
  ·intro hc
   rw [if_pos hc] at hr
   exact ⟨j - ((i + j) / 2 + 1),_,[],[],by omega,⟨(i + j) / 2 + 1,j,by omega,hjl,rfl,hr,rfl,rfl⟩,by simp only [go_sem]⟩
  ·intro hc
   rw [if_neg hc] at hr
   exact ⟨(i + j) / 2 - i,_,[],[],by omega,⟨i,(i + j) / 2,by omega,by omega,rfl,hr,rfl,rfl⟩,by simp only [go_sem]⟩
 ·have hlt' : ¬ (i : Int) < (j : Int) := by omega
  rw [bsI,dif_neg hlt] at hr
  subst hr
  by_cases hil : i < xs.length
  ·have hil' : (i : Int) < (xs.length : Int) := by omega
   obtain ⟨x,hx⟩ : ∃ x,xs[i]? = some x := ⟨_,zA hil⟩
   have hxm : x ∈ xs := zE hx
   obtain ⟨hxc,hxa⟩ := h1 x hxm
   simp +contextual (maxSteps:=9^7) only [go_sem,hlt',hil',hx,hxc,hxa]
   refine V.call rfl rfl (by simp [dOK]) ⟨g,caps,by simp only [go_sem],hg,.inl ⟨[x,t],_,.inl (by simp only [go_sem]),hp x hxm,.inl ⟨_,rfl,rfl,rfl,rfl⟩⟩⟩ ?_
   refine V.exec 400 ?_
   simp +contextual (maxSteps:=9^7) only [go_sem,hx]
   simp [hx]
  ·have hil' : ¬ (i : Int) < (xs.length : Int) := by omega
   simp +contextual (maxSteps:=9^7) only [go_sem,hlt',hil']
   have : xs[i]? = none := List.getElem?_eq_none (by omega)
   simp [this]
def cmpStr (a b : List UInt8) : Int := if slt a b then -1 else if slt b a then 1 else 0
theorem isNaN_str (a : List UInt8) : Ct pG 182 (Zv.ops [.str a]) (.vals [.bool false]) := by
 refine Ct.of_V Tryz.func182 rfl (by simp [Zv.ops,Tryz.f182]) ?_
 refine V.exec 400 ?_
 simp +contextual (maxSteps:=9^7) only [go_sem,Tryz.f182]
theorem Compare_str (a b : List UInt8) : Ct pG 153 (Zv.ops [.str a,.str b]) (.vals [.int .i64 (cmpStr a b)]) := by
 refine Ct.of_V Tryz.func153 rfl (by simp [Zv.ops,Tryz.f153]) ?_
 refine V.exec 400 ?_
 simp +contextual (maxSteps:=9^7) only [go_sem,Tryz.f153]
 refine V.call rfl rfl (by simp [dOK]) ⟨182,[],by simp only [go_sem],⟨_,rfl,rfl,rfl⟩,.inl ⟨[.str a],_,.inl (by simp only [go_sem]),isNaN_str a,.inl ⟨_,rfl,rfl,rfl,rfl⟩⟩⟩ ?_
 refine V.exec 400 ?_
 simp +contextual (maxSteps:=9^7) only [go_sem]
 refine V.call rfl rfl (by simp [dOK]) ⟨182,[],by simp only [go_sem],⟨_,rfl,rfl,rfl⟩,.inl ⟨[.str b],_,.inl (by simp only [go_sem]),isNaN_str b,.inl ⟨_,rfl,rfl,rfl,rfl⟩⟩⟩ ?_
 refine V.exec 400 ?_
 simp +contextual (maxSteps:=9^7) only [go_sem]
 have e := slt_total a b
 have e2 := @slt_asymm a b
 have e3 := slt_irrefl b
 (repeat' (first | (intro _) | (refine ⟨by kernel_rfl,?_⟩) | (apply And.intro)))
 all_goals grind [cmpStr]
theorem cmpStr_neg {a b : List UInt8} : cmpStr a b < 0 ↔ slt a b := by unfold cmpStr; split <;> (try split) <;> simp_all
theorem cmpStr_zero {a b : List UInt8} : cmpStr a b = 0 ↔ a = b := by
 have e := slt_total a b
 have e3 := slt_irrefl b
 unfold cmpStr
 constructor
 ·intro h
  split at h
  ·cases h
  ·split at h
   ·cases h
   ·rcases e with e | e | e <;> first | exact e | contradiction
 ·rintro rfl
  simp [e3]
theorem leaf_place1 (p : Pair) (k : List UInt8) : Ct pG 152 (Zv.ops [p.pv,.str k]) (.vals [.int .i64 (cmpStr p.key k)]) := by
 refine Ct.of_V Tryz.func152 rfl (by simp [Zv.ops,Tryz.f152]) ?_
 refine V.exec 400 ?_
 simp +contextual (maxSteps:=9^7) only [go_sem,Tryz.f152,Pair.pv]
 refine V.call rfl rfl (by simp [dOK]) ⟨153,[],by simp only [go_sem],⟨_,rfl,rfl,rfl⟩,.inl ⟨[.str p.key,.str k],_,.inl (by simp only [go_sem]),Compare_str p.key k,.inl ⟨_,rfl,rfl,rfl,rfl⟩⟩⟩ ?_
 refine V.exec 400 ?_
 simp +contextual (maxSteps:=9^7) only [go_sem]
def kOf (k : List UInt8) : PV → Int
 | .agg (.str a :: _) => cmpStr a k
 | _ => 0
def posA (l : List Pair) (k : List UInt8) : Nat := bsI (cAt (kOf k) (l.map Pair.pv)) 0 l.length
set_option maxHeartbeats 2000000 in
theorem leaf_place (l : List Pair) (k : List UInt8) (hl : l.length ≤ 1000000) :
  Ct pG 116 (Zv.ops [.row (l.map Pair.pv),.str k]) (.vals [.int .i64 (posA l k),.bool (decide (∃ x,l[posA l k]? = some x ∧ x.key = k))]) := by
 have hb := BSearchPair_any (l.map Pair.pv) (.str k) 152 [] (kOf k) (fun x hx => by
   obtain ⟨s,_,rfl⟩ := zN.1 hx
   exact ⟨rfl,rfl⟩) (by simpa using hl) ⟨_,rfl,rfl,rfl⟩ (fun x hx => by
   obtain ⟨s,_,rfl⟩ := zN.1 hx
   exact leaf_place1 s k)
 have e0 : bsI (cAt (kOf k) (l.map Pair.pv)) 0 (l.map Pair.pv).length = posA l k := by rw [zW]; rfl
 rw [e0] at hb
 have e1 : (∃ x,(l.map Pair.pv)[posA l k]? = some x ∧ kOf k x = 0) ↔ ∃ x,l[posA l k]? = some x ∧ x.key = k := by
  constructor
  ·rintro ⟨x,hx,hc⟩
   rw [zS,Option.map_eq_some_iff] at hx
   obtain ⟨s,hs',rfl⟩ := hx
   exact ⟨s,hs',cmpStr_zero.1 hc⟩
  ·rintro ⟨s,hs',hc⟩
   exact ⟨s.pv,by rw [zS,hs']; rfl,cmpStr_zero.2 hc⟩
 simp only [e1] at hb
 refine Ct.of_V Tryz.func116 rfl (by simp [Zv.ops,Tryz.f116]) ?_
 refine V.exec 400 ?_
 simp +contextual (maxSteps:=9^7) only [go_sem,Tryz.f116]
 refine V.call rfl rfl (by simp [dOK]) ⟨151,[],by simp only [go_sem],⟨_,rfl,rfl,rfl⟩,.inl ⟨[.row (l.map Pair.pv),.str k,.fn 152 []],_,.inl (by simp only [go_sem]),hb,.inl ⟨_,rfl,rfl,rfl,rfl⟩⟩⟩ ?_
 refine V.exec 400 ?_
 simp +contextual (maxSteps:=9^7) only [go_sem]
def below (k : List UInt8) : List Pair → Nat
 | [] => 0
 | p :: r => if slt p.key k then below k r + 1 else 0
def getL (l : List Pair) (k : List UInt8) : Option Pair := l.find? fun p => decide (p.key = k)
theorem below_le (k : List UInt8) : ∀ l : List Pair,below k l ≤ l.length
 | [] => zR _
 | p :: r => by unfold below; split <;> simp; exact below_le k r
theorem below_lt {k : List UInt8} : ∀ (l : List Pair) (i : Nat) (x : Pair),i < below k l → l[i]? = some x → slt x.key k
 | p :: r,i,x,hi,hx => by
  unfold below at hi
  split at hi
  ·cases i with
   | zero => simp at hx; subst hx; assumption
   | succ i => exact below_lt r i x (by omega) (by simpa using hx)
  ·omega
def rising : Option (List UInt8) → List Pair → Prop
 | _,[] => True
 | last,p :: r => (∀ k,last = some k → slt k p.key) ∧ rising (some p.key) r
theorem rising_of : ∀ (l : List Pair) (last : Option (List UInt8)),pairsFrom last l → rising last l
 | [],_,_ => trivial
 | p :: r,last,h => ⟨h.2.2.1,rising_of r _ h.2.2.2⟩
theorem rising_above : ∀ (l : List Pair) (k : List UInt8),rising (some k) l → ∀ x ∈ l,slt k x.key
 | p :: r,k,h,x,hx => by
  have h1 := h.1 k rfl
  rcases zI.1 hx with rfl | hx
  ·exact h1
  ·exact slt_trans h1 (rising_above r p.key h.2 x hx)
theorem below_ge {k : List UInt8} : ∀ (l : List Pair) (last : Option (List UInt8)),rising last l → ∀ (i : Nat) (x : Pair),below k l ≤ i → l[i]? = some x → ¬ slt x.key k
 | p :: r,last,h,i,x,hi,hx => by
  unfold below at hi
  split at hi
  ·cases i with
   | zero => omega
   | succ i => exact below_ge r _ h.2 i x (by omega) (by simpa using hx)
  ·rename_i hn
   cases i with
   | zero => simp at hx; subst hx; exact hn
   | succ i =>
    have h2 := rising_above r p.key h.2 x (zE (i := i) (by simpa using hx))
    intro hc
    exact hn (slt_trans h2 hc)
theorem posA_eq {l : List Pair} (h : rising none l) (k : List UInt8) : posA l k = below k l := by
 refine bsI_eq _ _ _ _ (zF _) (below_le k l) (fun m _ hm => ?_) (fun m hm hm2 => ?_)
 ·obtain ⟨x,hx⟩ : ∃ x,l[m]? = some x := ⟨_,zA (by have := below_le k l; omega)⟩
  have := below_lt l m x hm hx
  simp only [cAt,zS,hx,Option.map_some]
  exact cmpStr_neg.2 this
 ·obtain ⟨x,hx⟩ : ∃ x,l[m]? = some x := ⟨_,zA hm2⟩
  have := below_ge l none h m x hm hx
  simp only [cAt,zS,hx,Option.map_some]
  exact fun hc => this (cmpStr_neg.1 hc)
theorem below_find {k : List UInt8} : ∀ (l : List Pair) (last : Option (List UInt8)),rising last l → ∀ x,(l[below k l]? = some x ∧ x.key = k) ↔ getL l k = some x
 | [],_,_,x => by simp [below,getL]
 | p :: r,last,h,x => by
  unfold below getL
  by_cases hk : slt p.key k
  ·have hne : ¬ p.key = k := fun e => slt_irrefl k (by rw [e] at hk; exact hk)
   rw [if_pos hk,List.find?_cons,decide_eq_false hne]
   simpa [getL] using below_find r _ h.2 x
  ·rw [if_neg hk,List.find?_cons]
   by_cases he : p.key = k
   ·simp [he]
    rintro rfl; exact he
   ·have hr : getL r k = none := by
     unfold getL
     rw [List.find?_eq_none]
     intro y hy
     have h2 := rising_above r p.key h.2 y hy
     simp
     rintro rfl
     exact hk h2
    unfold getL at hr
    simp [he,hr]
    rintro rfl; exact he
def getV (l : List Pair) (k : List UInt8) : List UInt8 × Bool := if pairsOk l then match getL l k with | some p => (p.value,true) | none => ([],false) else ([],false)
set_option maxHeartbeats 2000000 in
theorem leaf_Get (l : List Pair) (k : List UInt8) (hl : l.length ≤ 1000000) : Ct pG 125 (Zv.ops [.row (l.map Pair.pv),.str k]) (.vals [.str (getV l k).1,.bool (decide ((getV l k).2 = true))]) := by
 refine Ct.of_V Tryz.func125 rfl (by simp [Zv.ops,Tryz.f125]) ?_
 refine V.exec 400 ?_
 simp +contextual (maxSteps:=9^7) only [go_sem,Tryz.f125]
 refine V.call rfl rfl (by simp [dOK]) ⟨116,[],by simp only [go_sem],⟨_,rfl,rfl,rfl⟩,.inl ⟨[.row (l.map Pair.pv),.str k],_,.inl (by simp only [go_sem]),leaf_place l k hl,.inl ⟨_,rfl,rfl,rfl,rfl⟩⟩⟩ ?_
 refine V.exec 400 ?_
 by_cases he : ∃ x,l[posA l k]? = some x ∧ x.key = k
 ·obtain ⟨x,hx⟩ := he
  have he : (∃ x,l[posA l k]? = some x ∧ x.key = k) := ⟨x,hx⟩
  have hlt := (zQ.1 hx.1).1
  have hlt' : ((posA l k : Nat) : Int) < (l.length : Int) := by omega
  have hE : (∃ y,some x = some y ∧ y.key = k) := ⟨x,rfl,hx.2⟩
  simp +contextual (maxSteps:=9^7) only [go_sem,hx.1,hE]
  refine V.call rfl rfl (by simp [dOK]) ⟨104,[],by simp only [go_sem],⟨_,rfl,rfl,rfl⟩,.inl ⟨[.row (l.map Pair.pv)],_,.inl (by simp only [go_sem]),leaf_Right l hl,.inl ⟨_,rfl,rfl,rfl,rfl⟩⟩⟩ ?_
  refine V.exec 400 ?_
  by_cases hok : pairsOk l
  ·have hr := rising_of l none hok
   have hp := posA_eq hr k
   have hg := (below_find l none hr x).1 (by rw [← hp]; exact hx)
   have hv : getV l k = (x.value,true) := by simp [getV,hok,hg]
   simp +contextual (maxSteps:=9^7) only [go_sem,hok,hx.1,hlt',hv,Pair.pv]
  ·have hv : getV l k = ([],false) := by simp [getV,hok]
   simp +contextual (maxSteps:=9^7) only [go_sem,hok,hv]
 ·have hv : getV l k = ([],false) := by
   unfold getV
   split
   ·rename_i hok
    have hr := rising_of l none hok
    have hp := posA_eq hr k
    cases hg : getL l k with
    | none => rfl
    | some x => exact absurd ⟨x,by rw [hp]; exact (below_find l none hr x).2 hg⟩ he
   ·rfl
  simp +contextual (maxSteps:=9^7) only [go_sem,he,hv]
def Pair.of : PV → Pair
 | .agg [.str k,.str v] => ⟨k,v⟩
 | _ => ⟨[],[]⟩
theorem Pair.of_pv (p : Pair) : Pair.of p.pv = p := rfl
theorem Pair.filter_pv (l : List Pair) (p : Pair → Bool) : (l.map Pair.pv).filter (fun x => !p (Pair.of x)) = (l.filter fun c => !p c).map Pair.pv := by
 induction l with
 | nil => rfl
 | cons s r ih =>
  simp only [zC,List.filter_cons,Pair.of_pv,ih]
  split <;> rfl
theorem stretch_Pick1 (r : Range) (p : Pair) : Ct pG 140 (Zv.ops [p.pv,.ptr r.pv]) (.vals [.bool (decide (¬ r.isIn p.key))]) := by
 refine Ct.of_V Tryz.func140 rfl (by simp [Zv.ops,Tryz.f140]) ?_
 refine V.exec 400 ?_
 simp +contextual (maxSteps:=9^7) only [go_sem,Tryz.f140,Pair.pv,Range.pv]
 refine V.call rfl rfl (by simp [dOK]) ⟨73,[],by simp only [go_sem],⟨_,rfl,rfl,rfl⟩,.inl ⟨[r.pv,.str p.key],_,.inl (by simp only [go_sem,Range.pv]),stretch_In r p.key,.inl ⟨_,rfl,rfl,rfl,rfl⟩⟩⟩ ?_
 refine V.exec 400 ?_
 simp +contextual (maxSteps:=9^7) only [go_sem]
def pickV (r : Range) (l : List Pair) : List Pair := l.filter fun p => decide (r.isIn p.key)
theorem pickV_len (r : Range) (l : List Pair) : (pickV r l).length ≤ l.length := List.length_filter_le _ _
set_option maxHeartbeats 4000000 in
theorem stretch_Pick (r : Range) (l : List Pair) (hl : l.length ≤ 1000000) : Ct pG 99 (Zv.ops [r.pv,.row (l.map Pair.pv)]) (.vals [.row ((pickV r l).map Pair.pv)]) := by
 have h7 : ∀ x ∈ l.map Pair.pv,x.cells.length = 2 ∧ x.isAgg = true ∧ ∀ c ∈ x.cells,c.isAgg = false := fun x hx => by
  obtain ⟨s,_,rfl⟩ := zN.1 hx
  exact ⟨rfl,rfl,by simp [Pair.pv,PV.cells,PV.isAgg]⟩
 have hdel := DeleteFuncPair (l.map Pair.pv) 140 [.ptr r.pv] (fun x => decide (¬ r.isIn (Pair.of x).key)) h7 (by simpa using hl) ⟨_,rfl,rfl,rfl⟩ (fun x hx => by
  obtain ⟨s,hs,rfl⟩ := zN.1 hx
  rw [Pair.of_pv]
  simpa using stretch_Pick1 r s) (by simp only [go_sem])
 rw [Pair.filter_pv l (fun p => decide (¬ r.isIn p.key))] at hdel
 have e : (l.filter fun c => !decide (¬ r.isIn c.key)) = pickV r l := by
  unfold pickV; congr 1; funext c; simp
 rw [e] at hdel
 refine Ct.of_V Tryz.func99 rfl (by simp [Zv.ops,Tryz.f99]) ?_
 refine V.exec 400 ?_
 simp +contextual (maxSteps:=9^7) only [go_sem,Tryz.f99,Range.pv]
 refine V.call rfl rfl (by simp [dOK]) ⟨114,[],by simp only [go_sem],⟨_,rfl,rfl,rfl⟩,.inl ⟨[.row (l.map Pair.pv)],_,.inl (by simp only [go_sem]),ClonePair (l.map Pair.pv) (fun x hx => (h7 x hx).1) (by simpa using hl),.inr (.inr ⟨77,(l.map Pair.pv)   ,rfl,by simp only [go_sem],rfl,rfl⟩)⟩⟩ ?_
 refine V.exec 400 ?_
 simp +contextual (maxSteps:=9^7) only [go_sem]
 refine V.call rfl rfl (by simp [dOK]) ⟨139,[],by simp only [go_sem],⟨_,rfl,rfl,rfl⟩,.inr (.inl ⟨5,77,l.map Pair.pv,[.val (.fn 140 [.ptr r.pv])],[.fn 140 [.ptr r.pv]],77,_,by simp only [go_sem,Range.pv],by simp only [go_sem],.inl (by simp only [go_sem]),hdel,by simp only [go_sem],rfl,rfl⟩)⟩ ?_
 refine V.exec 400 ?_
 simp +contextual (maxSteps:=9^7) only [go_sem]
theorem ref03_In (r : Range) (k : List UInt8) : Ct pG 62 (Zv.ops [r.pv,.str k]) (.vals [.bool (decide (r.isIn k))]) := by
 refine Ct.of_V Tryz.func62 rfl (by simp [Zv.ops,Tryz.f62]) ?_
 refine V.exec 400 ?_
 simp +contextual (maxSteps:=9^7) only [go_sem,Tryz.f62,Range.pv]
 simp only [Option.some.injEq,List.cons.injEq,PV.bool.injEq,and_true]
 grind [Range.isIn]
set_option maxHeartbeats 4000000 in
theorem ref03_Pick (r : Range) (l : List Pair) (hl : l.length ≤ 1000000) : Ct pG 24 (Zv.ops [r.pv,.row (l.map Pair.pv)]) (.vals [.row ((pickV r l).map Pair.pv)]) := by
 refine Ct.of_V Tryz.func24 rfl (by simp [Zv.ops,Tryz.f24]) ?_
 refine V.exec 400 ?_
 simp +contextual (maxSteps:=9^7) only [go_sem,Tryz.f24,Range.pv]
 refine V.loop (fun m ls os => ∃ (i : Nat),i ≤ l.length ∧ m = l.length - i ∧
    ls = [(1,.val (.row (l.map Pair.pv))),(2,.adr 0 0),(5,.ref 1),(6,.val (.int .i64 i))] ∧ os = [.box true [.val (.str r.lo),.val (.str r.hi),.val (.bool (decide (r.op = true)))],.row 77 ((pickV r (l.take i)).map Pair.pv)]) 2 l.length
   [(1,.val (.row (l.map Pair.pv))),(2,.adr 0 0),(5,.ref 1),(6,.val (.int .i64 0))] [.box true [.val (.str r.lo),.val (.str r.hi),.val (.bool (decide (r.op = true)))],.row 77 []] [some 2,none]
   ⟨0,zF _,rfl,rfl,rfl⟩ (by simp only [go_sem,Range.pv]; try decide) ?_
 rintro m ls os ⟨i,hi,rfl,rfl,rfl⟩
 refine V.exec 400 ?_
 have hpl : (pickV r (l.take i)).length ≤ l.length := Nat.le_trans (pickV_len _ _) (by rw [zU]; omega)
 by_cases hlt : i < l.length
 ·have hlt' : (i : Int) < (l.length : Int) := by omega
  obtain ⟨x,hx⟩ : ∃ x,l[i]? = some x := ⟨_,zA hlt⟩
  have hw : IntKind.i64.wrap ((i : Int) + 1) = ((i + 1 : Nat) : Int) := by rw [wrap_small3] <;> omega
  have hn : pickV r (l.take (i + 1)) = if r.isIn x.key then pickV r (l.take i) ++ [x] else pickV r (l.take i) := by
   unfold pickV
   rw [zL,hx,zV]
   by_cases h : r.isIn x.key <;> simp [h]
  simp +contextual (maxSteps:=9^7) only [go_sem,hlt',hx,Pair.pv]
  refine DV.call [0] [0] (by simp only [go_sem,Range.pv]) (by simp [dOK]) ⟨62,[],by simp only [go_sem,Range.pv],⟨_,rfl,rfl,rfl⟩,.inl ⟨[r.pv,.str x.key],_,.inl (by simp only [go_sem,Range.pv]),ref03_In r x.key,.inl ⟨_,rfl,rfl,rfl,rfl⟩⟩⟩ (by simp only [go_sem,Range.pv]) (by simp only [go_sem,Range.pv]) (by simp only [go_sem,Range.pv]) (by simp) ?_
  refine DV.exec 400 ?_
  by_cases h : r.isIn x.key
  ·rw [if_pos h] at hn
   generalize hL : pickV r (l.take i) = L at *
   simp +contextual (maxSteps:=9^7) only [go_sem,hlt',hx,Pair.pv,h,hw]
   refine ⟨by kernel_rfl,⟨by omega,by omega⟩,l.length - (i + 1),_,_,[some 0,some 21],by omega,⟨i + 1,by omega,rfl,rfl,rfl⟩,?_⟩
   simp only [go_sem,hn,zM,zC,zB,Pair.pv]
   try decide
  ·rw [if_neg h] at hn
   simp +contextual (maxSteps:=9^7) only [go_sem,hlt',hx,Pair.pv,h,hw]
   refine ⟨by kernel_rfl,l.length - (i + 1),_,_,[some 0,some 1],by omega,⟨i + 1,by omega,rfl,rfl,rfl⟩,?_⟩
   simp only [go_sem,hn]
   try decide
 ·have hlt' : ¬ (i : Int) < (l.length : Int) := by omega
  simp +contextual (maxSteps:=9^7) only [go_sem,hlt']
  rw [zD (by omega)]
structure Note where
 kind : Int
 key : List UInt8
 value : List UInt8
 n : Int
 deriving DecidableEq
def Note.pv (x : Note) : PV := .agg [.int .i64 x.kind,.str x.key,.str x.value,.int .u64 x.n]
def Note.ok (x : Note) : Prop := x.key.length ≤ 16 ∧ x.value.length ≤ 32 ∧ ((x.kind = 1 ∧ x.n = 0) ∨ (x.kind = 2 ∧ x.n = 0 ∧ x.value = []) ∨ (x.kind = 3 ∧ x.value = []))
instance Note.instOk (x : Note) : Decidable x.ok := by unfold Note.ok; infer_instance
set_option maxHeartbeats 4000000 in
theorem note_Right (x : Note) : Ct pG 108 (Zv.ops [x.pv]) (.vals [.bool (decide x.ok)]) := by
 refine Ct.of_V Tryz.func108 rfl (by simp [Zv.ops,Tryz.f108]) ?_
 refine V.exec 400 ?_
 simp +contextual (maxSteps:=9^7) only [go_sem,Tryz.f108,Note.pv]
 simp only [Option.some.injEq,List.cons.injEq,PV.bool.injEq,and_true]
 (repeat' (first | (intro _) | (refine ⟨by kernel_rfl,?_⟩) | (apply And.intro)))
 all_goals grind [Note.ok]
theorem wrap_u64 {n : Int} (h : 0 ≤ n) (h' : n < 18446744073709551616) : IntKind.u64.wrap n = n := by
 simp [IntKind.wrap,IntKind.bits,IntKind.signed]; omega
def beN (l : List UInt8) : Int := l.foldl (fun n b => n * 256 + (b.toNat : Int)) 0
theorem beN_snoc (l : List UInt8) (b : UInt8) : beN (l ++ [b]) = beN l * 256 + (b.toNat : Int) := by simp [beN]
theorem beN_acc : ∀ (l : List UInt8) (a : Int),0 ≤ a → 0 ≤ l.foldl (fun n b => n * 256 + (b.toNat : Int)) a ∧ l.foldl (fun n b => n * 256 + (b.toNat : Int)) a < (a + 1) * 256 ^ l.length
 | [],a,h => by simp; omega
 | b :: r,a,h => by
  have hb := b.toNat_lt
  obtain ⟨h1,h2⟩ := beN_acc r (a * 256 + (b.toNat : Int)) (by omega)
  refine ⟨h1,Int.lt_of_lt_of_le h2 ?_⟩
  rw [zT,Int.pow_succ,Int.mul_comm (256 ^ r.length),← Int.mul_assoc]
  exact Int.mul_le_mul_of_nonneg_right (by omega) (Int.le_of_lt (Int.pow_pos (by decide)))
theorem beN_nonneg (l : List UInt8) : 0 ≤ beN l := (beN_acc l 0 (by decide)).1
theorem beN_lt (l : List UInt8) : beN l < 256 ^ l.length := by have := (beN_acc l 0 (by decide)).2; simpa [beN] using this
theorem or_byte {n : Int} (h0 : 0 ≤ n) (h1 : n < 72057594037927936) (b : UInt8) :
  IntKind.u64.wrap (orI .u64 (n * 256) (b.toNat : Int)) = n * 256 + (b.toNat : Int) := by
 obtain ⟨m,rfl⟩ : ∃ m : Nat,n = m := ⟨n.toNat,by omega⟩
 have hb := b.toNat_lt
 have e1 : BitVec.ofInt 64 ((m : Int) * 256) = BitVec.ofNat 64 (m * 256) := by
  rw [show (m : Int) * 256 = ((m * 256 : Nat) : Int) by omega,BitVec.ofInt_natCast]
 have e2 : BitVec.ofInt 64 (b.toNat : Int) = BitVec.ofNat 64 b.toNat := by
  rw [BitVec.ofInt_natCast]
 have e3 : (BitVec.ofNat 64 (m * 256) ||| BitVec.ofNat 64 b.toNat : BitVec 64).toNat = m * 256 + b.toNat := by
  rw [BitVec.toNat_or,BitVec.toNat_ofNat,BitVec.toNat_ofNat,Nat.mod_eq_of_lt (by omega),Nat.mod_eq_of_lt (by omega)]
  have := Nat.shiftLeft_add_eq_or_of_lt (b := b.toNat) (i := 8) (by omega) m
  rw [Nat.shiftLeft_eq] at this
  exact this.symm
 show IntKind.u64.wrap ((BitVec.ofInt 64 ((m : Int) * 256) ||| BitVec.ofInt 64 (b.toNat : Int) : BitVec 64).toNat : Int) = _
 rw [e1,e2,e3]
 have h3 : (0 : Int) ≤ ((m * 256 + b.toNat : Nat) : Int) := by omega
 have h4 : ((m * 256 + b.toNat : Nat) : Int) < 18446744073709551616 := by omega
 rw [IntKind.wrap]
 simp [IntKind.bits,IntKind.signed]
 omega
def beB (n : Int) (k : Nat) : List UInt8 := (List.range k).map fun j => UInt8.ofNat (n / 256 ^ (k - 1 - j) % 256).toNat
theorem beB_len (n : Int) (k : Nat) : (beB n k).length = k := by simp [beB]
theorem beB_succ (n : Int) (k : Nat) : beB n (k + 1) = UInt8.ofNat (n / 256 ^ k % 256).toNat :: beB n k := by
 unfold beB
 rw [List.range_succ_eq_map,zC,List.map_map]
 congr 1
 apply List.map_congr_left
 intro j hj
 have := List.mem_range.1 hj
 simp only [Function.comp]
 rw [show k + 1 - 1 - (j + 1) = k - 1 - j by omega]
theorem pack_fits (n : Int) : Ct pG 183 (Zv.ops [.int .i64 n]) (.vals [.bool (decide (1 ≤ n ∧ n ≤ 8))]) := by
 refine Ct.of_V Tryz.func183 rfl (by simp [Zv.ops,Tryz.f183]) ?_
 refine V.exec 400 ?_
 simp +contextual (maxSteps:=9^7) only [go_sem,Tryz.f183]
 simp only [Option.some.injEq,List.cons.injEq,PV.bool.injEq,and_true]
 grind
set_option maxHeartbeats 4000000 in
theorem pack_Take (s : List UInt8) (hl : s.length = 8) : Ct pG 184 (Zv.ops [.str s,.int .i64 8]) (.vals [.int .u64 (beN s),.str [],.int .i64 0]) := by
 refine Ct.of_V Tryz.func184 rfl (by simp [Zv.ops,Tryz.f184]) ?_
 refine V.exec 400 ?_
 simp +contextual (maxSteps:=9^7) only [go_sem,Tryz.f184]
 refine V.call rfl rfl (by simp [dOK]) ⟨183,[],by simp only [go_sem],⟨_,rfl,rfl,rfl⟩,.inl ⟨[.int .i64 8],_,.inl (by simp only [go_sem]),pack_fits 8,.inl ⟨_,rfl,rfl,rfl,rfl⟩⟩⟩ ?_
 refine V.exec 400 ?_
 have hd : (1 : Int) ≤ 8 ∧ (8 : Int) ≤ 8 := by decide
 have hl' : ¬ (s.length : Int) < 8 := by omega
 simp +contextual (maxSteps:=9^7) only [go_sem,hd,hl',and_true]
 refine V.loop (fun m ls os => ∃ (i : Nat),i ≤ 8 ∧ m = 8 - i ∧
    ls = [(0,.val (.str s)),(1,.val (.int .i64 8)),(7,.val (.int .u64 (beN (s.take i)))),(18,.val (.int .i64 8)),(19,.val (.int .i64 i))] ∧ os = []) 0 8
   [(0,.val (.str s)),(1,.val (.int .i64 8)),(7,.val (.int .u64 0)),(18,.val (.int .i64 8)),(19,.val (.int .i64 0))] [] []
   ⟨0,zF _,rfl,rfl,rfl⟩ (by simp only [go_sem]) ?_
 rintro m ls os ⟨i,hi,rfl,rfl,rfl⟩
 refine V.exec 400 ?_
 by_cases hlt : i < 8
 ·have hlt' : (i : Int) < 8 := by omega
  obtain ⟨x,hx⟩ : ∃ x,s[i]? = some x := ⟨_,zA (by omega)⟩
  have hw : IntKind.i64.wrap ((i : Int) + 1) = ((i + 1 : Nat) : Int) := by rw [wrap_small3] <;> omega
  have hb0 := beN_nonneg (s.take i)
  have hb1 : beN (s.take i) < 72057594037927936 := by
   have h1 := beN_lt (s.take i)
   have h2 : (s.take i).length ≤ 7 := by simp; omega
   have h3 : ∀ k : Fin 8,(256 : Int) ^ k.val ≤ 72057594037927936 := by decide
   have := h3 ⟨(s.take i).length,by omega⟩
   exact Int.lt_of_lt_of_le h1 this
  have hsn : beN (s.take (i + 1)) = beN (s.take i) * 256 + (x.toNat : Int) := by rw [zL,hx]; exact beN_snoc _ _
  have hsh : IntKind.u64.wrap (beN (s.take i) * 2 ^ min (Int.toNat 8) 64) = beN (s.take i) * 256 := by
   have : (2 : Int) ^ min (Int.toNat 8) 64 = 256 := by decide
   rw [this,wrap_u64] <;> omega
  have hcv : IntKind.u64.wrap (x.toNat : Int) = (x.toNat : Int) := by have := x.toNat_lt; rw [wrap_u64] <;> omega
  have hor := or_byte hb0 hb1 x
  have h8 : (0 : Int) ≤ 8 := by decide
  simp +contextual (maxSteps:=9^7) only [go_sem,hlt',hx,hw,hsh,hcv,hor,h8,← hsn]
  exact ⟨8 - (i + 1),_,[],[],by omega,⟨i + 1,by omega,rfl,rfl,rfl⟩,by simp only [go_sem]⟩
 ·have hlt' : ¬ (i : Int) < 8 := by omega
  obtain rfl : i = 8 := by omega
  simp +contextual (maxSteps:=9^7) only [go_sem,hlt']
  refine ⟨⟨by decide,by omega⟩,by kernel_rfl,?_⟩
  rw [zD (by omega),zK (by simp; omega)]
def numV (v : List UInt8) : Int := if v.length = 8 then beN v else 0
theorem note_Number (v : List UInt8) : Ct pG 155 (Zv.ops [.str v]) (.vals [.int .u64 (numV v)]) := by
 refine Ct.of_V Tryz.func155 rfl (by simp [Zv.ops,Tryz.f155]) ?_
 refine V.exec 400 ?_
 simp +contextual (maxSteps:=9^7) only [go_sem,Tryz.f155]
 by_cases h : v.length = 8
 ·have h' : (v.length : Int) = 8 := by omega
  simp +contextual (maxSteps:=9^7) only [go_sem,h',not_true_eq_false]
  refine V.call rfl rfl (by simp [dOK]) ⟨184,[],by simp only [go_sem],⟨_,rfl,rfl,rfl⟩,.inl ⟨[.str v,.int .i64 8],_,.inl (by simp only [go_sem]),pack_Take v h,.inr (.inl ⟨_,rfl,rfl,rfl⟩)⟩⟩ ?_
  refine V.exec 400 ?_
  simp +contextual (maxSteps:=9^7) only [go_sem]
  simp [numV,h]
 ·have h' : ¬ (v.length : Int) = 8 := by omega
  simp +contextual (maxSteps:=9^7) only [go_sem,h']
  simp [numV,h]
def numRow (n : Int) (i : Nat) : List PV := (List.range 8).map fun j => if 7 - j < i then PV.int .u8 (n / 256 ^ (7 - j) % 256) else PV.int .u8 0
theorem numRow_len (n : Int) (i : Nat) : (numRow n i).length = 8 := by simp [numRow]
theorem numRow_zero (n : Int) : numRow n 0 = List.replicate 8 (PV.int .u8 0) := by rfl
theorem numRow_set (n : Int) (i : Nat) (hi : i < 8) : (numRow n i).set (7 - i) (PV.int .u8 (n / 256 ^ i % 256)) = numRow n (i + 1) := by
 apply List.ext_getElem?
 intro j
 by_cases hj : j < 8
 ·rw [List.getElem?_set]
  by_cases he : 7 - i = j
  ·subst he
   have e : 7 - (7 - i) = i := by omega
   have e2 : 7 - i < 8 := by omega
   simp [numRow,e,e2,hi]
  ·simp [he,numRow,hj]
   have : (7 - j < i) ↔ (7 - j < i + 1) := by omega
   simp [this]
 ·rw [List.getElem?_eq_none (by simp [numRow]; omega),List.getElem?_eq_none (by simp [numRow]; omega)]
theorem bytesOf_map : ∀ (l : List Int),bytesOf (l.map (PV.int .u8)) = some (l.map fun n => UInt8.ofNat n.toNat)
 | [] => rfl
 | n :: l => by simp only [zC,bytesOf,bytesOf_map l]
theorem numRow_bytes (n : Int) : bytesOf (numRow n 8) = some (beB n 8) := by
 have e : numRow n 8 = ((List.range 8).map fun j => n / 256 ^ (7 - j) % 256).map (PV.int .u8) := by
  unfold numRow
  rw [List.map_map]
  apply List.map_congr_left
  intro j hj
  have := List.mem_range.1 hj
  rw [if_pos (by omega)]; rfl
 rw [e,bytesOf_map]
 simp [beB]
set_option maxHeartbeats 4000000 in
theorem pack_Num (n : Int) (h0 : 0 ≤ n) : Ct pG 154 (Zv.ops [.int .u64 n,.int .i64 8]) (.vals [.str (beB n 8),.int .i64 0]) := by
 refine Ct.of_V Tryz.func154 rfl (by simp [Zv.ops,Tryz.f154]) ?_
 refine V.exec 400 ?_
 simp +contextual (maxSteps:=9^7) only [go_sem,Tryz.f154]
 refine V.call rfl rfl (by simp [dOK]) ⟨183,[],by simp only [go_sem],⟨_,rfl,rfl,rfl⟩,.inl ⟨[.int .i64 8],_,.inl (by simp only [go_sem]),pack_fits 8,.inl ⟨_,rfl,rfl,rfl,rfl⟩⟩⟩ ?_
 refine V.exec 400 ?_
 have hd : (1 : Int) ≤ 8 ∧ (8 : Int) ≤ 8 := by decide
 have hl' : ¬ (8 : Int) < 8 := by decide
 simp +contextual (maxSteps:=9^7) only [go_sem,hd,hl',and_true]
 refine ⟨⟨by decide,by decide,by decide⟩,?_⟩
 refine V.loop (fun m ls os => ∃ (i : Nat),i ≤ 8 ∧ m = 8 - i ∧
    ls = [(0,.val (.int .u64 n)),(1,.val (.int .i64 8)),(6,.ref 0),(25,.val (.int .i64 8)),(26,.val (.int .i64 i))] ∧ os = [.row 5 (numRow n i)]) 1 8
   [(0,.val (.int .u64 n)),(1,.val (.int .i64 8)),(6,.ref 0),(25,.val (.int .i64 8)),(26,.val (.int .i64 0))] [.row 5 (numRow n 0)] [some 19]
   ⟨0,zF _,rfl,rfl,rfl⟩ (by simp only [go_sem,numRow_zero]; exact ⟨rfl,rfl⟩) ?_
 rintro m ls os ⟨i,hi,rfl,rfl,rfl⟩
 refine V.exec 400 ?_
 by_cases hlt : i < 8
 ·have hlt' : (i : Int) < 8 := by omega
  have hw : IntKind.i64.wrap ((i : Int) + 1) = ((i + 1 : Nat) : Int) := by rw [wrap_small3] <;> omega
  have hw1 : IntKind.i64.wrap (8 * (i : Int)) = ((8 * i : Nat) : Int) := by rw [wrap_small3] <;> omega
  have hw2 : IntKind.i64.wrap (8 - 1) = 7 := by decide
  have hw3 : IntKind.i64.wrap (7 - (i : Int)) = ((7 - i : Nat) : Int) := by rw [wrap_small3] <;> omega
  have hsr : n / 2 ^ min (8 * i) 64 = n / 256 ^ i := by
   rw [Nat.min_eq_left (by omega),Int.pow_mul]; rfl
  have hcv : IntKind.u8.wrap (n / 256 ^ i) = n / 256 ^ i % 256 := by simp [IntKind.wrap,IntKind.bits,IntKind.signed]
  have hlen := numRow_len n i
  have hz : (numRow n i)[7 - i]? = some (PV.int .u8 0) := by
   have e : 7 - (7 - i) = i := by omega
   have e2 : 7 - i < 8 := by omega
   simp [numRow,e,e2]
  have hset := numRow_set n i hlt
  simp +contextual (maxSteps:=9^7) only [go_sem,hlt',hw,hw1,hw2,hw3,hsr,hcv,hlen,hz,hset]
  exact ⟨8 - (i + 1),_,_,[some 0],by omega,⟨i + 1,by omega,rfl,rfl,rfl⟩,by simp only [go_sem]⟩
 ·have hlt' : ¬ (i : Int) < 8 := by omega
  obtain rfl : i = 8 := by omega
  simp +contextual (maxSteps:=9^7) only [go_sem,hlt',numRow_bytes]
def doneOne (st : List UInt8 × Bool) (x : Note) : List UInt8 × Bool :=
 if x.kind = 1 then (x.value,true) else if x.kind = 2 then ([],false) else if x.kind = 3 then (beB (IntKind.u64.wrap (numV st.1 + x.n)) 8,true) else st
def doneV (v : List UInt8) (has : Bool) (l : List Note) : List UInt8 × Bool := l.foldl doneOne (if has = true then v else [],has)
theorem u64_wrap_nonneg (x : Int) : 0 ≤ IntKind.u64.wrap x := by simp [IntKind.wrap,IntKind.bits,IntKind.signed]; omega
set_option maxRecDepth 4000 in
set_option maxHeartbeats 8000000 in
theorem note_Done (v : List UInt8) (has : Bool) (l : List Note) (hl : l.length ≤ 1000000) : Ct pG 117 (Zv.ops [.str v,.bool (decide (has = true)),.row (l.map Note.pv)])
  (.vals [.str (doneV v has l).1,.bool (decide ((doneV v has l).2 = true))]) := by
 generalize hD : doneV v has l = D
 unfold doneV at hD
 refine Ct.of_V Tryz.func117 rfl (by simp [Zv.ops,Tryz.f117]) ?_
 refine V.exec 400 ?_
 cases has
 all_goals simp only [Bool.false_eq_true,↓reduceIte] at hD
 all_goals simp +contextual (maxSteps:=9^7) only [go_sem,Tryz.f117,decide_true,decide_false]
 all_goals refine V.loop (fun m ls os => ∃ (i : Nat) (u : List UInt8) (h : Bool),i ≤ l.length ∧ m = l.length - i ∧ (l.drop i).foldl doneOne (u,h) = D ∧ ls = [(0,.val (.str u)),(1,.val (.bool (decide (h = true)))),(14,.val (.row (l.map Note.pv))),(15,.val (.int .i64 l.length)),(16,.val (.int .i64 i))] ∧ os = []) 0 l.length _ _ [] ⟨0,_,_,zF _,rfl,hD,rfl,rfl⟩ (by simp only [go_sem,decide_true,decide_false]; try rfl) ?_
 all_goals rintro m ls os ⟨i,u,h,hi,rfl,hf,rfl,rfl⟩
 all_goals refine V.exec 400 ?_
 all_goals by_cases hlt : i < l.length
 case neg =>
  have hlt' : ¬ (i : Int) < (l.length : Int) := by omega
  have hd : l.drop i = [] := zK (by omega)
  rw [hd,List.foldl_nil] at hf
  subst hf
  simp +contextual (maxSteps:=9^7) only [go_sem,hlt']
 case neg =>
  have hlt' : ¬ (i : Int) < (l.length : Int) := by omega
  have hd : l.drop i = [] := zK (by omega)
  rw [hd,List.foldl_nil] at hf
  subst hf
  simp +contextual (maxSteps:=9^7) only [go_sem,hlt']
 all_goals
  have hlt' : (i : Int) < (l.length : Int) := by omega
  obtain ⟨x,hx⟩ : ∃ x,l[i]? = some x := ⟨_,zA hlt⟩
  have hw : IntKind.i64.wrap ((i : Int) + 1) = ((i + 1 : Nat) : Int) := by rw [wrap_small3] <;> omega
  rw [drop_of_get hx,List.foldl_cons] at hf
  have h21 : ¬ (2 : Int) = 1 := by decide
  have h31 : ¬ (3 : Int) = 1 := by decide
  have h32 : ¬ (3 : Int) = 2 := by decide
  by_cases h1 : x.kind = 1
  ·have e : doneOne (u,h) x = (x.value,true) := by simp [doneOne,h1]
   rw [e] at hf
   simp +contextual (maxSteps:=9^7) only [go_sem,hlt',hx,Note.pv,hw,h1]
   exact ⟨l.length - (i + 1),_,[],[],by omega,⟨i + 1,_,_,by omega,rfl,hf,rfl,rfl⟩,by simp only [go_sem,decide_true]⟩
  ·by_cases h2 : x.kind = 2
   ·have e : doneOne (u,h) x = ([],false) := by simp [doneOne,h2]
    rw [e] at hf
    simp +contextual (maxSteps:=9^7) only [go_sem,hlt',hx,Note.pv,hw,h2,h21]
    exact ⟨l.length - (i + 1),_,[],[],by omega,⟨i + 1,_,_,by omega,rfl,hf,rfl,rfl⟩,by simp only [go_sem,decide_false]⟩
   ·by_cases h3 : x.kind = 3
    ·have e : doneOne (u,h) x = (beB (IntKind.u64.wrap (numV u + x.n)) 8,true) := by simp [doneOne,h3]
     rw [e] at hf
     have hn := pack_Num _ (u64_wrap_nonneg (numV u + x.n))
     simp +contextual (maxSteps:=9^7) only [go_sem,hlt',hx,Note.pv,hw,h3,h31,h32]
     refine DV.call [] [] (by simp only [go_sem]) (by simp [dOK]) ⟨155,[],by simp only [go_sem],⟨_,rfl,rfl,rfl⟩,.inl ⟨[.str u],_,.inl (by simp only [go_sem]),note_Number u,.inl ⟨_,rfl,rfl,rfl,rfl⟩⟩⟩ (by simp only [go_sem]) (by simp only [go_sem]) (by simp only [go_sem]) (by simp) ?_
     refine DV.exec 400 ?_
     simp +contextual (maxSteps:=9^7) only [go_sem]
     refine DV.call [] [] (by simp only [go_sem]) (by simp [dOK]) ⟨154,[],by simp only [go_sem],⟨_,rfl,rfl,rfl⟩,.inl ⟨[.int .u64 (IntKind.u64.wrap (numV u + x.n)),.int .i64 8],_,.inl (by simp only [go_sem]),hn,.inr (.inl ⟨_,rfl,rfl,rfl⟩)⟩⟩ (by simp only [go_sem]) (by simp only [go_sem]) (by simp only [go_sem]) (by simp) ?_
     refine DV.exec 400 ?_
     simp +contextual (maxSteps:=9^7) only [go_sem,hw]
     (repeat' (first | (intro _) | (refine ⟨by kernel_rfl,?_⟩) | (apply And.intro)))
     exact ⟨l.length - (i + 1),_,[],[],by omega,⟨i + 1,_,_,by omega,rfl,hf,rfl,rfl⟩,by simp only [go_sem,decide_true]⟩
    ·have e : doneOne (u,h) x = (u,h) := by simp [doneOne,h1,h2,h3]
     rw [e] at hf
     simp +contextual (maxSteps:=9^7) only [go_sem,hlt',hx,Note.pv,hw,h1,h2,h3]
     exact ⟨l.length - (i + 1),_,[],[],by omega,⟨i + 1,_,_,by omega,rfl,hf,rfl,rfl⟩,by simp only [go_sem]⟩
def Sorted (l : List Pair) : Prop := l.Pairwise fun a b => slt a.key b.key
def Pair.short (p : Pair) : Prop := p.key.length ≤ 16 ∧ p.value.length ≤ 32
theorem sorted_of_rising : ∀ (l : List Pair) (last : Option (List UInt8)),rising last l → Sorted l
 | [],_,_ => .nil
 | p :: r,last,h => .cons (fun x hx => rising_above r p.key h.2 x hx) (sorted_of_rising r _ h.2)
theorem rising_of_sorted : ∀ (l : List Pair) (last : Option (List UInt8)),(∀ k,last = some k → ∀ x ∈ l,slt k x.key) → Sorted l → rising last l
 | [],_,_,_ => trivial
 | p :: r,last,h,hs => by
  cases hs with
  | cons h1 h2 => exact ⟨fun k hk => h k hk p zG,rising_of_sorted r _ (fun k hk x hx => by cases hk; exact h1 x hx) h2⟩
theorem rising_iff (l : List Pair) : rising none l ↔ Sorted l := ⟨sorted_of_rising l none,rising_of_sorted l none (fun k h => by cases h)⟩
theorem pairsFrom_of : ∀ (l : List Pair) (last : Option (List UInt8)),rising last l → (∀ p ∈ l,p.short) → pairsFrom last l
 | [],_,_,_ => trivial
 | p :: r,last,h,hs => ⟨(hs p zG).1,(hs p zG).2,h.1,pairsFrom_of r _ h.2 fun x hx => hs x (zH _ hx)⟩
theorem short_of : ∀ (l : List Pair) (last : Option (List UInt8)),pairsFrom last l → ∀ p ∈ l,p.short
 | p :: r,last,h,x,hx => by
  rcases zI.1 hx with rfl | hx
  ·exact ⟨h.1,h.2.1⟩
  ·exact short_of r _ h.2.2.2 x hx
theorem pairsOk_iff (l : List Pair) : pairsOk l ↔ Sorted l ∧ ∀ p ∈ l,p.short :=
 ⟨fun h => ⟨(rising_iff l).1 (rising_of l none h),short_of l none h⟩,fun h => pairsFrom_of l none ((rising_iff l).2 h.1) h.2⟩
def val (l : List Pair) (k : List UInt8) : Option (List UInt8) := (getL l k).map Pair.value
theorem getL_mem {l : List Pair} {k : List UInt8} {p : Pair} (h : getL l k = some p) : p ∈ l ∧ p.key = k := by
 unfold getL at h
 exact ⟨List.mem_of_find?_eq_some h,by simpa using List.find?_some h⟩
theorem getL_of_mem {l : List Pair} (hs : Sorted l) {p : Pair} (h : p ∈ l) : getL l p.key = some p := by
 unfold getL
 induction l with
 | nil => cases h
 | cons q r ih =>
  cases hs with
  | cons h1 h2 =>
   rw [List.find?_cons]
   rcases zI.1 h with rfl | h
   ·simp
   ·have := h1 p h
    have hne : ¬ q.key = p.key := fun e => slt_irrefl p.key (by rw [e] at this; exact this)
    simp [hne,ih h2 h]
theorem val_iff {l : List Pair} (hs : Sorted l) {k v : List UInt8} : val l k = some v ↔ (⟨k,v⟩ : Pair) ∈ l := by
 unfold val
 constructor
 ·intro h
  rw [Option.map_eq_some_iff] at h
  obtain ⟨p,hp,rfl⟩ := h
  obtain ⟨h1,rfl⟩ := getL_mem hp
  exact h1
 ·intro h
  rw [getL_of_mem hs h]; rfl
theorem sorted_ext : ∀ (a b : List Pair),Sorted a → Sorted b → (∀ p,p ∈ a ↔ p ∈ b) → a = b
 | [],[],_,_,_ => rfl
 | [],q :: b,_,_,h => absurd ((h q).2 zG) (by simp)
 | p :: a,[],_,_,h => absurd ((h p).1 zG) (by simp)
 | p :: a,q :: b,ha,hb,h => by
  have ha' : Sorted (p :: a) := ha
  have hb' : Sorted (q :: b) := hb
  cases ha with
  | cons a1 a2 =>
   cases hb with
   | cons b1 b2 =>
    have e : p = q := by
     rcases zI.1 ((h p).1 zG) with e | e
     ·exact e
     ·rcases zI.1 ((h q).2 zG) with e' | e'
      ·exact e'.symm
      ·exact absurd (slt_trans (b1 p e) (a1 q e')) (slt_irrefl _)
    subst e
    congr 1
    refine sorted_ext a b a2 b2 fun x => ⟨fun hx => ?_,fun hx => ?_⟩
    ·rcases zI.1 ((h x).1 (zH _ hx)) with rfl | e
     ·exact absurd (a1 x hx) (slt_irrefl _)
     ·exact e
    ·rcases zI.1 ((h x).2 (zH _ hx)) with rfl | e
     ·exact absurd (b1 x hx) (slt_irrefl _)
     ·exact e
theorem val_ext {a b : List Pair} (ha : Sorted a) (hb : Sorted b) (h : ∀ k,val a k = val b k) : a = b := by
 refine sorted_ext a b ha hb fun p => ?_
 have := h p.key
 constructor
 ·intro hp
  rw [← val_iff hb,← this,val_iff ha]; exact hp
 ·intro hp
  rw [← val_iff ha,this,val_iff hb]; exact hp
def lowP (l : List Pair) (k : List UInt8) : List Pair := l.filter fun p => decide (slt p.key k)
def highP (l : List Pair) (k : List UInt8) : List Pair := l.filter fun p => decide (slt k p.key)
def stepO (o : Option (List UInt8)) (x : Note) : Option (List UInt8) :=
 let d := match o with | some v => doneOne (v,true) x | none => doneOne ([],false) x
 if d.2 = true then some d.1 else none
def mids (l : List Pair) (x : Note) : List Pair := match stepO (val l x.key) x with
 | some v => [⟨x.key,v⟩]
 | none => []
def oneV (l : List Pair) (x : Note) : List Pair := lowP l x.key ++ mids l x ++ highP l x.key
theorem low_eq {k : List UInt8} : ∀ (l : List Pair),Sorted l → lowP l k = l.take (below k l)
 | [],_ => rfl
 | p :: r,hs => by
  cases hs with
  | cons h1 h2 =>
   unfold lowP below
   by_cases hk : slt p.key k
   ·rw [if_pos hk,List.filter_cons,if_pos (by simpa using hk),List.take_succ_cons,← low_eq r h2]; rfl
   ·rw [if_neg hk,List.take_zero,List.filter_eq_nil_iff]
    intro y hy
    rcases zI.1 hy with rfl | hy
    ·simpa using hk
    ·have := h1 y hy
     simp
     exact fun hc => hk (slt_trans this hc)
theorem high_eq {k : List UInt8} : ∀ (l : List Pair),Sorted l → highP l k = (match getL l k with | some _ => l.drop (below k l + 1) | none => l.drop (below k l))
 | [],_ => rfl
 | p :: r,hs => by
  cases hs with
  | cons h1 h2 =>
   have ih := high_eq (k := k) r h2
   unfold highP getL at ih
   unfold highP getL below
   by_cases hk : slt p.key k
   ·have hne : ¬ p.key = k := fun e => slt_irrefl k (by rw [e] at hk; exact hk)
    rw [if_pos hk,List.filter_cons,if_neg (by simpa using slt_asymm hk),List.find?_cons,decide_eq_false hne,ih]
    cases r.find? (fun p => decide (p.key = k)) <;> simp
   ·by_cases he : p.key = k
    ·subst he
     rw [if_neg hk,List.filter_cons,if_neg (by simpa using hk),List.find?_cons]
     simp
     intro y hy
     exact h1 y hy
    ·have hgt : slt k p.key := by
      rcases slt_total p.key k with h | h | h
      ·exact absurd h hk
      ·exact absurd h he
      ·exact h
     have hnone : (p :: r).find? (fun p => decide (p.key = k)) = none := by
      rw [List.find?_eq_none]
      intro y hy
      rcases zI.1 hy with rfl | hy
      ·simpa using he
      ·have := h1 y hy
       simp
       rintro rfl
       exact slt_irrefl _ (slt_trans hgt this)
     rw [hnone,if_neg hk]
     simp only [List.drop_zero]
     rw [List.filter_eq_self]
     intro y hy
     rcases zI.1 hy with rfl | hy
     ·simpa using hgt
     ·simpa using slt_trans hgt (h1 y hy)
theorem oneV_sorted {l : List Pair} (hs : Sorted l) (x : Note) : Sorted (oneV l x) := by
 unfold oneV Sorted
 have hl : ∀ a ∈ lowP l x.key,slt a.key x.key := fun a ha => by simpa using (List.mem_filter.1 ha).2
 have hh : ∀ a ∈ highP l x.key,slt x.key a.key := fun a ha => by simpa using (List.mem_filter.1 ha).2
 have hm : ∀ a ∈ mids l x,a.key = x.key := fun a ha => by
  unfold mids at ha
  split at ha
  ·simp at ha; rw [ha]
  ·cases ha
 have hmp : (mids l x).Pairwise (fun a b => slt a.key b.key) := by
  unfold mids
  split
  ·exact List.pairwise_singleton _ _
  ·exact .nil
 rw [List.pairwise_append,List.pairwise_append]
 refine ⟨⟨hs.filter _,hmp,fun a ha b hb => ?_⟩,hs.filter _,fun a ha b hb => ?_⟩
 ·rw [hm b hb]; exact hl a ha
 ·rcases zO.1 ha with ha | ha
  ·exact slt_trans (hl a ha) (hh b hb)
  ·rw [hm a ha]; exact hh b hb
theorem oneV_val {l : List Pair} (hs : Sorted l) (x : Note) (k : List UInt8) : val (oneV l x) k = if k = x.key then stepO (val l k) x else val l k := by
 have ho := oneV_sorted hs x
 have hm : mids l x = (match stepO (val l x.key) x with | some v => [(⟨x.key,v⟩ : Pair)] | none => []) := rfl
 apply Option.ext
 intro v
 rw [val_iff ho]
 unfold oneV
 rw [zO,zO,lowP,highP,List.mem_filter,List.mem_filter]
 simp only [decide_eq_true_eq]
 by_cases hk : k = x.key
 ·subst hk
  rw [if_pos rfl,hm]
  have := slt_irrefl x.key
  constructor
  ·rintro ((h | h) | h)
   ·exact absurd h.2 this
   ·split at h
    ·rename_i w hw; simp at h; rw [h,hw]
    ·cases h
   ·exact absurd h.2 this
  ·intro h
   rw [h]
   exact .inl (.inr (by simp))
 ·rw [if_neg hk,val_iff hs]
  constructor
  ·rintro ((h | h) | h)
   ·exact h.1
   ·exfalso
    rw [hm] at h
    split at h
    ·simp at h; exact hk h.1
    ·cases h
   ·exact h.1
  ·intro h
   rcases slt_total k x.key with c | c | c
   ·exact .inl (.inl ⟨h,c⟩)
   ·exact absurd c hk
   ·exact .inr ⟨h,c⟩
def appV (l : List Pair) (ns : List Note) : List Pair := ns.foldl oneV l
theorem appV_sorted : ∀ (ns : List Note) {l : List Pair},Sorted l → Sorted (appV l ns)
 | [],_,h => h
 | x :: r,_,h => appV_sorted r (oneV_sorted h x)
theorem oneV_len {l : List Pair} (hs : Sorted l) (x : Note) : (oneV l x).length ≤ l.length + 1 := by
 have h1 := low_eq (k := x.key) l hs
 have h2 := high_eq (k := x.key) l hs
 have hb := below_le x.key l
 have hm : (mids l x).length ≤ 1 := by
  unfold mids
  split <;> simp
 unfold oneV
 rw [h1,h2,zJ,zJ,zU]
 split <;> simp <;> omega
theorem beB8 (n : Int) : (beB n 8).length ≤ 32 := by rw [beB_len]; decide
theorem oneV_short {l : List Pair} (hl : ∀ p ∈ l,p.short) {x : Note} (hx : x.ok) : ∀ p ∈ oneV l x,p.short := by
 intro p hp
 unfold oneV at hp
 rw [zO,zO] at hp
 rcases hp with (hp | hp) | hp
 ·exact hl p (List.mem_filter.1 hp).1
 ·have hd : ∀ st : List UInt8 × Bool,(doneOne st x).1.length ≤ 32 := fun st => by
   unfold doneOne
   have := hx.2.1
   rcases hx.2.2 with h | h | h <;> simp [h.1]
   ·exact this
   ·exact beB8 _
  unfold mids at hp
  split at hp
  ·rename_i v hv
   simp at hp
   rw [hp]
   refine ⟨hx.1,?_⟩
   have hv2 : v.length ≤ 32 := by
    unfold stepO at hv
    cases ho : val l x.key with
    | none =>
     rw [ho] at hv
     simp only at hv
     split at hv
     ·cases hv; exact hd _
     ·cases hv
    | some w =>
     rw [ho] at hv
     simp only at hv
     split at hv
     ·cases hv; exact hd _
     ·cases hv
   exact hv2
  ·cases hp
 ·exact hl p (List.mem_filter.1 hp).1
theorem oneV_ok {l : List Pair} (h : pairsOk l) {x : Note} (hx : x.ok) : pairsOk (oneV l x) := by
 rw [pairsOk_iff] at *
 exact ⟨oneV_sorted h.1 x,oneV_short h.2 hx⟩
theorem appV_ok : ∀ (ns : List Note) {l : List Pair},pairsOk l → (∀ x ∈ ns,x.ok) → pairsOk (appV l ns)
 | [],_,h,_ => h
 | x :: r,_,h,hn => appV_ok r (oneV_ok h (hn x zG)) fun y hy => hn y (zH _ hy)
theorem appV_len : ∀ (ns : List Note) {l : List Pair},Sorted l → (appV l ns).length ≤ l.length + ns.length
 | [],_,_ => zR _
 | x :: r,l,h => by
  have h1 := appV_len r (oneV_sorted h x)
  have h2 := oneV_len h x
  show (appV (oneV l x) r).length ≤ _
  simp only [zT]
  omega
set_option maxHeartbeats 2000000 in
theorem CloneNote (xs : List PV) (h1 : ∀ x ∈ xs,x.cells.length = 4) (hl : xs.length ≤ 1000000) : Ct pG 174 (Zv.ops [.row xs]) (.own 72 xs) := by
 refine Ct.of_V Tryz.func174 rfl (by simp [Zv.ops,Tryz.f174]) ?_
 refine V.exec 400 ?_
 simp +contextual (maxSteps:=9^7) only [go_sem,Tryz.f174]
 refine V.nilq (xs := xs) rfl rfl (.inl rfl) (by simp only [go_sem,↓reduceIte,Nat.reduceEqDiff]) (by simp only [go_sem]; rfl) (by simp [dOK]) fun c hc => ?_
 refine V.exec 400 ?_
 simp +contextual (maxSteps:=9^7) only [go_sem]
 exact ⟨fun h => ⟨hc h,4,rfl,by decide⟩,fun _ => ⟨h1,by omega,by omega⟩⟩
set_option maxHeartbeats 2000000 in
theorem IndexFuncNote (xs : List PV) (g : FuncId) (caps : List PV) (p : PV → Bool) (h1 : ∀ x ∈ xs,x.cells.length = 4 ∧ x.isAgg = true) (hl : xs.length ≤ 1000000) (hg : Entered pG g)
  (hp : ∀ x ∈ xs,Ct pG g (Zv.ops ([x] ++ caps)) (.vals [.bool (decide (p x = true))])) (r : Nat) (hr : r ≤ xs.length) (hr1 : ∀ x ∈ xs.take r,p x = false) (hr2 : ∀ x,xs[r]? = some x → p x = true) :
  Ct pG 144 (Zv.ops [.row xs,.fn g caps]) (.vals [.int .i64 (if r < xs.length then (r : Int) else -1)]) := by
 refine Ct.of_V Tryz.func144 rfl (by simp [Zv.ops,Tryz.f144]) ?_
 refine V.exec 400 ?_
 simp +contextual (maxSteps:=9^7) only [go_sem,Tryz.f144]
 refine V.loop (fun m ls os => ∃ i : Nat,i ≤ r ∧ m = xs.length - i ∧
    ls = [(0,.val (.row xs)),(1,.val (.fn g caps)),(7,.val (.int .i64 xs.length)),(8,.val (.int .i64 i))] ∧ os = []) 0 xs.length [(0,.val (.row xs)),(1,.val (.fn g caps)),(7,.val (.int .i64 xs.length)),(8,.val (.int .i64 0))] [] []
   ⟨0,zF _,rfl,rfl,rfl⟩ (by simp only [go_sem]) ?_
 rintro m ls os ⟨i,hi,rfl,rfl,rfl⟩
 refine V.exec 400 ?_
 by_cases hlt : i < xs.length
 ·have hlt' : (i : Int) < (xs.length : Int) := by omega
  obtain ⟨x,hx⟩ : ∃ x,xs[i]? = some x := ⟨_,zA hlt⟩
  have hxm : x ∈ xs := zE hx
  obtain ⟨hxc,hxa⟩ := h1 x hxm
  have hw : IntKind.i64.wrap ((i : Int) + 1) = ((i + 1 : Nat) : Int) := by rw [wrap_small] <;> omega
  simp +contextual (maxSteps:=9^7) only [go_sem,hlt',hx,hxc,hxa]
  refine V.call rfl rfl (by simp [dOK]) ⟨g,caps,by simp only [go_sem],hg,.inl ⟨[x],_,.inl (by simp only [go_sem]),hp x hxm,.inl ⟨_,rfl,rfl,rfl,rfl⟩⟩⟩ ?_
  refine V.exec 400 ?_
  simp +contextual (maxSteps:=9^7) only [go_sem,hw]
  constructor
  ·intro hpx
   have hir : i = r := by
    rcases Nat.lt_or_ge i r with h | h
    ·have := hr1 x (zE (i := i) (by rw [List.getElem?_take_of_lt h]; exact hx))
     rw [this] at hpx; cases hpx
    ·omega
   subst hir
   rw [if_pos hlt]
  ·intro hpx
   have hir : i < r := by
    rcases Nat.lt_or_ge i r with h | h
    ·exact h
    ·have : i = r := by omega
     subst this
     exact absurd (hr2 x hx) hpx
   exact ⟨xs.length - (i + 1),_,[],[],by omega,⟨i + 1,by omega,rfl,rfl,rfl⟩,by simp only [go_sem]⟩
 ·have hlt' : ¬ (i : Int) < (xs.length : Int) := by omega
  simp +contextual (maxSteps:=9^7) only [go_sem,hlt']
  rw [if_neg (by omega)]
set_option maxHeartbeats 4000000 in
theorem InsertNote (xs : List PV) (y : PV) (i : Nat) (h1 : ∀ x ∈ xs,x.cells.length = 4) (hy : y.cells.length = 4) (hi : i ≤ xs.length) (hl : xs.length ≤ 1000000) :
  Ct pG 177 (.o 72 xs :: Zv.ops [.int .i64 i,.rowp [y]]) (.own 72 (xs.take i ++ [y] ++ xs.drop i)) := by
 refine Ct.of_V Tryz.func177 rfl (by simp [Zv.ops,Tryz.f177]) ?_
 refine V.opn 0 4 72 xs rfl (by simp only [go_sem]) fun q => ?_
 have hw : IntKind.i64.wrap ((xs.length : Int) + ((0 + 1 : Nat) : Int)) = ((xs.length + 1 : Nat) : Int) := by rw [wrap_small'] <;> omega
 have hw2 : IntKind.i64.wrap (((xs.length + 1 : Nat) : Int) - (i : Int)) = ((xs.length + 1 - i : Nat) : Int) := by rw [wrap_small'] <;> omega
 have hw3 : IntKind.i64.wrap ((i : Int) + ((0 + 1 : Nat) : Int)) = ((i + 1 : Nat) : Int) := by rw [wrap_small'] <;> omega
 refine V.execS [10,14] 400 ?_
 simp +contextual (maxSteps:=9^7) only [go_sem,Tryz.f177,hy,hw,hw2,hw3]
 refine ⟨⟨hi,by omega⟩,fun h => absurd h (by omega),fun _ => ⟨fun he => ?_,fun hne => ⟨by omega,fun hlt => ⟨⟨by omega,by omega⟩,⟨by omega,by omega,by omega,by omega,by omega⟩,?_⟩,fun hge => ⟨by omega,?_⟩⟩⟩⟩
 ·-- at the end
  have hin : i = xs.length := by omega
  subst hin
  have e1 : xs.take xs.length ++ [y] ++ xs.drop xs.length = xs ++ [y] := by simp
  rw [e1]
  refine ⟨fun hr => ⟨by omega,?_,?_⟩,fun hr => ⟨⟨by omega,by omega,by omega,by omega⟩,by rw [List.take_length]⟩⟩
  ·rw [over_length (by omega)]; simp
  ·have e2 : over xs [y] (0 + xs.length) = xs ++ [y] := by simp [over]
   rw [e2,zD (by simp)]
 ·-- no room: a new row
  have hin : i < xs.length := by omega
  have hYl : (List.take (i - 0) xs ++ List.replicate (xs.length + 1 - i) (PV.agg [.int .i64 0,.str [],.str [],.int .u64 0])).length = xs.length + 1 := by
   simp; omega
  have hYt : (List.take (i - 0) xs ++ List.replicate (xs.length + 1 - i) (PV.agg [.int .i64 0,.str [],.str [],.int .u64 0])).take i = xs.take i := by
   rw [Nat.sub_zero,List.take_append_of_le_length (by simp; omega),List.take_take,Nat.min_self]
  generalize List.take (i - 0) xs ++ List.replicate (xs.length + 1 - i) (PV.agg [.int .i64 0,.str [],.str [],.int .u64 0]) = Y at *
  refine V.opn 32 4 72 Y (by simp only [go_sem]) (by simp only [go_sem]) fun q2 => ?_
  refine V.exec 400 ?_
  have m1 : min 1 (Y.length - i) = 1 := by omega
  have m2 : min (xs.length - i) (Y.length - (i + 1)) = xs.length - i := by omega
  simp +contextual (maxSteps:=9^7) only [go_sem,hy,hw,hw2,hw3,Nat.zero_add,Nat.sub_zero,m1,m2]
  have hol : (over Y [y] i).length = Y.length := by rw [over_length (by omega)]; simp; omega
  have hdl : (List.take (xs.length - i) (List.drop i xs)).length = xs.length - i := by simp
  simp only [hol,hdl]
  refine ⟨⟨by omega,by omega⟩,⟨by omega,by omega⟩,⟨by omega,by omega⟩,⟨by omega,by omega⟩,⟨by omega,by omega,by omega⟩,by kernel_rfl,?_⟩
  have hd : List.take (xs.length - i) (List.take (xs.length - i) (List.drop i xs)) = xs.drop i := by rw [zD (by simp),zD (by simp)]
  rw [hd,ins_grow xs [y] i Y rfl hin hYl hYt]
  exact ⟨by simp; omega,(zD (by simp; omega)).symm⟩
 ·-- there is room
  refine V.exec 400 ?_
  simp +contextual (maxSteps:=9^7) only [go_sem,hy,hw,hw2,hw3,Nat.zero_add,Nat.sub_zero]
  refine ⟨⟨by omega,by omega⟩,?_⟩
  refine V.ovl (f := 192) (zs := [y]) (id := 0) (sz := 4) (l := i + 1) (len := xs.length + 1 - (i + 1)) (xs := xs) (q := q) (e := 72) (tS := 36) (tR := 4) rfl rfl (by simp [dOK]) (by simp only [go_sem]) rfl rfl rfl (by kernel_rfl) (by kernel_rfl) (by simp only [go_sem]) (by simp only [go_sem]) (by simp only [go_sem]) (by simp only [go_sem]) (by simp only [go_sem]) (by omega) ?_
  refine V.exec 400 ?_
  have hin : i < xs.length := by omega
  have m3 : min (xs.length + 1 - i) (xs.length + 1 - (i + 1)) = xs.length - i := by omega
  have m4 : min 1 (xs.length + 1 - i) = 1 := by omega
  have hd2 : List.take (xs.length - i) (List.take (xs.length + 1 - i) (List.drop i xs)) = xs.drop i := by rw [List.take_take,zD (by simp; omega)]
  have hd3 : (List.take (xs.length + 1 - i) (List.drop i xs)).length = xs.length - i := by simp; omega
  have hol : (over xs (xs.drop i) (i + 1)).length = xs.length + 1 := by rw [over_length (by omega),List.length_drop]; omega
  have hol2 : (over (over xs (xs.drop i) (i + 1)) [y] i).length = xs.length + 1 := by rw [over_length (by omega),hol]; simp; omega
  simp +contextual (maxSteps:=9^7) only [go_sem,hy,hw,hw2,hw3,Nat.zero_add,Nat.sub_zero,m3,m4,hd2,hd3,hol,hol2]
  refine ⟨⟨by omega,by omega⟩,⟨by omega,by omega⟩,⟨by omega,by omega,by omega⟩,by kernel_rfl,⟨by omega,by omega⟩,⟨by omega,by omega⟩,by omega,?_⟩
  rw [ins_room xs [y] i rfl hin]
  exact (zD (by simp; omega)).symm
set_option maxHeartbeats 4000000 in
theorem BSearchNote_any (xs : List PV) (t : PV) (g : FuncId) (caps : List PV) (c : PV → Int) (h1 : ∀ x ∈ xs,x.cells.length = 4 ∧ x.isAgg = true) (hl : xs.length ≤ 1000000) (hg : Entered pG g)
  (hp : ∀ x ∈ xs,Ct pG g (Zv.ops ([x,t] ++ caps)) (.vals [.int .i64 (c x)])) :
  Ct pG 186 (Zv.ops [.row xs,t,.fn g caps]) (.vals [.int .i64 (bsI (cAt c xs) 0 xs.length : Nat),.bool (decide (∃ x,xs[bsI (cAt c xs) 0 xs.length]? = some x ∧ c x = 0))]) := by
 generalize hR : bsI (cAt c xs) 0 xs.length = r
 refine Ct.of_V Tryz.func186 rfl (by simp [Zv.ops,Tryz.f186]) ?_
 refine V.exec 400 ?_
 simp +contextual (maxSteps:=9^7) only [go_sem,Tryz.f186]
 refine V.loop (fun m ls os => ∃ (i j : Nat),i ≤ j ∧ j ≤ xs.length ∧ m = j - i ∧ bsI (cAt c xs) i j = r ∧
    ls = [(0,.val (.row xs)),(1,.val t),(2,.val (.fn g caps)),(8,.val (.int .i64 xs.length)),(9,.val (.int .i64 i)),(10,.val (.int .i64 j))] ∧ os = []) 0 xs.length
   [(0,.val (.row xs)),(1,.val t),(2,.val (.fn g caps)),(8,.val (.int .i64 xs.length)),(9,.val (.int .i64 0)),(10,.val (.int .i64 xs.length))] [] []
   ⟨0,xs.length,zF _,zR _,rfl,hR,rfl,rfl⟩ (by simp only [go_sem]) ?_
 rintro m ls os ⟨i,j,hij,hjl,rfl,hr,rfl,rfl⟩
 refine V.exec 400 ?_
 by_cases hlt : i < j
 ·have hlt' : (i : Int) < (j : Int) := by omega
  have hm : (i + j) / 2 < xs.length := by omega
  obtain ⟨x,hx⟩ : ∃ x,xs[(i + j) / 2]? = some x := ⟨_,zA hm⟩
  have hxm : x ∈ xs := zE hx
  obtain ⟨hxc,hxa⟩ := h1 x hxm
  have hca : cAt c xs ((i + j) / 2) = c x := by simp [cAt,hx]
  rw [bsI,dif_pos hlt,hca] at hr
  have hw1 : IntKind.i64.wrap ((i : Int) + (j : Int)) = ((i + j : Nat) : Int) := by rw [wrap_small2] <;> omega
  have hw2 : IntKind.u64.wrap ((i + j : Nat) : Int) = ((i + j : Nat) : Int) := by rw [wrap_u2] <;> omega
  have hw3 : ((i + j : Nat) : Int) / 2 = (((i + j) / 2 : Nat) : Int) := by omega
  have hw4 : IntKind.i64.wrap (((i + j) / 2 : Nat) : Int) = (((i + j) / 2 : Nat) : Int) := by rw [wrap_small2] <;> omega
  have hw5 : IntKind.i64.wrap ((((i + j) / 2 : Nat) : Int) + 1) = (((i + j) / 2 + 1 : Nat) : Int) := by rw [wrap_small2] <;> omega
  simp +contextual (maxSteps:=9^7) only [go_sem,hlt',hw1,hw2,hw3,hw4,hx,hxc,hxa]
  refine V.call rfl rfl (by simp [dOK]) ⟨g,caps,by simp only [go_sem],hg,.inl ⟨[x,t],_,.inl (by simp only [go_sem]),hp x hxm,.inl ⟨_,rfl,rfl,rfl,rfl⟩⟩⟩ ?_
  refine V.exec 400 ?_
  simp +contextual (maxSteps:=9^7) only [go_sem,hw5]
  constructor
  ·intro hc
   rw [if_pos hc] at hr
   exact ⟨j - ((i + j) / 2 + 1),_,[],[],by omega,⟨(i + j) / 2 + 1,j,by omega,hjl,rfl,hr,rfl,rfl⟩,by simp only [go_sem]⟩
  ·intro hc
   rw [if_neg hc] at hr
   exact ⟨(i + j) / 2 - i,_,[],[],by omega,⟨i,(i + j) / 2,by omega,by omega,rfl,hr,rfl,rfl⟩,by simp only [go_sem]⟩
 ·have hlt' : ¬ (i : Int) < (j : Int) := by omega
  rw [bsI,dif_neg hlt] at hr
  subst hr
  by_cases hil : i < xs.length
  ·have hil' : (i : Int) < (xs.length : Int) := by omega
   obtain ⟨x,hx⟩ : ∃ x,xs[i]? = some x := ⟨_,zA hil⟩
   have hxm : x ∈ xs := zE hx
   obtain ⟨hxc,hxa⟩ := h1 x hxm
   simp +contextual (maxSteps:=9^7) only [go_sem,hlt',hil',hx,hxc,hxa]
   refine V.call rfl rfl (by simp [dOK]) ⟨g,caps,by simp only [go_sem],hg,.inl ⟨[x,t],_,.inl (by simp only [go_sem]),hp x hxm,.inl ⟨_,rfl,rfl,rfl,rfl⟩⟩⟩ ?_
   refine V.exec 400 ?_
   simp +contextual (maxSteps:=9^7) only [go_sem,hx]
   simp [hx]
  ·have hil' : ¬ (i : Int) < (xs.length : Int) := by omega
   simp +contextual (maxSteps:=9^7) only [go_sem,hlt',hil']
   have : xs[i]? = none := List.getElem?_eq_none (by omega)
   simp [this]
set_option maxRecDepth 20000 in
set_option maxHeartbeats 4000000 in
theorem DeletePair (xs : List PV) (i : Nat) (h1 : ∀ x ∈ xs,x.cells.length = 2) (hi : i < xs.length) (hl : xs.length ≤ 1000000) :
  Ct pG 118 (.o 77 xs :: Zv.ops [.int .i64 i,.int .i64 (i + 1 : Nat)]) (.own 77 (xs.take i ++ xs.drop (i + 1))) := by
 refine Ct.of_V Tryz.func118 rfl (by simp [Zv.ops,Tryz.f118]) ?_
 refine V.opn 0 2 77 xs rfl (by simp only [go_sem]) fun q => ?_
 have h0 : ¬ i = i + 1 := by omega
 refine V.execS [5] 400 ?_
 simp +contextual (maxSteps:=9^7) only [go_sem,Tryz.f118]
 refine ⟨⟨by omega,by omega,by omega⟩,fun h => absurd h (by omega),fun _ => ?_⟩
 refine V.exec 400 ?_
 have hc : i + (xs.length - (i + 1)) ≤ xs.length + q := by omega
 have hd : (List.take (xs.length - (i + 1)) (List.drop (i + 1) xs)).length = xs.length - (i + 1) := by simp
 simp only [go_sem,Nat.zero_add,Nat.sub_zero,hc,hd,forall_const,not_true_eq_false]
 have hD : List.take (xs.length - (i + 1)) (List.drop (i + 1) xs) = List.drop (i + 1) xs := zD (by simp)
 rw [hD] at hd ⊢
 have hL : (over xs (List.drop (i + 1) xs) i).length = xs.length := by rw [over_length (by omega)]; omega
 have hL2 : (over (over xs (List.drop (i + 1) xs) i) (List.replicate (xs.length - (i + (xs.length - (i + 1)))) (PV.agg [PV.str [],PV.str []])) (i + (xs.length - (i + 1)))).length = xs.length := by
  rw [over_length (by omega),hL,List.length_replicate]; omega
 rw [hL,hL2]
 refine ⟨⟨by omega,by omega⟩,⟨by omega,by omega⟩,by omega,by kernel_rfl,⟨by omega,by omega⟩,⟨by omega,by omega⟩,by omega,?_⟩
 have e1 : over xs (List.drop (i + 1) xs) i = (xs.take i ++ xs.drop (i + 1)) ++ xs.drop (i + (xs.length - (i + 1))) := by rw [over,hd]
 have hlen : (xs.take i ++ xs.drop (i + 1)).length = i + (xs.length - (i + 1)) := by simp; omega
 rw [over,List.append_assoc,List.take_append_of_le_length (by rw [zU,hL]; omega),List.take_take,Nat.min_self,e1,List.take_append_of_le_length (by omega)]
 exact (zD (by omega)).symm
theorem leaf_Apply1 (x : Note) : Ct pG 115 (Zv.ops [x.pv]) (.vals [.bool (decide (¬ x.ok))]) := by
 refine Ct.of_V Tryz.func115 rfl (by simp [Zv.ops,Tryz.f115]) ?_
 refine V.exec 400 ?_
 simp +contextual (maxSteps:=9^7) only [go_sem,Tryz.f115,Note.pv]
 refine V.call rfl rfl (by simp [dOK]) ⟨108,[],by simp only [go_sem],⟨_,rfl,rfl,rfl⟩,.inl ⟨[x.pv],_,.inl (by simp only [go_sem,Note.pv]),note_Right x,.inl ⟨_,rfl,rfl,rfl,rfl⟩⟩⟩ ?_
 refine V.exec 400 ?_
 simp +contextual (maxSteps:=9^7) only [go_sem]
def Note.of : PV → Note
 | .agg [.int _ a,.str b,.str c,.int _ d] => ⟨a,b,c,d⟩
 | _ => ⟨0,[],[],0⟩
theorem Note.of_pv (x : Note) : Note.of x.pv = x := rfl
def notesOk (ns : List Note) : Prop := ∀ x ∈ ns,x.ok
instance instNotesOk (ns : List Note) : Decidable (notesOk ns) := by unfold notesOk; infer_instance
theorem Contains_bad (ns : List Note) (hl : ns.length ≤ 1000000) : Ct pG 106 (Zv.ops [.row (ns.map Note.pv),.fn 115 []]) (.vals [.bool (decide (¬ notesOk ns))]) := by
 unfold notesOk
 obtain ⟨r,hr,hr1,hr2,hr3⟩ := first_of (fun y => decide (¬ (Note.of y).ok)) (ns.map Note.pv)
 have hi := IndexFuncNote (ns.map Note.pv) 115 [] (fun y => decide (¬ (Note.of y).ok)) (fun y hy => by
   obtain ⟨s,_,rfl⟩ := zN.1 hy
   exact ⟨rfl,rfl⟩) (by simpa using hl) ⟨_,rfl,rfl,rfl⟩ (fun y hy => by
   obtain ⟨s,_,rfl⟩ := zN.1 hy
   rw [Note.of_pv]
   simpa using leaf_Apply1 s) r hr hr1 hr2
 refine Ct.of_V Tryz.func106 rfl (by simp [Zv.ops,Tryz.f106]) ?_
 refine V.exec 400 ?_
 simp +contextual (maxSteps:=9^7) only [go_sem,Tryz.f106]
 refine V.call rfl rfl (by simp [dOK]) ⟨144,[],by simp only [go_sem],⟨_,rfl,rfl,rfl⟩,.inl ⟨[.row (ns.map Note.pv),.fn 115 []],_,.inl (by simp only [go_sem]),hi,.inl ⟨_,rfl,rfl,rfl,rfl⟩⟩⟩ ?_
 refine V.exec 400 ?_
 simp +contextual (maxSteps:=9^7) only [go_sem]
 have e : (∃ y ∈ ns.map Note.pv,decide (¬ (Note.of y).ok) = true) ↔ ¬ ∀ x ∈ ns,x.ok := by
  constructor
  ·rintro ⟨y,hy,hp⟩ hc
   obtain ⟨s,hs,rfl⟩ := zN.1 hy
   rw [Note.of_pv] at hp
   simp at hp
   exact hp (hc s hs)
  ·intro h
   simp only [Classical.not_forall] at h
   obtain ⟨x,hx,hp⟩ := h
   exact ⟨x.pv,List.mem_map_of_mem hx,by rw [Note.of_pv]; simpa using hp⟩
 rw [e] at hr3
 rw [zW] at hr3
 by_cases hc : ∀ x ∈ ns,x.ok
 ·have : ¬ r < ns.length := fun h => (hr3.1 h) hc
  simp [this]
  exact hc
 ·have h2 := hr3.2 hc
  simp [h2,hc]
theorem oneV_some {l : List Pair} (hs : Sorted l) {x : Note} {p : Pair} (h : getL l x.key = some p) :
  oneV l x = if (doneOne (p.value,true) x).2 = true then l.set (below x.key l) ⟨p.key,(doneOne (p.value,true) x).1⟩ else l.take (below x.key l) ++ l.drop (below x.key l + 1) := by
 have h1 := low_eq (k := x.key) l hs
 have h2 := high_eq (k := x.key) l hs
 rw [h] at h2
 have hb := (below_find l none ((rising_iff l).2 hs) p).2 h
 have hlt := (zQ.1 hb.1).1
 have hv : val l x.key = some p.value := by simp [val,h]
 unfold oneV mids
 rw [h1,h2,hv]
 simp only [stepO]
 split
 ·rename_i w hw
  split at hw
  ·cases hw
   rename_i hd
   rw [if_pos hd,List.set_eq_take_append_cons_drop,if_pos hlt,hb.2]
   simp
  ·cases hw
 ·rename_i hw
  split at hw
  ·cases hw
  ·rename_i hd
   rw [if_neg hd]
   simp
theorem oneV_none {l : List Pair} (hs : Sorted l) {x : Note} (h : getL l x.key = none) :
  oneV l x = if (doneOne ([],false) x).2 = true then l.take (below x.key l) ++ [⟨x.key,(doneOne ([],false) x).1⟩] ++ l.drop (below x.key l) else l := by
 have h1 := low_eq (k := x.key) l hs
 have h2 := high_eq (k := x.key) l hs
 rw [h] at h2
 have hv : val l x.key = none := by simp [val,h]
 unfold oneV mids
 rw [h1,h2,hv]
 simp only [stepO]
 split
 ·rename_i w hw
  split at hw
  ·cases hw
   rename_i hd
   rw [if_pos hd]
  ·cases hw
 ·rename_i hw
  split at hw
  ·cases hw
  ·rename_i hd
   rw [if_neg hd]
   simp
def applyV (l : List Pair) (ns : List Note) : List Pair × Int := if pairsOk l ∧ notesOk ns then (appV l ns,0) else (l,1)
set_option maxRecDepth 10000 in
set_option maxHeartbeats 16000000 in
theorem leaf_Apply (l : List Pair) (ns : List Note) (hl : l.length ≤ 400000) (hn : ns.length ≤ 400000) : Ct pG 68 (Zv.ops [.row (l.map Pair.pv),.row (ns.map Note.pv)]) (.vals [.row ((applyV l ns).1.map Pair.pv),.int .i64 (applyV l ns).2]) := by
 have h2 : ∀ (l : List Pair),∀ x ∈ l.map Pair.pv,x.cells.length = 2 := fun l x hx => by
  obtain ⟨s,_,rfl⟩ := zN.1 hx
  rfl
 refine Ct.of_V Tryz.func68 rfl (by simp [Zv.ops,Tryz.f68]) ?_
 refine V.exec 400 ?_
 simp +contextual (maxSteps:=9^7) only [go_sem,Tryz.f68]
 refine V.call rfl rfl (by simp [dOK]) ⟨114,[],by simp only [go_sem],⟨_,rfl,rfl,rfl⟩,.inl ⟨[.row (l.map Pair.pv)],_,.inl (by simp only [go_sem]),ClonePair (l.map Pair.pv) (h2 l) (by simp; omega),.inr (.inr ⟨77,(l.map Pair.pv)   ,rfl,by simp only [go_sem],rfl,rfl⟩)⟩⟩ ?_
 refine V.exec 400 ?_
 simp +contextual (maxSteps:=9^7) only [go_sem]
 refine V.call rfl rfl (by simp [dOK]) ⟨104,[],by simp only [go_sem],⟨_,rfl,rfl,rfl⟩,.inl ⟨[.row (l.map Pair.pv)],_,.inl (by simp only [go_sem]),leaf_Right l (by omega),.inl ⟨_,rfl,rfl,rfl,rfl⟩⟩⟩ ?_
 refine V.exec 400 ?_
 by_cases hok : pairsOk l
 ·simp +contextual (maxSteps:=9^7) only [go_sem,hok]
  refine V.call rfl rfl (by simp [dOK]) ⟨106,[],by simp only [go_sem],⟨_,rfl,rfl,rfl⟩,.inl ⟨[.row (ns.map Note.pv),.fn 115 []],_,.inl (by simp only [go_sem]),Contains_bad ns (by omega),.inl ⟨_,rfl,rfl,rfl,rfl⟩⟩⟩ ?_
  refine V.exec 400 ?_
  by_cases hall : notesOk ns
  ·have hv : applyV l ns = (appV l ns,0) := by simp only [applyV]; rw [if_pos ⟨hok,hall⟩]
   simp +contextual (maxSteps:=9^7) only [go_sem,hall,hv]
   refine V.loop (fun m ls os => ∃ (i : Nat) (cur : List Pair),i ≤ ns.length ∧ m = ns.length - i ∧ Sorted cur ∧ cur.length ≤ l.length + i ∧ appV cur (ns.drop i) = appV l ns ∧
     ls = [(6,.ref 0),(24,.val (.row (ns.map Note.pv))),(25,.val (.int .i64 ns.length)),(26,.val (.int .i64 i))] ∧ os = [.row 77 (cur.map Pair.pv)]) 1 ns.length
    [(6,.ref 0),(24,.val (.row (ns.map Note.pv))),(25,.val (.int .i64 ns.length)),(26,.val (.int .i64 0))] [.row 77 (l.map Pair.pv)] [some 5]
    ⟨0,l,zF _,rfl,((pairsOk_iff l).1 hok).1,zR _,rfl,rfl,rfl⟩ (by simp only [go_sem]; try decide) ?_
   rintro m ls os ⟨i,cur,hi,rfl,hcs,hcl,hca,rfl,rfl⟩
   refine V.exec 400 ?_
   by_cases hlt : i < ns.length
   ·have hlt' : (i : Int) < (ns.length : Int) := by omega
    obtain ⟨x,hx⟩ : ∃ x,ns[i]? = some x := ⟨_,zA hlt⟩
    have hw : IntKind.i64.wrap ((i : Int) + 1) = ((i + 1 : Nat) : Int) := by rw [wrap_small3] <;> omega
    rw [drop_of_get hx,appV,List.foldl_cons] at hca
    have hos := oneV_sorted hcs x
    have hol := oneV_len hcs x
    have hpb := posA_eq ((rising_iff cur).2 hcs) x.key
    have hpl := leaf_place cur x.key (by omega)
    rw [hpb] at hpl
    have hbl := below_le x.key cur
    simp +contextual (maxSteps:=9^7) only [go_sem,hlt',hx,Note.pv]
    refine V.call rfl rfl (by simp [dOK]) ⟨116,[],by simp only [go_sem],⟨_,rfl,rfl,rfl⟩,.inl ⟨[.row (cur.map Pair.pv),.str x.key],_,.inl (by simp only [go_sem]),hpl,.inl ⟨_,rfl,rfl,rfl,rfl⟩⟩⟩ ?_
    refine V.exec 400 ?_
    cases hg : getL cur x.key with
    | some p =>
     have hp := (below_find cur none ((rising_iff cur).2 hcs) p).2 hg
     have hE : (∃ y,some p = some y ∧ y.key = x.key) := ⟨p,rfl,hp.2⟩
     have hrl := (zQ.1 hp.1).1
     have hrl' : ((below x.key cur : Nat) : Int) < (cur.length : Int) := by omega
     have hone := oneV_some hcs hg
     have hdo := note_Done p.value true [x] (by simp)
     simp +contextual (maxSteps:=9^7) only [go_sem,hp.1,hE,hrl',Pair.pv]
     refine V.call rfl rfl (by simp [dOK]) ⟨117,[],by simp only [go_sem],⟨_,rfl,rfl,rfl⟩,.inl ⟨[.str p.value,.bool (decide (true = true)),.row ([x].map Note.pv)],_,.inl (by simp only [go_sem,Note.pv,zC,zB,decide_true]),hdo,.inr (.inl ⟨_,rfl,rfl,rfl⟩)⟩⟩ ?_
     refine V.exec 400 ?_
     have hwr : IntKind.i64.wrap (((below x.key cur : Nat) : Int) + 1) = ((below x.key cur + 1 : Nat) : Int) := by rw [wrap_small3] <;> omega
     have hdv : doneV p.value true [x] = doneOne (p.value,true) x := rfl
     rw [hdv] at hdo ⊢
     obtain ⟨now,has,hdd⟩ : ∃ a b,doneOne (p.value,true) x = (a,b) := ⟨_,_,rfl⟩
     rw [hdd] at hone hdo ⊢
     simp only at hone hdo ⊢
     cases has with
     | true =>
      rw [if_pos rfl] at hone
      simp +contextual (maxSteps:=9^7) only [go_sem,hp.1,hE,hrl',Pair.pv,decide_true]
      refine ⟨ns.length - (i + 1),_,_,[some 0],by omega,⟨i + 1,oneV cur x,by omega,rfl,hos,by omega,hca,rfl,rfl⟩,?_⟩
      simp only [go_sem,hone,List.map_set,Pair.pv,hw]
      try decide
     | false =>
      rw [if_neg (by simp)] at hone
      have hdel := DeletePair (cur.map Pair.pv) (below x.key cur) (h2 cur) (by simpa using hrl) (by simp; omega)
      rw [← List.map_take,← List.map_drop,← zM,← hone] at hdel
      simp +contextual (maxSteps:=9^7) only [go_sem,hp.1,hE,hrl',Pair.pv,decide_false,hwr]
      refine V.call rfl rfl (by simp [dOK]) ⟨118,[],by simp only [go_sem],⟨_,rfl,rfl,rfl⟩,.inr (.inl ⟨0,77,cur.map Pair.pv,[.val (.int .i64 (below x.key cur : Nat)),.val (.int .i64 (below x.key cur + 1 : Nat))],[.int .i64 (below x.key cur : Nat),.int .i64 (below x.key cur + 1 : Nat)],77,_,by simp only [go_sem],by simp only [go_sem],.inl (by simp only [go_sem]),hdel,by simp only [go_sem],rfl,rfl⟩)⟩ ?_
      refine V.exec 400 ?_
      simp +contextual (maxSteps:=9^7) only [go_sem,hw]
      refine ⟨ns.length - (i + 1),_,_,[some 44],by omega,⟨i + 1,oneV cur x,by omega,rfl,hos,by omega,hca,rfl,rfl⟩,?_⟩
      simp only [go_sem]
    | none =>
     have hE : ¬ ∃ y,cur[below x.key cur]? = some y ∧ y.key = x.key := fun ⟨y,hy⟩ => by
      have := (below_find cur none ((rising_iff cur).2 hcs) y).1 hy
      rw [hg] at this; cases this
     have hone := oneV_none hcs hg
     have hdo := note_Done [] false [x] (by simp)
     simp +contextual (maxSteps:=9^7) only [go_sem,hE]
     refine V.call rfl rfl (by simp [dOK]) ⟨117,[],by simp only [go_sem],⟨_,rfl,rfl,rfl⟩,.inl ⟨[.str [],.bool (decide (false = true)),.row ([x].map Note.pv)],_,.inl (by simp only [go_sem,Note.pv,zC,zB,decide_false]),hdo,.inr (.inl ⟨_,rfl,rfl,rfl⟩)⟩⟩ ?_
     refine V.exec 400 ?_
     have hdv : doneV [] false [x] = doneOne ([],false) x := rfl
     rw [hdv] at hdo ⊢
     obtain ⟨now,has,hdd⟩ : ∃ a b,doneOne ([],false) x = (a,b) := ⟨_,_,rfl⟩
     rw [hdd] at hone hdo ⊢
     simp only at hone hdo ⊢
     cases has with
     | true =>
      rw [if_pos rfl] at hone
      have hins := InsertPair (cur.map Pair.pv) (Pair.pv ⟨x.key,now⟩) (below x.key cur) (h2 cur) rfl (by simpa using hbl) (by simp; omega)
      have he : (cur.map Pair.pv).take (below x.key cur) ++ [Pair.pv ⟨x.key,now⟩] ++ (cur.map Pair.pv).drop (below x.key cur) = (oneV cur x).map Pair.pv := by
       rw [hone]; simp [zM,List.map_take,List.map_drop]
      rw [he] at hins
      simp +contextual (maxSteps:=9^7) only [go_sem,hE,Pair.pv,decide_true]
      refine V.call rfl rfl (by simp [dOK]) ⟨119,[],by simp only [go_sem],⟨_,rfl,rfl,rfl⟩,.inr (.inl ⟨0,77,cur.map Pair.pv,[.val (.int .i64 (below x.key cur : Nat)),.ref 42],[.int .i64 (below x.key cur : Nat),.rowp [Pair.pv ⟨x.key,now⟩]],77,_,by simp only [go_sem],by simp only [go_sem],.inr ⟨[.val (.int .i64 (below x.key cur : Nat))],42,77,[Pair.pv ⟨x.key,now⟩],[.int .i64 (below x.key cur : Nat)],rfl,rfl,by simp only [go_sem,Pair.pv],rfl⟩,hins,by simp only [go_sem],rfl,rfl⟩)⟩ ?_
      refine V.exec 400 ?_
      simp +contextual (maxSteps:=9^7) only [go_sem,hw]
      refine ⟨ns.length - (i + 1),_,_,[some 43],by omega,⟨i + 1,oneV cur x,by omega,rfl,hos,by omega,hca,rfl,rfl⟩,?_⟩
      simp only [go_sem]
     | false =>
      rw [if_neg (by simp)] at hone
      simp +contextual (maxSteps:=9^7) only [go_sem,hE,Pair.pv,decide_false,hw]
      refine ⟨ns.length - (i + 1),_,_,[some 0],by omega,⟨i + 1,oneV cur x,by omega,rfl,hos,by omega,hca,rfl,rfl⟩,?_⟩
      simp only [go_sem,hone]
   ·have hlt' : ¬ (i : Int) < (ns.length : Int) := by omega
    have hd : ns.drop i = [] := zK (by omega)
    rw [hd] at hca
    simp +contextual (maxSteps:=9^7) only [go_sem,hlt',← hca]
    rfl
  ·have hv : applyV l ns = (l,1) := by simp only [applyV]; rw [if_neg (fun h => hall h.2)]
   simp +contextual (maxSteps:=9^7) only [go_sem,hall,hv]
 ·have hv : applyV l ns = (l,1) := by simp only [applyV]; rw [if_neg (fun h => hok h.1)]
  simp +contextual (maxSteps:=9^7) only [go_sem,hok,hv]
theorem Pair.inj (s t : Pair) : (s.pv = t.pv) = (s = t) := by
 cases s; cases t
 simp [Pair.pv]
set_option maxRecDepth 4000 in
set_option maxHeartbeats 8000000 in
theorem ref03_Same (a b : List Pair) (hb : b.length ≤ 1000000) : Ct pG 23 (Zv.ops [.row (a.map Pair.pv),.row (b.map Pair.pv)]) (.vals [.bool (decide (a = b))]) := by
 refine Ct.of_V Tryz.func23 rfl (by simp [Zv.ops,Tryz.f23]) ?_
 refine V.exec 400 ?_
 by_cases hl : a.length = b.length
 ·simp +contextual (maxSteps:=9^7) only [go_sem,Tryz.f23,hl]
  refine V.loop (fun m ls os => ∃ i : Nat,i ≤ b.length ∧ m = b.length - i ∧ a.take i = b.take i ∧
    ls = [(0,.val (.row (a.map Pair.pv))),(1,.val (.row (b.map Pair.pv))),(5,.val (.int .i64 i))] ∧ os = []) 0 b.length [(0,.val (.row (a.map Pair.pv))),(1,.val (.row (b.map Pair.pv))),(5,.val (.int .i64 0))] [] []
   ⟨0,zF _,rfl,rfl,rfl,rfl⟩ (by simp only [go_sem]) ?_
  rintro m ls os ⟨i,hi,rfl,heq,rfl,rfl⟩
  refine V.exec 400 ?_
  by_cases hlt : i < b.length
  ·have hlt' : (i : Int) < (b.length : Int) := by omega
   have hla : i < a.length := by omega
   obtain ⟨x,hx⟩ : ∃ x,a[i]? = some x := ⟨_,zA hla⟩
   obtain ⟨y,hy⟩ : ∃ y,b[i]? = some y := ⟨_,zA hlt⟩
   have hw : IntKind.i64.wrap ((i : Int) + 1) = ((i + 1 : Nat) : Int) := by rw [wrap_small3] <;> omega
   have hinj := Pair.inj x y
   simp only [Pair.pv] at hinj
   simp +contextual (maxSteps:=9^7) only [go_sem,hl,hlt',hx,hy,Pair.pv,hw,hinj]
   refine ⟨by kernel_rfl,fun hne => ?_,fun he => ⟨b.length - (i + 1),_,[],[],by omega,⟨i + 1,by omega,rfl,?_,rfl,rfl⟩,?_⟩⟩
   ·have : a ≠ b := fun e => hne (by rw [e,hy] at hx; cases hx; rfl)
    simp [this]
   ·rw [zL,zL,heq,hx,hy,he]
   ·simp only [go_sem]
  ·have hlt' : ¬ (i : Int) < (b.length : Int) := by omega
   simp +contextual (maxSteps:=9^7) only [go_sem,hl,hlt']
   have : a = b := by rw [zD (by omega),zD (by omega)] at heq; exact heq
   simp [this]
 ·have hl' : ¬ (a.length : Int) = (b.length : Int) := by omega
  have : a ≠ b := fun e => hl (by rw [e])
  simp +contextual (maxSteps:=9^7) only [go_sem,Tryz.f23,hl',this,not_false_eq_true]
theorem applyV_len (l : List Pair) (ns : List Note) : (applyV l ns).1.length ≤ l.length + ns.length := by
 unfold applyV
 split
 ·rename_i h
  exact appV_len ns ((pairsOk_iff l).1 h.1).1
 ·simp
theorem applyV_ok {l : List Pair} {ns : List Note} (h : pairsOk l) (hn : notesOk ns) : applyV l ns = (appV l ns,0) := by
 unfold applyV; rw [if_pos ⟨h,hn⟩]
theorem applyV_bad {l : List Pair} {ns : List Note} (h : ¬ (pairsOk l ∧ notesOk ns)) : applyV l ns = (l,1) := by
 unfold applyV; rw [if_neg h]
theorem stepO_put (o : Option (List UInt8)) {x : Note} (h : x.kind = 1) : stepO o x = some x.value := by
 unfold stepO; cases o <;> simp [doneOne,h]
theorem stepO_del (o : Option (List UInt8)) {x : Note} (h : x.kind = 2) : stepO o x = none := by
 unfold stepO; cases o <;> simp [doneOne,h]
theorem getV_val {l : List Pair} (h : pairsOk l) (k : List UInt8) : getV l k = (match val l k with | some v => (v,true) | none => ([],false)) := by
 unfold getV val
 rw [if_pos h]
 cases getL l k <;> rfl
theorem appV_val : ∀ (ns : List Note) {l : List Pair},Sorted l → ∀ k,val (appV l ns) k = ns.foldl (fun o x => if k = x.key then stepO o x else o) (val l k)
 | [],_,_,_ => rfl
 | x :: r,l,hs,k => by
  have h1 := appV_val r (oneV_sorted hs x) k
  rw [oneV_val hs x k] at h1
  exact h1
theorem notesOk_one (x : Note) : notesOk [x] ↔ x.ok := by simp [notesOk]
theorem appV_app (l : List Pair) (a b : List Note) : appV l (a ++ b) = appV (appV l a) b := List.foldl_append ..
theorem pair_of (xs : List PV) (h : ∀ x ∈ xs,∃ qs,x = .agg qs ∧ qs.map PV.kd = [.str,.str] ∧ ∀ q ∈ qs,q.wfv) : ∃ t : List Pair,xs = t.map Pair.pv := by
 induction xs with
 | nil => exact ⟨[],rfl⟩
 | cons x r ih =>
  obtain ⟨t,rfl⟩ := ih (fun y hy => h y (zH _ hy))
  obtain ⟨qs,rfl,hk,hw⟩ := h x zG
  match qs,hk with
  | [.str a,.str b],hk => exact ⟨⟨a,b⟩ :: t,by simp [Pair.pv]⟩
def Change.zero : Change := ⟨0,[],false,[],false,[]⟩
def ofV (l : List Pair) (seq : Int) (n : Note) : Change × Int :=
  if pairsOk l ∧ n.ok ∧ 1 ≤ seq ∧ seq ≤ 2147483647 then
    (if (getV l n.key).2 = false ∧ (doneV (getV l n.key).1 (getV l n.key).2 [n]).2 = false then (Change.zero,3)
     else (⟨seq,n.key,(getV l n.key).2,(getV l n.key).1,(doneV (getV l n.key).1 (getV l n.key).2 [n]).2,(doneV (getV l n.key).1 (getV l n.key).2 [n]).1⟩,0))
  else (Change.zero,1)
def noteC (c : Change) : Note := if c.has = true then ⟨1,c.key,c.aft,0⟩ else ⟨2,c.key,[],0⟩
def fitC (l : List Pair) (c : Change) : Prop := getV l c.key = (c.bef,c.had)
instance instFitC (l : List Pair) (c : Change) : Decidable (fitC l c) := by unfold fitC; infer_instance
def doGo : List Pair → List Change → Option (List Pair)
 | l,[] => some l
 | l,c :: r => if c.ok ∧ fitC l c then doGo (oneV l (noteC c)) r else none
def doV (l : List Pair) (cs : List Change) : List Pair × Int := if pairsOk l then (match doGo l cs with | some q => (q,0) | none => (l,1)) else (l,1)
theorem noteC_key (c : Change) : (noteC c).key = c.key := by unfold noteC; split <;> rfl
theorem noteC_ok {c : Change} (h : c.ok) : (noteC c).ok := by
 unfold noteC
 split
 ·exact ⟨h.1,h.2.2.1,.inl ⟨rfl,rfl⟩⟩
 ·exact ⟨h.1,by simp,.inr (.inl ⟨rfl,rfl,rfl⟩)⟩
theorem oneV_congr {l : List Pair} (hs : Sorted l) {a b : Note} (hk : a.key = b.key) (hst : stepO (val l b.key) a = stepO (val l b.key) b) : oneV l a = oneV l b := by
 refine val_ext (oneV_sorted hs a) (oneV_sorted hs b) fun k => ?_
 rw [oneV_val hs,oneV_val hs,hk]
 by_cases h : k = b.key
 ·subst h; rw [if_pos rfl,if_pos rfl,hst]
 ·rw [if_neg h,if_neg h]
theorem oneV_same {l : List Pair} (hs : Sorted l) {a : Note} (hst : stepO (val l a.key) a = val l a.key) : oneV l a = l := by
 refine val_ext (oneV_sorted hs a) hs fun k => ?_
 rw [oneV_val hs]
 by_cases h : k = a.key
 ·subst h; rw [if_pos rfl,hst]
 ·rw [if_neg h]
theorem done_step {l : List Pair} (h : pairsOk l) (n : Note) :
  stepO (val l n.key) n = if (doneV (getV l n.key).1 (getV l n.key).2 [n]).2 = true then some (doneV (getV l n.key).1 (getV l n.key).2 [n]).1 else none := by
 rw [getV_val h]
 unfold stepO
 cases val l n.key <;> rfl
theorem done_none (n : Note) {v : List UInt8} {w : Bool} (h : (doneV v w [n]).2 = false) (hw : w = false → v = []) : (doneV v w [n]).1 = [] := by
 unfold doneV at *
 simp only [List.foldl_cons,List.foldl_nil] at *
 unfold doneOne at *
 split at h
 ·cases h
 ·rename_i h1
  split at h
  ·rename_i h2; rw [if_neg h1,if_pos h2]
  ·rename_i h2
   split at h
   ·cases h
   ·rename_i h3
    rw [if_neg h1,if_neg h2,if_neg h3]
    cases w with
    | true => cases h
    | false => rfl
theorem getV_none {l : List Pair} (h : pairsOk l) (k : List UInt8) (hw : (getV l k).2 = false) : (getV l k).1 = [] := by
 rw [getV_val h] at *
 cases hv : val l k with
 | none => rfl
 | some v => rw [hv] at hw; cases hw
theorem getV_short {l : List Pair} (h : pairsOk l) (k : List UInt8) : (getV l k).1.length ≤ 32 := by
 rw [getV_val h]
 cases hv : val l k with
 | none => simp
 | some v =>
  have hp := (pairsOk_iff l).1 h
  have := (val_iff hp.1).1 hv
  exact (hp.2 _ this).2
theorem done_short (v : List UInt8) (w : Bool) {n : Note} (hn : n.ok) : (doneV v w [n]).1.length ≤ 32 := by
 unfold doneV
 simp only [List.foldl_cons,List.foldl_nil]
 unfold doneOne
 have := hn.2.1
 rcases hn.2.2 with h | h | h <;> simp [h.1]
 ·exact this
 ·rw [beB_len]; decide
theorem ofV_does {l : List Pair} {seq : Int} {n : Note} (h : (ofV l seq n).2 = 0) :
  (ofV l seq n).1.ok ∧ fitC l (ofV l seq n).1 ∧ oneV l (noteC (ofV l seq n).1) = oneV l n ∧ doV l [(ofV l seq n).1] = (oneV l n,0) ∧ (ofV l seq n).1.key = n.key ∧ (ofV l seq n).1.seq = seq := by
 unfold ofV at *
 split at h
 ·rename_i hc
  rw [if_pos hc]
  split at h
  ·cases h
  ·rename_i hb
   rw [if_neg hb]
   obtain ⟨h1,h2,h3,h4⟩ := hc
   have hs := ((pairsOk_iff l).1 h1).1
   have e1 : (⟨seq,n.key,(getV l n.key).2,(getV l n.key).1,(doneV (getV l n.key).1 (getV l n.key).2 [n]).2,(doneV (getV l n.key).1 (getV l n.key).2 [n]).1⟩ : Change).ok := by
    refine ⟨h2.1,getV_short h1 _,done_short _ _ h2,h3,h4,?_,?_,?_⟩
    ·show (getV l n.key).2 = true ∨ (getV l n.key).1 = []
     cases hw : (getV l n.key).2 with
     | true => exact .inl rfl
     | false => exact .inr (getV_none h1 _ hw)
    ·show (doneV (getV l n.key).1 (getV l n.key).2 [n]).2 = true ∨ (doneV (getV l n.key).1 (getV l n.key).2 [n]).1 = []
     cases hw : (doneV (getV l n.key).1 (getV l n.key).2 [n]).2 with
     | true => exact .inl rfl
     | false => exact .inr (done_none n hw (getV_none h1 _))
    ·show (getV l n.key).2 = true ∨ (doneV (getV l n.key).1 (getV l n.key).2 [n]).2 = true
     cases hw : (getV l n.key).2 with
     | true => exact .inl rfl
     | false => cases hv : (doneV (getV l n.key).1 (getV l n.key).2 [n]).2 with
      | true => exact .inr (by rw [hw] at hv; exact hv)
      | false => rw [hw] at hv hb; exact absurd ⟨rfl,hv⟩ hb
   have e2 : fitC l ⟨seq,n.key,(getV l n.key).2,(getV l n.key).1,(doneV (getV l n.key).1 (getV l n.key).2 [n]).2,(doneV (getV l n.key).1 (getV l n.key).2 [n]).1⟩ := rfl
   have e3 : oneV l (noteC ⟨seq,n.key,(getV l n.key).2,(getV l n.key).1,(doneV (getV l n.key).1 (getV l n.key).2 [n]).2,(doneV (getV l n.key).1 (getV l n.key).2 [n]).1⟩) = oneV l n := by
    refine oneV_congr hs (noteC_key _) ?_
    rw [done_step h1 n]
    unfold noteC
    split
    ·exact stepO_put _ rfl
    ·exact stepO_del _ rfl
   refine ⟨e1,e2,e3,?_,rfl,rfl⟩
   unfold doV doGo doGo
   rw [if_pos h1,if_pos ⟨e1,e2⟩,e3]
 ·cases h
theorem ofV_none {l : List Pair} {seq : Int} {n : Note} (h1 : pairsOk l) (h2 : n.ok) (h3 : 1 ≤ seq) (h4 : seq ≤ 2147483647) (h : (ofV l seq n).2 ≠ 0) : oneV l n = l ∧ ofV l seq n = (Change.zero,3) := by
 unfold ofV at *
 rw [if_pos ⟨h1,h2,h3,h4⟩] at *
 split at h
 ·rename_i hb
  rw [if_pos hb]
  refine ⟨oneV_same ((pairsOk_iff l).1 h1).1 ?_,rfl⟩
  rw [done_step h1 n,hb.2,if_neg (by decide)]
  have := hb.1
  rw [getV_val h1] at this
  cases hv : val l n.key with
  | none => rfl
  | some v => rw [hv] at this; cases this
 ·exact absurd rfl h
theorem oneV_pairsOk {l : List Pair} (h : pairsOk l) {x : Note} (hx : x.ok) : pairsOk (oneV l x) := oneV_ok h hx
def runGo : List Pair → Int → List Change → List Note → List Change × List Pair
 | p,_,out,[] => (out,p)
 | p,seq,out,n :: r => if (ofV p (seq + out.length + 1) n).2 = 0 then runGo (oneV p n) seq (out ++ [(ofV p (seq + out.length + 1) n).1]) r else runGo p seq out r
def notesAll (ns : List Note) : Prop := ∀ x ∈ ns,x.ok
def batchOk (ns : List Note) : Prop := ns.length ≤ 8 ∧ notesAll ns
instance instNotesAll (ns : List Note) : Decidable (notesAll ns) := by unfold notesAll; infer_instance
instance instBatchOk (ns : List Note) : Decidable (batchOk ns) := by unfold batchOk; infer_instance
def runV (l : List Pair) (seq : Int) (ns : List Note) : List Change × List Pair × Int :=
 if batchOk ns ∧ pairsOk l ∧ 0 ≤ seq ∧ seq ≤ 2147483647 then (if 2147483647 - (ns.length : Int) < seq then ([],l,5) else ((runGo l seq [] ns).1,(runGo l seq [] ns).2,0)) else ([],l,1)
def sideV (st : List UInt8 × Bool) : PV := .agg [.bool (decide (st.2 = true)),.str st.1]
theorem change_of (l : List Pair) (k : List UInt8) (hl : l.length ≤ 1000000) : Ct pG 120 (Zv.ops [.row (l.map Pair.pv),.str k]) (.vals [sideV (getV l k)]) := by
 refine Ct.of_V Tryz.func120 rfl (by simp [Zv.ops,Tryz.f120]) ?_
 refine V.exec 400 ?_
 simp +contextual (maxSteps:=9^7) only [go_sem,Tryz.f120]
 refine V.call rfl rfl (by simp [dOK]) ⟨125,[],by simp only [go_sem],⟨_,rfl,rfl,rfl⟩,.inl ⟨[.row (l.map Pair.pv),.str k],_,.inl (by simp only [go_sem]),leaf_Get l k hl,.inr (.inl ⟨_,rfl,rfl,rfl⟩)⟩⟩ ?_
 refine V.exec 400 ?_
 simp +contextual (maxSteps:=9^7) only [go_sem,sideV]
theorem change_ahead (c : Change) : Ct pG 121 (Zv.ops [c.pv]) (.vals [sideV (c.bef,c.had)]) := by
 refine Ct.of_V Tryz.func121 rfl (by simp [Zv.ops,Tryz.f121]) ?_
 refine V.exec 400 ?_
 simp +contextual (maxSteps:=9^7) only [go_sem,Tryz.f121,Change.pv,sideV]
def madeV (seq : Int) (key : List UInt8) (a b : List UInt8 × Bool) : Change × Int :=
 if a.2 = false ∧ b.2 = false then (Change.zero,3) else (⟨seq,key,a.2,a.1,b.2,b.1⟩,0)
set_option maxHeartbeats 4000000 in
theorem change_made (seq : Int) (key : List UInt8) (a b : List UInt8 × Bool) : Ct pG 124 (Zv.ops [.int .i64 seq,.str key,sideV a,sideV b]) (.vals [(madeV seq key a b).1.pv,.int .i64 (madeV seq key a b).2]) := by
 obtain ⟨av,ah⟩ := a
 obtain ⟨bv,bh⟩ := b
 cases ah with
 | true =>
  have e : madeV seq key (av,true) (bv,bh) = (⟨seq,key,true,av,bh,bv⟩,0) := rfl
  rw [e]
  refine Ct.of_V Tryz.func124 rfl (by simp [Zv.ops,Tryz.f124]) ?_
  refine V.exec 400 ?_
  simp +contextual (maxSteps:=9^7) only [go_sem,Tryz.f124,sideV,Change.pv,decide_true]
 | false =>
  cases bh with
  | true =>
   have e : madeV seq key (av,false) (bv,true) = (⟨seq,key,false,av,true,bv⟩,0) := rfl
   rw [e]
   refine Ct.of_V Tryz.func124 rfl (by simp [Zv.ops,Tryz.f124]) ?_
   refine V.exec 400 ?_
   simp +contextual (maxSteps:=9^7) only [go_sem,Tryz.f124,sideV,Change.pv,decide_true,decide_false]
  | false =>
   have e : madeV seq key (av,false) (bv,false) = (Change.zero,3) := rfl
   rw [e]
   refine Ct.of_V Tryz.func124 rfl (by simp [Zv.ops,Tryz.f124]) ?_
   refine V.exec 400 ?_
   simp +contextual (maxSteps:=9^7) only [go_sem,Tryz.f124,sideV,Change.pv,Change.zero,decide_true,decide_false]
set_option maxRecDepth 4000 in
set_option maxHeartbeats 8000000 in
theorem change_Of (l : List Pair) (seq : Int) (n : Note) (hl : l.length ≤ 1000000) : Ct pG 75 (Zv.ops [.row (l.map Pair.pv),.int .i64 seq,n.pv]) (.vals [(ofV l seq n).1.pv,.int .i64 (ofV l seq n).2]) := by
 have hbad : ¬ (pairsOk l ∧ n.ok ∧ 1 ≤ seq ∧ seq ≤ 2147483647) → ofV l seq n = (Change.zero,1) := fun h => by unfold ofV; rw [if_neg h]
 refine Ct.of_V Tryz.func75 rfl (by simp [Zv.ops,Tryz.f75]) ?_
 refine V.exec 400 ?_
 simp +contextual (maxSteps:=9^7) only [go_sem,Tryz.f75,Note.pv]
 refine V.call rfl rfl (by simp [dOK]) ⟨104,[],by simp only [go_sem],⟨_,rfl,rfl,rfl⟩,.inl ⟨[.row (l.map Pair.pv)],_,.inl (by simp only [go_sem]),leaf_Right l hl,.inl ⟨_,rfl,rfl,rfl,rfl⟩⟩⟩ ?_
 refine V.exec 400 ?_
 by_cases hok : pairsOk l
 ·simp +contextual (maxSteps:=9^7) only [go_sem,hok]
  refine V.call rfl rfl (by simp [dOK]) ⟨108,[],by simp only [go_sem],⟨_,rfl,rfl,rfl⟩,.inl ⟨[n.pv],_,.inl (by simp only [go_sem,Note.pv]),note_Right n,.inl ⟨_,rfl,rfl,rfl,rfl⟩⟩⟩ ?_
  refine V.exec 400 ?_
  by_cases hn : n.ok
  ·by_cases h1 : seq < 1
   ·have hv := hbad fun h => by omega
    simp +contextual (maxSteps:=9^7) only [go_sem,hn,h1,hv,Change.zero,Change.pv,decide_false]
   ·by_cases h2 : 2147483647 < seq
    ·have hv := hbad fun h => by omega
     simp +contextual (maxSteps:=9^7) only [go_sem,hn,h1,h2,hv,Change.zero,Change.pv,decide_false]
    ·have hv : ofV l seq n = madeV seq n.key (getV l n.key) (doneV (getV l n.key).1 (getV l n.key).2 [n]) := by
      unfold ofV madeV; rw [if_pos ⟨hok,hn,by omega,by omega⟩]
     have cd := note_Done (getV l n.key).1 (getV l n.key).2 [n] (by simp)
     have cm := change_made seq n.key (getV l n.key) (doneV (getV l n.key).1 (getV l n.key).2 [n])
     have co := change_of l n.key hl
     rw [hv]
     obtain ⟨gv,gh,hG⟩ : ∃ a b,getV l n.key = (a,b) := ⟨_,_,rfl⟩
     rw [hG] at cd cm co ⊢
     simp only at cd cm co ⊢
     obtain ⟨dv,dh,hD⟩ : ∃ a b,doneV gv gh [n] = (a,b) := ⟨_,_,rfl⟩
     rw [hD] at cd cm ⊢
     simp only at cd cm
     generalize madeV seq n.key (gv,gh) (dv,dh) = M at *
     simp +contextual (maxSteps:=9^7) only [go_sem,hn,h1,h2]
     refine V.call rfl rfl (by simp [dOK]) ⟨120,[],by simp only [go_sem],⟨_,rfl,rfl,rfl⟩,.inl ⟨[.row (l.map Pair.pv),.str n.key],_,.inl (by simp only [go_sem,sideV]),co,.inr (.inl ⟨_,rfl,rfl,rfl⟩)⟩⟩ ?_
     refine V.exec 400 ?_
     simp +contextual (maxSteps:=9^7) only [go_sem,sideV,Note.pv]
     refine V.call rfl rfl (by simp [dOK]) ⟨117,[],by simp only [go_sem],⟨_,rfl,rfl,rfl⟩,.inl ⟨[.str gv,.bool (decide (gh = true)),.row ([n].map Note.pv)],_,.inl (by simp only [go_sem,Note.pv,zC,zB]),cd,.inr (.inl ⟨_,rfl,rfl,rfl⟩)⟩⟩ ?_
     refine V.exec 400 ?_
     simp +contextual (maxSteps:=9^7) only [go_sem,sideV,Note.pv]
     refine V.call rfl rfl (by simp [dOK]) ⟨124,[],by simp only [go_sem],⟨_,rfl,rfl,rfl⟩,.inl ⟨[.int .i64 seq,.str n.key,sideV (gv,gh),sideV (dv,dh)],_,.inl (by simp only [go_sem,sideV]),cm,.inr (.inl ⟨_,rfl,rfl,rfl⟩)⟩⟩ ?_
     refine V.exec 400 ?_
     simp +contextual (maxSteps:=9^7) only [go_sem,Change.pv]
  ·have hv := hbad fun h => hn h.2.1
   simp +contextual (maxSteps:=9^7) only [go_sem,hn,hv,Change.zero,Change.pv,decide_false]
 ·have hv := hbad fun h => hok h.1
  simp +contextual (maxSteps:=9^7) only [go_sem,hok,hv,Change.zero,Change.pv,decide_false]
theorem eqSide : EqT pG 187 [.bool,.str] := EqT.of (by kernel_rfl) (by kernel_rfl) (by kernel_rfl)
theorem side_inj (a b : List UInt8) (p q : Bool) : (PV.agg [.bool (decide (p = true)),.str a] = PV.agg [.bool (decide (q = true)),.str b]) = (a = b ∧ p = q) := by
 cases p <;> cases q <;> simp
set_option maxRecDepth 10000 in
set_option maxHeartbeats 16000000 in
theorem change_Do (l : List Pair) (cs : List Change) (hl : l.length ≤ 200000) (hn : cs.length ≤ 200000) : Ct pG 69 (Zv.ops [.row (l.map Pair.pv),.row (cs.map Change.pv)]) (.vals [.row ((doV l cs).1.map Pair.pv),.int .i64 (doV l cs).2]) := by
 have h2 : ∀ (l : List Pair),∀ x ∈ l.map Pair.pv,x.cells.length = 2 := fun l x hx => by
  obtain ⟨s,_,rfl⟩ := zN.1 hx
  rfl
 have ccl := (ClonePair (l.map Pair.pv) (h2 l) (by simp; omega)).forget
 refine Ct.of_V Tryz.func69 rfl (by simp [Zv.ops,Tryz.f69]) ?_
 refine V.exec 400 ?_
 simp +contextual (maxSteps:=9^7) only [go_sem,Tryz.f69]
 refine V.call rfl rfl (by simp [dOK]) ⟨114,[],by simp only [go_sem],⟨_,rfl,rfl,rfl⟩,.inl ⟨[.row (l.map Pair.pv)],_,.inl (by simp only [go_sem]),ccl,.inr (.inl ⟨_,rfl,rfl,rfl⟩)⟩⟩ ?_
 refine V.exec 400 ?_
 simp +contextual (maxSteps:=9^7) only [go_sem]
 refine V.call rfl rfl (by simp [dOK]) ⟨104,[],by simp only [go_sem],⟨_,rfl,rfl,rfl⟩,.inl ⟨[.row (l.map Pair.pv)],_,.inl (by simp only [go_sem]),leaf_Right l (by omega),.inl ⟨_,rfl,rfl,rfl,rfl⟩⟩⟩ ?_
 refine V.exec 400 ?_
 by_cases hok : pairsOk l
 ·simp +contextual (maxSteps:=9^7) only [go_sem,hok]
  refine V.loop (fun m ls os => ∃ (i : Nat) (cur : List Pair),i ≤ cs.length ∧ m = cs.length - i ∧ pairsOk cur ∧ cur.length ≤ l.length + i ∧ doGo cur (cs.drop i) = doGo l cs ∧
    ls = [(0,.val (.row (l.map Pair.pv))),(6,.val (.row (cur.map Pair.pv))),(16,.val (.row (cs.map Change.pv))),(17,.val (.int .i64 cs.length)),(18,.val (.int .i64 i))] ∧ os = []) 0 cs.length
   [(0,.val (.row (l.map Pair.pv))),(6,.val (.row (l.map Pair.pv))),(16,.val (.row (cs.map Change.pv))),(17,.val (.int .i64 cs.length)),(18,.val (.int .i64 0))] [] []
   ⟨0,l,zF _,rfl,hok,zR _,rfl,rfl,rfl⟩ (by simp only [go_sem]) ?_
  rintro m ls os ⟨i,cur,hi,rfl,hco,hcl,hca,rfl,rfl⟩
  refine V.exec 400 ?_
  by_cases hlt : i < cs.length
  ·have hlt' : (i : Int) < (cs.length : Int) := by omega
   obtain ⟨x,hx⟩ : ∃ x,cs[i]? = some x := ⟨_,zA hlt⟩
   have hw : IntKind.i64.wrap ((i : Int) + 1) = ((i + 1 : Nat) : Int) := by rw [wrap_small3] <;> omega
   rw [drop_of_get hx,doGo] at hca
   have hbad : ¬ (x.ok ∧ fitC cur x) → doV l cs = (l,1) := fun h => by
    rw [if_neg h] at hca
    unfold doV; rw [if_pos hok,← hca]
   have hgood := fun h : x.ok ∧ fitC cur x => if_pos h ▸ hca
   simp +contextual (maxSteps:=9^7) only [go_sem,hlt',hx,Change.pv]
   refine DV.call [] [] (by simp only [go_sem,Change.pv]) (by simp [dOK]) ⟨101,[],by simp only [go_sem,Change.pv],⟨_,rfl,rfl,rfl⟩,.inl ⟨[x.pv],_,.inl (by simp only [go_sem,Change.pv]),flat_May x,.inl ⟨_,rfl,rfl,rfl,rfl⟩⟩⟩ (by simp only [go_sem,Change.pv]) (by simp only [go_sem,Change.pv]) (by simp only [go_sem,Change.pv]) (by simp) ?_
   refine DV.exec 400 ?_
   by_cases hm : x.ok
   ·have co := change_of cur x.key (by omega)
    obtain ⟨gv,gh,hG⟩ : ∃ a b,getV cur x.key = (a,b) := ⟨_,_,rfl⟩
    rw [hG] at co
    simp +contextual (maxSteps:=9^7) only [go_sem,hm,Change.pv]
    refine DV.call [] [] (by simp only [go_sem,sideV]) (by simp [dOK]) ⟨120,[],by simp only [go_sem,sideV],⟨_,rfl,rfl,rfl⟩,.inl ⟨[.row (cur.map Pair.pv),.str x.key],_,.inl (by simp only [go_sem,sideV]),co,.inr (.inl ⟨_,rfl,rfl,rfl⟩)⟩⟩ (by simp only [go_sem,sideV]) (by simp only [go_sem,sideV]) (by simp only [go_sem,sideV]) (by simp) ?_
    refine DV.exec 400 ?_
    simp +contextual (maxSteps:=9^7) only [go_sem,hm,Change.pv]
    refine DV.call [] [] (by simp only [go_sem,sideV,Change.pv]) (by simp [dOK]) ⟨121,[],by simp only [go_sem,sideV,Change.pv],⟨_,rfl,rfl,rfl⟩,.inl ⟨[x.pv],_,.inl (by simp only [go_sem,sideV,Change.pv]),change_ahead x,.inr (.inl ⟨_,rfl,rfl,rfl⟩)⟩⟩ (by simp only [go_sem,sideV,Change.pv]) (by simp only [go_sem,sideV,Change.pv]) (by simp only [go_sem,sideV,Change.pv]) (by simp) ?_
    refine DV.exec 400 ?_
    by_cases hf : gv = x.bef ∧ gh = x.had
    ·have hfit : fitC cur x := by unfold fitC; rw [hG,hf.1,hf.2]
     have hgo := hgood ⟨hm,hfit⟩
     have hnc := noteC_ok hm
     have ca := leaf_Apply cur [noteC x] (by omega) (by simp)
     rw [applyV_ok hco ((notesOk_one _).2 hnc)] at ca
     have e1 : appV cur [noteC x] = oneV cur (noteC x) := rfl
     rw [e1] at ca
     simp only at ca
     have hoo := oneV_pairsOk hco hnc
     have hol := oneV_len ((pairsOk_iff cur).1 hco).1 (noteC x)
     generalize oneV cur (noteC x) = nxt at *
     cases hh : x.has with
     | true =>
      have e2 : noteC x = ⟨1,x.key,x.aft,0⟩ := by unfold noteC; rw [if_pos hh]
      rw [e2] at ca
      simp +contextual (maxSteps:=9^7) only [go_sem,hm,Change.pv,sideV,eqSide,side_inj,hf,hh,decide_true]
      refine ⟨by kernel_rfl,?_⟩
      refine V.call rfl rfl (by simp [dOK]) ⟨68,[],by simp only [go_sem],⟨_,rfl,rfl,rfl⟩,.inl ⟨[.row (cur.map Pair.pv),.row ([(⟨1,x.key,x.aft,0⟩ : Note)].map Note.pv)],_,.inl (by simp only [go_sem,Note.pv,zC,zB]),ca,.inr (.inl ⟨_,rfl,rfl,rfl⟩)⟩⟩ ?_
      refine V.exec 400 ?_
      simp +contextual (maxSteps:=9^7) only [go_sem,hw]
      exact ⟨cs.length - (i + 1),_,[],[],by omega,⟨i + 1,nxt,by omega,rfl,hoo,by omega,hgo,rfl,rfl⟩,by simp only [go_sem]⟩
     | false =>
      have e2 : noteC x = ⟨2,x.key,[],0⟩ := by unfold noteC; rw [if_neg (by rw [hh]; decide)]
      rw [e2] at ca
      simp +contextual (maxSteps:=9^7) only [go_sem,hm,Change.pv,sideV,eqSide,side_inj,hf,hh,decide_false]
      refine ⟨by kernel_rfl,?_⟩
      refine V.call rfl rfl (by simp [dOK]) ⟨68,[],by simp only [go_sem],⟨_,rfl,rfl,rfl⟩,.inl ⟨[.row (cur.map Pair.pv),.row ([(⟨2,x.key,[],0⟩ : Note)].map Note.pv)],_,.inl (by simp only [go_sem,Note.pv,zC,zB]),ca,.inr (.inl ⟨_,rfl,rfl,rfl⟩)⟩⟩ ?_
      refine V.exec 400 ?_
      simp +contextual (maxSteps:=9^7) only [go_sem,hw]
      exact ⟨cs.length - (i + 1),_,[],[],by omega,⟨i + 1,nxt,by omega,rfl,hoo,by omega,hgo,rfl,rfl⟩,by simp only [go_sem]⟩
    ·have hv := hbad fun h => hf (by have := h.2; unfold fitC at this; rw [hG,Prod.mk.injEq] at this; exact this)
     simp +contextual (maxSteps:=9^7) only [go_sem,hm,Change.pv,sideV,eqSide,side_inj,hf,hv]
     refine ⟨by kernel_rfl,?_⟩
     refine V.call rfl rfl (by simp [dOK]) ⟨114,[],by simp only [go_sem],⟨_,rfl,rfl,rfl⟩,.inl ⟨[.row (l.map Pair.pv)],_,.inl (by simp only [go_sem]),ccl,.inr (.inl ⟨_,rfl,rfl,rfl⟩)⟩⟩ ?_
     refine V.exec 400 ?_
     simp +contextual (maxSteps:=9^7) only [go_sem,hv]
   ·have hv := hbad fun h => hm h.1
    simp +contextual (maxSteps:=9^7) only [go_sem,hm,Change.pv,hv]
    refine ⟨by kernel_rfl,?_⟩
    refine V.call rfl rfl (by simp [dOK]) ⟨114,[],by simp only [go_sem],⟨_,rfl,rfl,rfl⟩,.inl ⟨[.row (l.map Pair.pv)],_,.inl (by simp only [go_sem]),ccl,.inr (.inl ⟨_,rfl,rfl,rfl⟩)⟩⟩ ?_
    refine V.exec 400 ?_
    simp +contextual (maxSteps:=9^7) only [go_sem,hv]
  ·have hlt' : ¬ (i : Int) < (cs.length : Int) := by omega
   have hd : cs.drop i = [] := zK (by omega)
   rw [hd,doGo] at hca
   have hv : doV l cs = (cur,0) := by unfold doV; rw [if_pos hok,← hca]
   simp +contextual (maxSteps:=9^7) only [go_sem,hlt',hv]
 ·have hv : doV l cs = (l,1) := by unfold doV; rw [if_neg hok]
  simp +contextual (maxSteps:=9^7) only [go_sem,hok,hv]
theorem batch_Right1 (x : Note) : Ct pG 159 (Zv.ops [x.pv]) (.vals [.bool (decide (¬ x.ok))]) := by
 refine Ct.of_V Tryz.func159 rfl (by simp [Zv.ops,Tryz.f159]) ?_
 refine V.exec 400 ?_
 simp +contextual (maxSteps:=9^7) only [go_sem,Tryz.f159,Note.pv]
 refine V.call rfl rfl (by simp [dOK]) ⟨108,[],by simp only [go_sem],⟨_,rfl,rfl,rfl⟩,.inl ⟨[x.pv],_,.inl (by simp only [go_sem,Note.pv]),note_Right x,.inl ⟨_,rfl,rfl,rfl,rfl⟩⟩⟩ ?_
 refine V.exec 400 ?_
 simp +contextual (maxSteps:=9^7) only [go_sem]
theorem Contains_badB (ns : List Note) (hl : ns.length ≤ 1000000) : Ct pG 106 (Zv.ops [.row (ns.map Note.pv),.fn 159 []]) (.vals [.bool (decide (¬ notesAll ns))]) := by
 unfold notesAll
 obtain ⟨r,hr,hr1,hr2,hr3⟩ := first_of (fun y => decide (¬ (Note.of y).ok)) (ns.map Note.pv)
 have hi := IndexFuncNote (ns.map Note.pv) 159 [] (fun y => decide (¬ (Note.of y).ok)) (fun y hy => by
   obtain ⟨s,_,rfl⟩ := zN.1 hy
   exact ⟨rfl,rfl⟩) (by simpa using hl) ⟨_,rfl,rfl,rfl⟩ (fun y hy => by
   obtain ⟨s,_,rfl⟩ := zN.1 hy
   rw [Note.of_pv]
   simpa using batch_Right1 s) r hr hr1 hr2
 refine Ct.of_V Tryz.func106 rfl (by simp [Zv.ops,Tryz.f106]) ?_
 refine V.exec 400 ?_
 simp +contextual (maxSteps:=9^7) only [go_sem,Tryz.f106]
 refine V.call rfl rfl (by simp [dOK]) ⟨144,[],by simp only [go_sem],⟨_,rfl,rfl,rfl⟩,.inl ⟨[.row (ns.map Note.pv),.fn 159 []],_,.inl (by simp only [go_sem]),hi,.inl ⟨_,rfl,rfl,rfl,rfl⟩⟩⟩ ?_
 refine V.exec 400 ?_
 simp +contextual (maxSteps:=9^7) only [go_sem]
 have e : (∃ y ∈ ns.map Note.pv,decide (¬ (Note.of y).ok) = true) ↔ ¬ ∀ x ∈ ns,x.ok := by
  constructor
  ·rintro ⟨y,hy,hp⟩ hc
   obtain ⟨s,hs,rfl⟩ := zN.1 hy
   rw [Note.of_pv] at hp
   simp at hp
   exact hp (hc s hs)
  ·intro h
   simp only [Classical.not_forall] at h
   obtain ⟨x,hx,hp⟩ := h
   exact ⟨x.pv,List.mem_map_of_mem hx,by rw [Note.of_pv]; simpa using hp⟩
 rw [e] at hr3
 rw [zW] at hr3
 by_cases hc : ∀ x ∈ ns,x.ok
 ·have : ¬ r < ns.length := fun h => (hr3.1 h) hc
  simp [this]
  exact hc
 ·have h2 := hr3.2 hc
  simp [h2,hc]
theorem batch_Right (ns : List Note) (hl : ns.length ≤ 9223372036854775807) : Ct pG 123 (Zv.ops [.row (ns.map Note.pv)]) (.vals [.bool (decide (batchOk ns))]) := by
 refine Ct.of_V Tryz.func123 rfl (by simp [Zv.ops,Tryz.f123]) ?_
 refine V.exec 400 ?_
 simp +contextual (maxSteps:=9^7) only [go_sem,Tryz.f123]
 by_cases h8 : ns.length ≤ 8
 ·have h8' : (ns.length : Int) ≤ 8 := by omega
  simp +contextual (maxSteps:=9^7) only [go_sem,h8']
  refine V.call rfl rfl (by simp [dOK]) ⟨106,[],by simp only [go_sem],⟨_,rfl,rfl,rfl⟩,.inl ⟨[.row (ns.map Note.pv),.fn 159 []],_,.inl (by simp only [go_sem]),Contains_badB ns (by omega),.inl ⟨_,rfl,rfl,rfl,rfl⟩⟩⟩ ?_
  refine V.exec 400 ?_
  simp +contextual (maxSteps:=9^7) only [go_sem]
  by_cases ha : notesAll ns
  ·have : batchOk ns := ⟨h8,ha⟩
   simp [ha,this]
  ·have : ¬ batchOk ns := fun h => ha h.2
   simp [ha,this]
 ·have h8' : ¬ (ns.length : Int) ≤ 8 := by omega
  have : ¬ batchOk ns := fun h => h8 h.1
  simp +contextual (maxSteps:=9^7) only [go_sem,h8',this,decide_false]
end Go.Proofs.YtfemlllmglaimaaGreat
namespace Go.Proofs.Zv
open Go Classical
structure Agree (X : Nat → Prop) (w w' : World) : Prop where
 os : w'.os = w.os
 tape : w'.tape = w.tape
 output : w'.output = w.output
 size : w'.heap.size = w.heap.size
 same : ∀ k,¬ X k → w'.heap[k]? = w.heap[k]?
theorem Agree.refl (X : Nat → Prop) (w : World) : Agree X w w := ⟨rfl,rfl,rfl,rfl,fun _ _ => rfl⟩
theorem Agree.putObj (w : World) (l : Nat) (o : Obj) : Agree (fun k => k = l) w (w.putObj l o) := ⟨rfl,rfl,rfl,putObj_size,fun k hk => putObj_get hk⟩
noncomputable def baseOf (C : Ctx) (σ : St) (w : World) (cv : Nat → Value) (n : Nat) (S : Nat → Prop) (w1 : World) : Ctx where
 w0 := w1
 F0 := fun b => FS C σ.ob cv w b ∧ isC w b
 O0 := fun b => ∃ k,Live σ.ob cv k b
 n := n
 pin := fun k => if S k ∧ σ.ob k ≠ .free then some (cv k) else none
 lvl := 0
section
variable {P : Program} {C : Ctx} {σ : St} {a : Act} {w : World} {cv : Nat → Value}
theorem Rel.base (h : Rel P C σ a w cv) {X : Nat → Prop} {w1 : World} (hX : ∀ k,X k → ¬ isC w k) (hA : Agree X w w1) {n : Nat} (S : Nat → Prop) {σ1 : St} (hob : σ1.ob = σ.ob) {a1 : Act} (hn : a1.tmps.size = n) (hd : a1.defers = [])
    (hsl : ∀ t,SRep w (FS C σ.ob cv w) cv (σ1.sl t) (a1.tmps.getD t undef)) (hm : ∀ t i,(σ1.sl t).ment i → σ.ob i ≠ .free) : Rel P (baseOf C σ w cv n S w1) σ1 a1 w1 cv := by
  obtain ⟨sl1,ob1,ck1⟩ := σ1
  obtain rfl : ob1 = σ.ob := hob
  have hF : ∀ b,(FS C σ.ob cv w b ∧ isC w b) → FS (baseOf C σ w cv n S w1) σ.ob cv w1 b := fun b hb => .inl hb
  have hS : Same (fun b => FS C σ.ob cv w b ∧ isC w b) w w1 := fun b hb => hA.same b fun hx => hX b hx hb.2
  exact {
    os := rfl,tape := rfl,output := rfl,size := Nat.le_refl _,old := fun _ _ _ => rfl
    f0 := fun b hb => ⟨by show b < w1.heap.size; rw [hA.size]; exact h.fs_lt hb.1,fun ⟨k,hl⟩ => h.fs_live hb.1 hl⟩
    o0 := fun b ⟨k,hl⟩ => by show b < w1.heap.size; rw [hA.size]; exact (h.live k b hl).2
    live := fun i b hl => ⟨.inr ⟨i,hl⟩,by rw [hA.size]; exact (h.live i b hl).2⟩
    inj := h.inj
    obs := fun i => (h.obs i).cellsOnly.mono hS hF rfl (fun _ _ => rfl) (fun hlv b hb => hA.same b fun hx => hX b hx (h.live_isC ⟨hlv,hb⟩))
    slots := fun t => (hsl t).cellsOnly.mono hS hF (fun _ _ => rfl)
    ments := hm
    mento := h.mento
    defers := by rw [hd]; exact DefOK.nil
    ntmps := hn
    pin := fun i v hv => by
      have hv : (if S i ∧ σ.ob i ≠ .free then some (cv i) else none) = some v := hv
      split at hv
      · rename_i hh; cases hv; exact ⟨hh.2,rfl⟩
      · cases hv }
theorem Rel.back (h : Rel P C σ a w cv) {X : Nat → Prop} {w1 w2 w3 : World} (hX : ∀ k,X k → k < w.heap.size ∧ ¬ isC w k) (hA : Agree X w w1) {n : Nat} {S : Nat → Prop} {σ' : St} {a' : Act} {cv' : Nat → Value}
    (h' : Rel P (baseOf C σ w cv n S w1) σ' a' w2 cv') (hB : Agree X w2 w3) (h3 : ∀ k,X k → w3.heap[k]? = w.heap[k]?) (hS : ∀ t i,(σ.sl t).ment i → S i) (hp : ∀ i v,C.pin i = some v → S i) (ck : Nat) :
    Rel P C ⟨σ.sl,σ'.ob,ck⟩ a w3 cv' ∧ (∀ b,FS C σ.ob cv w b → FS C σ'.ob cv' w3 b) ∧ (∀ b,FS (baseOf C σ w cv n S w1) σ'.ob cv' w2 b → FS C σ'.ob cv' w3 b) ∧ (∀ i,S i → σ.ob i ≠ .free → σ'.ob i ≠ .free ∧ cv' i = cv i) ∧ Same (FS C σ.ob cv w) w w3 ∧
      Same (FS (baseOf C σ w cv n S w1) σ'.ob cv' w2) w2 w3 := by
  have hpin : ∀ i,S i → σ.ob i ≠ .free → σ'.ob i ≠ .free ∧ cv' i = cv i := fun i hs hi => h'.pin i (cv i) (by show (if S i ∧ σ.ob i ≠ .free then some (cv i) else none) = _; rw [if_pos ⟨hs,hi⟩])
  have hsz1 : w1.heap.size = w.heap.size := hA.size
  have hsz : w.heap.size ≤ w2.heap.size := by rw [← hsz1]; exact h'.size
  have hsz3 : w3.heap.size = w2.heap.size := hB.size
  have hlive' : ∀ i b,Live σ'.ob cv' i b → (w.heap.size ≤ b ∨ ∃ k,Live σ.ob cv k b) ∧ b < w2.heap.size := fun i b hl => by
    have := h'.live i b hl
    rw [← hsz1]; exact this
  have hnX : ∀ i b,Live σ'.ob cv' i b → ¬ X b := fun i b hl hx => by
    rcases (hlive' i b hl).1 with h1 | ⟨k,h1⟩
    · have := (hX b hx).1; omega
    · exact (hX b hx).2 (h.live_isC h1)
  have hold : ∀ b,b < w.heap.size → (∀ k,¬ Live σ.ob cv k b) → w3.heap[b]? = w.heap[b]? := fun b hb hn => by
    by_cases hx : X b
    · exact h3 b hx
    · rw [hB.same b hx,h'.old b (by show b < w1.heap.size; omega) (fun ⟨k,hl⟩ => hn k hl)]
      exact hA.same b hx
  have hF' : ∀ b,FS (baseOf C σ w cv n S w1) σ'.ob cv' w2 b → FS C σ'.ob cv' w3 b := fun b hb => by
    have hnl := fun i => h'.fs_live (i := i) hb
    rcases hb with hb | ⟨hb,hlt,_⟩
    · rcases hb.1 with hb1 | hb1
      · exact .inl hb1
      · exact .inr ⟨hb1.1,by have := hb1.2.1; omega,hnl⟩
    · have hb : w1.heap.size ≤ b ∨ ∃ k,Live σ.ob cv k b := hb
      refine .inr ⟨?_,by omega,hnl⟩
      rcases hb with hb | ⟨k,hl⟩
      · have := h.size; exact .inl (by omega)
      · exact (h.live k b hl).1
  have hSam' : Same (FS (baseOf C σ w cv n S w1) σ'.ob cv' w2) w2 w3 := fun b hb => hB.same b fun hx => by
    rcases hb with hb | ⟨hb,_⟩
    · exact (hX b hx).2 hb.2
    · have hb : w1.heap.size ≤ b ∨ ∃ k,Live σ.ob cv k b := hb
      rcases hb with hb | ⟨k,hl⟩
      · have := (hX b hx).1; omega
      · exact (hX b hx).2 (h.live_isC hl)
  have hSam : Same (FS C σ.ob cv w) w w3 := fun b hb => hold b (h.fs_lt hb) (fun k => h.fs_live hb)
  have hnl3 : ∀ b,FS C σ.ob cv w b → ∀ i,¬ Live σ'.ob cv' i b := fun b hb i hl => by
    rcases (hlive' i b hl).1 with h1 | ⟨k,h1⟩
    · have := h.fs_lt hb; omega
    · exact h.fs_live hb h1
  have hF : ∀ b,FS C σ.ob cv w b → FS C σ'.ob cv' w3 b := fun b hb => by
    have hn := hnl3 b hb
    have hlt := h.fs_lt hb
    rcases hb with hb | hb
    · exact .inl hb
    · exact .inr ⟨hb.1,by omega,hn⟩
  refine ⟨{
    os := hB.os.trans (h'.os.trans (hA.os.trans h.os)),tape := hB.tape.trans (h'.tape.trans (hA.tape.trans h.tape)),output := hB.output.trans (h'.output.trans (hA.output.trans h.output))
    size := by have := h.size; omega
    old := fun k hk hO => by
      rw [← h.old k hk hO]
      refine hold k (Nat.lt_of_lt_of_le hk h.size) (fun i hl => ?_)
      rcases (h.live i k hl).1 with h1 | h1
      · omega
      · exact hO h1
    f0 := h.f0,o0 := h.o0
    live := fun i b hl => by
      obtain ⟨h1,h2⟩ := hlive' i b hl
      refine ⟨?_,by omega⟩
      rcases h1 with h1 | ⟨k,h1⟩
      · have := h.size; exact .inl (by omega)
      · exact (h.live k b h1).1
    inj := h'.inj
    obs := fun i => (h'.obs i).mono hSam' hF' rfl (fun _ _ => rfl) (fun hlv b hb => hB.same b (hnX i b ⟨hlv,hb⟩))
    slots := fun t => (h.slots t).mono hSam hF (fun i hi => (hpin i (hS t i hi) (h.ments t i hi)).2)
    ments := fun t i hi => (hpin i (hS t i hi) (h.ments t i hi)).1
    mento := h'.mento
    defers := h.defers.mono hF hSam
    ntmps := h.ntmps
    pin := fun i v hv => by
      obtain ⟨h1,h2⟩ := h.pin i v hv
      obtain ⟨h4,h5⟩ := hpin i (hp i v hv) h1
      exact ⟨h4,h5.trans h2⟩ },hF,hF',hpin,hSam,hSam'⟩
def Md.rnd : Md := ⟨fun _ => True,false,false⟩
def roundSt (σ0 : St) (p q : Nat) (x y : PV) (ob : Nat → Ob) (ck : Nat) : St := ⟨fun t => if t = q then .val y else if t = p then .val x else σ0.sl t,ob,ck⟩
theorem fold2 (tmps : Array Value) (p q : Nat) (vx vy : Value) : ((#[p,q] : Array Nat).zip #[vx,vy]).foldl (fun t (i,v) => t.setIfInBounds i v) tmps = (tmps.setIfInBounds p vx).setIfInBounds q vy := by
 have e : (#[p,q] : Array Nat).zip #[vx,vy] = #[(p,vx),(q,vy)] := by
  apply Array.ext'
  simp [Array.toList_zip]
 rw [e]
 simp
theorem set_getD {tmps : Array Value} {p : Nat} {v : Value} {t : Nat} (hp : p < tmps.size) : (tmps.setIfInBounds p v).getD t undef = if t = p then v else tmps.getD t undef := by
 simp only [Array.getD_eq_getD_getElem?]
 by_cases h : t = p
 ·subst h; rw [if_pos rfl]; simp [hp]
 ·rw [if_neg h,Array.getElem?_setIfInBounds_ne (fun e => h e.symm)]
theorem yield_sound {τ : St} {ab : Act} {W : World} (hr : Rel P C τ ab W cv) {l : Nat} {rec : Loop} (hl : W.heap[l]? = some (.loop rec)) (hst : rec.state = .ready) (hpe : rec.pending = none)
  {σ0 : St} {n p q : Nat} (hps : rec.params = #[p,q]) (hn : rec.tmps.size = n) (hpn : p < n) (hqn : q < n) (hsl : ∀ t,SRep W (FS C τ.ob cv W) cv (σ0.sl t) (rec.tmps.getD t undef)) (hm : ∀ t i,(σ0.sl t).ment i → τ.ob i ≠ .free)
  {vx vy : Value} {px py : PV} (hx : Rep W (FS C τ.ob cv W) px vx) (hy : Rep W (FS C τ.ob cv W) py vy) {J1 J2 : St → Prop} (ck0 : Nat)
  (hw1 : V .rnd P n (fun _ => False) [.code rec.assign,.stop J1] (roundSt σ0 p q px py τ.ob ck0)) (hw2 : ∀ τ1,J1 τ1 → V .rnd P n J2 [.code rec.body] τ1) (ckr : Nat) (c : Frame) (cs : List Frame) :
  ∃ τ2 w3 cv3,J2 τ2 ∧ Rel P C ⟨τ.sl,τ2.ob,ckr⟩ ab w3 cv3 ∧
   Steps P (lone (Frame.round l rec.fn ((rec.params.zip #[vx,vy]).foldl (fun t (i,v) => t.setIfInBounds i v) rec.tmps) rec.assign rec.body .normal) (c :: cs) W) (lone (c.finish (.bool true)) cs w3) := by
 rw [hps,fold2]
 obtain ⟨b,hbr,hbk,hb0⟩ : ∃ b : Frame,b.roundOf = some l ∧ b.kind = .normal ∧ ∀ tmps,Frame.round l rec.fn tmps rec.assign rec.body .normal = b.atR { tmps := tmps,defers := [] } [.code rec.assign,.beginRound,.code rec.body] :=
  ⟨{ (default : Frame) with fn := rec.fn,kind := .normal,roundOf := some l },rfl,rfl,fun tmps => by simp [Frame.round,Frame.atR]⟩
 rw [hb0]
 have hbase : Rel P (baseOf C τ W cv n (fun _ => True) W) (roundSt σ0 p q px py τ.ob ck0) { tmps := (rec.tmps.setIfInBounds p vx).setIfInBounds q vy,defers := [] } W cv := by
  refine hr.base (X := fun _ => False) (fun _ hx => hx.elim) (Agree.refl _ _) _ (σ1 := roundSt σ0 p q px py τ.ob ck0) (a1 := { tmps := (rec.tmps.setIfInBounds p vx).setIfInBounds q vy,defers := [] }) rfl (by show ((rec.tmps.setIfInBounds p vx).setIfInBounds q vy).size = n; simp [hn]) rfl (fun t => ?_) (fun t i hi => ?_)
  ·have e1 : ((rec.tmps.setIfInBounds p vx).setIfInBounds q vy).getD t undef = if t = q then vy else if t = p then vx else rec.tmps.getD t undef := by
    rw [set_getD (by simp; omega),set_getD (by omega)]
   show SRep W _ cv (if t = q then .val py else if t = p then .val px else σ0.sl t) (((rec.tmps.setIfInBounds p vx).setIfInBounds q vy).getD t undef)
   rw [e1]
   split
   ·exact hy
   ·split
    ·exact hx
    ·exact hsl t
  ·have hi : (if t = q then AV.val py else if t = p then .val px else σ0.sl t).ment i := hi
   split at hi
   ·exact hi.elim
   ·split at hi
    ·exact hi.elim
    ·exact hm t i hi
 have hncl : ¬ isC W l := by rintro ⟨c,t,g,hc⟩; rw [hl] at hc; cases hc
 have hlW : l < W.heap.size := (Array.getElem?_eq_some_iff.1 hl).1
 obtain ⟨τ1,a1,w1,cv1,hJ1,hr1,hs1⟩ := V.seg (md := .rnd) trivial (fun h => by cases h) hw1 hbase b (c :: cs) (fun h => by cases h) [.beginRound,.code rec.body]
 have hl1 : w1.heap[l]? = some (.loop rec) := by
  rw [← hl]; exact hr1.old l hlW (fun ⟨k,hk⟩ => hncl (hr.live_isC hk))
 have hncl1 : ¬ isC w1 l := by rintro ⟨c,t,g,hc⟩; rw [hl1] at hc; cases hc
 have hlw1 : l < w1.heap.size := (Array.getElem?_eq_some_iff.1 hl1).1
 have hs2 := stepR_beginRound (P := P) (b := b) (a := a1) (k := [.code rec.body]) (cs := c :: cs) hbr (run_beginRound hl1 hst)
 have hdef1 : a1.defers = [] := hr1.defers.1 rfl
 have hX : ∀ k,(fun k => k = l) k → k < w1.heap.size ∧ ¬ isC w1 k := fun k hk => by cases hk; exact ⟨hlw1,hncl1⟩
 have hbase2 := hr1.base (X := fun k => k = l) (fun k hk => (hX k hk).2) (Agree.putObj w1 l (.loop { rec with state := .busy })) (n := n) (fun _ => True) (σ1 := τ1) rfl (a1 := a1) hr1.ntmps hdef1 hr1.slots hr1.ments
 obtain ⟨τ2,a2,w2,cv2,todo,⟨hJ2,hlv⟩,hr2,hs3⟩ := V.sound (md := .rnd) (Z := fun σ todo => J2 σ ∧ leaves false todo) trivial (fun h => by cases h) (fun _ _ h1 h2 => ⟨h1,h2⟩) (hw2 τ1 hJ1) _ (.code _ .nil) a1 _ cv1 hbase2 b (c :: cs) (fun h => by cases h)
 obtain rfl : todo = [] := by
  match todo,hlv with
  | [],_ => rfl
  | .code .ret :: _,h => cases h
 have hl2 : w2.heap[l]? = some (.loop { rec with state := .busy }) := by
  rw [hr2.old l (by show l < (w1.putObj l _).heap.size; rw [putObj_size]; exact hlw1) (fun ⟨k,hk⟩ => hncl1 (hr1.live_isC hk))]
  exact World.putObj_heap_same hlw1
 have hs4 := stepR_round_end (P := P) (a := a2) (c := c) (cs := cs) hbr hbk (run_endRound none hl2)
 have hrec : ({ { rec with state := .busy } with state := if (none : Option Code).isNone = true then LoopState.ready else .done,pending := none } : Loop) = rec := by
  cases rec; simp only at hst hpe; subst hst; subst hpe; rfl
 have hl2s : l < w2.heap.size := (Array.getElem?_eq_some_iff.1 hl2).1
 have hback := hr1.back hX (Agree.putObj w1 l (.loop { rec with state := .busy })) hr2 (Agree.putObj w2 l (.loop rec)) (fun k hk => by cases hk; rw [World.putObj_heap_same hl2s,hl1]) (fun _ _ _ => trivial) (fun _ _ _ => trivial) ckr
 have hback2 := hr.back (X := fun _ => False) (fun _ hx => hx.elim) (Agree.refl _ _) hback.1 (Agree.refl _ _) (fun _ hx => hx.elim) (S := fun _ => True) (fun _ _ _ => trivial) (fun _ _ _ => trivial) ckr
 refine ⟨τ2,_,cv2,hJ2,hback2.1,?_⟩
 refine hs1.trans (.head hs2 (hs3.trans (.one ?_)))
 rw [hs4]
 simp only [hrec]
 rfl
def YK (P : Program) (md : Md) (S : Nat → Prop) (σ0 : St) (l : Nat) (rec : Loop) : Prop :=
 ∀ C,md.K C → ∀ τ a W cv,Rel P C τ a W cv → W.heap[l]? = some (.loop rec) ∧ (∀ t,SRep W (FS C τ.ob cv W) cv (σ0.sl t) (rec.tmps.getD t undef)) ∧ (∀ t i,(σ0.sl t).ment i → τ.ob i ≠ .free) ∧ (∀ i v,C.pin i = some v → S i)
theorem SemOp.yield {md : Md} {nb : Nat} {all : List Oper} {i : Nat} {o : Oper} {τ : St} {J : St → Prop} {fx x y : Operand} {ts : Array TypeId} {l : Nat} {px py : PV} {rec : Loop} {σ0 : St} {n p q : Nat} {S : Nat → Prop}
  (hK : YK P md S σ0 l rec) (hst : rec.state = .ready) (hpe : rec.pending = none) (hps : rec.params = #[p,q]) (hn : rec.tmps.size = n) (hpn : p < n) (hqn : q < n)
  (hg : o.guard = none) (ho : o.op = .call { callee := .value fx,args := #[x,y],argTypes := ts }) (hfx : τ.ev fx = .val (.yld l)) (hx : τ.ev x = .val px) (hy : τ.ev y = .val py) (hd : dOK nb o.dst)
  {J1 J2 : St → Prop} (ck0 : Nat) (hw1 : V .rnd P n (fun _ => False) [.code rec.assign,.stop J1] (roundSt σ0 p q px py τ.ob ck0)) (hw2 : ∀ τ1,J1 τ1 → V .rnd P n J2 [.code rec.body] τ1) (ckr : Nat)
  (hfin : ∀ τ2,J2 τ2 → ∃ ls os ρ ck,Match P ((⟨τ.sl,τ2.ob,ckr⟩ : St).put o.dst (.val (.bool true))) ρ ls os ∧ (∀ i,S i → ρ[i]? = some (some i)) ∧ J (litSt ls os ck)) : SemOp P md nb all i o τ J := by
 intro C a w cv hKC hCn _ hr hoi b cs m rest
 obtain ⟨hl,hsl,hm,hpin⟩ := hK C hKC τ a w cv hr
 have hvf := (hr.ev fx).1
 have hvx := (hr.ev x).1
 have hvy := (hr.ev y).1
 rw [hfx] at hvf
 rw [hx] at hvx
 rw [hy] at hvy
 have hfe : a.eval fx = .func (.yield l) #[] #[] := by
  have hvf : Rep w (FS C τ.ob cv w) (.yld l) (a.eval fx) := hvf
  generalize a.eval fx = u at hvf
  cases hvf; rfl
 obtain ⟨τ2,w3,cv3,hJ2,hrel,hsteps⟩ := yield_sound hr hl hst hpe hps hn hpn hqn hsl hm hvx hvy ck0 hw1 hw2 ckr (b.atR a (.inRegion all.toArray (i :: rest) :: m)) cs
 obtain ⟨ls,os,ρ,ck,hM,hS,hJ⟩ := hfin τ2 hJ2
 have hput := put_rel hrel (d := o.dst) (by rw [hCn]; exact hd) (v := .val (.bool true)) (u := .bool true) (Rep.bool _) (fun i hi => hi.elim)
 obtain ⟨cv4,hren⟩ := hput.rename hM ck (fun i v hv => hS i (hpin i v hv))
 refine ⟨_,_,_,cv4,hJ,hren,?_⟩
 have ho' : all.toArray[i]? = some o := by simpa using hoi
 have hw : Region.wanted o (yielded all.toArray a.tmps) = true := by unfold Region.wanted; rw [hg]
 have hgo := stepGR_op (P := P) (b := b) (k := m) (cs := cs) (w := w) (rest := rest) ho' hw
 have hrun : (execOp a.eval o).run P w = .ok (.round l rec.fn ((rec.params.zip #[a.eval x,a.eval y]).foldl (fun t (i,v) => t.setIfInBounds i v) rec.tmps) rec.assign rec.body) w := by
  have hy := run_yield (P := P) (args := #[a.eval x,a.eval y]) hl (by rw [hps]; rfl)
  simp only [execOp,ho,resolve,Sem.run_bind,Deferred.ofValue,hfe,Sem.run_pure,Result.andThen_ok,invoke]
  simpa using hy
 have hrun' := semAt_run b.roundOf hrun (fun d => by simp)
 have hfin : (b.atR a (.inRegion all.toArray (i :: rest) :: m)).finish (.bool true) = b.atR (a.put o.dst (.bool true)) (.inRegion all.toArray rest :: m) := by
  rw [Frame.finish_atR,ho']; rfl
 have henter : step P (lone (b.atR a (.inRegion all.toArray (i :: rest) :: m)) cs w) =
   .next (lone (Frame.round l rec.fn ((rec.params.zip #[a.eval x,a.eval y]).foldl (fun t (i,v) => t.setIfInBounds i v) rec.tmps) rec.assign rec.body .normal) (b.atR a (.inRegion all.toArray (i :: rest) :: m) :: cs) w) :=
  step_lone_go (by rw [hgo]; simp [stepG.apply,hrun'])
 rw [hfin] at hsteps
 exact .head henter hsteps
theorem SemCode.range2 {n : Nat} {σ0 : St} {gop : Operand} {p q : Nat} {assign body : Code} {fB : FuncId} {fnB : Func} {cB : Code} {x0 : PV} {S : Nat → Prop} {JE : (Nat → Ob) → Prop}
  (hg : σ0.ev gop = .val (.fn fB [x0])) (hent : Entered P fB) (hfB : P.funcs[fB]? = some fnB) (hbB : fnB.body = some cB) (hres : fnB.results = #[]) (hN : 2 ≤ fnB.ntmps) (hpn : p < n) (hqn : q < n)
  (hS : ∀ t i,(σ0.sl t).ment i → S i) (hSf : ∀ i,S i → σ0.ob i ≠ .free) (ckB : Nat)
  (hit : ∀ (l : Nat) (rec : Loop) (md : Md),rec.state = .ready → rec.pending = none → rec.params = #[p,q] → rec.tmps.size = n → rec.assign = assign → rec.body = body → md.pl = false → md.rt = true → YK P md S σ0 l rec →
   V md P fnB.ntmps (fun σ' => JE σ'.ob) [.code cB] ⟨fun t => if t = 0 then .val (.yld l) else if t = 1 then .val x0 else .any,σ0.ob,ckB⟩) :
  SemCode P .pln n (.rangeFunc gop #[p,q] assign body) σ0 (fun σ' => σ'.sl = σ0.sl ∧ JE σ'.ob) := by
 intro C a w cv hKC hCn hpin hr b cs m hb
 have hlvl : C.lvl = 2 := hKC
 have hvg := (hr.ev gop).1
 rw [hg] at hvg
 obtain ⟨cvs,hge,hcaps⟩ : ∃ cvs : List Value,a.eval gop = .func (.func fB) #[] ⟨cvs⟩ ∧ Reps w (FS C σ0.ob cv w) [x0] cvs := by
  generalize a.eval gop = u at hvg
  have hvg : Rep w (FS C σ0.ob cv w) (.fn fB [x0]) u := hvg
  cases hvg with
  | fn _ _ vs hl hh => exact ⟨vs,rfl,hl,hh⟩
 obtain ⟨v0,rfl⟩ : ∃ v0,cvs = [v0] := by
  match cvs,hcaps.1 with
  | [v0],_ => exact ⟨v0,rfl⟩
 have hx0 : Rep w (FS C σ0.ob cv w) x0 v0 := hcaps.tail.1
 obtain ⟨rec,hrec⟩ : ∃ rec : Loop,rec = { state := .ready,pending := none,fn := b.fn,tmps := a.tmps,params := #[p,q],assign,body,defers := w.heap.size } := ⟨_,rfl⟩
 obtain ⟨w1,hw1⟩ : ∃ w1,w1 = (w.alloc (.deferred (some []))).alloc (.loop rec) := ⟨_,rfl⟩
 have hsz1 : w1.heap.size = w.heap.size + 2 := by rw [hw1]; simp
 have hold1 : ∀ k,k < w.heap.size → w1.heap[k]? = w.heap[k]? := fun k hk => by
  rw [hw1,heap_alloc_old _ _ k (by simp; omega),heap_alloc_old _ _ k hk]
 have hD1 : w1.heap[w.heap.size]? = some (.deferred (some [])) := by rw [hw1]; exact heap_alloc2_old w _ _
 have hL1 : w1.heap[w.heap.size + 1]? = some (.loop rec) := by
  rw [hw1]; exact heap_alloc2_new w _ _
 obtain ⟨hr1,hF1,hnew1⟩ := hr.more (w' := w1) (by rw [hw1]; rfl) (by rw [hw1]; rfl) (by rw [hw1]; rfl) (by omega) hold1
 have hncl1 : ¬ isC w1 (w.heap.size + 1) := by rintro ⟨c,t,g,hc⟩; rw [hL1] at hc; cases hc
 have hnD1 : ¬ isC w1 w.heap.size := by rintro ⟨c,t,g,hc⟩; rw [hD1] at hc; cases hc
 obtain ⟨mk,hmk⟩ : ∃ mk : Deferred,mk = { target := .collected w.heap.size,args := #[] } := ⟨_,rfl⟩
 have hdef : DefOK C (FS C σ0.ob cv w1) w1 (mk :: a.defers) := by
  have hd := hr1.defers
  refine ⟨fun e => (by rw [hlvl] at e; cases e),List.nodup_cons.2 ⟨fun hin => ?_,hd.2.1⟩,fun d hdm => ?_⟩
  ·obtain ⟨D,h1,h2,h3,_⟩ := hr.defers.2.2 mk hin
   rw [hmk] at h1
   have : D = w.heap.size := by simpa using h1.symm
   subst this
   have := hr.fs_lt h2
   omega
  ·rcases List.mem_cons.1 hdm with rfl | hdm
   ·exact ⟨w.heap.size,hmk,hnew1 _ (Nat.le_refl _) (by omega),hD1,fun _ => hr.size⟩
   ·exact hd.2.2 d hdm
 have hr2 := hr1.withDefers hdef
 obtain ⟨CB,hCB⟩ : ∃ CB,CB = baseOf C σ0 w1 cv fnB.ntmps S w1 := ⟨_,rfl⟩
 have hg0 : (((⟨[.func (.yield (w.heap.size + 1)) #[] #[],v0]⟩ : Array Value) ++ Array.replicate (fnB.ntmps - 2) undef).getD 0 undef) = .func (.yield (w.heap.size + 1)) #[] #[] := by
  rw [Array.getD_eq_getD_getElem?,Array.getElem?_append_left (by simp)]; rfl
 have hg1 : (((⟨[.func (.yield (w.heap.size + 1)) #[] #[],v0]⟩ : Array Value) ++ Array.replicate (fnB.ntmps - 2) undef).getD 1 undef) = v0 := by
  rw [Array.getD_eq_getD_getElem?,Array.getElem?_append_left (by simp)]; rfl
 have hbase : Rel P CB ⟨fun t => if t = 0 then .val (.yld (w.heap.size + 1)) else if t = 1 then .val x0 else .any,σ0.ob,ckB⟩
   { tmps := (⟨[.func (.yield (w.heap.size + 1)) #[] #[],v0]⟩ : Array Value) ++ Array.replicate (fnB.ntmps - 2) undef,defers := [] } w1 cv := by
  rw [hCB]
  refine hr2.base (X := fun _ => False) (fun _ hx => hx.elim) (Agree.refl _ _) _ (σ1 := ⟨fun t => if t = 0 then .val (.yld (w.heap.size + 1)) else if t = 1 then .val x0 else .any,σ0.ob,ckB⟩)
   (a1 := { tmps := (⟨[.func (.yield (w.heap.size + 1)) #[] #[],v0]⟩ : Array Value) ++ Array.replicate (fnB.ntmps - 2) undef,defers := [] }) rfl (by simp; omega) rfl (fun t => ?_) (fun t i hi => ?_)
  ·show SRep w1 _ cv (if t = 0 then .val (.yld (w.heap.size + 1)) else if t = 1 then .val x0 else .any) _
   split
   ·rename_i e; subst e; rw [hg0]; exact Rep.yld _
   ·split
    ·rename_i e; subst e; rw [hg1]
     exact Rep.mono hx0 (fun b hb => hold1 b (hr.fs_lt hb)) hF1
    ·trivial
  ·have hi : (if t = 0 then AV.val (.yld (w.heap.size + 1)) else if t = 1 then .val x0 else .any).ment i := hi
   split at hi
   ·exact hi.elim
   ·split at hi <;> exact hi.elim
 have hYK : YK P ⟨fun C => C = CB,false,true⟩ S σ0 (w.heap.size + 1) rec := by
  intro C' hC' τ a' W cv' hτ
  have hC' : C' = CB := hC'
  subst hC'
  have hC'' := hCB
  have hFb : ∀ bb,(FS C σ0.ob cv w1 bb ∧ isC w1 bb) → FS C' τ.ob cv' W bb := fun bb hbb => by rw [hC''] ; exact .inl hbb
  have hw0 : C'.w0 = w1 := by rw [hC'']; rfl
  have hO0 : ∀ bb,C'.O0 bb ↔ ∃ k,Live σ0.ob cv k bb := fun bb => by rw [hC'']; rfl
  have hSm : Same (fun bb => FS C σ0.ob cv w1 bb ∧ isC w1 bb) w1 W := fun bb hbb => by
   have := hτ.old bb (by rw [hw0]; exact hr1.fs_lt hbb.1) (fun hO => by obtain ⟨k,hk⟩ := (hO0 bb).1 hO; exact hr1.fs_live hbb.1 hk)
   rw [this,hw0]
  have hpinS : ∀ i,S i → τ.ob i ≠ .free ∧ cv' i = cv i := fun i hi => hτ.pin i (cv i) (by rw [hC'']; show (if S i ∧ σ0.ob i ≠ .free then some (cv i) else none) = _; rw [if_pos ⟨hi,hSf i hi⟩])
  refine ⟨?_,fun t => ?_,fun t i hi => (hpinS i (hS t i hi)).1,fun i v hv => ?_⟩
  ·have := hτ.old (w.heap.size + 1) (by rw [hw0]; omega) (fun hO => by obtain ⟨k,hk⟩ := (hO0 _).1 hO; exact hncl1 (hr1.live_isC hk))
   rw [this,hw0]; exact hL1
  ·have := (hr1.slots t).cellsOnly.mono (cv' := cv') hSm hFb (fun i hi => (hpinS i (hS t i hi)).2)
   rw [hrec]; exact this
  ·have hv : (baseOf C σ0 w1 cv fnB.ntmps S w1).pin i = some v := by rw [← hC'']; exact hv
   have hv : (if S i ∧ σ0.ob i ≠ .free then some (cv i) else none) = some v := hv
   split at hv
   ·rename_i hh; exact hh.1
   ·cases hv
 have hwalk := hit (w.heap.size + 1) rec ⟨fun C => C = CB,false,true⟩ (by rw [hrec]) (by rw [hrec]) (by rw [hrec]) (by rw [hrec]; exact hr.ntmps.trans hCn) (by rw [hrec]) (by rw [hrec]) rfl rfl hYK
 have hCBn : CB.n = fnB.ntmps := by rw [hCB]; rfl
 rw [← hCBn] at hwalk
 obtain ⟨bB,hbB1,hbB2,hbB3,henter⟩ : ∃ bB : Frame,bB.roundOf = none ∧ bB.kind = .normal ∧ bB.fn = fB ∧ Frame.enter P fB ⟨[.func (.yield (w.heap.size + 1)) #[] #[],v0]⟩ .normal =
   bB.atR { tmps := (⟨[.func (.yield (w.heap.size + 1)) #[] #[],v0]⟩ : Array Value) ++ Array.replicate (fnB.ntmps - 2) undef,defers := [] } [.code cB] :=
  ⟨{ (default : Frame) with fn := fB,kind := .normal,roundOf := none },rfl,rfl,rfl,by simp [Frame.enter,Frame.atR,hfB,hbB]⟩
 obtain ⟨c0,hc0⟩ : ∃ c0 : Frame,c0 = b.atR { a with defers := [mk] ++ a.defers } (.inRangeFunc (w.heap.size + 1) :: m) := ⟨_,rfl⟩
 obtain ⟨σ',a',w2,cv2,todo,⟨hJE,hlv⟩,hr3,hs3⟩ := V.sound (md := ⟨fun C => C = CB,false,true⟩) (Z := fun σ todo => JE σ.ob ∧ leaves true todo) rfl (fun h => by cases h) (fun _ _ h1 h2 => ⟨h1,h2⟩) hwalk _ (.code _ .nil) _ w1 cv hbase bB (c0 :: cs) (fun _ => hbB1)
 have hs4 := leave_steps (P := P) hbB1 (a := a') hlv (c0 :: cs) w2
 have hdefB : a'.defers = [] := hr3.defers.1 (by rw [hCB]; rfl)
 have hleave : ({ bB.atR a' todo with mode := .returning } : Frame).leaving P w2 (.returned (tupV [])) := by
  refine ⟨rfl,hdefB,hbB2,fnB,by show P.funcs[bB.fn]? = _; rw [hbB3]; exact hfB,?_⟩
  exact results_readR fnB _ (us := []) (by rw [hres]; simp)
 have hs5 := step_leave_returned (c := c0) (cs := cs) hleave
 have hfin5 : c0.finish (tupV []) = b.atR { a with defers := [mk] ++ a.defers } (.endRangeFunc (w.heap.size + 1) :: m) := by rw [hc0]; exact finish_atR_inRangeFunc _ _
 rw [hfin5] at hs5
 rw [hCB] at hr3
 have hL2 : w2.heap[w.heap.size + 1]? = some (.loop rec) := by
  have := hr3.old (w.heap.size + 1) (by show _ < w1.heap.size; omega) (fun ⟨k,hk⟩ => hncl1 (hr1.live_isC hk))
  rw [this]; exact hL1
 have hback := hr2.back (X := fun _ => False) (fun _ hx => hx.elim) (Agree.refl _ _) hr3 (Agree.refl _ _) (fun _ hx => hx.elim) hS (fun i v hv => by rw [hpin i] at hv; cases hv) ckB
 have hturn := hback.1.turn (l := w.heap.size + 1) (o' := .loop { rec with state := .exhausted }) (by have := hr.size; omega) (by rintro ⟨c,t,g,hc⟩; rw [hL2] at hc; cases hc) (fun d hd => by
  rcases List.mem_cons.1 hd with rfl | hd
  ·rw [hmk]; simp
  ·obtain ⟨D,h1,h2,_⟩ := hr.defers.2.2 d hd
   rw [h1]
   have := hr.fs_lt h2
   intro e
   have e : D = w.heap.size + 1 := by simpa using e
   omega)
 have hend := run_endLoop (P := P) hL2 (by rw [hrec]; simp)
 have hs6 := stepR_endRangeFunc (P := P) (b := b) (a := { a with defers := [mk] ++ a.defers }) (k := m) (cs := cs) hend
 refine ⟨⟨σ0.sl,σ'.ob,ckB⟩,{ a with defers := mk :: a.defers },_,cv2,⟨rfl,hJE⟩,hturn,?_⟩
 have hs0 := stepR_rangeFunc (P := P) (b := b) (a := a) (k := m) (cs := cs) (w := w) (g := gop) (ps := #[p,q]) (assign := assign) (body := body) (l := w.heap.size + 1) (mark := [mk]) (w₁ := w1) (w₁' := w1) (w₂ := w1)
  (d := { target := .fn (.func fB) #[v0],args := #[.func (.yield (w.heap.size + 1)) #[] #[]] }) (f := fB) (args := ⟨[.func (.yield (w.heap.size + 1)) #[] #[],v0]⟩)
  (by rw [hb,run_enterLoop_outer,hw1,hrec,hmk]) (by simp only [resolve,Sem.run_bind,Deferred.ofValue,hge,Sem.run_pure,Result.andThen_ok]; simp [Act.eval]) (by
   obtain ⟨fn,hf,hn,hbn⟩ := hent
   simp only [invoke,callFunc,Sem.run_bind,run_program,hf,hn,hbn,Bool.false_eq_true,if_false,Result.andThen_ok]
   rfl)
 rw [henter] at hs0
 rw [← hc0] at hs0
 refine .head hs0 (hs3.trans (hs4.trans (.head hs5 (.one ?_))))
 rw [hs6]
 have hpend : rec.pending = none := by rw [hrec]
 rw [hpend]
 rfl
theorem lit_sl_cons (x : Nat × AV) (ls : List (Nat × AV)) (os : List Ob) (ck t : Nat) : (litSt (x :: ls) os ck).sl t = if t = x.1 then x.2 else (litSt ls os ck).sl t := by
 show (match (x :: ls).find? (fun y => y.1 == t) with | some y => y.2 | none => AV.any) = _
 rw [List.find?_cons]
 by_cases h : t = x.1
 ·subst h; simp
 ·have : (x.1 == t) = false := by simpa using fun e => h e.symm
  rw [this,if_neg h]; rfl
theorem lit_ment {ls : List (Nat × AV)} {os : List Ob} {ck t i : Nat} (h : ((litSt ls os ck).sl t).ment i) : ∃ x ∈ ls,x.2.ment i := by
 induction ls with
 | nil => exact h.elim
 | cons x ls ih =>
  rw [lit_sl_cons] at h
  split at h
  ·exact ⟨x,List.mem_cons_self ..,h⟩
  ·obtain ⟨y,hy,hm⟩ := ih h
   exact ⟨y,List.mem_cons_of_mem _ hy,hm⟩
theorem roundSt_lit (ls : List (Nat × AV)) (os0 : List Ob) (c p q : Nat) (x y : PV) (ob : Nat → Ob) (os : List Ob) (hob : ob = (litSt [] os 0).ob) (ck : Nat) : roundSt (litSt ls os0 c) p q x y ob ck = litSt ((q,.val y) :: (p,.val x) :: ls) os ck := by
 refine St.eq_of (fun t => ?_) (fun k => by rw [show (roundSt (litSt ls os0 c) p q x y ob ck).ob = ob from rfl,hob]; rfl) rfl
 rw [lit_sl_cons,lit_sl_cons]
 rfl
theorem SemCode.rangeL {n : Nat} {ls : List (Nat × AV)} {os : List Ob} {ck : Nat} {gop : Operand} {p q : Nat} {assign body : Code} {fB : FuncId} {fnB : Func} {cB : Code} {x0 : PV} (S : Nat → Prop) (JE : (Nat → Ob) → Prop)
  (hg : (litSt ls os ck).ev gop = .val (.fn fB [x0])) (hent : Entered P fB) (hfB : P.funcs[fB]? = some fnB) (hbB : fnB.body = some cB) (hres : fnB.results = #[]) (hN : 2 ≤ fnB.ntmps) (hpn : p < n) (hqn : q < n)
  (hS : ∀ x ∈ ls,∀ i,x.2.ment i → S i) (hSf : ∀ i,S i → (litSt ls os ck).ob i ≠ .free) (ckB : Nat)
  (hit : ∀ (l : Nat) (rec : Loop) (md : Md),rec.state = .ready → rec.pending = none → rec.params = #[p,q] → rec.tmps.size = n → rec.assign = assign → rec.body = body → md.pl = false → md.rt = true → YK P md S (litSt ls os ck) l rec →
   V md P fnB.ntmps (fun σ' => JE σ'.ob) [.code cB] (litSt [(0,.val (.yld l)),(1,.val x0)] os ckB)) :
  SemCode P .pln n (.rangeFunc gop #[p,q] assign body) (litSt ls os ck) (fun σ' => σ'.sl = (litSt ls os ck).sl ∧ JE σ'.ob) := by
 refine SemCode.range2 (S := S) hg hent hfB hbB hres hN hpn hqn (fun t i hi => by obtain ⟨x,hx,hm⟩ := lit_ment hi; exact hS x hx i hm) hSf ckB fun l rec md h1 h2 h3 h4 h5 h6 h7 h8 h9 => ?_
 have := hit l rec md h1 h2 h3 h4 h5 h6 h7 h8 h9
 have e : (⟨fun t => if t = 0 then .val (.yld l) else if t = 1 then .val x0 else .any,(litSt ls os ck).ob,ckB⟩ : St) = litSt [(0,.val (.yld l)),(1,.val x0)] os ckB :=
  St.eq_of (fun t => by rw [lit_sl_cons,lit_sl_cons]; rfl) (fun k => rfl) rfl
 rw [e]; exact this
end
end Go.Proofs.Zv
namespace Go.Proofs.YtfemlllmglaimaaGreat
open Go Go.Proofs Go.Proofs.Zv Go.Proofs.YtfemlllmglaimaaGreat.Ty
open Go.Proofs.Tryz renaming prog → pG
open List renaming getElem?_eq_getElem → zA, map_nil → zB, map_cons → zC, take_of_length_le → zD, mem_of_getElem? → zE, mem_cons_self → zG, mem_cons_of_mem → zH, mem_cons → zI, length_append → zJ, drop_eq_nil_of_le → zK, take_add_one → zL, map_append → zM, mem_map → zN, mem_append → zO, eq_nil_of_length_eq_zero → zP, getElem?_eq_some_iff → zQ, getElem?_map → zS, length_cons → zT, length_take → zU, filter_append → zV, length_map → zW
open Nat renaming zero_le → zF, le_refl → zR
def turnC (c : Change) : Change := ⟨c.seq,c.key,c.has,c.aft,c.had,c.bef⟩
set_option maxHeartbeats 4000000 in
theorem change_turned (c : Change) : Ct pG 143 (Zv.ops [c.pv]) (.vals [(turnC c).pv]) := by
 refine Ct.of_V Tryz.func143 rfl (by simp [Zv.ops,Tryz.f143]) ?_
 refine V.exec 400 ?_
 simp +contextual (maxSteps:=9^7) only [go_sem,Tryz.f143,Change.pv,turnC]
 rfl
theorem Backward (xs : List PV) : Ct pG 142 (Zv.ops [.row xs]) (.vals [.fn 172 [.ptr (.row xs)]]) := by
 refine Ct.of_V Tryz.func142 rfl (by simp [Zv.ops,Tryz.f142]) ?_
 refine V.exec 400 ?_
 simp +contextual (maxSteps:=9^7) only [go_sem,Tryz.f142]
def undoV (l : List Pair) (cs : List Change) : List Pair × Int := doV l (cs.reverse.map turnC)
def backs (cs : List Change) (k : Nat) : List Change := (cs.reverse.take k).map turnC
theorem backs_succ (cs : List Change) (k : Nat) {x : Change} (h : cs[cs.length - 1 - k]? = some x) (hk : k < cs.length) : backs cs (k + 1) = backs cs k ++ [turnC x] := by
 unfold backs
 have : cs.reverse[k]? = some x := by rw [List.getElem?_reverse hk]; exact h
 rw [zL,this]; simp
theorem backs_all (cs : List Change) : backs cs cs.length = cs.reverse.map turnC := by unfold backs; rw [zD (by simp)]
theorem backs_zero (cs : List Change) : backs cs 0 = [] := rfl
def undoOs (cs : List Change) (k : Nat) : List Ob := [.box false [.ref 1],.row 89 ((backs cs k).map Change.pv)]
set_option maxRecDepth 10000 in
set_option maxHeartbeats 16000000 in
theorem change_Undo (l : List Pair) (cs : List Change) (hl : l.length ≤ 200000) (hn : cs.length ≤ 200000) : Ct pG 105 (Zv.ops [.row (l.map Pair.pv),.row (cs.map Change.pv)]) (.vals [.row ((undoV l cs).1.map Pair.pv),.int .i64 (undoV l cs).2]) := by
 refine Ct.of_V Tryz.func105 rfl (by simp [Zv.ops,Tryz.f105]) ?_
 refine V.exec 400 ?_
 simp +contextual (maxSteps:=9^7) only [go_sem,Tryz.f105]
 refine V.call rfl rfl (by simp [dOK]) ⟨142,[],by simp only [go_sem],⟨_,rfl,rfl,rfl⟩,.inl ⟨[.row (cs.map Change.pv)],_,.inl (by simp only [go_sem]),Backward (cs.map Change.pv),.inr (.inl ⟨_,rfl,rfl,rfl⟩)⟩⟩ ?_
 refine V.exec 400 ?_
 simp +contextual (maxSteps:=9^7) only [go_sem]
 refine V.cut 0 [(0,.val (.row (l.map Pair.pv))),(6,.adr 0 0),(10,.val (.fn 172 [.ptr (.row (cs.map Change.pv))]))] (undoOs cs 0) [some 4,none] (by simp only [go_sem,undoOs,backs_zero,zB]; exact ⟨_,rfl,by decide⟩) ?_
 refine V.sem _ (SemCode.rangeL (x0 := .ptr (.row (cs.map Change.pv))) (fun i => i = 0) (fun ob => ob = (litSt [] (undoOs cs cs.length) 0).ob) (by simp only [go_sem]) ⟨_,rfl,rfl,rfl⟩ Tryz.func172 rfl rfl (by simp [Tryz.f172]) (by decide) (by decide) ?_ ?_ 0 ?_) ?_
 ·intro x hx i hi
  simp only [zI,List.not_mem_nil,or_false] at hx
  rcases hx with rfl | rfl | rfl
  ·exact hi.elim
  ·exact hi.symm
  ·exact hi.elim
 ·rintro i rfl
  simp [litSt,undoOs]
 ·intro rl rec md h1 h2 h3 h4 h5 h6 h7 h8 hYK
  refine V.exec 400 ?_
  have hw0 : IntKind.i64.wrap ((cs.length : Int) - 1) = (cs.length : Int) - 1 := by rw [wrap_small3] <;> omega
  simp +contextual (maxSteps:=9^7) only [go_sem,Tryz.f172,exec_retg,h8,hw0]
  refine V.lp (fun m σ => ∃ k,k ≤ cs.length ∧ m = cs.length - k ∧ σ.sl 0 = .val (.yld rl) ∧ σ.sl 1 = .val (.ptr (.row (cs.map Change.pv))) ∧ σ.sl 3 = .val (.int .i64 ((cs.length : Int) - 1 - k)) ∧ σ.ob = (litSt [] (undoOs cs k) 0).ob) cs.length ⟨0,zF _,rfl,by simp only [go_sem],by simp only [go_sem],by simp only [go_sem,Int.sub_zero,Int.natCast_zero],rfl⟩ ?_
  rintro m σ ⟨k,hk,rfl,s0,s1,s3,so⟩
  refine V.exec 400 ?_
  by_cases hlt : k < cs.length
  ·have hge : (0 : Int) ≤ (cs.length : Int) - 1 - k := by omega
   have hnat : ((cs.length : Int) - 1 - k).toNat = cs.length - 1 - k := by omega
   obtain ⟨x,hx⟩ : ∃ x,cs[cs.length - 1 - k]? = some x := ⟨_,zA (by omega)⟩
   have hbs : (backs cs (k + 1)).map Change.pv = (backs cs k).map Change.pv ++ [(turnC x).pv] := by rw [backs_succ cs k hx hlt]; simp
   have hround : V .rnd pG 23 (fun _ => False) [.code rec.assign,.stop (fun τ1 => V .rnd pG 23 (fun τ => τ.ob 0 = .box false [.ref 106] ∧ τ.ob 106 = .row 89 ((backs cs (k + 1)).map Change.pv)) [.code rec.body] τ1)]
     (roundSt (litSt [(0,.val (.row (l.map Pair.pv))),(6,.adr 0 0),(10,.val (.fn 172 [.ptr (.row (cs.map Change.pv))]))] (undoOs cs 0) 0) 11 12 (.int .i64 ((cs.length : Int) - 1 - k)) x.pv σ.ob 100) := by
    rw [roundSt_lit _ _ _ _ _ _ _ _ (undoOs cs k) so,h5,h6]
    refine V.exec 400 ?_
    simp +contextual (maxSteps:=9^7) only [go_sem,undoOs,Change.pv]
    refine V.exec 400 ?_
    simp +contextual (maxSteps:=9^7) only [go_sem,Change.pv]
    refine DV.call [] [] (by simp only [go_sem,Change.pv]) (by simp [dOK]) ⟨143,[],by simp only [go_sem,Change.pv],⟨_,rfl,rfl,rfl⟩,.inl ⟨[x.pv],_,.inl (by simp only [go_sem,Change.pv]),change_turned x,.inr (.inl ⟨_,rfl,rfl,rfl⟩)⟩⟩ (by simp only [go_sem,Change.pv]) (by simp only [go_sem,Change.pv]) (by simp only [go_sem,Change.pv]) (by simp) ?_
    refine DV.exec 400 ?_
    simp +contextual (maxSteps:=9^7) only [go_sem,Change.pv,turnC,hbs]
    have hbl : (backs cs k).length ≤ 200000 := by unfold backs; simp; omega
    exact ⟨⟨by omega,by omega⟩,by kernel_rfl⟩
   have hw1 : IntKind.i64.wrap ((cs.length : Int) - 1 - k - 1) = (cs.length : Int) - 1 - ((k + 1 : Nat) : Int) := by rw [wrap_small3] <;> omega
   simp +contextual (maxSteps:=9^7) only [go_sem,s0,s1,s3,hge,hnat,hx,Change.pv]
   simp only [Change.pv] at hround
   refine V.sop (J := fun σ' => V md _ _ _ _ σ') (SemOp.yield hYK h1 h2 h3 h4 (by decide) (by decide) rfl rfl (by simp only [go_sem]) (by simp only [go_sem]) (by simp only [go_sem]) (by simp [dOK]) 100 hround (fun _ h => h) 0 ?_) (fun _ h => h)
   rintro ⟨sl2,ob2,ck2⟩ ⟨o1,o2⟩
   have o1 : ob2 0 = _ := o1
   have o2 : ob2 106 = _ := o2
   refine ⟨[(0,.val (.yld rl)),(1,.val (.ptr (.row (cs.map Change.pv)))),(3,.val (.int .i64 ((cs.length : Int) - 1 - k))),(17,.val (.bool true))],undoOs cs (k + 1),[some 0,some 106],0,?_,?_,?_⟩
   ·simp only [go_sem,s0,s1,s3,o1,o2,undoOs]
    decide
   ·rintro i rfl; rfl
   ·refine V.exec 400 ?_
    simp +contextual (maxSteps:=9^7) only [go_sem,hw1]
    exact ⟨cs.length - (k + 1),by omega,k + 1,by omega,rfl,rfl,rfl⟩
  ·have hge : ¬ (0 : Int) ≤ (cs.length : Int) - 1 - k := by omega
   obtain rfl : k = cs.length := by omega
   simp +contextual (maxSteps:=9^7) only [go_sem,s0,s1,s3,hge]
   exact so
 ·rintro ⟨sl,ob,ck⟩ ⟨hs,ho⟩
  have hs : sl = _ := hs
  have ho : ob = _ := ho
  subst hs ho
  show V _ _ _ _ _ (litSt [(0,.val (.row (l.map Pair.pv))),(6,.adr 0 0),(10,.val (.fn 172 [.ptr (.row (cs.map Change.pv))]))] (undoOs cs cs.length) ck)
  refine V.cut 10 [(0,.val (.row (l.map Pair.pv))),(6,.adr 0 0)] [.box false [.ref 1],.row 89 ((cs.reverse.map turnC).map Change.pv)] [some 0,some 1] (by simp only [go_sem,undoOs,backs_all]; decide) ?_
  refine V.exec 400 ?_
  simp +contextual (maxSteps:=9^7) only [go_sem]
  refine V.call rfl rfl (by simp [dOK]) ⟨69,[],by simp only [go_sem],⟨_,rfl,rfl,rfl⟩,.inl ⟨[.row (l.map Pair.pv),.row ((cs.reverse.map turnC).map Change.pv)],_,.inl (by simp only [go_sem]),change_Do l (cs.reverse.map turnC) hl (by simpa using hn),.inr (.inl ⟨_,rfl,rfl,rfl⟩)⟩⟩ ?_
  refine V.exec 400 ?_
  simp +contextual (maxSteps:=9^7) only [go_sem,undoV]
theorem Change.inj (s t : Change) : (s.pv = t.pv) = (s = t) := by
 obtain ⟨s1,s2,s3,s4,s5,s6⟩ := s
 obtain ⟨t1,t2,t3,t4,t5,t6⟩ := t
 cases s3 <;> cases s5 <;> cases t3 <;> cases t5 <;> simp [Change.pv]
theorem eqChange : EqT pG 89 [.int .i64,.str,.bool,.str,.bool,.str] := EqT.of (by kernel_rfl) (by kernel_rfl) (by kernel_rfl)
set_option maxRecDepth 4000 in
set_option maxHeartbeats 8000000 in
theorem ref13_Same (a b : List Change) (hb : b.length ≤ 1000000) : Ct pG 29 (Zv.ops [.row (a.map Change.pv),.row (b.map Change.pv)]) (.vals [.bool (decide (a = b))]) := by
 refine Ct.of_V Tryz.func29 rfl (by simp [Zv.ops,Tryz.f29]) ?_
 refine V.exec 400 ?_
 by_cases hl : a.length = b.length
 ·simp +contextual (maxSteps:=9^7) only [go_sem,Tryz.f29,hl]
  refine V.loop (fun m ls os => ∃ i : Nat,i ≤ b.length ∧ m = b.length - i ∧ a.take i = b.take i ∧
    ls = [(0,.val (.row (a.map Change.pv))),(1,.val (.row (b.map Change.pv))),(5,.val (.int .i64 i))] ∧ os = []) 0 b.length [(0,.val (.row (a.map Change.pv))),(1,.val (.row (b.map Change.pv))),(5,.val (.int .i64 0))] [] []
   ⟨0,zF _,rfl,rfl,rfl,rfl⟩ (by simp only [go_sem]) ?_
  rintro m ls os ⟨i,hi,rfl,heq,rfl,rfl⟩
  refine V.exec 400 ?_
  by_cases hlt : i < b.length
  ·have hlt' : (i : Int) < (b.length : Int) := by omega
   have hla : i < a.length := by omega
   obtain ⟨x,hx⟩ : ∃ x,a[i]? = some x := ⟨_,zA hla⟩
   obtain ⟨y,hy⟩ : ∃ y,b[i]? = some y := ⟨_,zA hlt⟩
   have hw : IntKind.i64.wrap ((i : Int) + 1) = ((i + 1 : Nat) : Int) := by rw [wrap_small3] <;> omega
   have hinj := Change.inj x y
   simp only [Change.pv] at hinj
   simp +contextual (maxSteps:=9^7) only [go_sem,hl,hlt',hx,hy,Change.pv,hw,hinj,eqChange]
   refine ⟨by kernel_rfl,fun hne => ?_,fun he => ⟨b.length - (i + 1),_,[],[],by omega,⟨i + 1,by omega,rfl,?_,rfl,rfl⟩,?_⟩⟩
   ·have : a ≠ b := fun e => hne (by rw [e,hy] at hx; cases hx; rfl)
    simp [this]
   ·rw [zL,zL,heq,hx,hy,he]
   ·simp only [go_sem]
  ·have hlt' : ¬ (i : Int) < (b.length : Int) := by omega
   simp +contextual (maxSteps:=9^7) only [go_sem,hl,hlt']
   have : a = b := by rw [zD (by omega),zD (by omega)] at heq; exact heq
   simp [this]
 ·have hl' : ¬ (a.length : Int) = (b.length : Int) := by omega
  have : a ≠ b := fun e => hl (by rw [e])
  simp +contextual (maxSteps:=9^7) only [go_sem,Tryz.f29,hl',this,not_false_eq_true]
set_option maxRecDepth 10000 in
set_option maxHeartbeats 16000000 in
theorem batch_Run (l : List Pair) (seq : Int) (ns : List Note) (hl : l.length ≤ 100000) (hn : ns.length ≤ 9223372036854775807) (hseq : seq ≤ 9223372036854775807) : Ct pG 74 (Zv.ops [.row (l.map Pair.pv),.int .i64 seq,.row (ns.map Note.pv)]) (.vals [.row ((runV l seq ns).1.map Change.pv),.row ((runV l seq ns).2.1.map Pair.pv),.int .i64 (runV l seq ns).2.2]) := by
 have h2 : ∀ (l : List Pair),∀ x ∈ l.map Pair.pv,x.cells.length = 2 := fun l x hx => by
  obtain ⟨s,_,rfl⟩ := zN.1 hx
  rfl
 have ccl := (ClonePair (l.map Pair.pv) (h2 l) (by simp; omega)).forget
 have hbad : ¬ (batchOk ns ∧ pairsOk l ∧ 0 ≤ seq ∧ seq ≤ 2147483647) → runV l seq ns = ([],l,1) := fun h => by unfold runV; rw [if_neg h]
 refine Ct.of_V Tryz.func74 rfl (by simp [Zv.ops,Tryz.f74]) ?_
 refine V.exec 400 ?_
 simp +contextual (maxSteps:=9^7) only [go_sem,Tryz.f74]
 refine V.call rfl rfl (by simp [dOK]) ⟨123,[],by simp only [go_sem],⟨_,rfl,rfl,rfl⟩,.inl ⟨[.row (ns.map Note.pv)],_,.inl (by simp only [go_sem]),batch_Right ns (by omega),.inl ⟨_,rfl,rfl,rfl,rfl⟩⟩⟩ ?_
 refine V.exec 400 ?_
 by_cases hb : batchOk ns
 ·have hn8 : ns.length ≤ 8 := hb.1
  simp +contextual (maxSteps:=9^7) only [go_sem,hb]
  refine V.call rfl rfl (by simp [dOK]) ⟨104,[],by simp only [go_sem],⟨_,rfl,rfl,rfl⟩,.inl ⟨[.row (l.map Pair.pv)],_,.inl (by simp only [go_sem]),leaf_Right l (by omega),.inl ⟨_,rfl,rfl,rfl,rfl⟩⟩⟩ ?_
  refine V.exec 400 ?_
  by_cases hok : pairsOk l
  ·by_cases h1 : seq < 0
   ·have hv := hbad fun h => by omega
    simp +contextual (maxSteps:=9^7) only [go_sem,hok,h1,hv,zB]
   ·by_cases h2' : 2147483647 < seq
    ·have hv := hbad fun h => by omega
     simp +contextual (maxSteps:=9^7) only [go_sem,hok,h1,h2',hv,zB]
    ·have hwl : IntKind.i64.wrap (2147483647 - (ns.length : Int)) = 2147483647 - (ns.length : Int) := by rw [wrap_small3] <;> omega
     by_cases h3 : 2147483647 - (ns.length : Int) < seq
     ·have hv : runV l seq ns = ([],l,5) := by unfold runV; rw [if_pos ⟨hb,hok,by omega,by omega⟩,if_pos h3]
      simp +contextual (maxSteps:=9^7) only [go_sem,hok,h1,h2',hwl,h3,hv,zB]
     ·have hv : runV l seq ns = ((runGo l seq [] ns).1,(runGo l seq [] ns).2,0) := by unfold runV; rw [if_pos ⟨hb,hok,by omega,by omega⟩,if_neg h3]
      rw [hv]
      obtain ⟨RO,RP,hR⟩ : ∃ a b,runGo l seq [] ns = (a,b) := ⟨_,_,rfl⟩
      rw [hR]
      simp only
      simp +contextual (maxSteps:=9^7) only [go_sem,hok,h1,h2',hwl,h3]
      refine V.call rfl rfl (by simp [dOK]) ⟨114,[],by simp only [go_sem],⟨_,rfl,rfl,rfl⟩,.inl ⟨[.row (l.map Pair.pv)],_,.inl (by simp only [go_sem]),ccl,.inr (.inl ⟨_,rfl,rfl,rfl⟩)⟩⟩ ?_
      refine V.exec 400 ?_
      simp +contextual (maxSteps:=9^7) only [go_sem]
      refine V.loop (fun m ls os => ∃ (i : Nat) (out : List Change) (cur : List Pair),i ≤ ns.length ∧ m = ns.length - i ∧ pairsOk cur ∧ cur.length ≤ l.length + i ∧ out.length ≤ i ∧ runGo cur seq out (ns.drop i) = (RO,RP) ∧
        ls = [(1,.val (.int .i64 seq)),(9,.ref 0),(10,.val (.row (cur.map Pair.pv))),(42,.val (.row (ns.map Note.pv))),(43,.val (.int .i64 ns.length)),(44,.val (.int .i64 i))] ∧ os = [.row 89 (out.map Change.pv)]) 1 ns.length
       [(1,.val (.int .i64 seq)),(9,.ref 0),(10,.val (.row (l.map Pair.pv))),(42,.val (.row (ns.map Note.pv))),(43,.val (.int .i64 ns.length)),(44,.val (.int .i64 0))] [.row 89 []] [none]
       ⟨0,[],l,zF _,rfl,hok,zR _,zR _,hR,rfl,rfl⟩ (by simp only [go_sem]; try decide) ?_
      rintro m ls os ⟨i,out,cur,hi,rfl,hco,hcl,hol,hca,rfl,rfl⟩
      refine V.exec 400 ?_
      by_cases hlt : i < ns.length
      ·have hlt' : (i : Int) < (ns.length : Int) := by omega
       obtain ⟨x,hx⟩ : ∃ x,ns[i]? = some x := ⟨_,zA hlt⟩
       have hxo : x.ok := hb.2 x (zE hx)
       have hw : IntKind.i64.wrap ((i : Int) + 1) = ((i + 1 : Nat) : Int) := by rw [wrap_small3] <;> omega
       have hw1 : IntKind.i64.wrap (seq + (out.length : Int)) = seq + (out.length : Int) := by rw [wrap_small3] <;> omega
       have hw2 : IntKind.i64.wrap (seq + (out.length : Int) + 1) = seq + (out.length : Int) + 1 := by rw [wrap_small3] <;> omega
       have co := change_Of cur (seq + (out.length : Int) + 1) x (by omega)
       have hdo := @ofV_does cur (seq + (out.length : Int) + 1) x
       rw [drop_of_get hx,runGo] at hca
       have hoo := oneV_pairsOk hco hxo
       have hol2 := oneV_len ((pairsOk_iff cur).1 hco).1 x
       obtain ⟨c,e,hC⟩ : ∃ a b,ofV cur (seq + (out.length : Int) + 1) x = (a,b) := ⟨_,_,rfl⟩
       rw [hC] at co hca hdo
       simp only at co hca hdo
       simp +contextual (maxSteps:=9^7) only [go_sem,hlt',hx,Note.pv,hw1,hw2]
       refine V.call rfl rfl (by simp [dOK]) ⟨75,[],by simp only [go_sem],⟨_,rfl,rfl,rfl⟩,.inl ⟨[.row (cur.map Pair.pv),.int .i64 (seq + (out.length : Int) + 1),x.pv],_,.inl (by simp only [go_sem,Note.pv]),co,.inr (.inl ⟨_,rfl,rfl,rfl⟩)⟩⟩ ?_
       refine V.exec 400 ?_
       by_cases he : e = 0
       ·rw [if_pos he] at hca
        have hdv := (hdo he).2.2.2.1
        have cd := change_Do cur [c] (by omega) (by simp)
        rw [hdv] at cd
        simp only at cd
        subst he
        simp +contextual (maxSteps:=9^7) only [go_sem,Change.pv]
        refine ⟨⟨by omega,by omega⟩,?_⟩
        refine V.call rfl rfl (by simp [dOK]) ⟨69,[],by simp only [go_sem],⟨_,rfl,rfl,rfl⟩,.inl ⟨[.row (cur.map Pair.pv),.row ([c].map Change.pv)],_,.inl (by simp only [go_sem,Change.pv,zC,zB]),cd,.inr (.inl ⟨_,rfl,rfl,rfl⟩)⟩⟩ ?_
        refine V.exec 400 ?_
        simp +contextual (maxSteps:=9^7) only [go_sem,hw]
        refine ⟨ns.length - (i + 1),_,_,[some 25],by omega,⟨i + 1,out ++ [c],oneV cur x,by omega,rfl,hoo,by omega,by simp; omega,hca,rfl,rfl⟩,?_⟩
        simp only [go_sem,zM,zC,zB,Change.pv]
        try decide
       ·rw [if_neg he] at hca
        simp +contextual (maxSteps:=9^7) only [go_sem,Change.pv,he,hw]
        refine ⟨ns.length - (i + 1),_,_,[some 0],by omega,⟨i + 1,out,cur,by omega,rfl,hco,by omega,by omega,hca,rfl,rfl⟩,?_⟩
        simp only [go_sem]
        try decide
      ·have hlt' : ¬ (i : Int) < (ns.length : Int) := by omega
       have hd : ns.drop i = [] := zK (by omega)
       rw [hd,runGo,Prod.mk.injEq] at hca
       obtain ⟨rfl,rfl⟩ := hca
       simp +contextual (maxSteps:=9^7) only [go_sem,hlt']
  ·have hv := hbad fun h => hok h.2.1
   simp +contextual (maxSteps:=9^7) only [go_sem,hok,hv,zB]
 ·have hv := hbad fun h => hb h.1
  simp +contextual (maxSteps:=9^7) only [go_sem,hb,hv,zB]
set_option maxHeartbeats 4000000 in
theorem ref01_Take (s : List UInt8) (hl : s.length = 8) : Ct pG 198 (Zv.ops [.str s,.int .i64 8]) (.vals [.int .u64 (beN s),.str [],.int .i64 0]) := by
 refine Ct.of_V Tryz.func198 rfl (by simp [Zv.ops,Tryz.f198]) ?_
 refine V.exec 400 ?_
 have h1 : ¬ (8 : Int) < 1 := by decide
 have h2 : ¬ (8 : Int) < 8 := by decide
 have hl' : ¬ (s.length : Int) < 8 := by omega
 simp +contextual (maxSteps:=9^7) only [go_sem,Tryz.f198,h1,h2,hl']
 refine V.loop (fun m ls os => ∃ (i : Nat),i ≤ 8 ∧ m = 8 - i ∧
    ls = [(0,.val (.str s)),(1,.val (.int .i64 8)),(7,.val (.int .u64 (beN (s.take i)))),(8,.val (.int .i64 i))] ∧ os = []) 0 8
   [(0,.val (.str s)),(1,.val (.int .i64 8)),(7,.val (.int .u64 0)),(8,.val (.int .i64 0))] [] []
   ⟨0,zF _,rfl,rfl,rfl⟩ (by simp only [go_sem]) ?_
 rintro m ls os ⟨i,hi,rfl,rfl,rfl⟩
 refine V.exec 400 ?_
 by_cases hlt : i < 8
 ·have hlt' : (i : Int) < 8 := by omega
  obtain ⟨x,hx⟩ : ∃ x,s[i]? = some x := ⟨_,zA (by omega)⟩
  have hw : IntKind.i64.wrap ((i : Int) + 1) = ((i + 1 : Nat) : Int) := by rw [wrap_small3] <;> omega
  have hb0 := beN_nonneg (s.take i)
  have hb1 : beN (s.take i) < 72057594037927936 := by
   have h1 := beN_lt (s.take i)
   have h2 : (s.take i).length ≤ 7 := by simp; omega
   have h3 : ∀ k : Fin 8,(256 : Int) ^ k.val ≤ 72057594037927936 := by decide
   have := h3 ⟨(s.take i).length,by omega⟩
   exact Int.lt_of_lt_of_le h1 this
  have hsn : beN (s.take (i + 1)) = beN (s.take i) * 256 + (x.toNat : Int) := by rw [zL,hx]; exact beN_snoc _ _
  have hxl := x.toNat_lt
  have hsh : IntKind.u64.wrap (beN (s.take i) * 256) = beN (s.take i) * 256 := by rw [wrap_u64] <;> omega
  have hcv : IntKind.u64.wrap (x.toNat : Int) = (x.toNat : Int) := by rw [wrap_u64] <;> omega
  have had : IntKind.u64.wrap (beN (s.take i) * 256 + (x.toNat : Int)) = beN (s.take i) * 256 + (x.toNat : Int) := by rw [wrap_u64] <;> omega
  rw [← hsn] at had
  simp +contextual (maxSteps:=9^7) only [go_sem,hlt',hx,hw,hsh,hcv,← hsn,had]
  exact ⟨8 - (i + 1),_,[],[],by omega,⟨i + 1,by omega,rfl,rfl,rfl⟩,by simp only [go_sem]⟩
 ·have hlt' : ¬ (i : Int) < 8 := by omega
  obtain rfl : i = 8 := by omega
  simp +contextual (maxSteps:=9^7) only [go_sem,hlt']
  refine ⟨⟨by decide,by omega⟩,by kernel_rfl,?_⟩
  rw [zD (by omega),zK (by simp; omega)]
theorem ref09_Number (v : List UInt8) : Ct pG 191 (Zv.ops [.str v]) (.vals [.int .u64 (numV v)]) := by
 refine Ct.of_V Tryz.func191 rfl (by simp [Zv.ops,Tryz.f191]) ?_
 refine V.exec 400 ?_
 by_cases h : v.length = 8
 ·have h' : (v.length : Int) = 8 := by omega
  simp +contextual (maxSteps:=9^7) only [go_sem,Tryz.f191,h',not_true_eq_false]
  refine V.call rfl rfl (by simp [dOK]) ⟨198,[],by simp only [go_sem],⟨_,rfl,rfl,rfl⟩,.inl ⟨[.str v,.int .i64 8],_,.inl (by simp only [go_sem]),ref01_Take v h,.inr (.inl ⟨_,rfl,rfl,rfl⟩)⟩⟩ ?_
  refine V.exec 400 ?_
  simp +contextual (maxSteps:=9^7) only [go_sem]
  simp [numV,h]
 ·have h' : ¬ (v.length : Int) = 8 := by omega
  simp +contextual (maxSteps:=9^7) only [go_sem,Tryz.f191,h']
  simp [numV,h]
set_option maxHeartbeats 4000000 in
theorem ref01_Num (n : Int) (h0 : 0 ≤ n) (hn : n < 18446744073709551616) : Ct pG 190 (Zv.ops [.int .u64 n,.int .i64 8]) (.vals [.str (beB n 8),.int .i64 0]) := by
 refine Ct.of_V Tryz.func190 rfl (by simp [Zv.ops,Tryz.f190]) ?_
 refine V.exec 400 ?_
 have h1 : ¬ (8 : Int) < 1 := by decide
 have h2 : ¬ (8 : Int) < 8 := by decide
 simp +contextual (maxSteps:=9^7) only [go_sem,Tryz.f190,h1,h2]
 refine V.loop (fun m ls os => ∃ (i : Nat),i ≤ 8 ∧ m = 8 - i ∧
    ls = [(0,.val (.int .u64 (n / 256 ^ i))),(1,.val (.int .i64 8)),(6,.val (.str (beB n i))),(7,.val (.int .i64 i))] ∧ os = []) 0 8
   [(0,.val (.int .u64 n)),(1,.val (.int .i64 8)),(6,.val (.str [])),(7,.val (.int .i64 0))] [] []
   ⟨0,zF _,rfl,by simp [beB],rfl⟩ (by simp only [go_sem]) ?_
 rintro m ls os ⟨i,hi,rfl,rfl,rfl⟩
 refine V.exec 400 ?_
 by_cases hlt : i < 8
 ·have hlt' : (i : Int) < 8 := by omega
  have hw : IntKind.i64.wrap ((i : Int) + 1) = ((i + 1 : Nat) : Int) := by rw [wrap_small3] <;> omega
  have hq0 : 0 ≤ n / 256 ^ i := Int.ediv_nonneg h0 (Int.le_of_lt (Int.pow_pos (by decide)))
  have hql : n / 256 ^ i ≤ n := Int.ediv_le_self _ h0
  have hmod : (n / 256 ^ i).tmod 256 = n / 256 ^ i % 256 := Int.tmod_eq_emod_of_nonneg hq0
  have hdiv : (n / 256 ^ i).tdiv 256 = n / 256 ^ (i + 1) := by
   rw [Int.tdiv_eq_ediv_of_nonneg hq0,Int.pow_succ,Int.ediv_ediv_of_nonneg (Int.le_of_lt (Int.pow_pos (by decide)))]
  have hqn : 0 ≤ n / 256 ^ (i + 1) := Int.ediv_nonneg h0 (Int.le_of_lt (Int.pow_pos (by decide)))
  have hqm : n / 256 ^ (i + 1) ≤ n := Int.ediv_le_self _ h0
  have hwq : IntKind.u64.wrap (n / 256 ^ (i + 1)) = n / 256 ^ (i + 1) := by rw [wrap_u64] <;> omega
  have hc8 : IntKind.u8.wrap (n / 256 ^ i % 256) = n / 256 ^ i % 256 := by simp [IntKind.wrap,IntKind.bits,IntKind.signed]
  have h256 : ¬ (256 : Int) = 0 := by decide
  have hbs := beB_succ n i
  have hbl := beB_len n i
  have hby : bytesOf [PV.int .u8 (n / 256 ^ i % 256)] = some [UInt8.ofNat (n / 256 ^ i % 256).toNat] := rfl
  simp +contextual (maxSteps:=9^7) only [go_sem,hlt',hw,hmod,hdiv,hwq,hc8,h256,hby,hbl,List.cons_append,← hbs]
  exact ⟨by omega,8 - (i + 1),_,[],[],by omega,⟨i + 1,by omega,rfl,rfl,rfl⟩,by simp only [go_sem]⟩
 ·have hlt' : ¬ (i : Int) < 8 := by omega
  obtain rfl : i = 8 := by omega
  have hz : n / 256 ^ 8 = 0 := by omega
  have hz' : ¬ (0 : Int) < 0 := by decide
  simp +contextual (maxSteps:=9^7) only [go_sem,hlt',hz,hz']
theorem u64_wrap_lt (x : Int) : IntKind.u64.wrap x < 18446744073709551616 := by simp [IntKind.wrap,IntKind.bits,IntKind.signed]; omega
set_option maxHeartbeats 4000000 in
theorem ref09_Right (x : Note) : Ct pG 167 (Zv.ops [x.pv]) (.vals [.bool (decide x.ok)]) := by
 refine Ct.of_V Tryz.func167 rfl (by simp [Zv.ops,Tryz.f167]) ?_
 refine V.exec 400 ?_
 simp +contextual (maxSteps:=9^7) only [go_sem,Tryz.f167,Note.pv]
 simp only [Option.some.injEq,List.cons.injEq,PV.bool.injEq,and_true]
 (repeat' (first | (intro _) | (refine ⟨by kernel_rfl,?_⟩) | (apply And.intro)))
 all_goals grind [Note.ok]
def notesOk' (ns : List Note) : Prop := ∀ x ∈ ns,x.ok
instance instNotesOk' (ns : List Note) : Decidable (notesOk' ns) := by unfold notesOk'; infer_instance
set_option maxHeartbeats 4000000 in
theorem ref09_All (l : List Note) (hl : l.length ≤ 1000000) : Ct pG 134 (Zv.ops [.row (l.map Note.pv)]) (.vals [.bool (decide (notesOk' l))]) := by
 refine Ct.of_V Tryz.func134 rfl (by simp [Zv.ops,Tryz.f134]) ?_
 refine V.exec 400 ?_
 simp +contextual (maxSteps:=9^7) only [go_sem,Tryz.f134]
 refine V.loop (fun m ls os => ∃ (i : Nat),i ≤ l.length ∧ m = l.length - i ∧ (∀ x ∈ l.take i,x.ok) ∧
    ls = [(0,.val (.row (l.map Note.pv))),(3,.val (.int .i64 i))] ∧ os = []) 0 l.length
   [(0,.val (.row (l.map Note.pv))),(3,.val (.int .i64 0))] [] []
   ⟨0,zF _,rfl,by simp,rfl,rfl⟩ (by simp only [go_sem]) ?_
 rintro m ls os ⟨i,hi,rfl,hno,rfl,rfl⟩
 refine V.exec 400 ?_
 by_cases hlt : i < l.length
 ·have hlt' : (i : Int) < (l.length : Int) := by omega
  obtain ⟨x,hx⟩ : ∃ x,l[i]? = some x := ⟨_,zA hlt⟩
  have hw : IntKind.i64.wrap ((i : Int) + 1) = ((i + 1 : Nat) : Int) := by rw [wrap_small3] <;> omega
  simp +contextual (maxSteps:=9^7) only [go_sem,hlt',hx,Note.pv]
  refine V.call rfl rfl (by simp [dOK]) ⟨167,[],by simp only [go_sem],⟨_,rfl,rfl,rfl⟩,.inl ⟨[x.pv],_,.inl (by simp only [go_sem,Note.pv]),ref09_Right x,.inl ⟨_,rfl,rfl,rfl,rfl⟩⟩⟩ ?_
  refine V.exec 400 ?_
  by_cases hk : x.ok
  ·simp +contextual (maxSteps:=9^7) only [go_sem,hk,hw]
   refine ⟨l.length - (i + 1),_,[],[],by omega,⟨i + 1,by omega,rfl,fun s hs => ?_,rfl,rfl⟩,by simp only [go_sem]⟩
   rw [zL,hx] at hs
   rcases zO.1 hs with hs | hs
   ·exact hno s hs
   ·simp at hs; rw [hs]; exact hk
  ·have : ¬ notesOk' l := fun h => hk (h x (zE hx))
   simp +contextual (maxSteps:=9^7) only [go_sem,hk,this]
 ·have hlt' : ¬ (i : Int) < (l.length : Int) := by omega
  rw [zD (by omega)] at hno
  have : notesOk' l := hno
  simp +contextual (maxSteps:=9^7) only [go_sem,hlt',this,decide_true]
set_option maxRecDepth 4000 in
set_option maxHeartbeats 8000000 in
theorem ref09_Done (v : List UInt8) (has : Bool) (l : List Note) (hl : l.length ≤ 1000000) : Ct pG 168 (Zv.ops [.str v,.bool (decide (has = true)),.row (l.map Note.pv)])
  (.vals [.str (doneV v has l).1,.bool (decide ((doneV v has l).2 = true))]) := by
 generalize hD : doneV v has l = D
 unfold doneV at hD
 refine Ct.of_V Tryz.func168 rfl (by simp [Zv.ops,Tryz.f168]) ?_
 refine V.exec 400 ?_
 cases has
 all_goals simp only [Bool.false_eq_true,↓reduceIte] at hD
 all_goals simp +contextual (maxSteps:=9^7) only [go_sem,Tryz.f168,decide_true,decide_false]
 all_goals refine V.loop (fun m ls os => ∃ (i : Nat) (u : List UInt8) (h : Bool),i ≤ l.length ∧ m = l.length - i ∧ (l.drop i).foldl doneOne (u,h) = D ∧ ls = [(0,.val (.str u)),(1,.val (.bool (decide (h = true)))),(2,.val (.row (l.map Note.pv))),(8,.val (.int .i64 i))] ∧ os = []) 0 l.length _ _ [] ⟨0,_,_,zF _,rfl,hD,rfl,rfl⟩ (by simp only [go_sem,decide_true,decide_false]; try rfl) ?_
 all_goals rintro m ls os ⟨i,u,h,hi,rfl,hf,rfl,rfl⟩
 all_goals refine V.exec 400 ?_
 all_goals by_cases hlt : i < l.length
 case neg =>
  have hlt' : ¬ (i : Int) < (l.length : Int) := by omega
  have hd : l.drop i = [] := zK (by omega)
  rw [hd,List.foldl_nil] at hf
  subst hf
  simp +contextual (maxSteps:=9^7) only [go_sem,hlt']
 case neg =>
  have hlt' : ¬ (i : Int) < (l.length : Int) := by omega
  have hd : l.drop i = [] := zK (by omega)
  rw [hd,List.foldl_nil] at hf
  subst hf
  simp +contextual (maxSteps:=9^7) only [go_sem,hlt']
 all_goals
  have hlt' : (i : Int) < (l.length : Int) := by omega
  obtain ⟨x,hx⟩ : ∃ x,l[i]? = some x := ⟨_,zA hlt⟩
  have hw : IntKind.i64.wrap ((i : Int) + 1) = ((i + 1 : Nat) : Int) := by rw [wrap_small3] <;> omega
  rw [drop_of_get hx,List.foldl_cons] at hf
  have h12 : ¬ (1 : Int) = 2 := by decide
  have h13 : ¬ (1 : Int) = 3 := by decide
  have h23 : ¬ (2 : Int) = 3 := by decide
  have h21 : ¬ (2 : Int) = 1 := by decide
  have h31 : ¬ (3 : Int) = 1 := by decide
  have h32 : ¬ (3 : Int) = 2 := by decide
  by_cases h1 : x.kind = 1
  ·have e : doneOne (u,h) x = (x.value,true) := by simp [doneOne,h1]
   rw [e] at hf
   simp +contextual (maxSteps:=9^7) only [go_sem,hlt',hx,Note.pv,hw,h1,h12,h13]
   exact ⟨l.length - (i + 1),_,[],[],by omega,⟨i + 1,_,_,by omega,rfl,hf,rfl,rfl⟩,by simp only [go_sem,decide_true]⟩
  ·by_cases h2 : x.kind = 2
   ·have e : doneOne (u,h) x = ([],false) := by simp [doneOne,h2]
    rw [e] at hf
    simp +contextual (maxSteps:=9^7) only [go_sem,hlt',hx,Note.pv,hw,h2,h21,h23]
    exact ⟨l.length - (i + 1),_,[],[],by omega,⟨i + 1,_,_,by omega,rfl,hf,rfl,rfl⟩,by simp only [go_sem,decide_false]⟩
   ·by_cases h3 : x.kind = 3
    ·have e : doneOne (u,h) x = (beB (IntKind.u64.wrap (numV u + x.n)) 8,true) := by simp [doneOne,h3]
     rw [e] at hf
     have hn := ref01_Num _ (u64_wrap_nonneg (numV u + x.n)) (u64_wrap_lt (numV u + x.n))
     simp +contextual (maxSteps:=9^7) only [go_sem,hlt',hx,Note.pv,hw,h3,h31,h32]
     refine DV.call [] [] (by simp only [go_sem]) (by simp [dOK]) ⟨191,[],by simp only [go_sem],⟨_,rfl,rfl,rfl⟩,.inl ⟨[.str u],_,.inl (by simp only [go_sem]),ref09_Number u,.inl ⟨_,rfl,rfl,rfl,rfl⟩⟩⟩ (by simp only [go_sem]) (by simp only [go_sem]) (by simp only [go_sem]) (by simp) ?_
     refine DV.exec 400 ?_
     simp +contextual (maxSteps:=9^7) only [go_sem,hlt',hx,Note.pv]
     refine DV.call [] [] (by simp only [go_sem]) (by simp [dOK]) ⟨190,[],by simp only [go_sem],⟨_,rfl,rfl,rfl⟩,.inl ⟨[.int .u64 (IntKind.u64.wrap (numV u + x.n)),.int .i64 8],_,.inl (by simp only [go_sem]),hn,.inr (.inl ⟨_,rfl,rfl,rfl⟩)⟩⟩ (by simp only [go_sem]) (by simp only [go_sem]) (by simp only [go_sem]) (by simp) ?_
     refine DV.exec 400 ?_
     simp +contextual (maxSteps:=9^7) only [go_sem,hw]
     (repeat' (first | (intro _) | (refine ⟨by kernel_rfl,?_⟩) | (apply And.intro)))
     exact ⟨l.length - (i + 1),_,[],[],by omega,⟨i + 1,_,_,by omega,rfl,hf,rfl,rfl⟩,by simp only [go_sem,decide_true]⟩
    ·have e : doneOne (u,h) x = (u,h) := by simp [doneOne,h1,h2,h3]
     rw [e] at hf
     simp +contextual (maxSteps:=9^7) only [go_sem,hlt',hx,Note.pv,hw,h1,h2,h3]
     exact ⟨l.length - (i + 1),_,[],[],by omega,⟨i + 1,_,_,by omega,rfl,hf,rfl,rfl⟩,by simp only [go_sem]⟩
set_option maxRecDepth 4000 in
set_option maxHeartbeats 8000000 in
theorem ref10_Right (l : List Pair) (hl : l.length ≤ 1000000) : Ct pG 64 (Zv.ops [.row (l.map Pair.pv)]) (.vals [.bool (decide (pairsOk l))]) := by
  refine Ct.of_V Tryz.func64 rfl (by simp [Zv.ops,Tryz.f64]) ?_
  refine V.exec 400 ?_
  simp +contextual (maxSteps:=9^7) only [go_sem,Tryz.f64]
  refine V.loop (fun m ls os => ∃ (i : Nat),i ≤ l.length ∧ m = l.length - i ∧ (pairsOk l ↔ pairsFrom (prevKey l i) (l.drop i)) ∧
        ls = [(0,.val (.row (l.map Pair.pv))),(3,.val (.int .i64 i))] ∧ os = []) 0 l.length
      [(0,.val (.row (l.map Pair.pv))),(3,.val (.int .i64 0))] [] []
      ⟨0,zF _,rfl,Iff.rfl,rfl,rfl⟩ (by simp only [go_sem]) ?_
  rintro m ls os ⟨i,hi,rfl,hiff,rfl,rfl⟩
  refine V.exec 400 ?_
  by_cases hlt : i < l.length
  · have hlt' : (i : Int) < (l.length : Int) := by omega
    obtain ⟨x,hx⟩ : ∃ x,l[i]? = some x := ⟨_,zA hlt⟩
    have hw : IntKind.i64.wrap ((i : Int) + 1) = ((i + 1 : Nat) : Int) := by rw [wrap_small3] <;> omega
    rw [drop_of_get hx,pairsFrom] at hiff
    have hpk : prevKey l (i + 1) = some x.key := by simp [prevKey,hx]
    have fin : x.key.length ≤ 16 → x.value.length ≤ 32 → (∀ k,prevKey l i = some k → slt k x.key) → (pairsOk l ↔ pairsFrom (prevKey l (i + 1)) (l.drop (i + 1))) := fun a b c => by
      rw [hiff,hpk]; exact ⟨fun h => h.2.2.2,fun h => ⟨a,b,c,h⟩⟩
    have hfalse : ¬ pairsOk l → some [PV.bool false] = some [PV.bool (decide (pairsOk l))] := fun h => by simp [h]
    rcases Nat.eq_zero_or_pos i with rfl | hpos
    · have hz : ¬ (0 : Int) < ((0 : Nat) : Int) := by omega
      simp +contextual (maxSteps:=9^7) only [go_sem,hlt',hx,Pair.pv,hw,hz]
      (repeat' (first | (intro _) | (refine ⟨by kernel_rfl,?_⟩) | (apply And.intro)))
      all_goals first
        | exact ⟨l.length - (0 + 1),_,[],[],by omega,⟨1,by omega,rfl,fin (by omega) (by omega) (fun k h => by simp [prevKey] at h),rfl,rfl⟩,by simp only [go_sem]⟩
        | (refine hfalse fun h => ?_
           have h1 := (hiff.1 h).1
           have h2 := (hiff.1 h).2.1
           omega)
    · obtain ⟨j,rfl⟩ : ∃ j,i = j + 1 := ⟨i - 1,by omega⟩
      have hw2 : IntKind.i64.wrap (((j + 1 : Nat) : Int) - 1) = (j : Int) := by rw [wrap_small3] <;> omega
      have hjp : (0 : Int) < ((j + 1 : Nat) : Int) := by omega
      obtain ⟨y,hy⟩ : ∃ y,l[j]? = some y := ⟨_,zA (by omega)⟩
      simp +contextual (maxSteps:=9^7) only [go_sem,hlt',hx,Pair.pv,hw,hw2,hjp,hy]
      (repeat' (first | (intro _) | (refine ⟨by kernel_rfl,?_⟩) | (apply And.intro)))
      all_goals first
        | exact ⟨l.length - (j + 1 + 1),_,[],[],by omega,⟨j + 1 + 1,by omega,rfl,fin (by omega) (by omega) (fun k h => by simp [prevKey,hy] at h; rw [← h]; assumption),rfl,rfl⟩,by simp only [go_sem]⟩
        | (refine hfalse fun h => ?_
           have h1 := (hiff.1 h).1
           have h2 := (hiff.1 h).2.1
           have h3 := (hiff.1 h).2.2.1 y.key (by simp [prevKey,hy])
           first | omega | contradiction)
  · have hlt' : ¬ (i : Int) < (l.length : Int) := by omega
    have hd : l.drop i = [] := zK (by omega)
    rw [hd,pairsFrom] at hiff
    simp +contextual (maxSteps:=9^7) only [go_sem,hlt']
    simp [hiff]
def refFindP (l : List Pair) (k : List UInt8) : Int := match l.findIdx? (fun s => decide (s.key = k)) with
 | some i => i
 | none => -1
set_option maxHeartbeats 4000000 in
theorem ref10_Find (l : List Pair) (k : List UInt8) (hl : l.length ≤ 1000000) : Ct pG 42 (Zv.ops [.row (l.map Pair.pv),.str k]) (.vals [.int .i64 (refFindP l k)]) := by
 refine Ct.of_V Tryz.func42 rfl (by simp [Zv.ops,Tryz.f42]) ?_
 refine V.exec 400 ?_
 simp +contextual (maxSteps:=9^7) only [go_sem,Tryz.f42]
 refine V.loop (fun m ls os => ∃ (i : Nat),i ≤ l.length ∧ m = l.length - i ∧ (∀ s ∈ l.take i,s.key ≠ k) ∧
    ls = [(0,.val (.row (l.map Pair.pv))),(1,.val (.str k)),(5,.val (.int .i64 i))] ∧ os = []) 0 l.length
   [(0,.val (.row (l.map Pair.pv))),(1,.val (.str k)),(5,.val (.int .i64 0))] [] []
   ⟨0,zF _,rfl,by simp,rfl,rfl⟩ (by simp only [go_sem]) ?_
 rintro m ls os ⟨i,hi,rfl,hno,rfl,rfl⟩
 refine V.exec 400 ?_
 by_cases hlt : i < l.length
 ·have hlt' : (i : Int) < (l.length : Int) := by omega
  obtain ⟨x,hx⟩ : ∃ x,l[i]? = some x := ⟨_,zA hlt⟩
  have hxe := (zQ.1 hx).2
  have hw : IntKind.i64.wrap ((i : Int) + 1) = ((i + 1 : Nat) : Int) := by rw [wrap_small3] <;> omega
  simp +contextual (maxSteps:=9^7) only [go_sem,hlt',hx,Pair.pv,hw]
  refine ⟨fun he => ?_,fun hne => ?_⟩
  ·have hf : l.findIdx? (fun s => decide (s.key = k)) = some i := by
    rw [List.findIdx?_eq_some_iff_getElem]
    refine ⟨hlt,by rw [hxe]; simpa using he,fun j hj => ?_⟩
    have := hno l[j] (by rw [List.mem_take_iff_getElem]; exact ⟨j,by omega,rfl⟩)
    simpa using this
   have hv : refFindP l k = (i : Int) := by simp only [refFindP,hf]
   simp [hv]
  ·refine ⟨l.length - (i + 1),_,[],[],by omega,⟨i + 1,by omega,rfl,fun s hs => ?_,rfl,rfl⟩,by simp only [go_sem]⟩
   rw [zL,hx] at hs
   rcases zO.1 hs with hs | hs
   ·exact hno s hs
   ·simp at hs; rw [hs]; exact hne
 ·have hlt' : ¬ (i : Int) < (l.length : Int) := by omega
  simp +contextual (maxSteps:=9^7) only [go_sem,hlt']
  rw [zD (by omega)] at hno
  have hf : l.findIdx? (fun s => decide (s.key = k)) = none := by
   rw [List.findIdx?_eq_none_iff]
   intro x hx
   simpa using hno x hx
  simp only [refFindP,hf]
theorem lowP_snoc (l : List Pair) (x : Pair) (k : List UInt8) : lowP (l ++ [x]) k = if slt x.key k then lowP l k ++ [x] else lowP l k := by
 unfold lowP
 rw [zV]
 by_cases h : slt x.key k <;> simp [h]
theorem highP_snoc (l : List Pair) (x : Pair) (k : List UInt8) : highP (l ++ [x]) k = if slt k x.key then highP l k ++ [x] else highP l k := by
 unfold highP
 rw [zV]
 by_cases h : slt k x.key <;> simp [h]
theorem lowP_len (l : List Pair) (k : List UInt8) : (lowP l k).length ≤ l.length := List.length_filter_le _ _
theorem highP_len (l : List Pair) (k : List UInt8) : (highP l k).length ≤ l.length := List.length_filter_le _ _
theorem take_snoc {α : Type} {l : List α} {i : Nat} {x : α} (h : l[i]? = some x) : l.take (i + 1) = l.take i ++ [x] := by
 rw [zL,h]; rfl
def lastV (l : List Pair) (k : List UInt8) : List UInt8 × Bool := l.foldl (fun s p => if p.key = k then (p.value,true) else s) ([],false)
theorem lastV_snoc (l : List Pair) (x : Pair) (k : List UInt8) : lastV (l ++ [x]) k = if x.key = k then (x.value,true) else lastV l k := by
 unfold lastV
 rw [List.foldl_append]; rfl
theorem lastV_none : ∀ (l : List Pair) (k : List UInt8),(∀ p ∈ l,p.key ≠ k) → ∀ s,l.foldl (fun s p => if p.key = k then (p.value,true) else s) s = (s : List UInt8 × Bool)
 | [],_,_,_ => rfl
 | p :: r,k,h,s => by
  rw [List.foldl_cons,if_neg (h p zG)]
  exact lastV_none r k (fun x hx => h x (zH _ hx)) s
theorem lastV_val {l : List Pair} (hs : Sorted l) (k : List UInt8) : lastV l k = (match val l k with | some v => (v,true) | none => ([],false)) := by
 unfold lastV val getL
 suffices h : ∀ (s : List UInt8 × Bool),l.foldl (fun s p => if p.key = k then (p.value,true) else s) s = (match (l.find? (fun p => decide (p.key = k))).map Pair.value with | some v => (v,true) | none => s) from h _
 induction l with
 | nil => intro s; rfl
 | cons p r ih =>
  intro s
  cases hs with
  | cons h1 h2 =>
   rw [List.foldl_cons,List.find?_cons]
   by_cases he : p.key = k
   ·rw [if_pos he,lastV_none r k (fun x hx e => by
     have := h1 x hx
     rw [e,he] at this
     exact slt_irrefl _ this)]
    simp [he]
   ·rw [if_neg he,ih h2]
    simp [he]
theorem oneV_last {l : List Pair} (hs : Sorted l) (x : Note) : oneV l x = lowP l x.key ++ (if (doneOne (lastV l x.key) x).2 = true then [⟨x.key,(doneOne (lastV l x.key) x).1⟩] else []) ++ highP l x.key := by
 rw [lastV_val hs]
 unfold oneV mids stepO
 cases val l x.key <;> simp only <;> split <;> simp_all
set_option maxRecDepth 10000 in
set_option maxHeartbeats 16000000 in
theorem ref10_one (l : List Pair) (x : Note) (hl : l.length ≤ 400000) (hs : Sorted l) : Ct pG 169 (Zv.ops [.row (l.map Pair.pv),x.pv]) (.vals [.row ((oneV l x).map Pair.pv)]) := by
  refine Ct.of_V Tryz.func169 rfl (by simp [Zv.ops,Tryz.f169]) ?_
  refine V.exec 400 ?_
  simp +contextual (maxSteps:=9^7) only [go_sem,Tryz.f169,Note.pv]
  refine V.loop (fun m ls os => ∃ (i : Nat),i ≤ l.length ∧ m = l.length - i ∧
        ls = [(0,.val (.row (l.map Pair.pv))),(3,.adr 0 0),(5,.val (.str (lastV (l.take i) x.key).1)),(6,.val (.bool (decide ((lastV (l.take i) x.key).2 = true)))),(7,.ref 1),(8,.ref 2),(9,.val (.int .i64 i))] ∧
        os = [.box true [.val (.int .i64 x.kind),.val (.str x.key),.val (.str x.value),.val (.int .u64 x.n)],.row 77 ((lowP (l.take i) x.key).map Pair.pv),.row 77 ((highP (l.take i) x.key).map Pair.pv)]) 3 l.length
      [(0,.val (.row (l.map Pair.pv))),(3,.adr 0 0),(5,.val (.str [])),(6,.val (.bool (decide (false = true)))),(7,.ref 1),(8,.ref 2),(9,.val (.int .i64 0))]
      [.box true [.val (.int .i64 x.kind),.val (.str x.key),.val (.str x.value),.val (.int .u64 x.n)],.row 77 [],.row 77 []] [some 2,none,none]
      ⟨0,zF _,rfl,rfl,rfl⟩ (by simp only [go_sem,decide_false]; try decide) ?_
  rintro m ls os ⟨i,hi,rfl,rfl,rfl⟩
  refine V.exec 400 ?_
  by_cases hlt : i < l.length
  · have hlt' : (i : Int) < (l.length : Int) := by omega
    obtain ⟨p,hp⟩ : ∃ x,l[i]? = some x := ⟨_,zA hlt⟩
    have hw : IntKind.i64.wrap ((i : Int) + 1) = ((i + 1 : Nat) : Int) := by rw [wrap_small3] <;> omega
    have h1 := lowP_snoc (l.take i) p x.key
    have h2 := highP_snoc (l.take i) p x.key
    have h3 := lastV_snoc (l.take i) p x.key
    rw [← take_snoc hp] at h1 h2 h3
    have hl1 : (lowP (l.take i) x.key).length ≤ i := Nat.le_trans (lowP_len _ _) (by simp; omega)
    have hl2 : (highP (l.take i) x.key).length ≤ i := Nat.le_trans (highP_len _ _) (by simp; omega)
    by_cases ha : slt p.key x.key
    · have hb : ¬ p.key = x.key := fun e => slt_irrefl x.key (by rw [e] at ha; exact ha)
      have hc : ¬ slt x.key p.key := slt_asymm ha
      rw [if_pos ha] at h1
      rw [if_neg hc] at h2
      rw [if_neg hb] at h3
      have hd : ¬ (slt p.key x.key ∨ p.key = x.key) ↔ False := by simp [ha]
      simp +contextual (maxSteps:=9^7) only [go_sem,hlt',hp,Pair.pv,hw,ha,hb,true_or]
      (repeat' (first | (intro _) | (refine ⟨by kernel_rfl,?_⟩) | (apply And.intro)))
      all_goals first
        | omega
        | (refine ⟨l.length - (i + 1),_,_,[some 0,some 21,some 2],by omega,⟨i + 1,by omega,rfl,rfl,rfl⟩,?_⟩
           simp only [go_sem,h1,h2,h3,zM,zC,zB,Pair.pv,decide_true]
           try decide)
    · by_cases hb : p.key = x.key
      · have hc : ¬ slt x.key p.key := by rw [hb]; exact slt_irrefl _
        rw [if_neg ha] at h1
        rw [if_neg hc] at h2
        rw [if_pos hb] at h3
        have hsi := slt_irrefl x.key
        simp +contextual (maxSteps:=9^7) only [go_sem,hlt',hp,Pair.pv,hw,hb,hsi,or_true]
        (repeat' (first | (intro _) | (refine ⟨by kernel_rfl,?_⟩) | (apply And.intro)))
        all_goals first
          | omega
          | (refine ⟨l.length - (i + 1),_,_,[some 0,some 1,some 2],by omega,⟨i + 1,by omega,rfl,rfl,rfl⟩,?_⟩
             simp only [go_sem,h1,h2,h3,zM,zC,zB,Pair.pv,decide_true]
             try decide)
      · have hc : slt x.key p.key := by
          rcases slt_total p.key x.key with h | h | h
          · exact absurd h ha
          · exact absurd h hb
          · exact h
        rw [if_neg ha] at h1
        rw [if_pos hc] at h2
        rw [if_neg hb] at h3
        simp +contextual (maxSteps:=9^7) only [go_sem,hlt',hp,Pair.pv,hw,ha,hb,or_self]
        (repeat' (first | (intro _) | (refine ⟨by kernel_rfl,?_⟩) | (apply And.intro)))
        all_goals first
          | omega
          | (refine ⟨l.length - (i + 1),_,_,[some 0,some 1,some 37],by omega,⟨i + 1,by omega,rfl,rfl,rfl⟩,?_⟩
             simp only [go_sem,h1,h2,h3,zM,zC,zB,Pair.pv,decide_true]
             try decide)
  · have hlt' : ¬ (i : Int) < (l.length : Int) := by omega
    simp +contextual (maxSteps:=9^7) only [go_sem,hlt']
    rw [zD (by omega)]
    have ho := oneV_last hs x
    have hl1 := lowP_len l x.key
    have hl2 := highP_len l x.key
    generalize lowP l x.key = low at *
    generalize highP l x.key = high at *
    obtain ⟨v,has,hlv⟩ : ∃ a b,lastV l x.key = (a,b) := ⟨_,_,rfl⟩
    rw [hlv] at ho ⊢
    simp only at ho ⊢
    have hfe : v = (if has = true then v else []) ∨ True := .inr trivial
    have hv0 : has = false → v = [] := fun h => by
      have := lastV_val hs x.key
      rw [hlv] at this
      cases hv : val l x.key with
      | none => rw [hv] at this; cases this; rfl
      | some w => rw [hv] at this; cases this; cases h
    have hdo := ref09_Done v has [x] (by simp)
    have hdv : doneV v has [x] = doneOne (v,has) x := by
      unfold doneV
      simp only [List.foldl_cons,List.foldl_nil]
      cases has with
      | true => rfl
      | false => rw [hv0 rfl]; rfl
    rw [hdv] at hdo
    obtain ⟨now,is',hdd⟩ : ∃ a b,doneOne (v,has) x = (a,b) := ⟨_,_,rfl⟩
    rw [hdd] at hdo ho
    simp only at hdo ho
    refine V.call rfl rfl (by simp [dOK]) ⟨168,[],by simp only [go_sem],⟨_,rfl,rfl,rfl⟩,.inl ⟨[.str v,.bool (decide (has = true)),.row ([x].map Note.pv)],_,.inl (by simp only [go_sem,Note.pv,zC,zB]),hdo,.inr (.inl ⟨_,rfl,rfl,rfl⟩)⟩⟩ ?_
    refine V.exec 400 ?_
    cases is' with
    | true =>
      rw [if_pos rfl] at ho
      rw [ho]
      simp +contextual (maxSteps:=9^7) only [go_sem,decide_true]
      refine ⟨⟨by omega,by omega⟩,fun j _ => rfl,⟨by simp; omega,by simp; omega⟩,by simp [Pair.pv]⟩
    | false =>
      rw [if_neg (by simp)] at ho
      rw [ho]
      simp +contextual (maxSteps:=9^7) only [go_sem,decide_false]
      refine ⟨fun j _ => rfl,⟨by omega,by omega⟩,by simp⟩
set_option maxRecDepth 10000 in
set_option maxHeartbeats 16000000 in
theorem ref10_Apply (l : List Pair) (ns : List Note) (hl : l.length ≤ 200000) (hn : ns.length ≤ 200000) : Ct pG 136 (Zv.ops [.row (l.map Pair.pv),.row (ns.map Note.pv)]) (.vals [.row ((applyV l ns).1.map Pair.pv),.int .i64 (applyV l ns).2]) := by
 refine Ct.of_V Tryz.func136 rfl (by simp [Zv.ops,Tryz.f136]) ?_
 refine V.exec 400 ?_
 simp +contextual (maxSteps:=9^7) only [go_sem,Tryz.f136]
 refine V.call rfl rfl (by simp [dOK]) ⟨64,[],by simp only [go_sem],⟨_,rfl,rfl,rfl⟩,.inl ⟨[.row (l.map Pair.pv)],_,.inl (by simp only [go_sem]),ref10_Right l (by omega),.inl ⟨_,rfl,rfl,rfl,rfl⟩⟩⟩ ?_
 refine V.exec 400 ?_
 simp +contextual (maxSteps:=9^7) only [go_sem]
 refine V.call rfl rfl (by simp [dOK]) ⟨134,[],by simp only [go_sem],⟨_,rfl,rfl,rfl⟩,.inl ⟨[.row (ns.map Note.pv)],_,.inl (by simp only [go_sem]),ref09_All ns (by omega),.inl ⟨_,rfl,rfl,rfl,rfl⟩⟩⟩ ?_
 refine V.exec 400 ?_
 by_cases hok : pairsOk l
 ·by_cases hall : notesOk' ns
  ·have hv : applyV l ns = (appV l ns,0) := applyV_ok hok hall
   simp +contextual (maxSteps:=9^7) only [go_sem,hok,hall,hv]
   refine V.loop (fun m ls os => ∃ (i : Nat) (cur : List Pair),i ≤ ns.length ∧ m = ns.length - i ∧ Sorted cur ∧ cur.length ≤ l.length + i ∧ appV cur (ns.drop i) = appV l ns ∧
     ls = [(0,.val (.row (cur.map Pair.pv))),(1,.val (.row (ns.map Note.pv))),(8,.val (.int .i64 i))] ∧ os = []) 0 ns.length
    [(0,.val (.row (l.map Pair.pv))),(1,.val (.row (ns.map Note.pv))),(8,.val (.int .i64 0))] [] []
    ⟨0,l,zF _,rfl,((pairsOk_iff l).1 hok).1,zR _,rfl,rfl,rfl⟩ (by simp only [go_sem]) ?_
   rintro m ls os ⟨i,cur,hi,rfl,hcs,hcl,hca,rfl,rfl⟩
   refine V.exec 400 ?_
   by_cases hlt : i < ns.length
   ·have hlt' : (i : Int) < (ns.length : Int) := by omega
    obtain ⟨x,hx⟩ : ∃ x,ns[i]? = some x := ⟨_,zA hlt⟩
    have hw : IntKind.i64.wrap ((i : Int) + 1) = ((i + 1 : Nat) : Int) := by rw [wrap_small3] <;> omega
    rw [drop_of_get hx,appV,List.foldl_cons] at hca
    have hol := oneV_len hcs x
    simp +contextual (maxSteps:=9^7) only [go_sem,hlt',hx,Note.pv]
    refine V.call rfl rfl (by simp [dOK]) ⟨169,[],by simp only [go_sem],⟨_,rfl,rfl,rfl⟩,.inl ⟨[.row (cur.map Pair.pv),x.pv],_,.inl (by simp only [go_sem,Note.pv]),ref10_one cur x (by omega) hcs,.inr (.inl ⟨_,rfl,rfl,rfl⟩)⟩⟩ ?_
    refine V.exec 400 ?_
    simp +contextual (maxSteps:=9^7) only [go_sem,hw]
    exact ⟨ns.length - (i + 1),_,[],[],by omega,⟨i + 1,oneV cur x,by omega,rfl,oneV_sorted hcs x,by omega,hca,rfl,rfl⟩,by simp only [go_sem]⟩
   ·have hlt' : ¬ (i : Int) < (ns.length : Int) := by omega
    have hd : ns.drop i = [] := zK (by omega)
    rw [hd] at hca
    simp +contextual (maxSteps:=9^7) only [go_sem,hlt',← hca]
    rfl
  ·have hv : applyV l ns = (l,1) := applyV_bad (fun h => hall h.2)
   simp +contextual (maxSteps:=9^7) only [go_sem,hok,hall,hv]
 ·have hv : applyV l ns = (l,1) := applyV_bad (fun h => hok h.1)
  simp +contextual (maxSteps:=9^7) only [go_sem,hok,hv]
theorem refFindP_neg {l : List Pair} {k : List UInt8} (h : getL l k = none) : refFindP l k = -1 := by
 unfold refFindP
 have : l.findIdx? (fun s => decide (s.key = k)) = none := by
  rw [List.findIdx?_eq_none_iff]
  intro x hx
  unfold getL at h
  rw [List.find?_eq_none] at h
  simpa using h x hx
 rw [this]
theorem refFindP_some {l : List Pair} (hs : Sorted l) {k : List UInt8} {p : Pair} (h : getL l k = some p) : ∃ i : Nat,refFindP l k = (i : Int) ∧ l[i]? = some p ∧ i < l.length := by
 have hm := getL_mem h
 unfold refFindP
 cases hf : l.findIdx? (fun s => decide (s.key = k)) with
 | none =>
  rw [List.findIdx?_eq_none_iff] at hf
  have := hf p hm.1
  simp [hm.2] at this
 | some i =>
  rw [List.findIdx?_eq_some_iff_getElem] at hf
  obtain ⟨hi,hk,_⟩ := hf
  refine ⟨i,rfl,?_,hi⟩
  have hk' : l[i].key = k := by simpa using hk
  have := getL_of_mem hs (List.getElem_mem hi)
  rw [hk',h] at this
  rw [zA hi,this]
set_option maxRecDepth 4000 in
set_option maxHeartbeats 8000000 in
theorem ref15_Of (l : List Pair) (seq : Int) (n : Note) (hl : l.length ≤ 1000000) : Ct pG 135 (Zv.ops [.row (l.map Pair.pv),.int .i64 seq,n.pv]) (.vals [(ofV l seq n).1.pv,.int .i64 (ofV l seq n).2]) := by
 have hbad : ¬ (pairsOk l ∧ n.ok ∧ 1 ≤ seq ∧ seq ≤ 2147483647) → ofV l seq n = (Change.zero,1) := fun h => by unfold ofV; rw [if_neg h]
 refine Ct.of_V Tryz.func135 rfl (by simp [Zv.ops,Tryz.f135]) ?_
 refine V.exec 400 ?_
 simp +contextual (maxSteps:=9^7) only [go_sem,Tryz.f135,Note.pv]
 refine DV.call [] [] (by simp only [go_sem]) (by simp [dOK]) ⟨64,[],by simp only [go_sem],⟨_,rfl,rfl,rfl⟩,.inl ⟨[.row (l.map Pair.pv)],_,.inl (by simp only [go_sem]),ref10_Right l hl,.inl ⟨_,rfl,rfl,rfl,rfl⟩⟩⟩ (by simp only [go_sem]) (by simp only [go_sem]) (by simp only [go_sem]) (by simp) ?_
 refine DV.exec 400 ?_
 simp +contextual (maxSteps:=9^7) only [go_sem,Note.pv]
 refine DV.call [] [] (by simp only [go_sem,Note.pv]) (by simp [dOK]) ⟨167,[],by simp only [go_sem,Note.pv],⟨_,rfl,rfl,rfl⟩,.inl ⟨[n.pv],_,.inl (by simp only [go_sem,Note.pv]),ref09_Right n,.inl ⟨_,rfl,rfl,rfl,rfl⟩⟩⟩ (by simp only [go_sem,Note.pv]) (by simp only [go_sem,Note.pv]) (by simp only [go_sem,Note.pv]) (by simp) ?_
 refine DV.exec 400 ?_
 by_cases hok : pairsOk l
 ·by_cases hn : n.ok
  ·by_cases h1 : seq < 1
   ·have hv := hbad fun h => by omega
    simp +contextual (maxSteps:=9^7) only [go_sem,hok,hn,h1,hv,Change.zero,Change.pv,decide_false,decide_true]
    kernel_rfl
   ·by_cases h2 : 2147483647 < seq
    ·have hv := hbad fun h => by omega
     simp +contextual (maxSteps:=9^7) only [go_sem,hok,hn,h1,h2,hv,Change.zero,Change.pv,decide_false,decide_true]
     kernel_rfl
    ·have hs := ((pairsOk_iff l).1 hok).1
     have hv : ofV l seq n = madeV seq n.key (getV l n.key) (doneV (getV l n.key).1 (getV l n.key).2 [n]) := by
      unfold ofV madeV; rw [if_pos ⟨hok,hn,by omega,by omega⟩]
     simp +contextual (maxSteps:=9^7) only [go_sem,hok,hn,h1,h2,decide_true]
     refine ⟨by kernel_rfl,?_⟩
     cases hg : getL l n.key with
     | none =>
      have hgv : getV l n.key = ([],false) := by unfold getV; rw [if_pos hok,hg]
      have cf := ref10_Find l n.key hl
      rw [refFindP_neg hg] at cf
      have cd := ref09_Done [] false [n] (by simp)
      rw [hgv] at hv
      simp only at hv
      obtain ⟨dv,dh,hD⟩ : ∃ a b,doneV [] false [n] = (a,b) := ⟨_,_,rfl⟩
      rw [hD] at cd hv
      simp only at cd hv
      have hm1 : ¬ (0 : Int) ≤ -1 := by decide
      refine V.call rfl rfl (by simp [dOK]) ⟨42,[],by simp only [go_sem],⟨_,rfl,rfl,rfl⟩,.inl ⟨[.row (l.map Pair.pv),.str n.key],_,.inl (by simp only [go_sem]),cf,.inl ⟨_,rfl,rfl,rfl,rfl⟩⟩⟩ ?_
      refine V.exec 400 ?_
      simp +contextual (maxSteps:=9^7) only [go_sem,hm1,Note.pv]
      refine V.call rfl rfl (by simp [dOK]) ⟨168,[],by simp only [go_sem],⟨_,rfl,rfl,rfl⟩,.inl ⟨[.str [],.bool (decide (false = true)),.row ([n].map Note.pv)],_,.inl (by simp only [go_sem,Note.pv,zC,zB,decide_false]),cd,.inr (.inl ⟨_,rfl,rfl,rfl⟩)⟩⟩ ?_
      refine V.exec 400 ?_
      cases dh with
      | true =>
       have e : madeV seq n.key ([],false) (dv,true) = (⟨seq,n.key,false,[],true,dv⟩,0) := rfl
       rw [hv,e]
       simp +contextual (maxSteps:=9^7) only [go_sem,decide_true,decide_false,Change.pv]
      | false =>
       have e : madeV seq n.key ([],false) (dv,false) = (Change.zero,3) := rfl
       rw [hv,e]
       simp +contextual (maxSteps:=9^7) only [go_sem,decide_true,decide_false,Change.pv,Change.zero]
     | some p =>
      have hgv : getV l n.key = (p.value,true) := by unfold getV; rw [if_pos hok,hg]
      obtain ⟨i,hfi,hpi,hil⟩ := refFindP_some hs hg
      have cf := ref10_Find l n.key hl
      rw [hfi] at cf
      have cd := ref09_Done p.value true [n] (by simp)
      rw [hgv] at hv
      simp only at hv
      obtain ⟨dv,dh,hD⟩ : ∃ a b,doneV p.value true [n] = (a,b) := ⟨_,_,rfl⟩
      rw [hD] at cd hv
      simp only at cd hv
      have hil' : (i : Int) < (l.length : Int) := by omega
      refine V.call rfl rfl (by simp [dOK]) ⟨42,[],by simp only [go_sem],⟨_,rfl,rfl,rfl⟩,.inl ⟨[.row (l.map Pair.pv),.str n.key],_,.inl (by simp only [go_sem]),cf,.inl ⟨_,rfl,rfl,rfl,rfl⟩⟩⟩ ?_
      refine V.exec 400 ?_
      simp +contextual (maxSteps:=9^7) only [go_sem,hpi,hil',Note.pv,Pair.pv]
      refine V.call rfl rfl (by simp [dOK]) ⟨168,[],by simp only [go_sem],⟨_,rfl,rfl,rfl⟩,.inl ⟨[.str p.value,.bool (decide (true = true)),.row ([n].map Note.pv)],_,.inl (by simp only [go_sem,Note.pv,zC,zB,decide_true]),cd,.inr (.inl ⟨_,rfl,rfl,rfl⟩)⟩⟩ ?_
      refine V.exec 400 ?_
      have e : madeV seq n.key (p.value,true) (dv,dh) = (⟨seq,n.key,true,p.value,dh,dv⟩,0) := rfl
      rw [hv,e]
      simp +contextual (maxSteps:=9^7) only [go_sem,decide_true,decide_false,Change.pv]
  ·have hv := hbad fun h => hn h.2.1
   simp +contextual (maxSteps:=9^7) only [go_sem,hok,hn,hv,Change.zero,Change.pv,decide_false,decide_true]
   kernel_rfl
 ·have hv := hbad fun h => hok h.1
  simp +contextual (maxSteps:=9^7) only [go_sem,hok,hv,Change.zero,Change.pv,decide_false]
  kernel_rfl
def joinOk (a b : Change) : Prop := a.ok ∧ b.ok ∧ a.key = b.key ∧ a.seq < b.seq ∧ a.aft = b.bef ∧ a.has = b.had
instance instJoinOk (a b : Change) : Decidable (joinOk a b) := by unfold joinOk; infer_instance
set_option maxRecDepth 4000 in
set_option maxHeartbeats 8000000 in
theorem ref13_May (c : Change) : Ct pG 111 (Zv.ops [c.pv]) (.vals [.bool (decide c.ok)]) := by
 refine Ct.of_V Tryz.func111 rfl (by simp [Zv.ops,Tryz.f111]) ?_
 refine V.exec 400 ?_
 simp +contextual (maxSteps:=9^7) only [go_sem,Tryz.f111,Change.pv]
 simp only [Option.some.injEq,List.cons.injEq,PV.bool.injEq,and_true]
 (repeat' (first | (intro _) | (refine ⟨by kernel_rfl,?_⟩) | (apply And.intro)))
 all_goals grind [Change.ok]
def fitsP (l : List Pair) (k : List UInt8) (has : Bool) (v : List UInt8) : Prop := match getL l k with
 | some p => has = true ∧ p.value = v
 | none => has = false
instance instFitsP (l : List Pair) (k : List UInt8) (has : Bool) (v : List UInt8) : Decidable (fitsP l k has v) := by unfold fitsP; split <;> infer_instance
set_option maxHeartbeats 4000000 in
theorem ref15_fits (l : List Pair) (k : List UInt8) (has : Bool) (v : List UInt8) (hl : l.length ≤ 1000000) (hs : Sorted l) : Ct pG 112 (Zv.ops [.row (l.map Pair.pv),.str k,.bool (decide (has = true)),.str v]) (.vals [.bool (decide (fitsP l k has v))]) := by
 have cf := ref10_Find l k hl
 cases hg : getL l k with
 | none =>
  rw [refFindP_neg hg] at cf
  have hm1 : (-1 : Int) < 0 := by decide
  have e : fitsP l k has v ↔ has = false := by unfold fitsP; rw [hg]
  refine Ct.of_V Tryz.func112 rfl (by simp [Zv.ops,Tryz.f112]) ?_
  refine V.exec 400 ?_
  simp +contextual (maxSteps:=9^7) only [go_sem,Tryz.f112]
  refine V.call rfl rfl (by simp [dOK]) ⟨42,[],by simp only [go_sem],⟨_,rfl,rfl,rfl⟩,.inl ⟨[.row (l.map Pair.pv),.str k],_,.inl (by simp only [go_sem]),cf,.inl ⟨_,rfl,rfl,rfl,rfl⟩⟩⟩ ?_
  refine V.exec 400 ?_
  simp +contextual (maxSteps:=9^7) only [go_sem,hm1]
  cases has <;> simp [e]
 | some p =>
  obtain ⟨i,hfi,hpi,hil⟩ := refFindP_some hs hg
  rw [hfi] at cf
  have hil' : (i : Int) < (l.length : Int) := by omega
  have h0 : ¬ (i : Int) < 0 := by omega
  have e : ∀ b,fitsP l k b v ↔ b = true ∧ p.value = v := fun b => by unfold fitsP; rw [hg]
  refine Ct.of_V Tryz.func112 rfl (by simp [Zv.ops,Tryz.f112]) ?_
  refine V.exec 400 ?_
  simp +contextual (maxSteps:=9^7) only [go_sem,Tryz.f112]
  refine V.call rfl rfl (by simp [dOK]) ⟨42,[],by simp only [go_sem],⟨_,rfl,rfl,rfl⟩,.inl ⟨[.row (l.map Pair.pv),.str k],_,.inl (by simp only [go_sem]),cf,.inl ⟨_,rfl,rfl,rfl,rfl⟩⟩⟩ ?_
  refine V.exec 400 ?_
  simp +contextual (maxSteps:=9^7) only [go_sem,h0,hpi,hil',Pair.pv]
  cases has <;> simp [e]
def insR (k v : List UInt8) : List Pair → List Pair
 | [] => [⟨k,v⟩]
 | p :: r => if slt p.key k then p :: insR k v r else ⟨k,v⟩ :: (p :: r).filter (fun p => decide (¬ p.key = k))
def setR (l : List Pair) (k : List UInt8) (has : Bool) (v : List UInt8) : List Pair := if has = true then insR k v l else l.filter (fun p => decide (¬ p.key = k))
def restR (d : Bool) (k v : List UInt8) (l : List Pair) : List Pair := if d = true then l.filter (fun p => decide (¬ p.key = k)) else insR k v l
theorem restR_len (d : Bool) (k v : List UInt8) : ∀ l : List Pair,(restR d k v l).length ≤ l.length + 1
 | [] => by cases d <;> simp [restR,insR]
 | p :: r => by
  have ih := restR_len d k v r
  unfold restR at *
  cases d with
  | true =>
   have h := List.length_filter_le (fun p => decide (¬ p.key = k)) (p :: r)
   rw [if_pos rfl]; omega
  | false =>
   rw [if_neg (by decide)] at *
   unfold insR
   split
   ·simp only [zT]; omega
   ·have h := List.length_filter_le (fun p => decide (¬ p.key = k)) (p :: r)
    simp only [zT] at *; omega
set_option maxRecDepth 10000 in
set_option maxHeartbeats 16000000 in
theorem ref15_set (l : List Pair) (k : List UInt8) (has : Bool) (v : List UInt8) (hl : l.length ≤ 1000000) : Ct pG 113 (Zv.ops [.row (l.map Pair.pv),.str k,.bool (decide (has = true)),.str v]) (.vals [.row ((setR l k has v).map Pair.pv)]) := by
 have h0 : setR l k has v = restR (!has) k v l := by cases has <;> rfl
 have hd0 : (!decide (has = true)) = decide ((!has) = true) := by cases has <;> rfl
 rw [h0]
 have hca0 : [] ++ restR (!has) k v (l.drop 0) = restR (!has) k v l := by simp
 have hlen := restR_len (!has) k v l
 generalize restR (!has) k v l = RES at *
 refine Ct.of_V Tryz.func113 rfl (by simp [Zv.ops,Tryz.f113]) ?_
 refine V.exec 400 ?_
 simp +contextual (maxSteps:=9^7) only [go_sem,Tryz.f113,hd0]
 refine V.loop (fun m ls os => ∃ (i : Nat) (d : Bool) (out : List Pair),i ≤ l.length ∧ m = l.length - i ∧ out ++ restR d k v (l.drop i) = RES ∧
    ls = [(0,.val (.row (l.map Pair.pv))),(1,.val (.str k)),(3,.val (.str v)),(9,.ref 0),(10,.val (.bool (decide (d = true)))),(11,.val (.int .i64 i))] ∧ os = [.row 77 (out.map Pair.pv)]) 1 l.length
   [(0,.val (.row (l.map Pair.pv))),(1,.val (.str k)),(3,.val (.str v)),(9,.ref 0),(10,.val (.bool (decide ((!has) = true)))),(11,.val (.int .i64 0))] [.row 77 []] [none]
   ⟨0,!has,[],zF _,rfl,hca0,rfl,rfl⟩ (by simp only [go_sem]; try decide) ?_
 rintro m ls os ⟨i,d,out,hi,rfl,hca,rfl,rfl⟩
 refine V.exec 400 ?_
 have hol : out.length ≤ l.length + 1 := by have := congrArg List.length hca; rw [zJ] at this; omega
 by_cases hlt : i < l.length
 ·have hlt' : (i : Int) < (l.length : Int) := by omega
  obtain ⟨p,hp⟩ : ∃ x,l[i]? = some x := ⟨_,zA hlt⟩
  have hw : IntKind.i64.wrap ((i : Int) + 1) = ((i + 1 : Nat) : Int) := by rw [wrap_small3] <;> omega
  rw [drop_of_get hp] at hca
  cases d with
  | true =>
   by_cases hk : p.key = k
   ·have hn : out ++ restR true k v (l.drop (i + 1)) = RES := by rw [← hca]; simp [restR,hk]
    simp +contextual (maxSteps:=9^7) only [go_sem,hlt',hp,hw,hk,Pair.pv,decide_true]
    refine ⟨l.length - (i + 1),_,_,[some 0],by omega,⟨i + 1,true,out,by omega,rfl,hn,rfl,rfl⟩,?_⟩
    simp only [go_sem,decide_true]
   ·have hn : (out ++ [p]) ++ restR true k v (l.drop (i + 1)) = RES := by rw [← hca]; simp [restR,hk]
    simp +contextual (maxSteps:=9^7) only [go_sem,hlt',hp,hw,hk,Pair.pv,decide_true]
    refine ⟨⟨by omega,by omega⟩,l.length - (i + 1),_,_,[some 29],by omega,⟨i + 1,true,_,by omega,rfl,hn,rfl,rfl⟩,?_⟩
    simp only [go_sem,zM,zC,zB,Pair.pv,decide_true,decide_false]
  | false =>
   by_cases hs : slt p.key k
   ·have hk : ¬ p.key = k := fun e => slt_irrefl k (by rw [e] at hs; exact hs)
    have hn : (out ++ [p]) ++ restR false k v (l.drop (i + 1)) = RES := by rw [← hca]; simp [restR,insR,hs]
    simp +contextual (maxSteps:=9^7) only [go_sem,hlt',hp,hw,hk,hs,Pair.pv,decide_true,decide_false]
    refine ⟨⟨by omega,by omega⟩,l.length - (i + 1),_,_,[some 29],by omega,⟨i + 1,false,_,by omega,rfl,hn,rfl,rfl⟩,?_⟩
    simp only [go_sem,zM,zC,zB,Pair.pv,decide_true,decide_false]
   ·by_cases hk : p.key = k
    ·have hn : (out ++ [⟨k,v⟩]) ++ restR true k v (l.drop (i + 1)) = RES := by rw [← hca]; rw [hk] at hs; simp [restR,insR,hs,hk]
     have hsi := slt_irrefl k
     simp +contextual (maxSteps:=9^7) only [go_sem,hlt',hp,hw,hk,hsi,Pair.pv,decide_true,decide_false]
     refine ⟨⟨by omega,by omega⟩,l.length - (i + 1),_,_,[some 21],by omega,⟨i + 1,true,_,by omega,rfl,hn,rfl,rfl⟩,?_⟩
     simp only [go_sem,zM,zC,zB,Pair.pv,decide_true,decide_false]
    ·have hn : (out ++ [⟨k,v⟩,p]) ++ restR true k v (l.drop (i + 1)) = RES := by rw [← hca]; simp [restR,insR,hs,hk]
     simp +contextual (maxSteps:=9^7) only [go_sem,hlt',hp,hw,hk,hs,Pair.pv,decide_true,decide_false]
     refine ⟨⟨by omega,by omega⟩,⟨by simp; omega,by simp; omega⟩,l.length - (i + 1),_,_,[some 37],by omega,⟨i + 1,true,_,by omega,rfl,hn,rfl,rfl⟩,?_⟩
     simp only [go_sem,zM,zC,zB,Pair.pv,decide_true,decide_false,List.append_assoc,List.cons_append,List.nil_append]
 ·have hlt' : ¬ (i : Int) < (l.length : Int) := by omega
  have hd : l.drop i = [] := zK (by omega)
  rw [hd] at hca
  cases d with
  | true =>
   have : out = RES := by rw [← hca]; simp [restR]
   simp +contextual (maxSteps:=9^7) only [go_sem,hlt',this,decide_true]
  | false =>
   have hn : out ++ [⟨k,v⟩] = RES := by rw [← hca]; simp [restR,insR]
   simp +contextual (maxSteps:=9^7) only [go_sem,hlt',decide_false]
   refine ⟨⟨by omega,by omega⟩,?_⟩
   rw [← hn]; simp [Pair.pv]
end Go.Proofs.YtfemlllmglaimaaGreat
