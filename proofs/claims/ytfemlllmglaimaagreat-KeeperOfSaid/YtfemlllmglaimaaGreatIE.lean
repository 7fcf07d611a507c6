/- A part of a proof: functions of the program, walked. -/
import Derived.Test.YtfemlllmglaimaaGreatID
set_option linter.unusedVariables false
set_option linter.unusedSimpArgs false
set_option maxRecDepth 8000
namespace Go.Proofs.YtfemlllmglaimaaGreat
open Go Go.Proofs Go.Proofs.Zv Go.Proofs.YtfemlllmglaimaaGreat.Ty
open Go.Proofs.Tryz renaming prog → pG
open List renaming getElem?_eq_getElem → zA, map_nil → zB, map_cons → zC, take_of_length_le → zD, mem_of_getElem? → zE, mem_cons_self → zG, mem_cons_of_mem → zH, mem_cons → zI, length_append → zJ, drop_eq_nil_of_le → zK, take_add_one → zL, map_append → zM, mem_map → zN, mem_append → zO, eq_nil_of_length_eq_zero → zP, getElem?_eq_some_iff → zQ, getElem?_map → zS, length_cons → zT, length_take → zU, filter_append → zV, length_map → zW
open Nat renaming zero_le → zF, le_refl → zR
theorem insR_mem {k v : List UInt8} : ∀ (l : List Pair),Sorted l → ∀ p,p ∈ insR k v l ↔ p = ⟨k,v⟩ ∨ (p ∈ l ∧ p.key ≠ k)
 | [],_,p => by simp [insR]
 | q :: r,hs,p => by
  have hs' := hs
  cases hs with
  | cons h1 h2 =>
   have ih := insR_mem (k := k) (v := v) r h2 p
   unfold insR
   split
   ·rename_i hq
    have hne : q.key ≠ k := fun e => slt_irrefl k (by rw [e] at hq; exact hq)
    rw [zI,ih,zI]
    constructor
    ·rintro (rfl | h | h)
     ·exact .inr ⟨.inl rfl,hne⟩
     ·exact .inl h
     ·exact .inr ⟨.inr h.1,h.2⟩
    ·rintro (h | ⟨rfl | h,h3⟩)
     ·exact .inr (.inl h)
     ·exact .inl rfl
     ·exact .inr (.inr ⟨h,h3⟩)
   ·rw [zI,List.mem_filter]
    simp
theorem insR_sorted {k v : List UInt8} : ∀ (l : List Pair),Sorted l → Sorted (insR k v l)
 | [],_ => List.pairwise_singleton _ _
 | q :: r,hs => by
  have hs' := hs
  cases hs with
  | cons h1 h2 =>
   have ih := insR_sorted (k := k) (v := v) r h2
   unfold insR
   split
   ·rename_i hq
    refine List.pairwise_cons.2 ⟨fun p hp => ?_,ih⟩
    rcases (insR_mem r h2 p).1 hp with rfl | hp
    ·exact hq
    ·exact h1 p hp.1
   ·rename_i hq
    refine List.pairwise_cons.2 ⟨fun p hp => ?_,hs'.filter _⟩
    rw [List.mem_filter] at hp
    have hne : p.key ≠ k := by simpa using hp.2
    rcases slt_total k p.key with h | h | h
    ·exact h
    ·exact absurd h.symm hne
    ·exfalso
     rcases zI.1 hp.1 with rfl | hm
     ·exact hq h
     ·exact hq (slt_trans (h1 p hm) h)
theorem setR_sorted {l : List Pair} (hs : Sorted l) (k : List UInt8) (has : Bool) (v : List UInt8) : Sorted (setR l k has v) := by
 unfold setR; split
 ·exact insR_sorted l hs
 ·exact hs.filter _
theorem setR_val {l : List Pair} (hs : Sorted l) (k : List UInt8) (has : Bool) (v : List UInt8) (k' : List UInt8) : val (setR l k has v) k' = if k' = k then (if has = true then some v else none) else val l k' := by
 apply Option.ext
 intro w
 rw [val_iff (setR_sorted hs k has v)]
 unfold setR
 cases has with
 | true =>
  rw [if_pos rfl,insR_mem l hs]
  by_cases hk : k' = k
  ·subst hk; simp [eq_comm]
  ·rw [if_neg hk,val_iff hs]; simp [hk]
 | false =>
  rw [if_neg (by decide),List.mem_filter]
  by_cases hk : k' = k
  ·subst hk; simp
  ·rw [if_neg hk,val_iff hs]; simp [hk]
theorem setR_note {l : List Pair} (hs : Sorted l) (c : Change) : setR l c.key c.has c.aft = oneV l (noteC c) := by
 refine val_ext (setR_sorted hs _ _ _) (oneV_sorted hs _) fun k => ?_
 rw [setR_val hs,oneV_val hs,noteC_key]
 split
 ·unfold noteC
  split
  ·rw [stepO_put _ rfl]
  ·rw [stepO_del _ rfl]
 ·rfl
theorem setR_len (l : List Pair) (k : List UInt8) (has : Bool) (v : List UInt8) : (setR l k has v).length ≤ l.length + 1 := by
 have := restR_len (!has) k v l
 cases has <;> exact this
theorem fits_iff {l : List Pair} (h : pairsOk l) {c : Change} (hc : c.ok) : fitsP l c.key c.had c.bef ↔ fitC l c := by
 unfold fitsP fitC getV
 rw [if_pos h]
 cases getL l c.key with
 | none =>
  simp only [Prod.mk.injEq]
  constructor
  ·intro h1
   rcases hc.2.2.2.2.2.1 with h2 | h2
   ·rw [h1] at h2; cases h2
   ·exact ⟨h2.symm,h1.symm⟩
  ·rintro ⟨_,h2⟩; exact h2.symm
 | some p =>
  simp only [Prod.mk.injEq]
  constructor
  ·rintro ⟨h1,h2⟩; exact ⟨h2,h1.symm⟩
  ·rintro ⟨h1,h2⟩; exact ⟨h2.symm,h1⟩
theorem turn_ok (c : Change) : (turnC c).ok ↔ c.ok := by
 unfold Change.ok turnC
 simp only
 grind
set_option maxRecDepth 10000 in
set_option maxHeartbeats 16000000 in
theorem ref15_Undo (l : List Pair) (cs : List Change) (hl : l.length ≤ 200000) (hn : cs.length ≤ 200000) : Ct pG 67 (Zv.ops [.row (l.map Pair.pv),.row (cs.map Change.pv)]) (.vals [.row ((undoV l cs).1.map Pair.pv),.bool (decide ((undoV l cs).2 = 0))]) := by
 unfold undoV
 obtain ⟨ds,hds⟩ : ∃ ds,ds = cs.reverse.map turnC := ⟨_,rfl⟩
 have hdl : ds.length = cs.length := by rw [hds]; simp
 rw [← hds]
 have hwn : IntKind.i64.wrap ((cs.length : Int) - 1) = (cs.length : Int) - 1 := by rw [wrap_small3] <;> omega
 refine Ct.of_V Tryz.func67 rfl (by simp [Zv.ops,Tryz.f67]) ?_
 refine V.exec 400 ?_
 simp +contextual (maxSteps:=9^7) only [go_sem,Tryz.f67]
 refine V.call rfl rfl (by simp [dOK]) ⟨64,[],by simp only [go_sem],⟨_,rfl,rfl,rfl⟩,.inl ⟨[.row (l.map Pair.pv)],_,.inl (by simp only [go_sem]),ref10_Right l (by omega),.inl ⟨_,rfl,rfl,rfl,rfl⟩⟩⟩ ?_
 refine V.exec 400 ?_
 simp +contextual (maxSteps:=9^7) only [go_sem,hwn]
 refine V.loop (fun m ls os => ∃ (i : Nat) (ok : Bool) (cur : List Pair),i ≤ cs.length ∧ m = cs.length - i ∧ (ok = true → pairsOk cur ∧ cur.length ≤ l.length + i ∧ pairsOk l ∧ doGo cur (ds.drop i) = doGo l ds) ∧ (ok = false → doV l ds = (l,1)) ∧
    ls = [(0,.val (.row (l.map Pair.pv))),(1,.val (.row (cs.map Change.pv))),(6,.val (.bool (decide (ok = true)))),(7,.val (.row (cur.map Pair.pv))),(8,.val (.int .i64 ((cs.length : Int) - 1 - i)))] ∧ os = []) 0 cs.length
   [(0,.val (.row (l.map Pair.pv))),(1,.val (.row (cs.map Change.pv))),(6,.val (.bool (decide (decide (pairsOk l) = true)))),(7,.val (.row (l.map Pair.pv))),(8,.val (.int .i64 ((cs.length : Int) - 1)))] [] []
   ⟨0,decide (pairsOk l),l,zF _,rfl,fun h => ⟨by simpa using h,zR _,by simpa using h,rfl⟩,fun h => by unfold doV; rw [if_neg (by simpa using h)],by simp,rfl⟩ (by simp only [go_sem,decide_eq_true_eq,Int.sub_zero,Int.natCast_zero]) ?_
 rintro m ls os ⟨i,ok,cur,hi,rfl,hgood,hbad,rfl,rfl⟩
 refine V.exec 400 ?_
 cases ok with
 | false =>
  have hv := hbad rfl
  by_cases hlt : (0 : Int) ≤ (cs.length : Int) - 1 - i
  ·simp +contextual (maxSteps:=9^7) only [go_sem,hlt,hv,decide_false]
   rfl
  ·simp +contextual (maxSteps:=9^7) only [go_sem,hlt,hv,decide_false]
   rfl
 | true =>
  obtain ⟨hco,hcl,hok,hca⟩ := hgood rfl
  by_cases hlt : i < cs.length
  ·have hlt' : (0 : Int) ≤ (cs.length : Int) - 1 - i := by omega
   have hnat : ((cs.length : Int) - 1 - i).toNat = cs.length - 1 - i := by omega
   obtain ⟨z,hx⟩ : ∃ x,cs[cs.length - 1 - i]? = some x := ⟨_,zA (by omega)⟩
   obtain ⟨x,hxz⟩ : ∃ x,x = turnC z := ⟨_,rfl⟩
   have hdx : ds[i]? = some x := by rw [hds,zS,List.getElem?_reverse hlt,hx,hxz]; rfl
   have hzo : z.ok ↔ x.ok := by rw [hxz]; exact (turn_ok z).symm
   have z1 : z.key = x.key := by rw [hxz]; rfl
   have z2 : z.had = x.has := by rw [hxz]; rfl
   have z3 : z.bef = x.aft := by rw [hxz]; rfl
   have z4 : z.has = x.had := by rw [hxz]; rfl
   have z5 : z.aft = x.bef := by rw [hxz]; rfl
   have hw : IntKind.i64.wrap ((cs.length : Int) - 1 - i - 1) = (cs.length : Int) - 1 - ((i + 1 : Nat) : Int) := by rw [wrap_small3] <;> omega
   have hsc := ((pairsOk_iff cur).1 hco).1
   rw [drop_of_get hdx,doGo] at hca
   simp +contextual (maxSteps:=9^7) only [go_sem,hlt',hnat,hx,Change.pv,decide_true]
   refine DV.call [] [] (by simp only [go_sem,Change.pv]) (by simp [dOK]) ⟨111,[],by simp only [go_sem,Change.pv],⟨_,rfl,rfl,rfl⟩,.inl ⟨[z.pv],_,.inl (by simp only [go_sem,Change.pv]),ref13_May z,.inl ⟨_,rfl,rfl,rfl,rfl⟩⟩⟩ (by simp only [go_sem,Change.pv]) (by simp only [go_sem,Change.pv]) (by simp only [go_sem,Change.pv]) (by simp) ?_
   refine DV.exec 400 ?_
   rw [show decide z.ok = decide x.ok from decide_eq_decide.2 hzo]
   simp +contextual (maxSteps:=9^7) only [go_sem,hlt',hnat,hx,Change.pv,z1,z2,z3,z4,z5]
   refine DV.call [] [] (by simp only [go_sem]) (by simp [dOK]) ⟨112,[],by simp only [go_sem],⟨_,rfl,rfl,rfl⟩,.inl ⟨[.row (cur.map Pair.pv),.str x.key,.bool (decide (x.had = true)),.str x.bef],_,.inl (by simp only [go_sem]),ref15_fits cur x.key x.had x.bef (by omega) hsc,.inl ⟨_,rfl,rfl,rfl,rfl⟩⟩⟩ (by simp only [go_sem]) (by simp only [go_sem]) (by simp only [go_sem]) (by simp) ?_
   refine DV.exec 400 ?_
   have cs0 := ref15_set cur x.key x.has x.aft (by omega)
   have hsl := setR_len cur x.key x.has x.aft
   by_cases hm : x.ok
   ·by_cases hf : fitsP cur x.key x.had x.bef
    ·have hgo := if_pos (c := x.ok ∧ fitC cur x) ⟨hm,(fits_iff hco hm).1 hf⟩ ▸ hca
     rw [setR_note hsc x] at cs0 hsl
     have hoo := oneV_pairsOk hco (noteC_ok hm)
     simp +contextual (maxSteps:=9^7) only [go_sem,hlt',hnat,hx,hm,hf,Change.pv,z1,z2,z3,z4,z5]
     refine ⟨by kernel_rfl,?_⟩
     refine DV.call [] [] (by simp only [go_sem]) (by simp [dOK]) ⟨113,[],by simp only [go_sem],⟨_,rfl,rfl,rfl⟩,.inl ⟨[.row (cur.map Pair.pv),.str x.key,.bool (decide (x.has = true)),.str x.aft],_,.inl (by simp only [go_sem]),cs0,.inr (.inl ⟨_,rfl,rfl,rfl⟩)⟩⟩ (by simp only [go_sem]) (by simp only [go_sem]) (by simp only [go_sem]) (by simp) ?_
     refine DV.exec 400 ?_
     simp +contextual (maxSteps:=9^7) only [go_sem,hw]
     refine ⟨by kernel_rfl,cs.length - (i + 1),_,[],[],by omega,⟨i + 1,true,_,by omega,rfl,fun _ => ⟨hoo,by omega,hok,hgo⟩,fun h => (by cases h),rfl,rfl⟩,?_⟩
     simp only [go_sem,decide_true]
    ·have hv : doV l ds = (l,1) := by
      rw [if_neg (fun h => hf ((fits_iff hco h.1).2 h.2))] at hca
      unfold doV; rw [if_pos hok,← hca]
     simp +contextual (maxSteps:=9^7) only [go_sem,hlt',hnat,hx,hm,hf,Change.pv,z1,z2,z3,z4,z5]
     refine ⟨by kernel_rfl,?_⟩
     refine DV.call [] [] (by simp only [go_sem]) (by simp [dOK]) ⟨113,[],by simp only [go_sem],⟨_,rfl,rfl,rfl⟩,.inl ⟨[.row (cur.map Pair.pv),.str x.key,.bool (decide (x.has = true)),.str x.aft],_,.inl (by simp only [go_sem]),cs0,.inr (.inl ⟨_,rfl,rfl,rfl⟩)⟩⟩ (by simp only [go_sem]) (by simp only [go_sem]) (by simp only [go_sem]) (by simp) ?_
     refine DV.exec 400 ?_
     simp +contextual (maxSteps:=9^7) only [go_sem,hw]
     refine ⟨by kernel_rfl,cs.length - (i + 1),_,[],[],by omega,⟨i + 1,false,setR cur x.key x.has x.aft,by omega,rfl,fun h => (by cases h),fun _ => hv,rfl,rfl⟩,?_⟩
     simp only [go_sem,decide_false]
   ·have hv : doV l ds = (l,1) := by
     rw [if_neg (fun h => hm h.1)] at hca
     unfold doV; rw [if_pos hok,← hca]
    simp +contextual (maxSteps:=9^7) only [go_sem,hlt',hnat,hx,hm,Change.pv,z1,z2,z3,z4,z5]
    refine ⟨by kernel_rfl,?_⟩
    refine DV.call [] [] (by simp only [go_sem]) (by simp [dOK]) ⟨113,[],by simp only [go_sem],⟨_,rfl,rfl,rfl⟩,.inl ⟨[.row (cur.map Pair.pv),.str x.key,.bool (decide (x.has = true)),.str x.aft],_,.inl (by simp only [go_sem]),cs0,.inr (.inl ⟨_,rfl,rfl,rfl⟩)⟩⟩ (by simp only [go_sem]) (by simp only [go_sem]) (by simp only [go_sem]) (by simp) ?_
    refine DV.exec 400 ?_
    simp +contextual (maxSteps:=9^7) only [go_sem,hw]
    refine ⟨by kernel_rfl,cs.length - (i + 1),_,[],[],by omega,⟨i + 1,false,setR cur x.key x.has x.aft,by omega,rfl,fun h => (by cases h),fun _ => hv,rfl,rfl⟩,?_⟩
    simp only [go_sem,decide_false]
  ·have hlt' : ¬ (0 : Int) ≤ (cs.length : Int) - 1 - i := by omega
   have hd : ds.drop i = [] := zK (by rw [hdl]; omega)
   rw [hd,doGo] at hca
   have hv : doV l ds = (cur,0) := by unfold doV; rw [if_pos hok,← hca]
   simp +contextual (maxSteps:=9^7) only [go_sem,hlt',hv,decide_true]
theorem turn_key (c : Change) : (turnC c).key = c.key := rfl
theorem val_note {l : List Pair} (hs : Sorted l) (c : Change) (k : List UInt8) : val (oneV l (noteC c)) k = if k = c.key then (if c.has = true then some c.aft else none) else val l k := by
 rw [← setR_note hs,setR_val hs]
theorem fitC_val {l : List Pair} (h : pairsOk l) {c : Change} (hc : c.ok) : fitC l c ↔ val l c.key = (if c.had = true then some c.bef else none) := by
 unfold fitC
 rw [getV_val h]
 cases hv : val l c.key with
 | none =>
  simp only [Prod.mk.injEq]
  cases hh : c.had with
  | true => simp
  | false =>
   have := hc.2.2.2.2.2.1
   rw [hh] at this
   simp at this
   simp [this]
 | some v =>
  simp only [Prod.mk.injEq]
  cases hh : c.had with
  | true => simp
  | false => simp
theorem doGo_app : ∀ (xs ys : List Change) (l : List Pair),doGo l (xs ++ ys) = (doGo l xs).bind fun p => doGo p ys
 | [],_,_ => rfl
 | c :: r,ys,l => by
  simp only [List.cons_append,doGo]
  split
  ·exact doGo_app r ys _
  ·rfl
theorem doGo_ok : ∀ (cs : List Change) {l a : List Pair},pairsOk l → doGo l cs = some a → pairsOk a ∧ ∀ c ∈ cs,c.ok
 | [],l,a,h,e => by cases e; exact ⟨h,by simp⟩
 | c :: r,l,a,h,e => by
  simp only [doGo] at e
  split at e
  ·rename_i hc
   have ih := doGo_ok r (oneV_pairsOk h (noteC_ok hc.1)) e
   exact ⟨ih.1,fun x hx => by
    rcases zI.1 hx with rfl | hx
    ·exact hc.1
    ·exact ih.2 x hx⟩
  ·cases e
theorem turn_fit {l : List Pair} (h : pairsOk l) {c : Change} (hc : c.ok) : fitC (oneV l (noteC c)) (turnC c) := by
 have hp := oneV_pairsOk h (noteC_ok hc)
 rw [fitC_val hp ((turn_ok c).2 hc),turn_key,val_note ((pairsOk_iff l).1 h).1,if_pos rfl]
 rfl
theorem turn_back {l : List Pair} (h : pairsOk l) {c : Change} (hc : c.ok) (hf : fitC l c) : oneV (oneV l (noteC c)) (noteC (turnC c)) = l := by
 have hs := ((pairsOk_iff l).1 h).1
 have hp := oneV_pairsOk h (noteC_ok hc)
 have hsp := ((pairsOk_iff _).1 hp).1
 refine val_ext (oneV_sorted hsp _) hs fun k => ?_
 rw [val_note hsp,turn_key]
 split
 ·rename_i e
  rw [e,(fitC_val h hc).1 hf]; rfl
 ·rename_i hk
  rw [val_note hs,if_neg hk]
theorem doGo_undo : ∀ (cs : List Change) {l a : List Pair},pairsOk l → doGo l cs = some a → doGo a (cs.reverse.map turnC) = some l
 | [],l,a,h,e => by cases e; rfl
 | c :: r,l,a,h,e => by
  simp only [doGo] at e
  split at e
  ·rename_i hc
   have ih := doGo_undo r (oneV_pairsOk h (noteC_ok hc.1)) e
   rw [List.reverse_cons,zM,doGo_app,ih,Option.bind_some]
   simp only [zC,zB,doGo]
   rw [if_pos ⟨(turn_ok c).2 hc.1,turn_fit h hc.1⟩,turn_back h hc.1 hc.2]
  ·cases e
theorem doV_zero {l a : List Pair} {cs : List Change} : doV l cs = (a,0) ↔ pairsOk l ∧ doGo l cs = some a := by
 unfold doV
 split
 ·rename_i h
  cases hg : doGo l cs with
  | none => simp
  | some q => simp [h]
 ·rename_i h
  simp [h]
theorem oneV_grow {l : List Pair} (h : pairsOk l) (n : Note) : (oneV l n).length ≤ l.length + 1 := oneV_len ((pairsOk_iff l).1 h).1 n
theorem doGo_len : ∀ (cs : List Change) {l a : List Pair},pairsOk l → doGo l cs = some a → a.length ≤ l.length + cs.length
 | [],l,a,h,e => by cases e; exact zR _
 | c :: r,l,a,h,e => by
  simp only [doGo] at e
  split at e
  ·rename_i hc
   have h1 := doGo_len r (oneV_pairsOk h (noteC_ok hc.1)) e
   have h2 := oneV_grow h (noteC c)
   simp only [zT]; omega
  ·cases e
theorem notes_all17 (ns : List Note) : notesOk' ns = notesAll ns := rfl
theorem one_slice {α : Type} {l : List α} {i : Nat} {x : α} (h : l[i]? = some x) : (l.take (i + 1)).drop i = [x] := by
 rw [zL,h,List.drop_append_of_le_length (by have := (zQ.1 h).1; simp; omega)]
 rw [zK (by simp; omega)]; rfl
set_option maxRecDepth 10000 in
set_option maxHeartbeats 16000000 in
theorem ref17_Run (l : List Pair) (seq : Int) (ns : List Note) (hl : l.length ≤ 100000) (hn : ns.length ≤ 100000) (hseq : seq ≤ 9223372036854775807) : Ct pG 89 (Zv.ops [.row (l.map Pair.pv),.int .i64 seq,.row (ns.map Note.pv)]) (.vals [.row ((runV l seq ns).1.map Change.pv),.row ((runV l seq ns).2.1.map Pair.pv),.int .i64 (runV l seq ns).2.2]) := by
 have cA := ref09_All ns (by omega)
 simp only [notes_all17] at cA
 have hbad : ¬ (batchOk ns ∧ pairsOk l ∧ 0 ≤ seq ∧ seq ≤ 2147483647) → runV l seq ns = ([],l,1) := fun h => by unfold runV; rw [if_neg h]
 refine Ct.of_V Tryz.func89 rfl (by simp [Zv.ops,Tryz.f89]) ?_
 refine V.exec 400 ?_
 simp +contextual (maxSteps:=9^7) only [go_sem,Tryz.f89]
 refine V.call rfl rfl (by simp [dOK]) ⟨64,[],by simp only [go_sem],⟨_,rfl,rfl,rfl⟩,.inl ⟨[.row (l.map Pair.pv)],_,.inl (by simp only [go_sem]),ref10_Right l (by omega),.inl ⟨_,rfl,rfl,rfl,rfl⟩⟩⟩ ?_
 refine V.exec 400 ?_
 simp +contextual (maxSteps:=9^7) only [go_sem]
 refine V.call rfl rfl (by simp [dOK]) ⟨134,[],by simp only [go_sem],⟨_,rfl,rfl,rfl⟩,.inl ⟨[.row (ns.map Note.pv)],_,.inl (by simp only [go_sem]),cA,.inl ⟨_,rfl,rfl,rfl,rfl⟩⟩⟩ ?_
 refine V.exec 400 ?_
 by_cases hok : pairsOk l
 ·by_cases hall : notesAll ns
  ·by_cases h8 : ns.length ≤ 8
   ·have h8' : ¬ (8 : Int) < (ns.length : Int) := by omega
    have hb : batchOk ns := ⟨h8,hall⟩
    by_cases h1 : seq < 0
    ·have hv := hbad fun h => by omega
     simp +contextual (maxSteps:=9^7) only [go_sem,hok,hall,h8',h1,hv,zB]
    ·by_cases h2' : 2147483647 < seq
     ·have hv := hbad fun h => by omega
      simp +contextual (maxSteps:=9^7) only [go_sem,hok,hall,h8',h1,h2',hv,zB]
     ·have hwl : IntKind.i64.wrap (seq + (ns.length : Int)) = seq + (ns.length : Int) := by rw [wrap_small3] <;> omega
      by_cases h3 : 2147483647 < seq + (ns.length : Int)
      ·have hv : runV l seq ns = ([],l,5) := by unfold runV; rw [if_pos ⟨hb,hok,by omega,by omega⟩,if_pos (by omega)]
       simp +contextual (maxSteps:=9^7) only [go_sem,hok,hall,h8',h1,h2',hwl,h3,hv,zB]
      ·have hv : runV l seq ns = ((runGo l seq [] ns).1,(runGo l seq [] ns).2,0) := by unfold runV; rw [if_pos ⟨hb,hok,by omega,by omega⟩,if_neg (by omega)]
       rw [hv]
       obtain ⟨RO,RP,hR⟩ : ∃ a b,runGo l seq [] ns = (a,b) := ⟨_,_,rfl⟩
       rw [hR]
       simp only
       simp +contextual (maxSteps:=9^7) only [go_sem,hok,hall,h8',h1,h2',hwl,h3]
       refine V.loop (fun m ls os => ∃ (i : Nat) (out : List Change) (cur : List Pair),i ≤ ns.length ∧ m = ns.length - i ∧ pairsOk cur ∧ cur.length ≤ l.length + i ∧ out.length ≤ i ∧ runGo cur seq out (ns.drop i) = (RO,RP) ∧
         ls = [(1,.val (.int .i64 (seq + (out.length : Int)))),(2,.val (.row (ns.map Note.pv))),(11,.ref 0),(12,.val (.row (cur.map Pair.pv))),(13,.val (.int .i64 i))] ∧ os = [.row 89 (out.map Change.pv)]) 1 ns.length
        [(1,.val (.int .i64 seq)),(2,.val (.row (ns.map Note.pv))),(11,.ref 0),(12,.val (.row (l.map Pair.pv))),(13,.val (.int .i64 0))] [.row 89 []] [none]
        ⟨0,[],l,zF _,rfl,hok,zR _,zR _,hR,by simp,rfl⟩ (by simp only [go_sem]; try decide) ?_
       rintro m ls os ⟨i,out,cur,hi,rfl,hco,hcl,hol,hca,rfl,rfl⟩
       refine V.exec 400 ?_
       by_cases hlt : i < ns.length
       ·have hlt' : (i : Int) < (ns.length : Int) := by omega
        obtain ⟨x,hx⟩ : ∃ x,ns[i]? = some x := ⟨_,zA hlt⟩
        have hxo : x.ok := hb.2 x (zE hx)
        have hw : IntKind.i64.wrap ((i : Int) + 1) = ((i + 1 : Nat) : Int) := by rw [wrap_small3] <;> omega
        have hw2 : IntKind.i64.wrap (seq + (out.length : Int) + 1) = seq + (out.length : Int) + 1 := by rw [wrap_small3] <;> omega
        have co := ref15_Of cur (seq + (out.length : Int) + 1) x (by omega)
        have hno := fun h => (@ofV_none cur (seq + (out.length : Int) + 1) x hco hxo (by omega) (by omega) h).1
        have ca := ref10_Apply cur [x] (by omega) (by simp)
        rw [applyV_ok hco ((notesOk_one x).2 hxo)] at ca
        have e1 : appV cur [x] = oneV cur x := rfl
        rw [e1] at ca
        simp only at ca
        rw [drop_of_get hx,runGo] at hca
        have hoo := oneV_pairsOk hco hxo
        have hol2 := oneV_len ((pairsOk_iff cur).1 hco).1 x
        have hcast : ∀ n : Nat,seq + ((n + 1 : Nat) : Int) = seq + (n : Int) + 1 := fun n => by omega
        have hxs := one_slice (l := ns.map Note.pv) (i := i) (x := x.pv) (by rw [zS,hx]; rfl)
        obtain ⟨c,e,hC⟩ : ∃ a b,ofV cur (seq + (out.length : Int) + 1) x = (a,b) := ⟨_,_,rfl⟩
        rw [hC] at co hca hno
        simp only at co hca hno
        simp +contextual (maxSteps:=9^7) only [go_sem,hlt',hx,Note.pv,hw2]
        refine V.call rfl rfl (by simp [dOK]) ⟨135,[],by simp only [go_sem],⟨_,rfl,rfl,rfl⟩,.inl ⟨[.row (cur.map Pair.pv),.int .i64 (seq + (out.length : Int) + 1),x.pv],_,.inl (by simp only [go_sem,Note.pv]),co,.inr (.inl ⟨_,rfl,rfl,rfl⟩)⟩⟩ ?_
        refine V.exec 400 ?_
        simp +contextual (maxSteps:=9^7) only [go_sem,Change.pv,hw]
        refine ⟨⟨by omega,by omega,fun j _ => rfl⟩,?_⟩
        refine V.call rfl rfl (by simp [dOK]) ⟨136,[],by simp only [go_sem],⟨_,rfl,rfl,rfl⟩,.inl ⟨[.row (cur.map Pair.pv),.row ([x].map Note.pv)],_,.inl (by simp only [go_sem,hxs,Note.pv,zC,zB]),ca,.inr (.inl ⟨_,rfl,rfl,rfl⟩)⟩⟩ ?_
        refine V.exec 400 ?_
        by_cases he : e = 0
        ·rw [if_pos he] at hca
         subst he
         simp +contextual (maxSteps:=9^7) only [go_sem,Change.pv,hw2,hw]
         refine ⟨⟨by omega,by omega⟩,ns.length - (i + 1),_,_,[some 35],by omega,⟨i + 1,out ++ [c],oneV cur x,by omega,rfl,hoo,by omega,by simp; omega,hca,rfl,rfl⟩,?_⟩
         simp only [go_sem,zM,zC,zB,Change.pv,zJ,zT,List.length_nil,Nat.zero_add,hcast]
         try decide
        ·rw [if_neg he] at hca
         rw [hno he] at hoo hol2
         simp +contextual (maxSteps:=9^7) only [go_sem,Change.pv,he,hw]
         refine ⟨ns.length - (i + 1),_,_,[some 0],by omega,⟨i + 1,out,cur,by omega,rfl,hco,by omega,by omega,hca,rfl,rfl⟩,?_⟩
         simp only [go_sem,hno he]
         try decide
       ·have hlt' : ¬ (i : Int) < (ns.length : Int) := by omega
        have hd : ns.drop i = [] := zK (by omega)
        rw [hd,runGo,Prod.mk.injEq] at hca
        obtain ⟨rfl,rfl⟩ := hca
        simp +contextual (maxSteps:=9^7) only [go_sem,hlt']
   ·have h8' : (8 : Int) < (ns.length : Int) := by omega
    have hv := hbad fun h => h8 h.1.1
    simp +contextual (maxSteps:=9^7) only [go_sem,hok,hall,h8',hv,zB]
  ·have hv := hbad fun h => hall h.1.2
   simp +contextual (maxSteps:=9^7) only [go_sem,hok,hall,hv,zB]
 ·have hv := hbad fun h => hok h.2.1
  simp +contextual (maxSteps:=9^7) only [go_sem,hok,hv,zB]
theorem runGo_facts : ∀ (ns : List Note) (p : List Pair) (seq : Int) (out : List Change),pairsOk p → notesAll ns →
  (runGo p seq out ns).1.length ≤ out.length + ns.length ∧ (runGo p seq out ns).2.length ≤ p.length + ns.length ∧ pairsOk (runGo p seq out ns).2
 | [],p,seq,out,hp,_ => ⟨zR _,zR _,hp⟩
 | n :: r,p,seq,out,hp,hn => by
  have hx := hn n zG
  have hr : notesAll r := fun y hy => hn y (zH _ hy)
  unfold runGo
  split
  ·have ih := runGo_facts r (oneV p n) seq (out ++ [(ofV p (seq + out.length + 1) n).1]) (oneV_pairsOk hp hx) hr
   have hl := oneV_len ((pairsOk_iff p).1 hp).1 n
   rw [zJ,List.length_singleton] at ih
   rw [zT]
   exact ⟨by omega,by omega,ih.2.2⟩
  ·have ih := runGo_facts r p seq out hp hr
   rw [zT]
   exact ⟨by omega,by omega,ih.2.2⟩
theorem runV_facts {l : List Pair} {seq : Int} {ns : List Note} (h : (runV l seq ns).2.2 = 0) :
  batchOk ns ∧ pairsOk l ∧ 0 ≤ seq ∧ seq + (ns.length : Int) ≤ 2147483647 ∧ (runV l seq ns).1.length ≤ ns.length ∧ (runV l seq ns).2.1.length ≤ l.length + ns.length ∧ pairsOk (runV l seq ns).2.1 ∧ runV l seq ns = ((runGo l seq [] ns).1,(runGo l seq [] ns).2,0) := by
 unfold runV at *
 split at h
 ·rename_i hc
  rw [if_pos hc]
  split at h
  ·cases h
  ·rename_i h3
   rw [if_neg h3]
   have hf := runGo_facts ns l seq [] hc.2.1 hc.1.2
   simp only [List.length_nil,Nat.zero_add] at hf
   exact ⟨hc.1,hc.2.1,hc.2.2.1,by omega,hf.1,hf.2.1,hf.2.2,rfl⟩
 ·cases h
def smallP (l : List Pair) : Prop := l.length ≤ 60 ∧ ∀ p ∈ l,p.key.length ≤ 300 ∧ p.value.length ≤ 300
instance instSmallP (l : List Pair) : Decidable (smallP l) := by unfold smallP; infer_instance
def fewN17 (l : List Note) : Prop := l.length ≤ 20 ∧ ∀ p ∈ l,p.key.length ≤ 300 ∧ p.value.length ≤ 300
instance instFewN17 (l : List Note) : Decidable (fewN17 l) := by unfold fewN17; infer_instance
theorem note_one17 (qs : List PV) (hk : qs.map PV.kd = [.int .i64,.str,.str,.int .u64]) : ∃ s : Note,PV.agg qs = s.pv := by
 match qs,hk with
 | [.int k n,.str a,.str b,.int k' m],hk =>
  simp only [zC,PV.kd,List.cons.injEq,KD.int.injEq] at hk
  obtain ⟨rfl,_,_,rfl,_⟩ := hk
  exact ⟨⟨n,a,b,m⟩,by simp [Note.pv]⟩
theorem note_of17 (xs : List PV) (h : ∀ x ∈ xs,∃ qs,x = .agg qs ∧ qs.map PV.kd = [.int .i64,.str,.str,.int .u64] ∧ ∀ q ∈ qs,q.wfv) : ∃ t : List Note,xs = t.map Note.pv := by
 induction xs with
 | nil => exact ⟨[],rfl⟩
 | cons x r ih =>
  obtain ⟨t,rfl⟩ := ih (fun y hy => h y (zH _ hy))
  obtain ⟨qs,rfl,hk,hw⟩ := h x zG
  obtain ⟨s,hs⟩ := note_one17 qs hk
  exact ⟨s :: t,by simp [hs]⟩
def Consec (base : Int) (c : List Change) : Prop := ∀ (j : Nat) (x : Change),c[j]? = some x → x.seq = base + j + 1
theorem Consec.snoc {base : Int} {c : List Change} {x : Change} (h : Consec base c) (hx : x.seq = base + c.length + 1) : Consec base (c ++ [x]) := fun j y hj => by
 by_cases hlt : j < c.length
 ·rw [List.getElem?_append_left hlt] at hj; exact h j y hj
 ·rw [List.getElem?_append_right (by omega)] at hj
  by_cases he : j = c.length
  ·subst he
   simp at hj
   rw [← hj]; exact hx
  ·have : j - c.length ≠ 0 := by omega
   rw [List.getElem?_singleton] at hj
   rw [if_neg this] at hj; cases hj
theorem Consec.app {base : Int} {c d : List Change} (h : Consec base c) (hd : Consec (base + c.length) d) : Consec base (c ++ d) := fun j y hj => by
 by_cases hlt : j < c.length
 ·rw [List.getElem?_append_left hlt] at hj; exact h j y hj
 ·rw [List.getElem?_append_right (by omega)] at hj
  have := hd _ y hj
  rw [this]; omega
theorem runGo_lead (l : List Pair) (hl : pairsOk l) : ∀ (ns : List Note) (p : List Pair) (seq : Int) (out : List Change),pairsOk p → notesAll ns → 0 ≤ seq + out.length → seq + out.length + ns.length ≤ 2147483647 →
  doGo l out = some p → Consec seq out → doGo l (runGo p seq out ns).1 = some (runGo p seq out ns).2 ∧ Consec seq (runGo p seq out ns).1 ∧ appV p ns = (runGo p seq out ns).2
 | [],p,seq,out,_,_,_,_,hd,hc => ⟨hd,hc,rfl⟩
 | n :: r,p,seq,out,hp,hn,h0,hm,hd,hc => by
  have hx := hn n zG
  have hr : notesAll r := fun y hy => hn y (zH _ hy)
  simp only [zT] at hm
  unfold runGo
  have e : appV p (n :: r) = appV (oneV p n) r := rfl
  rw [e]
  split
  ·rename_i h
   obtain ⟨g1,g2,g3,g4,g5,g6⟩ := ofV_does h
   refine runGo_lead l hl r (oneV p n) seq _ (oneV_pairsOk hp hx) hr (by rw [zJ,List.length_singleton]; omega) (by rw [zJ,List.length_singleton]; omega) ?_ (hc.snoc g6)
   rw [doGo_app,hd,Option.bind_some]
   exact (doV_zero.1 g4).2
  ·rename_i h
   obtain ⟨g1,_⟩ := ofV_none hp hx (by omega) (by omega) h
   rw [g1]
   exact runGo_lead l hl r p seq out hp hr h0 (by omega) hd hc
theorem runV_lead {l : List Pair} {seq : Int} {ns : List Note} (h : (runV l seq ns).2.2 = 0) : pairsOk l ∧ notesAll ns ∧ pairsOk (runV l seq ns).2.1 ∧ doGo l (runV l seq ns).1 = some (runV l seq ns).2.1 ∧ Consec seq (runV l seq ns).1 ∧ appV l ns = (runV l seq ns).2.1 := by
 obtain ⟨h1,h2,h3,h4,h5,h6,h7,h8⟩ := runV_facts h
 have := runGo_lead l h2 ns l seq [] h2 h1.2 (by simpa using h3) (by simpa using h4) rfl (fun j x hj => by simp at hj)
 rw [h8]
 rw [h8] at h7
 exact ⟨h2,h1.2,h7,this⟩
theorem consec_trail {base : Int} : ∀ (c : List Change) (k : Option Int) (b : Int),(∀ s,k = some s → s ≤ b) → (∀ x ∈ c,x.ok) → Consec b c → trailFrom k c
 | [],_,_,_,_,_ => trivial
 | x :: r,k,b,hk,ho,hc => by
  have hx : x.seq = b + 1 := by have := hc 0 x rfl; simpa using this
  refine ⟨ho x zG,fun s hs => by have := hk s hs; omega,consec_trail (base := base) r (some x.seq) (b + 1) (fun s hs => by cases hs; omega) (fun y hy => ho y (zH _ hy)) (fun j y hj => ?_)⟩
  have := hc (j + 1) y hj
  rw [this]; omega
set_option maxRecDepth 4000 in
set_option maxHeartbeats 8000000 in
theorem ref16_Right (l : List Change) (hl : l.length ≤ 1000000) : Ct pG 65 (Zv.ops [.row (l.map Change.pv)]) (.vals [.bool (decide (trailOk l))]) := by
 refine Ct.of_V Tryz.func65 rfl (by simp [Zv.ops,Tryz.f65]) ?_
 refine V.exec 400 ?_
 simp +contextual (maxSteps:=9^7) only [go_sem,Tryz.f65]
 refine V.loop (fun m ls os => ∃ (i : Nat),i ≤ l.length ∧ m = l.length - i ∧ (trailOk l ↔ trailFrom (prevSeq l i) (l.drop i)) ∧
    ls = [(0,.val (.row (l.map Change.pv))),(3,.val (.int .i64 i))] ∧ os = []) 0 l.length
   [(0,.val (.row (l.map Change.pv))),(3,.val (.int .i64 0))] [] []
   ⟨0,zF _,rfl,Iff.rfl,rfl,rfl⟩ (by simp only [go_sem]) ?_
 rintro m ls os ⟨i,hi,rfl,hiff,rfl,rfl⟩
 refine V.exec 400 ?_
 by_cases hlt : i < l.length
 ·have hlt' : (i : Int) < (l.length : Int) := by omega
  obtain ⟨x,hx⟩ : ∃ x,l[i]? = some x := ⟨_,zA hlt⟩
  have hw : IntKind.i64.wrap ((i : Int) + 1) = ((i + 1 : Nat) : Int) := by rw [wrap_small3] <;> omega
  rw [drop_of_get hx,trailFrom] at hiff
  have hpk : prevSeq l (i + 1) = some x.seq := by simp [prevSeq,hx]
  have fin : x.ok → (∀ k,prevSeq l i = some k → k < x.seq) → (trailOk l ↔ trailFrom (prevSeq l (i + 1)) (l.drop (i + 1))) := fun a b => by
   rw [hiff,hpk]; exact ⟨fun h => h.2.2,fun h => ⟨a,b,h⟩⟩
  have hfalse : ¬ trailOk l → some [PV.bool false] = some [PV.bool (decide (trailOk l))] := fun h => by simp [h]
  simp +contextual (maxSteps:=9^7) only [go_sem,hlt',hx,Change.pv]
  refine V.call rfl rfl (by simp [dOK]) ⟨111,[],by simp only [go_sem],⟨_,rfl,rfl,rfl⟩,.inl ⟨[x.pv],_,.inl (by simp only [go_sem,Change.pv]),ref13_May x,.inl ⟨_,rfl,rfl,rfl,rfl⟩⟩⟩ ?_
  refine V.exec 400 ?_
  by_cases hok : x.ok
  ·rcases Nat.eq_zero_or_pos i with rfl | hpos
   ·have hz : ¬ (0 : Int) < ((0 : Nat) : Int) := by omega
    simp +contextual (maxSteps:=9^7) only [go_sem,hlt',hx,Change.pv,hw,hz,hok]
    (repeat' (first | (intro _) | (refine ⟨by kernel_rfl,?_⟩) | (apply And.intro)))
    exact ⟨l.length - (0 + 1),_,[],[],by omega,⟨1,by omega,rfl,fin hok (fun k h => by simp [prevSeq] at h),rfl,rfl⟩,by simp only [go_sem]⟩
   ·obtain ⟨j,rfl⟩ : ∃ j,i = j + 1 := ⟨i - 1,by omega⟩
    have hw2 : IntKind.i64.wrap (((j + 1 : Nat) : Int) - 1) = (j : Int) := by rw [wrap_small3] <;> omega
    have hjp : (0 : Int) < ((j + 1 : Nat) : Int) := by omega
    obtain ⟨y,hy⟩ : ∃ y,l[j]? = some y := ⟨_,zA (by omega)⟩
    simp +contextual (maxSteps:=9^7) only [go_sem,hlt',hx,Change.pv,hw,hw2,hjp,hy,hok]
    (repeat' (first | (intro _) | (refine ⟨by kernel_rfl,?_⟩) | (apply And.intro)))
    ·refine hfalse fun h => ?_
     have := (hiff.1 h).2.1 y.seq (by simp [prevSeq,hy])
     omega
    ·exact ⟨l.length - (j + 1 + 1),_,[],[],by omega,⟨j + 1 + 1,by omega,rfl,fin hok (fun k h => by simp [prevSeq,hy] at h; omega),rfl,rfl⟩,by simp only [go_sem]⟩
  ·simp +contextual (maxSteps:=9^7) only [go_sem,hlt',hx,Change.pv,hw,hok]
   exact hfalse fun h => hok (hiff.1 h).1
 ·have hlt' : ¬ (i : Int) < (l.length : Int) := by omega
  have hd : l.drop i = [] := zK (by omega)
  rw [hd,trailFrom] at hiff
  simp +contextual (maxSteps:=9^7) only [go_sem,hlt']
  simp [hiff]
theorem trailFrom_weaken : ∀ (l : List Change) (a b : Option Int),(∀ s,b = some s → ∃ s',a = some s' ∧ s ≤ s') → trailFrom a l → trailFrom b l
 | [],_,_,_,_ => trivial
 | c :: r,a,b,h,ht => ⟨ht.1,fun s hs => by
   obtain ⟨s',ha,hle⟩ := h s hs
   have := ht.2.1 s' ha
   omega,ht.2.2⟩
theorem trailFrom_filter (p : Change → Bool) : ∀ (l : List Change) (a : Option Int),trailFrom a l → trailFrom a (l.filter p)
 | [],_,_ => trivial
 | c :: r,a,ht => by
  rw [List.filter_cons]
  split
  ·exact ⟨ht.1,ht.2.1,trailFrom_filter p r _ ht.2.2⟩
  ·refine trailFrom_weaken _ (some c.seq) a (fun s hs => ⟨c.seq,rfl,?_⟩) (trailFrom_filter p r _ ht.2.2)
   have := ht.2.1 s hs
   omega
theorem trailOk_filter (p : Change → Bool) (l : List Change) (h : trailOk l) : trailOk (l.filter p) := trailFrom_filter p l none h
theorem dropV_ok {t : List Change} (h : trailOk t) (n : Int) : dropV t n = t.filter (fun c => decide (n < c.seq)) := by
 simp only [dropV,withoutV,h,if_true]
 congr 1
 funext c
 by_cases hc : c.seq ≤ n
 ·have : ¬ n < c.seq := by omega
  simp [hc,this]
 ·have : n < c.seq := by omega
  simp [hc,this]
theorem dropV_trail {t : List Change} (h : trailOk t) (n : Int) : trailOk (dropV t n) := by
 rw [dropV_ok h]; exact trailOk_filter _ _ h
theorem trailFrom_gt : ∀ (l : List Change) (s : Int),trailFrom (some s) l → ∀ x ∈ l,s < x.seq
 | [],_,_,_,hx => by simp at hx
 | c :: r,s,h,x,hx => by
  have h1 := h.2.1 s rfl
  rcases zI.1 hx with rfl | hx
  ·exact h1
  ·have := trailFrom_gt r c.seq h.2.2 x hx
   omega
theorem trailFrom_upto : ∀ (l : List Change) (a : Option Int) (j : Nat) (x : Change),trailFrom a l → l[j]? = some x → ∀ y ∈ l.take (j + 1),y.seq ≤ x.seq
 | [],_,_,_,_,h,_,_ => by simp at h
 | c :: r,a,0,x,ht,h,y,hy => by
  simp at h hy
  subst h hy
  exact Int.le_refl _
 | c :: r,a,j + 1,x,ht,h,y,hy => by
  rw [List.getElem?_cons_succ] at h
  rw [List.take_succ_cons] at hy
  rcases zI.1 hy with rfl | hy
  ·have := trailFrom_gt r y.seq ht.2.2 x (zE h)
   omega
  ·exact trailFrom_upto r _ j x ht.2.2 h y hy
theorem dropV_at {t : List Change} (h : trailOk t) {n : Int} {k : Nat} (hk' : k ≤ t.length) (h1 : ∀ x ∈ t.drop k,n < x.seq) (h2 : ∀ x,0 < k → t[k - 1]? = some x → x.seq ≤ n) : dropV t n = t.drop k := by
 rw [dropV_ok h]
 rw [← List.take_append_drop k t,zV]
 have e1 : (t.take k).filter (fun c => decide (n < c.seq)) = [] := by
  rw [List.filter_eq_nil_iff]
  intro y hy
  rcases Nat.eq_zero_or_pos k with rfl | hk
  ·simp at hy
  ·have hlt : k - 1 < t.length := by omega
   have hx : t[k - 1]? = some t[k - 1] := zA hlt
   have g1 := trailFrom_upto t none (k - 1) _ h hx y (by rw [show k - 1 + 1 = k by omega]; exact hy)
   have g2 := h2 _ hk hx
   simp; omega
 have e2 : (t.drop k).filter (fun c => decide (n < c.seq)) = t.drop k := by
  rw [List.filter_eq_self]
  intro y hy
  simpa using h1 y hy
 rw [e1,e2]
 simp
def backGo (l : List Pair) (s : List Change) : Option (List Pair) := doGo l (s.reverse.map turnC)
theorem backGo_app (l : List Pair) (a s : List Change) : backGo l (a ++ s) = (backGo l s).bind fun p => backGo p a := by
 unfold backGo
 rw [List.reverse_append,zM,doGo_app]
theorem undoV_go {l : List Pair} (h : pairsOk l) (s : List Change) : undoV l s = match backGo l s with | some q => (q,0) | none => (l,1) := by
 unfold undoV doV backGo
 rw [if_pos h]
 first | done | (cases doGo l (s.reverse.map turnC) <;> rfl)
theorem backGo_ok {l q : List Pair} {s : List Change} (h : pairsOk l) (hb : backGo l s = some q) : pairsOk q := (doGo_ok _ h hb).1
def atV (l : List Pair) (t : List Change) (floor seq : Int) : List Pair × Int :=
 if pairsOk l ∧ trailOk t then (if seq < floor then ([],8) else match backGo l (dropV t seq) with | some q => (q,0) | none => ([],1)) else ([],1)
theorem backGo_len {l q : List Pair} {s : List Change} (h : pairsOk l) (hb : backGo l s = some q) : q.length ≤ l.length + s.length := by
 have := doGo_len _ h hb
 simpa using this
theorem dropV_len (t : List Change) (n : Int) : (dropV t n).length ≤ t.length := by
 unfold dropV withoutV
 split
 ·exact List.length_filter_le _ _
 ·simp
theorem atV_len (l : List Pair) (t : List Change) (floor seq : Int) : (atV l t floor seq).1.length ≤ l.length + t.length := by
 unfold atV
 split
 ·rename_i h
  split
  ·simp
  ·split
   ·rename_i q hq
    have h1 := backGo_len h.1 hq
    have h2 := dropV_len t seq
    simp only
    omega
   ·simp
 ·simp
set_option maxHeartbeats 4000000 in
theorem past_At (l : List Pair) (t : List Change) (floor seq : Int) (hl : l.length ≤ 200000) (ht : t.length ≤ 200000) :
  Ct pG 61 (Zv.ops [.row (l.map Pair.pv),.row (t.map Change.pv),.int .i64 floor,.int .i64 seq]) (.vals [.row ((atV l t floor seq).1.map Pair.pv),.int .i64 (atV l t floor seq).2]) := by
 have hdl := dropV_len t seq
 refine Ct.of_V Tryz.func61 rfl (by simp [Zv.ops,Tryz.f61]) ?_
 refine V.exec 400 ?_
 simp +contextual (maxSteps:=9^7) only [go_sem,Tryz.f61]
 refine V.call rfl rfl (by simp [dOK]) ⟨104,[],by simp only [go_sem],⟨_,rfl,rfl,rfl⟩,.inl ⟨[.row (l.map Pair.pv)],_,.inl (by simp only [go_sem]),leaf_Right l (by omega),.inl ⟨_,rfl,rfl,rfl,rfl⟩⟩⟩ ?_
 refine V.exec 400 ?_
 by_cases hok : pairsOk l
 ·simp +contextual (maxSteps:=9^7) only [go_sem,hok]
  refine V.call rfl rfl (by simp [dOK]) ⟨56,[],by simp only [go_sem],⟨_,rfl,rfl,rfl⟩,.inl ⟨[.row (t.map Change.pv)],_,.inl (by simp only [go_sem]),trail_Right t (by omega),.inl ⟨_,rfl,rfl,rfl,rfl⟩⟩⟩ ?_
  refine V.exec 400 ?_
  by_cases hto : trailOk t
  ·by_cases hlt : seq < floor
   ·have hv : atV l t floor seq = ([],8) := by unfold atV; rw [if_pos ⟨hok,hto⟩,if_pos hlt]
    simp +contextual (maxSteps:=9^7) only [go_sem,hto,hlt,hv,zB]
   ·simp +contextual (maxSteps:=9^7) only [go_sem,hto,hlt]
    refine V.call rfl rfl (by simp [dOK]) ⟨88,[],by simp only [go_sem],⟨_,rfl,rfl,rfl⟩,.inl ⟨[.row (t.map Change.pv),.int .i64 seq],_,.inl (by simp only [go_sem]),trail_Drop t seq (by omega),.inr (.inl ⟨_,rfl,rfl,rfl⟩)⟩⟩ ?_
    refine V.exec 400 ?_
    simp +contextual (maxSteps:=9^7) only [go_sem]
    have hu := change_Undo l (dropV t seq) (by omega) (by omega)
    rw [undoV_go hok] at hu
    cases hb : backGo l (dropV t seq) with
    | none =>
     have hv : atV l t floor seq = ([],1) := by unfold atV; rw [if_pos ⟨hok,hto⟩,if_neg hlt,hb]
     rw [hb] at hu
     simp only at hu
     refine V.call rfl rfl (by simp [dOK]) ⟨105,[],by simp only [go_sem],⟨_,rfl,rfl,rfl⟩,.inl ⟨[.row (l.map Pair.pv),.row ((dropV t seq).map Change.pv)],_,.inl (by simp only [go_sem]),hu,.inr (.inl ⟨_,rfl,rfl,rfl⟩)⟩⟩ ?_
     refine V.exec 400 ?_
     have h10 : ¬ (1 : Int) = 0 := by decide
     simp +contextual (maxSteps:=9^7) only [go_sem,hv,h10,zB]
    | some q =>
     have hv : atV l t floor seq = (q,0) := by unfold atV; rw [if_pos ⟨hok,hto⟩,if_neg hlt,hb]
     rw [hb] at hu
     simp only at hu
     refine V.call rfl rfl (by simp [dOK]) ⟨105,[],by simp only [go_sem],⟨_,rfl,rfl,rfl⟩,.inl ⟨[.row (l.map Pair.pv),.row ((dropV t seq).map Change.pv)],_,.inl (by simp only [go_sem]),hu,.inr (.inl ⟨_,rfl,rfl,rfl⟩)⟩⟩ ?_
     refine V.exec 400 ?_
     simp +contextual (maxSteps:=9^7) only [go_sem,hv]
  ·have hv : atV l t floor seq = ([],1) := by unfold atV; rw [if_neg (fun h => hto h.2)]
   simp +contextual (maxSteps:=9^7) only [go_sem,hto,hv,zB]
 ·have hv : atV l t floor seq = ([],1) := by unfold atV; rw [if_neg (fun h => hok h.1)]
  simp +contextual (maxSteps:=9^7) only [go_sem,hok,hv,zB]
theorem one_pv {t : List Change} {j : Nat} {x : Change} (hx : t[j]? = some x) : ((t.map Change.pv).take (j + 1)).drop j = [x.pv] :=
 one_slice (l := t.map Change.pv) (i := j) (x := x.pv) (by rw [zS,hx]; rfl)
set_option maxHeartbeats 8000000 in
theorem ref18_At (l : List Pair) (t : List Change) (floor seq : Int) (hl : l.length ≤ 100000) (ht : t.length ≤ 100000) :
  Ct pG 137 (Zv.ops [.row (l.map Pair.pv),.row (t.map Change.pv),.int .i64 floor,.int .i64 seq]) (.vals [.row ((atV l t floor seq).1.map Pair.pv),.int .i64 (atV l t floor seq).2]) := by
 have hdl := dropV_len t seq
 refine Ct.of_V Tryz.func137 rfl (by simp [Zv.ops,Tryz.f137]) ?_
 refine V.exec 400 ?_
 simp +contextual (maxSteps:=9^7) only [go_sem,Tryz.f137]
 refine V.call rfl rfl (by simp [dOK]) ⟨64,[],by simp only [go_sem],⟨_,rfl,rfl,rfl⟩,.inl ⟨[.row (l.map Pair.pv)],_,.inl (by simp only [go_sem]),ref10_Right l (by omega),.inl ⟨_,rfl,rfl,rfl,rfl⟩⟩⟩ ?_
 refine V.exec 400 ?_
 simp +contextual (maxSteps:=9^7) only [go_sem]
 refine V.call rfl rfl (by simp [dOK]) ⟨65,[],by simp only [go_sem],⟨_,rfl,rfl,rfl⟩,.inl ⟨[.row (t.map Change.pv)],_,.inl (by simp only [go_sem]),ref16_Right t (by omega),.inl ⟨_,rfl,rfl,rfl,rfl⟩⟩⟩ ?_
 refine V.exec 400 ?_
 by_cases hok : pairsOk l
 ·by_cases hto : trailOk t
  ·by_cases hlt : seq < floor
   ·have hv : atV l t floor seq = ([],8) := by unfold atV; rw [if_pos ⟨hok,hto⟩,if_pos hlt]
    simp +contextual (maxSteps:=9^7) only [go_sem,hok,hto,hlt,hv,zB]
   ·have hw0 : IntKind.i64.wrap ((t.length : Int) - 1) = (t.length : Int) - 1 := by rw [wrap_small3] <;> omega
    have hv : atV l t floor seq = match backGo l (dropV t seq) with | some q => (q,0) | none => ([],1) := by unfold atV; rw [if_pos ⟨hok,hto⟩,if_neg hlt]; first | done | (cases backGo l (dropV t seq) <;> rfl)
    simp +contextual (maxSteps:=9^7) only [go_sem,hok,hto,hlt,hw0]
    refine V.loop (fun m ls os => ∃ (k : Nat) (out : List Pair) (z : Int),k ≤ t.length ∧ m = k ∧ z = (k : Int) - 1 ∧ out.length ≤ 200000 ∧ (∀ x ∈ t.drop k,seq < x.seq) ∧ backGo l (t.drop k) = some out ∧
      ls = [(1,.val (.row (t.map Change.pv))),(3,.val (.int .i64 seq)),(12,.val (.row (out.map Pair.pv))),(13,.val (.int .i64 z))] ∧ os = []) 0 t.length
     [(1,.val (.row (t.map Change.pv))),(3,.val (.int .i64 seq)),(12,.val (.row (l.map Pair.pv))),(13,.val (.int .i64 ((t.length : Int) - 1)))] [] []
     ⟨t.length,l,_,zR _,rfl,rfl,by omega,by simp,by simp [backGo,doGo],rfl,rfl⟩ (by simp only [go_sem]) ?_
    rintro m ls os ⟨k,out,z,hk,rfl,hz,hol,hall,hb,rfl,rfl⟩
    have hend : (∀ x,0 < m → t[m - 1]? = some x → x.seq ≤ seq) → atV l t floor seq = (out,0) := fun h => by
     rw [hv,dropV_at hto hk hall h,hb]
    cases m with
    | zero =>
     have hv2 := hend (fun x h => absurd h (by omega))
     obtain rfl : z = -1 := by omega
     have hng : ¬ (0 : Int) ≤ -1 := by decide
     refine V.exec 400 ?_
     simp +contextual (maxSteps:=9^7) only [go_sem,hv2,hng]
    | succ j =>
     obtain rfl : z = (j : Int) := by omega
     obtain ⟨x,hx⟩ : ∃ x,t[j]? = some x := ⟨_,zA (by omega)⟩
     have hjp : (0 : Int) ≤ (j : Int) := by omega
     have hw1 : IntKind.i64.wrap ((j : Int) + 1) = ((j + 1 : Nat) : Int) := by rw [wrap_small3] <;> omega
     have hw2 : IntKind.i64.wrap ((j : Int) - 1) = (j : Int) - 1 := by rw [wrap_small3] <;> omega
     refine V.exec 400 ?_
     by_cases hs : seq < x.seq
     ·simp +contextual (maxSteps:=9^7) only [go_sem,hjp,hx,Change.pv,hs,hw1]
      have hxs := one_pv hx
      have hu := ref15_Undo out [x] (by omega) (by simp)
      have hpo := backGo_ok hok hb
      rw [undoV_go hpo] at hu
      have hd : t.drop j = [x] ++ t.drop (j + 1) := by rw [drop_of_get hx]; rfl
      have hbj := backGo_app l [x] (t.drop (j + 1))
      rw [← hd,hb,Option.bind_some] at hbj
      have hallj : ∀ y ∈ t.drop j,seq < y.seq := fun y hy => by
       rw [hd] at hy
       rcases zO.1 hy with hy | hy
       ·simp at hy; rw [hy]; exact hs
       ·exact hall y hy
      refine ⟨⟨by omega,by omega⟩,?_⟩
      cases hb1 : backGo out [x] with
      | none =>
       have hv2 : atV l t floor seq = ([],1) := by
        rw [hv,dropV_ok hto]
        have e : t.filter (fun c => decide (seq < c.seq)) = (t.take j).filter (fun c => decide (seq < c.seq)) ++ t.drop j := by
         conv => lhs; rw [← List.take_append_drop j t,zV]
         congr 1
         rw [List.filter_eq_self]
         intro y hy
         simpa using hallj y hy
        rw [e,backGo_app,hbj,hb1]
        rfl
       rw [hb1] at hu
       simp only at hu
       refine V.call rfl rfl (by simp [dOK]) ⟨67,[],by simp only [go_sem],⟨_,rfl,rfl,rfl⟩,.inl ⟨[.row (out.map Pair.pv),.row [x.pv]],_,.inl (by simp only [go_sem,hxs]),hu,.inr (.inl ⟨_,rfl,rfl,rfl⟩)⟩⟩ ?_
       refine V.exec 400 ?_
       have h10 : ¬ (1 : Int) = 0 := by decide
       simp +contextual (maxSteps:=9^7) only [go_sem,hv2,h10,zB]
      | some q =>
       rw [hb1] at hu hbj
       simp only at hu
       have hql := backGo_len hok hbj
       rw [List.length_drop] at hql
       refine V.call rfl rfl (by simp [dOK]) ⟨67,[],by simp only [go_sem],⟨_,rfl,rfl,rfl⟩,.inl ⟨[.row (out.map Pair.pv),.row [x.pv]],_,.inl (by simp only [go_sem,hxs]),hu,.inr (.inl ⟨_,rfl,rfl,rfl⟩)⟩⟩ ?_
       refine V.exec 400 ?_
       simp +contextual (maxSteps:=9^7) only [go_sem,hw2,decide_true]
       exact ⟨j,_,[],[],by omega,⟨j,q,_,by omega,rfl,rfl,by omega,hallj,hbj,rfl,rfl⟩,by simp only [go_sem]⟩
     ·have hv2 := hend (fun y _ hy => by
       simp only [Nat.add_sub_cancel] at hy
       rw [hx] at hy; cases hy; omega)
      simp +contextual (maxSteps:=9^7) only [go_sem,hjp,hx,Change.pv,hs,hv2]
  ·have hv : atV l t floor seq = ([],1) := by unfold atV; rw [if_neg (fun h => hto h.2)]
   simp +contextual (maxSteps:=9^7) only [go_sem,hok,hto,hv,zB]
 ·have hv : atV l t floor seq = ([],1) := by unfold atV; rw [if_neg (fun h => hok h.1)]
  simp +contextual (maxSteps:=9^7) only [go_sem,hok,hv,zB]
def cutN (most : Int) (n : Nat) : Nat := (max 0 (min most n)).toNat
def pageV (l : List Pair) (t : List Change) (floor seq most : Int) (r : Range) : List Pair × Bool × Int :=
 if (atV l t floor seq).2 = 0 then ((pickV r (atV l t floor seq).1).take (cutN most (pickV r (atV l t floor seq).1).length),decide (cutN most (pickV r (atV l t floor seq).1).length < (pickV r (atV l t floor seq).1).length),0) else ([],false,(atV l t floor seq).2)
set_option maxHeartbeats 4000000 in
theorem past_Pages (l : List Pair) (t : List Change) (floor seq most : Int) (r : Range) (hl : l.length ≤ 200000) (ht : t.length ≤ 200000) :
  Ct pG 79 (Zv.ops [.row (l.map Pair.pv),.row (t.map Change.pv),.int .i64 floor,.int .i64 seq,.int .i64 most,r.pv]) (.vals [.row ((pageV l t floor seq most r).1.map Pair.pv),.bool (decide ((pageV l t floor seq most r).2.1 = true)),.int .i64 (pageV l t floor seq most r).2.2]) := by
 have hc := past_At l t floor seq hl ht
 have hlen := atV_len l t floor seq
 unfold pageV
 obtain ⟨p,e,hp⟩ : ∃ p e,atV l t floor seq = (p,e) := ⟨_,_,rfl⟩
 rw [hp] at hc hlen ⊢
 simp only at hc hlen ⊢
 refine Ct.of_V Tryz.func79 rfl (by simp [Zv.ops,Tryz.f79]) ?_
 refine V.exec 400 ?_
 simp +contextual (maxSteps:=9^7) only [go_sem,Tryz.f79,Range.pv]
 refine V.call rfl rfl (by simp [dOK]) ⟨61,[],by simp only [go_sem],⟨_,rfl,rfl,rfl⟩,.inl ⟨[.row (l.map Pair.pv),.row (t.map Change.pv),.int .i64 floor,.int .i64 seq],_,.inl (by simp only [go_sem]),hc,.inr (.inl ⟨_,rfl,rfl,rfl⟩)⟩⟩ ?_
 refine V.exec 400 ?_
 by_cases he : e = 0
 ·subst he
  have hpl := pickV_len r p
  simp +contextual (maxSteps:=9^7) only [go_sem]
  refine V.call rfl rfl (by simp [dOK]) ⟨99,[],by simp only [go_sem],⟨_,rfl,rfl,rfl⟩,.inl ⟨[r.pv,.row (p.map Pair.pv)],_,.inl (by simp only [go_sem,Range.pv]),stretch_Pick r p (by omega),.inr (.inl ⟨_,rfl,rfl,rfl⟩)⟩⟩ ?_
  refine V.exec 400 ?_
  generalize pickV r p = w at *
  have hc : (if (if (w.length : Int) < most then (w.length : Int) else most) > 0 then (if (w.length : Int) < most then (w.length : Int) else most) else 0) = ((cutN most w.length : Nat) : Int) := by
   unfold cutN
   split <;> split <;> omega
  have hc2 : cutN most w.length ≤ w.length := by unfold cutN; omega
  simp +contextual (maxSteps:=9^7) only [go_sem,hc]
  refine ⟨by omega,?_⟩
  rw [List.map_take]
  simp
 ·simp +contextual (maxSteps:=9^7) only [go_sem,he,zB]
set_option maxHeartbeats 8000000 in
theorem ref18_Page (l : List Pair) (t : List Change) (floor seq most : Int) (r : Range) (hl : l.length ≤ 100000) (ht : t.length ≤ 100000) :
  Ct pG 91 (Zv.ops [.row (l.map Pair.pv),.row (t.map Change.pv),.int .i64 floor,.int .i64 seq,.int .i64 most,r.pv]) (.vals [.row ((pageV l t floor seq most r).1.map Pair.pv),.bool (decide ((pageV l t floor seq most r).2.1 = true)),.int .i64 (pageV l t floor seq most r).2.2]) := by
 have hc := ref18_At l t floor seq hl ht
 have hlen := atV_len l t floor seq
 unfold pageV
 obtain ⟨p,e,hp⟩ : ∃ p e,atV l t floor seq = (p,e) := ⟨_,_,rfl⟩
 rw [hp] at hc hlen ⊢
 simp only at hc hlen ⊢
 refine Ct.of_V Tryz.func91 rfl (by simp [Zv.ops,Tryz.f91]) ?_
 refine V.exec 400 ?_
 simp +contextual (maxSteps:=9^7) only [go_sem,Tryz.f91,Range.pv]
 refine V.call rfl rfl (by simp [dOK]) ⟨137,[],by simp only [go_sem],⟨_,rfl,rfl,rfl⟩,.inl ⟨[.row (l.map Pair.pv),.row (t.map Change.pv),.int .i64 floor,.int .i64 seq],_,.inl (by simp only [go_sem]),hc,.inr (.inl ⟨_,rfl,rfl,rfl⟩)⟩⟩ ?_
 refine V.exec 400 ?_
 by_cases he : e = 0
 ·subst he
  have hpl := pickV_len r p
  simp +contextual (maxSteps:=9^7) only [go_sem]
  refine V.call rfl rfl (by simp [dOK]) ⟨24,[],by simp only [go_sem],⟨_,rfl,rfl,rfl⟩,.inl ⟨[r.pv,.row (p.map Pair.pv)],_,.inl (by simp only [go_sem,Range.pv]),ref03_Pick r p (by omega),.inr (.inl ⟨_,rfl,rfl,rfl⟩)⟩⟩ ?_
  refine V.exec 400 ?_
  generalize pickV r p = w at *
  simp +contextual (maxSteps:=9^7) only [go_sem]
  refine V.loop (fun m ls os => ∃ (i : Nat),i ≤ w.length ∧ m = w.length - i ∧ (i : Int) ≤ max 0 most ∧
    ls = [(4,.val (.int .i64 most)),(17,.ref 0),(18,.val (.row (w.map Pair.pv))),(19,.val (.int .i64 i))] ∧ os = [.row 77 ((w.take i).map Pair.pv)]) 1 w.length
   [(4,.val (.int .i64 most)),(17,.ref 0),(18,.val (.row (w.map Pair.pv))),(19,.val (.int .i64 0))] [.row 77 []] [none]
   ⟨0,zF _,rfl,by omega,rfl,rfl⟩ (by simp only [go_sem]; try decide) ?_
  rintro m ls os ⟨i,hi,rfl,him,rfl,rfl⟩
  refine V.exec 400 ?_
  have hend : ¬ ((i : Int) < (w.length : Int) ∧ (i : Int) < most) → cutN most w.length = i := fun h => by unfold cutN; omega
  by_cases hlt : i < w.length
  ·have hlt' : (i : Int) < (w.length : Int) := by omega
   obtain ⟨x,hx⟩ : ∃ x,w[i]? = some x := ⟨_,zA hlt⟩
   have hw : IntKind.i64.wrap ((i : Int) + 1) = ((i + 1 : Nat) : Int) := by rw [wrap_small3] <;> omega
   by_cases hm : (i : Int) < most
   ·have hts := take_snoc hx
    have htl : (w.take i).length = i := by rw [zU]; omega
    generalize hL : w.take i = L at *
    simp +contextual (maxSteps:=9^7) only [go_sem,hlt',hm,hx,Pair.pv,hw]
    refine ⟨⟨by omega,by omega⟩,w.length - (i + 1),_,_,[some 16],by omega,⟨i + 1,by omega,rfl,by omega,rfl,rfl⟩,?_⟩
    simp only [go_sem,hts,zM,zC,zB,Pair.pv]
    try decide
   ·have hv := hend (fun h => hm h.2)
    have htl : ((w.take i).length : Int) = (i : Int) := by rw [zU]; omega
    simp +contextual (maxSteps:=9^7) only [go_sem,hlt',hm,hv,htl]
    simp [hlt]
  ·have hlt' : ¬ (i : Int) < (w.length : Int) := by omega
   have hv := hend (fun h => hlt' h.1)
   have htl : ((w.take i).length : Int) = (i : Int) := by rw [zU]; omega
   simp +contextual (maxSteps:=9^7) only [go_sem,hlt',hv,htl]
   simp [hlt]
 ·simp +contextual (maxSteps:=9^7) only [go_sem,he,zB]
def Pair.fine (s : Pair) : Prop := s.key.length ≤ 300 ∧ s.value.length ≤ 300
def Change.fine (s : Change) : Prop := s.key.length ≤ 300 ∧ s.bef.length ≤ 300 ∧ s.aft.length ≤ 300
instance (s : Pair) : Decidable s.fine := by unfold Pair.fine; infer_instance
instance (s : Change) : Decidable s.fine := by unfold Change.fine; infer_instance
def smallPC (l : List Pair) (t : List Change) : Prop := l.length ≤ 60 ∧ t.length ≤ 60 ∧ (∀ s ∈ l,s.fine) ∧ ∀ s ∈ t,s.fine
instance instSmallPC (l : List Pair) (t : List Change) : Decidable (smallPC l t) := by unfold smallPC; infer_instance
theorem change_one' (qs : List PV) (hk : qs.map PV.kd = [.int .i64,.str,.bool,.str,.bool,.str]) : ∃ s : Change,PV.agg qs = s.pv := by
 match qs,hk with
 | [.int k n,.str a,.bool b,.str c,.bool d,.str e],hk =>
  simp only [zC,PV.kd,List.cons.injEq,KD.int.injEq] at hk
  obtain ⟨rfl,_⟩ := hk
  exact ⟨⟨n,a,b,c,d,e⟩,by simp [Change.pv]⟩
theorem change_of' (xs : List PV) (h : ∀ x ∈ xs,∃ qs,x = .agg qs ∧ qs.map PV.kd = [.int .i64,.str,.bool,.str,.bool,.str] ∧ ∀ q ∈ qs,q.wfv) : ∃ t : List Change,xs = t.map Change.pv := by
 induction xs with
 | nil => exact ⟨[],rfl⟩
 | cons x r ih =>
  obtain ⟨t,rfl⟩ := ih (fun y hy => h y (zH _ hy))
  obtain ⟨qs,rfl,hk,hw⟩ := h x zG
  obtain ⟨s,hs⟩ := change_one' qs hk
  exact ⟨s :: t,by rw [hs]; rfl⟩
theorem atV_facts (l : List Pair) (t : List Change) (floor seq : Int) : ((atV l t floor seq).2 = 0 ∧ pairsOk (atV l t floor seq).1 ∧ ¬ seq < floor ∧ pairsOk l ∧ trailOk t) ∨ ((atV l t floor seq).1 = [] ∧ ((atV l t floor seq).2 = 1 ∧ (¬ (pairsOk l ∧ trailOk t) ∨ ¬ seq < floor) ∨ (atV l t floor seq).2 = 8 ∧ seq < floor)) := by
 unfold atV
 by_cases h : pairsOk l ∧ trailOk t
 ·rw [if_pos h]
  by_cases hs : seq < floor
  ·rw [if_pos hs]; exact .inr ⟨rfl,.inr ⟨rfl,hs⟩⟩
  ·rw [if_neg hs]
   cases hb : backGo l (dropV t seq) with
   | none => exact .inr ⟨rfl,.inl ⟨rfl,.inr hs⟩⟩
   | some q => exact .inl ⟨rfl,backGo_ok h.1 hb,hs,h⟩
 ·rw [if_neg h]; exact .inr ⟨rfl,.inl ⟨rfl,.inl h⟩⟩
set_option maxHeartbeats 4000000 in
theorem trail_Since1 (c : Change) (n : Int) (r : Range) : Ct pG 72 (Zv.ops [c.pv,.ptr (.int .i64 n),.ptr r.pv]) (.vals [.bool (decide (c.seq ≤ n ∨ ¬ r.isIn c.key))]) := by
 refine Ct.of_V Tryz.func72 rfl (by simp [Zv.ops,Tryz.f72]) ?_
 refine V.exec 400 ?_
 simp +contextual (maxSteps:=9^7) only [go_sem,Tryz.f72,Change.pv,Range.pv]
 intro h
 refine V.call rfl rfl (by simp [dOK]) ⟨73,[],by simp only [go_sem],⟨_,rfl,rfl,rfl⟩,.inl ⟨[r.pv,.str c.key],_,.inl (by simp only [go_sem,Range.pv]),stretch_In r c.key,.inl ⟨_,rfl,rfl,rfl,rfl⟩⟩⟩ ?_
 refine V.exec 400 ?_
 simp +contextual (maxSteps:=9^7) only [go_sem,h]
def cutAt (n most : Int) : Nat := (max 0 (min most n)).toNat
def sinceV (t : List Change) (n most : Int) (rs : List Range) : List Change :=
 let w := withoutV t (fun c => decide (c.seq ≤ n ∨ ¬ (meetV rs).isIn c.key))
 w.take (cutAt w.length most)
theorem withoutV_length (t : List Change) (p : Change → Bool) : (withoutV t p).length ≤ t.length := by
 unfold withoutV
 split
 ·exact List.length_filter_le _ _
 ·exact zF _
set_option maxHeartbeats 4000000 in
theorem trail_Since (t : List Change) (n most : Int) (rs : List Range) (ht : t.length ≤ 1000000) (hr : rs.length ≤ 1000000) :
  Ct pG 30 (Zv.ops [.row (t.map Change.pv),.int .i64 n,.int .i64 most,.row (rs.map Range.pv)]) (.vals [.row ((sinceV t n most rs).map Change.pv)]) := by
 refine Ct.of_V Tryz.func30 rfl (by simp [Zv.ops,Tryz.f30]) ?_
 refine V.exec 400 ?_
 simp +contextual (maxSteps:=9^7) only [go_sem,Tryz.f30]
 refine V.call rfl rfl (by simp [dOK]) ⟨70,[],by simp only [go_sem],⟨_,rfl,rfl,rfl⟩,.inl ⟨[.row (rs.map Range.pv)],_,.inl (by simp only [go_sem]),stretch_Meet rs hr,.inr (.inl ⟨_,rfl,rfl,rfl⟩)⟩⟩ ?_
 refine V.exec 400 ?_
 simp +contextual (maxSteps:=9^7) only [go_sem,Range.pv]
 have hw := trail_without t 72 [.ptr (.int .i64 n),.ptr (meetV rs).pv] (fun c => decide (c.seq ≤ n ∨ ¬ (meetV rs).isIn c.key)) ht ⟨_,rfl,rfl,rfl⟩ (fun x _ => by simpa using trail_Since1 x n (meetV rs))
 refine V.call rfl rfl (by simp [dOK]) ⟨71,[],by simp only [go_sem],⟨_,rfl,rfl,rfl⟩,.inl ⟨[.row (t.map Change.pv),.fn 72 [.ptr (.int .i64 n),.ptr (meetV rs).pv]],_,.inl (by simp only [go_sem,Range.pv]),hw,.inr (.inl ⟨_,rfl,rfl,rfl⟩)⟩⟩ ?_
 refine V.exec 400 ?_
 have hl := withoutV_length t (fun c => decide (c.seq ≤ n ∨ ¬ (meetV rs).isIn c.key))
 have hv : sinceV t n most rs = (withoutV t (fun c => decide (c.seq ≤ n ∨ ¬ (meetV rs).isIn c.key))).take (cutAt (withoutV t (fun c => decide (c.seq ≤ n ∨ ¬ (meetV rs).isIn c.key))).length most) := rfl
 rw [hv]
 generalize withoutV t (fun c => decide (c.seq ≤ n ∨ ¬ (meetV rs).isIn c.key)) = w at *
 have hc : (if (if (w.length : Int) < most then (w.length : Int) else most) > 0 then (if (w.length : Int) < most then (w.length : Int) else most) else 0) = ((cutAt w.length most : Nat) : Int) := by
  unfold cutAt
  split <;> split <;> omega
 have hc2 : cutAt w.length most ≤ w.length := by unfold cutAt; omega
 simp +contextual (maxSteps:=9^7) only [go_sem,hc]
 refine ⟨by omega,?_⟩
 rw [List.map_take]
theorem meet_two (r : Range) (n k : List UInt8) : (meetV [r,⟨n,[],true⟩]).isIn k ↔ r.isIn k ∧ ¬ slt k n := by
 have hmax : ∀ a b : List UInt8,¬ slt k (maxStr a b) ↔ ¬ slt k a ∧ ¬ slt k b := fun a b => by
  unfold maxStr
  split
  ·rename_i h
   exact ⟨fun g => ⟨fun x => g (slt_trans x h),g⟩,fun g => g.2⟩
  ·rename_i h
   refine ⟨fun g => ⟨g,fun x => ?_⟩,fun g => g.1⟩
   rcases slt_total a b with h1 | h1 | h1
   ·exact h h1
   ·exact g (h1 ▸ x)
   ·exact g (slt_trans x h1)
 have e0 : ∀ x : List UInt8,maxStr [] x = x := fun x => by
  unfold maxStr
  split
  ·rfl
  ·rename_i h
   cases x with
   | nil => rfl
   | cons a t => exact absurd (by simp [slt,strLt,Op.bytesLess]) h
 by_cases ho : r.op = true
 ·have e : meetV [r,⟨n,[],true⟩] = ⟨maxStr r.lo n,[],true⟩ := by simp [meetV,meetStep,ho,e0]
  rw [e]; unfold Range.isIn
  simp only [ho,true_or,and_true]
  exact hmax _ _
 ·have e : meetV [r,⟨n,[],true⟩] = ⟨maxStr r.lo n,r.hi,false⟩ := by simp [meetV,meetStep,ho,e0]
  rw [e]; unfold Range.isIn
  simp only [ho,Bool.false_eq_true,false_or,hmax]
  constructor
  ·rintro ⟨⟨a,b⟩,c⟩; exact ⟨⟨a,c⟩,b⟩
  ·rintro ⟨⟨a,c⟩,b⟩; exact ⟨⟨a,b⟩,c⟩
theorem meet_one (r : Range) (k : List UInt8) : (meetV [r]).isIn k ↔ r.isIn k := by
 have e0 : ∀ x : List UInt8,maxStr [] x = x := fun x => by
  unfold maxStr
  split
  ·rfl
  ·rename_i h
   cases x with
   | nil => rfl
   | cons a t => exact absurd (by simp [slt,strLt,Op.bytesLess]) h
 by_cases ho : r.op = true
 ·have e : meetV [r] = ⟨r.lo,[],true⟩ := by simp [meetV,meetStep,ho,e0]
  rw [e]; unfold Range.isIn; simp [ho]
 ·have e : meetV [r] = ⟨r.lo,r.hi,false⟩ := by simp [meetV,meetStep,ho,e0]
  rw [e]; unfold Range.isIn; simp [ho]
def leftP (s : Sub) (p : List Pair) : List Pair := p.filter fun q => decide (s.r.isIn q.key ∧ ¬ slt q.key s.next)
def leftV (s : Sub) (l : List Pair) (t : List Change) (floor : Int) : List Pair × Int :=
 if (atV l t floor s.cur).2 = 0 then (leftP s (atV l t floor s.cur).1,0) else ([],(atV l t floor s.cur).2)
theorem leftP_pick (s : Sub) (p : List Pair) : pickV (meetV [s.r,⟨s.next,[],true⟩]) p = leftP s p := by
 unfold pickV leftP
 congr 1; funext q
 simp only [meet_two]
theorem leftV_len (s : Sub) (l : List Pair) (t : List Change) (floor : Int) : (leftV s l t floor).1.length ≤ l.length + t.length := by
 have := atV_len l t floor s.cur
 unfold leftV
 split
 ·exact Nat.le_trans (List.length_filter_le _ _) this
 ·simp
set_option maxHeartbeats 4000000 in
theorem feed_left (s : Sub) (l : List Pair) (t : List Change) (floor : Int) (hl : l.length ≤ 200000) (ht : t.length ≤ 200000) :
  Ct pG 130 (Zv.ops [s.pv,.row (l.map Pair.pv),.row (t.map Change.pv),.int .i64 floor]) (.vals [.row ((leftV s l t floor).1.map Pair.pv),.int .i64 (leftV s l t floor).2]) := by
 have hc := past_At l t floor s.cur hl ht
 have hlen := atV_len l t floor s.cur
 unfold leftV
 obtain ⟨p,e,hp⟩ : ∃ p e,atV l t floor s.cur = (p,e) := ⟨_,_,rfl⟩
 rw [hp] at hc hlen ⊢
 simp only at hc hlen ⊢
 refine Ct.of_V Tryz.func130 rfl (by simp [Zv.ops,Tryz.f130]) ?_
 refine V.exec 400 ?_
 simp +contextual (maxSteps:=9^7) only [go_sem,Tryz.f130,Sub.pv]
 refine V.call rfl rfl (by simp [dOK]) ⟨61,[],by simp only [go_sem],⟨_,rfl,rfl,rfl⟩,.inl ⟨[.row (l.map Pair.pv),.row (t.map Change.pv),.int .i64 floor,.int .i64 s.cur],_,.inl (by simp only [go_sem]),hc,.inr (.inl ⟨_,rfl,rfl,rfl⟩)⟩⟩ ?_
 refine V.exec 400 ?_
 by_cases he : e = 0
 ·subst he
  have hk := stretch_Pick (meetV [s.r,⟨s.next,[],true⟩]) p (by omega)
  rw [leftP_pick] at hk
  simp +contextual (maxSteps:=9^7) only [go_sem]
  refine V.call rfl rfl (by simp [dOK]) ⟨70,[],by simp only [go_sem],⟨_,rfl,rfl,rfl⟩,.inl ⟨[.row ([s.r,⟨s.next,[],true⟩].map Range.pv)],_,.inl (by simp only [go_sem,Range.pv,zC,zB,decide_true]),stretch_Meet [s.r,⟨s.next,[],true⟩] (by simp),.inr (.inl ⟨_,rfl,rfl,rfl⟩)⟩⟩ ?_
  refine V.exec 400 ?_
  simp +contextual (maxSteps:=9^7) only [go_sem,Range.pv]
  refine V.call rfl rfl (by simp [dOK]) ⟨99,[],by simp only [go_sem],⟨_,rfl,rfl,rfl⟩,.inl ⟨[(meetV [s.r,⟨s.next,[],true⟩]).pv,.row (p.map Pair.pv)],_,.inl (by simp only [go_sem,Range.pv]),hk,.inr (.inl ⟨_,rfl,rfl,rfl⟩)⟩⟩ ?_
  refine V.exec 400 ?_
  simp +contextual (maxSteps:=9^7) only [go_sem]
 ·simp +contextual (maxSteps:=9^7) only [go_sem,he,zB]
theorem ref03_Right (r : Range) : Ct pG 90 (Zv.ops [r.pv]) (.vals [.bool (decide r.ok)]) := by
 refine Ct.of_V Tryz.func90 rfl (by simp [Zv.ops,Tryz.f90]) ?_
 refine V.exec 400 ?_
 simp +contextual (maxSteps:=9^7) only [go_sem,Tryz.f90,Range.pv]
 have e1 : ((r.lo.length : Int) > 16) = (16 < r.lo.length) := by apply propext; omega
 have e2 : ((r.hi.length : Int) > 17) = (17 < r.hi.length) := by apply propext; omega
 have e3 : ((r.hi.length : Int) = 0) = (r.hi = []) := by apply propext; rw [← List.length_eq_zero_iff]; omega
 (repeat' (first | (intro _) | (refine ⟨by kernel_rfl,?_⟩) | (apply And.intro)))
 all_goals (simp only [Option.some.injEq,List.cons.injEq,PV.bool.injEq,and_true,Range.ok]; grind)
set_option maxHeartbeats 4000000 in
theorem ref19_Right (s : Sub) : Ct pG 92 (Zv.ops [s.pv]) (.vals [.bool (decide s.ok)]) := by
 refine Ct.of_V Tryz.func92 rfl (by simp [Zv.ops,Tryz.f92]) ?_
 refine V.exec 400 ?_
 simp +contextual (maxSteps:=9^7) only [go_sem,Tryz.f92,Sub.pv]
 refine V.call rfl rfl (by simp [dOK]) ⟨90,[],by simp only [go_sem],⟨_,rfl,rfl,rfl⟩,.inl ⟨[s.r.pv],_,.inl (by simp only [go_sem,Range.pv]),ref03_Right s.r,.inl ⟨_,rfl,rfl,rfl,rfl⟩⟩⟩ ?_
 refine V.exec 400 ?_
 by_cases hr : s.r.ok
 ·simp +contextual (maxSteps:=9^7) only [go_sem,hr]
  (repeat' (first | (intro _) | (refine ⟨by kernel_rfl,?_⟩) | (apply And.intro)))
  all_goals (simp only [Option.some.injEq,List.cons.injEq,PV.bool.injEq,and_true,Sub.ok]; grind)
 ·simp +contextual (maxSteps:=9^7) only [go_sem,hr]
  simp [Sub.ok,hr]
set_option maxHeartbeats 8000000 in
theorem ref19_left (s : Sub) (l : List Pair) (t : List Change) (floor : Int) (hl : l.length ≤ 100000) (ht : t.length ≤ 100000) :
  Ct pG 138 (Zv.ops [s.pv,.row (l.map Pair.pv),.row (t.map Change.pv),.int .i64 floor]) (.vals [.row ((leftV s l t floor).1.map Pair.pv),.int .i64 (leftV s l t floor).2]) := by
 have hc := ref18_At l t floor s.cur hl ht
 have hlen := atV_len l t floor s.cur
 have hf := atV_facts l t floor s.cur
 have hv : leftV s l t floor = (leftP s (atV l t floor s.cur).1,(atV l t floor s.cur).2) := by
  unfold leftV
  split
  ·rename_i h; rw [h]
  ·rename_i h
   rcases hf with ⟨g,_⟩ | ⟨g,_⟩
   ·exact absurd g h
   ·rw [g]; rfl
 rw [hv]
 obtain ⟨p,e,hp⟩ : ∃ p e,atV l t floor s.cur = (p,e) := ⟨_,_,rfl⟩
 rw [hp] at hc hlen ⊢
 simp only at hc hlen ⊢
 refine Ct.of_V Tryz.func138 rfl (by simp [Zv.ops,Tryz.f138]) ?_
 refine V.exec 400 ?_
 simp +contextual (maxSteps:=9^7) only [go_sem,Tryz.f138,Sub.pv]
 refine V.call rfl rfl (by simp [dOK]) ⟨137,[],by simp only [go_sem],⟨_,rfl,rfl,rfl⟩,.inl ⟨[.row (l.map Pair.pv),.row (t.map Change.pv),.int .i64 floor,.int .i64 s.cur],_,.inl (by simp only [go_sem]),hc,.inr (.inl ⟨_,rfl,rfl,rfl⟩)⟩⟩ ?_
 refine V.exec 400 ?_
 simp +contextual (maxSteps:=9^7) only [go_sem]
 refine V.loop (fun m ls os => ∃ (i : Nat),i ≤ p.length ∧ m = p.length - i ∧
    ls = [(4,.adr 0 0),(10,.val (.row (p.map Pair.pv))),(11,.val (.int .i64 e)),(12,.ref 1),(13,.val (.int .i64 i))] ∧ os = [.box true [.val (.int .i64 s.id),.val (.str s.r.lo),.val (.str s.r.hi),.val (.bool (decide (s.r.op = true))),.val (.bool (decide (s.live = true))),.val (.str s.next),.val (.int .i64 s.cur)],.row 77 ((leftP s (p.take i)).map Pair.pv)]) 2 p.length
   [(4,.adr 0 0),(10,.val (.row (p.map Pair.pv))),(11,.val (.int .i64 e)),(12,.ref 1),(13,.val (.int .i64 0))] [.box true [.val (.int .i64 s.id),.val (.str s.r.lo),.val (.str s.r.hi),.val (.bool (decide (s.r.op = true))),.val (.bool (decide (s.live = true))),.val (.str s.next),.val (.int .i64 s.cur)],.row 77 []] [some 4,none]
   ⟨0,zF _,rfl,rfl,rfl⟩ (by simp only [go_sem]; try decide) ?_
 rintro m ls os ⟨i,hi,rfl,rfl,rfl⟩
 have hpl : (leftP s (p.take i)).length ≤ p.length := Nat.le_trans (List.length_filter_le _ _) (by rw [zU]; omega)
 by_cases hlt : i < p.length
 ·have hlt' : (i : Int) < (p.length : Int) := by omega
  obtain ⟨x,hx⟩ : ∃ x,p[i]? = some x := ⟨_,zA hlt⟩
  have hw : IntKind.i64.wrap ((i : Int) + 1) = ((i + 1 : Nat) : Int) := by rw [wrap_small3] <;> omega
  have hn : leftP s (p.take (i + 1)) = if s.r.isIn x.key ∧ ¬ slt x.key s.next then leftP s (p.take i) ++ [x] else leftP s (p.take i) := by
   unfold leftP
   rw [zL,hx,zV]
   by_cases h : s.r.isIn x.key ∧ ¬ slt x.key s.next
   ·simp [h]
   ·rw [if_neg h]; simp [h]
  generalize leftP s (p.take i) = L at *
  refine V.exec 400 ?_
  simp +contextual (maxSteps:=9^7) only [go_sem,hlt',hx,Pair.pv]
  refine DV.call [0] [0] (by simp only [go_sem,Range.pv]) (by simp [dOK]) ⟨62,[],by simp only [go_sem,Range.pv],⟨_,rfl,rfl,rfl⟩,.inl ⟨[s.r.pv,.str x.key],_,.inl (by simp only [go_sem,Range.pv]),ref03_In s.r x.key,.inl ⟨_,rfl,rfl,rfl,rfl⟩⟩⟩ (by simp only [go_sem,Range.pv]) (by simp only [go_sem,Range.pv]) (by simp only [go_sem,Range.pv]) (by simp) ?_
  refine DV.exec 400 ?_
  by_cases h : s.r.isIn x.key
  ·by_cases hn2 : slt x.key s.next
   ·rw [if_neg (fun g => g.2 hn2)] at hn
    simp +contextual (maxSteps:=9^7) only [go_sem,hlt',hx,Pair.pv,h,hn2,hw]
    refine ⟨by kernel_rfl,by kernel_rfl,p.length - (i + 1),_,_,[some 0,some 1],by omega,⟨i + 1,by omega,rfl,rfl,rfl⟩,?_⟩
    simp only [go_sem,hn]
    try decide
   ·rw [if_pos ⟨h,hn2⟩] at hn
    simp +contextual (maxSteps:=9^7) only [go_sem,hlt',hx,Pair.pv,h,hn2,hw]
    refine ⟨by kernel_rfl,by kernel_rfl,⟨by omega,by omega⟩,p.length - (i + 1),_,_,[some 0,some 32],by omega,⟨i + 1,by omega,rfl,rfl,rfl⟩,?_⟩
    simp only [go_sem,hn,zM,zC,zB,Pair.pv]
    try decide
  ·rw [if_neg (fun g => h g.1)] at hn
   simp +contextual (maxSteps:=9^7) only [go_sem,hlt',hx,Pair.pv,h,hw]
   refine ⟨by kernel_rfl,by kernel_rfl,p.length - (i + 1),_,_,[some 0,some 1],by omega,⟨i + 1,by omega,rfl,rfl,rfl⟩,?_⟩
   simp only [go_sem,hn]
   try decide
 ·have hlt' : ¬ (i : Int) < (p.length : Int) := by omega
  refine V.exec 400 ?_
  simp +contextual (maxSteps:=9^7) only [go_sem,hlt']
  rw [zD (by omega)]
structure Chunk where
 ps : List Pair
 cs : List Change
 more : Bool
 deriving DecidableEq
def Chunk.pv (c : Chunk) : PV := .agg [.row (c.ps.map Pair.pv),.row (c.cs.map Change.pv),.bool (decide (c.more = true))]
def Chunk.zero : Chunk := ⟨[],[],false⟩
def sinceA (t : List Change) (s : Sub) : List Change := t.filter fun c => decide (s.cur < c.seq ∧ s.r.isIn c.key)
def cutM (most : Int) (n : Nat) : Nat := min most.toNat n
def pollV (s : Sub) (l : List Pair) (t : List Change) (floor most : Int) : Chunk × Int :=
 if s.ok ∧ 1 ≤ most then
  if (leftV s l t floor).2 = 0 then
   if s.live = true then (⟨[],(sinceA t s).take (cutM most (sinceA t s).length),decide (cutM most (sinceA t s).length < (sinceA t s).length)⟩,0)
   else (⟨(leftV s l t floor).1.take (cutM most (leftV s l t floor).1.length),[],decide (cutM most (leftV s l t floor).1.length < (leftV s l t floor).1.length)⟩,0)
  else (Chunk.zero,(leftV s l t floor).2)
 else (Chunk.zero,1)
theorem sinceA_len (t : List Change) (s : Sub) : (sinceA t s).length ≤ t.length := List.length_filter_le _ _
theorem since_all {t : List Change} (ht : trailOk t) (s : Sub) : sinceV t s.cur t.length [s.r] = sinceA t s := by
 unfold sinceV withoutV
 rw [if_pos ht]
 have e : (t.filter fun c => !decide (c.seq ≤ s.cur ∨ ¬ (meetV [s.r]).isIn c.key)) = sinceA t s := by
  unfold sinceA
  congr 1; funext c
  simp only [meet_one]
  by_cases h1 : c.seq ≤ s.cur
  ·have : ¬ s.cur < c.seq := by omega
   simp [h1,this]
  ·have : s.cur < c.seq := by omega
   simp [h1,this]
 simp only [e]
 rw [zD]
 have := sinceA_len t s
 unfold cutAt; omega
theorem leftV_trail {s : Sub} {l : List Pair} {t : List Change} {floor : Int} (h : (leftV s l t floor).2 = 0) : trailOk t := by
 have hf := atV_facts l t floor s.cur
 unfold leftV at h
 split at h
 ·rename_i g
  rcases hf with ⟨_,_,_,_,h⟩ | ⟨_,hf⟩
  ·exact h
  ·omega
 ·rename_i g; exact absurd h g
set_option maxHeartbeats 8000000 in
theorem feed_Poll (s : Sub) (l : List Pair) (t : List Change) (floor most : Int) (hl : l.length ≤ 200000) (ht : t.length ≤ 200000) :
  Ct pG 82 (Zv.ops [s.pv,.row (l.map Pair.pv),.row (t.map Change.pv),.int .i64 floor,.int .i64 most]) (.vals [(pollV s l t floor most).1.pv,.int .i64 (pollV s l t floor most).2]) := by
 have hc := feed_left s l t floor hl ht
 have hlen := leftV_len s l t floor
 have hto := @leftV_trail s l t floor
 have hbad : ¬ (s.ok ∧ 1 ≤ most) → pollV s l t floor most = (Chunk.zero,1) := fun h => by unfold pollV; rw [if_neg h]
 refine Ct.of_V Tryz.func82 rfl (by simp [Zv.ops,Tryz.f82]) ?_
 refine V.exec 400 ?_
 simp +contextual (maxSteps:=9^7) only [go_sem,Tryz.f82,Sub.pv]
 refine V.call rfl rfl (by simp [dOK]) ⟨102,[],by simp only [go_sem],⟨_,rfl,rfl,rfl⟩,.inl ⟨[s.pv],_,.inl (by simp only [go_sem,Sub.pv]),feed_Right s,.inl ⟨_,rfl,rfl,rfl,rfl⟩⟩⟩ ?_
 refine V.exec 400 ?_
 by_cases hok : s.ok
 ·by_cases hm : most < 1
  ·have hv := hbad (fun h => by omega)
   simp +contextual (maxSteps:=9^7) only [go_sem,hok,hm,hv,Chunk.zero,Chunk.pv,zB]
  ·have hv : pollV s l t floor most = if (leftV s l t floor).2 = 0 then
     if s.live = true then (⟨[],(sinceA t s).take (cutM most (sinceA t s).length),decide (cutM most (sinceA t s).length < (sinceA t s).length)⟩,0)
     else (⟨(leftV s l t floor).1.take (cutM most (leftV s l t floor).1.length),[],decide (cutM most (leftV s l t floor).1.length < (leftV s l t floor).1.length)⟩,0)
    else (Chunk.zero,(leftV s l t floor).2) := by unfold pollV; rw [if_pos ⟨hok,by omega⟩]
   obtain ⟨p,e,hp⟩ : ∃ p e,leftV s l t floor = (p,e) := ⟨_,_,rfl⟩
   rw [hp] at hc hlen hv hto
   simp only at hc hlen hv hto
   simp +contextual (maxSteps:=9^7) only [go_sem,hok,hm]
   refine V.call rfl rfl (by simp [dOK]) ⟨130,[],by simp only [go_sem],⟨_,rfl,rfl,rfl⟩,.inl ⟨[s.pv,.row (l.map Pair.pv),.row (t.map Change.pv),.int .i64 floor],_,.inl (by simp only [go_sem,Sub.pv]),hc,.inr (.inl ⟨_,rfl,rfl,rfl⟩)⟩⟩ ?_
   refine V.exec 400 ?_
   by_cases he : e = 0
   ·subst he
    rw [if_pos rfl] at hv
    by_cases hlv : s.live = true
    ·rw [if_pos hlv] at hv
     have hsl := sinceA_len t s
     have hk := trail_Since t s.cur t.length [s.r] (by omega) (by simp)
     rw [since_all (hto rfl)] at hk
     simp +contextual (maxSteps:=9^7) only [go_sem,hlv]
     refine V.call rfl rfl (by simp [dOK]) ⟨30,[],by simp only [go_sem],⟨_,rfl,rfl,rfl⟩,.inl ⟨[.row (t.map Change.pv),.int .i64 s.cur,.int .i64 t.length,.row ([s.r].map Range.pv)],_,.inl (by simp only [go_sem,Range.pv,zC,zB]),hk,.inr (.inl ⟨_,rfl,rfl,rfl⟩)⟩⟩ ?_
     refine V.exec 400 ?_
     generalize sinceA t s = w at *
     have hcm : (if (w.length : Int) < most then (w.length : Int) else most) = ((cutM most w.length : Nat) : Int) := by
      unfold cutM
      split <;> omega
     have hc2 : cutM most w.length ≤ w.length := by unfold cutM; omega
     simp +contextual (maxSteps:=9^7) only [go_sem,hcm]
     refine ⟨by omega,?_⟩
     rw [hv]
     simp [Chunk.pv,List.map_take]
    ·rw [if_neg hlv] at hv
     have hcm : (if (p.length : Int) < most then (p.length : Int) else most) = ((cutM most p.length : Nat) : Int) := by
      unfold cutM
      split <;> omega
     have hc2 : cutM most p.length ≤ p.length := by unfold cutM; omega
     simp +contextual (maxSteps:=9^7) only [go_sem,hlv,hcm]
     refine ⟨by omega,?_⟩
     rw [hv]
     simp [Chunk.pv,List.map_take]
   ·rw [if_neg he] at hv
    simp +contextual (maxSteps:=9^7) only [go_sem,he,hv,Chunk.zero,Chunk.pv,zB]
 ·have hv := hbad (fun h => hok h.1)
  simp +contextual (maxSteps:=9^7) only [go_sem,hok,hv,Chunk.zero,Chunk.pv,zB]
def tookV (s : Sub) (l : List Pair) (t : List Change) (floor n : Int) : Sub × Int :=
 if s.ok ∧ s.live = false ∧ 0 ≤ n then
  if (leftV s l t floor).2 = 0 then
   if n > ((leftV s l t floor).1.length : Int) then (s,9)
   else if n = ((leftV s l t floor).1.length : Int) then ({ s with live := true,next := [] },0)
   else match (leftV s l t floor).1[n.toNat - 1]? with
    | some x => if 0 < n then ({ s with next := x.key ++ [0] },0) else (s,0)
    | none => (s,0)
  else (s,(leftV s l t floor).2)
 else (s,1)
def ackV (s : Sub) (head seq : Int) : Sub × Int :=
 if s.ok ∧ s.live = true ∧ s.cur ≤ seq then (if head < seq then (s,9) else ({ s with cur := seq },0)) else (s,1)
theorem leftV_keys {s : Sub} {l : List Pair} {t : List Change} {floor : Int} : ∀ x ∈ (leftV s l t floor).1,x.key.length ≤ 16 := fun x hx => by
 have hf := atV_facts l t floor s.cur
 unfold leftV at hx
 split at hx
 ·rename_i g
  rcases hf with ⟨_,h,_⟩ | ⟨_,hf⟩
  ·exact (short_of _ none h x (List.mem_filter.1 hx).1).1
  ·omega
 ·simp at hx
set_option maxHeartbeats 8000000 in
theorem feed_Took (s : Sub) (l : List Pair) (t : List Change) (floor n : Int) (hl : l.length ≤ 200000) (ht : t.length ≤ 200000) :
  Ct pG 83 (Zv.ops [s.pv,.row (l.map Pair.pv),.row (t.map Change.pv),.int .i64 floor,.int .i64 n]) (.vals [(tookV s l t floor n).1.pv,.int .i64 (tookV s l t floor n).2]) := by
 have hc := feed_left s l t floor hl ht
 have hlen := leftV_len s l t floor
 have hkeys := @leftV_keys s l t floor
 have hbad : ¬ (s.ok ∧ s.live = false ∧ 0 ≤ n) → tookV s l t floor n = (s,1) := fun h => by unfold tookV; rw [if_neg h]
 refine Ct.of_V Tryz.func83 rfl (by simp [Zv.ops,Tryz.f83]) ?_
 refine V.exec 400 ?_
 simp +contextual (maxSteps:=9^7) only [go_sem,Tryz.f83,Sub.pv]
 refine V.call rfl rfl (by simp [dOK]) ⟨102,[],by simp only [go_sem],⟨_,rfl,rfl,rfl⟩,.inl ⟨[s.pv],_,.inl (by simp only [go_sem,Sub.pv]),feed_Right s,.inl ⟨_,rfl,rfl,rfl,rfl⟩⟩⟩ ?_
 refine V.exec 400 ?_
 by_cases hok : s.ok
 ·by_cases hlv : s.live = true
  ·have hv := hbad (fun h => by rw [hlv] at h; exact Bool.noConfusion h.2.1)
   simp +contextual (maxSteps:=9^7) only [go_sem,hok,hlv,hv,Sub.pv]
  ·have hlf : s.live = false := by simpa using hlv
   by_cases hm : n < 0
   ·have hv := hbad (fun h => by omega)
    simp +contextual (maxSteps:=9^7) only [go_sem,hok,hlv,hm,hv,Sub.pv]
   ·have hv : tookV s l t floor n = (if (leftV s l t floor).2 = 0 then
      if n > ((leftV s l t floor).1.length : Int) then (s,9)
      else if n = ((leftV s l t floor).1.length : Int) then ({ s with live := true,next := [] },0)
      else match (leftV s l t floor).1[n.toNat - 1]? with
       | some x => if 0 < n then ({ s with next := x.key ++ [0] },0) else (s,0)
       | none => (s,0)
     else (s,(leftV s l t floor).2) : Sub × Int) := by unfold tookV; rw [if_pos ⟨hok,hlf,by omega⟩]; first | done | rfl
    obtain ⟨p,e,hp⟩ : ∃ p e,leftV s l t floor = (p,e) := ⟨_,_,rfl⟩
    rw [hp] at hc hlen hv hkeys
    simp only at hc hlen hv hkeys
    simp +contextual (maxSteps:=9^7) only [go_sem,hok,hlv,hm]
    refine V.call rfl rfl (by simp [dOK]) ⟨130,[],by simp only [go_sem],⟨_,rfl,rfl,rfl⟩,.inl ⟨[s.pv,.row (l.map Pair.pv),.row (t.map Change.pv),.int .i64 floor],_,.inl (by simp only [go_sem,Sub.pv,hlv]),hc,.inr (.inl ⟨_,rfl,rfl,rfl⟩)⟩⟩ ?_
    refine V.exec 400 ?_
    by_cases he : e = 0
    ·subst he
     rw [if_pos rfl] at hv
     by_cases h9 : (p.length : Int) < n
     ·rw [if_pos h9] at hv
      simp +contextual (maxSteps:=9^7) only [go_sem,hlv,h9,hv,Sub.pv]
     ·rw [if_neg h9] at hv
      by_cases hn : n = (p.length : Int)
      ·subst hn
       rw [if_pos rfl] at hv
       simp +contextual (maxSteps:=9^7) only [go_sem,hlv,h9,hv,Sub.pv,decide_true]
      ·rw [if_neg hn] at hv
       by_cases h0 : 0 < n
       ·obtain ⟨x,hx⟩ : ∃ x,p[n.toNat - 1]? = some x := ⟨_,zA (by omega)⟩
        have hxk := hkeys x (zE hx)
        rw [hx] at hv
        simp only [h0,if_true] at hv
        have hw : IntKind.i64.wrap (n - 1) = ((n.toNat - 1 : Nat) : Int) := by rw [wrap_small3] <;> omega
        have hlt : ((n.toNat - 1 : Nat) : Int) < (p.length : Int) := by omega
        simp +contextual (maxSteps:=9^7) only [go_sem,hlv,h9,hn,h0,hw,hlt,hx,hv,Pair.pv,Sub.pv]
        omega
       ·have hv2 : tookV s l t floor n = (s,0) := by
         rw [hv]; split <;> simp [h0]
        simp +contextual (maxSteps:=9^7) only [go_sem,hlv,h9,hn,h0,hv2,Sub.pv]
    ·rw [if_neg he] at hv
     simp +contextual (maxSteps:=9^7) only [go_sem,he,hlv,hv,Sub.pv]
 ·have hv := hbad (fun h => hok h.1)
  simp +contextual (maxSteps:=9^7) only [go_sem,hok,hv,Sub.pv]
set_option maxHeartbeats 8000000 in
theorem feed_Ack (s : Sub) (head seq : Int) :
  Ct pG 84 (Zv.ops [s.pv,.int .i64 head,.int .i64 seq]) (.vals [(ackV s head seq).1.pv,.int .i64 (ackV s head seq).2]) := by
 have hbad : ¬ (s.ok ∧ s.live = true ∧ s.cur ≤ seq) → ackV s head seq = (s,1) := fun h => by unfold ackV; rw [if_neg h]
 refine Ct.of_V Tryz.func84 rfl (by simp [Zv.ops,Tryz.f84]) ?_
 refine V.exec 400 ?_
 simp +contextual (maxSteps:=9^7) only [go_sem,Tryz.f84,Sub.pv]
 refine V.call rfl rfl (by simp [dOK]) ⟨102,[],by simp only [go_sem],⟨_,rfl,rfl,rfl⟩,.inl ⟨[s.pv],_,.inl (by simp only [go_sem,Sub.pv]),feed_Right s,.inl ⟨_,rfl,rfl,rfl,rfl⟩⟩⟩ ?_
 refine V.exec 400 ?_
 by_cases hok : s.ok
 ·by_cases hlv : s.live = true
  ·by_cases hm : seq < s.cur
   ·have hv := hbad (fun h => by omega)
    simp +contextual (maxSteps:=9^7) only [go_sem,hok,hlv,hm,hv,Sub.pv]
   ·by_cases hh : head < seq
    ·have hv : ackV s head seq = (s,9) := by unfold ackV; rw [if_pos ⟨hok,hlv,by omega⟩,if_pos hh]
     simp +contextual (maxSteps:=9^7) only [go_sem,hok,hlv,hm,hh,hv,Sub.pv]
    ·have hv : ackV s head seq = ({ s with cur := seq },0) := by unfold ackV; rw [if_pos ⟨hok,hlv,by omega⟩,if_neg hh]
     simp +contextual (maxSteps:=9^7) only [go_sem,hok,hlv,hm,hh,hv,Sub.pv]
  ·have hv := hbad (fun h => hlv h.2.1)
   simp +contextual (maxSteps:=9^7) only [go_sem,hok,hlv,hv,Sub.pv]
 ·have hv := hbad (fun h => hok h.1)
  simp +contextual (maxSteps:=9^7) only [go_sem,hok,hv,Sub.pv]
set_option maxHeartbeats 8000000 in
theorem ref19_Took (s : Sub) (l : List Pair) (t : List Change) (floor n : Int) (hl : l.length ≤ 100000) (ht : t.length ≤ 100000) :
  Ct pG 96 (Zv.ops [s.pv,.row (l.map Pair.pv),.row (t.map Change.pv),.int .i64 floor,.int .i64 n]) (.vals [(tookV s l t floor n).1.pv,.int .i64 (tookV s l t floor n).2]) := by
 have hc := ref19_left s l t floor hl ht
 have hlen := leftV_len s l t floor
 have hkeys := @leftV_keys s l t floor
 have hbad : ¬ (s.ok ∧ s.live = false ∧ 0 ≤ n) → tookV s l t floor n = (s,1) := fun h => by unfold tookV; rw [if_neg h]
 refine Ct.of_V Tryz.func96 rfl (by simp [Zv.ops,Tryz.f96]) ?_
 refine V.exec 400 ?_
 simp +contextual (maxSteps:=9^7) only [go_sem,Tryz.f96,Sub.pv]
 refine V.call rfl rfl (by simp [dOK]) ⟨92,[],by simp only [go_sem],⟨_,rfl,rfl,rfl⟩,.inl ⟨[s.pv],_,.inl (by simp only [go_sem,Sub.pv]),ref19_Right s,.inl ⟨_,rfl,rfl,rfl,rfl⟩⟩⟩ ?_
 refine V.exec 400 ?_
 by_cases hok : s.ok
 ·by_cases hlv : s.live = true
  ·have hv := hbad (fun h => by rw [hlv] at h; exact Bool.noConfusion h.2.1)
   simp +contextual (maxSteps:=9^7) only [go_sem,hok,hlv,hv,Sub.pv]
  ·have hlf : s.live = false := by simpa using hlv
   by_cases hm : n < 0
   ·have hv := hbad (fun h => by omega)
    simp +contextual (maxSteps:=9^7) only [go_sem,hok,hlv,hm,hv,Sub.pv]
   ·have hv : tookV s l t floor n = (if (leftV s l t floor).2 = 0 then
      if n > ((leftV s l t floor).1.length : Int) then (s,9)
      else if n = ((leftV s l t floor).1.length : Int) then ({ s with live := true,next := [] },0)
      else match (leftV s l t floor).1[n.toNat - 1]? with
       | some x => if 0 < n then ({ s with next := x.key ++ [0] },0) else (s,0)
       | none => (s,0)
     else (s,(leftV s l t floor).2) : Sub × Int) := by unfold tookV; rw [if_pos ⟨hok,hlf,by omega⟩]; first | done | rfl
    obtain ⟨p,e,hp⟩ : ∃ p e,leftV s l t floor = (p,e) := ⟨_,_,rfl⟩
    rw [hp] at hc hlen hv hkeys
    simp only at hc hlen hv hkeys
    simp +contextual (maxSteps:=9^7) only [go_sem,hok,hlv,hm]
    refine V.call rfl rfl (by simp [dOK]) ⟨138,[],by simp only [go_sem],⟨_,rfl,rfl,rfl⟩,.inl ⟨[s.pv,.row (l.map Pair.pv),.row (t.map Change.pv),.int .i64 floor],_,.inl (by simp only [go_sem,Sub.pv,hlv]),hc,.inr (.inl ⟨_,rfl,rfl,rfl⟩)⟩⟩ ?_
    refine V.exec 400 ?_
    by_cases he : e = 0
    ·subst he
     rw [if_pos rfl] at hv
     by_cases h9 : (p.length : Int) < n
     ·rw [if_pos h9] at hv
      simp +contextual (maxSteps:=9^7) only [go_sem,hlv,h9,hv,Sub.pv]
     ·rw [if_neg h9] at hv
      by_cases hn : n = (p.length : Int)
      ·subst hn
       rw [if_pos rfl] at hv
       simp +contextual (maxSteps:=9^7) only [go_sem,hlv,h9,hv,Sub.pv,decide_true]
      ·rw [if_neg hn] at hv
       by_cases h0 : 0 < n
       ·obtain ⟨x,hx⟩ : ∃ x,p[n.toNat - 1]? = some x := ⟨_,zA (by omega)⟩
        have hxk := hkeys x (zE hx)
        rw [hx] at hv
        simp only [h0,if_true] at hv
        have hw : IntKind.i64.wrap (n - 1) = ((n.toNat - 1 : Nat) : Int) := by rw [wrap_small3] <;> omega
        have hlt : ((n.toNat - 1 : Nat) : Int) < (p.length : Int) := by omega
        have hn0 : ¬ n = 0 := by omega
        simp +contextual (maxSteps:=9^7) only [go_sem,hlv,h9,hn,h0,hn0,hw,hlt,hx,hv,Pair.pv,Sub.pv]
        (repeat' (first | (intro _) | (refine ⟨by kernel_rfl,?_⟩) | (apply And.intro)))
        all_goals first | omega | kernel_rfl
       ·have hv2 : tookV s l t floor n = (s,0) := by
         rw [hv]; split <;> simp [h0]
        have hn0 : n = 0 := by omega
        subst hn0
        simp +contextual (maxSteps:=9^7) only [go_sem,hlv,h9,hn,h0,hv2,Sub.pv]
    ·rw [if_neg he] at hv
     simp +contextual (maxSteps:=9^7) only [go_sem,he,hlv,hv,Sub.pv]
 ·have hv := hbad (fun h => hok h.1)
  simp +contextual (maxSteps:=9^7) only [go_sem,hok,hv,Sub.pv]
set_option maxHeartbeats 8000000 in
theorem ref19_Ack (s : Sub) (head seq : Int) :
  Ct pG 95 (Zv.ops [s.pv,.int .i64 head,.int .i64 seq]) (.vals [(ackV s head seq).1.pv,.int .i64 (ackV s head seq).2]) := by
 have hbad : ¬ (s.ok ∧ s.live = true ∧ s.cur ≤ seq) → ackV s head seq = (s,1) := fun h => by unfold ackV; rw [if_neg h]
 refine Ct.of_V Tryz.func95 rfl (by simp [Zv.ops,Tryz.f95]) ?_
 refine V.exec 400 ?_
 simp +contextual (maxSteps:=9^7) only [go_sem,Tryz.f95,Sub.pv]
 refine V.call rfl rfl (by simp [dOK]) ⟨92,[],by simp only [go_sem],⟨_,rfl,rfl,rfl⟩,.inl ⟨[s.pv],_,.inl (by simp only [go_sem,Sub.pv]),ref19_Right s,.inl ⟨_,rfl,rfl,rfl,rfl⟩⟩⟩ ?_
 refine V.exec 400 ?_
 by_cases hok : s.ok
 ·by_cases hlv : s.live = true
  ·by_cases hm : seq < s.cur
   ·have hv := hbad (fun h => by omega)
    simp +contextual (maxSteps:=9^7) only [go_sem,hok,hlv,hm,hv,Sub.pv]
   ·by_cases hh : head < seq
    ·have hv : ackV s head seq = (s,9) := by unfold ackV; rw [if_pos ⟨hok,hlv,by omega⟩,if_pos hh]
     simp +contextual (maxSteps:=9^7) only [go_sem,hok,hlv,hm,hh,hv,Sub.pv]
    ·have hv : ackV s head seq = ({ s with cur := seq },0) := by unfold ackV; rw [if_pos ⟨hok,hlv,by omega⟩,if_neg hh]
     have hn := hok.2.2.1 hlv
     simp +contextual (maxSteps:=9^7) only [go_sem,hok,hlv,hm,hh,hv,hn,Sub.pv]
  ·have hv := hbad (fun h => hlv h.2.1)
   simp +contextual (maxSteps:=9^7) only [go_sem,hok,hlv,hv,Sub.pv]
 ·have hv := hbad (fun h => hok h.1)
  simp +contextual (maxSteps:=9^7) only [go_sem,hok,hv,Sub.pv]
theorem sinceA_snoc {t : List Change} {i : Nat} {x : Change} (hx : t[i]? = some x) (s : Sub) : sinceA (t.take (i + 1)) s = if s.cur < x.seq ∧ s.r.isIn x.key then sinceA (t.take i) s ++ [x] else sinceA (t.take i) s := by
 unfold sinceA
 rw [zL,hx,zV]
 by_cases h : s.cur < x.seq ∧ s.r.isIn x.key
 ·simp [h]
 ·rw [if_neg h]; simp [h]
theorem sinceA_pre (t : List Change) (s : Sub) (i : Nat) : (sinceA t s).take (sinceA (t.take i) s).length = sinceA (t.take i) s := by
 have : sinceA t s = sinceA (t.take i) s ++ sinceA (t.drop i) s := by
  unfold sinceA
  rw [← zV,List.take_append_drop]
 rw [this,List.take_left]
set_option maxHeartbeats 8000000 in
theorem ref16_Since (s : Sub) (t : List Change) (most : Int) (ht : t.length ≤ 100000) (hm : 0 ≤ most) :
  Ct pG 98 (Zv.ops [.row (t.map Change.pv),.int .i64 s.cur,.int .i64 most,.row ([s.r].map Range.pv)]) (.vals [.row (((sinceA t s).take (cutM most (sinceA t s).length)).map Change.pv)]) := by
 refine Ct.of_V Tryz.func98 rfl (by simp [Zv.ops,Tryz.f98]) ?_
 refine V.exec 400 ?_
 simp +contextual (maxSteps:=9^7) only [go_sem,Tryz.f98]
 refine V.loop (fun m ls os => ∃ (i : Nat),i ≤ t.length ∧ m = t.length - i ∧ ((sinceA (t.take i) s).length : Int) ≤ most ∧
    ls = [(0,.val (.row (t.map Change.pv))),(1,.val (.int .i64 s.cur)),(2,.val (.int .i64 most)),(3,.val (.row ([s.r].map Range.pv))),(9,.ref 0),(10,.val (.int .i64 i))] ∧ os = [.row 89 ((sinceA (t.take i) s).map Change.pv)]) 1 t.length
   [(0,.val (.row (t.map Change.pv))),(1,.val (.int .i64 s.cur)),(2,.val (.int .i64 most)),(3,.val (.row ([s.r].map Range.pv))),(9,.ref 0),(10,.val (.int .i64 0))] [.row 89 []] [none]
   ⟨0,zF _,rfl,hm,rfl,rfl⟩ (by simp only [go_sem]; try decide) ?_
 rintro m ls os ⟨i,hi,rfl,him,rfl,rfl⟩
 have hpl : (sinceA (t.take i) s).length ≤ t.length := Nat.le_trans (sinceA_len _ _) (by rw [zU]; omega)
 have hpre := sinceA_pre t s i
 have hle : (sinceA (t.take i) s).length ≤ (sinceA t s).length := by
  have := congrArg List.length hpre
  rw [zU] at this; omega
 have hend : ¬ (i < t.length ∧ ((sinceA (t.take i) s).length : Int) < most) → (sinceA t s).take (cutM most (sinceA t s).length) = sinceA (t.take i) s := fun h => by
  by_cases h2 : ((sinceA (t.take i) s).length : Int) = most
  ·have e : cutM most (sinceA t s).length = (sinceA (t.take i) s).length := by unfold cutM; omega
   rw [e,hpre]
  ·have h3 : t.take i = t := zD (by omega)
   rw [h3] at him h2 ⊢
   rw [zD]
   unfold cutM; omega
 by_cases hlt : i < t.length
 ·have hlt' : (i : Int) < (t.length : Int) := by omega
  obtain ⟨x,hx⟩ : ∃ x,t[i]? = some x := ⟨_,zA hlt⟩
  have hw : IntKind.i64.wrap ((i : Int) + 1) = ((i + 1 : Nat) : Int) := by rw [wrap_small3] <;> omega
  have hn := sinceA_snoc hx s
  by_cases hmo : ((sinceA (t.take i) s).length : Int) < most
  ·generalize sinceA (t.take i) s = L at *
   refine V.exec 400 ?_
   simp +contextual (maxSteps:=9^7) only [go_sem,hlt',hmo,hx,Change.pv]
   refine V.loop (fun m ls os => ∃ (k : Nat) (b : Bool),k ≤ 1 ∧ m = 1 - k ∧ b = (if k = 0 then decide (s.cur < x.seq) else decide (s.cur < x.seq ∧ s.r.isIn x.key)) ∧
     ls = [(0,.val (.row (t.map Change.pv))),(1,.val (.int .i64 s.cur)),(2,.val (.int .i64 most)),(3,.val (.row ([s.r].map Range.pv))),(9,.ref 0),(10,.val (.int .i64 i)),(11,.val (.bool b)),(12,.val (.int .i64 k))] ∧ os = [.row 89 (L.map Change.pv)]) 1 1
    [(0,.val (.row (t.map Change.pv))),(1,.val (.int .i64 s.cur)),(2,.val (.int .i64 most)),(3,.val (.row ([s.r].map Range.pv))),(9,.ref 0),(10,.val (.int .i64 i)),(11,.val (.bool (decide (s.cur < x.seq)))),(12,.val (.int .i64 0))] [.row 89 (L.map Change.pv)] [some 0]
    ⟨0,_,zF _,rfl,rfl,rfl,rfl⟩ (by simp only [go_sem,Range.pv,zC,zB]; try decide) ?_
   rintro m ls os ⟨k,b,hk,rfl,hb,rfl,rfl⟩
   have hk2 : k = 0 ∨ k = 1 := by omega
   rcases hk2 with rfl | rfl
   ·rw [if_pos rfl] at hb
    subst hb
    have n1 : ((1 : Nat) : Int) = 1 := rfl
    have n0 : ((0 : Nat) : Int) = 0 := rfl
    have h01 : (0 : Int) < 1 := by decide
    have t0 : Int.toNat 0 = 0 := rfl
    have hw01 : IntKind.i64.wrap (0 + 1) = 1 := by decide
    refine V.exec 400 ?_
    simp +contextual (maxSteps:=9^7) only [go_sem,hlt',hx,Change.pv,Range.pv,zC,zB,zT,List.length_nil,n1,n0,h01,t0,List.getElem?_cons_zero]
    refine ⟨Int.le_refl 0,?_⟩
    refine DV.call [] [] (by simp only [go_sem,Range.pv]) (by simp [dOK]) ⟨62,[],by simp only [go_sem,Range.pv],⟨_,rfl,rfl,rfl⟩,.inl ⟨[s.r.pv,.str x.key],_,.inl (by simp only [go_sem,Range.pv]),ref03_In s.r x.key,.inl ⟨_,rfl,rfl,rfl,rfl⟩⟩⟩ (by simp only [go_sem,Range.pv]) (by simp only [go_sem,Range.pv]) (by simp only [go_sem,Range.pv]) (by simp) ?_
    refine DV.exec 400 ?_
    by_cases h1 : s.cur < x.seq
    ·by_cases h2 : s.r.isIn x.key
     ·simp +contextual (maxSteps:=9^7) only [go_sem,h1,h2,hw01]
      refine ⟨by kernel_rfl,0,_,_,[some 0],by omega,⟨1,true,by omega,rfl,by simp [h1,h2],rfl,rfl⟩,?_⟩
      simp only [go_sem,Range.pv,zC,zB,n1]
      try decide
     ·simp +contextual (maxSteps:=9^7) only [go_sem,h1,h2,hw01]
      refine ⟨by kernel_rfl,0,_,_,[some 0],by omega,⟨1,false,by omega,rfl,by simp [h1,h2],rfl,rfl⟩,?_⟩
      simp only [go_sem,Range.pv,zC,zB,n1]
      try decide
    ·by_cases h2 : s.r.isIn x.key
     ·simp +contextual (maxSteps:=9^7) only [go_sem,h1,h2,hw01]
      refine ⟨by kernel_rfl,0,_,_,[some 0],by omega,⟨1,false,by omega,rfl,by simp [h1,h2],rfl,rfl⟩,?_⟩
      simp only [go_sem,Range.pv,zC,zB,n1]
      try decide
     ·simp +contextual (maxSteps:=9^7) only [go_sem,h1,h2,hw01]
      refine ⟨by kernel_rfl,0,_,_,[some 0],by omega,⟨1,false,by omega,rfl,by simp [h1,h2],rfl,rfl⟩,?_⟩
      simp only [go_sem,Range.pv,zC,zB,n1]
      try decide
   ·have e1 : ¬ ((1 : Nat) = 0) := by decide
    rw [if_neg e1] at hb
    subst hb
    have n1 : ((1 : Nat) : Int) = 1 := rfl
    have h11 : ¬ (1 : Int) < 1 := by decide
    refine V.exec 400 ?_
    by_cases hin : s.cur < x.seq ∧ s.r.isIn x.key
    ·rw [if_pos hin] at hn
     simp +contextual (maxSteps:=9^7) only [go_sem,zC,zB,zT,List.length_nil,n1,h11,hin,hx,hlt',hw,Change.pv]
     refine ⟨⟨by omega,by omega⟩,t.length - (i + 1),_,_,[some 12],by omega,⟨i + 1,by omega,rfl,by rw [hn,zJ,List.length_singleton]; omega,rfl,rfl⟩,?_⟩
     simp only [go_sem,hn,zM,zC,zB,Change.pv,Range.pv]
     try decide
    ·rw [if_neg hin] at hn
     simp +contextual (maxSteps:=9^7) only [go_sem,zC,zB,zT,List.length_nil,n1,h11,hin,hx,hlt',hw,Change.pv]
     refine ⟨t.length - (i + 1),_,_,[some 0],by omega,⟨i + 1,by omega,rfl,by rw [hn]; exact him,rfl,rfl⟩,?_⟩
     simp only [go_sem,hn,Range.pv,zC,zB]
     try decide
  ·have hv := hend (fun h => hmo h.2)
   rw [hv]
   generalize sinceA (t.take i) s = L at *
   refine V.exec 400 ?_
   simp +contextual (maxSteps:=9^7) only [go_sem,hlt',hmo]
 ·have hlt' : ¬ (i : Int) < (t.length : Int) := by omega
  have hv := hend (fun h => hlt h.1)
  rw [hv]
  refine V.exec 400 ?_
  simp +contextual (maxSteps:=9^7) only [go_sem,hlt']
def noteP (p : Pair) : Note := ⟨1,p.key,p.value,0⟩
def Chunk.slim (c : Chunk) : Prop := c.ps.length ≤ 1000 ∧ c.cs.length ≤ 1000
theorem put_one {l : List Pair} {x : Pair} (hs : Sorted (l ++ [x])) : oneV l (noteP x) = l ++ [x] := by
 have hl : Sorted l := List.Pairwise.sublist (List.sublist_append_left l [x]) hs
 refine val_ext (oneV_sorted hl _) hs fun k => ?_
 have hkk : (noteP x).key = x.key := rfl
 rw [oneV_val hl,hkk]
 have hx : stepO (val l k) (noteP x) = some x.value := by
  unfold stepO
  cases val l k <;> rfl
 by_cases e : k = x.key
 ·subst e
  rw [if_pos rfl,hx]
  exact ((val_iff hs).2 (by simp)).symm
 ·rw [if_neg e]
  apply Option.ext
  intro v
  rw [val_iff hl,val_iff hs]
  simp only [zO,List.mem_singleton]
  constructor
  ·exact .inl
  ·rintro (h | h)
   ·exact h
   ·exact absurd (congrArg Pair.key h) e
theorem put_all : ∀ (xs : List Pair) {l : List Pair},Sorted (l ++ xs) → appV l (xs.map noteP) = l ++ xs
 | [],l,_ => by simp [appV]
 | x :: r,l,h => by
  have h1 : Sorted (l ++ [x]) := by
   refine List.Pairwise.sublist ?_ h
   exact List.Sublist.append_left (List.Sublist.cons_cons x (List.nil_sublist r)) l
  have e : appV l ((x :: r).map noteP) = appV (oneV l (noteP x)) (r.map noteP) := rfl
  rw [e,put_one h1,put_all r (by simpa using h)]
  simp
set_option maxHeartbeats 2000000 in
theorem CloneSub (xs : List PV) (h1 : ∀ x ∈ xs,x.cells.length = 7) (hl : xs.length ≤ 1000000) : Ct pG 55 (Zv.ops [.row xs]) (.own 67 xs) := by
 refine Ct.of_V Tryz.func55 rfl (by simp [Zv.ops,Tryz.f55]) ?_
 refine V.exec 400 ?_
 simp +contextual (maxSteps:=9^7) only [go_sem,Tryz.f55]
 refine V.nilq (xs := xs) rfl rfl (.inl rfl) (by simp only [go_sem,↓reduceIte,Nat.reduceEqDiff]) (by simp only [go_sem]; rfl) (by simp [dOK]) fun c hc => ?_
 refine V.exec 400 ?_
 simp +contextual (maxSteps:=9^7) only [go_sem]
 exact ⟨fun h => ⟨hc h,7,rfl,by decide⟩,fun _ => ⟨h1,by omega,by omega⟩⟩
set_option maxHeartbeats 2000000 in
theorem IndexFuncSub (xs : List PV) (g : FuncId) (caps : List PV) (p : PV → Bool) (h1 : ∀ x ∈ xs,x.cells.length = 7 ∧ x.isAgg = true) (hl : xs.length ≤ 1000000) (hg : Entered pG g)
  (hp : ∀ x ∈ xs,Ct pG g (Zv.ops ([x] ++ caps)) (.vals [.bool (decide (p x = true))])) (r : Nat) (hr : r ≤ xs.length) (hr1 : ∀ x ∈ xs.take r,p x = false) (hr2 : ∀ x,xs[r]? = some x → p x = true) :
  Ct pG 103 (Zv.ops [.row xs,.fn g caps]) (.vals [.int .i64 (if r < xs.length then (r : Int) else -1)]) := by
 refine Ct.of_V Tryz.func103 rfl (by simp [Zv.ops,Tryz.f103]) ?_
 refine V.exec 400 ?_
 simp +contextual (maxSteps:=9^7) only [go_sem,Tryz.f103]
 refine V.loop (fun m ls os => ∃ i : Nat,i ≤ r ∧ m = xs.length - i ∧
    ls = [(0,.val (.row xs)),(1,.val (.fn g caps)),(7,.val (.int .i64 xs.length)),(8,.val (.int .i64 i))] ∧ os = []) 0 xs.length [(0,.val (.row xs)),(1,.val (.fn g caps)),(7,.val (.int .i64 xs.length)),(8,.val (.int .i64 0))] [] []
   ⟨0,zF _,rfl,rfl,rfl⟩ (by simp only [go_sem]) ?_
 rintro m ls os ⟨i,hi,rfl,rfl,rfl⟩
 refine V.exec 400 ?_
 by_cases hlt : i < xs.length
 ·have hlt' : (i : Int) < (xs.length : Int) := by omega
  obtain ⟨x,hx⟩ : ∃ x,xs[i]? = some x := ⟨_,zA hlt⟩
  have hxm : x ∈ xs := zE hx
  obtain ⟨hxc,hxa⟩ := h1 x hxm
  have hw : IntKind.i64.wrap ((i : Int) + 1) = ((i + 1 : Nat) : Int) := by rw [wrap_small] <;> omega
  simp +contextual (maxSteps:=9^7) only [go_sem,hlt',hx,hxc,hxa]
  refine V.call rfl rfl (by simp [dOK]) ⟨g,caps,by simp only [go_sem],hg,.inl ⟨[x],_,.inl (by simp only [go_sem]),hp x hxm,.inl ⟨_,rfl,rfl,rfl,rfl⟩⟩⟩ ?_
  refine V.exec 400 ?_
  simp +contextual (maxSteps:=9^7) only [go_sem,hw]
  constructor
  ·intro hpx
   have hir : i = r := by
    rcases Nat.lt_or_ge i r with h | h
    ·have := hr1 x (zE (i := i) (by rw [List.getElem?_take_of_lt h]; exact hx))
     rw [this] at hpx; cases hpx
    ·omega
   subst hir
   rw [if_pos hlt]
  ·intro hpx
   have hir : i < r := by
    rcases Nat.lt_or_ge i r with h | h
    ·exact h
    ·have : i = r := by omega
     subst this
     exact absurd (hr2 x hx) hpx
   exact ⟨xs.length - (i + 1),_,[],[],by omega,⟨i + 1,by omega,rfl,rfl,rfl⟩,by simp only [go_sem]⟩
 ·have hlt' : ¬ (i : Int) < (xs.length : Int) := by omega
  simp +contextual (maxSteps:=9^7) only [go_sem,hlt']
  rw [if_neg (by omega)]
set_option maxHeartbeats 4000000 in
theorem DeleteFuncSub (xs : List PV) (g : FuncId) (caps : List PV) (p : PV → Bool) (h1 : ∀ x ∈ xs,x.cells.length = 7 ∧ x.isAgg = true ∧ ∀ c ∈ x.cells,c.isAgg = false) (hl : xs.length ≤ 1000000) (hg : Entered pG g)
  (hp : ∀ x ∈ xs,Ct pG g (Zv.ops ([x] ++ caps)) (.vals [.bool (decide (p x = true))])) (hz : (zeroPV pG 67 7).isSome = true) :
  Ct pG 131 (.o 67 xs :: Zv.ops [.fn g caps]) (.own 67 (xs.filter fun x => !p x)) := by
 obtain ⟨r,hr,hr1,hr2⟩ : ∃ r,r ≤ xs.length ∧ (∀ x ∈ xs.take r,p x = false) ∧ ∀ x,xs[r]? = some x → p x = true := by
  clear h1 hl hp
  induction xs with
  | nil => exact ⟨0,by simp,by simp,by simp⟩
  | cons x xs ih =>
   by_cases hx : p x = true
   ·exact ⟨0,by simp,by simp,by simp [hx]⟩
   ·obtain ⟨r,h1,h2,h3⟩ := ih
    refine ⟨r + 1,by simpa using h1,?_,by simpa using h3⟩
    intro y hy
    simp only [List.take_succ_cons,zI] at hy
    rcases hy with rfl | hy
    ·simpa using hx
    ·exact h2 y hy
 refine Ct.of_V Tryz.func131 rfl (by simp [Zv.ops,Tryz.f131]) ?_
 refine V.exec 400 ?_
 simp +contextual (maxSteps:=9^7) only [go_sem,Tryz.f131]
 refine V.call rfl rfl (by simp [dOK]) ⟨103,[],by simp only [go_sem],⟨_,rfl,rfl,rfl⟩,.inl ⟨[.row xs,.fn g caps],_,.inl (by simp only [go_sem]),IndexFuncSub xs g caps p (fun x hx => ⟨(h1 x hx).1,(h1 x hx).2.1⟩) hl hg hp r hr hr1 hr2,.inl ⟨_,rfl,rfl,rfl,rfl⟩⟩⟩ ?_
 refine V.exec 400 ?_
 simp +contextual (maxSteps:=9^7) only [go_sem]
 constructor
 ·intro h
  have hrl : ¬ r < xs.length := by intro h'; rw [if_pos h'] at h; omega
  have : xs.filter (fun x => !p x) = xs := by
   rw [List.filter_eq_self]
   intro x hx
   have := hr1 x (by rw [zD (by omega)]; exact hx)
   simp [this]
  rw [this]
 ·intro h
  have hrl : r < xs.length := by
   rcases Nat.lt_or_ge r xs.length with h' | h'
   ·exact h'
   ·rw [if_neg (by omega)] at h; exact absurd rfl h
  simp only [if_pos hrl]
  have hw0 : IntKind.i64.wrap ((r : Int) + 1) = ((r + 1 : Nat) : Int) := by rw [wrap_small] <;> omega
  simp only [hw0]
  refine V.loop (fun m ls os => ∃ (i j : Nat) (ys : List PV),i < j ∧ j ≤ xs.length ∧ m = xs.length - j ∧ ys.length = xs.length ∧ ys.take i = (xs.take j).filter (fun x => !p x) ∧ ys.drop j = xs.drop j ∧ (∀ y ∈ ys,y ∈ xs) ∧
    ls = [(0,.ref 0),(1,.val (.fn g caps)),(5,.val (.int .i64 i)),(6,.val (.int .i64 j))] ∧ os = [.row 67 ys]) 1 (xs.length - (r + 1)) [(0,.ref 0),(1,.val (.fn g caps)),(5,.val (.int .i64 r)),(6,.val (.int .i64 (r + 1 : Nat)))] [.row 67 xs] [some 0]
   ⟨r,r + 1,xs,by omega,by omega,rfl,rfl,?_,rfl,fun y hy => hy,rfl,rfl⟩ (by simp only [go_sem]) ?_
  ·obtain ⟨x,hx⟩ : ∃ x,xs[r]? = some x := ⟨_,zA hrl⟩
   rw [zL,hx,zV]
   have e1 : (xs.take r).filter (fun x => !p x) = xs.take r := by
    rw [List.filter_eq_self]; intro y hy; simp [hr1 y hy]
   rw [e1]
   simp [hr2 x hx]
  ·rintro m ls os ⟨i,j,ys,hij,hj,rfl,hyl,hyt,hyd,hym,rfl,rfl⟩
   by_cases hlt : j < xs.length
   ·have hlt' : (j : Int) < (ys.length : Int) := by omega
    refine V.exec 400 ?_
    obtain ⟨x,hx⟩ : ∃ x,ys[j]? = some x := ⟨_,zA (by omega)⟩
    obtain ⟨z,hz'⟩ : ∃ z,ys[i]? = some z := ⟨_,zA (by omega)⟩
    have hxm : x ∈ xs := hym x (zE hx)
    have hzm : z ∈ xs := hym z (zE hz')
    obtain ⟨hzc,hza,_⟩ := h1 z hzm
    obtain ⟨hxc,hxa,hxn⟩ := h1 x hxm
    have hpx := hp x hxm
    obtain ⟨c0,c1,c2,c3,c4,c5,c6,rfl⟩ : ∃ c0 c1 c2 c3 c4 c5 c6,x = .agg [c0,c1,c2,c3,c4,c5,c6] := by
     cases x with
     | agg cs =>
      match cs,hxc with
      | [c0,c1,c2,c3,c4,c5,c6],_ => exact ⟨c0,c1,c2,c3,c4,c5,c6,rfl⟩
     | _ => cases hxa
    have n0 : c0.isAgg = false := hxn c0 (by simp [PV.cells])
    have n1 : c1.isAgg = false := hxn c1 (by simp [PV.cells])
    have n2 : c2.isAgg = false := hxn c2 (by simp [PV.cells])
    have n3 : c3.isAgg = false := hxn c3 (by simp [PV.cells])
    have n4 : c4.isAgg = false := hxn c4 (by simp [PV.cells])
    have n5 : c5.isAgg = false := hxn c5 (by simp [PV.cells])
    have n6 : c6.isAgg = false := hxn c6 (by simp [PV.cells])
    have hwi : IntKind.i64.wrap ((i : Int) + 1) = ((i + 1 : Nat) : Int) := by rw [wrap_small] <;> omega
    have hwj : IntKind.i64.wrap ((j : Int) + 1) = ((j + 1 : Nat) : Int) := by rw [wrap_small] <;> omega
    simp +contextual (maxSteps:=9^7) only [go_sem,hlt',hx,n0,n1,n2,n3,n4,n5,n6]
    refine V.call rfl rfl (by simp [dOK]) ⟨g,caps,by simp only [go_sem],hg,.inl ⟨[_],_,.inl (by simp only [go_sem]),hpx,.inl ⟨_,rfl,rfl,rfl,rfl⟩⟩⟩ ?_
    refine V.exec 400 ?_
    simp +contextual (maxSteps:=9^7) only [go_sem,hwi,hwj,hz',hzc,n0,n1,n2,n3,n4,n5,n6]
    have hxj : xs[j]? = some (.agg [c0,c1,c2,c3,c4,c5,c6]) := by
     have e1 : (ys.drop j)[0]? = (xs.drop j)[0]? := by rw [hyd]
     simp only [List.getElem?_drop,Nat.add_zero] at e1
     rw [← e1]; exact hx
    have hdrop : ys.drop (j + 1) = xs.drop (j + 1) := by rw [← List.drop_drop,← List.drop_drop,hyd]
    have htk : xs.take (j + 1) = xs.take j ++ [.agg [c0,c1,c2,c3,c4,c5,c6]] := by rw [zL,hxj]; rfl
    constructor
    ·intro hpx
     refine ⟨xs.length - (j + 1),_,_,[some 0],by omega,⟨i + 1,j + 1,ys.set i (.agg [c0,c1,c2,c3,c4,c5,c6]),by omega,by omega,rfl,by simpa using hyl,?_,?_,?_,rfl,rfl⟩,?_⟩
     ·rw [htk,zV,← hyt,zL,List.getElem?_set_self (by omega),List.take_set_of_le (zR _)]
      simp [hpx]
     ·rw [List.drop_set_of_lt (by omega)]; exact hdrop
     ·intro y hy
      rcases List.mem_or_eq_of_mem_set hy with hy | hy
      ·exact hym y hy
      ·rw [hy]; exact hxm
     ·simp only [go_sem]
    ·intro hpx
     refine ⟨xs.length - (j + 1),_,_,[some 0],by omega,⟨i,j + 1,ys,by omega,by omega,rfl,hyl,?_,hdrop,hym,rfl,rfl⟩,?_⟩
     ·rw [htk,zV,hyt]
      simp [hpx]
     ·simp only [go_sem]
   ·have hlt' : ¬ (j : Int) < (ys.length : Int) := by omega
    refine V.execS [11] 400 ?_
    simp +contextual (maxSteps:=9^7) only [go_sem,hlt']
    refine V.opn 0 7 67 ys (by simp only [go_sem]) (by simp only [go_sem]) fun q => ?_
    refine V.exec 400 ?_
    simp +contextual (maxSteps:=9^7) only [go_sem]
    have hi : i ≤ ys.length := by omega
    have hjx : j = xs.length := by omega
    rw [show 0 + i = i from Nat.zero_add i,over_length hi,List.length_replicate]
    refine ⟨⟨hi,by omega⟩,⟨hi,by omega⟩,⟨by omega,by omega⟩,by omega,?_⟩
    rw [hjx,List.take_length] at hyt
    rw [Nat.sub_zero,over,List.append_assoc,List.take_append_of_le_length (by simp [Nat.min_eq_left hi]),List.take_take,Nat.min_self,hyt]
set_option maxHeartbeats 4000000 in
theorem InsertSub (xs : List PV) (y : PV) (i : Nat) (h1 : ∀ x ∈ xs,x.cells.length = 7) (hy : y.cells.length = 7) (hi : i ≤ xs.length) (hl : xs.length ≤ 1000000) :
  Ct pG 128 (.o 67 xs :: Zv.ops [.int .i64 i,.rowp [y]]) (.own 67 (xs.take i ++ [y] ++ xs.drop i)) := by
 refine Ct.of_V Tryz.func128 rfl (by simp [Zv.ops,Tryz.f128]) ?_
 refine V.opn 0 7 67 xs rfl (by simp only [go_sem]) fun q => ?_
 have hw : IntKind.i64.wrap ((xs.length : Int) + ((0 + 1 : Nat) : Int)) = ((xs.length + 1 : Nat) : Int) := by rw [wrap_small'] <;> omega
 have hw2 : IntKind.i64.wrap (((xs.length + 1 : Nat) : Int) - (i : Int)) = ((xs.length + 1 - i : Nat) : Int) := by rw [wrap_small'] <;> omega
 have hw3 : IntKind.i64.wrap ((i : Int) + ((0 + 1 : Nat) : Int)) = ((i + 1 : Nat) : Int) := by rw [wrap_small'] <;> omega
 refine V.execS [10,14] 400 ?_
 simp +contextual (maxSteps:=9^7) only [go_sem,Tryz.f128,hy,hw,hw2,hw3]
 refine ⟨⟨hi,by omega⟩,fun h => absurd h (by omega),fun _ => ⟨fun he => ?_,fun hne => ⟨by omega,fun hlt => ⟨⟨by omega,by omega⟩,⟨by omega,by omega,by omega,by omega,by omega⟩,?_⟩,fun hge => ⟨by omega,?_⟩⟩⟩⟩
 ·-- at the end
  have hin : i = xs.length := by omega
  subst hin
  have e1 : xs.take xs.length ++ [y] ++ xs.drop xs.length = xs ++ [y] := by simp
  rw [e1]
  refine ⟨fun hr => ⟨by omega,?_,?_⟩,fun hr => ⟨⟨by omega,by omega,by omega,by omega⟩,by rw [List.take_length]⟩⟩
  ·rw [over_length (by omega)]; simp
  ·have e2 : over xs [y] (0 + xs.length) = xs ++ [y] := by simp [over]
   rw [e2,zD (by simp)]
 ·-- no room: a new row
  have hin : i < xs.length := by omega
  have hYl : (List.take (i - 0) xs ++ List.replicate (xs.length + 1 - i) (PV.agg [.int .i64 0,.str [],.str [],.bool false,.bool false,.str [],.int .i64 0])).length = xs.length + 1 := by
   simp; omega
  have hYt : (List.take (i - 0) xs ++ List.replicate (xs.length + 1 - i) (PV.agg [.int .i64 0,.str [],.str [],.bool false,.bool false,.str [],.int .i64 0])).take i = xs.take i := by
   rw [Nat.sub_zero,List.take_append_of_le_length (by simp; omega),List.take_take,Nat.min_self]
  generalize List.take (i - 0) xs ++ List.replicate (xs.length + 1 - i) (PV.agg [.int .i64 0,.str [],.str [],.bool false,.bool false,.str [],.int .i64 0]) = Y at *
  refine V.opn 32 7 67 Y (by simp only [go_sem]) (by simp only [go_sem]) fun q2 => ?_
  refine V.exec 400 ?_
  have m1 : min 1 (Y.length - i) = 1 := by omega
  have m2 : min (xs.length - i) (Y.length - (i + 1)) = xs.length - i := by omega
  simp +contextual (maxSteps:=9^7) only [go_sem,hy,hw,hw2,hw3,Nat.zero_add,Nat.sub_zero,m1,m2]
  have hol : (over Y [y] i).length = Y.length := by rw [over_length (by omega)]; simp; omega
  have hdl : (List.take (xs.length - i) (List.drop i xs)).length = xs.length - i := by simp
  simp only [hol,hdl]
  refine ⟨⟨by omega,by omega⟩,⟨by omega,by omega⟩,⟨by omega,by omega⟩,⟨by omega,by omega⟩,⟨by omega,by omega,by omega⟩,by kernel_rfl,?_⟩
  have hd : List.take (xs.length - i) (List.take (xs.length - i) (List.drop i xs)) = xs.drop i := by rw [zD (by simp),zD (by simp)]
  rw [hd,ins_grow xs [y] i Y rfl hin hYl hYt]
  exact ⟨by simp; omega,(zD (by simp; omega)).symm⟩
 ·-- there is room
  refine V.exec 400 ?_
  simp +contextual (maxSteps:=9^7) only [go_sem,hy,hw,hw2,hw3,Nat.zero_add,Nat.sub_zero]
  refine ⟨⟨by omega,by omega⟩,?_⟩
  refine V.ovl (f := 162) (zs := [y]) (id := 0) (sz := 7) (l := i + 1) (len := xs.length + 1 - (i + 1)) (xs := xs) (q := q) (e := 67) (tS := 29) (tR := 4) rfl rfl (by simp [dOK]) (by simp only [go_sem]) rfl rfl rfl (by kernel_rfl) (by kernel_rfl) (by simp only [go_sem]) (by simp only [go_sem]) (by simp only [go_sem]) (by simp only [go_sem]) (by simp only [go_sem]) (by omega) ?_
  refine V.exec 400 ?_
  have hin : i < xs.length := by omega
  have m3 : min (xs.length + 1 - i) (xs.length + 1 - (i + 1)) = xs.length - i := by omega
  have m4 : min 1 (xs.length + 1 - i) = 1 := by omega
  have hd2 : List.take (xs.length - i) (List.take (xs.length + 1 - i) (List.drop i xs)) = xs.drop i := by rw [List.take_take,zD (by simp; omega)]
  have hd3 : (List.take (xs.length + 1 - i) (List.drop i xs)).length = xs.length - i := by simp; omega
  have hol : (over xs (xs.drop i) (i + 1)).length = xs.length + 1 := by rw [over_length (by omega),List.length_drop]; omega
  have hol2 : (over (over xs (xs.drop i) (i + 1)) [y] i).length = xs.length + 1 := by rw [over_length (by omega),hol]; simp; omega
  simp +contextual (maxSteps:=9^7) only [go_sem,hy,hw,hw2,hw3,Nat.zero_add,Nat.sub_zero,m3,m4,hd2,hd3,hol,hol2]
  refine ⟨⟨by omega,by omega⟩,⟨by omega,by omega⟩,⟨by omega,by omega,by omega⟩,by kernel_rfl,⟨by omega,by omega⟩,⟨by omega,by omega⟩,by omega,?_⟩
  rw [ins_room xs [y] i rfl hin]
  exact (zD (by simp; omega)).symm
set_option maxHeartbeats 4000000 in
theorem BSearchSub (xs : List PV) (t : PV) (g : FuncId) (caps : List PV) (c : PV → Int) (h1 : ∀ x ∈ xs,x.cells.length = 7 ∧ x.isAgg = true) (hl : xs.length ≤ 1000000) (hg : Entered pG g)
  (hp : ∀ x ∈ xs,Ct pG g (Zv.ops ([x,t] ++ caps)) (.vals [.int .i64 (c x)])) (r : Nat) (hr : r ≤ xs.length) (hr1 : ∀ i x,i < r → xs[i]? = some x → c x < 0) (hr2 : ∀ i x,r ≤ i → xs[i]? = some x → ¬ c x < 0) :
  Ct pG 164 (Zv.ops [.row xs,t,.fn g caps]) (.vals [.int .i64 r,.bool (decide (∃ x,xs[r]? = some x ∧ c x = 0))]) := by
 refine Ct.of_V Tryz.func164 rfl (by simp [Zv.ops,Tryz.f164]) ?_
 refine V.exec 400 ?_
 simp +contextual (maxSteps:=9^7) only [go_sem,Tryz.f164]
 refine V.loop (fun m ls os => ∃ (i j : Nat),i ≤ r ∧ r ≤ j ∧ j ≤ xs.length ∧ m = j - i ∧
    ls = [(0,.val (.row xs)),(1,.val t),(2,.val (.fn g caps)),(8,.val (.int .i64 xs.length)),(9,.val (.int .i64 i)),(10,.val (.int .i64 j))] ∧ os = []) 0 xs.length
   [(0,.val (.row xs)),(1,.val t),(2,.val (.fn g caps)),(8,.val (.int .i64 xs.length)),(9,.val (.int .i64 0)),(10,.val (.int .i64 xs.length))] [] []
   ⟨0,xs.length,zF _,hr,zR _,rfl,rfl,rfl⟩ (by simp only [go_sem]) ?_
 rintro m ls os ⟨i,j,hi,hj,hjl,rfl,rfl,rfl⟩
 refine V.exec 400 ?_
 by_cases hlt : i < j
 ·have hlt' : (i : Int) < (j : Int) := by omega
  have hm : (i + j) / 2 < xs.length := by omega
  obtain ⟨x,hx⟩ : ∃ x,xs[(i + j) / 2]? = some x := ⟨_,zA hm⟩
  have hxm : x ∈ xs := zE hx
  obtain ⟨hxc,hxa⟩ := h1 x hxm
  have hw1 : IntKind.i64.wrap ((i : Int) + (j : Int)) = ((i + j : Nat) : Int) := by rw [wrap_small2] <;> omega
  have hw2 : IntKind.u64.wrap ((i + j : Nat) : Int) = ((i + j : Nat) : Int) := by rw [wrap_u2] <;> omega
  have hw3 : ((i + j : Nat) : Int) / 2 = (((i + j) / 2 : Nat) : Int) := by omega
  have hw4 : IntKind.i64.wrap (((i + j) / 2 : Nat) : Int) = (((i + j) / 2 : Nat) : Int) := by rw [wrap_small2] <;> omega
  have hw5 : IntKind.i64.wrap ((((i + j) / 2 : Nat) : Int) + 1) = (((i + j) / 2 + 1 : Nat) : Int) := by rw [wrap_small2] <;> omega
  simp +contextual (maxSteps:=9^7) only [go_sem,hlt',hw1,hw2,hw3,hw4,hx,hxc,hxa]
  refine V.call rfl rfl (by simp [dOK]) ⟨g,caps,by simp only [go_sem],hg,.inl ⟨[x,t],_,.inl (by simp only [go_sem]),hp x hxm,.inl ⟨_,rfl,rfl,rfl,rfl⟩⟩⟩ ?_
  refine V.exec 400 ?_
  simp +contextual (maxSteps:=9^7) only [go_sem,hw5]
  constructor
  ·intro hc
   have : (i + j) / 2 < r := by
    rcases Nat.lt_or_ge ((i + j) / 2) r with h | h
    ·exact h
    ·exact absurd hc (hr2 _ x h hx)
   exact ⟨j - ((i + j) / 2 + 1),_,[],[],by omega,⟨(i + j) / 2 + 1,j,by omega,hj,hjl,rfl,rfl,rfl⟩,by simp only [go_sem]⟩
  ·intro hc
   have : r ≤ (i + j) / 2 := by
    rcases Nat.lt_or_ge ((i + j) / 2) r with h | h
    ·exact absurd (hr1 _ x h hx) hc
    ·exact h
   exact ⟨(i + j) / 2 - i,_,[],[],by omega,⟨i,(i + j) / 2,hi,this,by omega,rfl,rfl,rfl⟩,by simp only [go_sem]⟩
 ·have hlt' : ¬ (i : Int) < (j : Int) := by omega
  have hir : i = r := by omega
  subst hir
  by_cases hil : i < xs.length
  ·have hil' : (i : Int) < (xs.length : Int) := by omega
   obtain ⟨x,hx⟩ : ∃ x,xs[i]? = some x := ⟨_,zA hil⟩
   have hxm : x ∈ xs := zE hx
   obtain ⟨hxc,hxa⟩ := h1 x hxm
   simp +contextual (maxSteps:=9^7) only [go_sem,hlt',hil',hx,hxc,hxa]
   refine V.call rfl rfl (by simp [dOK]) ⟨g,caps,by simp only [go_sem],hg,.inl ⟨[x,t],_,.inl (by simp only [go_sem]),hp x hxm,.inl ⟨_,rfl,rfl,rfl,rfl⟩⟩⟩ ?_
   refine V.exec 400 ?_
   simp +contextual (maxSteps:=9^7) only [go_sem,hx]
   simp [hx]
  ·have hil' : ¬ (i : Int) < (xs.length : Int) := by omega
   simp +contextual (maxSteps:=9^7) only [go_sem,hlt',hil']
   have : xs[i]? = none := List.getElem?_eq_none (by omega)
   simp [this]
def cmpInt (a b : Int) : Int := if a < b then -1 else if b < a then 1 else 0
theorem isNaN55 (a : Int) : Ct pG 189 (Zv.ops [.int .i64 a]) (.vals [.bool false]) := by
 refine Ct.of_V Tryz.func189 rfl (by simp [Zv.ops,Tryz.f189]) ?_
 refine V.exec 400 ?_
 simp +contextual (maxSteps:=9^7) only [go_sem,Tryz.f189]
theorem Compare48 (a b : Int) : Ct pG 166 (Zv.ops [.int .i64 a,.int .i64 b]) (.vals [.int .i64 (cmpInt a b)]) := by
 refine Ct.of_V Tryz.func166 rfl (by simp [Zv.ops,Tryz.f166]) ?_
 refine V.exec 400 ?_
 simp +contextual (maxSteps:=9^7) only [go_sem,Tryz.f166]
 refine V.call rfl rfl (by simp [dOK]) ⟨189,[],by simp only [go_sem],⟨_,rfl,rfl,rfl⟩,.inl ⟨[.int .i64 a],_,.inl (by simp only [go_sem]),isNaN55 a,.inl ⟨_,rfl,rfl,rfl,rfl⟩⟩⟩ ?_
 refine V.exec 400 ?_
 simp +contextual (maxSteps:=9^7) only [go_sem]
 refine V.call rfl rfl (by simp [dOK]) ⟨189,[],by simp only [go_sem],⟨_,rfl,rfl,rfl⟩,.inl ⟨[.int .i64 b],_,.inl (by simp only [go_sem]),isNaN55 b,.inl ⟨_,rfl,rfl,rfl,rfl⟩⟩⟩ ?_
 refine V.exec 400 ?_
 simp +contextual (maxSteps:=9^7) only [go_sem]
 grind [cmpInt]
theorem place1_47 (s : Sub) (id : Int) : Ct pG 165 (Zv.ops [s.pv,.int .i64 id]) (.vals [.int .i64 (cmpInt s.id id)]) := by
 refine Ct.of_V Tryz.func165 rfl (by simp [Zv.ops,Tryz.f165]) ?_
 refine V.exec 400 ?_
 simp +contextual (maxSteps:=9^7) only [go_sem,Tryz.f165,Sub.pv]
 refine V.call rfl rfl (by simp [dOK]) ⟨166,[],by simp only [go_sem],⟨_,rfl,rfl,rfl⟩,.inl ⟨[.int .i64 s.id,.int .i64 id],_,.inl (by simp only [go_sem]),Compare48 s.id id,.inl ⟨_,rfl,rfl,rfl,rfl⟩⟩⟩ ?_
 refine V.exec 400 ?_
 simp +contextual (maxSteps:=9^7) only [go_sem]
def cOf (id : Int) : PV → Int
 | .agg (.int _ n :: _) => cmpInt n id
 | _ => 0
def rank (id : Int) : List Sub → Nat
 | [] => 0
 | s :: r => if s.id < id then rank id r + 1 else 0
theorem cmp_neg {a b : Int} : cmpInt a b < 0 ↔ a < b := by unfold cmpInt; split <;> (try split) <;> omega
theorem cmp_zero {a b : Int} : cmpInt a b = 0 ↔ a = b := by unfold cmpInt; split <;> (try split) <;> omega
theorem rank_le (id : Int) (l : List Sub) : rank id l ≤ l.length := by
 induction l with
 | nil => simp [rank]
 | cons s r ih => unfold rank; split <;> simp <;> omega
theorem rank_lt {id : Int} : ∀ (l : List Sub) (i : Nat) (x : Sub),i < rank id l → l[i]? = some x → x.id < id := by
 intro l
 induction l with
 | nil => intro i x h; simp [rank] at h
 | cons s r ih =>
  intro i x h hx
  unfold rank at h
  split at h
  ·cases i with
   | zero => simp at hx; subst hx; assumption
   | succ i => exact ih i x (by omega) (by simpa using hx)
  ·omega
theorem above {last : Int} : ∀ (l : List Sub),rightFrom last l → ∀ x ∈ l,last < x.id := by
 intro l
 induction l generalizing last with
 | nil => intro _ x hx; simp at hx
 | cons s r ih =>
  intro h x hx
  obtain ⟨_,h1,h2⟩ := h
  rcases zI.1 hx with rfl | hx
  ·exact h1
  ·have := ih h2 x hx; omega
theorem rank_ge {id last : Int} : ∀ (l : List Sub),rightFrom last l → ∀ (i : Nat) (x : Sub),rank id l ≤ i → l[i]? = some x → ¬ x.id < id := by
 intro l
 induction l generalizing last with
 | nil => intro _ i x _ hx; simp at hx
 | cons s r ih =>
  intro hr i x h hx
  obtain ⟨_,_,h2⟩ := hr
  unfold rank at h
  split at h
  ·cases i with
   | zero => omega
   | succ i => exact ih h2 i x (by omega) (by simpa using hx)
  ·cases i with
   | zero => simp at hx; subst hx; assumption
   | succ i =>
    have := above r h2 x (zE (i := i) (by simpa using hx))
    omega
set_option maxHeartbeats 2000000 in
theorem floor_place (l : List Sub) (id : Int) (hl : l.length ≤ 1000000) (hs : rightFrom 0 l) :
  Ct pG 129 (Zv.ops [.row (l.map Sub.pv),.int .i64 id]) (.vals [.int .i64 (rank id l),.bool (decide (∃ x,l[rank id l]? = some x ∧ x.id = id))]) := by
 have hb := BSearchSub (l.map Sub.pv) (.int .i64 id) 165 [] (cOf id) (fun x hx => by
   obtain ⟨s,_,rfl⟩ := zN.1 hx
   exact ⟨rfl,rfl⟩) (by simpa using hl) ⟨_,rfl,rfl,rfl⟩ (fun x hx => by
   obtain ⟨s,_,rfl⟩ := zN.1 hx
   exact place1_47 s id) (rank id l) (by simpa using rank_le id l) (fun i x hi hx => by
   rw [zS,Option.map_eq_some_iff] at hx
   obtain ⟨s,hs',rfl⟩ := hx
   exact cmp_neg.2 (rank_lt l i s hi hs')) (fun i x hi hx => by
   rw [zS,Option.map_eq_some_iff] at hx
   obtain ⟨s,hs',rfl⟩ := hx
   exact fun h => rank_ge l hs i s hi hs' (cmp_neg.1 h))
 have e1 : (∃ x,(l.map Sub.pv)[rank id l]? = some x ∧ cOf id x = 0) ↔ ∃ x,l[rank id l]? = some x ∧ x.id = id := by
  constructor
  ·rintro ⟨x,hx,hc⟩
   rw [zS,Option.map_eq_some_iff] at hx
   obtain ⟨s,hs',rfl⟩ := hx
   exact ⟨s,hs',cmp_zero.1 hc⟩
  ·rintro ⟨s,hs',hc⟩
   exact ⟨s.pv,by rw [zS,hs']; rfl,cmp_zero.2 hc⟩
 simp only [e1] at hb
 refine Ct.of_V Tryz.func129 rfl (by simp [Zv.ops,Tryz.f129]) ?_
 refine V.exec 400 ?_
 simp +contextual (maxSteps:=9^7) only [go_sem,Tryz.f129]
 refine V.call rfl rfl (by simp [dOK]) ⟨164,[],by simp only [go_sem],⟨_,rfl,rfl,rfl⟩,.inl ⟨[.row (l.map Sub.pv),.int .i64 id,.fn 165 []],_,.inl (by simp only [go_sem]),hb,.inl ⟨_,rfl,rfl,rfl,rfl⟩⟩⟩ ?_
 refine V.exec 400 ?_
 simp +contextual (maxSteps:=9^7) only [go_sem]
def Sub.zero : Sub := ⟨0,⟨[],[],false⟩,false,[],0⟩
theorem Sub.zero_pv : Sub.zero.pv = .agg [.int .i64 0,.str [],.str [],.bool false,.bool false,.str [],.int .i64 0] := by simp [Sub.pv,Sub.zero]
def findL (l : List Sub) (id : Int) : Option Sub := l.find? fun s => decide (s.id = id)
theorem rank_find {id last : Int} : ∀ (l : List Sub),rightFrom last l → ∀ x,(l[rank id l]? = some x ∧ x.id = id) ↔ findL l id = some x := by
 intro l
 induction l generalizing last with
 | nil => intro _ x; simp [rank,findL]
 | cons s r ih =>
  intro hr x
  obtain ⟨_,h1,h2⟩ := hr
  unfold rank findL
  by_cases h : s.id < id
  ·have hne : ¬ s.id = id := by omega
   simp only [h,if_true,List.getElem?_cons_succ,List.find?_cons,hne,decide_false]
   exact ih h2 x
  ·by_cases he : s.id = id
   ·rw [if_neg h,List.getElem?_cons_zero,List.find?_cons]
    simp only [he,decide_true,Option.some.injEq]
    constructor
    ·rintro ⟨rfl,_⟩; rfl
    ·rintro rfl; exact ⟨rfl,he⟩
   ·simp only [h,if_false,List.getElem?_cons_zero,List.find?_cons,he,decide_false,Option.some.injEq]
    constructor
    ·rintro ⟨rfl,h'⟩; exact absurd h' he
    ·intro h'
     have hm := List.mem_of_find?_eq_some h'
     have hi := List.find?_some h'
     have := above r h2 x hm
     simp at hi
     omega
def findV (l : List Sub) (id : Int) : Sub × Int := if subsOk l then match findL l id with | some x => (x,0) | none => (Sub.zero,3) else (Sub.zero,1)
set_option maxHeartbeats 2000000 in
theorem floor_Find (l : List Sub) (id : Int) (hl : l.length ≤ 1000000) : Ct pG 81 (Zv.ops [.row (l.map Sub.pv),.int .i64 id]) (.vals [(findV l id).1.pv,.int .i64 (findV l id).2]) := by
 refine Ct.of_V Tryz.func81 rfl (by simp [Zv.ops,Tryz.f81]) ?_
 refine V.exec 400 ?_
 simp +contextual (maxSteps:=9^7) only [go_sem,Tryz.f81]
 refine V.call rfl rfl (by simp [dOK]) ⟨57,[],by simp only [go_sem],⟨_,rfl,rfl,rfl⟩,.inl ⟨[.row (l.map Sub.pv)],_,.inl (by simp only [go_sem]),floor_Right l hl,.inl ⟨_,rfl,rfl,rfl,rfl⟩⟩⟩ ?_
 refine V.exec 400 ?_
 by_cases hs : subsOk l
 ·simp +contextual (maxSteps:=9^7) only [go_sem,hs]
  refine V.call rfl rfl (by simp [dOK]) ⟨129,[],by simp only [go_sem],⟨_,rfl,rfl,rfl⟩,.inl ⟨[.row (l.map Sub.pv),.int .i64 id],_,.inl (by simp only [go_sem]),floor_place l id hl hs.1,.inl ⟨_,rfl,rfl,rfl,rfl⟩⟩⟩ ?_
  refine V.exec 400 ?_
  cases hf : findL l id with
  | some x =>
   have hx := (rank_find l hs.1 x).2 hf
   have he : (∃ x_1,some x = some x_1 ∧ x_1.id = id) := ⟨x,rfl,hx.2⟩
   have hv : findV l id = (x,0) := by simp [findV,hs,hf]
   simp +contextual (maxSteps:=9^7) only [go_sem,he,hx.1,hv,Sub.pv]
  | none =>
   have he : ¬ (∃ x,l[rank id l]? = some x ∧ x.id = id) := fun ⟨x,hx⟩ => by have := (rank_find l hs.1 x).1 hx; rw [hf] at this; cases this
   have hv : findV l id = (Sub.zero,3) := by simp [findV,hs,hf]
   simp +contextual (maxSteps:=9^7) only [go_sem,he,hv,Sub.zero_pv]
 ·have hv : findV l id = (Sub.zero,1) := by simp [findV,hs]
  simp +contextual (maxSteps:=9^7) only [go_sem,hs,hv,Sub.zero_pv]
theorem leave1_31 (s : Sub) (id : Int) : Ct pG 132 (Zv.ops [s.pv,.ptr (.int .i64 id)]) (.vals [.bool (decide (s.id = id))]) := by
 refine Ct.of_V Tryz.func132 rfl (by simp [Zv.ops,Tryz.f132]) ?_
 refine V.exec 400 ?_
 simp +contextual (maxSteps:=9^7) only [go_sem,Tryz.f132,Sub.pv]
def idOf : PV → Int
 | .agg (.int _ n :: _) => n
 | _ => 0
def leaveV (l : List Sub) (id : Int) : List Sub × Int := if (findV l id).2 = 0 then (l.filter fun s => !decide (s.id = id),0) else (l,(findV l id).2)
theorem filter_pv (l : List Sub) (id : Int) : (l.map Sub.pv).filter (fun x => !decide (idOf x = id)) = (l.filter fun s => !decide (s.id = id)).map Sub.pv := by
 induction l with
 | nil => rfl
 | cons s r ih =>
  have e : idOf s.pv = s.id := rfl
  simp only [zC,List.filter_cons,e,ih]
  split <;> rfl
set_option maxHeartbeats 2000000 in
theorem floor_Leave (l : List Sub) (id : Int) (hl : l.length ≤ 1000000) : Ct pG 86 (Zv.ops [.row (l.map Sub.pv),.int .i64 id]) (.vals [.row ((leaveV l id).1.map Sub.pv),.int .i64 (leaveV l id).2]) := by
 refine Ct.of_V Tryz.func86 rfl (by simp [Zv.ops,Tryz.f86]) ?_
 refine V.exec 400 ?_
 simp +contextual (maxSteps:=9^7) only [go_sem,Tryz.f86]
 refine V.call rfl rfl (by simp [dOK]) ⟨81,[],by simp only [go_sem],⟨_,rfl,rfl,rfl⟩,.inl ⟨[.row (l.map Sub.pv),.int .i64 id],_,.inl (by simp only [go_sem]),floor_Find l id hl,.inr (.inl ⟨_,rfl,rfl,rfl⟩)⟩⟩ ?_
 refine V.exec 400 ?_
 by_cases he : (findV l id).2 = 0
 ·have hv : leaveV l id = (l.filter (fun s => !decide (s.id = id)),0) := by simp [leaveV,he]
  simp +contextual (maxSteps:=9^7) only [go_sem,he,hv,Sub.pv]
  have h7 : ∀ x ∈ l.map Sub.pv,x.cells.length = 7 ∧ x.isAgg = true ∧ ∀ c ∈ x.cells,c.isAgg = false := fun x hx => by
   obtain ⟨s,_,rfl⟩ := zN.1 hx
   exact ⟨rfl,rfl,by simp [Sub.pv,PV.cells,PV.isAgg]⟩
  have hdel := DeleteFuncSub (l.map Sub.pv) 132 [.ptr (.int .i64 id)] (fun x => decide (idOf x = id)) h7 (by simpa using hl) ⟨_,rfl,rfl,rfl⟩ (fun x hx => by
   obtain ⟨s,_,rfl⟩ := zN.1 hx
   have := leave1_31 s id
   simpa [idOf,Sub.pv] using this) (by simp only [go_sem])
  rw [filter_pv] at hdel
  refine V.call rfl rfl (by simp [dOK]) ⟨55,[],by simp only [go_sem],⟨_,rfl,rfl,rfl⟩,.inl ⟨[.row (l.map Sub.pv)],_,.inl (by simp only [go_sem]),CloneSub (l.map Sub.pv) (fun x hx => (h7 x hx).1) (by simpa using hl),.inr (.inr ⟨67,l.map Sub.pv,rfl,by simp only [go_sem],rfl,rfl⟩)⟩⟩ ?_
  refine V.exec 400 ?_
  simp +contextual (maxSteps:=9^7) only [go_sem]
  refine V.call rfl rfl (by simp [dOK]) ⟨131,[],by simp only [go_sem],⟨_,rfl,rfl,rfl⟩,.inr (.inl ⟨17,67,l.map Sub.pv,[.val (.fn 132 [.ptr (.int .i64 id)])],[.fn 132 [.ptr (.int .i64 id)]],67,_,by simp only [go_sem],by simp only [go_sem],.inl (by simp only [go_sem]),hdel,by simp only [go_sem],rfl,rfl⟩)⟩ ?_
  refine V.exec 400 ?_
  simp +contextual (maxSteps:=9^7) only [go_sem]
 ·have hv : leaveV l id = (l,(findV l id).2) := by simp [leaveV,he]
  simp +contextual (maxSteps:=9^7) only [go_sem,he,hv,Sub.pv]
def setV (l : List Sub) (s : Sub) : List Sub × Int := if subsOk l ∧ s.ok then (if (findL l s.id).isSome = true then (l.set (rank s.id l) s,0) else (l,3)) else (l,1)
set_option maxHeartbeats 2000000 in
theorem floor_Set (l : List Sub) (s : Sub) (hl : l.length ≤ 1000000) : Ct pG 85 (Zv.ops [.row (l.map Sub.pv),s.pv]) (.vals [.row ((setV l s).1.map Sub.pv),.int .i64 (setV l s).2]) := by
 refine Ct.of_V Tryz.func85 rfl (by simp [Zv.ops,Tryz.f85]) ?_
 refine V.exec 400 ?_
 simp +contextual (maxSteps:=9^7) only [go_sem,Tryz.f85,Sub.pv]
 refine V.call rfl rfl (by simp [dOK]) ⟨57,[],by simp only [go_sem],⟨_,rfl,rfl,rfl⟩,.inl ⟨[.row (l.map Sub.pv)],_,.inl (by simp only [go_sem]),floor_Right l hl,.inl ⟨_,rfl,rfl,rfl,rfl⟩⟩⟩ ?_
 refine V.exec 400 ?_
 by_cases hs : subsOk l
 ·simp +contextual (maxSteps:=9^7) only [go_sem,hs]
  refine V.call rfl rfl (by simp [dOK]) ⟨102,[],by simp only [go_sem],⟨_,rfl,rfl,rfl⟩,.inl ⟨[s.pv],_,.inl (by simp only [go_sem,Sub.pv]),feed_Right s,.inl ⟨_,rfl,rfl,rfl,rfl⟩⟩⟩ ?_
  refine V.exec 400 ?_
  by_cases hk : s.ok
  ·simp +contextual (maxSteps:=9^7) only [go_sem,hk]
   refine V.call rfl rfl (by simp [dOK]) ⟨129,[],by simp only [go_sem],⟨_,rfl,rfl,rfl⟩,.inl ⟨[.row (l.map Sub.pv),.int .i64 s.id],_,.inl (by simp only [go_sem]),floor_place l s.id hl hs.1,.inl ⟨_,rfl,rfl,rfl,rfl⟩⟩⟩ ?_
   refine V.exec 400 ?_
   cases hf : findL l s.id with
   | some x =>
    have hx := (rank_find l hs.1 x).2 hf
    have he : (∃ x_1,some x = some x_1 ∧ x_1.id = s.id) := ⟨x,rfl,hx.2⟩
    have hv : setV l s = (l.set (rank s.id l) s,0) := by simp [setV,hs,hk,hf]
    simp +contextual (maxSteps:=9^7) only [go_sem,he,hx.1,hv]
    refine V.call rfl rfl (by simp [dOK]) ⟨55,[],by simp only [go_sem],⟨_,rfl,rfl,rfl⟩,.inl ⟨[.row (l.map Sub.pv)],_,.inl (by simp only [go_sem]),CloneSub (l.map Sub.pv) (fun x hx => by
      obtain ⟨s,_,rfl⟩ := zN.1 hx
      rfl) (by simpa using hl),.inr (.inr ⟨67,l.map Sub.pv,rfl,by simp only [go_sem],rfl,rfl⟩)⟩⟩ ?_
    refine V.exec 400 ?_
    simp +contextual (maxSteps:=9^7) only [go_sem,hx.1,Sub.pv]
    try simp [List.map_set,Sub.pv]
   | none =>
    have he : ¬ (∃ x,l[rank s.id l]? = some x ∧ x.id = s.id) := fun ⟨x,hx⟩ => by have := (rank_find l hs.1 x).1 hx; rw [hf] at this; cases this
    have hv : setV l s = (l,3) := by simp [setV,hs,hk,hf]
    simp +contextual (maxSteps:=9^7) only [go_sem,he,hv]
  ·have hv : setV l s = (l,1) := by simp [setV,hk]
   simp +contextual (maxSteps:=9^7) only [go_sem,hk,hv]
 ·have hv : setV l s = (l,1) := by simp [setV,hs]
  simp +contextual (maxSteps:=9^7) only [go_sem,hs,hv]
def gapAt : Nat → List Sub → Nat
 | k,[] => k
 | k,s :: r => if s.id = (k : Int) + 1 then gapAt (k + 1) r else k
def addV (l : List Sub) (s : Sub) : List Sub × Int × Int :=
 if subsOk l ∧ s.ok then (if 4 ≤ l.length then (l,0,7) else
  let k := gapAt 0 l
  (l.take k ++ [{ s with id := (k : Int) + 1 }] ++ l.drop k,(k : Int) + 1,0)) else (l,0,1)
set_option maxHeartbeats 4000000 in
theorem floor_Add (l : List Sub) (s : Sub) (hl : l.length ≤ 1000000) : Ct pG 80 (Zv.ops [.row (l.map Sub.pv),s.pv]) (.vals [.row ((addV l s).1.map Sub.pv),.int .i64 (addV l s).2.1,.int .i64 (addV l s).2.2]) := by
 refine Ct.of_V Tryz.func80 rfl (by simp [Zv.ops,Tryz.f80]) ?_
 have h7 : ∀ x ∈ l.map Sub.pv,x.cells.length = 7 := fun x hx => by
  obtain ⟨s,_,rfl⟩ := zN.1 hx
  rfl
 refine V.exec 400 ?_
 simp +contextual (maxSteps:=9^7) only [go_sem,Tryz.f80,Sub.pv]
 refine V.call rfl rfl (by simp [dOK]) ⟨57,[],by simp only [go_sem],⟨_,rfl,rfl,rfl⟩,.inl ⟨[.row (l.map Sub.pv)],_,.inl (by simp only [go_sem]),floor_Right l hl,.inl ⟨_,rfl,rfl,rfl,rfl⟩⟩⟩ ?_
 refine V.exec 400 ?_
 by_cases hs : subsOk l
 ·simp +contextual (maxSteps:=9^7) only [go_sem,hs]
  refine V.call rfl rfl (by simp [dOK]) ⟨102,[],by simp only [go_sem],⟨_,rfl,rfl,rfl⟩,.inl ⟨[s.pv],_,.inl (by simp only [go_sem,Sub.pv]),feed_Right s,.inl ⟨_,rfl,rfl,rfl,rfl⟩⟩⟩ ?_
  refine V.exec 400 ?_
  by_cases hk : s.ok
  ·by_cases h4 : 4 ≤ l.length
   ·have hv : addV l s = (l,0,7) := by simp [addV,hs,hk,h4]
    have h4' : (4 : Int) ≤ (l.length : Int) := by omega
    simp +contextual (maxSteps:=9^7) only [go_sem,hk,hv,h4']
   ·have h4' : ¬ (4 : Int) ≤ (l.length : Int) := by omega
    simp +contextual (maxSteps:=9^7) only [go_sem,hk,h4']
    refine V.loop (fun m ls os => ∃ k : Nat,k ≤ l.length ∧ m = l.length - k ∧ gapAt 0 l = gapAt k (l.drop k) ∧
      ls = [(0,.val (.row (l.map Sub.pv))),(3,.adr 0 0),(7,.val (.int .i64 k))] ∧ os = [.box true [.val (.int .i64 s.id),.val (.str s.r.lo),.val (.str s.r.hi),.val (.bool (decide (s.r.op = true))),.val (.bool (decide (s.live = true))),.val (.str s.next),.val (.int .i64 s.cur)]]) 1 l.length
     [(0,.val (.row (l.map Sub.pv))),(3,.adr 0 0),(7,.val (.int .i64 0))] [.box true [.val (.int .i64 s.id),.val (.str s.r.lo),.val (.str s.r.hi),.val (.bool (decide (s.r.op = true))),.val (.bool (decide (s.live = true))),.val (.str s.next),.val (.int .i64 s.cur)]] [some 2]
     ⟨0,zF _,rfl,rfl,rfl,rfl⟩ (by simp only [go_sem]) ?_
    rintro m ls os ⟨k,hkl,rfl,hg,rfl,rfl⟩
    have hw : IntKind.i64.wrap ((k : Int) + 1) = ((k + 1 : Nat) : Int) := by rw [wrap_small3] <;> omega
    by_cases hx : ∃ x,l[k]? = some x ∧ x.id = (k : Int) + 1
    ·obtain ⟨x,hx,hxi⟩ := hx
     have hlt : k < l.length := (zQ.1 hx).1
     have hlt' : (k : Int) < (l.length : Int) := by omega
     rw [drop_of_get hx,gapAt,if_pos hxi] at hg
     have hxi' : x.id = ((k + 1 : Nat) : Int) := by omega
     refine V.exec 400 ?_
     simp +contextual (maxSteps:=9^7) only [go_sem,hlt',hx,Sub.pv,hw,hxi']
     exact ⟨l.length - (k + 1),_,_,[some 0],by omega,⟨k + 1,by omega,rfl,hg,rfl,rfl⟩,by simp only [go_sem]⟩
    ·have hgk : gapAt 0 l = k := by
      cases hd : l[k]? with
      | none =>
       rw [hg,zK (List.getElem?_eq_none_iff.1 hd)]; rfl
      | some x =>
       rw [hg,drop_of_get hd,gapAt,if_neg (fun e => hx ⟨x,hd,e⟩)]
     have hv : addV l s = (l.take k ++ [{ s with id := (k : Int) + 1 }] ++ l.drop k,(k : Int) + 1,0) := by simp [addV,hs,hk,h4,hgk]
     have hvw : (k : Int) + 1 = ((k + 1 : Nat) : Int) := by omega
     rw [hv]
     have hins := InsertSub (l.map Sub.pv) (Sub.pv { s with id := (k : Int) + 1 }) k h7 rfl (by simpa using hkl) (by simpa using hl)
     by_cases hlt : k < l.length
     ·have hlt' : (k : Int) < (l.length : Int) := by omega
      obtain ⟨x,hx'⟩ : ∃ x,l[k]? = some x := ⟨_,zA hlt⟩
      have hxi : ¬ x.id = ((k + 1 : Nat) : Int) := fun e => hx ⟨x,hx',by omega⟩
      refine V.exec 400 ?_
      simp +contextual (maxSteps:=9^7) only [go_sem,hlt',hx',Sub.pv,hw,hxi]
      refine DV.call [] [20] (by simp only [go_sem]) (by simp [dOK]) ⟨55,[],by simp only [go_sem],⟨_,rfl,rfl,rfl⟩,.inl ⟨[.row (l.map Sub.pv)],_,.inl (by simp only [go_sem]),CloneSub (l.map Sub.pv) h7 (by simpa using hl),.inr (.inr ⟨67,(l.map Sub.pv)   ,rfl,by simp only [go_sem],rfl,rfl⟩)⟩⟩ (by simp only [go_sem]) (by simp only [go_sem]) (by simp only [go_sem]) (by simp) ?_
      refine DV.exec 400 ?_
      simp +contextual (maxSteps:=9^7) only [go_sem]
      refine DV.call [20,23] [20,23,24] (by simp only [go_sem]) (by simp [dOK]) ⟨128,[],by simp only [go_sem],⟨_,rfl,rfl,rfl⟩,.inr (.inl ⟨20,67,l.map Sub.pv,[.val (.int .i64 k),.ref 23],[.int .i64 k,.rowp [Sub.pv { s with id := (k : Int) + 1 }]],67,_,by simp only [go_sem],by simp only [go_sem],.inr ⟨[.val (.int .i64 k)],23,67,[Sub.pv { s with id := (k : Int) + 1 }],[.int .i64 k],rfl,rfl,by simp only [go_sem,Sub.pv,hvw],rfl⟩,hins,by simp only [go_sem],rfl,rfl⟩)⟩ (by simp only [go_sem]) (by simp only [go_sem]) (by simp only [go_sem]) (by simp) ?_
      refine DV.exec 400 ?_
      simp +contextual (maxSteps:=9^7) only [go_sem,hvw]
      refine ⟨by kernel_rfl,?_⟩
      simp [zM,List.map_take,List.map_drop]
     ·have hlt' : ¬ (k : Int) < (l.length : Int) := by omega
      refine V.exec 400 ?_
      simp +contextual (maxSteps:=9^7) only [go_sem,hlt',hw]
      refine DV.call [] [20] (by simp only [go_sem]) (by simp [dOK]) ⟨55,[],by simp only [go_sem],⟨_,rfl,rfl,rfl⟩,.inl ⟨[.row (l.map Sub.pv)],_,.inl (by simp only [go_sem]),CloneSub (l.map Sub.pv) h7 (by simpa using hl),.inr (.inr ⟨67,(l.map Sub.pv)   ,rfl,by simp only [go_sem],rfl,rfl⟩)⟩⟩ (by simp only [go_sem]) (by simp only [go_sem]) (by simp only [go_sem]) (by simp) ?_
      refine DV.exec 400 ?_
      simp +contextual (maxSteps:=9^7) only [go_sem]
      refine DV.call [20,23] [20,23,24] (by simp only [go_sem]) (by simp [dOK]) ⟨128,[],by simp only [go_sem],⟨_,rfl,rfl,rfl⟩,.inr (.inl ⟨20,67,l.map Sub.pv,[.val (.int .i64 k),.ref 23],[.int .i64 k,.rowp [Sub.pv { s with id := (k : Int) + 1 }]],67,_,by simp only [go_sem],by simp only [go_sem],.inr ⟨[.val (.int .i64 k)],23,67,[Sub.pv { s with id := (k : Int) + 1 }],[.int .i64 k],rfl,rfl,by simp only [go_sem,Sub.pv,hvw],rfl⟩,hins,by simp only [go_sem],rfl,rfl⟩)⟩ (by simp only [go_sem]) (by simp only [go_sem]) (by simp only [go_sem]) (by simp) ?_
      refine DV.exec 400 ?_
      simp +contextual (maxSteps:=9^7) only [go_sem,hvw]
      refine ⟨by kernel_rfl,?_⟩
      simp [zM,List.map_take,List.map_drop]
  ·have hv : addV l s = (l,0,1) := by simp [addV,hk]
   simp +contextual (maxSteps:=9^7) only [go_sem,hk,hv]
 ·have hv : addV l s = (l,0,1) := by simp [addV,hs]
  simp +contextual (maxSteps:=9^7) only [go_sem,hs,hv]
theorem sub_of (xs : List PV) (h : ∀ x ∈ xs,∃ qs,x = .agg qs ∧ qs.map PV.kd = [.int .i64,.str,.str,.bool,.bool,.str,.int .i64] ∧ ∀ q ∈ qs,q.wfv) : ∃ t : List Sub,xs = t.map Sub.pv := by
 induction xs with
 | nil => exact ⟨[],rfl⟩
 | cons x r ih =>
  obtain ⟨t,rfl⟩ := ih (fun y hy => h y (zH _ hy))
  obtain ⟨qs,rfl,hk,hw⟩ := h x zG
  match qs,hk with
  | [.int k n,.str a,.str b,.bool c,.bool d,.str e,.int k' m],hk =>
   simp only [zC,PV.kd,List.cons.injEq,KD.int.injEq] at hk
   obtain ⟨rfl,_,_,_,_,_,rfl,_⟩ := hk
   exact ⟨⟨n,⟨a,b,c⟩,d,e,m⟩ :: t,by simp [Sub.pv]⟩
theorem floorOf_le_head : ∀ (l : List Sub) (h : Int),floorOf h l ≤ h
 | [],h => Int.le_refl h
 | s :: r,h => by
  have := floorOf_le_head r (min h s.cur)
  simp only [floorOf]
  omega
theorem floorOf_le_cur : ∀ (l : List Sub) (h : Int) (s : Sub),s ∈ l → floorOf h l ≤ s.cur
 | c :: r,h,s,hs => by
  simp only [floorOf]
  rcases zI.1 hs with rfl | hs
  ·have := floorOf_le_head r (min h s.cur)
   omega
  ·exact floorOf_le_cur r _ s hs
theorem floorOf_iff : ∀ (l : List Sub) (h m : Int),floorOf h l = m ↔ (m ≤ h ∧ (∀ s ∈ l,m ≤ s.cur)) ∧ (m = h ∨ ∃ s ∈ l,m = s.cur)
 | [],h,m => by simp [floorOf]; omega
 | s :: r,h,m => by
  rw [floorOf,floorOf_iff r]
  constructor
  ·rintro ⟨⟨a,b⟩,c⟩
   refine ⟨⟨by omega,fun x hx => ?_⟩,?_⟩
   ·rcases zI.1 hx with rfl | hx
    ·omega
    ·exact b x hx
   ·rcases c with c | ⟨x,hx,c⟩
    ·by_cases hh : h ≤ s.cur
     ·exact .inl (by omega)
     ·exact .inr ⟨s,zG,by omega⟩
    ·exact .inr ⟨x,zH _ hx,c⟩
  ·rintro ⟨⟨a,b⟩,c⟩
   have hs := b s zG
   refine ⟨⟨by omega,fun x hx => b x (zH _ hx)⟩,?_⟩
   rcases c with c | ⟨x,hx,c⟩
   ·exact .inl (by omega)
   ·rcases zI.1 hx with rfl | hx
    ·exact .inl (by omega)
    ·exact .inr ⟨x,hx,c⟩
theorem Sub.inj (s t : Sub) : (s.pv = t.pv) = (s = t) := by
 obtain ⟨i,⟨a,b,c⟩,d,e,f⟩ := s
 obtain ⟨i',⟨a',b',c'⟩,d',e',f'⟩ := t
 simp [Sub.pv,and_assoc]
theorem rightFrom_set {s : Sub} (hk : s.ok) : ∀ (l : List Sub) (last : Int) (r : Nat) (x : Sub),rightFrom last l → l[r]? = some x → x.id = s.id → rightFrom last (l.set r s)
 | [],_,_,_,h,_,_ => h
 | c :: t,last,0,x,h,hx,he => by
  simp at hx
  subst hx
  exact ⟨hk,by have := h.2.1; omega,by rw [← he]; exact h.2.2⟩
 | c :: t,last,r + 1,x,h,hx,he => by
  simp at hx
  exact ⟨h.1,h.2.1,rightFrom_set hk t c.id r x h.2.2 hx he⟩
theorem rightFrom_weaken : ∀ (l : List Sub) {a b : Int},b ≤ a → rightFrom a l → rightFrom b l
 | [],_,_,_,_ => trivial
 | c :: r,a,b,h,ht => ⟨ht.1,by have := ht.2.1; omega,ht.2.2⟩
theorem rightFrom_filter (p : Sub → Bool) : ∀ (l : List Sub) (a : Int),rightFrom a l → rightFrom a (l.filter p)
 | [],_,_ => trivial
 | c :: r,a,ht => by
  rw [List.filter_cons]
  split
  ·exact ⟨ht.1,ht.2.1,rightFrom_filter p r _ ht.2.2⟩
  ·exact rightFrom_weaken _ (by have := ht.2.1; omega) (rightFrom_filter p r _ ht.2.2)
set_option maxRecDepth 10000 in
set_option maxHeartbeats 8000000 in
theorem law_Refs (l : List Sub) (hl : l.length ≤ 1000000) : Ct pG 51 (Zv.ops [.row (l.map Sub.pv)]) (.vals [.row (l.map Sub.pv)]) := by
 refine Ct.of_V Tryz.func51 rfl (by simp [Zv.ops,Tryz.f51]) ?_
 refine V.exec 400 ?_
 simp +contextual (maxSteps:=9^7) only [go_sem,Tryz.f51]
 refine V.loop (fun m ls os => ∃ i : Nat,i ≤ l.length ∧ m = l.length - i ∧
   ls = [(3,.ref 0),(6,.val (.row (l.map Sub.pv))),(7,.val (.int .i64 l.length)),(8,.val (.int .i64 i))] ∧ os = [.row 103 ((l.take i).map Sub.pv)]) 1 l.length
  [(3,.ref 0),(6,.val (.row (l.map Sub.pv))),(7,.val (.int .i64 l.length)),(8,.val (.int .i64 0))] [.row 103 []] [none]
  ⟨0,zF _,rfl,rfl,rfl⟩ (by simp only [go_sem]; try decide) ?_
 rintro m ls os ⟨i,hi,rfl,rfl,rfl⟩
 refine V.exec 400 ?_
 by_cases hlt : i < l.length
 ·have hlt' : (i : Int) < (l.length : Int) := by omega
  obtain ⟨x,hx⟩ : ∃ x,l[i]? = some x := ⟨_,zA hlt⟩
  have hw : IntKind.i64.wrap ((i : Int) + 1) = ((i + 1 : Nat) : Int) := by rw [wrap_small3] <;> omega
  simp +contextual (maxSteps:=9^7) only [go_sem,hlt',hx,Sub.pv,hw]
  have hti : (l.take i).length = i := by simp; omega
  refine ⟨⟨by omega,by omega⟩,l.length - (i + 1),_,_,[some 9],by omega,⟨i + 1,by omega,rfl,rfl,rfl⟩,?_⟩
  simp only [go_sem,zL,hx,Option.toList_some,zM,zC,zB,Sub.pv]
  try decide
 ·have hlt' : ¬ (i : Int) < (l.length : Int) := by omega
  simp +contextual (maxSteps:=9^7) only [go_sem,hlt']
  rw [zD (by omega)]
def lastId (l : List Sub) (i : Nat) : Int := if i = 0 then 0 else match l[i - 1]? with | some s => s.id | none => 0
set_option maxRecDepth 4000 in
set_option maxHeartbeats 8000000 in
theorem ref20_Right (l : List Sub) (hl : l.length ≤ 1000000) : Ct pG 66 (Zv.ops [.row (l.map Sub.pv)]) (.vals [.bool (decide (subsOk l))]) := by
  refine Ct.of_V Tryz.func66 rfl (by simp [Zv.ops,Tryz.f66]) ?_
  refine V.exec 400 ?_
  simp +contextual (maxSteps:=9^7) only [go_sem,Tryz.f66]
  refine V.loop (fun m ls os => ∃ (i : Nat),i ≤ l.length ∧ m = l.length - i ∧ 0 ≤ lastId l i ∧ (rightFrom 0 l ↔ rightFrom (lastId l i) (l.drop i)) ∧
        ls = [(0,.val (.row (l.map Sub.pv))),(3,.val (.int .i64 i))] ∧ os = []) 0 l.length
      [(0,.val (.row (l.map Sub.pv))),(3,.val (.int .i64 0))] [] []
      ⟨0,zF _,rfl,Int.le_refl _,Iff.rfl,rfl,rfl⟩ (by simp only [go_sem]) ?_
  rintro m ls os ⟨i,hi,rfl,hla,hiff,rfl,rfl⟩
  refine V.exec 400 ?_
  by_cases hlt : i < l.length
  · have hlt' : (i : Int) < (l.length : Int) := by omega
    obtain ⟨x,hx⟩ : ∃ x,l[i]? = some x := ⟨_,zA hlt⟩
    have hw : IntKind.i64.wrap ((i : Int) + 1) = ((i + 1 : Nat) : Int) := by rw [wrap_small3] <;> omega
    rw [drop_of_get hx,rightFrom] at hiff
    have hpk : lastId l (i + 1) = x.id := by simp [lastId,hx]
    have fin : x.ok → lastId l i < x.id → (rightFrom 0 l ↔ rightFrom (lastId l (i + 1)) (l.drop (i + 1))) := fun a b => by
      rw [hiff,hpk]; exact ⟨fun h => h.2.2,fun h => ⟨a,b,h⟩⟩
    have hfalse : ¬ rightFrom 0 l → some [PV.bool false] = some [PV.bool (decide (subsOk l))] := fun h => by
      have : ¬ subsOk l := fun g => h g.1
      simp [this]
    simp +contextual (maxSteps:=9^7) only [go_sem,hlt',hx,Sub.pv]
    refine V.call rfl rfl (by simp [dOK]) ⟨92,[],by simp only [go_sem],⟨_,rfl,rfl,rfl⟩,.inl ⟨[x.pv],_,.inl (by simp only [go_sem,Sub.pv]),ref19_Right x,.inl ⟨_,rfl,rfl,rfl,rfl⟩⟩⟩ ?_
    refine V.exec 400 ?_
    by_cases hok : x.ok
    · rcases Nat.eq_zero_or_pos i with rfl | hpos
      · have hz : ¬ (0 : Int) < ((0 : Nat) : Int) := by omega
        have hl0 : lastId l 0 = 0 := rfl
        simp +contextual (maxSteps:=9^7) only [go_sem,hlt',hx,Sub.pv,hw,hz,hok]
        (repeat' (first | (intro _) | (refine ⟨by kernel_rfl,?_⟩) | (apply And.intro)))
        all_goals first
          | (refine hfalse fun h => ?_
             have := (hiff.1 h).2.1
             omega)
          | exact ⟨l.length - (0 + 1),_,[],[],by omega,⟨1,by omega,rfl,by rw [hpk]; omega,fin hok (by omega),rfl,rfl⟩,by simp only [go_sem]⟩
      · obtain ⟨j,rfl⟩ : ∃ j,i = j + 1 := ⟨i - 1,by omega⟩
        have hw2 : IntKind.i64.wrap (((j + 1 : Nat) : Int) - 1) = (j : Int) := by rw [wrap_small3] <;> omega
        have hjp : (0 : Int) < ((j + 1 : Nat) : Int) := by omega
        obtain ⟨y,hy⟩ : ∃ y,l[j]? = some y := ⟨_,zA (by omega)⟩
        have hlj : lastId l (j + 1) = y.id := by simp [lastId,hy]
        simp +contextual (maxSteps:=9^7) only [go_sem,hlt',hx,Sub.pv,hw,hw2,hjp,hy,hok]
        (repeat' (first | (intro _) | (refine ⟨by kernel_rfl,?_⟩) | (apply And.intro)))
        all_goals first
          | (refine hfalse fun h => ?_
             have := (hiff.1 h).2.1
             omega)
          | exact ⟨l.length - (j + 1 + 1),_,[],[],by omega,⟨j + 1 + 1,by omega,rfl,by rw [hpk]; omega,fin hok (by omega),rfl,rfl⟩,by simp only [go_sem]⟩
    · simp +contextual (maxSteps:=9^7) only [go_sem,hlt',hx,Sub.pv,hw,hok]
      (repeat' (first | (intro _) | (refine ⟨by kernel_rfl,?_⟩) | (apply And.intro)))
      all_goals exact hfalse fun h => hok (hiff.1 h).1
  · have hlt' : ¬ (i : Int) < (l.length : Int) := by omega
    have hd : l.drop i = [] := zK (by omega)
    rw [hd,rightFrom] at hiff
    simp +contextual (maxSteps:=9^7) only [go_sem,hlt']
    have e1 : ((l.length : Int) ≤ 4) = (l.length ≤ 4) := by apply propext; omega
    simp [subsOk,hiff,e1]
def refFind (l : List Sub) (id : Int) : Int := match l.findIdx? (fun s => decide (s.id = id)) with
 | some i => i
 | none => -1
set_option maxHeartbeats 4000000 in
theorem ref20_Find (l : List Sub) (id : Int) (hl : l.length ≤ 1000000) : Ct pG 93 (Zv.ops [.row (l.map Sub.pv),.int .i64 id]) (.vals [.int .i64 (refFind l id)]) := by
 refine Ct.of_V Tryz.func93 rfl (by simp [Zv.ops,Tryz.f93]) ?_
 refine V.exec 400 ?_
 simp +contextual (maxSteps:=9^7) only [go_sem,Tryz.f93]
 refine V.loop (fun m ls os => ∃ (i : Nat),i ≤ l.length ∧ m = l.length - i ∧ (∀ s ∈ l.take i,s.id ≠ id) ∧
    ls = [(0,.val (.row (l.map Sub.pv))),(1,.val (.int .i64 id)),(5,.val (.int .i64 i))] ∧ os = []) 0 l.length
   [(0,.val (.row (l.map Sub.pv))),(1,.val (.int .i64 id)),(5,.val (.int .i64 0))] [] []
   ⟨0,zF _,rfl,by simp,rfl,rfl⟩ (by simp only [go_sem]) ?_
 rintro m ls os ⟨i,hi,rfl,hno,rfl,rfl⟩
 refine V.exec 400 ?_
 by_cases hlt : i < l.length
 ·have hlt' : (i : Int) < (l.length : Int) := by omega
  obtain ⟨x,hx⟩ : ∃ x,l[i]? = some x := ⟨_,zA hlt⟩
  have hxe := (zQ.1 hx).2
  have hw : IntKind.i64.wrap ((i : Int) + 1) = ((i + 1 : Nat) : Int) := by rw [wrap_small3] <;> omega
  simp +contextual (maxSteps:=9^7) only [go_sem,hlt',hx,Sub.pv,hw]
  refine ⟨fun he => ?_,fun hne => ?_⟩
  ·have hf : l.findIdx? (fun s => decide (s.id = id)) = some i := by
    rw [List.findIdx?_eq_some_iff_getElem]
    refine ⟨hlt,by rw [hxe]; simpa using he,fun j hj => ?_⟩
    have := hno l[j] (by rw [List.mem_take_iff_getElem]; exact ⟨j,by omega,rfl⟩)
    simpa using this
   have hv : refFind l id = (i : Int) := by simp only [refFind,hf]
   simp [hv]
  ·refine ⟨l.length - (i + 1),_,[],[],by omega,⟨i + 1,by omega,rfl,fun s hs => ?_,rfl,rfl⟩,by simp only [go_sem]⟩
   rw [zL,hx] at hs
   rcases zO.1 hs with hs | hs
   ·exact hno s hs
   ·simp at hs; rw [hs]; exact hne
 ·have hlt' : ¬ (i : Int) < (l.length : Int) := by omega
  simp +contextual (maxSteps:=9^7) only [go_sem,hlt']
  rw [zD (by omega)] at hno
  have hf : l.findIdx? (fun s => decide (s.id = id)) = none := by
   rw [List.findIdx?_eq_none_iff]
   intro x hx
   simpa using hno x hx
  simp only [refFind,hf]
set_option maxHeartbeats 4000000 in
theorem ref20_Of (head : Int) (l : List Sub) (hl : l.length ≤ 1000000) : Ct pG 48 (Zv.ops [.int .i64 head,.row (l.map Sub.pv)]) (.vals [.int .i64 (floorOf head l)]) := by
 refine Ct.of_V Tryz.func48 rfl (by simp [Zv.ops,Tryz.f48]) ?_
 refine V.exec 400 ?_
 simp +contextual (maxSteps:=9^7) only [go_sem,Tryz.f48]
 refine V.loop (fun m ls os => ∃ (i : Nat) (h : Int),i ≤ l.length ∧ m = l.length - i ∧ floorOf head l = floorOf h (l.drop i) ∧
    ls = [(0,.val (.int .i64 h)),(1,.val (.row (l.map Sub.pv))),(5,.val (.int .i64 i))] ∧ os = []) 0 l.length
   [(0,.val (.int .i64 head)),(1,.val (.row (l.map Sub.pv))),(5,.val (.int .i64 0))] [] []
   ⟨0,head,zF _,rfl,rfl,rfl,rfl⟩ (by simp only [go_sem]) ?_
 rintro m ls os ⟨i,h,hi,rfl,heq,rfl,rfl⟩
 refine V.exec 400 ?_
 by_cases hlt : i < l.length
 ·have hlt' : (i : Int) < (l.length : Int) := by omega
  obtain ⟨x,hx⟩ : ∃ x,l[i]? = some x := ⟨_,zA hlt⟩
  have hw : IntKind.i64.wrap ((i : Int) + 1) = ((i + 1 : Nat) : Int) := by rw [wrap_small3] <;> omega
  rw [drop_of_get hx,floorOf] at heq
  simp +contextual (maxSteps:=9^7) only [go_sem,hlt',hx,Sub.pv,hw]
  refine ⟨fun hc => ?_,fun hc => ?_⟩
  ·rw [show min h x.cur = x.cur by omega] at heq
   exact ⟨l.length - (i + 1),_,[],[],by omega,⟨i + 1,x.cur,by omega,rfl,heq,rfl,rfl⟩,by simp only [go_sem]⟩
  ·rw [show min h x.cur = h by omega] at heq
   exact ⟨l.length - (i + 1),_,[],[],by omega,⟨i + 1,h,by omega,rfl,heq,rfl,rfl⟩,by simp only [go_sem]⟩
 ·have hlt' : ¬ (i : Int) < (l.length : Int) := by omega
  have hd : l.drop i = [] := zK (by omega)
  rw [hd,floorOf] at heq
  simp +contextual (maxSteps:=9^7) only [go_sem,hlt',heq]
set_option maxHeartbeats 8000000 in
theorem ref20_Same (a b : List Sub) (hb : b.length ≤ 1000000) : Ct pG 50 (Zv.ops [.row (a.map Sub.pv),.row (b.map Sub.pv)]) (.vals [.bool (decide (a = b))]) := by
 refine Ct.of_V Tryz.func50 rfl (by simp [Zv.ops,Tryz.f50]) ?_
 refine V.exec 400 ?_
 by_cases hl : a.length = b.length
 ·simp +contextual (maxSteps:=9^7) only [go_sem,Tryz.f50,hl]
  refine V.loop (fun m ls os => ∃ i : Nat,i ≤ b.length ∧ m = b.length - i ∧ a.take i = b.take i ∧
    ls = [(0,.val (.row (a.map Sub.pv))),(1,.val (.row (b.map Sub.pv))),(5,.val (.int .i64 i))] ∧ os = []) 0 b.length [(0,.val (.row (a.map Sub.pv))),(1,.val (.row (b.map Sub.pv))),(5,.val (.int .i64 0))] [] []
   ⟨0,zF _,rfl,rfl,rfl,rfl⟩ (by simp only [go_sem]) ?_
  rintro m ls os ⟨i,hi,rfl,heq,rfl,rfl⟩
  refine V.exec 400 ?_
  by_cases hlt : i < b.length
  ·have hlt' : (i : Int) < (b.length : Int) := by omega
   have hla : i < a.length := by omega
   obtain ⟨x,hx⟩ : ∃ x,a[i]? = some x := ⟨_,zA hla⟩
   obtain ⟨y,hy⟩ : ∃ y,b[i]? = some y := ⟨_,zA hlt⟩
   have hw : IntKind.i64.wrap ((i : Int) + 1) = ((i + 1 : Nat) : Int) := by rw [wrap_small3] <;> omega
   have hinj := Sub.inj x y
   simp only [Sub.pv] at hinj
   simp +contextual (maxSteps:=9^7) only [go_sem,hl,hlt',hx,hy,Sub.pv,hw,hinj]
   refine ⟨by kernel_rfl,fun hne => ?_,fun he => ⟨b.length - (i + 1),_,[],[],by omega,⟨i + 1,by omega,rfl,?_,rfl,rfl⟩,?_⟩⟩
   ·have : a ≠ b := fun e => hne (by rw [e,hy] at hx; cases hx; rfl)
    simp [this]
   ·rw [zL,zL,heq,hx,hy,he]
   ·simp only [go_sem]
  ·have hlt' : ¬ (i : Int) < (b.length : Int) := by omega
   simp +contextual (maxSteps:=9^7) only [go_sem,hl,hlt']
   have : a = b := by rw [zD (by omega),zD (by omega)] at heq; exact heq
   simp [this]
 ·have hl' : ¬ (a.length : Int) = (b.length : Int) := by omega
  have : a ≠ b := fun e => hl (by rw [e])
  simp +contextual (maxSteps:=9^7) only [go_sem,Tryz.f50,hl',this,not_false_eq_true]
theorem refFind_neg {l : List Sub} {id : Int} : refFind l id < 0 ↔ findL l id = none := by
 unfold refFind findL
 cases h : l.findIdx? (fun s => decide (s.id = id)) with
 | none =>
  have h2 : l.find? (fun s => decide (s.id = id)) = none := by
   rw [List.find?_eq_none]
   intro x hx
   have := List.findIdx?_eq_none_iff.1 h x hx
   simpa using this
  simp [h2]
 | some i =>
  obtain ⟨hlt,hp,_⟩ := List.findIdx?_eq_some_iff_getElem.1 h
  have h2 : l.find? (fun s => decide (s.id = id)) ≠ none := by
   rw [Ne,List.find?_eq_none]
   intro hn
   have := hn l[i] (List.getElem_mem hlt)
   exact this hp
  simp [h2]
def keepL (l : List Sub) (id : Int) : List Sub := l.filter (fun s => !decide (s.id = id))
theorem keepL_len (l : List Sub) (id : Int) : (keepL l id).length ≤ l.length := List.length_filter_le _ _
theorem keepL_snoc (l : List Sub) (x : Sub) (id : Int) : keepL (l ++ [x]) id = if x.id = id then keepL l id else keepL l id ++ [x] := by
 unfold keepL
 rw [zV]
 by_cases h : x.id = id <;> simp [h]
theorem map_take_succ {l : List Sub} {i : Nat} {x : Sub} (h : l[i]? = some x) : l.take (i + 1) = l.take i ++ [x] := by
 rw [zL,h]; rfl
set_option maxRecDepth 10000 in
set_option maxHeartbeats 8000000 in
theorem ref20_Leave (l : List Sub) (id : Int) (hl : l.length ≤ 1000000) : Ct pG 47 (Zv.ops [.row (l.map Sub.pv),.int .i64 id]) (.vals [.row ((leaveV l id).1.map Sub.pv),.int .i64 (leaveV l id).2]) := by
 refine Ct.of_V Tryz.func47 rfl (by simp [Zv.ops,Tryz.f47]) ?_
 refine V.exec 400 ?_
 simp +contextual (maxSteps:=9^7) only [go_sem,Tryz.f47]
 refine V.call rfl rfl (by simp [dOK]) ⟨66,[],by simp only [go_sem],⟨_,rfl,rfl,rfl⟩,.inl ⟨[.row (l.map Sub.pv)],_,.inl (by simp only [go_sem]),ref20_Right l hl,.inl ⟨_,rfl,rfl,rfl,rfl⟩⟩⟩ ?_
 refine V.exec 400 ?_
 by_cases hs : subsOk l
 ·simp +contextual (maxSteps:=9^7) only [go_sem,hs]
  refine V.call rfl rfl (by simp [dOK]) ⟨93,[],by simp only [go_sem],⟨_,rfl,rfl,rfl⟩,.inl ⟨[.row (l.map Sub.pv),.int .i64 id],_,.inl (by simp only [go_sem]),ref20_Find l id hl,.inl ⟨_,rfl,rfl,rfl,rfl⟩⟩⟩ ?_
  refine V.exec 400 ?_
  cases hf : findL l id with
  | none =>
   have hn := refFind_neg.2 hf
   have hv : leaveV l id = (l,3) := by simp [leaveV,findV,hs,hf]
   simp +contextual (maxSteps:=9^7) only [go_sem,hn,hv]
  | some y =>
   have hn : ¬ refFind l id < 0 := fun h => by rw [refFind_neg.1 h] at hf; cases hf
   have hv : leaveV l id = (keepL l id,0) := by simp [leaveV,findV,hs,hf,keepL]
   simp +contextual (maxSteps:=9^7) only [go_sem,hn,hv]
   refine V.loop (fun m ls os => ∃ i : Nat,i ≤ l.length ∧ m = l.length - i ∧
     ls = [(0,.val (.row (l.map Sub.pv))),(1,.val (.int .i64 id)),(7,.ref 0),(8,.val (.int .i64 i))] ∧ os = [.row 103 ((keepL (l.take i) id).map Sub.pv)]) 1 l.length
    [(0,.val (.row (l.map Sub.pv))),(1,.val (.int .i64 id)),(7,.ref 0),(8,.val (.int .i64 0))] [.row 103 []] [none]
    ⟨0,zF _,rfl,rfl,rfl⟩ (by simp only [go_sem]; try decide) ?_
   rintro m ls os ⟨i,hi,rfl,rfl,rfl⟩
   refine V.exec 400 ?_
   by_cases hlt : i < l.length
   ·have hlt' : (i : Int) < (l.length : Int) := by omega
    obtain ⟨x,hx⟩ : ∃ x,l[i]? = some x := ⟨_,zA hlt⟩
    have hw : IntKind.i64.wrap ((i : Int) + 1) = ((i + 1 : Nat) : Int) := by rw [wrap_small3] <;> omega
    have hti : (keepL (l.take i) id).length ≤ i := Nat.le_trans (keepL_len _ _) (by simp; omega)
    have hmt := map_take_succ hx
    by_cases he : x.id = id
    ·have hft : keepL (l.take (i + 1)) id = keepL (l.take i) id := by rw [hmt,keepL_snoc,if_pos he]
     simp +contextual (maxSteps:=9^7) only [go_sem,hlt',hx,Sub.pv,hw,he]
     refine ⟨l.length - (i + 1),_,_,[some 0],by omega,⟨i + 1,by omega,rfl,rfl,rfl⟩,?_⟩
     simp only [go_sem,hft]
     try decide
    ·have hft : keepL (l.take (i + 1)) id = keepL (l.take i) id ++ [x] := by rw [hmt,keepL_snoc,if_neg he]
     simp +contextual (maxSteps:=9^7) only [go_sem,hlt',hx,Sub.pv,hw,he]
     refine ⟨⟨by omega,by omega⟩,l.length - (i + 1),_,_,[some 18],by omega,⟨i + 1,by omega,rfl,rfl,rfl⟩,?_⟩
     simp only [go_sem,hft,zM,zC,zB,Sub.pv]
     try decide
   ·have hlt' : ¬ (i : Int) < (l.length : Int) := by omega
    simp +contextual (maxSteps:=9^7) only [go_sem,hlt']
    rw [zD (by omega)]
 ·have hv : leaveV l id = (l,1) := by simp [leaveV,findV,hs]
  simp +contextual (maxSteps:=9^7) only [go_sem,hs,hv]
def putL (l : List Sub) (s : Sub) : List Sub := l.map (fun y => if y.id = s.id then s else y)
theorem putL_len (l : List Sub) (s : Sub) : (putL l s).length = l.length := zW _
theorem putL_snoc (l : List Sub) (x s : Sub) : putL (l ++ [x]) s = putL l s ++ [if x.id = s.id then s else x] := by simp [putL]
theorem set_map {s : Sub} : ∀ (l : List Sub) (last : Int) (r : Nat) (x : Sub),rightFrom last l → l[r]? = some x → x.id = s.id → l.map (fun y => if y.id = s.id then s else y) = l.set r s
 | [],_,_,_,_,hx,_ => by simp at hx
 | c :: t,last,0,x,h,hx,he => by
  simp at hx
  subst hx
  simp only [zC,List.set_cons_zero,he,if_true]
  congr 1
  have : ∀ y ∈ t,(if y.id = s.id then s else y) = y := fun y hy => by
   have := above t h.2.2 y hy
   rw [if_neg (by omega)]
  rw [List.map_congr_left this,List.map_id']
 | c :: t,last,r + 1,x,h,hx,he => by
  simp at hx
  have hc := above t h.2.2 x (zE hx)
  simp only [zC,List.set_cons_succ,set_map t c.id r x h.2.2 hx he]
  rw [if_neg (by omega)]
set_option maxRecDepth 10000 in
set_option maxHeartbeats 8000000 in
theorem ref20_Set (l : List Sub) (s : Sub) (hl : l.length ≤ 1000000) : Ct pG 97 (Zv.ops [.row (l.map Sub.pv),s.pv]) (.vals [.row ((setV l s).1.map Sub.pv),.int .i64 (setV l s).2]) := by
 refine Ct.of_V Tryz.func97 rfl (by simp [Zv.ops,Tryz.f97]) ?_
 refine V.exec 400 ?_
 simp +contextual (maxSteps:=9^7) only [go_sem,Tryz.f97,Sub.pv]
 refine DV.call [] [] (by simp only [go_sem]) (by simp [dOK]) ⟨66,[],by simp only [go_sem],⟨_,rfl,rfl,rfl⟩,.inl ⟨[.row (l.map Sub.pv)],_,.inl (by simp only [go_sem]),ref20_Right l hl,.inl ⟨_,rfl,rfl,rfl,rfl⟩⟩⟩ (by simp only [go_sem]) (by simp only [go_sem]) (by simp only [go_sem]) (by simp) ?_
 refine DV.exec 400 ?_
 simp +contextual (maxSteps:=9^7) only [go_sem]
 refine DV.call [] [] (by simp only [go_sem,Sub.pv]) (by simp [dOK]) ⟨92,[],by simp only [go_sem,Sub.pv],⟨_,rfl,rfl,rfl⟩,.inl ⟨[s.pv],_,.inl (by simp only [go_sem,Sub.pv]),ref19_Right s,.inl ⟨_,rfl,rfl,rfl,rfl⟩⟩⟩ (by simp only [go_sem,Sub.pv]) (by simp only [go_sem,Sub.pv]) (by simp only [go_sem,Sub.pv]) (by simp) ?_
 refine DV.exec 400 ?_
 simp +contextual (maxSteps:=9^7) only [go_sem]
 refine ⟨by kernel_rfl,?_⟩
 by_cases hs : subsOk l
 ·by_cases hk : s.ok
  ·simp +contextual (maxSteps:=9^7) only [go_sem,hs,hk]
   refine V.call rfl rfl (by simp [dOK]) ⟨93,[],by simp only [go_sem],⟨_,rfl,rfl,rfl⟩,.inl ⟨[.row (l.map Sub.pv),.int .i64 s.id],_,.inl (by simp only [go_sem]),ref20_Find l s.id hl,.inl ⟨_,rfl,rfl,rfl,rfl⟩⟩⟩ ?_
   refine V.exec 400 ?_
   cases hf : findL l s.id with
   | none =>
    have hn := refFind_neg.2 hf
    have hv : setV l s = (l,3) := by simp [setV,hs,hk,hf]
    simp +contextual (maxSteps:=9^7) only [go_sem,hn,hv]
   | some y =>
    have hx := (rank_find l hs.1 y).2 hf
    have hn : ¬ refFind l s.id < 0 := fun h => by rw [refFind_neg.1 h] at hf; cases hf
    have hv : setV l s = (putL l s,0) := by unfold putL; rw [set_map l 0 _ y hs.1 hx.1 hx.2]; simp [setV,hs,hk,hf]
    simp +contextual (maxSteps:=9^7) only [go_sem,hn,hv]
    refine V.loop (fun m ls os => ∃ i : Nat,i ≤ l.length ∧ m = l.length - i ∧
      ls = [(0,.val (.row (l.map Sub.pv))),(3,.adr 0 0),(8,.ref 1),(9,.val (.int .i64 i))] ∧
      os = [.box true [.val (.int .i64 s.id),.val (.str s.r.lo),.val (.str s.r.hi),.val (.bool (decide (s.r.op = true))),.val (.bool (decide (s.live = true))),.val (.str s.next),.val (.int .i64 s.cur)],.row 103 ((putL (l.take i) s).map Sub.pv)]) 2 l.length
     [(0,.val (.row (l.map Sub.pv))),(3,.adr 0 0),(8,.ref 1),(9,.val (.int .i64 0))] [.box true [.val (.int .i64 s.id),.val (.str s.r.lo),.val (.str s.r.hi),.val (.bool (decide (s.r.op = true))),.val (.bool (decide (s.live = true))),.val (.str s.next),.val (.int .i64 s.cur)],.row 103 []] [some 2,none]
     ⟨0,zF _,rfl,rfl,rfl⟩ (by simp only [go_sem]; try decide) ?_
    rintro m ls os ⟨i,hi,rfl,rfl,rfl⟩
    refine V.exec 400 ?_
    by_cases hlt : i < l.length
    ·have hlt' : (i : Int) < (l.length : Int) := by omega
     obtain ⟨x,hx⟩ : ∃ x,l[i]? = some x := ⟨_,zA hlt⟩
     have hw : IntKind.i64.wrap ((i : Int) + 1) = ((i + 1 : Nat) : Int) := by rw [wrap_small3] <;> omega
     have hti : (putL (l.take i) s).length = i := by rw [putL_len]; simp; omega
     have hft : putL (l.take (i + 1)) s = putL (l.take i) s ++ [if x.id = s.id then s else x] := by rw [map_take_succ hx,putL_snoc]
     by_cases he : x.id = s.id
     ·rw [if_pos he] at hft
      simp +contextual (maxSteps:=9^7) only [go_sem,hlt',hx,Sub.pv,hw,he]
      refine ⟨by kernel_rfl,⟨by omega,by omega⟩,l.length - (i + 1),_,_,[some 0,some 17],by omega,⟨i + 1,by omega,rfl,rfl,rfl⟩,?_⟩
      simp only [go_sem,hft,zM,zC,zB,Sub.pv]
      try decide
     ·rw [if_neg he] at hft
      simp +contextual (maxSteps:=9^7) only [go_sem,hlt',hx,Sub.pv,hw,he]
      refine ⟨by kernel_rfl,⟨by omega,by omega⟩,l.length - (i + 1),_,_,[some 0,some 20],by omega,⟨i + 1,by omega,rfl,rfl,rfl⟩,?_⟩
      simp only [go_sem,hft,zM,zC,zB,Sub.pv]
      try decide
    ·have hlt' : ¬ (i : Int) < (l.length : Int) := by omega
     simp +contextual (maxSteps:=9^7) only [go_sem,hlt']
     rw [zD (by omega)]
  ·have hv : setV l s = (l,1) := by simp [setV,hk]
   simp +contextual (maxSteps:=9^7) only [go_sem,hs,hk,hv]
 ·have hv : setV l s = (l,1) := by simp [setV,hs]
  simp +contextual (maxSteps:=9^7) only [go_sem,hs,hv]
theorem gapAt_ge : ∀ (l : List Sub) (b : Nat),b ≤ gapAt b l
 | [],b => zR b
 | s :: r,b => by
  unfold gapAt
  split
  ·have := gapAt_ge r (b + 1); omega
  ·exact zR b
theorem gapAt_le : ∀ (l : List Sub) (b : Nat),gapAt b l ≤ b + l.length
 | [],b => zR b
 | s :: r,b => by
  unfold gapAt
  split
  ·have := gapAt_le r (b + 1); simp only [zT]; omega
  ·omega
theorem gap_has : ∀ (l : List Sub) (b : Nat) (id : Nat),b < id → id ≤ gapAt b l → ∃ s ∈ l,s.id = (id : Int)
 | [],b,id,h,h' => by simp only [gapAt] at h'; omega
 | s :: r,b,id,h,h' => by
  unfold gapAt at h'
  split at h'
  ·rename_i hs
   by_cases e : id = b + 1
   ·exact ⟨s,zG,by rw [hs,e]; omega⟩
   ·obtain ⟨s',h1,h2⟩ := gap_has r (b + 1) id (by omega) h'
    exact ⟨s',zH _ h1,h2⟩
  ·omega
theorem gap_not : ∀ (l : List Sub) (b : Nat),rightFrom (b : Int) l → ∀ s ∈ l,s.id ≠ (gapAt b l : Int) + 1
 | s :: r,b,h,y,hy => by
  have hr := above r h.2.2
  unfold gapAt
  split
  ·rename_i hs
   have hg := gapAt_ge r (b + 1)
   rcases zI.1 hy with rfl | hy
   ·omega
   ·have h2 : rightFrom ((b + 1 : Nat) : Int) r := by have := h.2.2; rw [hs] at this; exact_mod_cast this
    exact gap_not r (b + 1) h2 y hy
  ·rename_i hs
   have h1 := h.2.1
   rcases zI.1 hy with rfl | hy
   ·omega
   ·have := hr y hy
    omega
def lowL (l : List Sub) (g : Int) : List Sub := l.filter (fun s => decide (s.id < g))
def highL (l : List Sub) (g : Int) : List Sub := l.filter (fun s => decide (g < s.id))
theorem lowL_len (l : List Sub) (g : Int) : (lowL l g).length ≤ l.length := List.length_filter_le _ _
theorem highL_len (l : List Sub) (g : Int) : (highL l g).length ≤ l.length := List.length_filter_le _ _
theorem lowL_snoc (l : List Sub) (x : Sub) (g : Int) : lowL (l ++ [x]) g = if x.id < g then lowL l g ++ [x] else lowL l g := by
 unfold lowL
 rw [zV]
 by_cases h : x.id < g <;> simp [h]
theorem highL_snoc (l : List Sub) (x : Sub) (g : Int) : highL (l ++ [x]) g = if g < x.id then highL l g ++ [x] else highL l g := by
 unfold highL
 rw [zV]
 by_cases h : g < x.id <;> simp [h]
theorem gap_parts : ∀ (l : List Sub) (b : Nat),rightFrom (b : Int) l → lowL l ((gapAt b l : Int) + 1) = l.take (gapAt b l - b) ∧ highL l ((gapAt b l : Int) + 1) = l.drop (gapAt b l - b)
 | [],b,_ => by simp [lowL,highL]
 | s :: r,b,h => by
  have hr := above r h.2.2
  have h1 := h.2.1
  unfold gapAt
  split
  ·rename_i hs
   have hg := gapAt_ge r (b + 1)
   have h2 : rightFrom ((b + 1 : Nat) : Int) r := by have := h.2.2; rw [hs] at this; exact_mod_cast this
   obtain ⟨i1,i2⟩ := gap_parts r (b + 1) h2
   have e : gapAt (b + 1) r - b = (gapAt (b + 1) r - (b + 1)) + 1 := by omega
   rw [e,List.take_succ_cons,List.drop_succ_cons,← i1,← i2]
   refine ⟨?_,?_⟩
   ·unfold lowL; rw [List.filter_cons,if_pos (by simp; omega)]
   ·unfold highL; rw [List.filter_cons,if_neg (by simp; omega)]
  ·rename_i hs
   simp only [Nat.sub_self,List.take_zero,List.drop_zero]
   refine ⟨?_,?_⟩
   ·unfold lowL
    rw [List.filter_eq_nil_iff]
    intro y hy
    rcases zI.1 hy with rfl | hy
    ·simp; omega
    ·have := hr y hy; simp; omega
   ·unfold highL
    rw [List.filter_eq_self]
    intro y hy
    rcases zI.1 hy with rfl | hy
    ·simp; omega
    ·have := hr y hy; simp; omega
theorem refFind_gap {l : List Sub} (hs : rightFrom 0 l) (j : Nat) (hj : j ≤ gapAt 0 l) : (0 ≤ refFind l (((j + 1 : Nat) : Nat) : Int)) ↔ j < gapAt 0 l := by
 constructor
 ·intro h
  rcases Nat.lt_or_ge j (gapAt 0 l) with h' | h'
  ·exact h'
  ·have e : j = gapAt 0 l := by omega
   exfalso
   have hn : refFind l ((j + 1 : Nat) : Int) < 0 := by
    rw [refFind_neg]
    unfold findL
    rw [List.find?_eq_none]
    intro x hx
    have := gap_not l 0 hs x hx
    simp
    omega
   omega
 ·intro h
  obtain ⟨s,hs1,hs2⟩ := gap_has l 0 (j + 1) (by omega) (by omega)
  have hn : ¬ refFind l ((j + 1 : Nat) : Int) < 0 := fun hc => by
   have := refFind_neg.1 hc
   unfold findL at this
   rw [List.find?_eq_none] at this
   have := this s hs1
   simp at this
   exact this hs2
  omega
set_option maxRecDepth 10000 in
set_option maxHeartbeats 8000000 in
theorem ref20_Add (l : List Sub) (s : Sub) (hl : l.length ≤ 1000000) : Ct pG 44 (Zv.ops [.row (l.map Sub.pv),s.pv])
  (.vals [.row ((addV l s).1.map Sub.pv),.int .i64 (addV l s).2.1,.int .i64 (addV l s).2.2]) := by
 refine Ct.of_V Tryz.func44 rfl (by simp [Zv.ops,Tryz.f44]) ?_
 refine V.exec 400 ?_
 simp +contextual (maxSteps:=9^7) only [go_sem,Tryz.f44,Sub.pv]
 refine DV.call [] [] (by simp only [go_sem]) (by simp [dOK]) ⟨66,[],by simp only [go_sem],⟨_,rfl,rfl,rfl⟩,.inl ⟨[.row (l.map Sub.pv)],_,.inl (by simp only [go_sem]),ref20_Right l hl,.inl ⟨_,rfl,rfl,rfl,rfl⟩⟩⟩ (by simp only [go_sem]) (by simp only [go_sem]) (by simp only [go_sem]) (by simp) ?_
 refine DV.exec 400 ?_
 simp +contextual (maxSteps:=9^7) only [go_sem]
 refine DV.call [] [] (by simp only [go_sem,Sub.pv]) (by simp [dOK]) ⟨92,[],by simp only [go_sem,Sub.pv],⟨_,rfl,rfl,rfl⟩,.inl ⟨[s.pv],_,.inl (by simp only [go_sem,Sub.pv]),ref19_Right s,.inl ⟨_,rfl,rfl,rfl,rfl⟩⟩⟩ (by simp only [go_sem,Sub.pv]) (by simp only [go_sem,Sub.pv]) (by simp only [go_sem,Sub.pv]) (by simp) ?_
 refine DV.exec 400 ?_
 by_cases hs : subsOk l
 ·by_cases hk : s.ok
  ·by_cases h4 : l.length = 4
   ·have h4' : (l.length : Int) = 4 := by omega
    have hv : addV l s = (l,0,7) := by simp [addV,hs,hk,h4]
    simp +contextual (maxSteps:=9^7) only [go_sem,hs,hk,h4',hv]
    kernel_rfl
   ·have h4' : ¬ (l.length : Int) = 4 := by omega
    have hl4 : ¬ 4 ≤ l.length := by have := hs.2; omega
    have hv : addV l s = (l.take (gapAt 0 l) ++ [{ s with id := (gapAt 0 l : Int) + 1 }] ++ l.drop (gapAt 0 l),(gapAt 0 l : Int) + 1,0) := by simp [addV,hs,hk,hl4]
    obtain ⟨hp1,hp2⟩ := gap_parts l 0 hs.1
    rw [Nat.sub_zero] at hp1 hp2
    have hgl := gapAt_le l 0
    rw [← hp1,← hp2] at hv
    rw [hv]
    have hrf := fun j hj => refFind_gap hs.1 j hj
    generalize hG : gapAt 0 l = G at *
    simp +contextual (maxSteps:=9^7) only [go_sem,hs,hk,h4']
    refine ⟨by kernel_rfl,?_⟩
    refine V.loop (fun m ls os => ∃ j : Nat,j ≤ G ∧ m = G - j ∧
      ls = [(0,.val (.row (l.map Sub.pv))),(3,.adr 0 0),(9,.val (.int .i64 (j + 1 : Nat)))] ∧
      os = [.box true [.val (.int .i64 s.id),.val (.str s.r.lo),.val (.str s.r.hi),.val (.bool (decide (s.r.op = true))),.val (.bool (decide (s.live = true))),.val (.str s.next),.val (.int .i64 s.cur)]]) 1 G
     [(0,.val (.row (l.map Sub.pv))),(3,.adr 0 0),(9,.val (.int .i64 1))] [.box true [.val (.int .i64 s.id),.val (.str s.r.lo),.val (.str s.r.hi),.val (.bool (decide (s.r.op = true))),.val (.bool (decide (s.live = true))),.val (.str s.next),.val (.int .i64 s.cur)]] [some 2]
     ⟨0,zF _,rfl,rfl,rfl⟩ (by simp only [go_sem]; try decide) ?_
    rintro m ls os ⟨j,hj,rfl,rfl,rfl⟩
    refine V.exec 400 ?_
    simp +contextual (maxSteps:=9^7) only [go_sem]
    refine V.call rfl rfl (by simp [dOK]) ⟨93,[],by simp only [go_sem],⟨_,rfl,rfl,rfl⟩,.inl ⟨[.row (l.map Sub.pv),.int .i64 (j + 1 : Nat)],_,.inl (by simp only [go_sem]),ref20_Find l (j + 1 : Nat) hl,.inl ⟨_,rfl,rfl,rfl,rfl⟩⟩⟩ ?_
    refine V.exec 400 ?_
    have hr := hrf j hj
    have hw : IntKind.i64.wrap (((j + 1 : Nat) : Int) + 1) = ((j + 1 + 1 : Nat) : Int) := by rw [wrap_small3] <;> omega
    by_cases hlt : j < G
    ·have hc := hr.2 hlt
     simp +contextual (maxSteps:=9^7) only [go_sem,hc,hw]
     exact ⟨G - (j + 1),_,_,[some 0],by omega,⟨j + 1,by omega,rfl,rfl,rfl⟩,by simp only [go_sem]⟩
    ·have hc : ¬ 0 ≤ refFind l ((j + 1 : Nat) : Int) := fun h => hlt (hr.1 h)
     obtain rfl : j = G := by omega
     have hgi : (j : Int) + 1 = ((j + 1 : Nat) : Int) := by omega
     rw [hgi]
     simp +contextual (maxSteps:=9^7) only [go_sem,hc]
     generalize hg : ((j + 1 : Nat) : Int) = g at *
     refine V.loop (fun m ls os => ∃ i : Nat,i ≤ l.length ∧ m = l.length - i ∧
       ls = [(0,.val (.row (l.map Sub.pv))),(3,.adr 0 0),(9,.val (.int .i64 g)),(10,.ref 1),(11,.val (.int .i64 i))] ∧
       os = [.box true [.val (.int .i64 g),.val (.str s.r.lo),.val (.str s.r.hi),.val (.bool (decide (s.r.op = true))),.val (.bool (decide (s.live = true))),.val (.str s.next),.val (.int .i64 s.cur)],.row 103 ((lowL (l.take i) g).map Sub.pv)]) 2 l.length
      [(0,.val (.row (l.map Sub.pv))),(3,.adr 0 0),(9,.val (.int .i64 g)),(10,.ref 1),(11,.val (.int .i64 0))] [.box true [.val (.int .i64 g),.val (.str s.r.lo),.val (.str s.r.hi),.val (.bool (decide (s.r.op = true))),.val (.bool (decide (s.live = true))),.val (.str s.next),.val (.int .i64 s.cur)],.row 103 []] [some 0,none]
      ⟨0,zF _,rfl,rfl,rfl⟩ (by simp only [go_sem]; try decide) ?_
     rintro m ls os ⟨i,hi,rfl,rfl,rfl⟩
     refine V.exec 400 ?_
     by_cases hlt : i < l.length
     ·have hlt' : (i : Int) < (l.length : Int) := by omega
      obtain ⟨x,hx⟩ : ∃ x,l[i]? = some x := ⟨_,zA hlt⟩
      have hw : IntKind.i64.wrap ((i : Int) + 1) = ((i + 1 : Nat) : Int) := by rw [wrap_small3] <;> omega
      have hti : (lowL (l.take i) g).length ≤ i := Nat.le_trans (lowL_len _ _) (by simp; omega)
      have hft := lowL_snoc (l.take i) x g
      rw [← map_take_succ hx] at hft
      by_cases he : x.id < g
      ·rw [if_pos he] at hft
       simp +contextual (maxSteps:=9^7) only [go_sem,hlt',hx,Sub.pv,hw,he]
       refine ⟨⟨by omega,by omega⟩,l.length - (i + 1),_,_,[some 0,some 19],by omega,⟨i + 1,by omega,rfl,rfl,rfl⟩,?_⟩
       simp only [go_sem,hft,zM,zC,zB,Sub.pv]
       try decide
      ·rw [if_neg he] at hft
       simp +contextual (maxSteps:=9^7) only [go_sem,hlt',hx,Sub.pv,hw,he]
       refine ⟨l.length - (i + 1),_,_,[some 0,some 1],by omega,⟨i + 1,by omega,rfl,rfl,rfl⟩,?_⟩
       simp only [go_sem,hft]
       try decide
     ·have hlt' : ¬ (i : Int) < (l.length : Int) := by omega
      have hti : (lowL l g).length ≤ l.length := lowL_len _ _
      simp +contextual (maxSteps:=9^7) only [go_sem,hlt']
      rw [zD (Nat.le_of_not_lt hlt)]
      refine ⟨⟨by omega,by omega⟩,?_⟩
      refine V.loop (fun m ls os => ∃ i : Nat,i ≤ l.length ∧ m = l.length - i ∧
        ls = [(0,.val (.row (l.map Sub.pv))),(9,.val (.int .i64 g)),(10,.ref 0),(12,.val (.int .i64 i))] ∧
        os = [.row 103 ((lowL l g ++ [{ s with id := g }] ++ highL (l.take i) g).map Sub.pv)]) 1 l.length
       [(0,.val (.row (l.map Sub.pv))),(9,.val (.int .i64 g)),(10,.ref 0),(12,.val (.int .i64 0))] [.row 103 ((lowL l g ++ [{ s with id := g }]).map Sub.pv)] [some 9]
       ⟨0,zF _,rfl,rfl,by simp [highL]⟩ (by simp only [go_sem,zM,zC,zB,Sub.pv]; try decide) ?_
      rintro m ls os ⟨i,hi,rfl,rfl,rfl⟩
      refine V.exec 400 ?_
      by_cases hlt : i < l.length
      ·have hlt' : (i : Int) < (l.length : Int) := by omega
       obtain ⟨x,hx⟩ : ∃ x,l[i]? = some x := ⟨_,zA hlt⟩
       have hw : IntKind.i64.wrap ((i : Int) + 1) = ((i + 1 : Nat) : Int) := by rw [wrap_small3] <;> omega
       have hti : (lowL l g ++ [{ s with id := g }] ++ highL (l.take i) g).length ≤ l.length + 1 + i := by
        have := highL_len (l.take i) g
        simp at this ⊢; omega
       have hft := highL_snoc (l.take i) x g
       rw [← map_take_succ hx] at hft
       by_cases he : g < x.id
       ·rw [if_pos he] at hft
        have hft2 : lowL l g ++ [{ s with id := g }] ++ highL (l.take (i + 1)) g = (lowL l g ++ [{ s with id := g }] ++ highL (l.take i) g) ++ [x] := by rw [hft]; simp
        generalize lowL l g ++ [{ s with id := g }] ++ highL (l.take i) g = Y at *
        simp +contextual (maxSteps:=9^7) only [go_sem,hlt',hx,Sub.pv,hw,he]
        refine ⟨⟨by omega,by omega⟩,l.length - (i + 1),_,_,[some 18],by omega,⟨i + 1,by omega,rfl,rfl,rfl⟩,?_⟩
        rw [hft2]
        simp only [go_sem,zM,zC,zB,Sub.pv]
        try decide
       ·rw [if_neg he] at hft
        simp +contextual (maxSteps:=9^7) only [go_sem,hlt',hx,Sub.pv,hw,he]
        refine ⟨l.length - (i + 1),_,_,[some 0],by omega,⟨i + 1,by omega,rfl,rfl,rfl⟩,?_⟩
        rw [hft]
        simp only [go_sem]
        try decide
      ·have hlt' : ¬ (i : Int) < (l.length : Int) := by omega
       simp +contextual (maxSteps:=9^7) only [go_sem,hlt']
       rw [zD (Nat.le_of_not_lt hlt)]
  ·have hv : addV l s = (l,0,1) := by simp [addV,hk]
   simp +contextual (maxSteps:=9^7) only [go_sem,hs,hk,hv]
   kernel_rfl
 ·have hv : addV l s = (l,0,1) := by simp [addV,hs]
  simp +contextual (maxSteps:=9^7) only [go_sem,hs,hv]
  kernel_rfl
structure Cmd where
 d : Int
 ns : List Note
 key : List UInt8
 r : Range
 id : Int
 seq : Int
 n : Int
def Cmd.pv (c : Cmd) : PV := .agg [.int .i64 c.d,.row (c.ns.map Note.pv),.str c.key,.str c.r.lo,.str c.r.hi,.bool (decide (c.r.op = true)),.int .i64 c.id,.int .i64 c.seq,.int .i64 c.n]
structure Tell where
 err : Int
 n : Int
 has : Bool
 v : List UInt8
 k : Chunk
 deriving DecidableEq
def Tell.pv (t : Tell) : PV := .agg [.int .i64 t.err,.int .i64 t.n,.bool (decide (t.has = true)),.str t.v,.row (t.k.ps.map Pair.pv),.row (t.k.cs.map Change.pv),.bool (decide (t.k.more = true))]
def Tell.bad (e : Int) : Tell := ⟨e,0,false,[],Chunk.zero⟩
def Tell.num (n : Int) : Tell := ⟨0,n,false,[],Chunk.zero⟩
structure KSt where
 L : List Pair
 T : List Change
 S : List Sub
 seq : Int
 floor : Int
 deriving DecidableEq
def KSt.pv (k : KSt) : PV := .agg [.row (k.L.map Pair.pv),.row (k.T.map Change.pv),.row (k.S.map Sub.pv),.int .i64 k.seq,.int .i64 k.floor]
def KSt.zero : KSt := ⟨[],[],[],0,0⟩
def KSt.ok (k : KSt) : Prop := pairsOk k.L ∧ trailOk k.T ∧ subsOk k.S ∧ k.L.length ≤ 60 ∧ k.T.length ≤ 60 ∧ 0 ≤ k.floor ∧ k.floor ≤ k.seq ∧ k.seq ≤ 2147483647 ∧
 (∀ c ∈ k.T,k.floor < c.seq ∧ c.seq ≤ k.seq) ∧ (∀ s ∈ k.S,k.floor ≤ s.cur ∧ s.cur ≤ k.seq) ∧ (backGo k.L k.T).isSome = true
def writeV (k : KSt) (c : Cmd) : KSt × Tell :=
 if (runV k.L k.seq c.ns).2.2 = 0 then
  if 60 < (runV k.L k.seq c.ns).2.1.length ∨ 60 < k.T.length + (runV k.L k.seq c.ns).1.length then (k,Tell.bad 5)
  else (⟨(runV k.L k.seq c.ns).2.1,k.T ++ (runV k.L k.seq c.ns).1,k.S,k.seq + ((runV k.L k.seq c.ns).1.length : Int),k.floor⟩,Tell.num (k.seq + ((runV k.L k.seq c.ns).1.length : Int)))
 else (k,Tell.bad (runV k.L k.seq c.ns).2.2)
def pageK (k : KSt) (c : Cmd) (seq : Int) : Tell :=
 if c.r.ok ∧ 1 ≤ c.n then
  if k.seq < seq then Tell.bad 9
  else if (pageV k.L k.T k.floor seq c.n c.r).2.2 = 0 then ⟨0,0,false,[],⟨(pageV k.L k.T k.floor seq c.n c.r).1,[],(pageV k.L k.T k.floor seq c.n c.r).2.1⟩⟩
  else Tell.bad (pageV k.L k.T k.floor seq c.n c.r).2.2
 else Tell.bad 1
def withV (k : KSt) (l : List Sub) (n e : Int) : KSt × Tell := if e = 0 then ({ k with S := l },Tell.num n) else (k,Tell.bad e)
def pollK (k : KSt) (c : Cmd) : Tell :=
 match findL k.S c.id with
 | none => Tell.bad 3
 | some x => ⟨(pollV x k.L k.T k.floor c.n).2,0,false,[],(pollV x k.L k.T k.floor c.n).1⟩
def goesV (k : KSt) (c : Cmd) : KSt × Tell :=
 match findL k.S c.id with
 | none => (k,Tell.bad 3)
 | some x => if c.d = 8 then withV k (setV k.S (tookV x k.L k.T k.floor c.n).1).1 0 (tookV x k.L k.T k.floor c.n).2 else withV k (setV k.S (ackV x k.seq c.seq).1).1 0 (ackV x k.seq c.seq).2
def joinV2 (k : KSt) (s : Sub) : KSt × Tell := withV k (addV k.S s).1 (addV k.S s).2.1 (addV k.S s).2.2
def trimV (k : KSt) : KSt × Tell := (⟨k.L,dropV k.T (floorOf k.seq k.S),k.S,k.seq,floorOf k.seq k.S⟩,Tell.num (floorOf k.seq k.S))
def doK (k : KSt) (c : Cmd) : KSt × Tell :=
 if c.d = 1 then writeV k c
 else if c.d = 2 then (k,⟨0,0,(getV k.L c.key).2,(getV k.L c.key).1,Chunk.zero⟩)
 else if c.d = 3 then (k,pageK k c k.seq)
 else if c.d = 4 then (k,pageK k c c.seq)
 else if c.d = 5 then joinV2 k ⟨0,c.r,false,[],k.seq⟩
 else if c.d = 6 then (if c.seq < k.floor then (k,Tell.bad 8) else if k.seq < c.seq then (k,Tell.bad 9) else joinV2 k ⟨0,c.r,true,[],c.seq⟩)
 else if c.d = 7 then (k,pollK k c)
 else if c.d = 8 ∨ c.d = 9 then goesV k c
 else if c.d = 10 then withV k (leaveV k.S c.id).1 0 (leaveV k.S c.id).2
 else if c.d = 11 then trimV k
 else if c.d = 12 then (k,Tell.num k.seq)
 else (k,Tell.bad 1)
theorem trail_split (n : Int) : ∀ (t : List Change) (o : Option Int),trailFrom o t → ∃ a,t = a ++ t.filter (fun c => decide (n < c.seq)) ∧ ∀ x ∈ a,x.seq ≤ n
 | [],o,_ => ⟨[],rfl,by simp⟩
 | c :: r,o,h => by
  by_cases hc : n < c.seq
  ·refine ⟨[],?_,by simp⟩
   rw [List.nil_append,List.filter_eq_self.2]
   intro x hx
   rcases zI.1 hx with rfl | hx
   ·simpa using hc
   ·have := trailFrom_gt r c.seq h.2.2 x hx
    simp; omega
  ·obtain ⟨a,e,ha⟩ := trail_split n r _ h.2.2
   refine ⟨c :: a,?_,fun x hx => ?_⟩
   ·rw [List.filter_cons,if_neg (by simpa using hc),List.cons_append,← e]
   ·rcases zI.1 hx with rfl | hx
    ·omega
    ·exact ha x hx
theorem back_part {L : List Pair} {T : List Change} (h : trailOk T) (hb : (backGo L T).isSome = true) (n : Int) : ∃ a P Q,T = a ++ dropV T n ∧ backGo L (dropV T n) = some P ∧ backGo P a = some Q ∧ ∀ x ∈ a,x.seq ≤ n := by
 obtain ⟨a,e,ha⟩ := trail_split n T none h
 rw [← dropV_ok h n] at e
 have hb' := hb
 rw [e,backGo_app] at hb'
 cases hq : backGo L (dropV T n) with
 | none => rw [hq] at hb'; cases hb'
 | some P =>
  rw [hq,Option.bind_some] at hb'
  obtain ⟨Q,hQ⟩ := Option.isSome_iff_exists.1 hb'
  exact ⟨a,P,Q,e,rfl,hQ,ha⟩
theorem KSt.ok.at {k : KSt} (h : k.ok) {q : Int} (hq : k.floor ≤ q) : ∃ P,backGo k.L (dropV k.T q) = some P ∧ atV k.L k.T k.floor q = (P,0) ∧ pairsOk P := by
 obtain ⟨h1,h2,h3,h4,h5,h6,h7,h8,h9,h10,h11⟩ := h
 obtain ⟨a,P,Q,e,hP,_⟩ := back_part h2 h11 q
 refine ⟨P,hP,?_,backGo_ok h1 hP⟩
 unfold atV
 rw [if_pos ⟨h1,h2⟩,if_neg (by omega),hP]
theorem drop_none {T : List Change} (h : trailOk T) {q : Int} (hq : ∀ c ∈ T,c.seq ≤ q) : dropV T q = [] := by
 rw [dropV_ok h,List.filter_eq_nil_iff]
 intro c hc
 have := hq c hc
 simp; omega
theorem drop_all {T : List Change} (h : trailOk T) {q : Int} (hq : ∀ c ∈ T,q < c.seq) : dropV T q = T := by
 rw [dropV_ok h,List.filter_eq_self]
 intro c hc
 have := hq c hc
 simp; omega
theorem KSt.ok.now {k : KSt} (h : k.ok) {q : Int} (hq : k.seq ≤ q) : atV k.L k.T k.floor q = (k.L,0) := by
 obtain ⟨h1,h2,h3,h4,h5,h6,h7,h8,h9,h10,h11⟩ := h
 unfold atV
 rw [if_pos ⟨h1,h2⟩,if_neg (by omega),drop_none h2 (fun c hc => by have := (h9 c hc).2; omega)]
 rfl
theorem gap_right {s : Sub} (hs : s.ok) : ∀ (l : List Sub) (b : Nat),rightFrom (b : Int) l → rightFrom (b : Int) (l.take (gapAt b l - b) ++ [{ s with id := (gapAt b l : Int) + 1 }] ++ l.drop (gapAt b l - b))
 | [],b,_ => by
  simp only [List.take_nil,List.drop_nil,List.nil_append,List.append_nil,gapAt]
  exact ⟨hs,by show (b : Int) < (b : Int) + 1; omega,trivial⟩
 | x :: r,b,h => by
  unfold gapAt
  split
  ·rename_i hx
   have hg := gapAt_ge r (b + 1)
   have h2 : rightFrom ((b + 1 : Nat) : Int) r := by have := h.2.2; rw [hx] at this; exact this
   have ih := gap_right hs r (b + 1) h2
   obtain ⟨m,hm⟩ : ∃ m,gapAt (b + 1) r - b = m + 1 := ⟨gapAt (b + 1) r - b - 1,by omega⟩
   have hm2 : gapAt (b + 1) r - (b + 1) = m := by omega
   rw [hm2] at ih
   rw [hm,List.take_succ_cons,List.drop_succ_cons]
   refine ⟨h.1,h.2.1,?_⟩
   have e : x.id = ((b + 1 : Nat) : Int) := by rw [hx]; omega
   rw [e]
   exact ih
  ·rename_i hx
   rw [Nat.sub_self]
   have h1 := h.2.1
   exact ⟨hs,by show (b : Int) < (b : Int) + 1; omega,h.1,by show (b : Int) + 1 < x.id; omega,h.2.2⟩
theorem addV_ok {l : List Sub} {s : Sub} (hl : subsOk l) : subsOk (addV l s).1 ∧ ∀ x ∈ (addV l s).1,x ∈ l ∨ x.cur = s.cur := by
 unfold addV
 by_cases hs : s.ok
 ·rw [if_pos ⟨hl,hs⟩]
  split
  ·exact ⟨hl,fun x hx => .inl hx⟩
  ·rename_i hn
   have hg := gap_right hs l 0 hl.1
   rw [Nat.sub_zero] at hg
   have h4 := hl.2
   refine ⟨⟨hg,?_⟩,fun x hx => ?_⟩
   ·simp only [zJ,zU,List.length_drop,List.length_singleton]; omega
   ·rcases zO.1 hx with hx | hx
    ·rcases zO.1 hx with hx | hx
     ·exact .inl (List.mem_of_mem_take hx)
     ·right; rw [List.mem_singleton] at hx; rw [hx]
    ·exact .inl (List.mem_of_mem_drop hx)
 ·rw [if_neg (fun h => hs h.2)]
  exact ⟨hl,fun x hx => .inl hx⟩
theorem setV_ok {l : List Sub} {s : Sub} (hl : subsOk l) : subsOk (setV l s).1 ∧ ∀ x ∈ (setV l s).1,x ∈ l ∨ x = s := by
 by_cases hk : s.ok
 ·cases hf : findL l s.id with
  | none =>
   have hv : setV l s = (l,3) := by simp [setV,hl,hk,hf]
   rw [hv]; exact ⟨hl,fun x hx => .inl hx⟩
  | some x =>
   have hx := (rank_find l hl.1 x).2 hf
   have hv : setV l s = (l.set (rank s.id l) s,0) := by simp [setV,hl,hk,hf]
   have hr := rightFrom_set hk l 0 _ x hl.1 hx.1 hx.2
   rw [hv]
   refine ⟨⟨hr,by rw [List.length_set]; exact hl.2⟩,fun y hy => ?_⟩
   rcases List.mem_or_eq_of_mem_set hy with h | h
   ·exact .inl h
   ·exact .inr h
 ·have hv : setV l s = (l,1) := by simp [setV,hk]
  rw [hv]; exact ⟨hl,fun x hx => .inl hx⟩
theorem leaveV_ok {l : List Sub} {id : Int} (hl : subsOk l) : subsOk (leaveV l id).1 ∧ ∀ x ∈ (leaveV l id).1,x ∈ l := by
 unfold leaveV
 split
 ·refine ⟨⟨rightFrom_filter _ l 0 hl.1,?_⟩,fun x hx => (List.mem_filter.1 hx).1⟩
  have h1 := List.length_filter_le (fun s : Sub => !decide (s.id = id)) l
  have h2 := hl.2
  show (l.filter fun s : Sub => !decide (s.id = id)).length ≤ 4
  omega
 ·exact ⟨hl,fun x hx => hx⟩
theorem tookV_cur (s : Sub) (l : List Pair) (t : List Change) (floor n : Int) : (tookV s l t floor n).1.cur = s.cur ∧ (tookV s l t floor n).1.id = s.id ∧ (tookV s l t floor n).1.r = s.r := by
 unfold tookV
 split
 ·split
  ·split
   ·exact ⟨rfl,rfl,rfl⟩
   ·split
    ·exact ⟨rfl,rfl,rfl⟩
    ·split
     ·split <;> exact ⟨rfl,rfl,rfl⟩
     ·exact ⟨rfl,rfl,rfl⟩
  ·exact ⟨rfl,rfl,rfl⟩
 ·exact ⟨rfl,rfl,rfl⟩
theorem ackV_cur (s : Sub) (head seq : Int) : ((ackV s head seq).1 = s ∨ ((ackV s head seq).1 = { s with cur := seq } ∧ s.cur ≤ seq ∧ seq ≤ head)) := by
 unfold ackV
 split
 ·rename_i h
  split
  ·exact .inl rfl
  ·exact .inr ⟨rfl,h.2.2,by omega⟩
 ·exact .inl rfl
theorem find_mem {l : List Sub} {id : Int} {x : Sub} (h : findL l id = some x) : x ∈ l ∧ x.id = id := by
 unfold findL at h
 exact ⟨List.mem_of_find?_eq_some h,by simpa using List.find?_some h⟩
theorem KSt.ok.subs {k : KSt} (h : k.ok) {l : List Sub} (hl : subsOk l) (hc : ∀ x ∈ l,x ∈ k.S ∨ (k.floor ≤ x.cur ∧ x.cur ≤ k.seq)) : KSt.ok { k with S := l } := by
 obtain ⟨h1,h2,h3,h4,h5,h6,h7,h8,h9,h10,h11⟩ := h
 refine ⟨h1,h2,hl,h4,h5,h6,h7,h8,h9,fun x hx => ?_,h11⟩
 rcases hc x hx with h | h
 ·exact h10 x h
 ·exact h
theorem with_ok {k : KSt} (h : k.ok) {l : List Sub} {n e : Int} (hl : subsOk l) (hc : ∀ x ∈ l,x ∈ k.S ∨ (k.floor ≤ x.cur ∧ x.cur ≤ k.seq)) : (withV k l n e).1.ok := by
 unfold withV
 split
 ·exact h.subs hl hc
 ·exact h
theorem trail_app : ∀ (a : List Change) (o : Option Int) (b : Int) (t : List Change),trailFrom o a → (∀ x ∈ a,x.seq ≤ b) → trailFrom (some b) t → (∀ s,o = some s → s ≤ b) → trailFrom o (a ++ t)
 | [],o,b,t,_,_,ht,ho => trailFrom_weaken t (some b) o (fun s hs => ⟨b,rfl,ho s hs⟩) ht
 | c :: r,o,b,t,ha,hb,ht,ho => ⟨ha.1,ha.2.1,trail_app r (some c.seq) b t ha.2.2 (fun x hx => hb x (zH _ hx)) ht (fun s hs => by cases hs; exact hb c zG)⟩
structure Wrote (k : KSt) (ns : List Note) (t : List Change) (p : List Pair) : Prop where
 ok : pairsOk p
 back : backGo p t = some k.L
 does : doGo k.L t = some p
 seqs : ∀ x ∈ t,k.seq < x.seq ∧ x.seq ≤ k.seq + (t.length : Int)
 trail : trailOk (k.T ++ t)
 len : t.length ≤ 8
 top : k.seq + (t.length : Int) ≤ 2147483647
 app : appV k.L ns = p
theorem wrote {k : KSt} (h : k.ok) {ns : List Note} (hr : (runV k.L k.seq ns).2.2 = 0) : Wrote k ns (runV k.L k.seq ns).1 (runV k.L k.seq ns).2.1 := by
 obtain ⟨h1,h2,h3,h4,h5,h6,h7,h8,h9,h10,h11⟩ := h
 obtain ⟨f1,f2,f3,f4,f5,f6,f7,f8⟩ := runV_facts hr
 obtain ⟨g1,g2,g3,g4,g5,g6⟩ := runV_lead hr
 have hn := f1.1
 have hb := doGo_undo _ h1 g4
 have hseq : ∀ x ∈ (runV k.L k.seq ns).1,k.seq < x.seq ∧ x.seq ≤ k.seq + ((runV k.L k.seq ns).1.length : Int) := fun x hx => by
  obtain ⟨j,hj,rfl⟩ := List.getElem_of_mem hx
  have := g5 j _ (zA hj)
  omega
 exact ⟨g3,hb,g4,hseq,trail_app k.T none k.seq _ h2 (fun x hx => (h9 x hx).2) (consec_trail (base := 0) _ (some k.seq) k.seq (fun s hs => by cases hs; exact Int.le_refl _) (doGo_ok _ h1 g4).2 g5) (fun s hs => by cases hs),by omega,by omega,g6⟩
theorem write_ok {k : KSt} (h : k.ok) (c : Cmd) : (writeV k c).1.ok := by
 unfold writeV
 split
 ·rename_i hr
  have w := wrote h hr
  obtain ⟨h1,h2,h3,h4,h5,h6,h7,h8,h9,h10,h11⟩ := h
  split
  ·exact ⟨h1,h2,h3,h4,h5,h6,h7,h8,h9,h10,h11⟩
  ·rename_i hf
   have hlen : (k.T ++ (runV k.L k.seq c.ns).1).length = k.T.length + (runV k.L k.seq c.ns).1.length := zJ
   refine ⟨w.ok,w.trail,h3,by show (runV k.L k.seq c.ns).2.1.length ≤ 60; omega,by show (k.T ++ _).length ≤ 60; omega,h6,by show k.floor ≤ k.seq + _; omega,w.top,fun x hx => ?_,fun s hs => ?_,?_⟩
   ·rcases zO.1 hx with hx | hx
    ·have := h9 x hx
     exact ⟨this.1,by show x.seq ≤ k.seq + _; omega⟩
    ·have := w.seqs x hx
     exact ⟨by show k.floor < x.seq; omega,this.2⟩
   ·have := h10 s hs
    exact ⟨this.1,by show s.cur ≤ k.seq + _; omega⟩
   ·show (backGo _ (k.T ++ _)).isSome = true
    rw [backGo_app,w.back,Option.bind_some]
    exact h11
 ·exact h
theorem floor_in {k : KSt} (h : k.ok) : k.floor ≤ floorOf k.seq k.S ∧ floorOf k.seq k.S ≤ k.seq ∧ ∀ s ∈ k.S,floorOf k.seq k.S ≤ s.cur := by
 obtain ⟨h1,h2,h3,h4,h5,h6,h7,h8,h9,h10,h11⟩ := h
 refine ⟨?_,floorOf_le_head _ _,fun s hs => floorOf_le_cur _ _ s hs⟩
 obtain ⟨g1,g2⟩ := (floorOf_iff k.S k.seq (floorOf k.seq k.S)).1 rfl
 rcases g2 with g | ⟨s,hs,g⟩
 ·omega
 ·have := (h10 s hs).1
  omega
theorem trim_ok {k : KSt} (h : k.ok) : (trimV k).1.ok := by
 obtain ⟨f1,f2,f3⟩ := floor_in h
 obtain ⟨h1,h2,h3,h4,h5,h6,h7,h8,h9,h10,h11⟩ := h
 have hl := dropV_len k.T (floorOf k.seq k.S)
 obtain ⟨a,P,Q,e,hP,_⟩ := back_part h2 h11 (floorOf k.seq k.S)
 refine ⟨h1,dropV_trail h2 _,h3,h4,by show (dropV _ _).length ≤ 60; omega,by show 0 ≤ floorOf _ _; omega,f2,h8,fun x hx => ?_,fun s hs => ⟨f3 s hs,(h10 s hs).2⟩,?_⟩
 ·have hx' : x ∈ dropV k.T (floorOf k.seq k.S) := hx
  rw [dropV_ok h2] at hx'
  obtain ⟨g1,g2⟩ := List.mem_filter.1 hx'
  exact ⟨by show floorOf k.seq k.S < x.seq; simpa using g2,(h9 x g1).2⟩
 ·show (backGo k.L (dropV _ _)).isSome = true
  rw [hP]; rfl
theorem join_ok {k : KSt} (h : k.ok) {s : Sub} (hs : k.floor ≤ s.cur ∧ s.cur ≤ k.seq) : (joinV2 k s).1.ok := by
 obtain ⟨a1,a2⟩ := addV_ok (s := s) h.2.2.1
 exact with_ok h a1 fun x hx => by
  rcases a2 x hx with g | g
  ·exact .inl g
  ·right; rw [g]; exact hs
theorem goes_ok {k : KSt} (h : k.ok) (c : Cmd) : (goesV k c).1.ok := by
 unfold goesV
 split
 ·exact h
 ·rename_i x hx
  have hm := (find_mem hx).1
  have hc := h.2.2.2.2.2.2.2.2.2.1 x hm
  split
  ·obtain ⟨a1,a2⟩ := setV_ok (s := (tookV x k.L k.T k.floor c.n).1) h.2.2.1
   exact with_ok h a1 fun y hy => by
    rcases a2 y hy with g | g
    ·exact .inl g
    ·right; rw [g,(tookV_cur x k.L k.T k.floor c.n).1]; exact hc
  ·obtain ⟨a1,a2⟩ := setV_ok (s := (ackV x k.seq c.seq).1) h.2.2.1
   exact with_ok h a1 fun y hy => by
    rcases a2 y hy with g | g
    ·exact .inl g
    ·right
     rcases ackV_cur x k.seq c.seq with e | ⟨e,e1,e2⟩
     ·rw [g,e]; exact hc
     ·rw [g,e]; exact ⟨by show k.floor ≤ c.seq; omega,e2⟩
theorem doK_ok {k : KSt} (h : k.ok) (c : Cmd) : (doK k c).1.ok := by
 unfold doK
 have h7 := h.2.2.2.2.2.2.1
 split
 ·exact write_ok h c
 split
 ·exact h
 split
 ·exact h
 split
 ·exact h
 split
 ·exact join_ok h ⟨h7,Int.le_refl _⟩
 split
 ·split
  ·exact h
  ·split
   ·exact h
   ·exact join_ok h ⟨by show k.floor ≤ c.seq; omega,by show c.seq ≤ k.seq; omega⟩
 split
 ·exact h
 split
 ·exact goes_ok h c
 split
 ·obtain ⟨a1,a2⟩ := leaveV_ok (id := c.id) h.2.2.1
  exact with_ok h a1 fun x hx => .inl (a2 x hx)
 split
 ·exact trim_ok h
 split
 ·exact h
 ·exact h
theorem zero_ok : KSt.zero.ok := by
 refine ⟨trivial,trivial,⟨trivial,by decide⟩,by decide,by decide,by decide,by decide,by decide,fun c hc => ?_,fun s hs => ?_,rfl⟩
 ·cases hc
 ·cases hs
def bothV (a b : Note) : Note :=
  if b.kind = 1 ∨ b.kind = 2 then b
  else if b.kind = 3 then
    (if a.kind = 1 then ⟨1,b.key,(doneOne (a.value,true) b).1,0⟩
     else if a.kind = 2 then ⟨1,b.key,(doneOne ([],false) b).1,0⟩
     else if a.kind = 3 then { b with n := IntKind.u64.wrap (b.n + a.n) } else b)
  else { a with key := b.key }
theorem doneV_one_t (v : List UInt8) (b : Note) : doneV v true [b] = doneOne (v,true) b := rfl
theorem doneV_one_f (v : List UInt8) (b : Note) : doneV v false [b] = doneOne ([],false) b := rfl
set_option maxRecDepth 4000 in
set_option maxHeartbeats 8000000 in
theorem note_Both (a b : Note) : Ct pG 176 (Zv.ops [a.pv,b.pv]) (.vals [(bothV a b).pv]) := by
 have h12 : ¬ (1 : Int) = 2 := by decide
 have h13 : ¬ (1 : Int) = 3 := by decide
 have h21 : ¬ (2 : Int) = 1 := by decide
 have h23 : ¬ (2 : Int) = 3 := by decide
 have h31 : ¬ (3 : Int) = 1 := by decide
 have h32 : ¬ (3 : Int) = 2 := by decide
 refine Ct.of_V Tryz.func176 rfl (by simp [Zv.ops,Tryz.f176]) ?_
 refine V.exec 400 ?_
 by_cases b1 : b.kind = 1
 ·have e : bothV a b = b := by simp [bothV,b1]
  rw [e]
  simp +contextual (maxSteps:=9^7) only [go_sem,Tryz.f176,Note.pv,b1,h12,h13]
 ·by_cases b2 : b.kind = 2
  ·have e : bothV a b = b := by simp [bothV,b2]
   rw [e]
   simp +contextual (maxSteps:=9^7) only [go_sem,Tryz.f176,Note.pv,b2,h21,h23]
  ·by_cases b3 : b.kind = 3
   ·by_cases a1 : a.kind = 1
    ·have e : bothV a b = ⟨1,b.key,(doneOne (a.value,true) b).1,0⟩ := by simp [bothV,b3,a1]
     have c := note_Done a.value true [b] (by simp)
     rw [doneV_one_t] at c
     rw [e]
     simp +contextual (maxSteps:=9^7) only [go_sem,Tryz.f176,Note.pv,b3,h31,h32,a1,h12]
     refine V.call rfl rfl (by simp [dOK]) ⟨117,[],by simp only [go_sem],⟨_,rfl,rfl,rfl⟩,.inl ⟨[.str a.value,.bool (decide (true = true)),.row ([b].map Note.pv)],_,.inl (by simp only [go_sem,Note.pv,zC,zB,decide_true,b3]),c,.inr (.inl ⟨_,rfl,rfl,rfl⟩)⟩⟩ ?_
     refine V.exec 400 ?_
     simp +contextual (maxSteps:=9^7) only [go_sem]
    ·by_cases a2 : a.kind = 2
     ·have e : bothV a b = ⟨1,b.key,(doneOne ([],false) b).1,0⟩ := by simp [bothV,b3,a2]
      have c := note_Done a.value false [b] (by simp)
      rw [doneV_one_f] at c
      rw [e]
      simp +contextual (maxSteps:=9^7) only [go_sem,Tryz.f176,Note.pv,b3,h31,h32,a2,h21]
      refine V.call rfl rfl (by simp [dOK]) ⟨117,[],by simp only [go_sem],⟨_,rfl,rfl,rfl⟩,.inl ⟨[.str a.value,.bool (decide (false = true)),.row ([b].map Note.pv)],_,.inl (by simp only [go_sem,Note.pv,zC,zB,decide_false,b3]),c,.inr (.inl ⟨_,rfl,rfl,rfl⟩)⟩⟩ ?_
      refine V.exec 400 ?_
      simp +contextual (maxSteps:=9^7) only [go_sem]
     ·by_cases a3 : a.kind = 3
      ·have e : bothV a b = { b with n := IntKind.u64.wrap (b.n + a.n) } := by simp [bothV,b3,a3]
       rw [e]
       simp +contextual (maxSteps:=9^7) only [go_sem,Tryz.f176,Note.pv,b3,h31,h32,a3]
      ·have e : bothV a b = b := by simp [bothV,b3,a1,a2,a3]
       rw [e]
       simp +contextual (maxSteps:=9^7) only [go_sem,Tryz.f176,Note.pv,b3,h31,h32,a1,a2,a3]
   ·have e : bothV a b = { a with key := b.key } := by simp [bothV,b1,b2,b3]
    rw [e]
    simp +contextual (maxSteps:=9^7) only [go_sem,Tryz.f176,Note.pv,b1,b2,b3]
section
variable {α : Type} (key : α → List UInt8)
def gSorted (l : List α) : Prop := l.Pairwise fun a b => slt (key a) (key b)
def gBelow (k : List UInt8) : List α → Nat
 | [] => 0
 | p :: r => if slt (key p) k then gBelow k r + 1 else 0
def gGet (l : List α) (k : List UInt8) : Option α := l.find? fun p => decide (key p = k)
def gLow (l : List α) (k : List UInt8) : List α := l.filter fun p => decide (slt (key p) k)
def gHigh (l : List α) (k : List UInt8) : List α := l.filter fun p => decide (slt k (key p))
theorem gBelow_le (k : List UInt8) : ∀ l : List α,gBelow key k l ≤ l.length
 | [] => zR _
 | p :: r => by unfold gBelow; split <;> simp; exact gBelow_le k r
theorem gBelow_lt {k : List UInt8} : ∀ (l : List α) (i : Nat) (x : α),i < gBelow key k l → l[i]? = some x → slt (key x) k
 | p :: r,i,x,hi,hx => by
  unfold gBelow at hi
  split at hi
  ·cases i with
   | zero => simp at hx; subst hx; assumption
   | succ i => exact gBelow_lt r i x (by omega) (by simpa using hx)
  ·omega
theorem gBelow_ge {k : List UInt8} : ∀ (l : List α),gSorted key l → ∀ (i : Nat) (x : α),gBelow key k l ≤ i → l[i]? = some x → ¬ slt (key x) k
 | p :: r,h,i,x,hi,hx => by
  cases h with
  | cons h1 h2 =>
   unfold gBelow at hi
   split at hi
   ·cases i with
    | zero => omega
    | succ i => exact gBelow_ge r h2 i x (by omega) (by simpa using hx)
   ·rename_i hn
    cases i with
    | zero => simp at hx; subst hx; exact hn
    | succ i =>
     have h3 := h1 x (zE (i := i) (by simpa using hx))
     exact fun hc => hn (slt_trans h3 hc)
theorem gGet_mem {l : List α} {k : List UInt8} {p : α} (h : gGet key l k = some p) : p ∈ l ∧ key p = k := by
 unfold gGet at h
 exact ⟨List.mem_of_find?_eq_some h,by simpa using List.find?_some h⟩
theorem gGet_of_mem {l : List α} (hs : gSorted key l) {p : α} (h : p ∈ l) : gGet key l (key p) = some p := by
 unfold gGet
 induction l with
 | nil => cases h
 | cons q r ih =>
  cases hs with
  | cons h1 h2 =>
   rw [List.find?_cons]
   rcases zI.1 h with rfl | h
   ·simp
   ·have := h1 p h
    have hne : ¬ key q = key p := fun e => slt_irrefl (key p) (by rw [e] at this; exact this)
    simp [hne,ih h2 h]
theorem gGet_iff {l : List α} (hs : gSorted key l) {k : List UInt8} {p : α} : gGet key l k = some p ↔ p ∈ l ∧ key p = k :=
 ⟨gGet_mem key,fun ⟨h,e⟩ => by rw [← e]; exact gGet_of_mem key hs h⟩
theorem gBelow_find {k : List UInt8} : ∀ (l : List α),gSorted key l → ∀ x,(l[gBelow key k l]? = some x ∧ key x = k) ↔ gGet key l k = some x
 | [],_,x => by simp [gBelow,gGet]
 | p :: r,h,x => by
  cases h with
  | cons h1 h2 =>
   unfold gBelow gGet
   by_cases hk : slt (key p) k
   ·have hne : ¬ key p = k := fun e => slt_irrefl k (by rw [e] at hk; exact hk)
    rw [if_pos hk,List.find?_cons,decide_eq_false hne]
    simpa [gGet] using gBelow_find r h2 x
   ·rw [if_neg hk,List.find?_cons]
    by_cases he : key p = k
    ·simp [he]
     rintro rfl; exact he
    ·have hr : r.find? (fun p => decide (key p = k)) = none := by
      rw [List.find?_eq_none]
      intro y hy
      have h3 := h1 y hy
      simp
      rintro rfl
      exact hk h3
     simp [he,hr]
     rintro rfl; exact he
theorem gLow_eq {k : List UInt8} : ∀ (l : List α),gSorted key l → gLow key l k = l.take (gBelow key k l)
 | [],_ => rfl
 | p :: r,hs => by
  cases hs with
  | cons h1 h2 =>
   unfold gLow gBelow
   by_cases hk : slt (key p) k
   ·rw [if_pos hk,List.filter_cons,if_pos (by simpa using hk),List.take_succ_cons,← gLow_eq r h2]; rfl
   ·rw [if_neg hk,List.take_zero,List.filter_eq_nil_iff]
    intro y hy
    rcases zI.1 hy with rfl | hy
    ·simpa using hk
    ·have := h1 y hy
     simp
     exact fun hc => hk (slt_trans this hc)
theorem gHigh_eq {k : List UInt8} : ∀ (l : List α),gSorted key l → gHigh key l k = (match gGet key l k with | some _ => l.drop (gBelow key k l + 1) | none => l.drop (gBelow key k l))
 | [],_ => rfl
 | p :: r,hs => by
  cases hs with
  | cons h1 h2 =>
   have ih := gHigh_eq (k := k) r h2
   unfold gHigh gGet at ih
   unfold gHigh gGet gBelow
   by_cases hk : slt (key p) k
   ·have hne : ¬ key p = k := fun e => slt_irrefl k (by rw [e] at hk; exact hk)
    rw [if_pos hk,List.filter_cons,if_neg (by simpa using slt_asymm hk),List.find?_cons,decide_eq_false hne,ih]
    cases r.find? (fun p => decide (key p = k)) <;> simp
   ·by_cases he : key p = k
    ·subst he
     rw [if_neg hk,List.filter_cons,if_neg (by simpa using hk),List.find?_cons]
     simp
     intro y hy
     exact h1 y hy
    ·have hgt : slt k (key p) := by
      rcases slt_total (key p) k with h | h | h
      ·exact absurd h hk
      ·exact absurd h he
      ·exact h
     have hnone : (p :: r).find? (fun p => decide (key p = k)) = none := by
      rw [List.find?_eq_none]
      intro y hy
      rcases zI.1 hy with rfl | hy
      ·simpa using he
      ·have := h1 y hy
       simp
       rintro rfl
       exact slt_irrefl _ (slt_trans hgt this)
     rw [hnone,if_neg hk]
     simp only [List.drop_zero]
     rw [List.filter_eq_self]
     intro y hy
     rcases zI.1 hy with rfl | hy
     ·simpa using hgt
     ·simpa using slt_trans hgt (h1 y hy)
def gPut (l : List α) (y : α) : List α := gLow key l (key y) ++ [y] ++ gHigh key l (key y)
theorem gPut_sorted {l : List α} (hs : gSorted key l) (y : α) : gSorted key (gPut key l y) := by
 unfold gPut gSorted
 have hl : ∀ a ∈ gLow key l (key y),slt (key a) (key y) := fun a ha => by simpa using (List.mem_filter.1 ha).2
 have hh : ∀ a ∈ gHigh key l (key y),slt (key y) (key a) := fun a ha => by simpa using (List.mem_filter.1 ha).2
 rw [List.pairwise_append,List.pairwise_append]
 refine ⟨⟨hs.filter _,List.pairwise_singleton _ _,fun a ha b hb => ?_⟩,hs.filter _,fun a ha b hb => ?_⟩
 ·simp at hb; subst hb; exact hl a ha
 ·rcases zO.1 ha with ha | ha
  ·exact slt_trans (hl a ha) (hh b hb)
  ·simp at ha; subst ha; exact hh b hb
theorem gPut_get {l : List α} (hs : gSorted key l) (y : α) (k : List UInt8) : gGet key (gPut key l y) k = if k = key y then some y else gGet key l k := by
 have ho := gPut_sorted key hs y
 apply Option.ext
 intro v
 rw [gGet_iff key ho]
 unfold gPut gLow gHigh
 rw [zO,zO,List.mem_filter,List.mem_filter]
 simp only [decide_eq_true_eq,List.mem_singleton]
 by_cases hk : k = key y
 ·subst hk
  rw [if_pos rfl]
  have := slt_irrefl (key y)
  constructor
  ·rintro ⟨(h | h) | h,e⟩
   ·exact absurd h.2 (by rw [e]; exact this)
   ·rw [h]
   ·exact absurd h.2 (by rw [e]; exact this)
  ·intro h
   cases h
   exact ⟨.inl (.inr rfl),rfl⟩
 ·rw [if_neg hk,gGet_iff key hs]
  constructor
  ·rintro ⟨(h | h) | h,e⟩
   ·exact ⟨h.1,e⟩
   ·exact absurd (by rw [← e,h]) hk
   ·exact ⟨h.1,e⟩
  ·rintro ⟨h,e⟩
   refine ⟨?_,e⟩
   rcases slt_total (key v) (key y) with c | c | c
   ·exact .inl (.inl ⟨h,c⟩)
   ·exact absurd (by rw [← e]; exact c) hk
   ·exact .inr ⟨h,c⟩
theorem gPut_some {l : List α} (hs : gSorted key l) {y p : α} (h : gGet key l (key y) = some p) : gPut key l y = l.set (gBelow key (key y) l) y := by
 have h1 := gLow_eq key (k := key y) l hs
 have h2 := gHigh_eq key (k := key y) l hs
 rw [h] at h2
 have hb := (gBelow_find key l hs p).2 h
 have hlt := (zQ.1 hb.1).1
 unfold gPut
 rw [h1,h2,List.set_eq_take_append_cons_drop,if_pos hlt]
 simp
theorem gPut_none {l : List α} (hs : gSorted key l) {y : α} (h : gGet key l (key y) = none) : gPut key l y = l.take (gBelow key (key y) l) ++ [y] ++ l.drop (gBelow key (key y) l) := by
 have h1 := gLow_eq key (k := key y) l hs
 have h2 := gHigh_eq key (k := key y) l hs
 rw [h] at h2
 unfold gPut
 rw [h1,h2]
theorem gPut_len {l : List α} (hs : gSorted key l) (y : α) : (gPut key l y).length ≤ l.length + 1 := by
 cases h : gGet key l (key y) with
 | some p => rw [gPut_some key hs h]; simp
 | none => rw [gPut_none key hs h]; simp; omega
end
def noteFrom : Option (List UInt8) → List Note → Prop
 | _,[] => True
 | last,p :: r => p.ok ∧ (∀ k,last = some k → slt k p.key) ∧ noteFrom (some p.key) r
def waitOk (l : List Note) : Prop := noteFrom none l
instance instNF : ∀ (last : Option (List UInt8)) (l : List Note),Decidable (noteFrom last l)
 | _,[] => isTrue trivial
 | none,s :: r => by
  unfold noteFrom
  have := instNF (some s.key) r
  have : Decidable (∀ k,none = some k → slt k s.key) := isTrue (fun k h => by cases h)
  infer_instance
 | some k,s :: r => by
  unfold noteFrom
  have := instNF (some s.key) r
  have : Decidable (∀ k',some k = some k' → slt k' s.key) := decidable_of_iff (slt k s.key) ⟨fun h k' e => by cases e; exact h,fun h => h k rfl⟩
  infer_instance
instance instWaitOk (l : List Note) : Decidable (waitOk l) := by unfold waitOk; infer_instance
def prevNote (l : List Note) (i : Nat) : Option (List UInt8) := if i = 0 then none else (l[i - 1]?).map Note.key
theorem noteFrom_iff : ∀ (l : List Note) (last : Option (List UInt8)),noteFrom last l ↔ (∀ k,last = some k → ∀ x ∈ l,slt k x.key) ∧ gSorted Note.key l ∧ ∀ x ∈ l,x.ok
 | [],last => by simp [noteFrom,gSorted]
 | p :: r,last => by
  rw [noteFrom,noteFrom_iff r]
  unfold gSorted
  rw [List.pairwise_cons]
  constructor
  ·rintro ⟨h1,h2,h3,h4,h5⟩
   refine ⟨fun k hk x hx => ?_,⟨fun x hx => h3 _ rfl x hx,h4⟩,fun x hx => ?_⟩
   ·rcases zI.1 hx with rfl | hx
    ·exact h2 k hk
    ·exact slt_trans (h2 k hk) (h3 _ rfl x hx)
   ·rcases zI.1 hx with rfl | hx
    ·exact h1
    ·exact h5 x hx
  ·rintro ⟨h1,⟨h2,h3⟩,h4⟩
   exact ⟨h4 p zG,fun k hk => h1 k hk p zG,fun k hk x hx => by cases hk; exact h2 x hx,h3,fun x hx => h4 x (zH _ hx)⟩
theorem waitOk_iff (l : List Note) : waitOk l ↔ gSorted Note.key l ∧ ∀ x ∈ l,x.ok := by
 unfold waitOk
 rw [noteFrom_iff]
 simp
set_option maxRecDepth 4000 in
set_option maxHeartbeats 8000000 in
theorem pend_Right (l : List Note) (hl : l.length ≤ 1000000) : Ct pG 161 (Zv.ops [.row (l.map Note.pv)]) (.vals [.bool (decide (waitOk l))]) := by
  refine Ct.of_V Tryz.func161 rfl (by simp [Zv.ops,Tryz.f161]) ?_
  refine V.exec 400 ?_
  simp +contextual (maxSteps:=9^7) only [go_sem,Tryz.f161]
  refine V.loop (fun m ls os => ∃ (i : Nat),i ≤ l.length ∧ m = l.length - i ∧ (waitOk l ↔ noteFrom (prevNote l i) (l.drop i)) ∧
        ls = [(0,.val (.row (l.map Note.pv))),(5,.val (.row (l.map Note.pv))),(6,.val (.int .i64 l.length)),(7,.val (.int .i64 i))] ∧ os = []) 0 l.length
      [(0,.val (.row (l.map Note.pv))),(5,.val (.row (l.map Note.pv))),(6,.val (.int .i64 l.length)),(7,.val (.int .i64 0))] [] []
      ⟨0,zF _,rfl,Iff.rfl,rfl,rfl⟩ (by simp only [go_sem]) ?_
  rintro m ls os ⟨i,hi,rfl,hiff,rfl,rfl⟩
  refine V.exec 400 ?_
  by_cases hlt : i < l.length
  · have hlt' : (i : Int) < (l.length : Int) := by omega
    obtain ⟨x,hx⟩ : ∃ x,l[i]? = some x := ⟨_,zA hlt⟩
    have hw : IntKind.i64.wrap ((i : Int) + 1) = ((i + 1 : Nat) : Int) := by rw [wrap_small3] <;> omega
    rw [drop_of_get hx,noteFrom] at hiff
    have hpk : prevNote l (i + 1) = some x.key := by simp [prevNote,hx]
    have fin : x.ok → (∀ k,prevNote l i = some k → slt k x.key) → (waitOk l ↔ noteFrom (prevNote l (i + 1)) (l.drop (i + 1))) := fun a b => by
      rw [hiff,hpk]; exact ⟨fun h => h.2.2,fun h => ⟨a,b,h⟩⟩
    have hfalse : ¬ waitOk l → some [PV.bool false] = some [PV.bool (decide (waitOk l))] := fun h => by simp [h]
    simp +contextual (maxSteps:=9^7) only [go_sem,hlt',hx,Note.pv]
    refine DV.call [] [] (by simp only [go_sem,Note.pv]) (by simp [dOK]) ⟨108,[],by simp only [go_sem,Note.pv],⟨_,rfl,rfl,rfl⟩,.inl ⟨[x.pv],_,.inl (by simp only [go_sem,Note.pv]),note_Right x,.inl ⟨_,rfl,rfl,rfl,rfl⟩⟩⟩ (by simp only [go_sem,Note.pv]) (by simp only [go_sem,Note.pv]) (by simp only [go_sem,Note.pv]) (by simp) ?_
    refine DV.exec 400 ?_
    by_cases hok : x.ok
    · rcases Nat.eq_zero_or_pos i with rfl | hpos
      · have hz : ¬ (0 : Int) < ((0 : Nat) : Int) := by omega
        simp +contextual (maxSteps:=9^7) only [go_sem,hlt',hx,Note.pv,hw,hz,hok]
        (repeat' (first | (intro _) | (refine ⟨by kernel_rfl,?_⟩) | (apply And.intro)))
        exact ⟨l.length - (0 + 1),_,[],[],by omega,⟨1,by omega,rfl,fin hok (fun k h => by simp [prevNote] at h),rfl,rfl⟩,by simp only [go_sem]⟩
      · obtain ⟨j,rfl⟩ : ∃ j,i = j + 1 := ⟨i - 1,by omega⟩
        have hw2 : IntKind.i64.wrap (((j + 1 : Nat) : Int) - 1) = (j : Int) := by rw [wrap_small3] <;> omega
        have hjp : (0 : Int) < ((j + 1 : Nat) : Int) := by omega
        obtain ⟨y,hy⟩ : ∃ y,l[j]? = some y := ⟨_,zA (by omega)⟩
        simp +contextual (maxSteps:=9^7) only [go_sem,hlt',hx,Note.pv,hw,hw2,hjp,hy,hok]
        (repeat' (first | (intro _) | (refine ⟨by kernel_rfl,?_⟩) | (apply And.intro)))
        all_goals first
          | exact ⟨l.length - (j + 1 + 1),_,[],[],by omega,⟨j + 1 + 1,by omega,rfl,fin hok (fun k h => by simp [prevNote,hy] at h; rw [← h]; assumption),rfl,rfl⟩,by simp only [go_sem]⟩
          | (refine hfalse fun h => ?_
             have := (hiff.1 h).2.1 y.key (by simp [prevNote,hy])
             contradiction)
    · simp +contextual (maxSteps:=9^7) only [go_sem,hlt',hx,Note.pv,hw,hok]
      (repeat' (first | (intro _) | (refine ⟨by kernel_rfl,?_⟩) | (apply And.intro)))
      all_goals exact hfalse fun h => hok (hiff.1 h).1
  · have hlt' : ¬ (i : Int) < (l.length : Int) := by omega
    have hd : l.drop i = [] := zK (by omega)
    rw [hd,noteFrom] at hiff
    simp +contextual (maxSteps:=9^7) only [go_sem,hlt']
    simp [hiff]
theorem pend_place1 (p : Note) (k : List UInt8) : Ct pG 187 (Zv.ops [p.pv,.str k]) (.vals [.int .i64 (cmpStr p.key k)]) := by
 refine Ct.of_V Tryz.func187 rfl (by simp [Zv.ops,Tryz.f187]) ?_
 refine V.exec 400 ?_
 simp +contextual (maxSteps:=9^7) only [go_sem,Tryz.f187,Note.pv]
 refine V.call rfl rfl (by simp [dOK]) ⟨153,[],by simp only [go_sem],⟨_,rfl,rfl,rfl⟩,.inl ⟨[.str p.key,.str k],_,.inl (by simp only [go_sem]),Compare_str p.key k,.inl ⟨_,rfl,rfl,rfl,rfl⟩⟩⟩ ?_
 refine V.exec 400 ?_
 simp +contextual (maxSteps:=9^7) only [go_sem]
def kOfN (k : List UInt8) : PV → Int
 | .agg (_ :: .str a :: _) => cmpStr a k
 | _ => 0
def posN (l : List Note) (k : List UInt8) : Nat := bsI (cAt (kOfN k) (l.map Note.pv)) 0 l.length
set_option maxHeartbeats 2000000 in
theorem pend_place (l : List Note) (k : List UInt8) (hl : l.length ≤ 1000000) :
  Ct pG 160 (Zv.ops [.row (l.map Note.pv),.str k]) (.vals [.int .i64 (posN l k),.bool (decide (∃ x,l[posN l k]? = some x ∧ x.key = k))]) := by
 have hb := BSearchNote_any (l.map Note.pv) (.str k) 187 [] (kOfN k) (fun x hx => by
   obtain ⟨s,_,rfl⟩ := zN.1 hx
   exact ⟨rfl,rfl⟩) (by simpa using hl) ⟨_,rfl,rfl,rfl⟩ (fun x hx => by
   obtain ⟨s,_,rfl⟩ := zN.1 hx
   exact pend_place1 s k)
 have e0 : bsI (cAt (kOfN k) (l.map Note.pv)) 0 (l.map Note.pv).length = posN l k := by rw [zW]; rfl
 rw [e0] at hb
 have e1 : (∃ x,(l.map Note.pv)[posN l k]? = some x ∧ kOfN k x = 0) ↔ ∃ x,l[posN l k]? = some x ∧ x.key = k := by
  constructor
  ·rintro ⟨x,hx,hc⟩
   rw [zS,Option.map_eq_some_iff] at hx
   obtain ⟨s,hs',rfl⟩ := hx
   exact ⟨s,hs',cmpStr_zero.1 hc⟩
  ·rintro ⟨s,hs',hc⟩
   exact ⟨s.pv,by rw [zS,hs']; rfl,cmpStr_zero.2 hc⟩
 simp only [e1] at hb
 refine Ct.of_V Tryz.func160 rfl (by simp [Zv.ops,Tryz.f160]) ?_
 refine V.exec 400 ?_
 simp +contextual (maxSteps:=9^7) only [go_sem,Tryz.f160]
 refine V.call rfl rfl (by simp [dOK]) ⟨186,[],by simp only [go_sem],⟨_,rfl,rfl,rfl⟩,.inl ⟨[.row (l.map Note.pv),.str k,.fn 187 []],_,.inl (by simp only [go_sem]),hb,.inl ⟨_,rfl,rfl,rfl,rfl⟩⟩⟩ ?_
 refine V.exec 400 ?_
 simp +contextual (maxSteps:=9^7) only [go_sem]
theorem posN_eq {l : List Note} (h : gSorted Note.key l) (k : List UInt8) : posN l k = gBelow Note.key k l := by
 refine bsI_eq _ _ _ _ (zF _) (gBelow_le Note.key k l) (fun m _ hm => ?_) (fun m hm hm2 => ?_)
 ·obtain ⟨x,hx⟩ : ∃ x,l[m]? = some x := ⟨_,zA (by have := gBelow_le Note.key k l; omega)⟩
  have := gBelow_lt Note.key l m x hm hx
  simp only [cAt,zS,hx,Option.map_some]
  exact cmpStr_neg.2 this
 ·obtain ⟨x,hx⟩ : ∃ x,l[m]? = some x := ⟨_,zA hm2⟩
  have := gBelow_ge Note.key l h m x hm hx
  simp only [cAt,zS,hx,Option.map_some]
  exact fun hc => this (cmpStr_neg.1 hc)
def Note.zero : Note := ⟨0,[],[],0⟩
def findN (l : List Note) (k : List UInt8) : Note × Bool := if waitOk l then match gGet Note.key l k with | some p => (p,true) | none => (Note.zero,false) else (Note.zero,false)
set_option maxHeartbeats 2000000 in
theorem pend_Find (l : List Note) (k : List UInt8) (hl : l.length ≤ 1000000) : Ct pG 127 (Zv.ops [.row (l.map Note.pv),.str k]) (.vals [(findN l k).1.pv,.bool (decide ((findN l k).2 = true))]) := by
 refine Ct.of_V Tryz.func127 rfl (by simp [Zv.ops,Tryz.f127]) ?_
 refine V.exec 400 ?_
 simp +contextual (maxSteps:=9^7) only [go_sem,Tryz.f127]
 refine V.call rfl rfl (by simp [dOK]) ⟨160,[],by simp only [go_sem],⟨_,rfl,rfl,rfl⟩,.inl ⟨[.row (l.map Note.pv),.str k],_,.inl (by simp only [go_sem]),pend_place l k hl,.inl ⟨_,rfl,rfl,rfl,rfl⟩⟩⟩ ?_
 refine V.exec 400 ?_
 by_cases he : ∃ x,l[posN l k]? = some x ∧ x.key = k
 ·obtain ⟨x,hx⟩ := he
  have he : (∃ x,l[posN l k]? = some x ∧ x.key = k) := ⟨x,hx⟩
  have hlt := (zQ.1 hx.1).1
  have hlt' : ((posN l k : Nat) : Int) < (l.length : Int) := by omega
  have hE : (∃ y,some x = some y ∧ y.key = k) := ⟨x,rfl,hx.2⟩
  simp +contextual (maxSteps:=9^7) only [go_sem,hx.1,hE]
  refine V.call rfl rfl (by simp [dOK]) ⟨161,[],by simp only [go_sem],⟨_,rfl,rfl,rfl⟩,.inl ⟨[.row (l.map Note.pv)],_,.inl (by simp only [go_sem]),pend_Right l hl,.inl ⟨_,rfl,rfl,rfl,rfl⟩⟩⟩ ?_
  refine V.exec 400 ?_
  by_cases hok : waitOk l
  ·have hr := ((waitOk_iff l).1 hok).1
   have hp := posN_eq hr k
   have hg := (gBelow_find Note.key l hr x).1 (by rw [← hp]; exact hx)
   have hv : findN l k = (x,true) := by simp [findN,hok,hg]
   simp +contextual (maxSteps:=9^7) only [go_sem,hok,hx.1,hlt',hv,Note.pv]
  ·have hv : findN l k = (Note.zero,false) := by simp [findN,hok]
   simp +contextual (maxSteps:=9^7) only [go_sem,hok,hv,Note.zero,Note.pv]
 ·have hv : findN l k = (Note.zero,false) := by
   unfold findN
   split
   ·rename_i hok
    have hr := ((waitOk_iff l).1 hok).1
    have hp := posN_eq hr k
    cases hg : gGet Note.key l k with
    | none => rfl
    | some x => exact absurd ⟨x,by rw [hp]; exact (gBelow_find Note.key l hr x).2 hg⟩ he
   ·rfl
  simp +contextual (maxSteps:=9^7) only [go_sem,he,hv,Note.zero,Note.pv]
theorem bothV_key (a b : Note) : (bothV a b).key = b.key := by
 unfold bothV
 split
 ·rfl
 ·split
  ·split
   ·rfl
   ·split
    ·rfl
    ·split <;> rfl
  ·rfl
theorem beB_short (n : Int) : (beB n 8).length ≤ 32 := by rw [beB_len]; decide
theorem doneOne_short (st : List UInt8 × Bool) {x : Note} (hx : x.ok) : (doneOne st x).1.length ≤ 32 := by
 unfold doneOne
 have := hx.2.1
 rcases hx.2.2 with h | h | h <;> simp [h.1]
 ·exact this
 ·exact beB_short _
theorem bothV_ok {a b : Note} (ha : a.ok) (hb : b.ok) : (bothV a b).ok := by
 unfold bothV
 split
 ·exact hb
 ·split
  ·rename_i h3
   split
   ·exact ⟨hb.1,doneOne_short _ hb,.inl ⟨rfl,rfl⟩⟩
   ·split
    ·exact ⟨hb.1,doneOne_short _ hb,.inl ⟨rfl,rfl⟩⟩
    ·split
     ·refine ⟨hb.1,hb.2.1,.inr (.inr ⟨h3,?_⟩)⟩
      rcases hb.2.2 with h | h | h
      ·rw [h3] at h; exact absurd h.1 (by decide)
      ·rw [h3] at h; exact absurd h.1 (by decide)
      ·exact h.2
     ·exact hb
  ·rename_i h1 h3
   rcases hb.2.2 with h | h | h
   ·exact absurd (.inl h.1) h1
   ·exact absurd (.inr h.1) h1
   ·exact absurd h.1 h3
def mergeV (l : List Note) (x : Note) : Note := match gGet Note.key l x.key with
 | some o => bothV o x
 | none => x
theorem mergeV_key (l : List Note) (x : Note) : (mergeV l x).key = x.key := by
 unfold mergeV
 split
 ·exact bothV_key _ _
 ·rfl
def pushOne (l : List Note) (x : Note) : List Note := gPut Note.key l (mergeV l x)
def pushV (l : List Note) (ns : List Note) : List Note := ns.foldl pushOne l
theorem pushOne_sorted {l : List Note} (hs : gSorted Note.key l) (x : Note) : gSorted Note.key (pushOne l x) := gPut_sorted Note.key hs _
theorem pushOne_len {l : List Note} (hs : gSorted Note.key l) (x : Note) : (pushOne l x).length ≤ l.length + 1 := gPut_len Note.key hs _
theorem pushOne_get {l : List Note} (hs : gSorted Note.key l) (x : Note) (k : List UInt8) :
  gGet Note.key (pushOne l x) k = if k = x.key then some (match gGet Note.key l k with | some o => bothV o x | none => x) else gGet Note.key l k := by
 unfold pushOne
 rw [gPut_get Note.key hs,mergeV_key]
 by_cases h : k = x.key
 ·subst h; rfl
 ·rw [if_neg h,if_neg h]
theorem pushOne_ok {l : List Note} (h : waitOk l) {x : Note} (hx : x.ok) : waitOk (pushOne l x) := by
 rw [waitOk_iff] at *
 refine ⟨pushOne_sorted h.1 x,fun y hy => ?_⟩
 unfold pushOne gPut at hy
 rw [zO,zO] at hy
 rcases hy with (hy | hy) | hy
 ·exact h.2 y (List.mem_filter.1 hy).1
 ·simp at hy
  subst hy
  unfold mergeV
  split
  ·rename_i o ho
   exact bothV_ok (h.2 o (gGet_mem Note.key ho).1) hx
  ·exact hx
 ·exact h.2 y (List.mem_filter.1 hy).1
theorem pushV_ok : ∀ (ns : List Note) {l : List Note},waitOk l → (∀ x ∈ ns,x.ok) → waitOk (pushV l ns)
 | [],_,h,_ => h
 | x :: r,_,h,hn => pushV_ok r (pushOne_ok h (hn x zG)) fun y hy => hn y (zH _ hy)
theorem pushV_len : ∀ (ns : List Note) {l : List Note},gSorted Note.key l → (pushV l ns).length ≤ l.length + ns.length
 | [],_,_ => zR _
 | x :: r,l,h => by
  have h1 := pushV_len r (pushOne_sorted h x)
  have h2 := pushOne_len h x
  show (pushV (pushOne l x) r).length ≤ _
  simp only [zT]
  omega
def allOk (ns : List Note) : Prop := ∀ x ∈ ns,x.ok
instance instAllOk (ns : List Note) : Decidable (allOk ns) := by unfold allOk; infer_instance
def pushR (l : List Note) (ns : List Note) : List Note × Int := if waitOk l ∧ allOk ns then (pushV l ns,0) else (l,1)
theorem pend_Push1 (x : Note) : Ct pG 175 (Zv.ops [x.pv]) (.vals [.bool (decide (¬ x.ok))]) := by
 refine Ct.of_V Tryz.func175 rfl (by simp [Zv.ops,Tryz.f175]) ?_
 refine V.exec 400 ?_
 simp +contextual (maxSteps:=9^7) only [go_sem,Tryz.f175,Note.pv]
 refine V.call rfl rfl (by simp [dOK]) ⟨108,[],by simp only [go_sem],⟨_,rfl,rfl,rfl⟩,.inl ⟨[x.pv],_,.inl (by simp only [go_sem,Note.pv]),note_Right x,.inl ⟨_,rfl,rfl,rfl,rfl⟩⟩⟩ ?_
 refine V.exec 400 ?_
 simp +contextual (maxSteps:=9^7) only [go_sem]
def Note.ofP : PV → Note
 | .agg [.int _ a,.str b,.str c,.int _ d] => ⟨a,b,c,d⟩
 | _ => ⟨0,[],[],0⟩
theorem Note.ofP_pv (x : Note) : Note.ofP x.pv = x := rfl
theorem Contains_badP (ns : List Note) (hl : ns.length ≤ 1000000) : Ct pG 106 (Zv.ops [.row (ns.map Note.pv),.fn 175 []]) (.vals [.bool (decide (¬ allOk ns))]) := by
 unfold allOk
 obtain ⟨r,hr,hr1,hr2,hr3⟩ := first_of (fun y => decide (¬ (Note.ofP y).ok)) (ns.map Note.pv)
 have hi := IndexFuncNote (ns.map Note.pv) 175 [] (fun y => decide (¬ (Note.ofP y).ok)) (fun y hy => by
   obtain ⟨s,_,rfl⟩ := zN.1 hy
   exact ⟨rfl,rfl⟩) (by simpa using hl) ⟨_,rfl,rfl,rfl⟩ (fun y hy => by
   obtain ⟨s,_,rfl⟩ := zN.1 hy
   rw [Note.ofP_pv]
   simpa using pend_Push1 s) r hr hr1 hr2
 refine Ct.of_V Tryz.func106 rfl (by simp [Zv.ops,Tryz.f106]) ?_
 refine V.exec 400 ?_
 simp +contextual (maxSteps:=9^7) only [go_sem,Tryz.f106]
 refine V.call rfl rfl (by simp [dOK]) ⟨144,[],by simp only [go_sem],⟨_,rfl,rfl,rfl⟩,.inl ⟨[.row (ns.map Note.pv),.fn 175 []],_,.inl (by simp only [go_sem]),hi,.inl ⟨_,rfl,rfl,rfl,rfl⟩⟩⟩ ?_
 refine V.exec 400 ?_
 simp +contextual (maxSteps:=9^7) only [go_sem]
 have e : (∃ y ∈ ns.map Note.pv,decide (¬ (Note.ofP y).ok) = true) ↔ ¬ ∀ x ∈ ns,x.ok := by
  constructor
  ·rintro ⟨y,hy,hp⟩ hc
   obtain ⟨s,hs,rfl⟩ := zN.1 hy
   rw [Note.ofP_pv] at hp
   simp at hp
   exact hp (hc s hs)
  ·intro h
   simp only [Classical.not_forall] at h
   obtain ⟨x,hx,hp⟩ := h
   exact ⟨x.pv,List.mem_map_of_mem hx,by rw [Note.ofP_pv]; simpa using hp⟩
 rw [e] at hr3
 rw [zW] at hr3
 by_cases hc : ∀ x ∈ ns,x.ok
 ·have : ¬ r < ns.length := fun h => (hr3.1 h) hc
  simp [this]
  exact hc
 ·have h2 := hr3.2 hc
  simp [h2,hc]
set_option maxRecDepth 10000 in
set_option maxHeartbeats 16000000 in
theorem pend_Push (l : List Note) (ns : List Note) (hl : l.length ≤ 400000) (hn : ns.length ≤ 400000) : Ct pG 147 (Zv.ops [.row (l.map Note.pv),.row (ns.map Note.pv)]) (.vals [.row ((pushR l ns).1.map Note.pv),.int .i64 (pushR l ns).2]) := by
 have h2 : ∀ (l : List Note),∀ x ∈ l.map Note.pv,x.cells.length = 4 := fun l x hx => by
  obtain ⟨s,_,rfl⟩ := zN.1 hx
  rfl
 refine Ct.of_V Tryz.func147 rfl (by simp [Zv.ops,Tryz.f147]) ?_
 refine V.exec 400 ?_
 simp +contextual (maxSteps:=9^7) only [go_sem,Tryz.f147]
 refine V.call rfl rfl (by simp [dOK]) ⟨174,[],by simp only [go_sem],⟨_,rfl,rfl,rfl⟩,.inl ⟨[.row (l.map Note.pv)],_,.inl (by simp only [go_sem]),CloneNote (l.map Note.pv) (h2 l) (by simp; omega),.inr (.inr ⟨72,(l.map Note.pv)   ,rfl,by simp only [go_sem],rfl,rfl⟩)⟩⟩ ?_
 refine V.exec 400 ?_
 simp +contextual (maxSteps:=9^7) only [go_sem]
 refine V.call rfl rfl (by simp [dOK]) ⟨161,[],by simp only [go_sem],⟨_,rfl,rfl,rfl⟩,.inl ⟨[.row (l.map Note.pv)],_,.inl (by simp only [go_sem]),pend_Right l (by omega),.inl ⟨_,rfl,rfl,rfl,rfl⟩⟩⟩ ?_
 refine V.exec 400 ?_
 by_cases hok : waitOk l
 ·simp +contextual (maxSteps:=9^7) only [go_sem,hok]
  refine V.call rfl rfl (by simp [dOK]) ⟨106,[],by simp only [go_sem],⟨_,rfl,rfl,rfl⟩,.inl ⟨[.row (ns.map Note.pv),.fn 175 []],_,.inl (by simp only [go_sem]),Contains_badP ns (by omega),.inl ⟨_,rfl,rfl,rfl,rfl⟩⟩⟩ ?_
  refine V.exec 400 ?_
  by_cases hall : allOk ns
  ·have hv : pushR l ns = (pushV l ns,0) := by simp only [pushR]; rw [if_pos ⟨hok,hall⟩]
   simp +contextual (maxSteps:=9^7) only [go_sem,hall,hv]
   refine V.loop (fun m ls os => ∃ (i : Nat) (cur : List Note),i ≤ ns.length ∧ m = ns.length - i ∧ gSorted Note.key cur ∧ cur.length ≤ l.length + i ∧ pushV cur (ns.drop i) = pushV l ns ∧
     ls = [(6,.ref 0),(21,.val (.row (ns.map Note.pv))),(22,.val (.int .i64 ns.length)),(23,.val (.int .i64 i))] ∧ os = [.row 72 (cur.map Note.pv)]) 1 ns.length
    [(6,.ref 0),(21,.val (.row (ns.map Note.pv))),(22,.val (.int .i64 ns.length)),(23,.val (.int .i64 0))] [.row 72 (l.map Note.pv)] [some 5]
    ⟨0,l,zF _,rfl,((waitOk_iff l).1 hok).1,zR _,rfl,rfl,rfl⟩ (by simp only [go_sem]; try decide) ?_
   rintro m ls os ⟨i,cur,hi,rfl,hcs,hcl,hca,rfl,rfl⟩
   refine V.exec 400 ?_
   by_cases hlt : i < ns.length
   ·have hlt' : (i : Int) < (ns.length : Int) := by omega
    obtain ⟨x,hx⟩ : ∃ x,ns[i]? = some x := ⟨_,zA hlt⟩
    have hw : IntKind.i64.wrap ((i : Int) + 1) = ((i + 1 : Nat) : Int) := by rw [wrap_small3] <;> omega
    rw [drop_of_get hx,pushV,List.foldl_cons] at hca
    have hos := pushOne_sorted hcs x
    have hol := pushOne_len hcs x
    have hpb := posN_eq hcs x.key
    have hpl := pend_place cur x.key (by omega)
    rw [hpb] at hpl
    have hbl := gBelow_le Note.key x.key cur
    simp +contextual (maxSteps:=9^7) only [go_sem,hlt',hx,Note.pv]
    refine V.call rfl rfl (by simp [dOK]) ⟨160,[],by simp only [go_sem],⟨_,rfl,rfl,rfl⟩,.inl ⟨[.row (cur.map Note.pv),.str x.key],_,.inl (by simp only [go_sem]),hpl,.inl ⟨_,rfl,rfl,rfl,rfl⟩⟩⟩ ?_
    refine V.exec 400 ?_
    cases hg : gGet Note.key cur x.key with
    | some p =>
     have hp := (gBelow_find Note.key cur hcs p).2 hg
     have hE : (∃ y,some p = some y ∧ y.key = x.key) := ⟨p,rfl,hp.2⟩
     have hrl := (zQ.1 hp.1).1
     have hrl' : ((gBelow Note.key x.key cur : Nat) : Int) < (cur.length : Int) := by omega
     have hm : mergeV cur x = bothV p x := by simp [mergeV,hg]
     have hone : pushOne cur x = cur.set (gBelow Note.key x.key cur) (bothV p x) := by
      unfold pushOne
      rw [gPut_some Note.key hcs (p := p) (by rw [mergeV_key]; exact hg),mergeV_key,hm]
     simp +contextual (maxSteps:=9^7) only [go_sem,hp.1,hE,hrl',Note.pv]
     refine DV.call [] [] (by simp only [go_sem,Note.pv]) (by simp [dOK]) ⟨176,[],by simp only [go_sem,Note.pv],⟨_,rfl,rfl,rfl⟩,.inl ⟨[p.pv,x.pv],_,.inl (by simp only [go_sem,Note.pv]),note_Both p x,.inr (.inl ⟨_,rfl,rfl,rfl⟩)⟩⟩ (by simp only [go_sem,Note.pv]) (by simp only [go_sem,Note.pv]) (by simp only [go_sem,Note.pv]) (by simp) ?_
     refine DV.exec 400 ?_
     simp +contextual (maxSteps:=9^7) only [go_sem,hp.1,hE,hrl',Note.pv,hw]
     refine ⟨by kernel_rfl,ns.length - (i + 1),_,_,[some 0],by omega,⟨i + 1,pushOne cur x,by omega,rfl,hos,by omega,hca,rfl,rfl⟩,?_⟩
     simp only [go_sem,hone,List.map_set,Note.pv]
     try decide
    | none =>
     have hE : ¬ ∃ y,cur[gBelow Note.key x.key cur]? = some y ∧ y.key = x.key := fun ⟨y,hy⟩ => by
      have := (gBelow_find Note.key cur hcs y).1 hy
      rw [hg] at this; cases this
     have hm : mergeV cur x = x := by simp [mergeV,hg]
     have hone : pushOne cur x = cur.take (gBelow Note.key x.key cur) ++ [x] ++ cur.drop (gBelow Note.key x.key cur) := by
      unfold pushOne
      rw [hm,gPut_none Note.key hcs hg]
     have hins := InsertNote (cur.map Note.pv) x.pv (gBelow Note.key x.key cur) (h2 cur) rfl (by simpa using hbl) (by simp; omega)
     have he : (cur.map Note.pv).take (gBelow Note.key x.key cur) ++ [x.pv] ++ (cur.map Note.pv).drop (gBelow Note.key x.key cur) = (pushOne cur x).map Note.pv := by
      rw [hone]; simp [zM,List.map_take,List.map_drop]
     rw [he] at hins
     simp +contextual (maxSteps:=9^7) only [go_sem,hE,Note.pv]
     refine V.call rfl rfl (by simp [dOK]) ⟨177,[],by simp only [go_sem],⟨_,rfl,rfl,rfl⟩,.inr (.inl ⟨0,72,cur.map Note.pv,[.val (.int .i64 (gBelow Note.key x.key cur : Nat)),.ref 19],[.int .i64 (gBelow Note.key x.key cur : Nat),.rowp [x.pv]],72,_,by simp only [go_sem],by simp only [go_sem],.inr ⟨[.val (.int .i64 (gBelow Note.key x.key cur : Nat))],19,72,[x.pv],[.int .i64 (gBelow Note.key x.key cur : Nat)],rfl,rfl,by simp only [go_sem,Note.pv],rfl⟩,hins,by simp only [go_sem],rfl,rfl⟩)⟩ ?_
     refine V.exec 400 ?_
     simp +contextual (maxSteps:=9^7) only [go_sem,hw]
     refine ⟨ns.length - (i + 1),_,_,[some 20],by omega,⟨i + 1,pushOne cur x,by omega,rfl,hos,by omega,hca,rfl,rfl⟩,?_⟩
     simp only [go_sem]
   ·have hlt' : ¬ (i : Int) < (ns.length : Int) := by omega
    have hd : ns.drop i = [] := zK (by omega)
    rw [hd] at hca
    simp +contextual (maxSteps:=9^7) only [go_sem,hlt',← hca]
    rfl
  ·have hv : pushR l ns = (l,1) := by simp only [pushR]; rw [if_neg (fun h => hall h.2)]
   simp +contextual (maxSteps:=9^7) only [go_sem,hall,hv]
 ·have hv : pushR l ns = (l,1) := by simp only [pushR]; rw [if_neg (fun h => hok h.1)]
  simp +contextual (maxSteps:=9^7) only [go_sem,hok,hv]
end Go.Proofs.YtfemlllmglaimaaGreat
