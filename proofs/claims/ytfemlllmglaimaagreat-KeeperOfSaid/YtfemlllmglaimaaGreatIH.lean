/- A part of a proof: functions of the program, walked. -/
import Derived.Test.YtfemlllmglaimaaGreatIG
set_option linter.unusedVariables false
set_option linter.unusedSimpArgs false
set_option maxRecDepth 8000
namespace Go.Proofs.YtfemlllmglaimaaGreat
open Go Go.Proofs Go.Proofs.Zv Go.Proofs.YtfemlllmglaimaaGreat.Ty
open Go.Proofs.Tryz renaming prog → pG
open List renaming getElem?_eq_getElem → zA, map_nil → zB, map_cons → zC, take_of_length_le → zD, mem_of_getElem? → zE, mem_cons_self → zG, mem_cons_of_mem → zH, mem_cons → zI, length_append → zJ, drop_eq_nil_of_le → zK, take_add_one → zL, map_append → zM, mem_map → zN, mem_append → zO, eq_nil_of_length_eq_zero → zP, getElem?_eq_some_iff → zQ, getElem?_map → zS, length_cons → zT, length_take → zU, filter_append → zV, length_map → zW
open Nat renaming zero_le → zF, le_refl → zR
set_option maxHeartbeats 8000000 in
theorem ref19_Poll (s : Sub) (l : List Pair) (t : List Change) (floor most : Int) (hl : l.length ≤ 100000) (ht : t.length ≤ 100000) :
  Ct pG 94 (Zv.ops [s.pv,.row (l.map Pair.pv),.row (t.map Change.pv),.int .i64 floor,.int .i64 most]) (.vals [(pollV s l t floor most).1.pv,.int .i64 (pollV s l t floor most).2]) := by
 have hc := ref19_left s l t floor hl ht
 have hlen := leftV_len s l t floor
 have hbad : ¬ (s.ok ∧ 1 ≤ most) → pollV s l t floor most = (Chunk.zero,1) := fun h => by unfold pollV; rw [if_neg h]
 refine Ct.of_V Tryz.func94 rfl (by simp [Zv.ops,Tryz.f94]) ?_
 refine V.exec 400 ?_
 simp +contextual (maxSteps:=9^7) only [go_sem,Tryz.f94,Sub.pv]
 refine V.call rfl rfl (by simp [dOK]) ⟨92,[],by simp only [go_sem],⟨_,rfl,rfl,rfl⟩,.inl ⟨[s.pv],_,.inl (by simp only [go_sem,Sub.pv]),ref19_Right s,.inl ⟨_,rfl,rfl,rfl,rfl⟩⟩⟩ ?_
 refine V.exec 400 ?_
 by_cases hok : s.ok
 ·by_cases hm : most < 1
  ·have hv := hbad (fun h => by omega)
   simp +contextual (maxSteps:=9^7) only [go_sem,hok,hm,hv,Chunk.zero,Chunk.pv,zB]
  ·have hv : pollV s l t floor most = (if (leftV s l t floor).2 = 0 then
     if s.live = true then (⟨[],(sinceA t s).take (cutM most (sinceA t s).length),decide (cutM most (sinceA t s).length < (sinceA t s).length)⟩,0)
     else (⟨(leftV s l t floor).1.take (cutM most (leftV s l t floor).1.length),[],decide (cutM most (leftV s l t floor).1.length < (leftV s l t floor).1.length)⟩,0)
    else (Chunk.zero,(leftV s l t floor).2) : Chunk × Int) := by unfold pollV; rw [if_pos ⟨hok,by omega⟩]
   obtain ⟨p,e,hp⟩ : ∃ p e,leftV s l t floor = (p,e) := ⟨_,_,rfl⟩
   rw [hp] at hc hlen hv
   simp only at hc hlen hv
   simp +contextual (maxSteps:=9^7) only [go_sem,hok,hm]
   refine V.call rfl rfl (by simp [dOK]) ⟨138,[],by simp only [go_sem],⟨_,rfl,rfl,rfl⟩,.inl ⟨[s.pv,.row (l.map Pair.pv),.row (t.map Change.pv),.int .i64 floor],_,.inl (by simp only [go_sem,Sub.pv]),hc,.inr (.inl ⟨_,rfl,rfl,rfl⟩)⟩⟩ ?_
   refine V.execS [7] 400 ?_
   by_cases he : e = 0
   ·subst he
    rw [if_pos rfl] at hv
    simp +contextual (maxSteps:=9^7) only [go_sem]
    refine V.sem _ (SemCode.zbox (zs := [.nils,.nils,.val (.bool false)]) (by decide) (by decide) (by decide) rfl rfl rfl rfl rfl rfl (by simp only [go_sem])) (fun σ' h => ?_)
    subst h
    refine V.exec 400 ?_
    by_cases hlv : s.live = true
    ·rw [if_pos hlv] at hv
     have hsl := sinceA_len t s
     have hk1 := ref16_Since s t t.length ht (by omega)
     have hk2 := ref16_Since s t most ht (by omega)
     have hall : (sinceA t s).take (cutM t.length (sinceA t s).length) = sinceA t s := zD (by unfold cutM; omega)
     rw [hall] at hk1
     have htl : ((sinceA t s).take (cutM most (sinceA t s).length)).length = cutM most (sinceA t s).length := by rw [zU]; unfold cutM; omega
     simp +contextual (maxSteps:=9^7) only [go_sem,hlv]
     refine V.call rfl rfl (by simp [dOK]) ⟨98,[],by simp only [go_sem],⟨_,rfl,rfl,rfl⟩,.inl ⟨[.row (t.map Change.pv),.int .i64 s.cur,.int .i64 t.length,.row ([s.r].map Range.pv)],_,.inl (by simp only [go_sem,Range.pv,zC,zB]),hk1,.inr (.inl ⟨_,rfl,rfl,rfl⟩)⟩⟩ ?_
     refine V.exec 400 ?_
     simp +contextual (maxSteps:=9^7) only [go_sem]
     refine V.call rfl rfl (by simp [dOK]) ⟨98,[],by simp only [go_sem],⟨_,rfl,rfl,rfl⟩,.inl ⟨[.row (t.map Change.pv),.int .i64 s.cur,.int .i64 most,.row ([s.r].map Range.pv)],_,.inl (by simp only [go_sem,Range.pv,zC,zB]),hk2,.inr (.inl ⟨_,rfl,rfl,rfl⟩)⟩⟩ ?_
     refine V.exec 400 ?_
     simp +contextual (maxSteps:=9^7) only [go_sem,htl]
     rw [hv]
     simp [Chunk.pv]
    ·rw [if_neg hlv] at hv
     simp +contextual (maxSteps:=9^7) only [go_sem,hlv]
     refine V.loop (fun m ls os => ∃ (i : Nat),i ≤ p.length ∧ m = p.length - i ∧ (i : Int) ≤ max 0 most ∧
       ls = [(4,.val (.int .i64 most)),(10,.adr 0 0),(13,.val (.row (p.map Pair.pv))),(15,.adr 1 0),(17,.val (.int .i64 i))] ∧ os = [.box true [.nils,.nils,.val (.bool false)],.box true [.ref 2,.nils,.val (.bool false)],.row 77 ((p.take i).map Pair.pv)]) 3 p.length
      [(4,.val (.int .i64 most)),(10,.adr 0 0),(13,.val (.row (p.map Pair.pv))),(15,.adr 1 0),(17,.val (.int .i64 0))] [.box true [.nils,.nils,.val (.bool false)],.box true [.ref 2,.nils,.val (.bool false)],.row 77 []] [some 6,some 30,none]
      ⟨0,zF _,rfl,by omega,rfl,rfl⟩ (by simp only [go_sem]; try decide) ?_
     rintro m ls os ⟨i,hi,rfl,him,rfl,rfl⟩
     have hend : ¬ ((i : Int) < (p.length : Int) ∧ (i : Int) < most) → cutM most p.length = i := fun h => by unfold cutM; omega
     refine V.exec 400 ?_
     by_cases hlt : i < p.length
     ·have hlt' : (i : Int) < (p.length : Int) := by omega
      obtain ⟨x,hx⟩ : ∃ x,p[i]? = some x := ⟨_,zA hlt⟩
      have hw : IntKind.i64.wrap ((i : Int) + 1) = ((i + 1 : Nat) : Int) := by rw [wrap_small3] <;> omega
      by_cases hmo : (i : Int) < most
      ·have hts := take_snoc hx
       have htl : (p.take i).length = i := by rw [zU]; omega
       generalize hL : p.take i = L at *
       simp +contextual (maxSteps:=9^7) only [go_sem,hlt',hmo,hx,Pair.pv,hw]
       refine ⟨⟨by omega,by omega⟩,by kernel_rfl,p.length - (i + 1),_,_,[some 0,some 1,some 19],by omega,⟨i + 1,by omega,rfl,by omega,rfl,rfl⟩,?_⟩
       simp only [go_sem,hts,zM,zC,zB,Pair.pv]
       try decide
      ·have hv1 := hend (fun h => hmo h.2)
       have htl : ((p.take i).length : Int) = (i : Int) := by rw [zU]; omega
       simp +contextual (maxSteps:=9^7) only [go_sem,hlt',hmo,htl]
       rw [hv,hv1]
       simp [Chunk.pv,hlt]
     ·have hlt' : ¬ (i : Int) < (p.length : Int) := by omega
      have hv1 := hend (fun h => hlt' h.1)
      have htl : ((p.take i).length : Int) = (i : Int) := by rw [zU]; omega
      simp +contextual (maxSteps:=9^7) only [go_sem,hlt',htl]
      rw [hv,hv1]
      simp [Chunk.pv,hlt]
   ·rw [if_neg he] at hv
    simp +contextual (maxSteps:=9^7) only [go_sem,he,hv,Chunk.zero,Chunk.pv,zB]
 ·have hv := hbad (fun h => hok h.1)
  simp +contextual (maxSteps:=9^7) only [go_sem,hok,hv,Chunk.zero,Chunk.pv,zB]
theorem find_at {l : List Sub} {id : Int} {y : Sub} (h : findL l id = some y) : ∃ i : Nat,refFind l id = (i : Int) ∧ l[i]? = some y ∧ i < l.length := by
 unfold refFind
 cases hx : l.findIdx? (fun s => decide (s.id = id)) with
 | none =>
  exfalso
  have h2 : findL l id = none := by
   unfold findL
   rw [List.find?_eq_none]
   intro x hm
   have := List.findIdx?_eq_none_iff.1 hx x hm
   simpa using this
  rw [h2] at h; cases h
 | some i =>
  obtain ⟨hlt,hp,hq⟩ := List.findIdx?_eq_some_iff_getElem.1 hx
  refine ⟨i,rfl,?_,hlt⟩
  rw [zA hlt]
  unfold findL at h
  rw [List.find?_eq_some_iff_getElem] at h
  obtain ⟨h1,j,hj,he,hb⟩ := h
  have : i = j := by
   rcases Nat.lt_trichotomy i j with c | c | c
   ·have := hb i c; rw [hp] at this; simp at this
   ·exact c
   ·have := hq j c; rw [he,h1] at this; simp at this
  subst this; rw [he]
set_option maxHeartbeats 8000000 in
theorem ref16_Since0 (t : List Change) (n : Int) (ht : t.length ≤ 100000) :
  Ct pG 98 (Zv.ops [.row (t.map Change.pv),.int .i64 n,.int .i64 t.length,.row []]) (.vals [.row ((t.filter fun c => decide (n < c.seq)).map Change.pv)]) := by
 have hlen : ∀ i,i < t.length → (((t.take i).filter fun c => decide (n < c.seq)).length : Int) < (t.length : Int) := fun i hi => by
  have h1 : ((t.take i).filter fun c => decide (n < c.seq)).length ≤ (t.take i).length := List.length_filter_le _ _
  rw [zU] at h1
  omega
 refine Ct.of_V Tryz.func98 rfl (by simp [Zv.ops,Tryz.f98]) ?_
 refine V.exec 400 ?_
 simp +contextual (maxSteps:=9^7) only [go_sem,Tryz.f98]
 refine V.loop (fun m ls os => ∃ (i : Nat),i ≤ t.length ∧ m = t.length - i ∧
    ls = [(0,.val (.row (t.map Change.pv))),(1,.val (.int .i64 n)),(2,.val (.int .i64 t.length)),(3,.val (.row [])),(9,.ref 0),(10,.val (.int .i64 i))] ∧ os = [.row 89 (((t.take i).filter fun c => decide (n < c.seq)).map Change.pv)]) 1 t.length
   [(0,.val (.row (t.map Change.pv))),(1,.val (.int .i64 n)),(2,.val (.int .i64 t.length)),(3,.val (.row [])),(9,.ref 0),(10,.val (.int .i64 0))] [.row 89 []] [none]
   ⟨0,zF _,rfl,rfl,rfl⟩ (by simp only [go_sem]; try decide) ?_
 rintro m ls os ⟨i,hi,rfl,rfl,rfl⟩
 by_cases hlt : i < t.length
 ·have hlt' : (i : Int) < (t.length : Int) := by omega
  obtain ⟨x,hx⟩ : ∃ x,t[i]? = some x := ⟨_,zA hlt⟩
  have hw : IntKind.i64.wrap ((i : Int) + 1) = ((i + 1 : Nat) : Int) := by rw [wrap_small3] <;> omega
  have hmo := hlen i hlt
  have hn : (t.take (i + 1)).filter (fun c => decide (n < c.seq)) = (t.take i).filter (fun c => decide (n < c.seq)) ++ (if n < x.seq then [x] else []) := by
   rw [zL,hx,zV]
   by_cases h : n < x.seq
   ·simp [h]
   ·simp [h]
  generalize (t.take i).filter (fun c => decide (n < c.seq)) = L at *
  refine V.exec 400 ?_
  simp +contextual (maxSteps:=9^7) only [go_sem,hlt',hmo,hx,Change.pv]
  refine V.loop (fun m ls os => m = 0 ∧
    ls = [(0,.val (.row (t.map Change.pv))),(1,.val (.int .i64 n)),(2,.val (.int .i64 t.length)),(3,.val (.row [])),(9,.ref 0),(10,.val (.int .i64 i)),(11,.val (.bool (decide (n < x.seq)))),(12,.val (.int .i64 0))] ∧ os = [.row 89 (L.map Change.pv)]) 1 0
   [(0,.val (.row (t.map Change.pv))),(1,.val (.int .i64 n)),(2,.val (.int .i64 t.length)),(3,.val (.row [])),(9,.ref 0),(10,.val (.int .i64 i)),(11,.val (.bool (decide (n < x.seq)))),(12,.val (.int .i64 0))] [.row 89 (L.map Change.pv)] [some 0]
   ⟨rfl,rfl,rfl⟩ (by simp only [go_sem]; try decide) ?_
  rintro m ls os ⟨rfl,rfl,rfl⟩
  have n0 : ([] : List PV).length = 0 := rfl
  have hn00 : ¬ (0 : Int) < ((0 : Nat) : Int) := by decide
  refine V.exec 400 ?_
  by_cases hin : n < x.seq
  ·rw [if_pos hin] at hn
   simp +contextual (maxSteps:=9^7) only [go_sem,List.length_nil,hn00,hin,hx,hlt',hw,Change.pv]
   refine ⟨⟨by omega,by omega⟩,t.length - (i + 1),_,_,[some 12],by omega,⟨i + 1,by omega,rfl,rfl,rfl⟩,?_⟩
   simp only [go_sem,hn,zM,zC,zB,Change.pv]
   try decide
  ·rw [if_neg hin] at hn
   simp +contextual (maxSteps:=9^7) only [go_sem,List.length_nil,hn00,hin,hx,hlt',hw,Change.pv]
   refine ⟨t.length - (i + 1),_,_,[some 0],by omega,⟨i + 1,by omega,rfl,rfl,rfl⟩,?_⟩
   simp only [go_sem,hn,List.append_nil]
   try decide
 ·have hlt' : ¬ (i : Int) < (t.length : Int) := by omega
  obtain rfl : i = t.length := by omega
  rw [List.take_length]
  refine V.exec 400 ?_
  simp +contextual (maxSteps:=9^7) only [go_sem,hlt']
theorem ref16_Drop {t : List Change} (h : trailOk t) (n : Int) (ht : t.length ≤ 100000) : Ct pG 49 (Zv.ops [.row (t.map Change.pv),.int .i64 n]) (.vals [.row ((dropV t n).map Change.pv)]) := by
 have c := ref16_Since0 t n ht
 rw [← dropV_ok h] at c
 refine Ct.of_V Tryz.func49 rfl (by simp [Zv.ops,Tryz.f49]) ?_
 refine V.exec 400 ?_
 simp +contextual (maxSteps:=9^7) only [go_sem,Tryz.f49]
 refine V.call rfl rfl (by simp [dOK]) ⟨98,[],by simp only [go_sem],⟨_,rfl,rfl,rfl⟩,.inl ⟨[.row (t.map Change.pv),.int .i64 n,.int .i64 t.length,.row []],_,.inl (by simp only [go_sem]),c,.inr (.inl ⟨_,rfl,rfl,rfl⟩)⟩⟩ ?_
 refine V.exec 400 ?_
 simp +contextual (maxSteps:=9^7) only [go_sem]
set_option maxHeartbeats 4000000 in
theorem ref21_with (k : KSt) (l : List Sub) (n e : Int) : Ct pG 45 (Zv.ops [k.pv,.row (l.map Sub.pv),.int .i64 n,.int .i64 e]) (.vals [(withV k l n e).1.pv,(withV k l n e).2.pv]) := by
 refine Ct.of_V Tryz.func45 rfl (by simp [Zv.ops,Tryz.f45]) ?_
 refine V.exec 400 ?_
 simp +contextual (maxSteps:=9^7) only [go_sem,Tryz.f45,KSt.pv]
 by_cases h0 : e = 0
 ·simp +contextual (maxSteps:=9^7) only [go_sem,h0,withV,KSt.pv,Tell.num,Tell.pv,Chunk.zero]
 ·simp +contextual (maxSteps:=9^7) only [go_sem,h0,withV,KSt.pv,Tell.bad,Tell.pv,Chunk.zero]
set_option maxHeartbeats 8000000 in
theorem ref21_page {k : KSt} (h : k.ok) (c : Cmd) (seq : Int) : Ct pG 43 (Zv.ops [k.pv,c.pv,.int .i64 seq]) (.vals [(pageK k c seq).pv]) := by
 obtain ⟨hL,hT,hS⟩ := h.lens
 have cr := ref03_Right c.r
 have cp := ref18_Page k.L k.T k.floor seq c.n c.r (by omega) (by omega)
 obtain ⟨ps,more,e,hp⟩ : ∃ ps more e,pageV k.L k.T k.floor seq c.n c.r = (ps,more,e) := ⟨_,_,_,rfl⟩
 unfold pageK
 rw [hp] at cp ⊢
 simp only at cp
 refine Ct.of_V Tryz.func43 rfl (by simp [Zv.ops,Tryz.f43]) ?_
 refine V.exec 400 ?_
 simp +contextual (maxSteps:=9^7) only [go_sem,Tryz.f43,KSt.pv,Cmd.pv]
 refine V.call rfl rfl (by simp [dOK]) ⟨90,[],by simp only [go_sem],⟨_,rfl,rfl,rfl⟩,.inl ⟨[c.r.pv],_,.inl (by simp only [go_sem,Range.pv]),cr,.inl ⟨_,rfl,rfl,rfl,rfl⟩⟩⟩ ?_
 refine V.exec 400 ?_
 by_cases hr : c.r.ok
 ·by_cases hn : c.n < 1
  ·have hn' : ¬ 1 ≤ c.n := by omega
   simp +contextual (maxSteps:=9^7) only [go_sem,hr,hn,hn',Tell.bad,Tell.pv,Chunk.zero]
  ·have hn' : 1 ≤ c.n := by omega
   by_cases hq : k.seq < seq
   ·simp +contextual (maxSteps:=9^7) only [go_sem,hr,hn,hn',hq,Tell.bad,Tell.pv,Chunk.zero]
   ·simp +contextual (maxSteps:=9^7) only [go_sem,hr,hn,hn',hq]
    refine V.call rfl rfl (by simp [dOK]) ⟨91,[],by simp only [go_sem],⟨_,rfl,rfl,rfl⟩,.inl ⟨[.row (k.L.map Pair.pv),.row (k.T.map Change.pv),.int .i64 k.floor,.int .i64 seq,.int .i64 c.n,c.r.pv],_,.inl (by simp only [go_sem,Range.pv]),cp,.inr (.inl ⟨_,rfl,rfl,rfl⟩)⟩⟩ ?_
    refine V.exec 400 ?_
    by_cases h0 : e = 0
    ·simp +contextual (maxSteps:=9^7) only [go_sem,h0,Tell.pv,hr,hn',hq]
    ·simp +contextual (maxSteps:=9^7) only [go_sem,h0,Tell.bad,Tell.pv,Chunk.zero,hr,hn',hq]
 ·simp +contextual (maxSteps:=9^7) only [go_sem,hr,Tell.bad,Tell.pv,Chunk.zero,false_and]
end Go.Proofs.YtfemlllmglaimaaGreat
namespace Go.Proofs.Zv
open Go Classical
def nilR : PV := .raw (.slice none 0 0)
def nilq : AV → Option PV
 | .nils => some nilR
 | c => c.pure?
def pursN : List AV → Option (List PV)
 | [] => some []
 | c :: cs => match nilq c,pursN cs with
  | some p,some ps => some (p :: ps)
  | _,_ => none
theorem pursN_reps {w : World} {F : Nat → Prop} {cv : Nat → Value} : ∀ {cs : List AV} {ps : List PV} {vs : List Value},pursN cs = some ps → vs.length = cs.length →
  (∀ (j : Nat) (c : AV) (v : Value),cs[j]? = some c → vs[j]? = some v → SRep w F cv c v) → Reps w F ps vs
 | [],ps,vs,h,hl,hr => by
  simp [pursN] at h; subst h
  obtain rfl : vs = [] := by simpa using hl
  exact Reps.nil _ _
 | c :: cs,ps,vs,h,hl,hr => by
  cases vs with
  | nil => simp at hl
  | cons v vs =>
   simp only [pursN] at h
   split at h
   ·rename_i p qs hp hq
    obtain rfl := Option.some.inj h
    have ih := pursN_reps (vs := vs) hq (by simpa using hl) (fun j c v hc hv => hr (j + 1) c v (by simpa using hc) (by simpa using hv))
    refine Reps.cons ?_ ih
    have := hr 0 c v rfl rfl
    cases c <;> simp [nilq,AV.pure?] at hp
    ·subst hp; exact this
    ·subst hp
     have e : v = .slice none 0 0 := this
     rw [e]
     exact .raw _ rfl
   ·cases h
def stBuildN (P : Program) (σ : St) (t : TypeId) (parts : List (Nat × Operand)) : Option (St × AV) :=
 match zeroOf P t,plOf P t,σ.pvs (σ.evs (opers parts)) with
 | some zs,some places,some ps => match pursN zs with
  | some z => match fillP places z ((idxs parts).zip ps) with
   | some cs => if (∀ p ∈ z,p.isAgg = false) ∧ aggOf P t = some true then some (σ.pubs (σ.evs (opers parts)),.val (.agg cs)) else none
   | none => none
  | none => none
 | _,_,_ => none
section
variable {P : Program} {C : Ctx} {σ : St} {a : Act} {w : World} {cv : Nat → Value}
theorem Rel.buildOpN (h : Rel P C σ a w cv) {t : TypeId} {parts : Array (Nat × Operand)} {σ' : St} {r : AV} (hst : stBuildN P σ t parts.toList = some (σ',r)) :
  ∃ u,(Instr.build t (parts.map fun (i,x) => (i,a.eval x))).run P w = .ok u w ∧ Rel P C σ' a w cv ∧ SRep w (FS C σ'.ob cv w) cv r u ∧ ∀ i,r.ment i → σ'.ob i ≠ .free := by
 unfold stBuildN at hst
 split at hst
 ·rename_i zs places ps hz hpl hps
  split at hst
  ·rename_i z hzp
   split at hst
   ·rename_i cs hcs
    split at hst
    ·rename_i hna
     obtain ⟨hna,hag⟩ := hna
     obtain ⟨rfl,rfl⟩ := Prod.mk.inj (Option.some.inj hst)
     unfold zeroOf at hz
     split at hz
     ·rename_i inf hi
      split at hz
      ·rename_i zval hzz
       obtain rfl := Option.some.inj hz
       have hpubs := h.pubs (σ.evs (opers parts.toList))
       have hrp := Rel.pvs h (vs := (opers parts.toList).map a.eval) hps (by simp [St.evs]) (fun j c v hc hv => by
        simp only [St.evs,List.getElem?_map] at hc hv
        cases hx : (opers parts.toList)[j]? with
        | none => simp [hx] at hc
        | some x =>
         simp only [hx,Option.map_some,Option.some.injEq] at hc hv
         subst hc; subst hv
         exact (h.ev x).1)
       have hrz : Reps w (FS C (σ.pubs (σ.evs (opers parts.toList))).ob cv w) z zval.cells.toList := pursN_reps (cv := cv) hzp (by simp) (fun j c v hc hv => by
        simp only [List.getElem?_map,hv,Option.map_some,Option.some.injEq] at hc
        subst hc
        exact cAV_rep _ _ _ v)
       obtain ⟨cvs,g1,g2,g3⟩ := fillP_reps hcs (by have := hrp.1; simp only [List.length_map] at this; simp [idxs,opers] at *; omega) hrp hrz hna
       refine ⟨_,?_,hpubs.1,Rep.agg cs cvs g2.1 g3 g2.2,fun i hi => hi.elim⟩
       refine run_build w t _ ⟨cvs⟩ ?_
       unfold plOf at hpl
       split at hpl
       ·rename_i fs hu
        unfold Program.built
        simp only [hi,hu,hzz,hpl]
        have e : (parts.map fun (x : Nat × Operand) => (x.1,a.eval x.2)).toList = (idxs parts.toList).zip ((opers parts.toList).map a.eval) := by
         simp only [Array.toList_map,idxs,opers]
         generalize parts.toList = l
         induction l with
         | nil => rfl
         | cons x l ih => simp [ih]
        rw [e]
        exact g1
       ·cases hpl
      ·cases hz
     ·cases hz
    ·cases hst
   ·cases hst
  ·cases hst
 ·cases hst
end
theorem SemOp.buildN {P : Program} {md : Md} {n : Nat} {all : List Oper} {i : Nat} {o : Oper} {σ σ' : St} {r : AV} {t : TypeId} {parts : Array (Nat × Operand)}
  (hg : runs σ all o = some true) (hop : o.op = .build t parts) (hd : dOK n o.dst) (hst : stBuildN P σ t parts.toList = some (σ',r)) :
  SemOp P md n all i o σ (fun s => s = σ'.put o.dst r) := by
 intro C a w cv hK hn hp h ho b cs m rest
 obtain ⟨u,h1,h2,h3,h4⟩ := h.buildOpN hst
 have hrun : (execOp a.eval o).run P w = .ok (.value u) w := by
  have e : execOp a.eval o = (do pure (.value (← Instr.build t (parts.map fun (i,x) => (i,a.eval x)))) : Sem Next) := by unfold execOp; rw [hop]
  rw [e,Sem.run_bind,h1]; simp
 exact ⟨_,_,w,cv,rfl,put_rel h2 (by rw [hn]; exact hd) h3 h4,oper_steps ho (runs_wanted h hg) (.inl hrun) b cs⟩
theorem SemOp.buildN2 {P : Program} {md : Md} {n : Nat} {all : List Oper} {i : Nat} {o : Oper} {σ : St} {t : TypeId} {parts : Array (Nat × Operand)} {zs : List AV} {places : List (Nat × Nat)} {ps z cs : List PV}
  (hg : runs σ all o = some true) (hop : o.op = .build t parts) (hd : dOK n o.dst) (hz : zeroOf P t = some zs) (hpl : plOf P t = some places) (hag : aggOf P t = some true) (hps : σ.pvs (σ.evs (opers parts.toList)) = some ps)
  (hzn : pursN zs = some z) (hcs : fillP places z ((idxs parts.toList).zip ps) = some cs) (hna : ∀ p ∈ z,p.isAgg = false) :
  SemOp P md n all i o σ (fun s => s = (σ.pubs (σ.evs (opers parts.toList))).put o.dst (.val (.agg cs))) :=
 SemOp.buildN hg hop hd (by unfold stBuildN; simp only [hz,hpl,hps,hzn,hcs]; rw [if_pos ⟨hna,hag⟩])
theorem SemOp.rawn {P : Program} {md : Md} {n : Nat} {all : List Oper} {i j : Nat} {o : Oper} {σ σ' : St}
  (hg : runs σ all o = some true) (hs : stepOp P σ j o.op = some (σ',.val nilR)) (hd : dOK n o.dst) :
  SemOp P md n all i o σ (fun s => s = σ'.put o.dst .nils) := by
 intro C a w cv hK hn hp h ho b cs m rest
 obtain ⟨u,w',cv',h1,h2,h3,h4⟩ := step_sound h hs
 have e : u = .slice none 0 0 := by cases h3; rfl
 exact ⟨_,_,w',cv',rfl,put_rel h2 (by rw [hn]; exact hd) (v := .nils) e (fun i hi => hi.elim),oper_steps ho (runs_wanted h hg) h1 b cs⟩
theorem SemOp.rawl {P : Program} {md : Md} {n : Nat} {all : List Oper} {i j : Nat} {o : Oper} {σ : St}
  (hg : runs σ all o = some true) (hs : stepOp P σ j o.op = some (σ,.val nilR)) (hd : dOK n o.dst) :
  SemOp P md n all i o σ (fun s => s = σ.put o.dst .nils) := SemOp.rawn hg hs hd
end Go.Proofs.Zv
namespace Go.Proofs.YtfemlllmglaimaaGreat
open Go Go.Proofs Go.Proofs.Zv Go.Proofs.YtfemlllmglaimaaGreat.Ty
open Go.Proofs.Tryz renaming prog → pG
open List renaming getElem?_eq_getElem → zA, map_nil → zB, map_cons → zC, take_of_length_le → zD, mem_of_getElem? → zE, mem_cons_self → zG, mem_cons_of_mem → zH, mem_cons → zI, length_append → zJ, drop_eq_nil_of_le → zK, take_add_one → zL, map_append → zM, mem_map → zN, mem_append → zO, eq_nil_of_length_eq_zero → zP, getElem?_eq_some_iff → zQ, getElem?_map → zS, length_cons → zT, length_take → zU, filter_append → zV, length_map → zW
open Nat renaming zero_le → zF, le_refl → zR
set_option maxHeartbeats 8000000 in
theorem ref21_write {k : KSt} (h : k.ok) (c : Cmd) (hc : c.ns.length ≤ 100000) : Ct pG 41 (Zv.ops [k.pv,c.pv]) (.vals [(writeV k c).1.pv,(writeV k c).2.pv]) := by
 obtain ⟨hL,hT,hS⟩ := h.lens
 have hsq := h.2.2.2.2.2.2.2.1
 have cr := ref17_Run k.L k.seq c.ns (by omega) hc (by omega)
 have hf := @runV_facts k.L k.seq c.ns
 obtain ⟨t,p,e,hp⟩ : ∃ t p e,runV k.L k.seq c.ns = (t,p,e) := ⟨_,_,_,rfl⟩
 unfold writeV
 rw [hp] at cr hf ⊢
 simp only at cr hf ⊢
 refine Ct.of_V Tryz.func41 rfl (by simp [Zv.ops,Tryz.f41]) ?_
 refine V.exec 400 ?_
 simp +contextual (maxSteps:=9^7) only [go_sem,Tryz.f41,KSt.pv,Cmd.pv]
 refine V.call rfl rfl (by simp [dOK]) ⟨89,[],by simp only [go_sem],⟨_,rfl,rfl,rfl⟩,.inl ⟨[.row (k.L.map Pair.pv),.int .i64 k.seq,.row (c.ns.map Note.pv)],_,.inl (by simp only [go_sem]),cr,.inr (.inl ⟨_,rfl,rfl,rfl⟩)⟩⟩ ?_
 refine V.execS [6] 400 ?_
 by_cases h0 : e = 0
 ·have f := hf h0
  have htl : t.length ≤ 100000 := by omega
  have hw : IntKind.i64.wrap ((k.T.length : Int) + (t.length : Int)) = ((k.T.length + t.length : Nat) : Int) := by rw [wrap_small3] <;> omega
  have hws : IntKind.i64.wrap (k.seq + (t.length : Int)) = k.seq + (t.length : Int) := by
   have := f.2.2.2.1
   rw [wrap_small3] <;> omega
  by_cases h1 : 60 < p.length
  ·have h1' : (60 : Int) < (p.length : Int) := by omega
   simp +contextual (maxSteps:=9^7) only [go_sem,h0,h1,h1',Tell.bad,Tell.pv,Chunk.zero,true_or]
  ·have h1' : ¬ (60 : Int) < (p.length : Int) := by omega
   by_cases h2 : 60 < k.T.length + t.length
   ·have h2' : (60 : Int) < ((k.T.length + t.length : Nat) : Int) := by omega
    simp +contextual (maxSteps:=9^7) only [go_sem,h0,h1,h1',hw,h2,h2',Tell.bad,Tell.pv,Chunk.zero,false_or]
   ·have h2' : ¬ (60 : Int) < ((k.T.length + t.length : Nat) : Int) := by omega
    simp +contextual (maxSteps:=9^7) only [go_sem,h0,h1,h1',hw,h2,h2',hws,Tell.num,Tell.pv,Chunk.zero,false_or]
    refine V.exec 31 ?_
    simp +contextual (maxSteps:=9^7) only [go_sem,hws]
    refine V.sop _ (SemOp.buildN2 rfl rfl (by simp [dOK]) zr35 pl35 ag35 (ps := [.row (p.map Pair.pv),.row (k.S.map Sub.pv),.int .i64 (k.seq + (t.length : Int)),.int .i64 k.floor]) (by simp only [go_sem]) (z := [nilR,nilR,nilR,.int .i64 0,.int .i64 0]) rfl (cs := [.row (p.map Pair.pv),nilR,.row (k.S.map Sub.pv),.int .i64 (k.seq + (t.length : Int)),.int .i64 k.floor]) rfl (by decide)) (fun σ' h => ?_)
    subst h
    refine V.exec 12 ?_
    simp +contextual (maxSteps:=9^7) only [go_sem]
    refine V.sop _ (SemOp.rawl (j := 0) rfl (by simp only [go_sem,nilR]) (by simp [dOK])) (fun σ' h => ?_)
    subst h
    refine V.execS [9] 400 ?_
    simp +contextual (maxSteps:=9^7) only [go_sem,zM]
    refine ⟨fun _ _ => rfl,⟨by omega,by omega⟩,fun _ _ => rfl,⟨by omega,by omega⟩,?_⟩
    refine V.pubc 45 57 1 true [.val (.row (p.map Pair.pv)),.ref 57,.val (.row (k.S.map Sub.pv)),.val (.int .i64 (k.seq + (t.length : Int))),.val (.int .i64 k.floor)] 89 (k.T.map Change.pv ++ t.map Change.pv) (by simp only [go_sem]) rfl (by simp only [go_sem]) ?_
    refine V.exec 400 ?_
    simp +contextual (maxSteps:=9^7) only [go_sem,zM,Tell.num,Tell.pv,Chunk.zero,List.set_cons_succ,List.set_cons_zero]
    kernel_rfl
 ·simp +contextual (maxSteps:=9^7) only [go_sem,h0,Tell.bad,Tell.pv,Chunk.zero]
set_option maxHeartbeats 8000000 in
theorem ref21_follow {k : KSt} (h : k.ok) (c : Cmd) (hd : c.d = 7 ∨ c.d = 8 ∨ c.d = 9) : Ct pG 46 (Zv.ops [k.pv,c.pv]) (.vals [(doK k c).1.pv,(doK k c).2.pv]) := by
 obtain ⟨hL,hT,hS⟩ := h.lens
 have hv : doK k c = if c.d = 7 then (k,pollK k c) else goesV k c := by
  unfold doK
  rcases hd with e | e | e <;> simp [e]
 rw [hv]
 unfold pollK goesV
 have cf := ref20_Find k.S c.id (by omega)
 refine Ct.of_V Tryz.func46 rfl (by simp [Zv.ops,Tryz.f46]) ?_
 refine V.exec 400 ?_
 simp +contextual (maxSteps:=9^7) only [go_sem,Tryz.f46,KSt.pv,Cmd.pv]
 refine V.call rfl rfl (by simp [dOK]) ⟨93,[],by simp only [go_sem],⟨_,rfl,rfl,rfl⟩,.inl ⟨[.row (k.S.map Sub.pv),.int .i64 c.id],_,.inl (by simp only [go_sem]),cf,.inl ⟨_,rfl,rfl,rfl,rfl⟩⟩⟩ ?_
 refine V.exec 400 ?_
 cases hx : findL k.S c.id with
 | none =>
  have hn := refFind_neg.2 hx
  by_cases h7 : c.d = 7
  ·simp +contextual (maxSteps:=9^7) only [go_sem,hn,h7,Tell.bad,Tell.pv,Chunk.zero]
  ·simp +contextual (maxSteps:=9^7) only [go_sem,hn,h7,Tell.bad,Tell.pv,Chunk.zero]
 | some x =>
  obtain ⟨i,hi,hg,hil⟩ := find_at hx
  have hil' : (i : Int) < (k.S.length : Int) := by omega
  have hin : ¬ (i : Int) < 0 := by omega
  by_cases h7 : c.d = 7
  ·have cp := ref19_Poll x k.L k.T k.floor c.n (by omega) (by omega)
   obtain ⟨ch,e,hy⟩ : ∃ ch e,pollV x k.L k.T k.floor c.n = (ch,e) := ⟨_,_,rfl⟩
   rw [hy] at cp
   simp only at cp
   simp +contextual (maxSteps:=9^7) only [go_sem,hi,hg,hil',hin,Sub.pv,h7]
   refine V.call rfl rfl (by simp [dOK]) ⟨94,[],by simp only [go_sem],⟨_,rfl,rfl,rfl⟩,.inl ⟨[x.pv,.row (k.L.map Pair.pv),.row (k.T.map Change.pv),.int .i64 k.floor,.int .i64 c.n],_,.inl (by simp only [go_sem,Sub.pv]),cp,.inr (.inl ⟨_,rfl,rfl,rfl⟩)⟩⟩ ?_
   refine V.exec 400 ?_
   simp +contextual (maxSteps:=9^7) only [go_sem,Chunk.pv,Tell.pv,h7,hy]
   kernel_rfl
  ·have ca := ref19_Ack x k.seq c.seq
   by_cases h8 : c.d = 8
   ·have ct := ref19_Took x k.L k.T k.floor c.n (by omega) (by omega)
    obtain ⟨y,e,hy⟩ : ∃ y e,tookV x k.L k.T k.floor c.n = (y,e) := ⟨_,_,rfl⟩
    obtain ⟨z,e2,hz⟩ : ∃ z e2,ackV x k.seq c.seq = (z,e2) := ⟨_,_,rfl⟩
    rw [hy] at ct
    rw [hz] at ca
    simp only at ct ca
    have cs := ref20_Set k.S y (by omega)
    have cw := ref21_with k (setV k.S y).1 0 e
    simp +contextual (maxSteps:=9^7) only [go_sem,hi,hg,hil',hin,Sub.pv,h7]
    refine V.call rfl rfl (by simp [dOK]) ⟨95,[],by simp only [go_sem],⟨_,rfl,rfl,rfl⟩,.inl ⟨[x.pv,.int .i64 k.seq,.int .i64 c.seq],_,.inl (by simp only [go_sem,Sub.pv]),ca,.inr (.inl ⟨_,rfl,rfl,rfl⟩)⟩⟩ ?_
    refine V.exec 400 ?_
    simp +contextual (maxSteps:=9^7) only [go_sem,Sub.pv,h8]
    refine V.call rfl rfl (by simp [dOK]) ⟨96,[],by simp only [go_sem],⟨_,rfl,rfl,rfl⟩,.inl ⟨[x.pv,.row (k.L.map Pair.pv),.row (k.T.map Change.pv),.int .i64 k.floor,.int .i64 c.n],_,.inl (by simp only [go_sem,Sub.pv]),ct,.inr (.inl ⟨_,rfl,rfl,rfl⟩)⟩⟩ ?_
    refine V.exec 400 ?_
    simp +contextual (maxSteps:=9^7) only [go_sem,Sub.pv]
    refine V.call rfl rfl (by simp [dOK]) ⟨97,[],by simp only [go_sem],⟨_,rfl,rfl,rfl⟩,.inl ⟨[.row (k.S.map Sub.pv),y.pv],_,.inl (by simp only [go_sem,Sub.pv]),cs,.inr (.inl ⟨_,rfl,rfl,rfl⟩)⟩⟩ ?_
    refine V.exec 400 ?_
    simp +contextual (maxSteps:=9^7) only [go_sem]
    refine V.call rfl rfl (by simp [dOK]) ⟨45,[],by simp only [go_sem],⟨_,rfl,rfl,rfl⟩,.inl ⟨[k.pv,.row ((setV k.S y).1.map Sub.pv),.int .i64 0,.int .i64 e],_,.inl (by simp only [go_sem,KSt.pv]),cw,.inr (.inl ⟨_,rfl,rfl,rfl⟩)⟩⟩ ?_
    refine V.exec 400 ?_
    simp +contextual (maxSteps:=9^7) only [go_sem,KSt.pv,Tell.pv,h7,h8,hy]
   ·obtain ⟨z,e2,hz⟩ : ∃ z e2,ackV x k.seq c.seq = (z,e2) := ⟨_,_,rfl⟩
    rw [hz] at ca
    simp only at ca
    have cs := ref20_Set k.S z (by omega)
    have cw := ref21_with k (setV k.S z).1 0 e2
    simp +contextual (maxSteps:=9^7) only [go_sem,hi,hg,hil',hin,Sub.pv,h7]
    refine V.call rfl rfl (by simp [dOK]) ⟨95,[],by simp only [go_sem],⟨_,rfl,rfl,rfl⟩,.inl ⟨[x.pv,.int .i64 k.seq,.int .i64 c.seq],_,.inl (by simp only [go_sem,Sub.pv]),ca,.inr (.inl ⟨_,rfl,rfl,rfl⟩)⟩⟩ ?_
    refine V.exec 400 ?_
    simp +contextual (maxSteps:=9^7) only [go_sem,Sub.pv,h8]
    refine V.call rfl rfl (by simp [dOK]) ⟨97,[],by simp only [go_sem],⟨_,rfl,rfl,rfl⟩,.inl ⟨[.row (k.S.map Sub.pv),z.pv],_,.inl (by simp only [go_sem,Sub.pv]),cs,.inr (.inl ⟨_,rfl,rfl,rfl⟩)⟩⟩ ?_
    refine V.exec 400 ?_
    simp +contextual (maxSteps:=9^7) only [go_sem]
    refine V.call rfl rfl (by simp [dOK]) ⟨45,[],by simp only [go_sem],⟨_,rfl,rfl,rfl⟩,.inl ⟨[k.pv,.row ((setV k.S z).1.map Sub.pv),.int .i64 0,.int .i64 e2],_,.inl (by simp only [go_sem,KSt.pv]),cw,.inr (.inl ⟨_,rfl,rfl,rfl⟩)⟩⟩ ?_
    refine V.exec 400 ?_
    simp +contextual (maxSteps:=9^7) only [go_sem,KSt.pv,Tell.pv,h7,h8,hz]
set_option maxRecDepth 20000 in
set_option maxHeartbeats 32000000 in
theorem ref21_Do {k : KSt} (h : k.ok) (c : Cmd) (hc : c.ns.length ≤ 100000) : Ct pG 15 (Zv.ops [k.pv,c.pv]) (.vals [(doK k c).1.pv,(doK k c).2.pv]) := by
 obtain ⟨hL,hT,hS⟩ := h.lens
 refine Ct.of_V Tryz.func15 rfl (by simp [Zv.ops,Tryz.f15]) ?_
 refine V.exec 400 ?_
 simp +contextual (maxSteps:=9^7) only [go_sem,Tryz.f15,KSt.pv,Cmd.pv]
 by_cases d1 : c.d = 1
 ·have e1 := eq_true d1
  have hv : doK k c = writeV k c := by simp [doK,d1]
  rw [hv]
  have cw := ref21_write h c hc
  simp +contextual (maxSteps:=9^7) only [go_sem,e1]
  refine V.call rfl rfl (by simp [dOK]) ⟨41,[],by simp only [go_sem],⟨_,rfl,rfl,rfl⟩,.inl ⟨[k.pv,c.pv],_,.inl (by simp only [go_sem,KSt.pv,Cmd.pv,d1]),cw,.inr (.inl ⟨_,rfl,rfl,rfl⟩)⟩⟩ ?_
  refine V.exec 400 ?_
  simp +contextual (maxSteps:=9^7) only [go_sem,e1,KSt.pv,Tell.pv]
 by_cases d2 : c.d = 2
 ·have e2 := eq_true d2
  have hv : doK k c = (k,⟨0,0,(getV k.L c.key).2,(getV k.L c.key).1,Chunk.zero⟩) := by simp [doK,d2]
  rw [hv]
  have cf := ref10_Find k.L c.key (by omega)
  have hgv : getV k.L c.key = (match getL k.L c.key with | some p => (p.value,true) | none => ([],false)) := by unfold getV; rw [if_pos h.1]; cases getL k.L c.key <;> rfl
  rw [hgv]
  simp +contextual (maxSteps:=9^7) only [go_sem,e2,d1]
  refine V.call rfl rfl (by simp [dOK]) ⟨42,[],by simp only [go_sem],⟨_,rfl,rfl,rfl⟩,.inl ⟨[.row (k.L.map Pair.pv),.str c.key],_,.inl (by simp only [go_sem]),cf,.inl ⟨_,rfl,rfl,rfl,rfl⟩⟩⟩ ?_
  refine V.exec 400 ?_
  cases hg : getL k.L c.key with
  | none =>
   have hn := refFindP_neg hg
   have hm : (-1 : Int) < 0 := by decide
   simp +contextual (maxSteps:=9^7) only [go_sem,e2,d1,hn,hm,KSt.pv,Tell.pv,Chunk.zero]
  | some p =>
   obtain ⟨i,hi,hp,hil⟩ := refFindP_some ((pairsOk_iff k.L).1 h.1).1 hg
   have hin : ¬ (i : Int) < 0 := by omega
   have hil' : (i : Int) < (k.L.length : Int) := by omega
   simp +contextual (maxSteps:=9^7) only [go_sem,e2,d1,hi,hin,hp,hil',Pair.pv,KSt.pv,Tell.pv,Chunk.zero]
   kernel_rfl
 by_cases d3 : c.d = 3
 ·have e3 := eq_true d3
  have hv : doK k c = (k,pageK k c k.seq) := by simp [doK,d3]
  rw [hv]
  have cp := ref21_page h c k.seq
  simp +contextual (maxSteps:=9^7) only [go_sem,e3,d1,d2]
  refine DV.call [] [] (by simp only [go_sem,KSt.pv,Cmd.pv,d3]) (by simp [dOK]) ⟨43,[],by simp only [go_sem,KSt.pv,Cmd.pv,d3],⟨_,rfl,rfl,rfl⟩,.inl ⟨[k.pv,c.pv,.int .i64 k.seq],_,.inl (by simp only [go_sem,KSt.pv,Cmd.pv,d3]),cp,.inr (.inl ⟨_,rfl,rfl,rfl⟩)⟩⟩ (by simp only [go_sem,KSt.pv,Cmd.pv,d3]) (by simp only [go_sem,KSt.pv,Cmd.pv,d3]) (by simp only [go_sem,KSt.pv,Cmd.pv,d3]) (by simp) ?_
  refine DV.exec 400 ?_
  simp +contextual (maxSteps:=9^7) only [go_sem,KSt.pv,Tell.pv]
  kernel_rfl
 by_cases d4 : c.d = 4
 ·have e4 := eq_true d4
  have hv : doK k c = (k,pageK k c c.seq) := by simp [doK,d4]
  rw [hv]
  have cp := ref21_page h c c.seq
  simp +contextual (maxSteps:=9^7) only [go_sem,e4,d1,d2,d3]
  refine DV.call [] [] (by simp only [go_sem,KSt.pv,Cmd.pv,d4]) (by simp [dOK]) ⟨43,[],by simp only [go_sem,KSt.pv,Cmd.pv,d4],⟨_,rfl,rfl,rfl⟩,.inl ⟨[k.pv,c.pv,.int .i64 c.seq],_,.inl (by simp only [go_sem,KSt.pv,Cmd.pv,d4]),cp,.inr (.inl ⟨_,rfl,rfl,rfl⟩)⟩⟩ (by simp only [go_sem,KSt.pv,Cmd.pv,d4]) (by simp only [go_sem,KSt.pv,Cmd.pv,d4]) (by simp only [go_sem,KSt.pv,Cmd.pv,d4]) (by simp) ?_
  refine DV.exec 400 ?_
  simp +contextual (maxSteps:=9^7) only [go_sem,KSt.pv,Tell.pv]
  kernel_rfl
 by_cases d5 : c.d = 5
 ·have e5 := eq_true d5
  have hv : doK k c = joinV2 k ⟨0,c.r,false,[],k.seq⟩ := by simp [doK,d5]
  rw [hv]
  have ca := ref20_Add k.S ⟨0,c.r,false,[],k.seq⟩ (by omega)
  unfold joinV2
  generalize addV k.S ⟨0,c.r,false,[],k.seq⟩ = av at *
  obtain ⟨l,id,e⟩ := av
  have cw := ref21_with k l id e
  simp only at ca
  simp +contextual (maxSteps:=9^7) only [go_sem,e5,d1,d2,d3,d4]
  refine V.call rfl rfl (by simp [dOK]) ⟨44,[],by simp only [go_sem],⟨_,rfl,rfl,rfl⟩,.inl ⟨[.row (k.S.map Sub.pv),Sub.pv ⟨0,c.r,false,[],k.seq⟩],_,.inl (by simp only [go_sem,Sub.pv]),ca,.inr (.inl ⟨_,rfl,rfl,rfl⟩)⟩⟩ ?_
  refine V.exec 400 ?_
  simp +contextual (maxSteps:=9^7) only [go_sem,e5,d1,d2,d3,d4]
  refine V.call rfl rfl (by simp [dOK]) ⟨45,[],by simp only [go_sem],⟨_,rfl,rfl,rfl⟩,.inl ⟨[k.pv,.row (l.map Sub.pv),.int .i64 id,.int .i64 e],_,.inl (by simp only [go_sem,KSt.pv]),cw,.inr (.inl ⟨_,rfl,rfl,rfl⟩)⟩⟩ ?_
  refine V.exec 400 ?_
  simp +contextual (maxSteps:=9^7) only [go_sem,e5,d1,d2,d3,d4,KSt.pv,Tell.pv]
 by_cases d6 : c.d = 6
 ·have e6 := eq_true d6
  have hv : doK k c = (if c.seq < k.floor then (k,Tell.bad 8) else if k.seq < c.seq then (k,Tell.bad 9) else joinV2 k ⟨0,c.r,true,[],c.seq⟩) := by simp [doK,d6]
  rw [hv]
  have ca := ref20_Add k.S ⟨0,c.r,true,[],c.seq⟩ (by omega)
  by_cases q1 : c.seq < k.floor
  ·simp +contextual (maxSteps:=9^7) only [go_sem,e6,d1,d2,d3,d4,d5,q1,KSt.pv,Tell.pv,Tell.bad,Chunk.zero]
  by_cases q2 : k.seq < c.seq
  ·simp +contextual (maxSteps:=9^7) only [go_sem,e6,d1,d2,d3,d4,d5,q1,q2,KSt.pv,Tell.pv,Tell.bad,Chunk.zero]
  rw [if_neg q1,if_neg q2]
  unfold joinV2
  generalize addV k.S ⟨0,c.r,true,[],c.seq⟩ = av at *
  obtain ⟨l,id,e⟩ := av
  have cw := ref21_with k l id e
  simp only at ca
  simp +contextual (maxSteps:=9^7) only [go_sem,e6,d1,d2,d3,d4,d5,q1,q2]
  refine V.call rfl rfl (by simp [dOK]) ⟨44,[],by simp only [go_sem],⟨_,rfl,rfl,rfl⟩,.inl ⟨[.row (k.S.map Sub.pv),Sub.pv ⟨0,c.r,true,[],c.seq⟩],_,.inl (by simp only [go_sem,Sub.pv]),ca,.inr (.inl ⟨_,rfl,rfl,rfl⟩)⟩⟩ ?_
  refine V.exec 400 ?_
  simp +contextual (maxSteps:=9^7) only [go_sem,e6,d1,d2,d3,d4,d5]
  refine V.call rfl rfl (by simp [dOK]) ⟨45,[],by simp only [go_sem],⟨_,rfl,rfl,rfl⟩,.inl ⟨[k.pv,.row (l.map Sub.pv),.int .i64 id,.int .i64 e],_,.inl (by simp only [go_sem,KSt.pv]),cw,.inr (.inl ⟨_,rfl,rfl,rfl⟩)⟩⟩ ?_
  refine V.exec 400 ?_
  simp +contextual (maxSteps:=9^7) only [go_sem,e6,d1,d2,d3,d4,d5,KSt.pv,Tell.pv]
 by_cases d7 : c.d = 7
 ·have e7 := eq_true d7
  have cp := ref21_follow h c (.inl d7)
  simp +contextual (maxSteps:=9^7) only [go_sem,e7,d1,d2,d3,d4,d5,d6]
  refine V.call rfl rfl (by simp [dOK]) ⟨46,[],by simp only [go_sem],⟨_,rfl,rfl,rfl⟩,.inl ⟨[k.pv,c.pv],_,.inl (by simp only [go_sem,KSt.pv,Cmd.pv,d7]),cp,.inr (.inl ⟨_,rfl,rfl,rfl⟩)⟩⟩ ?_
  refine V.exec 400 ?_
  simp +contextual (maxSteps:=9^7) only [go_sem,e7,d1,d2,d3,d4,d5,d6,KSt.pv,Tell.pv]
 by_cases d8 : c.d = 8
 ·have e8 := eq_true d8
  have cp := ref21_follow h c (.inr (.inl d8))
  simp +contextual (maxSteps:=9^7) only [go_sem,e8,d1,d2,d3,d4,d5,d6,d7]
  refine V.call rfl rfl (by simp [dOK]) ⟨46,[],by simp only [go_sem],⟨_,rfl,rfl,rfl⟩,.inl ⟨[k.pv,c.pv],_,.inl (by simp only [go_sem,KSt.pv,Cmd.pv,d8]),cp,.inr (.inl ⟨_,rfl,rfl,rfl⟩)⟩⟩ ?_
  refine V.exec 400 ?_
  simp +contextual (maxSteps:=9^7) only [go_sem,e8,d1,d2,d3,d4,d5,d6,d7,KSt.pv,Tell.pv]
 by_cases d9 : c.d = 9
 ·have e9 := eq_true d9
  have cp := ref21_follow h c (.inr (.inr d9))
  simp +contextual (maxSteps:=9^7) only [go_sem,e9,d1,d2,d3,d4,d5,d6,d7,d8]
  refine V.call rfl rfl (by simp [dOK]) ⟨46,[],by simp only [go_sem],⟨_,rfl,rfl,rfl⟩,.inl ⟨[k.pv,c.pv],_,.inl (by simp only [go_sem,KSt.pv,Cmd.pv,d9]),cp,.inr (.inl ⟨_,rfl,rfl,rfl⟩)⟩⟩ ?_
  refine V.exec 400 ?_
  simp +contextual (maxSteps:=9^7) only [go_sem,e9,d1,d2,d3,d4,d5,d6,d7,d8,KSt.pv,Tell.pv]
 by_cases d10 : c.d = 10
 ·have e10 := eq_true d10
  have hv : doK k c = withV k (leaveV k.S c.id).1 0 (leaveV k.S c.id).2 := by simp [doK,d10]
  rw [hv]
  have ca := ref20_Leave k.S c.id (by omega)
  generalize leaveV k.S c.id = av at *
  obtain ⟨l,e⟩ := av
  have cw := ref21_with k l 0 e
  simp only at ca
  simp +contextual (maxSteps:=9^7) only [go_sem,e10,d1,d2,d3,d4,d5,d6,d7,d8,d9]
  refine V.call rfl rfl (by simp [dOK]) ⟨47,[],by simp only [go_sem],⟨_,rfl,rfl,rfl⟩,.inl ⟨[.row (k.S.map Sub.pv),.int .i64 c.id],_,.inl (by simp only [go_sem]),ca,.inr (.inl ⟨_,rfl,rfl,rfl⟩)⟩⟩ ?_
  refine V.exec 400 ?_
  simp +contextual (maxSteps:=9^7) only [go_sem,e10,d1,d2,d3,d4,d5,d6,d7,d8,d9]
  refine V.call rfl rfl (by simp [dOK]) ⟨45,[],by simp only [go_sem],⟨_,rfl,rfl,rfl⟩,.inl ⟨[k.pv,.row (l.map Sub.pv),.int .i64 0,.int .i64 e],_,.inl (by simp only [go_sem,KSt.pv]),cw,.inr (.inl ⟨_,rfl,rfl,rfl⟩)⟩⟩ ?_
  refine V.exec 400 ?_
  simp +contextual (maxSteps:=9^7) only [go_sem,e10,d1,d2,d3,d4,d5,d6,d7,d8,d9,KSt.pv,Tell.pv]
 by_cases d11 : c.d = 11
 ·have e11 := eq_true d11
  have hv : doK k c = trimV k := by simp [doK,d11]
  rw [hv]
  have ca := ref20_Of k.seq k.S (by omega)
  have cd := ref16_Drop h.2.1 (floorOf k.seq k.S) (by omega)
  unfold trimV
  simp +contextual (maxSteps:=9^7) only [go_sem,e11,d1,d2,d3,d4,d5,d6,d7,d8,d9,d10]
  refine V.call rfl rfl (by simp [dOK]) ⟨48,[],by simp only [go_sem],⟨_,rfl,rfl,rfl⟩,.inl ⟨[.int .i64 k.seq,.row (k.S.map Sub.pv)],_,.inl (by simp only [go_sem]),ca,.inl ⟨_,rfl,rfl,rfl,rfl⟩⟩⟩ ?_
  refine V.exec 400 ?_
  simp +contextual (maxSteps:=9^7) only [go_sem,e11,d1,d2,d3,d4,d5,d6,d7,d8,d9,d10]
  refine DV.call [] [] (by simp only [go_sem]) (by simp [dOK]) ⟨49,[],by simp only [go_sem],⟨_,rfl,rfl,rfl⟩,.inl ⟨[.row (k.T.map Change.pv),.int .i64 (floorOf k.seq k.S)],_,.inl (by simp only [go_sem]),cd,.inr (.inl ⟨_,rfl,rfl,rfl⟩)⟩⟩ (by simp only [go_sem]) (by simp only [go_sem]) (by simp only [go_sem]) (by simp) ?_
  refine DV.exec 400 ?_
  simp +contextual (maxSteps:=9^7) only [go_sem,KSt.pv,Tell.pv,Tell.num,Chunk.zero]
  kernel_rfl
 by_cases d12 : c.d = 12
 ·have e12 := eq_true d12
  have hv : doK k c = (k,Tell.num k.seq) := by simp [doK,d12]
  rw [hv]
  simp +contextual (maxSteps:=9^7) only [go_sem,e12,d1,d2,d3,d4,d5,d6,d7,d8,d9,d10,d11,KSt.pv,Tell.pv,Tell.num,Chunk.zero]
  show (_ : Bool) = true
  kernel_rfl
 have hv : doK k c = (k,Tell.bad 1) := by simp [doK,d1,d2,d3,d4,d5,d6,d7,d8,d9,d10,d11,d12]
 rw [hv]
 simp +contextual (maxSteps:=9^7) only [go_sem,d1,d2,d3,d4,d5,d6,d7,d8,d9,d10,d11,d12,KSt.pv,Tell.pv,Tell.bad,Chunk.zero]
theorem puts_ok {L : List Pair} (h : pairsOk L) : notesOk (L.map noteP) ∧ appV [] (L.map noteP) = L := by
 obtain ⟨h1,h2⟩ := (pairsOk_iff L).1 h
 refine ⟨fun x hx => ?_,put_all L (l := []) h1⟩
 obtain ⟨p,hp,rfl⟩ := zN.1 hx
 have := h2 p hp
 exact ⟨this.1,this.2,.inl ⟨rfl,rfl⟩⟩
set_option maxRecDepth 10000 in
set_option maxHeartbeats 16000000 in
theorem keeper_Of_bad (k : KSt) (hk : ¬ k.ok) (hL : k.L.length ≤ 100000) (hT : k.T.length ≤ 100000) (hS : k.S.length ≤ 100000) : Ct pG 26 (Zv.ops [k.pv]) (.vals [storeX none KSt.zero,.int .i64 1]) := by
 have c1 := keeper_Right k hL hT hS
 refine Ct.of_V Tryz.func26 rfl (by simp [Zv.ops,Tryz.f26]) ?_
 refine V.exec 400 ?_
 simp +contextual (maxSteps:=9^7) only [go_sem,Tryz.f26,KSt.pv]
 refine V.call rfl rfl (by simp [dOK]) ⟨22,[],by simp only [go_sem],⟨_,rfl,rfl,rfl⟩,.inl ⟨[k.pv],_,.inl (by simp only [go_sem,KSt.pv]),c1,.inl ⟨_,rfl,rfl,rfl,rfl⟩⟩⟩ ?_
 refine V.exec 400 ?_
 simp +contextual (maxSteps:=9^7) only [go_sem,hk,storeX,KSt.zero,trX,zB]
set_option maxRecDepth 10000 in
set_option maxHeartbeats 16000000 in
theorem keeper_Of {k : KSt} (hk : k.ok) : ∃ v H,Ct pG 26 (Zv.ops [k.pv]) (.vals [storeX v k,.int .i64 0]) ∧ GoodT v k.L H 61 := by
 obtain ⟨hL,hT,hS⟩ := hk.lens
 obtain ⟨p1,p2⟩ := puts_ok hk.1
 obtain ⟨v,ca,gv⟩ := tree_ApplyK GoodT.empty (k.L.map noteP) p1 (by simp; omega)
 rw [p2] at gv
 refine ⟨v,1000,?_,gv.mono (by simp; omega) (by simp; omega)⟩
 have c1 := keeper_Right k (by omega) (by omega) (by omega)
 have c2 := (CloneChange (k.T.map Change.pv) (fun x hx => by obtain ⟨c,_,rfl⟩ := zN.1 hx; rfl) (by simp; omega)).forget
 have c3 := (CloneSub (k.S.map Sub.pv) (fun x hx => by obtain ⟨c,_,rfl⟩ := zN.1 hx; rfl) (by simp; omega)).forget
 refine Ct.of_V Tryz.func26 rfl (by simp [Zv.ops,Tryz.f26]) ?_
 refine V.exec 400 ?_
 simp +contextual (maxSteps:=9^7) only [go_sem,Tryz.f26,KSt.pv]
 refine V.call rfl rfl (by simp [dOK]) ⟨22,[],by simp only [go_sem],⟨_,rfl,rfl,rfl⟩,.inl ⟨[k.pv],_,.inl (by simp only [go_sem,KSt.pv]),c1,.inl ⟨_,rfl,rfl,rfl,rfl⟩⟩⟩ ?_
 refine V.exec 400 ?_
 simp +contextual (maxSteps:=9^7) only [go_sem,hk]
 refine V.loop (fun m ls os => ∃ i : Nat,i ≤ k.L.length ∧ m = k.L.length - i ∧
   ls = [(1,.adr 0 0),(2,.adr 1 0),(4,.ref 2),(14,.val (.row (k.L.map Pair.pv))),(15,.val (.int .i64 k.L.length)),(16,.val (.int .i64 i))] ∧
   os = [.box true [.val (.row (k.L.map Pair.pv)),.val (.row (k.T.map Change.pv)),.val (.row (k.S.map Sub.pv)),.val (.int .i64 k.seq),.val (.int .i64 k.floor)],
    .box true [.val .nilp,.nils,.nils,.val (.int .i64 0),.val (.int .i64 0)],.row 72 (((k.L.take i).map noteP).map Note.pv)]) 3 k.L.length
  [(1,.adr 0 0),(2,.adr 1 0),(4,.ref 2),(14,.val (.row (k.L.map Pair.pv))),(15,.val (.int .i64 k.L.length)),(16,.val (.int .i64 0))]
  [.box true [.val (.row (k.L.map Pair.pv)),.val (.row (k.T.map Change.pv)),.val (.row (k.S.map Sub.pv)),.val (.int .i64 k.seq),.val (.int .i64 k.floor)],
    .box true [.val .nilp,.nils,.nils,.val (.int .i64 0),.val (.int .i64 0)],.row 72 []]
  [some 1,some 2,none] ⟨0,zF _,rfl,rfl,rfl⟩ (by simp only [go_sem]; try decide) ?_
 rintro m ls os ⟨i,hi,rfl,rfl,rfl⟩
 refine V.exec 400 ?_
 by_cases hlt : i < k.L.length
 ·have hlt' : (i : Int) < (k.L.length : Int) := by omega
  obtain ⟨x,hx⟩ : ∃ x,k.L[i]? = some x := ⟨_,zA hlt⟩
  have hwi : IntKind.i64.wrap ((i : Int) + 1) = ((i + 1 : Nat) : Int) := by rw [wrap_small3] <;> omega
  have et : (k.L.take (i + 1)).map noteP = (k.L.take i).map noteP ++ [noteP x] := by rw [zL,hx]; simp
  have hlen : ((k.L.take i).map noteP).length ≤ 60 := by simp; omega
  generalize (k.L.take i).map noteP = Q at *
  simp +contextual (maxSteps:=9^7) only [go_sem,hlt',hx,Pair.pv,hwi]
  refine ⟨⟨by omega,by omega⟩,k.L.length - (i + 1),_,_,[some 0,some 1,some 15],by omega,⟨i + 1,by omega,rfl,rfl,rfl⟩,?_⟩
  simp only [go_sem,et,zM,zC,zB,Note.pv,noteP]
  try decide
 ·have hlt' : ¬ (i : Int) < (k.L.length : Int) := by omega
  obtain rfl : i = k.L.length := by omega
  have et : (k.L.take k.L.length).map noteP = k.L.map noteP := by rw [List.take_length]
  rw [et]
  simp +contextual (maxSteps:=9^7) only [go_sem,hlt']
  refine V.call rfl rfl (by simp [dOK]) ⟨63,[],by simp only [go_sem],⟨_,rfl,rfl,rfl⟩,.inl ⟨[.agg [trX none],.row ((k.L.map noteP).map Note.pv)],_,.inl (by simp only [go_sem,trX]),ca,.inr (.inl ⟨_,rfl,rfl,rfl⟩)⟩⟩ ?_
  refine V.exec 400 ?_
  simp +contextual (maxSteps:=9^7) only [go_sem,trX_cells,trX_agg]
  refine DV.call [] [] (by simp only [go_sem]) (by simp [dOK]) ⟨54,[],by simp only [go_sem],⟨_,rfl,rfl,rfl⟩,.inl ⟨[.row (k.T.map Change.pv)],_,.inl (by simp only [go_sem]),c2,.inr (.inl ⟨_,rfl,rfl,rfl⟩)⟩⟩ (by simp only [go_sem]) (by simp only [go_sem]) (by simp only [go_sem]) (by simp) ?_
  refine DV.exec 400 ?_
  simp +contextual (maxSteps:=9^7) only [go_sem,trX_cells,trX_agg]
  refine DV.call [] [] (by simp only [go_sem]) (by simp [dOK]) ⟨55,[],by simp only [go_sem],⟨_,rfl,rfl,rfl⟩,.inl ⟨[.row (k.S.map Sub.pv)],_,.inl (by simp only [go_sem]),c3,.inr (.inl ⟨_,rfl,rfl,rfl⟩)⟩⟩ (by simp only [go_sem]) (by simp only [go_sem]) (by simp only [go_sem]) (by simp) ?_
  refine DV.exec 400 ?_
  simp +contextual (maxSteps:=9^7) only [go_sem,trX_cells,trX_agg,storeX]
  kernel_rfl
def kbox (k : KSt) : Ob := .box true [.val (.row (k.L.map Pair.pv)),.val (.row (k.T.map Change.pv)),.val (.row (k.S.map Sub.pv)),.val (.int .i64 k.seq),.val (.int .i64 k.floor)]
set_option maxRecDepth 10000 in
set_option maxHeartbeats 16000000 in
theorem ref21_Right (k : KSt) (hL : k.L.length ≤ 100000) (hT : k.T.length ≤ 100000) (hS : k.S.length ≤ 100000) : Ct pG 27 (Zv.ops [k.pv]) (.vals [.bool (decide k.ok)]) := by
 have c1 := ref10_Right k.L (by omega)
 have c2 := ref16_Right k.T (by omega)
 have c3 := ref20_Right k.S (by omega)
 have c4 := ref15_Undo k.L k.T (by omega) (by omega)
 refine Ct.of_V Tryz.func27 rfl (by simp [Zv.ops,Tryz.f27]) ?_
 refine V.exec 400 ?_
 simp +contextual (maxSteps:=9^7) only [go_sem,Tryz.f27,KSt.pv]
 refine DV.call [] [] (by simp only [go_sem]) (by simp [dOK]) ⟨64,[],by simp only [go_sem],⟨_,rfl,rfl,rfl⟩,.inl ⟨[.row (k.L.map Pair.pv)],_,.inl (by simp only [go_sem]),c1,.inl ⟨_,rfl,rfl,rfl,rfl⟩⟩⟩ (by simp only [go_sem]) (by simp only [go_sem]) (by simp only [go_sem]) (by simp) ?_
 refine DV.exec 400 ?_
 simp +contextual (maxSteps:=9^7) only [go_sem]
 refine DV.call [] [] (by simp only [go_sem]) (by simp [dOK]) ⟨65,[],by simp only [go_sem],⟨_,rfl,rfl,rfl⟩,.inl ⟨[.row (k.T.map Change.pv)],_,.inl (by simp only [go_sem]),c2,.inl ⟨_,rfl,rfl,rfl,rfl⟩⟩⟩ (by simp only [go_sem]) (by simp only [go_sem]) (by simp only [go_sem]) (by simp) ?_
 refine DV.exec 400 ?_
 simp +contextual (maxSteps:=9^7) only [go_sem]
 refine DV.call [] [] (by simp only [go_sem]) (by simp [dOK]) ⟨66,[],by simp only [go_sem],⟨_,rfl,rfl,rfl⟩,.inl ⟨[.row (k.S.map Sub.pv)],_,.inl (by simp only [go_sem]),c3,.inl ⟨_,rfl,rfl,rfl,rfl⟩⟩⟩ (by simp only [go_sem]) (by simp only [go_sem]) (by simp only [go_sem]) (by simp) ?_
 refine DV.exec 400 ?_
 by_cases p1 : pairsOk k.L
 case neg =>
  have hv : ¬ k.ok := fun h => p1 h.1
  simp +contextual (maxSteps:=9^7) only [go_sem,p1,hv]
  kernel_rfl
 by_cases p2 : trailOk k.T
 case neg =>
  have hv : ¬ k.ok := fun h => p2 h.2.1
  simp +contextual (maxSteps:=9^7) only [go_sem,p1,p2,hv]
  kernel_rfl
 by_cases p3 : subsOk k.S
 case neg =>
  have hv : ¬ k.ok := fun h => p3 h.2.2.1
  simp +contextual (maxSteps:=9^7) only [go_sem,p1,p2,p3,hv]
  kernel_rfl
 by_cases h5 : 60 < k.L.length
 ·have hv : ¬ k.ok := fun h => by have := h.2.2.2.1; omega
  have h5' : (60 : Int) < (k.L.length : Int) := by omega
  simp +contextual (maxSteps:=9^7) only [go_sem,p1,p2,p3,h5',hv]
  kernel_rfl
 have h5' : ¬ (60 : Int) < (k.L.length : Int) := by omega
 by_cases h6 : 60 < k.T.length
 ·have hv : ¬ k.ok := fun h => by have := h.2.2.2.2.1; omega
  have h6' : (60 : Int) < (k.T.length : Int) := by omega
  simp +contextual (maxSteps:=9^7) only [go_sem,p1,p2,p3,h5',h6',hv]
  kernel_rfl
 have h6' : ¬ (60 : Int) < (k.T.length : Int) := by omega
 by_cases h3 : k.floor < 0
 ·have hv : ¬ k.ok := fun h => by have := h.2.2.2.2.2.1; omega
  simp +contextual (maxSteps:=9^7) only [go_sem,p1,p2,p3,h5',h6',h3,hv]
  kernel_rfl
 by_cases h4 : k.seq < k.floor
 ·have hv : ¬ k.ok := fun h => by have := h.2.2.2.2.2.2.1; omega
  simp +contextual (maxSteps:=9^7) only [go_sem,p1,p2,p3,h5',h6',h3,h4,hv]
  kernel_rfl
 by_cases h2 : 2147483647 < k.seq
 ·have hv : ¬ k.ok := fun h => by have := h.2.2.2.2.2.2.2.1; omega
  simp +contextual (maxSteps:=9^7) only [go_sem,p1,p2,p3,h5',h6',h3,h4,h2,hv]
  kernel_rfl
 simp +contextual (maxSteps:=9^7) only [go_sem,p1,p2,p3,h5',h6',h3,h4,h2]
 refine ⟨by kernel_rfl,?_⟩
 refine V.loop (fun m ls os => ∃ i : Nat,i ≤ k.T.length ∧ m = k.T.length - i ∧ (∀ c ∈ k.T.take i,k.floor < c.seq ∧ c.seq ≤ k.seq) ∧
   ls = [(1,.adr 0 0),(6,.val (.int .i64 i))] ∧ os = [kbox k]) 1 k.T.length
  [(1,.adr 0 0),(6,.val (.int .i64 0))] [kbox k] [some 1]
  ⟨0,zF _,rfl,fun c hc => by simp at hc,rfl,rfl⟩ (by simp only [go_sem,kbox]; try decide) ?_
 rintro m ls os ⟨i,hi,rfl,hall,rfl,rfl⟩
 by_cases hlt : i < k.T.length
 ·have hlt' : (i : Int) < (k.T.length : Int) := by omega
  obtain ⟨x,hx⟩ : ∃ x,k.T[i]? = some x := ⟨_,zA hlt⟩
  have hwi : IntKind.i64.wrap ((i : Int) + 1) = ((i + 1 : Nat) : Int) := by rw [wrap_small3] <;> omega
  have hxm := zE hx
  refine V.exec 400 ?_
  by_cases q1 : x.seq ≤ k.floor
  ·have hv : ¬ k.ok := fun h => by have := (h.2.2.2.2.2.2.2.2.1 x hxm).1; omega
   simp +contextual (maxSteps:=9^7) only [go_sem,hlt',hx,Change.pv,q1,hv,kbox]
   try kernel_rfl
  ·by_cases q2 : k.seq < x.seq
   ·have hv : ¬ k.ok := fun h => by have := (h.2.2.2.2.2.2.2.2.1 x hxm).2; omega
    simp +contextual (maxSteps:=9^7) only [go_sem,hlt',hx,Change.pv,q1,q2,hv,kbox]
    try kernel_rfl
   ·simp +contextual (maxSteps:=9^7) only [go_sem,hlt',hx,Change.pv,q1,q2,hwi,kbox]
    refine ⟨by kernel_rfl,k.T.length - (i + 1),_,_,[some 0],by omega,⟨i + 1,by omega,rfl,fun c hc => ?_,rfl,rfl⟩,by simp only [go_sem,kbox]; try decide⟩
    rw [zL,hx] at hc
    simp only [Option.toList_some,zO,List.mem_singleton] at hc
    rcases hc with hc | rfl
    ·exact hall c hc
    ·omega
 ·have hlt' : ¬ (i : Int) < (k.T.length : Int) := by omega
  obtain rfl : i = k.T.length := by omega
  rw [List.take_length] at hall
  refine V.exec 400 ?_
  simp +contextual (maxSteps:=9^7) only [go_sem,hlt',kbox]
  refine V.loop (fun m ls os => ∃ i : Nat,i ≤ k.S.length ∧ m = k.S.length - i ∧ (∀ s ∈ k.S.take i,k.floor ≤ s.cur ∧ s.cur ≤ k.seq) ∧
    ls = [(1,.adr 0 0),(7,.val (.int .i64 i))] ∧ os = [kbox k]) 1 k.S.length
   [(1,.adr 0 0),(7,.val (.int .i64 0))] [kbox k] [some 0]
   ⟨0,zF _,rfl,fun c hc => by simp at hc,rfl,rfl⟩ (by simp only [go_sem,kbox]; try decide) ?_
  rintro m ls os ⟨i,hi,rfl,halls,rfl,rfl⟩
  by_cases hlt : i < k.S.length
  ·have hlt' : (i : Int) < (k.S.length : Int) := by omega
   obtain ⟨x,hx⟩ : ∃ x,k.S[i]? = some x := ⟨_,zA hlt⟩
   have hwi : IntKind.i64.wrap ((i : Int) + 1) = ((i + 1 : Nat) : Int) := by rw [wrap_small3] <;> omega
   have hxm := zE hx
   refine V.exec 400 ?_
   by_cases q1 : x.cur < k.floor
   ·have hv : ¬ k.ok := fun h => by have := (h.2.2.2.2.2.2.2.2.2.1 x hxm).1; omega
    simp +contextual (maxSteps:=9^7) only [go_sem,hlt',hx,Sub.pv,q1,hv,kbox]
    try kernel_rfl
   ·by_cases q2 : k.seq < x.cur
    ·have hv : ¬ k.ok := fun h => by have := (h.2.2.2.2.2.2.2.2.2.1 x hxm).2; omega
     simp +contextual (maxSteps:=9^7) only [go_sem,hlt',hx,Sub.pv,q1,q2,hv,kbox]
     try kernel_rfl
    ·simp +contextual (maxSteps:=9^7) only [go_sem,hlt',hx,Sub.pv,q1,q2,hwi,kbox]
     refine ⟨by kernel_rfl,k.S.length - (i + 1),_,_,[some 0],by omega,⟨i + 1,by omega,rfl,fun c hc => ?_,rfl,rfl⟩,by simp only [go_sem,kbox]; try decide⟩
     rw [zL,hx] at hc
     simp only [Option.toList_some,zO,List.mem_singleton] at hc
     rcases hc with hc | rfl
     ·exact halls c hc
     ·omega
  ·have hlt' : ¬ (i : Int) < (k.S.length : Int) := by omega
   obtain rfl : i = k.S.length := by omega
   rw [List.take_length] at halls
   have hfin : decide ((undoV k.L k.T).2 = 0) = decide k.ok := by
    apply decide_eq_decide.2
    rw [undoV_go p1]
    constructor
    ·intro h0
     refine ⟨p1,p2,p3,by omega,by omega,by omega,by omega,by omega,hall,halls,?_⟩
     cases hb : backGo k.L k.T with
     | none => rw [hb] at h0; simp at h0
     | some q => rfl
    ·intro hk
     obtain ⟨q,hq⟩ := Option.isSome_iff_exists.1 hk.2.2.2.2.2.2.2.2.2.2
     rw [hq]
   refine V.exec 400 ?_
   simp +contextual (maxSteps:=9^7) only [go_sem,hlt',kbox]
   refine V.call rfl rfl (by simp [dOK]) ⟨67,[],by simp only [go_sem],⟨_,rfl,rfl,rfl⟩,.inl ⟨[.row (k.L.map Pair.pv),.row (k.T.map Change.pv)],_,.inl (by simp only [go_sem]),c4,.inr (.inl ⟨_,rfl,rfl,rfl⟩)⟩⟩ ?_
   refine V.exec 400 ?_
   simp +contextual (maxSteps:=9^7) only [go_sem,hfin]
def smallK (k : KSt) : Prop := k.L.length ≤ 70 ∧ k.T.length ≤ 70 ∧ k.S.length ≤ 10 ∧ ∀ p ∈ k.L,p.key.length ≤ 300 ∧ p.value.length ≤ 300
instance instSmallK (k : KSt) : Decidable (smallK k) := by unfold smallK; infer_instance
set_option maxHeartbeats 8000000 in
theorem law_smallK (k : KSt) : Ct pG 25 (Zv.ops [k.pv]) (.vals [.bool (decide (smallK k))]) := by
 refine Ct.of_V Tryz.func25 rfl (by simp [Zv.ops,Tryz.f25]) ?_
 refine V.exec 400 ?_
 simp +contextual (maxSteps:=9^7) only [go_sem,Tryz.f25,KSt.pv]
 by_cases h1 : 70 < k.L.length
 ·have hv : ¬ smallK k := fun h => by have := h.1; omega
  have h1' : (70 : Int) < (k.L.length : Int) := by omega
  simp +contextual (maxSteps:=9^7) only [go_sem,h1',hv]
 have h1' : ¬ (70 : Int) < (k.L.length : Int) := by omega
 by_cases h2 : 70 < k.T.length
 ·have hv : ¬ smallK k := fun h => by have := h.2.1; omega
  have h2' : (70 : Int) < (k.T.length : Int) := by omega
  simp +contextual (maxSteps:=9^7) only [go_sem,h1',h2',hv]
 have h2' : ¬ (70 : Int) < (k.T.length : Int) := by omega
 by_cases h3 : 10 < k.S.length
 ·have hv : ¬ smallK k := fun h => by have := h.2.2.1; omega
  have h3' : (10 : Int) < (k.S.length : Int) := by omega
  simp +contextual (maxSteps:=9^7) only [go_sem,h1',h2',h3',hv]
 have h3' : ¬ (10 : Int) < (k.S.length : Int) := by omega
 simp +contextual (maxSteps:=9^7) only [go_sem,h1',h2',h3']
 refine V.loop (fun m ls os => ∃ i : Nat,i ≤ k.L.length ∧ m = k.L.length - i ∧ (∀ p ∈ k.L.take i,p.key.length ≤ 300 ∧ p.value.length ≤ 300) ∧
   ls = [(22,.val (.row (k.L.map Pair.pv))),(23,.val (.int .i64 k.L.length)),(24,.val (.int .i64 i))] ∧ os = []) 0 k.L.length
  [(22,.val (.row (k.L.map Pair.pv))),(23,.val (.int .i64 k.L.length)),(24,.val (.int .i64 0))] [] []
  ⟨0,zF _,rfl,fun c hc => by simp at hc,rfl,rfl⟩ (by simp only [go_sem]; try decide) ?_
 rintro m ls os ⟨i,hi,rfl,hall,rfl,rfl⟩
 by_cases hlt : i < k.L.length
 ·have hlt' : (i : Int) < (k.L.length : Int) := by omega
  obtain ⟨x,hx⟩ : ∃ x,k.L[i]? = some x := ⟨_,zA hlt⟩
  have hwi : IntKind.i64.wrap ((i : Int) + 1) = ((i + 1 : Nat) : Int) := by rw [wrap_small3] <;> omega
  have hxm := zE hx
  refine V.exec 400 ?_
  by_cases q1 : 300 < x.key.length
  ·have hv : ¬ smallK k := fun h => by have := (h.2.2.2 x hxm).1; omega
   have q1' : (300 : Int) < (x.key.length : Int) := by omega
   simp +contextual (maxSteps:=9^7) only [go_sem,hlt',hx,Pair.pv,q1',hv]
  ·have q1' : ¬ (300 : Int) < (x.key.length : Int) := by omega
   by_cases q2 : 300 < x.value.length
   ·have hv : ¬ smallK k := fun h => by have := (h.2.2.2 x hxm).2; omega
    have q2' : (300 : Int) < (x.value.length : Int) := by omega
    simp +contextual (maxSteps:=9^7) only [go_sem,hlt',hx,Pair.pv,q1',q2',hv]
   ·have q2' : ¬ (300 : Int) < (x.value.length : Int) := by omega
    simp +contextual (maxSteps:=9^7) only [go_sem,hlt',hx,Pair.pv,q1',q2',hwi]
    refine ⟨k.L.length - (i + 1),_,_,[],by omega,⟨i + 1,by omega,rfl,fun c hc => ?_,rfl,rfl⟩,by simp only [go_sem]; try decide⟩
    rw [zL,hx] at hc
    simp only [Option.toList_some,zO,List.mem_singleton] at hc
    rcases hc with hc | rfl
    ·exact hall c hc
    ·omega
 ·have hlt' : ¬ (i : Int) < (k.L.length : Int) := by omega
  obtain rfl : i = k.L.length := by omega
  rw [List.take_length] at hall
  have hv : smallK k := ⟨by omega,by omega,by omega,hall⟩
  refine V.exec 400 ?_
  simp +contextual (maxSteps:=9^7) only [go_sem,hlt',hv]
abbrev stateSh : List SK := [.r [.str,.str],.r [.int .i64,.str,.bool,.str,.bool,.str],.r [.int .i64,.str,.str,.bool,.bool,.str,.int .i64],.k (.int .i64),.k (.int .i64)]
theorem state_one {qs : List PV} (h : mSs stateSh qs) : ∃ k : KSt,PV.agg qs = k.pv := by
 obtain ⟨p1,q1,rfl,⟨xs,rfl,_,h1⟩,h⟩ := h
 obtain ⟨p2,q2,rfl,⟨ys,rfl,_,h2⟩,h⟩ := h
 obtain ⟨p3,q3,rfl,⟨zs,rfl,_,h3⟩,h⟩ := h
 obtain ⟨p4,q4,rfl,⟨k4,_⟩,h⟩ := h
 obtain ⟨p5,q5,rfl,⟨k5,_⟩,h⟩ := h
 cases h
 obtain ⟨a4,rfl⟩ := kd_int k4
 obtain ⟨a5,rfl⟩ := kd_int k5
 obtain ⟨l,rfl⟩ := pair_of xs h1
 obtain ⟨t,rfl⟩ := change_of' ys h2
 obtain ⟨s,rfl⟩ := sub_of zs h3
 exact ⟨⟨l,t,s,a4,a5⟩,rfl⟩
set_option maxRecDepth 20000 in
set_option maxHeartbeats 32000000 in
theorem law_Of (k : KSt) (c : Cmd) (hcl : c.ns.length ≤ maxLen) : Ct pG 9 (Zv.ops [k.pv,c.pv]) (.vals [.bool true]) := by
 have hmax : maxLen = 9223372036854775807 := rfl
 rw [hmax] at hcl
 have aw := law_awake
 have cm := law_smallK k
 have cf1 := law_Few [c] 1 (by simp) (by decide)
 rw [show ((1 : Nat) : Int) = 1 from rfl,show min [c].length 1 = 1 from rfl,show ((1 : Nat) : Int) = 1 from rfl] at cf1
 have hm1 : (-1 : Int) < 0 := by decide
 have h10 : ¬ (1 : Int) < 0 := by decide
 have h1z : ¬ (1 : Int) = 0 := by decide
 refine Ct.of_V Tryz.func9 rfl (by simp [Zv.ops,Tryz.f9]) ?_
 refine V.exec 400 ?_
 simp +contextual (maxSteps:=9^7) only [go_sem,Tryz.f9,KSt.pv,Cmd.pv]
 refine V.call rfl rfl (by simp [dOK]) ⟨25,[],by simp only [go_sem],⟨_,rfl,rfl,rfl⟩,.inl ⟨[k.pv],_,.inl (by simp only [go_sem,KSt.pv]),cm,.inl ⟨_,rfl,rfl,rfl,rfl⟩⟩⟩ ?_
 refine V.exec 400 ?_
 by_cases hs : smallK k
 case neg =>
  simp +contextual (maxSteps:=9^7) only [go_sem,hs]
  refine V.call rfl rfl (by simp [dOK]) ⟨13,[],by simp only [go_sem],⟨_,rfl,rfl,rfl⟩,.inl ⟨[],_,.inl (by simp only [go_sem]),aw,.inl ⟨_,rfl,rfl,rfl,rfl⟩⟩⟩ ?_
  refine V.exec 400 ?_
  simp +contextual (maxSteps:=9^7) only [go_sem]
 simp +contextual (maxSteps:=9^7) only [go_sem,hs]
 refine V.call rfl rfl (by simp [dOK]) ⟨12,[],by simp only [go_sem],⟨_,rfl,rfl,rfl⟩,.inl ⟨[.row ([c].map Cmd.pv),.int .i64 1],_,.inl (by simp only [go_sem,Cmd.pv,zC,zB]),cf1,.inl ⟨_,rfl,rfl,rfl,rfl⟩⟩⟩ ?_
 refine V.exec 400 ?_
 by_cases hf1 : fewK [c] 1
 case neg =>
  simp +contextual (maxSteps:=9^7) only [go_sem,hf1,hm1]
  refine V.call rfl rfl (by simp [dOK]) ⟨13,[],by simp only [go_sem],⟨_,rfl,rfl,rfl⟩,.inl ⟨[],_,.inl (by simp only [go_sem]),aw,.inl ⟨_,rfl,rfl,rfl,rfl⟩⟩⟩ ?_
  refine V.exec 400 ?_
  simp +contextual (maxSteps:=9^7) only [go_sem]
 have hcs := (fewK_one c).1 hf1
 have hcn := hcs.1
 obtain ⟨s1,s2,s3,s4⟩ := hs
 have rf := law_Ref k (by omega)
 have rr := ref21_Right k (by omega) (by omega) (by omega)
 have kr := keeper_Right k (by omega) (by omega) (by omega)
 simp +contextual (maxSteps:=9^7) only [go_sem,hf1,h10]
 refine V.call rfl rfl (by simp [dOK]) ⟨19,[],by simp only [go_sem],⟨_,rfl,rfl,rfl⟩,.inl ⟨[k.pv],_,.inl (by simp only [go_sem,KSt.pv]),rf,.inr (.inl ⟨_,rfl,rfl,rfl⟩)⟩⟩ ?_
 refine V.exec 400 ?_
 simp +contextual (maxSteps:=9^7) only [go_sem,KSt.pv]
 by_cases hk : k.ok
 ·obtain ⟨v,H,co,gv⟩ := keeper_Of hk
  obtain ⟨v2,H2,cd,g2⟩ := keeper_Do gv (by omega) hk c (by omega)
  have ok1 := doK_ok hk c
  have rd := ref21_Do hk c (by omega)
  have tl := tell_len hk c
  generalize hK1 : (doK k c).1 = K1 at *
  generalize (doK k c).2 = ta at *
  obtain ⟨hL0,hT0,hS0⟩ := hk.lens
  obtain ⟨hL1,hT1,hS1⟩ := ok1.lens
  have rp := law_Reply ta
  have td := told_self ta (by omega) (by omega)
  have sh0 := keeper_Show gv (by omega) (by omega) (by omega)
  have sh1 := keeper_Show g2 (by omega) (by omega) (by omega)
  have rf1 := law_Ref K1 (by omega)
  have ss0 := state_self k (by omega) (by omega) (by omega)
  have ss1 := state_self K1 (by omega) (by omega) (by omega)
  refine V.call rfl rfl (by simp [dOK]) ⟨26,[],by simp only [go_sem],⟨_,rfl,rfl,rfl⟩,.inl ⟨[k.pv],_,.inl (by simp only [go_sem,KSt.pv]),co,.inr (.inl ⟨_,rfl,rfl,rfl⟩)⟩⟩ ?_
  refine V.exec 400 ?_
  simp +contextual (maxSteps:=9^7) only [go_sem,storeX,trX_agg,trX_cells]
  refine V.call rfl rfl (by simp [dOK]) ⟨27,[],by simp only [go_sem],⟨_,rfl,rfl,rfl⟩,.inl ⟨[k.pv],_,.inl (by simp only [go_sem,KSt.pv]),rr,.inl ⟨_,rfl,rfl,rfl,rfl⟩⟩⟩ ?_
  refine V.exec 400 ?_
  simp +contextual (maxSteps:=9^7) only [go_sem]
  refine V.call rfl rfl (by simp [dOK]) ⟨22,[],by simp only [go_sem],⟨_,rfl,rfl,rfl⟩,.inl ⟨[k.pv],_,.inl (by simp only [go_sem,KSt.pv]),kr,.inl ⟨_,rfl,rfl,rfl,rfl⟩⟩⟩ ?_
  refine V.exec 400 ?_
  simp +contextual (maxSteps:=9^7) only [go_sem,hk,trX_agg,trX_cells]
  refine V.call rfl rfl (by simp [dOK]) ⟨14,[],by simp only [go_sem],⟨_,rfl,rfl,rfl⟩,.inl ⟨[storeX v k,c.pv],_,.inl (by simp only [go_sem,storeX,Cmd.pv]),cd,.inr (.inl ⟨_,rfl,rfl,rfl⟩)⟩⟩ ?_
  refine V.exec 400 ?_
  simp +contextual (maxSteps:=9^7) only [go_sem,storeX,trX_agg,trX_cells,Tell.pv,KSt.pv]
  refine V.call rfl rfl (by simp [dOK]) ⟨15,[],by simp only [go_sem],⟨_,rfl,rfl,rfl⟩,.inl ⟨[k.pv,c.pv],_,.inl (by simp only [go_sem,KSt.pv,Cmd.pv]),rd,.inr (.inl ⟨_,rfl,rfl,rfl⟩)⟩⟩ ?_
  refine V.exec 400 ?_
  simp +contextual (maxSteps:=9^7) only [go_sem,storeX,trX_agg,trX_cells,Tell.pv,KSt.pv]
  refine DV.call [] [] (by simp only [go_sem,storeX]) (by simp [dOK]) ⟨20,[],by simp only [go_sem,storeX],⟨_,rfl,rfl,rfl⟩,.inl ⟨[storeX v k],_,.inl (by simp only [go_sem,storeX]),sh0,.inr (.inl ⟨_,rfl,rfl,rfl⟩)⟩⟩ (by simp only [go_sem,storeX]) (by simp only [go_sem,storeX]) (by simp only [go_sem,storeX]) (by simp) ?_
  refine DV.exec 400 ?_
  simp +contextual (maxSteps:=9^7) only [go_sem,KSt.pv]
  refine DV.call [] [] (by simp only [go_sem,KSt.pv]) (by simp [dOK]) ⟨19,[],by simp only [go_sem,KSt.pv],⟨_,rfl,rfl,rfl⟩,.inl ⟨[k.pv],_,.inl (by simp only [go_sem,KSt.pv]),rf,.inr (.inl ⟨_,rfl,rfl,rfl⟩)⟩⟩ (by simp only [go_sem,KSt.pv]) (by simp only [go_sem,KSt.pv]) (by simp only [go_sem,KSt.pv]) (by simp) ?_
  refine DV.exec 400 ?_
  simp +contextual (maxSteps:=9^7) only [go_sem,KSt.pv]
  refine DV.call [] [] (by simp only [go_sem,KSt.pv]) (by simp [dOK]) ⟨18,[],by simp only [go_sem,KSt.pv],⟨_,rfl,rfl,rfl⟩,.inl ⟨[k.pv,k.pv],_,.inl (by simp only [go_sem,KSt.pv]),ss0,.inl ⟨_,rfl,rfl,rfl,rfl⟩⟩⟩ (by simp only [go_sem,KSt.pv]) (by simp only [go_sem,KSt.pv]) (by simp only [go_sem,KSt.pv]) (by simp) ?_
  refine DV.exec 400 ?_
  simp +contextual (maxSteps:=9^7) only [go_sem,trX_agg,trX_cells]
  refine DV.call [] [] (by simp only [go_sem,storeX]) (by simp [dOK]) ⟨20,[],by simp only [go_sem,storeX],⟨_,rfl,rfl,rfl⟩,.inl ⟨[storeX v2 K1],_,.inl (by simp only [go_sem,storeX]),sh1,.inr (.inl ⟨_,rfl,rfl,rfl⟩)⟩⟩ (by simp only [go_sem,storeX]) (by simp only [go_sem,storeX]) (by simp only [go_sem,storeX]) (by simp) ?_
  refine DV.exec 400 ?_
  simp +contextual (maxSteps:=9^7) only [go_sem,KSt.pv]
  refine DV.call [] [] (by simp only [go_sem,KSt.pv]) (by simp [dOK]) ⟨19,[],by simp only [go_sem,KSt.pv],⟨_,rfl,rfl,rfl⟩,.inl ⟨[K1.pv],_,.inl (by simp only [go_sem,KSt.pv]),rf1,.inr (.inl ⟨_,rfl,rfl,rfl⟩)⟩⟩ (by simp only [go_sem,KSt.pv]) (by simp only [go_sem,KSt.pv]) (by simp only [go_sem,KSt.pv]) (by simp) ?_
  refine DV.exec 400 ?_
  simp +contextual (maxSteps:=9^7) only [go_sem,KSt.pv]
  refine DV.call [] [] (by simp only [go_sem,KSt.pv]) (by simp [dOK]) ⟨18,[],by simp only [go_sem,KSt.pv],⟨_,rfl,rfl,rfl⟩,.inl ⟨[K1.pv,K1.pv],_,.inl (by simp only [go_sem,KSt.pv]),ss1,.inl ⟨_,rfl,rfl,rfl,rfl⟩⟩⟩ (by simp only [go_sem,KSt.pv]) (by simp only [go_sem,KSt.pv]) (by simp only [go_sem,KSt.pv]) (by simp) ?_
  refine DV.exec 400 ?_
  simp +contextual (maxSteps:=9^7) only [go_sem,trX_agg,trX_cells]
  refine DV.call [] [] (by simp only [go_sem,Tell.pv]) (by simp [dOK]) ⟨17,[],by simp only [go_sem,Tell.pv],⟨_,rfl,rfl,rfl⟩,.inl ⟨[ta.pv],_,.inl (by simp only [go_sem,Tell.pv]),rp,.inr (.inl ⟨_,rfl,rfl,rfl⟩)⟩⟩ (by simp only [go_sem,Tell.pv]) (by simp only [go_sem,Tell.pv]) (by simp only [go_sem,Tell.pv]) (by simp) ?_
  refine DV.exec 400 ?_
  simp +contextual (maxSteps:=9^7) only [go_sem,Tell.pv]
  refine DV.call [] [] (by simp only [go_sem,Tell.pv]) (by simp [dOK]) ⟨16,[],by simp only [go_sem,Tell.pv],⟨_,rfl,rfl,rfl⟩,.inl ⟨[ta.pv,ta.pv],_,.inl (by simp only [go_sem,Tell.pv]),td,.inl ⟨_,rfl,rfl,rfl,rfl⟩⟩⟩ (by simp only [go_sem,Tell.pv]) (by simp only [go_sem,Tell.pv]) (by simp only [go_sem,Tell.pv]) (by simp) ?_
  refine DV.exec 400 ?_
  simp +contextual (maxSteps:=9^7) only [go_sem]
  refine DV.call [] [] (by simp only [go_sem]) (by simp [dOK]) ⟨13,[],by simp only [go_sem],⟨_,rfl,rfl,rfl⟩,.inl ⟨[],_,.inl (by simp only [go_sem]),aw,.inl ⟨_,rfl,rfl,rfl,rfl⟩⟩⟩ (by simp only [go_sem]) (by simp only [go_sem]) (by simp only [go_sem]) (by simp) ?_
  refine DV.exec 400 ?_
  simp +contextual (maxSteps:=9^7) only [go_sem]
  kernel_rfl
 ·have co := keeper_Of_bad k hk (by omega) (by omega) (by omega)
  have shz := keeper_Show (GoodT.empty) (by omega) (k := KSt.zero) (by decide) (by decide)
  have rfz := law_Ref KSt.zero (by decide)
  have ssz := state_self KSt.zero (by decide) (by decide) (by decide)
  refine V.call rfl rfl (by simp [dOK]) ⟨26,[],by simp only [go_sem],⟨_,rfl,rfl,rfl⟩,.inl ⟨[k.pv],_,.inl (by simp only [go_sem,storeX,KSt.zero,trX,zB,KSt.pv]),co,.inr (.inl ⟨_,rfl,rfl,rfl⟩)⟩⟩ ?_
  refine V.exec 400 ?_
  simp +contextual (maxSteps:=9^7) only [go_sem,storeX,trX_agg,trX_cells,KSt.zero,trX,zB]
  refine V.call rfl rfl (by simp [dOK]) ⟨27,[],by simp only [go_sem],⟨_,rfl,rfl,rfl⟩,.inl ⟨[k.pv],_,.inl (by simp only [go_sem,KSt.pv]),rr,.inl ⟨_,rfl,rfl,rfl,rfl⟩⟩⟩ ?_
  refine V.exec 400 ?_
  simp +contextual (maxSteps:=9^7) only [go_sem]
  refine V.call rfl rfl (by simp [dOK]) ⟨22,[],by simp only [go_sem],⟨_,rfl,rfl,rfl⟩,.inl ⟨[k.pv],_,.inl (by simp only [go_sem,KSt.pv]),kr,.inl ⟨_,rfl,rfl,rfl,rfl⟩⟩⟩ ?_
  refine V.exec 400 ?_
  simp +contextual (maxSteps:=9^7) only [go_sem,hk,h1z]
  refine V.call rfl rfl (by simp [dOK]) ⟨20,[],by simp only [go_sem],⟨_,rfl,rfl,rfl⟩,.inl ⟨[storeX none KSt.zero],_,.inl (by simp only [go_sem,storeX,KSt.zero,trX,zB]),shz,.inr (.inl ⟨_,rfl,rfl,rfl⟩)⟩⟩ ?_
  refine V.exec 400 ?_
  simp +contextual (maxSteps:=9^7) only [go_sem,KSt.pv,KSt.zero,zB]
  refine V.call rfl rfl (by simp [dOK]) ⟨19,[],by simp only [go_sem],⟨_,rfl,rfl,rfl⟩,.inl ⟨[KSt.zero.pv],_,.inl (by simp only [go_sem,KSt.pv,KSt.zero,zB]),rfz,.inr (.inl ⟨_,rfl,rfl,rfl⟩)⟩⟩ ?_
  refine V.exec 400 ?_
  simp +contextual (maxSteps:=9^7) only [go_sem,KSt.pv,KSt.zero,zB]
  refine V.call rfl rfl (by simp [dOK]) ⟨18,[],by simp only [go_sem],⟨_,rfl,rfl,rfl⟩,.inl ⟨[KSt.zero.pv,KSt.zero.pv],_,.inl (by simp only [go_sem,KSt.pv,KSt.zero,zB]),ssz,.inl ⟨_,rfl,rfl,rfl,rfl⟩⟩⟩ ?_
  refine V.exec 400 ?_
  simp +contextual (maxSteps:=9^7) only [go_sem]
  refine V.call rfl rfl (by simp [dOK]) ⟨13,[],by simp only [go_sem],⟨_,rfl,rfl,rfl⟩,.inl ⟨[],_,.inl (by simp only [go_sem]),aw,.inl ⟨_,rfl,rfl,rfl,rfl⟩⟩⟩ ?_
  refine V.exec 400 ?_
  simp +contextual (maxSteps:=9^7) only [go_sem]
theorem ctOf (ps : List PV) (h0 : mSs stateSh ps) (qs : List PV) (h1 : mSs cmdSh qs) : Ct pG 9 (Zv.ops [.agg ps,.agg qs]) (.vals [.bool true]) := by
 obtain ⟨k,e0⟩ := state_one h0
 obtain ⟨c,e,hc⟩ := cmd_one h1
 rw [e0,e]
 exact law_Of k c hc
end Go.Proofs.YtfemlllmglaimaaGreat
