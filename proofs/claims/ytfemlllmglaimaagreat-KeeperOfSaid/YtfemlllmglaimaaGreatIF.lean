/- A part of a proof: functions of the program, walked. -/
import Derived.Test.YtfemlllmglaimaaGreatIE
set_option linter.unusedVariables false
set_option linter.unusedSimpArgs false
set_option maxRecDepth 8000
namespace Go.Proofs.YtfemlllmglaimaaGreat
open Go Go.Proofs Go.Proofs.Zv Go.Proofs.YtfemlllmglaimaaGreat.Ty
open Go.Proofs.Tryz renaming prog → pG
open List renaming getElem?_eq_getElem → zA, map_nil → zB, map_cons → zC, take_of_length_le → zD, mem_of_getElem? → zE, mem_cons_self → zG, mem_cons_of_mem → zH, mem_cons → zI, length_append → zJ, drop_eq_nil_of_le → zK, take_add_one → zL, map_append → zM, mem_map → zN, mem_append → zO, eq_nil_of_length_eq_zero → zP, getElem?_eq_some_iff → zQ, getElem?_map → zS, length_cons → zT, length_take → zU, filter_append → zV, length_map → zW
open Nat renaming zero_le → zF, le_refl → zR
def risesFrom : Option (List UInt8) → List (List UInt8) → Prop
 | _,[] => True
 | last,s :: r => (∀ k,last = some k → slt k s) ∧ risesFrom (some s) r
def risesOk (l : List (List UInt8)) : Prop := risesFrom none l
instance instRFs : ∀ (last : Option (List UInt8)) (l : List (List UInt8)),Decidable (risesFrom last l)
 | _,[] => isTrue trivial
 | none,s :: r => by
  unfold risesFrom
  have := instRFs (some s) r
  have : Decidable (∀ k,none = some k → slt k s) := isTrue (fun k h => by cases h)
  infer_instance
 | some k,s :: r => by
  unfold risesFrom
  have := instRFs (some s) r
  have : Decidable (∀ k',some k = some k' → slt k' s) := decidable_of_iff (slt k s) ⟨fun h k' e => by cases e; exact h,fun h => h k rfl⟩
  infer_instance
instance instRisesOk (l : List (List UInt8)) : Decidable (risesOk l) := by unfold risesOk; infer_instance
def prevStr (l : List (List UInt8)) (i : Nat) : Option (List UInt8) := if i = 0 then none else l[i - 1]?
set_option maxRecDepth 4000 in
set_option maxHeartbeats 8000000 in
theorem pend_rises (l : List (List UInt8)) (hl : l.length ≤ 1000000) : Ct pG 181 (Zv.ops [.row (l.map PV.str)]) (.vals [.bool (decide (risesOk l))]) := by
  refine Ct.of_V Tryz.func181 rfl (by simp [Zv.ops,Tryz.f181]) ?_
  refine V.exec 400 ?_
  simp +contextual (maxSteps:=9^7) only [go_sem,Tryz.f181]
  refine V.loop (fun m ls os => ∃ (i : Nat),i ≤ l.length ∧ m = l.length - i ∧ (risesOk l ↔ risesFrom (prevStr l i) (l.drop i)) ∧
        ls = [(0,.val (.row (l.map PV.str))),(5,.val (.row (l.map PV.str))),(6,.val (.int .i64 l.length)),(7,.val (.int .i64 i))] ∧ os = []) 0 l.length
      [(0,.val (.row (l.map PV.str))),(5,.val (.row (l.map PV.str))),(6,.val (.int .i64 l.length)),(7,.val (.int .i64 0))] [] []
      ⟨0,zF _,rfl,Iff.rfl,rfl,rfl⟩ (by simp only [go_sem]) ?_
  rintro m ls os ⟨i,hi,rfl,hiff,rfl,rfl⟩
  refine V.exec 400 ?_
  by_cases hlt : i < l.length
  · have hlt' : (i : Int) < (l.length : Int) := by omega
    obtain ⟨x,hx⟩ : ∃ x,l[i]? = some x := ⟨_,zA hlt⟩
    have hw : IntKind.i64.wrap ((i : Int) + 1) = ((i + 1 : Nat) : Int) := by rw [wrap_small3] <;> omega
    rw [drop_of_get hx,risesFrom] at hiff
    have hpk : prevStr l (i + 1) = some x := by simp [prevStr,hx]
    have fin : (∀ k,prevStr l i = some k → slt k x) → (risesOk l ↔ risesFrom (prevStr l (i + 1)) (l.drop (i + 1))) := fun b => by
      rw [hiff,hpk]; exact ⟨fun h => h.2,fun h => ⟨b,h⟩⟩
    have hfalse : ¬ risesOk l → some [PV.bool false] = some [PV.bool (decide (risesOk l))] := fun h => by simp [h]
    rcases Nat.eq_zero_or_pos i with rfl | hpos
    · have hz : ¬ (0 : Int) < ((0 : Nat) : Int) := by omega
      simp +contextual (maxSteps:=9^7) only [go_sem,hlt',hx,hw,hz]
      (repeat' (first | (intro _) | (refine ⟨by kernel_rfl,?_⟩) | (apply And.intro)))
      all_goals exact ⟨l.length - (0 + 1),_,[],[],by omega,⟨1,by omega,rfl,fin (fun k h => by simp [prevStr] at h),rfl,rfl⟩,by simp only [go_sem]⟩
    · obtain ⟨j,rfl⟩ : ∃ j,i = j + 1 := ⟨i - 1,by omega⟩
      have hw2 : IntKind.i64.wrap (((j + 1 : Nat) : Int) - 1) = (j : Int) := by rw [wrap_small3] <;> omega
      have hjp : (0 : Int) < ((j + 1 : Nat) : Int) := by omega
      obtain ⟨y,hy⟩ : ∃ y,l[j]? = some y := ⟨_,zA (by omega)⟩
      simp +contextual (maxSteps:=9^7) only [go_sem,hlt',hx,hw,hw2,hjp,hy]
      (repeat' (first | (intro _) | (refine ⟨by kernel_rfl,?_⟩) | (apply And.intro)))
      all_goals first
        | exact ⟨l.length - (j + 1 + 1),_,[],[],by omega,⟨j + 1 + 1,by omega,rfl,fin (fun k h => by simp [prevStr,hy] at h; rw [← h]; assumption),rfl,rfl⟩,by simp only [go_sem]⟩
        | (refine hfalse fun h => ?_
           have := (hiff.1 h).1 y (by simp [prevStr,hy])
           contradiction)
  · have hlt' : ¬ (i : Int) < (l.length : Int) := by omega
    have hd : l.drop i = [] := zK (by omega)
    rw [hd,risesFrom] at hiff
    simp +contextual (maxSteps:=9^7) only [go_sem,hlt']
    simp [hiff]
def splitV : List Note → List (List UInt8) → List (List Note)
 | _,[] => []
 | l,[_] => [l]
 | l,_ :: t :: r => l.take (gBelow Note.key t l) :: splitV (l.drop (gBelow Note.key t l)) (t :: r)
theorem splitV_len : ∀ (ls : List (List UInt8)) (l : List Note),(splitV l ls).length = ls.length
 | [],_ => rfl
 | [_],_ => rfl
 | _ :: t :: r,l => by rw [splitV,zT,splitV_len (t :: r)]; rfl
def splitR (l : List Note) (lows : List (List UInt8)) : List (List Note) := if waitOk l ∧ risesOk lows ∧ lows ≠ [] then splitV l lows else []
def rowN (l : List Note) : PV := .row (l.map Note.pv)
theorem set_mid {α : Type} (d : List α) (k : Nat) (z v : α) : (d ++ List.replicate (k + 1) z).set d.length v = (d ++ [v]) ++ List.replicate k z := by
 rw [List.set_append_right _ _ (zR _),Nat.sub_self,List.replicate_succ,List.set_cons_zero]
 simp
set_option maxRecDepth 10000 in
set_option maxHeartbeats 16000000 in
theorem pend_SplitO (l : List Note) (lows : List (List UInt8)) (hl : l.length ≤ 400000) (hw : lows.length ≤ 400000) : Ct pG 149 (Zv.ops [.row (l.map Note.pv),.row (lows.map PV.str)]) (.own 36 ((splitR l lows).map rowN)) := by
 have h2 : ∀ (l : List Note),∀ x ∈ l.map Note.pv,x.cells.length = 4 := fun l x hx => by
  obtain ⟨s,_,rfl⟩ := zN.1 hx
  rfl
 refine Ct.of_V Tryz.func149 rfl (by simp [Zv.ops,Tryz.f149]) ?_
 refine V.exec 400 ?_
 simp +contextual (maxSteps:=9^7) only [go_sem,Tryz.f149]
 refine V.call rfl rfl (by simp [dOK]) ⟨161,[],by simp only [go_sem],⟨_,rfl,rfl,rfl⟩,.inl ⟨[.row (l.map Note.pv)],_,.inl (by simp only [go_sem]),pend_Right l (by omega),.inl ⟨_,rfl,rfl,rfl,rfl⟩⟩⟩ ?_
 refine V.exec 400 ?_
 by_cases hok : waitOk l
 ·simp +contextual (maxSteps:=9^7) only [go_sem,hok]
  refine V.call rfl rfl (by simp [dOK]) ⟨181,[],by simp only [go_sem],⟨_,rfl,rfl,rfl⟩,.inl ⟨[.row (lows.map PV.str)],_,.inl (by simp only [go_sem]),pend_rises lows (by omega),.inl ⟨_,rfl,rfl,rfl,rfl⟩⟩⟩ ?_
  refine V.exec 400 ?_
  by_cases hr : risesOk lows
  ·by_cases h0 : lows.length = 0
   ·have h0' : (lows.length : Int) = 0 := by omega
    have hv : splitR l lows = [] := by
     unfold splitR; rw [if_neg (fun h => h.2.2 (zP h0))]
    simp +contextual (maxSteps:=9^7) only [go_sem,hr,h0',hv,zB]
    exact ⟨1,rfl,by decide⟩
   ·have h0' : ¬ (lows.length : Int) = 0 := by omega
    have hv : splitR l lows = splitV l lows := by
     unfold splitR; rw [if_pos ⟨hok,hr,fun e => h0 (by rw [e]; rfl)⟩]
    have hsr := ((waitOk_iff l).1 hok).1
    simp +contextual (maxSteps:=9^7) only [go_sem,hr,h0',hv]
    refine ⟨⟨by omega,by omega⟩,?_⟩
    refine V.loop (fun m ls os => ∃ (i : Nat) (rest : List Note) (done : List (List Note)),i ≤ lows.length ∧ m = lows.length - i ∧ gSorted Note.key rest ∧ rest.length ≤ l.length ∧ done.length = i ∧ done ++ splitV rest (lows.drop i) = splitV l lows ∧
      ls = [(0,.val (.row (rest.map Note.pv))),(1,.val (.row (lows.map PV.str))),(5,.ref 0),(24,.val (.row (lows.map PV.str))),(25,.val (.int .i64 lows.length)),(26,.val (.int .i64 i))] ∧ os = [.row 36 (done.map rowN ++ List.replicate (lows.length - i) (PV.row []))]) 1 lows.length
     [(0,.val (.row (l.map Note.pv))),(1,.val (.row (lows.map PV.str))),(5,.ref 0),(24,.val (.row (lows.map PV.str))),(25,.val (.int .i64 lows.length)),(26,.val (.int .i64 0))] [.row 36 (List.replicate lows.length (PV.row []))] [some 18]
     ⟨0,l,[],zF _,rfl,hsr,zR _,rfl,rfl,rfl,rfl⟩ (by simp only [go_sem]; try decide) ?_
    rintro m ls os ⟨i,rest,done,hi,rfl,hrs,hrl,hdl,hda,rfl,rfl⟩
    refine V.exec 400 ?_
    by_cases hlt : i < lows.length
    ·have hlt' : (i : Int) < (lows.length : Int) := by omega
     obtain ⟨s,hs⟩ : ∃ x,lows[i]? = some x := ⟨_,zA hlt⟩
     have hw : IntKind.i64.wrap ((i : Int) + 1) = ((i + 1 : Nat) : Int) := by rw [wrap_small3] <;> omega
     have hRl : (done.map rowN ++ List.replicate (lows.length - i) (PV.row [])).length = lows.length := by simp [hdl]; omega
     have hRi : (done.map rowN ++ List.replicate (lows.length - i) (PV.row []))[i]? = some (PV.row []) := by
      rw [List.getElem?_append_right (by simp [hdl]),zW,hdl,Nat.sub_self,List.getElem?_replicate,if_pos (by omega)]
     have hset : ∀ v,(done.map rowN ++ List.replicate (lows.length - i) (PV.row [])).set i v = (done.map rowN ++ [v]) ++ List.replicate (lows.length - (i + 1)) (PV.row []) := fun v => by
      have e : lows.length - i = (lows.length - (i + 1)) + 1 := by omega
      rw [e]
      have := set_mid (done.map rowN) (lows.length - (i + 1)) (PV.row []) v
      rw [zW,hdl] at this
      exact this
     generalize hR : done.map rowN ++ List.replicate (lows.length - i) (PV.row []) = R at *
     by_cases hn1 : i + 1 < lows.length
     ·have hn1' : ((i + 1 : Nat) : Int) < (lows.length : Int) := by omega
      obtain ⟨t,ht⟩ : ∃ x,lows[i + 1]? = some x := ⟨_,zA hn1⟩
      have hdi : lows.drop i = s :: t :: lows.drop (i + 2) := by rw [drop_of_get hs,drop_of_get ht]
      have hdi2 : lows.drop (i + 1) = t :: lows.drop (i + 2) := drop_of_get ht
      have hbl := gBelow_le Note.key t rest
      have hpl := pend_place rest t (by omega)
      rw [posN_eq hrs t] at hpl
      generalize hB : gBelow Note.key t rest = B at *
      have hda2 : done ++ [rest.take B] ++ splitV (rest.drop B) (lows.drop (i + 1)) = splitV l lows := by
       rw [← hda,hdi,hdi2,splitV,hB]; simp
      have hcl := (CloneNote ((rest.map Note.pv).take B) (fun x hx => h2 rest x (List.mem_of_mem_take hx)) (by simp; omega)).forget
      have hBl' : ((B : Nat) : Int) ≤ (rest.length : Int) := by omega
      have hst := hset (rowN (rest.take B))
      simp only [rowN,List.map_take] at hst
      simp +contextual (maxSteps:=9^7) only [go_sem,hlt',hw,hn1',ht]
      refine V.call rfl rfl (by simp [dOK]) ⟨160,[],by simp only [go_sem],⟨_,rfl,rfl,rfl⟩,.inl ⟨[.row (rest.map Note.pv),.str t],_,.inl (by simp only [go_sem]),hpl,.inl ⟨_,rfl,rfl,rfl,rfl⟩⟩⟩ ?_
      refine V.exec 400 ?_
      simp +contextual (maxSteps:=9^7) only [go_sem,hBl']
      refine DV.call [] [] (by simp only [go_sem]) (by simp [dOK]) ⟨174,[],by simp only [go_sem],⟨_,rfl,rfl,rfl⟩,.inl ⟨[.row ((rest.map Note.pv).take B)],_,.inl (by simp only [go_sem]),hcl,.inr (.inl ⟨_,rfl,rfl,rfl⟩)⟩⟩ (by simp only [go_sem]) (by simp only [go_sem]) (by simp only [go_sem]) (by simp) ?_
      refine DV.exec 400 ?_
      simp +contextual (maxSteps:=9^7) only [go_sem,hRl,hRi,hst,hlt',hw,hBl']
      refine ⟨fun _ _ => rfl,by kernel_rfl,lows.length - (i + 1),_,_,[some 0],by omega,⟨i + 1,rest.drop B,done ++ [rest.take B],by omega,rfl,List.Pairwise.sublist (List.drop_sublist _ _) hrs,by simp; omega,by simp [hdl],hda2,rfl,rfl⟩,?_⟩
      simp only [go_sem,rowN,zM,List.map_take,List.map_drop]
      try decide
     ·have hn1' : ¬ ((i + 1 : Nat) : Int) < (lows.length : Int) := by omega
      have hdi : lows.drop i = [s] := by rw [drop_of_get hs,zK (by omega)]
      rw [hdi] at hda
      have hda2 : done ++ [rest] ++ splitV [] (lows.drop (i + 1)) = splitV l lows := by
       rw [zK (by omega)]; simpa [splitV] using hda
      have hcl := (CloneNote ((rest.map Note.pv).take rest.length) (fun x hx => h2 rest x (List.mem_of_mem_take hx)) (by simp; omega)).forget
      have htk : (rest.map Note.pv).take rest.length = rest.map Note.pv := zD (by simp)
      have hdk : (rest.map Note.pv).drop rest.length = [] := zK (by simp)
      rw [htk] at hcl
      have hst := hset (rowN rest)
      simp only [rowN] at hst
      simp +contextual (maxSteps:=9^7) only [go_sem,hlt',hw,hn1',htk,hdk]
      refine ⟨Int.le_refl _,?_⟩
      refine DV.call [] [] (by simp only [go_sem]) (by simp [dOK]) ⟨174,[],by simp only [go_sem],⟨_,rfl,rfl,rfl⟩,.inl ⟨[.row (rest.map Note.pv)],_,.inl (by simp only [go_sem]),hcl,.inr (.inl ⟨_,rfl,rfl,rfl⟩)⟩⟩ (by simp only [go_sem]) (by simp only [go_sem]) (by simp only [go_sem]) (by simp) ?_
      refine DV.exec 400 ?_
      simp +contextual (maxSteps:=9^7) only [go_sem,hRl,hRi,hst,htk,hdk,hlt',hw]
      refine ⟨⟨Int.le_refl _,fun _ _ => rfl⟩,by kernel_rfl,lows.length - (i + 1),_,_,[some 0],by omega,⟨i + 1,[],done ++ [rest],by omega,rfl,List.Pairwise.nil,by simp,by simp [hdl],hda2,rfl,rfl⟩,?_⟩
      simp only [go_sem,rowN,zM]
      try decide
    ·have hlt' : ¬ (i : Int) < (lows.length : Int) := by omega
     have hd : lows.drop i = [] := zK (by omega)
     have hsn : ∀ r,splitV r [] = [] := fun r => by unfold splitV; rfl
     have hz : lows.length - i = 0 := by omega
     rw [hd,hsn,List.append_nil] at hda
     rw [hz]
     simp +contextual (maxSteps:=9^7) only [go_sem,hlt',List.replicate_zero,List.append_nil,hda]
  ·have hv : splitR l lows = [] := by
    unfold splitR; rw [if_neg (fun h => hr h.2.1)]
   simp +contextual (maxSteps:=9^7) only [go_sem,hr,hv,zB]
   exact ⟨1,rfl,by decide⟩
 ·have hv : splitR l lows = [] := by
   unfold splitR; rw [if_neg (fun h => hok h.1)]
  simp +contextual (maxSteps:=9^7) only [go_sem,hok,hv,zB]
  exact ⟨1,rfl,by decide⟩
theorem pend_Split (l : List Note) (lows : List (List UInt8)) (hl : l.length ≤ 400000) (hw : lows.length ≤ 400000) : Ct pG 149 (Zv.ops [.row (l.map Note.pv),.row (lows.map PV.str)]) (.vals [.row ((splitR l lows).map rowN)]) := (pend_SplitO l lows hl hw).forget
def bestV (ps : List (List Note)) : Nat → Nat
 | 0 => 0
 | i + 1 => if (ps.getD (bestV ps i) []).length < (ps.getD i []).length then i else bestV ps i
theorem bestV_lt (ps : List (List Note)) : ∀ i,i ≤ ps.length → 0 < ps.length → bestV ps i < ps.length
 | 0,_,h => h
 | i + 1,h,h0 => by
  unfold bestV
  split
  ·omega
  ·exact bestV_lt ps i (by omega) h0
theorem bestV_le (ps : List (List Note)) : ∀ i,∀ j < i,(ps.getD j []).length ≤ (ps.getD (bestV ps i) []).length
 | 0,_,h => absurd h (by omega)
 | i + 1,j,h => by
  have ih := bestV_le ps i
  unfold bestV
  split
  ·rename_i hc
   by_cases hj : j = i
   ·subst hj; exact zR _
   ·exact Nat.le_of_lt (Nat.lt_of_le_of_lt (ih j (by omega)) hc)
  ·rename_i hc
   by_cases hj : j = i
   ·subst hj; omega
   ·exact ih j (by omega)
def mostV (l : List Note) (lows : List (List UInt8)) : Nat := bestV (splitR l lows) (splitR l lows).length
theorem getD_of {ps : List (List Note)} {i : Nat} {x : List Note} (h : ps[i]? = some x) : ps.getD i [] = x := by rw [List.getD_eq_getElem?_getD,h]; rfl
theorem splitR_len (l : List Note) (lows : List (List UInt8)) : (splitR l lows).length ≤ lows.length := by
 unfold splitR
 split
 ·rw [splitV_len]; exact zR _
 ·exact zF _
set_option maxRecDepth 10000 in
set_option maxHeartbeats 16000000 in
theorem pend_Most (l : List Note) (lows : List (List UInt8)) (hl : l.length ≤ 400000) (hw : lows.length ≤ 400000) : Ct pG 178 (Zv.ops [.row (l.map Note.pv),.row (lows.map PV.str)]) (.vals [.int .i64 (mostV l lows)]) := by
 have c1 := pend_Split l lows hl hw
 have hsl := splitR_len l lows
 unfold mostV
 generalize splitR l lows = ps at *
 refine Ct.of_V Tryz.func178 rfl (by simp [Zv.ops,Tryz.f178]) ?_
 refine V.exec 400 ?_
 simp +contextual (maxSteps:=9^7) only [go_sem,Tryz.f178]
 refine V.call rfl rfl (by simp [dOK]) ⟨149,[],by simp only [go_sem],⟨_,rfl,rfl,rfl⟩,.inl ⟨[.row (l.map Note.pv),.row (lows.map PV.str)],_,.inl (by simp only [go_sem]),c1,.inr (.inl ⟨_,rfl,rfl,rfl⟩)⟩⟩ ?_
 refine V.exec 400 ?_
 simp +contextual (maxSteps:=9^7) only [go_sem]
 refine V.loop (fun m ls os => ∃ (i : Nat),i ≤ ps.length ∧ m = ps.length - i ∧
    ls = [(5,.val (.int .i64 (bestV ps i))),(6,.val (.row (ps.map rowN))),(12,.val (.row (ps.map rowN))),(13,.val (.int .i64 ps.length)),(14,.val (.int .i64 i))] ∧ os = []) 0 ps.length
   [(5,.val (.int .i64 0)),(6,.val (.row (ps.map rowN))),(12,.val (.row (ps.map rowN))),(13,.val (.int .i64 ps.length)),(14,.val (.int .i64 0))] [] []
   ⟨0,zF _,rfl,rfl,rfl⟩ (by simp only [go_sem]) ?_
 rintro m ls os ⟨i,hi,rfl,rfl,rfl⟩
 refine V.exec 400 ?_
 by_cases hlt : i < ps.length
 ·have hlt' : (i : Int) < (ps.length : Int) := by omega
  obtain ⟨x,hx⟩ : ∃ x,ps[i]? = some x := ⟨_,zA hlt⟩
  have hb := bestV_lt ps i (by omega) (by omega)
  obtain ⟨y,hy⟩ : ∃ y,ps[bestV ps i]? = some y := ⟨_,zA hb⟩
  have hb' : ((bestV ps i : Nat) : Int) < (ps.length : Int) := by omega
  have hw : IntKind.i64.wrap ((i : Int) + 1) = ((i + 1 : Nat) : Int) := by rw [wrap_small3] <;> omega
  by_cases hc : y.length < x.length
  ·have hc' : (y.length : Int) < (x.length : Int) := by omega
   have hn : bestV ps (i + 1) = i := by rw [bestV,getD_of hx,getD_of hy,if_pos hc]
   simp +contextual (maxSteps:=9^7) only [go_sem,hlt',hx,hy,hb',hw,rowN,hc']
   exact ⟨ps.length - (i + 1),_,[],[],by omega,⟨i + 1,by omega,rfl,rfl,rfl⟩,by simp only [go_sem,hn]⟩
  ·have hc' : ¬ (y.length : Int) < (x.length : Int) := by omega
   have hn : bestV ps (i + 1) = bestV ps i := by rw [bestV,getD_of hx,getD_of hy,if_neg hc]
   simp +contextual (maxSteps:=9^7) only [go_sem,hlt',hx,hy,hb',hw,rowN,hc']
   exact ⟨ps.length - (i + 1),_,[],[],by omega,⟨i + 1,by omega,rfl,rfl,rfl⟩,by simp only [go_sem,hn]⟩
 ·have hlt' : ¬ (i : Int) < (ps.length : Int) := by omega
  obtain rfl : i = ps.length := by omega
  simp +contextual (maxSteps:=9^7) only [go_sem,hlt']
def partsV : Nat → List Pair → List (List Pair)
 | 0,_ => []
 | p + 1,l => l.take ((l.length + p) / (p + 1)) :: partsV p (l.drop ((l.length + p) / (p + 1)))
def howMany (n m : Nat) : Nat := if 0 < n % m then n / m + 1 else n / m
def shareV (l : List Pair) (most : Int) : List (List Pair) := if most < 1 then [] else partsV (howMany l.length most.toNat) l
def rowP (l : List Pair) : PV := .row (l.map Pair.pv)
set_option maxRecDepth 10000 in
set_option maxHeartbeats 16000000 in
theorem leaf_Share (l : List Pair) (most : Int) (hl : l.length ≤ 400000) (h0 : most ≤ 9223372036854775807) : Ct pG 173 (Zv.ops [.row (l.map Pair.pv),.int .i64 most]) (.vals [.row ((shareV l most).map rowP)]) := by
 have h2 : ∀ (l : List Pair),∀ x ∈ l.map Pair.pv,x.cells.length = 2 := fun l x hx => by
  obtain ⟨s,_,rfl⟩ := zN.1 hx
  rfl
 refine Ct.of_V Tryz.func173 rfl (by simp [Zv.ops,Tryz.f173]) ?_
 refine V.exec 400 ?_
 by_cases hm : most < 1
 ·have hv : shareV l most = [] := by simp [shareV,hm]
  simp +contextual (maxSteps:=9^7) only [go_sem,Tryz.f173,hm,hv,zB]
 ·obtain ⟨k,rfl⟩ : ∃ k : Nat,most = (k : Int) := ⟨most.toNat,by omega⟩
  have hk : 0 < k := by omega
  have hk0 : ¬ (k : Int) = 0 := by omega
  have hv : shareV l k = partsV (howMany l.length k) l := by simp [shareV,hm]
  have hq : IntKind.i64.wrap ((l.length : Int).tdiv (k : Int)) = ((l.length / k : Nat) : Int) := by
   have e : (l.length : Int).tdiv (k : Int) = ((l.length / k : Nat) : Int) := rfl
   have : l.length / k ≤ l.length := Nat.div_le_self _ _
   rw [e]
   generalize l.length / k = c at *
   rw [wrap_small3] <;> omega
  have hr : (l.length : Int).tmod (k : Int) = ((l.length % k : Nat) : Int) := rfl
  have hw : IntKind.i64.wrap (((l.length / k : Nat) : Int) + 1) = ((l.length / k + 1 : Nat) : Int) := by
   have : l.length / k ≤ l.length := Nat.div_le_self _ _
   generalize l.length / k = c at *
   rw [wrap_small3] <;> omega
  rw [hv]
  simp +contextual (maxSteps:=9^7) only [go_sem,Tryz.f173,hm,hk0,hq,hr,hw]
  have hpl : howMany l.length k ≤ l.length + 1 := by
   have : l.length / k ≤ l.length := Nat.div_le_self _ _
   unfold howMany; split <;> omega
  have loop : ∀ (n : Nat),n = howMany l.length k → True := fun _ _ => trivial
  by_cases hrem : 0 < l.length % k
  ·have hrem' : (0 : Int) < ((l.length % k : Nat) : Int) := by omega
   have hn : howMany l.length k = l.length / k + 1 := by simp [howMany,hrem]
   rw [hn] at hpl ⊢
   simp only [hrem',true_implies,not_true_eq_false,false_imp_iff,and_true]
   generalize l.length / k + 1 = P at *
   refine V.loop (fun m ls os => ∃ (p : Nat) (r : List Pair) (done : List (List Pair)),p ≤ l.length + 1 ∧ r.length ≤ l.length ∧ m = p ∧ done ++ partsV p r = partsV P l ∧ done.length + p ≤ l.length + 1 ∧
     ls = [(0,.val (.row (r.map Pair.pv))),(5,.ref 0),(6,.val (.int .i64 p))] ∧ os = [.row 32 (done.map rowP)]) 1 P
    [(0,.val (.row (l.map Pair.pv))),(5,.ref 0),(6,.val (.int .i64 P))] [.row 32 []] [none]
    ⟨P,l,[],hpl,zR _,rfl,rfl,by simpa using hpl,rfl,rfl⟩ (by simp only [go_sem]; try decide) ?_
   rintro m ls os ⟨p,r,done,hp,hrl,hmp,hd,hdl,rfl,rfl⟩
   subst hmp
   refine V.exec 400 ?_
   cases m with
   | zero =>
    have h0 : ¬ (0 : Int) < ((0 : Nat) : Int) := by omega
    simp +contextual (maxSteps:=9^7) only [go_sem,h0]
    simp [partsV] at hd
    rw [hd]
   | succ p =>
    have h0 : (0 : Int) < ((p + 1 : Nat) : Int) := by omega
    have hw1 : IntKind.i64.wrap ((r.length : Int) + ((p + 1 : Nat) : Int)) = ((r.length + (p + 1) : Nat) : Int) := by rw [wrap_small3] <;> omega
    have hw2 : IntKind.i64.wrap (((r.length + (p + 1) : Nat) : Int) - 1) = ((r.length + p : Nat) : Int) := by rw [wrap_small3] <;> omega
    have hw3 : IntKind.i64.wrap (((r.length + p : Nat) : Int).tdiv ((p + 1 : Nat) : Int)) = (((r.length + p) / (p + 1) : Nat) : Int) := by
     have e : ((r.length + p : Nat) : Int).tdiv ((p + 1 : Nat) : Int) = (((r.length + p) / (p + 1) : Nat) : Int) := rfl
     have : (r.length + p) / (p + 1) ≤ r.length + p := Nat.div_le_self _ _
     rw [e]
     generalize (r.length + p) / (p + 1) = c at *
     rw [wrap_small3] <;> omega
    have hw4 : IntKind.i64.wrap (((p + 1 : Nat) : Int) - 1) = (p : Int) := by rw [wrap_small3] <;> omega
    have hp0 : ¬ ((p + 1 : Nat) : Int) = 0 := by omega
    have hnl : (r.length + p) / (p + 1) ≤ r.length := by
     rw [Nat.div_le_iff_le_mul_add_pred (by omega)]
     have : r.length ≤ (p + 1) * r.length := Nat.le_mul_of_pos_left _ (by omega)
     omega
    have hcl := (ClonePair ((r.map Pair.pv).take ((r.length + p) / (p + 1))) (fun x hx => h2 r x (List.mem_of_mem_take hx)) (by simp; omega)).forget
    have hnl' : (((r.length + p) / (p + 1) : Nat) : Int) ≤ (r.length : Int) := by omega
    simp +contextual (maxSteps:=9^7) only [go_sem,h0,hw1,hw2,hw3,hp0]
    refine ⟨by omega,?_⟩
    refine DV.call [] [] (by simp only [go_sem]) (by simp [dOK]) ⟨114,[],by simp only [go_sem],⟨_,rfl,rfl,rfl⟩,.inl ⟨[.row ((r.map Pair.pv).take ((r.length + p) / (p + 1)))],_,.inl (by simp only [go_sem]),hcl,.inr (.inl ⟨_,rfl,rfl,rfl⟩)⟩⟩ (by simp only [go_sem]) (by simp only [go_sem]) (by simp only [go_sem]) (by simp) ?_
    refine DV.exec 400 ?_
    simp +contextual (maxSteps:=9^7) only [go_sem,hw4]
    refine ⟨⟨by omega,by omega⟩,⟨hnl',fun j _ => rfl⟩,by kernel_rfl,p,_,_,[some 17],by omega,⟨p,r.drop ((r.length + p) / (p + 1)),done ++ [r.take ((r.length + p) / (p + 1))],by omega,Nat.le_trans (by rw [List.length_drop]; exact Nat.sub_le _ _) hrl,rfl,?_,by rw [zJ,List.length_singleton]; omega,rfl,rfl⟩,?_⟩
    ·rw [← hd]; simp [partsV]
    ·simp only [go_sem,zM,zC,zB,rowP,List.map_take,List.map_drop]
     try decide
  ·have hrem' : ¬ (0 : Int) < ((l.length % k : Nat) : Int) := by omega
   have hn : howMany l.length k = l.length / k := by simp [howMany,hrem]
   rw [hn] at hpl ⊢
   simp only [hrem',false_imp_iff,not_false_eq_true,true_implies,true_and]
   generalize l.length / k = P at *
   refine V.loop (fun m ls os => ∃ (p : Nat) (r : List Pair) (done : List (List Pair)),p ≤ l.length + 1 ∧ r.length ≤ l.length ∧ m = p ∧ done ++ partsV p r = partsV P l ∧ done.length + p ≤ l.length + 1 ∧
     ls = [(0,.val (.row (r.map Pair.pv))),(5,.ref 0),(6,.val (.int .i64 p))] ∧ os = [.row 32 (done.map rowP)]) 1 P
    [(0,.val (.row (l.map Pair.pv))),(5,.ref 0),(6,.val (.int .i64 P))] [.row 32 []] [none]
    ⟨P,l,[],hpl,zR _,rfl,rfl,by simpa using hpl,rfl,rfl⟩ (by simp only [go_sem]; try decide) ?_
   rintro m ls os ⟨p,r,done,hp,hrl,hmp,hd,hdl,rfl,rfl⟩
   subst hmp
   refine V.exec 400 ?_
   cases m with
   | zero =>
    have h0 : ¬ (0 : Int) < ((0 : Nat) : Int) := by omega
    simp +contextual (maxSteps:=9^7) only [go_sem,h0]
    simp [partsV] at hd
    rw [hd]
   | succ p =>
    have h0 : (0 : Int) < ((p + 1 : Nat) : Int) := by omega
    have hw1 : IntKind.i64.wrap ((r.length : Int) + ((p + 1 : Nat) : Int)) = ((r.length + (p + 1) : Nat) : Int) := by rw [wrap_small3] <;> omega
    have hw2 : IntKind.i64.wrap (((r.length + (p + 1) : Nat) : Int) - 1) = ((r.length + p : Nat) : Int) := by rw [wrap_small3] <;> omega
    have hw3 : IntKind.i64.wrap (((r.length + p : Nat) : Int).tdiv ((p + 1 : Nat) : Int)) = (((r.length + p) / (p + 1) : Nat) : Int) := by
     have e : ((r.length + p : Nat) : Int).tdiv ((p + 1 : Nat) : Int) = (((r.length + p) / (p + 1) : Nat) : Int) := rfl
     have : (r.length + p) / (p + 1) ≤ r.length + p := Nat.div_le_self _ _
     rw [e]
     generalize (r.length + p) / (p + 1) = c at *
     rw [wrap_small3] <;> omega
    have hw4 : IntKind.i64.wrap (((p + 1 : Nat) : Int) - 1) = (p : Int) := by rw [wrap_small3] <;> omega
    have hp0 : ¬ ((p + 1 : Nat) : Int) = 0 := by omega
    have hnl : (r.length + p) / (p + 1) ≤ r.length := by
     rw [Nat.div_le_iff_le_mul_add_pred (by omega)]
     have : r.length ≤ (p + 1) * r.length := Nat.le_mul_of_pos_left _ (by omega)
     omega
    have hcl := (ClonePair ((r.map Pair.pv).take ((r.length + p) / (p + 1))) (fun x hx => h2 r x (List.mem_of_mem_take hx)) (by simp; omega)).forget
    have hnl' : (((r.length + p) / (p + 1) : Nat) : Int) ≤ (r.length : Int) := by omega
    simp +contextual (maxSteps:=9^7) only [go_sem,h0,hw1,hw2,hw3,hp0]
    refine ⟨by omega,?_⟩
    refine DV.call [] [] (by simp only [go_sem]) (by simp [dOK]) ⟨114,[],by simp only [go_sem],⟨_,rfl,rfl,rfl⟩,.inl ⟨[.row ((r.map Pair.pv).take ((r.length + p) / (p + 1)))],_,.inl (by simp only [go_sem]),hcl,.inr (.inl ⟨_,rfl,rfl,rfl⟩)⟩⟩ (by simp only [go_sem]) (by simp only [go_sem]) (by simp only [go_sem]) (by simp) ?_
    refine DV.exec 400 ?_
    simp +contextual (maxSteps:=9^7) only [go_sem,hw4]
    refine ⟨⟨by omega,by omega⟩,⟨hnl',fun j _ => rfl⟩,by kernel_rfl,p,_,_,[some 17],by omega,⟨p,r.drop ((r.length + p) / (p + 1)),done ++ [r.take ((r.length + p) / (p + 1))],by omega,Nat.le_trans (by rw [List.length_drop]; exact Nat.sub_le _ _) hrl,rfl,?_,by rw [zJ,List.length_singleton]; omega,rfl,rfl⟩,?_⟩
    ·rw [← hd]; simp [partsV]
    ·simp only [go_sem,zM,zC,zB,rowP,List.map_take,List.map_drop]
     try decide
theorem Note.inj (s t : Note) : (s.pv = t.pv) = (s = t) := by
 cases s; cases t
 simp [Note.pv]
def fewN (l : List Note) : Prop := l.length ≤ 60 ∧ ∀ p ∈ l,p.key.length ≤ 300 ∧ p.value.length ≤ 300
instance instFewN (l : List Note) : Decidable (fewN l) := by unfold fewN; infer_instance
theorem doneOne_key (st : List UInt8 × Bool) {x : Note} (h : x.kind = 1) : doneOne st x = (x.value,true) := by simp [doneOne,h]
theorem doneOne_del (st : List UInt8 × Bool) {x : Note} (h : x.kind = 2) : doneOne st x = ([],false) := by simp [doneOne,h]
def keyStep (k : List UInt8) (o : Option Note) (x : Note) : Option Note := if k = x.key then some (match o with | some w => bothV w x | none => x) else o
theorem pushV_get : ∀ (ns : List Note) {l : List Note},gSorted Note.key l → ∀ k,gGet Note.key (pushV l ns) k = ns.foldl (keyStep k) (gGet Note.key l k)
 | [],_,_,_ => rfl
 | x :: r,l,h,k => by
  show gGet Note.key (pushV (pushOne l x) r) k = _
  rw [pushV_get r (pushOne_sorted h x) k,pushOne_get h,List.foldl_cons]
  rfl
def nb (w : Note) : Ob := .box true [.val (.int .i64 w.kind),.val (.str w.key),.val (.str w.value),.val (.int .u64 w.n)]
theorem u64_eq (x : Int) : IntKind.u64.wrap x = x % 18446744073709551616 := by simp [IntKind.wrap,IntKind.bits,IntKind.signed]
theorem beN_foldl : ∀ (l : List UInt8) (a : Int),l.foldl (fun n b => n * 256 + (b.toNat : Int)) a = a * 256 ^ l.length + beN l
 | [],a => by simp [beN]
 | b :: l,a => by
  have h1 := beN_foldl l (a * 256 + (b.toNat : Int))
  have h2 := beN_foldl l (b.toNat : Int)
  have h3 : beN (b :: l) = l.foldl (fun n b => n * 256 + (b.toNat : Int)) (b.toNat : Int) := by simp [beN]
  rw [List.foldl_cons,h1,h3,h2,zT,Int.pow_succ,Int.add_mul,Int.mul_assoc,Int.mul_comm 256,Int.add_assoc]
theorem beN_cons (b : UInt8) (l : List UInt8) : beN (b :: l) = (b.toNat : Int) * 256 ^ l.length + beN l := by
 have := beN_foldl l (b.toNat : Int)
 rw [← this]; simp [beN]
theorem beN_beB : ∀ (k m : Nat),beN (beB (m : Int) k) = ((m % 256 ^ k : Nat) : Int)
 | 0,m => by simp [beB,beN,Nat.mod_one]
 | k + 1,m => by
  rw [beB_succ,beN_cons,beN_beB k m,beB_len]
  have e : ((m : Int) / 256 ^ k % 256) = ((m / 256 ^ k % 256 : Nat) : Int) := by
   rw [Int.natCast_emod,Int.natCast_ediv,Int.natCast_pow]; rfl
  have h : (UInt8.ofNat ((m : Int) / 256 ^ k % 256).toNat).toNat = m / 256 ^ k % 256 := by
   rw [e,Int.toNat_natCast,UInt8.toNat_ofNat']
   exact Nat.mod_eq_of_lt (Nat.mod_lt _ (by decide))
  rw [h,Nat.pow_succ,Nat.mod_mul,Int.natCast_add,Int.natCast_mul,Int.natCast_pow]
  rw [Int.mul_comm,Int.add_comm]; rfl
theorem numV_beB {w : Int} (h0 : 0 ≤ w) (h1 : w < 18446744073709551616) : numV (beB w 8) = w := by
 unfold numV
 rw [if_pos (beB_len _ _)]
 obtain ⟨m,rfl⟩ := Int.eq_ofNat_of_zero_le h0
 rw [beN_beB]
 have : m < 256 ^ 8 := by
  have e : (256 : Nat) ^ 8 = 18446744073709551616 := by decide
  omega
 rw [Nat.mod_eq_of_lt this]
theorem numV_wrap (x : Int) : numV (beB (IntKind.u64.wrap x) 8) = IntKind.u64.wrap x := numV_beB (u64_wrap_nonneg x) (u64_wrap_lt x)
def okO (o : Option Note) : Prop := ∀ w,o = some w → w.ok
theorem keyStep_ok (k : List UInt8) {o : Option Note} (ho : okO o) {x : Note} (hx : x.ok) : okO (keyStep k o x) := by
 unfold keyStep
 split
 ·intro w hw
  cases o with
  | none => cases hw; exact hx
  | some v => cases hw; exact bothV_ok (ho v rfl) hx
 ·exact ho
theorem fold_other (k : List UInt8) : ∀ (ns : List Note) (o : Option Note),(∀ x ∈ ns,¬ k = x.key) → ns.foldl (keyStep k) o = o
 | [],_,_ => rfl
 | x :: r,o,h => by
  rw [List.foldl_cons]
  have : keyStep k o x = o := by unfold keyStep; rw [if_neg (h x zG)]
  rw [this]
  exact fold_other k r o fun y hy => h y (zH _ hy)
theorem fold_sorted (k : List UInt8) : ∀ (ns : List Note),gSorted Note.key ns → ns.foldl (keyStep k) none = gGet Note.key ns k
 | [],_ => rfl
 | x :: r,h => by
  cases h with
  | cons h1 h2 =>
   rw [List.foldl_cons]
   unfold gGet
   rw [List.find?_cons]
   by_cases hk : k = x.key
   ·have e : keyStep k none x = some x := by unfold keyStep; rw [if_pos hk]
    rw [e,fold_other k r _ (fun y hy e2 => by
     have := h1 y hy
     rw [← hk,← e2] at this
     exact slt_irrefl _ this)]
    simp [hk]
   ·have e : keyStep k none x = none := by unfold keyStep; rw [if_neg hk]
    rw [e,fold_sorted k r h2]
    have hd : decide (x.key = k) = false := decide_eq_false (fun e => hk e.symm)
    rw [hd]; rfl
theorem allOk_app {a b : List Note} : allOk (a ++ b) ↔ allOk a ∧ allOk b := by
 unfold allOk
 simp only [zO]
 exact ⟨fun h => ⟨fun x hx => h x (.inl hx),fun x hx => h x (.inr hx)⟩,fun h x hx => hx.elim (h.1 x) (h.2 x)⟩
theorem risesFrom_iff : ∀ (l : List (List UInt8)) (last : Option (List UInt8)),risesFrom last l ↔ (∀ k,last = some k → ∀ s ∈ l,slt k s) ∧ l.Pairwise slt
 | [],last => by simp [risesFrom]
 | s :: r,last => by
  rw [risesFrom,risesFrom_iff r,List.pairwise_cons]
  constructor
  ·rintro ⟨h1,h2,h3⟩
   refine ⟨fun k hk x hx => ?_,fun x hx => h2 _ rfl x hx,h3⟩
   rcases zI.1 hx with rfl | hx
   ·exact h1 k hk
   ·exact slt_trans (h1 k hk) (h2 _ rfl x hx)
  ·rintro ⟨h1,h2,h3⟩
   exact ⟨fun k hk => h1 k hk s zG,fun k hk x hx => by cases hk; exact h2 x hx,h3⟩
theorem risesOk_iff (l : List (List UInt8)) : risesOk l ↔ l.Pairwise slt := by
 unfold risesOk; rw [risesFrom_iff]; simp
theorem stepO_both (o : Option (List UInt8)) {a b : Note} (ha : a.ok) (hb : b.ok) : stepO (stepO o a) b = stepO o (bothV a b) := by
 obtain ⟨_,_,ka⟩ := ha
 obtain ⟨_,_,kb⟩ := hb
 have d1 : ¬ (3 : Int) = 1 := by decide
 have d2 : ¬ (3 : Int) = 2 := by decide
 have d3 : ¬ (2 : Int) = 1 := by decide
 rcases kb with kb | kb | kb
 ·have e : bothV a b = b := by simp [bothV,kb.1]
  rw [e,stepO_put _ kb.1,stepO_put _ kb.1]
 ·have e : bothV a b = b := by simp [bothV,kb.1]
  rw [e,stepO_del _ kb.1,stepO_del _ kb.1]
 ·rcases ka with ka | ka | ka
  ·have e : bothV a b = ⟨1,b.key,(doneOne (a.value,true) b).1,0⟩ := by simp [bothV,kb.1,ka.1]
   have e2 : stepO o ⟨1,b.key,(doneOne (a.value,true) b).1,0⟩ = some (doneOne (a.value,true) b).1 := stepO_put o rfl
   rw [e,e2,stepO_put _ ka.1]
   simp [stepO,doneOne,kb.1]
  ·have e : bothV a b = ⟨1,b.key,(doneOne ([],false) b).1,0⟩ := by simp [bothV,kb.1,ka.1]
   have e2 : stepO o ⟨1,b.key,(doneOne ([],false) b).1,0⟩ = some (doneOne ([],false) b).1 := stepO_put o rfl
   rw [e,e2,stepO_del _ ka.1]
   simp [stepO,doneOne,kb.1]
  ·have e : bothV a b = { b with n := IntKind.u64.wrap (b.n + a.n) } := by simp [bothV,kb.1,ka.1]
   rw [e]
   have hw : ∀ u : Int,IntKind.u64.wrap (IntKind.u64.wrap (u + a.n) + b.n) = IntKind.u64.wrap (u + IntKind.u64.wrap (b.n + a.n)) := fun u => by
    simp only [u64_eq]; omega
   cases o with
   | none => simp [stepO,doneOne,kb.1,ka.1,numV_wrap,hw]
   | some v => simp [stepO,doneOne,kb.1,ka.1,numV_wrap,hw]
def actO (o : Option (List UInt8)) : Option Note → Option (List UInt8)
 | none => o
 | some w => stepO o w
def valF (k : List UInt8) (o : Option (List UInt8)) (x : Note) : Option (List UInt8) := if k = x.key then stepO o x else o
theorem valF_act (k : List UInt8) (o : Option (List UInt8)) {p : Option Note} (hp : okO p) {x : Note} (hx : x.ok) : valF k (actO o p) x = actO o (keyStep k p x) := by
 unfold valF keyStep
 by_cases h : k = x.key
 ·rw [if_pos h,if_pos h]
  cases p with
  | none => rfl
  | some w => exact stepO_both o (hp w rfl) hx
 ·rw [if_neg h,if_neg h]
theorem fold_act (k : List UInt8) (o : Option (List UInt8)) : ∀ (ns : List Note) {p : Option Note},okO p → allOk ns → ns.foldl (valF k) (actO o p) = actO o (ns.foldl (keyStep k) p)
 | [],_,_,_ => rfl
 | x :: r,p,hp,hn => by
  have hx := hn x zG
  rw [List.foldl_cons,List.foldl_cons,valF_act k o hp hx]
  exact fold_act k o r (keyStep_ok k hp hx) fun y hy => hn y (zH _ hy)
theorem app_act {l : List Pair} (hs : Sorted l) {ns : List Note} (hn : allOk ns) (k : List UInt8) : val (appV l ns) k = actO (val l k) (ns.foldl (keyStep k) none) := by
 rw [appV_val ns hs k]
 exact fold_act k (val l k) ns (p := none) (fun w h => by cases h) hn
theorem push_does {p : List Pair} (hp : Sorted p) {l more : List Note} (hl : waitOk l) (hm : allOk more) : appV p (pushV l more) = appV p (l ++ more) := by
 have hl' := (waitOk_iff l).1 hl
 have hw := (waitOk_iff _).1 (pushV_ok more hl hm)
 refine val_ext (appV_sorted _ hp) (appV_sorted _ hp) fun k => ?_
 rw [app_act hp hw.2,app_act hp (allOk_app.2 ⟨hl'.2,hm⟩),fold_sorted k _ hw.1,pushV_get more hl'.1 k,List.foldl_append,fold_sorted k l hl'.1]
inductive Nd where
 | mk (low : List UInt8) (kids : List Nd) (wait : List Note) (pairs : List Pair)
def Nd.low : Nd → List UInt8 | .mk l _ _ _ => l
def Nd.kids : Nd → List Nd | .mk _ k _ _ => k
def Nd.wait : Nd → List Note | .mk _ _ w _ => w
def Nd.pairs : Nd → List Pair | .mk _ _ _ p => p
mutual
def Nd.pv : Nd → PV
 | .mk l ks w p => .ptr (.agg [.str l,.row (Nd.pvs ks),.row (w.map Note.pv),.row (p.map Pair.pv)])
def Nd.pvs : List Nd → List PV
 | [] => []
 | k :: ks => k.pv :: Nd.pvs ks
end
theorem Nd.pvs_eq : ∀ ks : List Nd,Nd.pvs ks = ks.map Nd.pv
 | [] => rfl
 | k :: ks => by rw [Nd.pvs,Nd.pvs_eq ks]; rfl
theorem Nd.pv_eq (n : Nd) : n.pv = .ptr (.agg [.str n.low,.row (n.kids.map Nd.pv),.row (n.wait.map Note.pv),.row (n.pairs.map Pair.pv)]) := by
 cases n with
 | mk l ks w p => rw [Nd.pv,Nd.pvs_eq]; rfl
mutual
def Nd.all : Nd → List Pair
 | .mk _ ks w p => (applyV (p ++ Nd.alls ks) w).1
def Nd.alls : List Nd → List Pair
 | [] => []
 | k :: ks => k.all ++ Nd.alls ks
end
mutual
def Nd.mass : Nd → Nat
 | .mk _ ks w _ => w.length + (if ks.isEmpty then 1 else 0) + Nd.masss ks
def Nd.masss : List Nd → Nat
 | [] => 0
 | k :: ks => k.mass + Nd.masss ks
end
theorem alls_app : ∀ (a b : List Nd),Nd.alls (a ++ b) = Nd.alls a ++ Nd.alls b
 | [],b => rfl
 | k :: a,b => by rw [List.cons_append,Nd.alls,alls_app a b,Nd.alls,List.append_assoc]
theorem masss_app : ∀ (a b : List Nd),Nd.masss (a ++ b) = Nd.masss a + Nd.masss b
 | [],b => by simp [Nd.masss]
 | k :: a,b => by rw [List.cons_append,Nd.masss,masss_app a b,Nd.masss]; omega
mutual
theorem mass_pos : ∀ n : Nd,0 < n.mass
 | .mk lo ks w p => by
  rw [Nd.mass]
  have := masss_len ks
  cases ks with
  | nil => simp; omega
  | cons k ks => simp at this ⊢; omega
theorem masss_len : ∀ ks : List Nd,ks.length ≤ Nd.masss ks
 | [] => zR _
 | k :: ks => by
  have h1 := mass_pos k
  have h2 := masss_len ks
  rw [Nd.masss,zT]; omega
end
def gparts {α : Type} : Nat → List α → List (List α)
 | 0,_ => []
 | p + 1,l => l.take ((l.length + p) / (p + 1)) :: gparts p (l.drop ((l.length + p) / (p + 1)))
def headLow : List Nd → List UInt8
 | [] => []
 | k :: _ => k.low
def setLow (lo : List UInt8) : Nd → Nd
 | .mk _ ks w p => .mk lo ks w p
def mkParts : List (List UInt8) → List (List Nd) → List (List Note) → List Nd
 | lo :: los,g :: gs,ws => .mk lo g (ws.headD []) [] :: mkParts los gs ws.tail
 | _,_,_ => []
def partLows (lo : List UInt8) : List (List Nd) → List (List UInt8)
 | [] => []
 | _ :: r => lo :: r.map headLow
def groups (ks : List Nd) : List (List Nd) := gparts ((ks.length + 3) / 4) ks
def partsN (lo : List UInt8) (ks : List Nd) (w : List Note) : List Nd :=
 mkParts (partLows lo (groups ks)) (groups ks) (splitR w (partLows lo (groups ks)))
def fixMore (more ks : List Nd) (i : Nat) : List Nd × List Nd :=
 match more with
 | _ :: _ => (more,ks)
 | [] => if ks.length = 1 then ([.mk (headLow ks) [] [] []],ks) else if i = 0 then ([],match ks with | a :: b :: r => a :: setLow a.low b :: r | l => l) else ([],ks)
def spliceN (more ks : List Nd) (i : Nat) : List Nd := (fixMore more ks i).2.take i ++ (fixMore more ks i).1 ++ (fixMore more ks i).2.drop (i + 1)
def flushN (putf : Nd → List Note → List Nd) (ks : List Nd) (w : List Note) : List Nd × List Note :=
 (spliceN (putf (ks.getD (mostV w (ks.map Nd.low)) (.mk [] [] [] [])) ((splitR w (ks.map Nd.low)).getD (mostV w (ks.map Nd.low)) [])) ks (mostV w (ks.map Nd.low)),
  ((splitR w (ks.map Nd.low)).set (mostV w (ks.map Nd.low)) []).flatten)
def drainN (putf : Nd → List Note → List Nd) : Nat → List Nd → List Note → List Nd × List Note
 | 0,ks,w => (ks,w)
 | f + 1,ks,w => if 6 < w.length then drainN putf f (flushN putf ks w).1 (flushN putf ks w).2 else (ks,w)
def headKey : List Pair → List UInt8
 | [] => []
 | p :: _ => p.key
def leafOf (q : List Pair) : Nd := .mk (headKey q) [] [] q
def leavesN (lo : List UInt8) (l : List Pair) : List Nd :=
 match shareV l 4 with
 | [] => []
 | p :: r => .mk lo [] [] p :: r.map leafOf
def putN : Nat → Nd → List Note → List Nd
 | 0,n,ns => leavesN n.low (applyV n.pairs ns).1
 | h + 1,n,ns => if n.kids.isEmpty = true then leavesN n.low (applyV n.pairs ns).1 else
   partsN n.low (drainN (putN h) (pushR n.wait ns).1.length n.kids (pushR n.wait ns).1).1 (drainN (putN h) (pushR n.wait ns).1.length n.kids (pushR n.wait ns).1).2
def In (lo : List UInt8) (hi : Option (List UInt8)) (k : List UInt8) : Prop := ¬ slt k lo ∧ ∀ b,hi = some b → slt k b
theorem lt_ge {x y b : List UInt8} (h : slt x b) (g : ¬ slt y b) : slt x y := by
 rcases slt_total y b with h1 | h1 | h1
 ·exact absurd h1 g
 ·rw [h1]; exact h
 ·exact slt_trans h h1
theorem ge_lt {x y z : List UInt8} (e : slt x z) (h : ¬ slt x y) : slt y z := by
 rcases slt_total x y with h1 | h1 | h1
 ·exact absurd h1 h
 ·rw [← h1]; exact e
 ·exact slt_trans h1 e
theorem ge_trans {x y z : List UInt8} (h : ¬ slt x y) (g : ¬ slt y z) : ¬ slt x z := fun e => g (ge_lt e h)
theorem ge_of_lt {x y : List UInt8} (h : slt x y) : ¬ slt y x := slt_asymm h
def nextLow : List Nd → Option (List UInt8) → Option (List UInt8)
 | [],hi => hi
 | k :: _,_ => some k.low
def Seg (R : Option (List UInt8) → Nd → Prop) : List Nd → Option (List UInt8) → Prop
 | [],_ => True
 | k :: ks,hi => R (nextLow ks hi) k ∧ Seg R ks hi
theorem nextLow_app (a b : List Nd) (hi : Option (List UInt8)) : nextLow (a ++ b) hi = nextLow a (nextLow b hi) := by cases a <;> rfl
theorem seg_app {R : Option (List UInt8) → Nd → Prop} : ∀ (a b : List Nd) (hi : Option (List UInt8)),Seg R (a ++ b) hi ↔ Seg R a (nextLow b hi) ∧ Seg R b hi
 | [],b,hi => by simp [Seg]
 | k :: a,b,hi => by simp only [List.cons_append,Seg,seg_app a b hi,nextLow_app,and_assoc]
def Full (h : Nat) (ks : List Nd) : Prop := h = 0 → 1 < ks.length → ∀ k ∈ ks,k.pairs ≠ []
def Gap (lo : List UInt8) (hi : Option (List UInt8)) : Prop := ∀ b,hi = some b → slt lo b
def WF : Nat → Option (List UInt8) → Nd → Prop
 | 0,hi,n => n.kids = [] ∧ n.wait = [] ∧ n.pairs.length ≤ 4 ∧ pairsOk n.pairs ∧ (∀ x ∈ n.pairs,In n.low hi x.key) ∧ Gap n.low hi
 | h + 1,hi,n => n.pairs = [] ∧ n.wait.length ≤ 6 ∧ waitOk n.wait ∧ (∀ x ∈ n.wait,In n.low hi x.key) ∧ n.kids.length ≤ 4 ∧ nextLow n.kids none = some n.low ∧ Seg (WF h) n.kids hi ∧ Full h n.kids ∧ Gap n.low hi
theorem WF.gap {h : Nat} {hi : Option (List UInt8)} {n : Nd} (w : WF h hi n) : Gap n.low hi := by
 cases h with
 | zero => exact w.2.2.2.2.2
 | succ h => exact w.2.2.2.2.2.2.2.2
theorem seg_gap {h : Nat} : ∀ (ks : List Nd) (hi : Option (List UInt8)),Seg (WF h) ks hi → ∀ k ∈ ks,Gap k.low hi
 | k :: ks,hi,hs,x,hx => by
  have h1 := hs.1.gap
  rcases zI.1 hx with rfl | hx
  ·cases ks with
   | nil => exact h1
   | cons y ys =>
    intro b hb
    exact slt_trans (h1 _ rfl) (seg_gap (y :: ys) hi hs.2 y zG b hb)
  ·exact seg_gap ks hi hs.2 x hx
theorem seg_above {h : Nat} : ∀ (ks : List Nd) (hi : Option (List UInt8)) (k : Nd),Seg (WF h) (k :: ks) hi → ∀ x ∈ ks,slt k.low x.low
 | y :: ys,hi,k,hs,x,hx => by
  have h1 : slt k.low y.low := hs.1.gap _ rfl
  rcases zI.1 hx with rfl | hx
  ·exact h1
  ·exact slt_trans h1 (seg_above ys hi y hs.2 x hx)
theorem seg_rises {h : Nat} : ∀ (ks : List Nd) (hi : Option (List UInt8)),Seg (WF h) ks hi → (ks.map Nd.low).Pairwise slt
 | [],_,_ => .nil
 | k :: ks,hi,hs => .cons (fun s hs' => by
   obtain ⟨x,hx,rfl⟩ := zN.1 hs'
   exact seg_above ks hi k hs x hx) (seg_rises ks hi hs.2)
theorem val_app_l {A B : List Pair} {k : List UInt8} (hB : ∀ p ∈ B,slt k p.key) : val (A ++ B) k = val A k := by
 have h2 : B.find? (fun p => decide (p.key = k)) = none := List.find?_eq_none.2 fun p hp => by
  have := hB p hp
  intro e
  rw [decide_eq_true_eq] at e
  rw [e] at this
  exact slt_irrefl k this
 unfold val getL
 rw [List.find?_append,h2,Option.or_none]
theorem val_app_r {A B : List Pair} {k : List UInt8} (hA : ∀ p ∈ A,slt p.key k) : val (A ++ B) k = val B k := by
 have h2 : A.find? (fun p => decide (p.key = k)) = none := List.find?_eq_none.2 fun p hp => by
  have := hA p hp
  intro e
  rw [decide_eq_true_eq] at e
  rw [e] at this
  exact slt_irrefl k this
 unfold val getL
 rw [List.find?_append,h2,Option.none_or]
theorem filter_none {α : Type} {p : α → Bool} {l : List α} (h : ∀ x ∈ l,p x = false) : l.filter p = [] := List.filter_eq_nil_iff.2 fun x hx => by rw [h x hx]; simp
theorem filter_all {α : Type} {p : α → Bool} {l : List α} (h : ∀ x ∈ l,p x = true) : l.filter p = l := List.filter_eq_self.2 h
theorem oneV_l {A B : List Pair} {x : Note} (hB : ∀ p ∈ B,slt x.key p.key) : oneV (A ++ B) x = oneV A x ++ B := by
 have h1 : lowP (A ++ B) x.key = lowP A x.key := by
  unfold lowP
  rw [zV,filter_none (l := B) fun p hp => by simpa using slt_asymm (hB p hp),List.append_nil]
 have h2 : highP (A ++ B) x.key = highP A x.key ++ B := by
  unfold highP
  rw [zV,filter_all (l := B) fun p hp => by simpa using hB p hp]
 unfold oneV mids
 rw [h1,h2,val_app_l hB]
 simp only [List.append_assoc]
theorem oneV_r {A B : List Pair} {x : Note} (hA : ∀ p ∈ A,slt p.key x.key) : oneV (A ++ B) x = A ++ oneV B x := by
 have h1 : lowP (A ++ B) x.key = A ++ lowP B x.key := by
  unfold lowP
  rw [zV,filter_all (l := A) fun p hp => by simpa using hA p hp]
 have h2 : highP (A ++ B) x.key = highP B x.key := by
  unfold highP
  rw [zV,filter_none (l := A) fun p hp => by simpa using slt_asymm (hA p hp),List.nil_append]
 unfold oneV mids
 rw [h1,h2,val_app_r hA]
 simp only [List.append_assoc]
theorem oneV_key {l : List Pair} {x : Note} {p : Pair} (h : p ∈ oneV l x) : p ∈ l ∨ p.key = x.key := by
 unfold oneV at h
 rcases zO.1 h with h | h
 ·rcases zO.1 h with h | h
  ·exact .inl (List.mem_filter.1 h).1
  ·unfold mids at h
   split at h
   ·simp at h; rw [h]; exact .inr rfl
   ·cases h
 ·exact .inl (List.mem_filter.1 h).1
theorem appV_key : ∀ (ns : List Note) {l : List Pair} {p : Pair},p ∈ appV l ns → p ∈ l ∨ ∃ x ∈ ns,p.key = x.key
 | [],l,p,h => .inl h
 | x :: ns,l,p,h => by
  rcases appV_key ns (l := oneV l x) h with h | ⟨y,hy,e⟩
  ·rcases oneV_key h with h | h
   ·exact .inl h
   ·exact .inr ⟨x,zG,h⟩
  ·exact .inr ⟨y,zH _ hy,e⟩
theorem appV_l : ∀ (ns : List Note) {A B : List Pair},(∀ x ∈ ns,∀ p ∈ B,slt x.key p.key) → appV (A ++ B) ns = appV A ns ++ B
 | [],A,B,_ => rfl
 | x :: ns,A,B,h => by
  show appV (oneV (A ++ B) x) ns = appV (oneV A x) ns ++ B
  rw [oneV_l (h x zG)]
  exact appV_l ns fun y hy => h y (zH _ hy)
theorem appV_r : ∀ (ns : List Note) {A B : List Pair},(∀ x ∈ ns,∀ p ∈ A,slt p.key x.key) → appV (A ++ B) ns = A ++ appV B ns
 | [],A,B,_ => rfl
 | x :: ns,A,B,h => by
  show appV (oneV (A ++ B) x) ns = A ++ appV (oneV B x) ns
  rw [oneV_r (h x zG)]
  exact appV_r ns fun y hy => h y (zH _ hy)
theorem appV_cut {A B : List Pair} {wa wb : List Note} {b : List UInt8} (h1 : ∀ p ∈ A,slt p.key b) (h2 : ∀ x ∈ wa,slt x.key b) (h3 : ∀ p ∈ B,¬ slt p.key b) (h4 : ∀ x ∈ wb,¬ slt x.key b) :
  appV (A ++ B) (wa ++ wb) = appV A wa ++ appV B wb := by
 rw [appV_app,appV_l wa fun x hx p hp => lt_ge (h2 x hx) (h3 p hp),appV_r wb fun x hx p hp => ?_]
 rcases appV_key wa hp with hp | ⟨y,hy,e⟩
 ·exact lt_ge (h1 p hp) (h4 x hx)
 ·rw [e]; exact lt_ge (h2 y hy) (h4 x hx)
theorem pairsOk_app {A B : List Pair} (hA : pairsOk A) (hB : pairsOk B) (h : ∀ p ∈ A,∀ q ∈ B,slt p.key q.key) : pairsOk (A ++ B) := by
 rw [pairsOk_iff] at *
 exact ⟨List.pairwise_append.2 ⟨hA.1,hB.1,h⟩,fun p hp => (zO.1 hp).elim (hA.2 p) (hB.2 p)⟩
theorem pairsOk_nil : pairsOk [] := (pairsOk_iff []).2 ⟨.nil,fun p hp => by cases hp⟩
def AllIn (n : Nd) (hi : Option (List UInt8)) : Prop := pairsOk n.all ∧ ∀ x ∈ n.all,In n.low hi x.key
theorem seg_all' {h : Nat} (ih : ∀ hi n,WF h hi n → AllIn n hi) : ∀ (ks : List Nd) (hi : Option (List UInt8)),Seg (WF h) ks hi → pairsOk (Nd.alls ks) ∧ ∀ x ∈ Nd.alls ks,In (headLow ks) hi x.key
 | [],hi,_ => ⟨pairsOk_nil,fun x hx => by cases hx⟩
 | k :: ks,hi,hs => by
  obtain ⟨a1,a2⟩ := ih _ k hs.1
  obtain ⟨b1,b2⟩ := seg_all' ih ks hi hs.2
  have hg := seg_gap (k :: ks) hi hs
  refine ⟨pairsOk_app a1 b1 fun p hp q hq => ?_,fun x hx => ?_⟩
  ·cases ks with
   | nil => cases hq
   | cons y ys => exact lt_ge ((a2 p hp).2 y.low rfl) (b2 q hq).1
  ·rw [Nd.alls] at hx
   rcases zO.1 hx with h1 | h1
   ·refine ⟨(a2 x h1).1,fun b hb => ?_⟩
    cases ks with
    | nil => exact (a2 x h1).2 b hb
    | cons y ys => exact slt_trans ((a2 x h1).2 _ rfl) (hg y (zH _ zG) b hb)
   ·refine ⟨?_,(b2 x h1).2⟩
    cases ks with
    | nil => cases h1
    | cons y ys => exact ge_trans (b2 x h1).1 (ge_of_lt (hs.1.gap y.low rfl))
theorem Nd.all_eq (n : Nd) : n.all = (applyV (n.pairs ++ Nd.alls n.kids) n.wait).1 := by
 cases n; rw [Nd.all]; rfl
theorem WF.all : ∀ (h : Nat) (hi : Option (List UInt8)) (n : Nd),WF h hi n → AllIn n hi
 | 0,hi,n,w => by
  obtain ⟨h1,h2,h3,h4,h5,h6⟩ := w
  have e : n.all = n.pairs := by
   rw [Nd.all_eq,h1,h2,Nd.alls,List.append_nil,applyV_ok h4 (fun x hx => by cases hx)]; rfl
  unfold AllIn
  rw [e]
  exact ⟨h4,h5⟩
 | h + 1,hi,n,w => by
  obtain ⟨h1,h2,h3,h4,h5,h6,h7,h8,h9⟩ := w
  obtain ⟨a1,a2⟩ := seg_all' (WF.all h) n.kids hi h7
  have hw := (waitOk_iff _).1 h3
  have e : n.all = appV (Nd.alls n.kids) n.wait := by rw [Nd.all_eq,h1,List.nil_append,applyV_ok a1 hw.2]
  have hl : headLow n.kids = n.low := by
   cases hk : n.kids with
   | nil => rw [hk] at h6; cases h6
   | cons k ks => rw [hk] at h6; exact Option.some.inj h6
  unfold AllIn
  rw [e]
  refine ⟨appV_ok _ a1 hw.2,fun x hx => ?_⟩
  rcases appV_key _ hx with hx | ⟨y,hy,ey⟩
  ·have := a2 x hx; rw [hl] at this; exact this
  ·rw [ey]; exact h4 y hy
theorem seg_all {h : Nat} (ks : List Nd) (hi : Option (List UInt8)) (hs : Seg (WF h) ks hi) : pairsOk (Nd.alls ks) ∧ ∀ x ∈ Nd.alls ks,In (headLow ks) hi x.key := seg_all' (WF.all h) ks hi hs
theorem WF.all_leaf {hi : Option (List UInt8)} {n : Nd} (w : WF 0 hi n) : n.all = n.pairs := by
 obtain ⟨h1,h2,h3,h4,h5,h6⟩ := w
 rw [Nd.all_eq,h1,h2,Nd.alls,List.append_nil,applyV_ok h4 (fun x hx => by cases hx)]; rfl
theorem WF.all_node {h : Nat} {hi : Option (List UInt8)} {n : Nd} (w : WF (h + 1) hi n) : n.all = appV (Nd.alls n.kids) n.wait := by
 obtain ⟨h1,h2,h3,h4,h5,h6,h7,h8,h9⟩ := w
 rw [Nd.all_eq,h1,List.nil_append,applyV_ok (seg_all n.kids hi h7).1 ((waitOk_iff _).1 h3).2]
theorem gparts_step {p n : Nat} (hn : 0 < p) : (n + (p - 1)) / p * p ≤ n + (p - 1) ∧ n ≤ (n + (p - 1)) / p * p := by
 have h1 := Nat.div_add_mod (n + (p - 1)) p
 have h2 := Nat.mod_lt (n + (p - 1)) hn
 have h3 : p * ((n + (p - 1)) / p) = (n + (p - 1)) / p * p := Nat.mul_comm _ _
 omega
theorem gparts_spec {α : Type} : ∀ (p : Nat) (l : List α),l.length ≤ 4 * p → p ≤ l.length → (gparts p l).flatten = l ∧ (gparts p l).length = p ∧ ∀ g ∈ gparts p l,g ≠ [] ∧ g.length ≤ 4
 | 0,l,h,_ => by
  have : l = [] := zP (by omega)
  subst this
  exact ⟨rfl,rfl,fun g hg => by cases hg⟩
 | p + 1,l,h,h' => by
  obtain ⟨h1,h2⟩ := gparts_step (p := p + 1) (n := l.length) (by omega)
  rw [Nat.add_sub_cancel] at h1 h2
  generalize hk : (l.length + p) / (p + 1) = k at *
  have hk4 : k ≤ 4 := by
   rcases Nat.lt_or_ge 4 k with h5 | h5
   ·have := Nat.mul_le_mul_right (p + 1) h5; omega
   ·exact h5
  have hk1 : 0 < k := by
   rcases Nat.eq_zero_or_pos k with h5 | h5
   ·subst h5; omega
   ·exact h5
  have e : k * (p + 1) = k * p + k := Nat.mul_succ k p
  have hkp : k * p ≤ 4 * p := Nat.mul_le_mul_right p hk4
  have hpp : p ≤ k * p := Nat.le_mul_of_pos_left p hk1
  have hkl : k ≤ l.length := by
   rcases Nat.lt_or_ge l.length k with h5 | h5
   ·rcases Nat.eq_zero_or_pos p with hp | hp
    ·subst hp; omega
    ·rcases Nat.lt_or_ge 1 k with h6 | h6
     ·have : 2 * p ≤ k * p := Nat.mul_le_mul_right p h6
      omega
     ·omega
   ·exact h5
  have hpl : p ≤ (l.drop k).length := by
   rw [List.length_drop]
   rcases Nat.lt_or_ge 1 k with h6 | h6
   ·have h7 : 2 * p ≤ k * p := Nat.mul_le_mul_right p h6
    omega
   ·have : k = 1 := by omega
    subst this; omega
  have hlp : (l.drop k).length ≤ 4 * p := by rw [List.length_drop]; omega
  obtain ⟨g1,g2,g3⟩ := gparts_spec p (l.drop k) hlp hpl
  rw [gparts,hk]
  refine ⟨by rw [List.flatten_cons,g1,List.take_append_drop],by rw [zT,g2],fun g hg => ?_⟩
  rcases zI.1 hg with rfl | hg
  ·refine ⟨fun e0 => ?_,by rw [zU]; omega⟩
   have := congrArg List.length e0
   rw [zU,List.length_nil] at this
   omega
  ·exact g3 g hg
theorem partsV_eq : ∀ (p : Nat) (l : List Pair),partsV p l = gparts p l
 | 0,l => rfl
 | p + 1,l => by rw [partsV,gparts,partsV_eq p]
theorem groups_spec (ks : List Nd) : (groups ks).flatten = ks ∧ (groups ks).length = (ks.length + 3) / 4 ∧ ∀ g ∈ groups ks,g ≠ [] ∧ g.length ≤ 4 := gparts_spec _ ks (by omega) (by omega)
theorem howMany4 (n : Nat) : howMany n 4 = (n + 3) / 4 := by unfold howMany; split <;> omega
theorem share4 (l : List Pair) : shareV l 4 = gparts ((l.length + 3) / 4) l := by
 unfold shareV
 rw [if_neg (by decide),partsV_eq,show (4 : Int).toNat = 4 from rfl,howMany4]
theorem share4_spec (l : List Pair) : (shareV l 4).flatten = l ∧ (shareV l 4).length = (l.length + 3) / 4 ∧ ∀ g ∈ shareV l 4,g ≠ [] ∧ g.length ≤ 4 := by
 rw [share4]; exact gparts_spec _ l (by omega) (by omega)
def SegN : List Nd → List (List Note) → Option (List UInt8) → Prop
 | k :: ks,s :: ss,hi => (∀ x ∈ s,In k.low (nextLow ks hi) x.key) ∧ SegN ks ss hi
 | [],[],_ => True
 | _,_,_ => False
def acts : List Nd → List (List Note) → List Pair
 | k :: ks,s :: ss => appV k.all s ++ acts ks ss
 | _,_ => []
theorem segN_len : ∀ (ks : List Nd) (S : List (List Note)) (hi : Option (List UInt8)),SegN ks S hi → ks.length = S.length
 | [],[],_,_ => rfl
 | k :: ks,s :: ss,hi,h => by rw [zT,zT,segN_len ks ss hi h.2]
 | [],_ :: _,_,h => h.elim
 | _ :: _,[],_,h => h.elim
theorem segN_app : ∀ (A B : List Nd) (SA SB : List (List Note)) (hi : Option (List UInt8)),A.length = SA.length → (SegN (A ++ B) (SA ++ SB) hi ↔ SegN A SA (nextLow B hi) ∧ SegN B SB hi)
 | [],B,[],SB,hi,_ => by simp [SegN]
 | k :: A,B,s :: SA,SB,hi,h => by
  have ih := segN_app A B SA SB hi (by simpa using h)
  simp only [List.cons_append,SegN,ih,nextLow_app,and_assoc]
 | [],_,_ :: _,_,_,h => by simp at h
 | _ :: _,_,[],_,_,h => by simp at h
theorem acts_app : ∀ (A B : List Nd) (SA SB : List (List Note)),A.length = SA.length → acts (A ++ B) (SA ++ SB) = acts A SA ++ acts B SB
 | [],B,[],SB,_ => rfl
 | k :: A,B,s :: SA,SB,h => by simp only [List.cons_append,acts,acts_app A B SA SB (by simpa using h),List.append_assoc]
 | [],_,_ :: _,_,h => by simp at h
 | _ :: _,_,[],_,h => by simp at h
theorem acts_none : ∀ ks : List Nd,acts ks (List.replicate ks.length []) = Nd.alls ks
 | [] => rfl
 | k :: ks => by rw [zT,List.replicate_succ,acts,acts_none ks,Nd.alls]; rfl
theorem segN_none : ∀ (ks : List Nd) (hi : Option (List UInt8)),SegN ks (List.replicate ks.length []) hi
 | [],_ => trivial
 | k :: ks,hi => by rw [zT,List.replicate_succ]; exact ⟨fun x hx => (by cases hx),segN_none ks hi⟩
theorem flat_none (n : Nat) : (List.replicate n ([] : List Note)).flatten = [] := by simp
theorem segN_low {h : Nat} : ∀ (ks : List Nd) (S : List (List Note)) (hi : Option (List UInt8)),Seg (WF h) ks hi → SegN ks S hi → ∀ x ∈ S.flatten,In (headLow ks) hi x.key
 | [],[],_,_,_,x,hx => by cases hx
 | k :: ks,s :: ss,hi,hs,hn,x,hx => by
  have hg := seg_gap (k :: ks) hi hs
  rw [List.flatten_cons] at hx
  rcases zO.1 hx with h1 | h1
  ·have h2 := hn.1 x h1
   refine ⟨h2.1,fun b hb => ?_⟩
   cases ks with
   | nil => exact h2.2 b hb
   | cons y ys => exact slt_trans (h2.2 _ rfl) (hg y (zH _ zG) b hb)
  ·have h2 := segN_low ks ss hi hs.2 hn.2 x h1
   refine ⟨?_,h2.2⟩
   cases ks with
   | nil =>
    have := segN_len [] ss hi hn.2
    have : ss = [] := zP this.symm
    subst this; cases h1
   | cons y ys => exact ge_trans h2.1 (ge_of_lt (hs.1.gap y.low rfl))
 | [],_ :: _,_,_,h,_,_ => h.elim
 | _ :: _,[],_,_,h,_,_ => h.elim
theorem appV_acts {h : Nat} : ∀ (ks : List Nd) (S : List (List Note)) (hi : Option (List UInt8)),Seg (WF h) ks hi → SegN ks S hi → appV (Nd.alls ks) S.flatten = acts ks S
 | [],[],_,_,_ => rfl
 | k :: ks,s :: ss,hi,hs,hn => by
  have ih := appV_acts ks ss hi hs.2 hn.2
  rw [Nd.alls,List.flatten_cons,acts,← ih]
  cases ks with
  | nil =>
   have := segN_len [] ss hi hn.2
   have : ss = [] := zP this.symm
   subst this
   simp [Nd.alls,appV]
  | cons y ys =>
   have ha := WF.all h _ k hs.1
   have hb := seg_all (y :: ys) hi hs.2
   exact appV_cut (b := y.low) (fun p hp => (ha.2 p hp).2 _ rfl) (fun x hx => (hn.1 x hx).2 _ rfl) (fun p hp => (hb.2 p hp).1) (fun x hx => (segN_low (y :: ys) ss hi hs.2 hn.2 x hx).1)
 | [],_ :: _,_,_,h => h.elim
 | _ :: _,[],_,_,h => h.elim
theorem split_parts {h : Nat} : ∀ (ks : List Nd) (hi : Option (List UInt8)) (w : List Note),ks ≠ [] → Seg (WF h) ks hi → gSorted Note.key w → (∀ x ∈ w,In (headLow ks) hi x.key) →
  (splitV w (ks.map Nd.low)).flatten = w ∧ SegN ks (splitV w (ks.map Nd.low)) hi
 | [k],hi,w,_,_,_,hw => by
  show ([w] : List (List Note)).flatten = w ∧ _
  exact ⟨by simp,hw,trivial⟩
 | k :: y :: ks,hi,w,_,hs,hsw,hw => by
  have hle := gBelow_le Note.key y.low w
  have h1 : ∀ x ∈ w.take (gBelow Note.key y.low w),slt x.key y.low := fun x hx => by
   obtain ⟨i,hi',e⟩ := List.mem_take_iff_getElem.1 hx
   exact gBelow_lt Note.key w i x (by omega) (by rw [← e]; exact zA (by omega))
  have h2 : ∀ x ∈ w.drop (gBelow Note.key y.low w),¬ slt x.key y.low := fun x hx => by
   obtain ⟨i,hi',e⟩ := List.mem_iff_getElem.1 hx
   rw [List.getElem_drop] at e
   exact gBelow_ge Note.key w hsw (gBelow Note.key y.low w + i) x (by omega) (by rw [← e]; exact zA _)
  have hd := split_parts (y :: ks) hi (w.drop (gBelow Note.key y.low w)) (by simp) hs.2 (List.Pairwise.sublist (List.drop_sublist _ _) hsw) (fun x hx => ⟨h2 x hx,(hw x (List.mem_of_mem_drop hx)).2⟩)
  have e : splitV w ((k :: y :: ks).map Nd.low) = w.take (gBelow Note.key y.low w) :: splitV (w.drop (gBelow Note.key y.low w)) ((y :: ks).map Nd.low) := rfl
  rw [e,List.flatten_cons,hd.1,List.take_append_drop]
  exact ⟨rfl,fun x hx => ⟨(hw x (List.mem_of_mem_take hx)).1,fun b hb => by cases hb; exact h1 x hx⟩,hd.2⟩
structure DI (h : Nat) (lo : List UInt8) (hi : Option (List UInt8)) (ks : List Nd) (w : List Note) : Prop where
 seg : Seg (WF h) ks hi
 head : nextLow ks none = some lo
 full : Full h ks
 wok : waitOk w
 win : ∀ x ∈ w,In lo hi x.key
theorem headLow_of {ks : List Nd} {lo : List UInt8} (h : nextLow ks none = some lo) : ks ≠ [] ∧ headLow ks = lo := by
 cases ks with
 | nil => cases h
 | cons k ks => exact ⟨by simp,Option.some.inj h⟩
theorem DI.split {h : Nat} {lo : List UInt8} {hi : Option (List UInt8)} {ks : List Nd} {w : List Note} (d : DI h lo hi ks w) :
  splitR w (ks.map Nd.low) = splitV w (ks.map Nd.low) ∧ (splitV w (ks.map Nd.low)).flatten = w ∧ SegN ks (splitV w (ks.map Nd.low)) hi ∧ (splitV w (ks.map Nd.low)).length = ks.length := by
 obtain ⟨h1,h2⟩ := headLow_of d.head
 have hr : risesOk (ks.map Nd.low) := (risesOk_iff _).2 (seg_rises ks hi d.seg)
 obtain ⟨a,b⟩ := split_parts ks hi w h1 d.seg ((waitOk_iff _).1 d.wok).1 (by rw [h2]; exact d.win)
 refine ⟨?_,a,b,by rw [splitV_len,zW]⟩
 unfold splitR
 rw [if_pos ⟨d.wok,hr,by simpa using h1⟩]
structure PutOK (h : Nat) (hi : Option (List UInt8)) (n : Nd) (ns : List Note) (out : List Nd) : Prop where
 seg : Seg (WF h) out hi
 head : out ≠ [] → headLow out = n.low
 some : h ≠ 0 → out ≠ []
 full : h = 0 → ∀ k ∈ out,k.pairs ≠ []
 all : Nd.alls out = appV n.all ns
 mass : Nd.masss out ≤ n.mass + ns.length
def PutSpec (h : Nat) (putf : Nd → List Note → List Nd) : Prop := ∀ hi n ns,WF h hi n → notesOk ns → (∀ x ∈ ns,In n.low hi x.key) → PutOK h hi n ns (putf n ns)
theorem seg0_hi {bnd : List UInt8} {x : Option (List UInt8)} (hx : ∀ b,x = some b → slt bnd b) : ∀ (A : List Nd),Seg (WF 0) A (some bnd) → Seg (WF 0) A x
 | [],_ => trivial
 | [k],h => by
  obtain ⟨⟨h1,h2,h3,h4,h5,h6⟩,_⟩ := h
  refine ⟨⟨h1,h2,h3,h4,fun y hy => ⟨(h5 y hy).1,fun b hb => ?_⟩,fun b hb => ?_⟩,trivial⟩
  ·exact slt_trans ((h5 y hy).2 bnd rfl) (hx b hb)
  ·exact slt_trans (h6 bnd rfl) (hx b hb)
 | k :: y :: A,h => ⟨h.1,seg0_hi hx (y :: A) h.2⟩
theorem segN_hi {bnd : List UInt8} {x : Option (List UInt8)} (hx : ∀ b,x = some b → slt bnd b) : ∀ (A : List Nd) (S : List (List Note)),SegN A S (some bnd) → SegN A S x
 | [],[],_ => trivial
 | [k],[s],h => ⟨fun y hy => ⟨(h.1 y hy).1,fun b hb => slt_trans ((h.1 y hy).2 bnd rfl) (hx b hb)⟩,trivial⟩
 | k :: y :: A,s :: ss,h => ⟨h.1,segN_hi hx (y :: A) ss h.2⟩
 | [],_ :: _,h => h.elim
 | _ :: _,[],h => h.elim
 | [_],_ :: _ :: _,h => h.2.elim
theorem fix_cons {z : Nd} {zs ks : List Nd} {i : Nat} : fixMore (z :: zs) ks i = (z :: zs,ks) := rfl
theorem fix_zero {a b : Nd} {r : List Nd} : fixMore [] (a :: b :: r) 0 = ([],a :: setLow a.low b :: r) := by
 simp [fixMore]
theorem fix_else {ks : List Nd} {i : Nat} (h1 : ¬ ks.length = 1) (h2 : ¬ i = 0) : fixMore [] ks i = ([],ks) := by
 simp [fixMore,h1,h2]
theorem splice_spec {h : Nat} {hi : Option (List UInt8)} {A B more : List Nd} {k : Nd} {SA SB : List (List Note)} {s : List Note} (hs : Seg (WF h) (A ++ k :: B) hi) (hn : SegN (A ++ k :: B) (SA ++ s :: SB) hi)
  (hl : A.length = SA.length) (hm : Seg (WF h) more (nextLow B hi)) (hc : Nd.alls more = appV k.all s) (hf : Full h (A ++ k :: B)) (hmf : h = 0 → ∀ k ∈ more,k.pairs ≠ []) (hml : Nd.masss more ≤ k.mass + s.length)
  (hnil : more = [] → h = 0) (hlow : more ≠ [] → headLow more = k.low) {ks' : List Nd} (hks : ks' = spliceN more (A ++ k :: B) A.length) :
  Seg (WF h) ks' hi ∧ nextLow ks' none = nextLow (A ++ k :: B) none ∧ Full h ks' ∧ appV (Nd.alls ks') (SA.flatten ++ SB.flatten) = appV (Nd.alls (A ++ k :: B)) (SA ++ s :: SB).flatten ∧ Nd.masss ks' ≤ Nd.masss (A ++ k :: B) + s.length := by
 have hsA := (seg_app A (k :: B) hi).1 hs
 have hnA := (segN_app A (k :: B) SA (s :: SB) hi hl).1 hn
 have hkB : Seg (WF h) (k :: B) hi := hsA.2
 have hnB : SegN B SB hi := hnA.2.2
 have hlB := segN_len B SB hi hnB
 rw [appV_acts _ _ hi hs hn,acts_app _ _ _ _ hl,acts]
 have hmas : Nd.masss (A ++ k :: B) = Nd.masss A + (k.mass + Nd.masss B) := by rw [masss_app,Nd.masss]
 have plain : ∀ m : List Nd,m ≠ [] → headLow m = k.low → Seg (WF h) m (nextLow B hi) → Nd.alls m = appV k.all s → Seg (WF h) (A ++ m ++ B) hi ∧ nextLow (A ++ m ++ B) none = nextLow (A ++ k :: B) none ∧
   appV (Nd.alls (A ++ m ++ B)) (SA.flatten ++ SB.flatten) = acts A SA ++ (appV k.all s ++ acts B SB) := by
  intro m hne hlo hsm hcm
  have hnl : ∀ x,nextLow m x = some k.low := fun x => by
   cases m with
   | nil => exact absurd rfl hne
   | cons z zs => exact congrArg some hlo
  have hseg : Seg (WF h) (A ++ m ++ B) hi := by
   rw [List.append_assoc,seg_app,seg_app]
   refine ⟨?_,hsm,hkB.2⟩
   rw [nextLow_app,hnl]; exact hsA.1
  have hsn : SegN (A ++ m ++ B) (SA ++ List.replicate m.length [] ++ SB) hi := by
   rw [List.append_assoc,List.append_assoc,segN_app _ _ _ _ _ hl,segN_app _ _ _ _ _ (by simp)]
   refine ⟨?_,segN_none _ _,hnB⟩
   rw [nextLow_app,hnl]; exact hnA.1
  refine ⟨hseg,?_,?_⟩
  ·rw [List.append_assoc,nextLow_app,nextLow_app,hnl,nextLow_app]; rfl
  ·have e : SA.flatten ++ SB.flatten = (SA ++ List.replicate m.length [] ++ SB).flatten := by rw [List.flatten_append,List.flatten_append,flat_none,List.append_nil]
   rw [e,appV_acts _ _ hi hseg hsn,List.append_assoc,List.append_assoc,acts_app _ _ _ _ hl,acts_app _ _ _ _ (by simp),acts_none,hcm]
 cases hmore : more with
 | cons z zs =>
  have hne : more ≠ [] := by rw [hmore]; simp
  have e : ks' = A ++ more ++ B := by
   rw [hks,spliceN,hmore,fix_cons]; simp
  rw [e]
  obtain ⟨p1,p2,p3⟩ := plain more hne (hlow hne) hm hc
  refine ⟨p1,p2,fun h0 hlen x hx => ?_,p3,by rw [masss_app,masss_app,hmas]; omega⟩
  by_cases hAB : A = [] ∧ B = []
  ·obtain ⟨rfl,rfl⟩ := hAB
   rw [List.nil_append,List.append_nil] at hx
   exact hmf h0 x hx
  ·have hlen2 : 1 < (A ++ k :: B).length := by
    rw [zJ,zT]
    rcases Nat.eq_zero_or_pos A.length with ha | ha
    ·rcases Nat.eq_zero_or_pos B.length with hb | hb
     ·exact absurd ⟨zP ha,zP hb⟩ hAB
     ·omega
    ·omega
   have hff := hf h0 hlen2
   rw [List.append_assoc] at hx
   rcases zO.1 hx with hx | hx
   ·exact hff x (List.mem_append_left _ hx)
   ·rcases zO.1 hx with hx | hx
    ·exact hmf h0 x hx
    ·exact hff x (List.mem_append_right _ (zH _ hx))
 | nil =>
  have h0 := hnil hmore
  subst h0
  rw [hmore] at hc hks
  have hc : appV k.all s = [] := hc.symm
  have hw := hkB.1
  by_cases h1 : (A ++ k :: B).length = 1
  ·have hA : A = [] := zP (by rw [zJ,zT] at h1; omega)
   have hB : B = [] := zP (by rw [zJ,zT] at h1; omega)
   subst hA hB
   have e : ks' = [] ++ [Nd.mk k.low [] [] []] ++ [] := by
    rw [hks]; rfl
   have hleaf : WF 0 (nextLow [] hi) (Nd.mk k.low [] [] []) := ⟨rfl,rfl,by show 0 ≤ 4; omega,pairsOk_nil,fun x hx => (by cases hx),hw.2.2.2.2.2⟩
   obtain ⟨p1,p2,p3⟩ := plain [Nd.mk k.low [] [] []] (by simp) rfl ⟨hleaf,trivial⟩ (by
    rw [hc,Nd.alls,Nd.alls,List.append_nil,hleaf.all_leaf]; rfl)
   rw [e]
   refine ⟨p1,p2,fun _ hlen => by simp at hlen,p3,?_⟩
   have := mass_pos k
   rw [hmas]; simp [Nd.masss,Nd.mass]; omega
  ·have hlen2 : 1 < (A ++ k :: B).length := by rw [zJ,zT] at h1 ⊢; omega
   have hff := hf rfl hlen2
   by_cases hA : A = []
   ·subst hA
    cases hB : B with
    | nil => subst hB; simp at h1
    | cons b B' =>
     subst hB
     have hSA : SA = [] := zP hl.symm
     subst hSA
     cases hSB : SB with
     | nil => rw [hSB] at hlB; simp at hlB
     | cons sb SB' =>
      subst hSB
      have e : ks' = setLow k.low b :: B' := by
       rw [hks,spliceN,List.nil_append,List.length_nil,fix_zero]
       simp
      have hb := hkB.2.1
      have hgap : slt k.low b.low := hw.gap _ rfl
      have hb' : WF 0 (nextLow B' hi) (setLow k.low b) := by
       obtain ⟨q1,q2,q3,q4,q5,q6⟩ := hb
       cases b with
       | mk bl bk bw bp =>
        exact ⟨q1,q2,q3,q4,fun x hx => ⟨ge_trans (q5 x hx).1 (ge_of_lt hgap),(q5 x hx).2⟩,fun c hc => slt_trans hgap (q6 c hc)⟩
      have hall : (setLow k.low b).all = b.all := by
       rw [hb'.all_leaf,hb.all_leaf]; cases b; rfl
      have hseg : Seg (WF 0) (setLow k.low b :: B') hi := ⟨hb',hkB.2.2⟩
      have hlo : (setLow k.low b).low = k.low := by cases b; rfl
      have hsn : SegN (setLow k.low b :: B') (sb :: SB') hi := ⟨fun x hx => by rw [hlo]; exact ⟨ge_trans (hnB.1 x hx).1 (ge_of_lt hgap),(hnB.1 x hx).2⟩,hnB.2⟩
      rw [e]
      refine ⟨hseg,congrArg some hlo,fun _ _ x hx => ?_,?_,?_⟩
      ·rcases zI.1 hx with rfl | hx
       ·have := hff b (by simp)
        cases b; exact this
       ·exact hff x (by simp [hx])
      ·rw [List.flatten_nil,List.nil_append,appV_acts _ _ hi hseg hsn,hc,acts,acts,hall]; rfl
      ·rw [hmas]
       have : (setLow k.low b).mass = b.mass := by cases b; simp [setLow,Nd.mass]
       simp only [Nd.masss,this]; omega
   ·have e : ks' = A ++ B := by
     rw [hks,spliceN,fix_else h1 (by simpa using hA)]
     simp
    have hgap : ∀ b,nextLow B hi = some b → slt k.low b := hw.gap
    have hseg : Seg (WF 0) (A ++ B) hi := by
     rw [seg_app]
     exact ⟨seg0_hi hgap A hsA.1,hkB.2⟩
    have hsn : SegN (A ++ B) (SA ++ SB) hi := by
     rw [segN_app _ _ _ _ _ hl]
     exact ⟨segN_hi hgap A SA hnA.1,hnB⟩
    rw [e]
    refine ⟨hseg,?_,fun _ _ x hx => ?_,?_,?_⟩
    ·cases A with
     | nil => exact absurd rfl hA
     | cons a A => rfl
    ·rcases zO.1 hx with hx | hx
     ·exact hff x (List.mem_append_left _ hx)
     ·exact hff x (List.mem_append_right _ (zH _ hx))
    ·rw [← List.flatten_append,appV_acts _ _ hi hseg hsn,acts_app _ _ _ _ hl,hc]; rfl
    ·rw [masss_app,hmas]; omega
theorem flush_spec {h : Nat} {putf : Nd → List Note → List Nd} (hp : PutSpec h putf) {lo : List UInt8} {hi : Option (List UInt8)} {ks : List Nd} {w : List Note} (d : DI h lo hi ks w) (hw : w ≠ []) :
  DI h lo hi (flushN putf ks w).1 (flushN putf ks w).2 ∧ appV (Nd.alls (flushN putf ks w).1) (flushN putf ks w).2 = appV (Nd.alls ks) w ∧ (flushN putf ks w).2.length < w.length ∧
   Nd.masss (flushN putf ks w).1 + (flushN putf ks w).2.length ≤ Nd.masss ks + w.length := by
 obtain ⟨e1,e2,e3,e4⟩ := d.split
 obtain ⟨k1,k2⟩ := headLow_of d.head
 obtain ⟨i,hi'⟩ : ∃ i,i = mostV w (ks.map Nd.low) := ⟨_,rfl⟩
 have hlen : 0 < ks.length := List.length_pos_iff.2 k1
 have hilt : i < ks.length := by
  rw [hi',mostV,e1,← e4]
  exact bestV_lt _ _ (zR _) (by omega)
 have hbest := bestV_le (splitV w (ks.map Nd.low)) (splitV w (ks.map Nd.low)).length
 have hi2 : bestV (splitV w (ks.map Nd.low)) (splitV w (ks.map Nd.low)).length = i := by rw [hi',mostV,e1]
 rw [hi2] at hbest
 unfold flushN
 rw [← hi',e1]
 generalize splitV w (ks.map Nd.low) = S at *
 obtain ⟨k,hk⟩ : ∃ k,ks[i]? = some k := ⟨_,zA hilt⟩
 obtain ⟨s,hs⟩ : ∃ s,S[i]? = some s := ⟨_,zA (by omega)⟩
 have hkd : ks.getD i (.mk [] [] [] []) = k := by rw [List.getD_eq_getElem?_getD,hk]; rfl
 have hsd : S.getD i [] = s := by rw [List.getD_eq_getElem?_getD,hs]; rfl
 have hks : ks = ks.take i ++ k :: ks.drop (i + 1) := by rw [← drop_of_get hk,List.take_append_drop]
 have hS : S = S.take i ++ s :: S.drop (i + 1) := by rw [← drop_of_get hs,List.take_append_drop]
 have hsne : s ≠ [] := by
  intro e0
  rw [hsd,e0] at hbest
  apply hw
  rw [← e2]
  apply List.flatten_eq_nil_iff.2
  intro x hx
  obtain ⟨j,hj,rfl⟩ := List.mem_iff_getElem.1 hx
  have := hbest j hj
  rw [List.getD_eq_getElem?_getD,zA hj] at this
  exact zP (by simpa using this)
 rw [hkd,hsd]
 have hAl : (ks.take i).length = i := by rw [zU]; omega
 have hSl : (S.take i).length = i := by rw [zU]; omega
 generalize hA : ks.take i = A at *
 generalize hB : ks.drop (i + 1) = B at *
 generalize hSA : S.take i = SA at *
 generalize hSB : S.drop (i + 1) = SB at *
 have hset : (S.set i []).flatten = SA.flatten ++ SB.flatten := by
  rw [hS,List.set_append_right _ _ (by omega),hSl,Nat.sub_self,List.set_cons_zero,List.flatten_append,List.flatten_cons,List.nil_append]
 have hseg := d.seg
 have hfull := d.full
 have hhead := d.head
 rw [hset]
 rw [hks] at hseg hfull hhead e3 ⊢
 rw [hS] at e3
 have hw2 : w = SA.flatten ++ (s ++ SB.flatten) := by rw [← e2,hS,List.flatten_append,List.flatten_cons]
 have hwo := (waitOk_iff w).1 d.wok
 have hsl : (SA.flatten ++ SB.flatten).Sublist w := by
  rw [hw2]
  exact List.Sublist.append (List.Sublist.refl _) (List.sublist_append_right _ _)
 have hsn : notesOk s := fun x hx => hwo.2 x (by rw [hw2]; exact List.mem_append_right _ (List.mem_append_left _ hx))
 have hwk : WF h (nextLow B hi) k := ((seg_app A (k :: B) hi).1 hseg).2.1
 have hsin := ((segN_app A (k :: B) SA (s :: SB) hi (by omega)).1 e3).2.1
 have po := hp (nextLow B hi) k s hwk hsn hsin
 have sp := splice_spec hseg e3 (by omega) po.seg po.all hfull po.full po.mass (fun e0 => Classical.byContradiction fun hne => po.some hne e0) po.head (ks' := spliceN (putf k s) (A ++ k :: B) i) (by rw [hAl])
 obtain ⟨s1,s2,s3,s4,s5⟩ := sp
 have hlw : w.length = SA.flatten.length + (s.length + SB.flatten.length) := by rw [hw2,zJ,zJ]
 have hsp : 0 < s.length := List.length_pos_iff.2 hsne
 refine ⟨⟨s1,s2.trans hhead,s3,(waitOk_iff _).2 ⟨List.Pairwise.sublist hsl hwo.1,fun x hx => hwo.2 x (hsl.subset hx)⟩,fun x hx => d.win x (hsl.subset hx)⟩,?_,by rw [zJ]; omega,by rw [zJ]; simp only; omega⟩
 rw [s4,← hS,e2]
theorem drain_spec {h : Nat} {putf : Nd → List Note → List Nd} (hp : PutSpec h putf) {lo : List UInt8} {hi : Option (List UInt8)} : ∀ (f : Nat) (ks : List Nd) (w : List Note),DI h lo hi ks w → w.length ≤ f →
  DI h lo hi (drainN putf f ks w).1 (drainN putf f ks w).2 ∧ appV (Nd.alls (drainN putf f ks w).1) (drainN putf f ks w).2 = appV (Nd.alls ks) w ∧ (drainN putf f ks w).2.length ≤ 6 ∧
   Nd.masss (drainN putf f ks w).1 + (drainN putf f ks w).2.length ≤ Nd.masss ks + w.length
 | 0,ks,w,d,hf => ⟨d,rfl,by show w.length ≤ 6; omega,zR _⟩
 | f + 1,ks,w,d,hf => by
  unfold drainN
  by_cases h6 : 6 < w.length
  ·rw [if_pos h6]
   obtain ⟨a1,a2,a3,a4⟩ := flush_spec hp d (fun e => by rw [e] at h6; simp at h6)
   obtain ⟨b1,b2,b3,b4⟩ := drain_spec hp f _ _ a1 (by omega)
   exact ⟨b1,b2.trans a2,b3,by omega⟩
  ·rw [if_neg h6]
   exact ⟨d,rfl,by show w.length ≤ 6; omega,zR _⟩
def shell (g : List Nd) : Nd := .mk (headLow g) g [] []
def waits : List Nd → List (List Note) → List Nd
 | k :: ks,s :: ss => .mk k.low k.kids s [] :: waits ks ss
 | _,_ => []
theorem shells_seg {h : Nat} : ∀ (gs : List (List Nd)) (hi : Option (List UInt8)),(∀ g ∈ gs,g ≠ [] ∧ g.length ≤ 4) → Seg (WF h) gs.flatten hi → (∀ g ∈ gs,Full h g) → Seg (WF (h + 1)) (gs.map shell) hi
 | [],_,_,_,_ => trivial
 | g :: gs,hi,h1,h2,h3 => by
  rw [List.flatten_cons,seg_app] at h2
  obtain ⟨hg,hg4⟩ := h1 g zG
  have ih := shells_seg gs hi (fun x hx => h1 x (zH _ hx)) h2.2 (fun x hx => h3 x (zH _ hx))
  have hn : nextLow (gs.map shell) hi = nextLow gs.flatten hi := by
   cases gs with
   | nil => rfl
   | cons g2 gs =>
    have := (h1 g2 (zH _ zG)).1
    cases g2 with
    | nil => exact absurd rfl this
    | cons y ys => rfl
  refine ⟨?_,ih⟩
  rw [hn]
  have hgap : Gap (headLow g) (nextLow gs.flatten hi) := by
   cases g with
   | nil => exact absurd rfl hg
   | cons y ys => exact seg_gap _ _ h2.1 y zG
  refine ⟨rfl,by show 0 ≤ 6; omega,(waitOk_iff []).2 ⟨.nil,fun x hx => (by cases hx)⟩,fun x hx => (by cases hx),hg4,?_,h2.1,h3 g zG,hgap⟩
  show nextLow g none = some (headLow g)
  cases g with
  | nil => exact absurd rfl hg
  | cons y ys => rfl
theorem shells_all {h : Nat} : ∀ (gs : List (List Nd)) (hi : Option (List UInt8)),Seg (WF h) gs.flatten hi → Nd.alls (gs.map shell) = Nd.alls gs.flatten
 | [],_,_ => rfl
 | g :: gs,hi,h2 => by
  rw [List.flatten_cons,seg_app] at h2
  rw [zC,Nd.alls,shells_all gs hi h2.2,List.flatten_cons,alls_app]
  congr 1
  rw [Nd.all_eq]
  show (applyV ([] ++ Nd.alls g) []).1 = _
  rw [List.nil_append,applyV_ok (seg_all g _ h2.1).1 (fun x hx => by cases hx)]; rfl
theorem shells_mass : ∀ (gs : List (List Nd)),(∀ g ∈ gs,g ≠ []) → Nd.masss (gs.map shell) = Nd.masss gs.flatten
 | [],_ => rfl
 | g :: gs,h => by
  rw [zC,Nd.masss,shells_mass gs fun x hx => h x (zH _ hx),List.flatten_cons,masss_app]
  have := h g zG
  cases g with
  | nil => exact absurd rfl this
  | cons y ys => simp [shell,Nd.mass]
theorem waits_seg {h : Nat} : ∀ (ks : List Nd) (S : List (List Note)) (hi : Option (List UInt8)),Seg (WF (h + 1)) ks hi → SegN ks S hi → (∀ s ∈ S,s.length ≤ 6 ∧ waitOk s) → (∀ k ∈ ks,k.wait = []) →
  Seg (WF (h + 1)) (waits ks S) hi ∧ Nd.alls (waits ks S) = acts ks S ∧ Nd.masss (waits ks S) = Nd.masss ks + S.flatten.length ∧ nextLow (waits ks S) hi = nextLow ks hi ∧ (waits ks S).length = ks.length
 | [],[],hi,_,_,_,_ => ⟨trivial,rfl,rfl,rfl,rfl⟩
 | k :: ks,s :: ss,hi,h1,h2,h3,h4 => by
  obtain ⟨a1,a2,a3,a4,a5⟩ := waits_seg ks ss hi h1.2 h2.2 (fun x hx => h3 x (zH _ hx)) (fun x hx => h4 x (zH _ hx))
  obtain ⟨q1,q2,q3,q4,q5,q6,q7,q8,q9⟩ := h1.1
  have hk0 := h4 k zG
  have hw : WF (h + 1) (nextLow ks hi) (.mk k.low k.kids s []) := ⟨rfl,(h3 s zG).1,(h3 s zG).2,h2.1,q5,q6,q7,q8,q9⟩
  refine ⟨⟨by rw [a4]; exact hw,a1⟩,?_,?_,rfl,by rw [waits,zT,a5,zT]⟩
  ·rw [waits,Nd.alls,a2,acts,hw.all_node,h1.1.all_node,hk0]; rfl
  ·rw [waits,Nd.masss,a3,Nd.masss,List.flatten_cons,zJ]
   cases k with
   | mk kl kk kw kp =>
    have : kw = [] := hk0
    subst this
    simp [Nd.mass,Nd.low,Nd.kids]; omega
 | [],_ :: _,_,_,h,_,_ => h.elim
 | _ :: _,[],_,_,h,_,_ => h.elim
theorem mkParts_eq : ∀ (gs : List (List Nd)) (S : List (List Note)),gs.length = S.length → mkParts (gs.map headLow) gs S = waits (gs.map shell) S
 | [],[],_ => rfl
 | g :: gs,s :: ss,h => by
  rw [zC,mkParts,List.headD_cons,List.tail_cons,mkParts_eq gs ss (by simpa using h)]; rfl
 | [],_ :: _,h => by simp at h
 | _ :: _,[],h => by simp at h
theorem partLows_eq {lo : List UInt8} : ∀ {gs : List (List Nd)},(∀ g r,gs = g :: r → headLow g = lo) → partLows lo gs = gs.map headLow
 | [],_ => rfl
 | g :: r,h => by rw [partLows,zC,h g r rfl]
structure PartsOK (h : Nat) (lo : List UInt8) (hi : Option (List UInt8)) (ks : List Nd) (w : List Note) (out : List Nd) : Prop where
 seg : Seg (WF (h + 1)) out hi
 head : headLow out = lo
 some : out ≠ []
 all : Nd.alls out = appV (Nd.alls ks) w
 mass : Nd.masss out = Nd.masss ks + w.length
 len : out.length = (ks.length + 3) / 4
theorem parts_lows {h : Nat} {lo : List UInt8} {hi : Option (List UInt8)} {ks : List Nd} {w : List Note} (d : DI h lo hi ks w) : partLows lo (groups ks) = ((groups ks).map shell).map Nd.low ∧ groups ks ≠ [] ∧
  Seg (WF (h + 1)) ((groups ks).map shell) hi ∧ headLow ((groups ks).map shell) = lo := by
 obtain ⟨k1,k2⟩ := headLow_of d.head
 obtain ⟨g1,g2,g3⟩ := groups_spec ks
 have hlen : 0 < ks.length := List.length_pos_iff.2 k1
 have hne : groups ks ≠ [] := fun e => by rw [e] at g2; simp at g2; omega
 have hfirst : ∀ g r,groups ks = g :: r → headLow g = lo := fun g r e => by
  have hg := (g3 g (by rw [e]; exact zG)).1
  rw [e,List.flatten_cons] at g1
  cases g with
  | nil => exact absurd rfl hg
  | cons y ys => rw [← k2,← g1]; rfl
 have hfull : ∀ g ∈ groups ks,Full h g := fun g hg h0 hl x hx => by
  have hsub : ∀ z ∈ g,z ∈ ks := fun z hz => by rw [← g1]; exact List.mem_flatten.2 ⟨g,hg,hz⟩
  have hle : g.length ≤ ks.length := by
   rw [← g1]
   exact (List.sublist_flatten_of_mem hg).length_le
  exact d.full h0 (by omega) x (hsub x hx)
 have hs := shells_seg (groups ks) hi g3 (by rw [g1]; exact d.seg) hfull
 refine ⟨by rw [partLows_eq hfirst,List.map_map]; rfl,hne,hs,?_⟩
 cases hc : groups ks with
 | nil => exact absurd hc hne
 | cons g r => exact hfirst g r hc
theorem parts_spec {h : Nat} {lo : List UInt8} {hi : Option (List UInt8)} {ks : List Nd} {w : List Note} (d : DI h lo hi ks w) (hw6 : w.length ≤ 6) : PartsOK h lo hi ks w (partsN lo ks w) := by
 obtain ⟨g1,g2,g3⟩ := groups_spec ks
 obtain ⟨p1,p2,p3,p4⟩ := parts_lows d
 have hwo := (waitOk_iff w).1 d.wok
 have hne2 : (groups ks).map shell ≠ [] := by simpa using p2
 have hrise : risesOk (((groups ks).map shell).map Nd.low) := (risesOk_iff _).2 (seg_rises _ hi p3)
 obtain ⟨s1,s2⟩ := split_parts ((groups ks).map shell) hi w hne2 p3 hwo.1 (by rw [p4]; exact d.win)
 have hsr : splitR w (((groups ks).map shell).map Nd.low) = splitV w (((groups ks).map shell).map Nd.low) := by
  unfold splitR; rw [if_pos ⟨d.wok,hrise,by simpa using p2⟩]
 have hl := segN_len _ _ hi s2
 have e : partsN lo ks w = waits ((groups ks).map shell) (splitV w (((groups ks).map shell).map Nd.low)) := by
  unfold partsN
  rw [p1,hsr,← mkParts_eq _ _ (by rw [← hl,zW]),List.map_map]; rfl
 generalize splitV w (((groups ks).map shell).map Nd.low) = S at *
 have hS : ∀ s ∈ S,s.length ≤ 6 ∧ waitOk s := fun s hs => by
  have hsub : s.Sublist w := by rw [← s1]; exact List.sublist_flatten_of_mem hs
  exact ⟨Nat.le_trans hsub.length_le hw6,(waitOk_iff s).2 ⟨List.Pairwise.sublist hsub hwo.1,fun x hx => hwo.2 x (hsub.subset hx)⟩⟩
 obtain ⟨a1,a2,a3,a4,a5⟩ := waits_seg _ S hi p3 s2 hS (fun k hk => by obtain ⟨g,_,rfl⟩ := zN.1 hk; rfl)
 rw [e]
 have hal := appV_acts _ S hi p3 s2
 have hga := shells_all (groups ks) hi (by rw [g1]; exact d.seg)
 rw [g1] at hga
 have hgm := shells_mass (groups ks) (fun g hg => (g3 g hg).1)
 rw [g1] at hgm
 have hwl : (waits ((groups ks).map shell) S).length = (ks.length + 3) / 4 := by rw [a5,zW,g2]
 have hne : waits ((groups ks).map shell) S ≠ [] := fun e0 => by
  rw [e0] at a5
  simp at a5
  exact p2 (zP (by omega))
 refine ⟨a1,?_,hne,by rw [a2,← hal,hga,s1],by rw [a3,hgm,s1],hwl⟩
 have hz : ∀ (l m : List Nd) (x : Option (List UInt8)),l ≠ [] → m ≠ [] → nextLow l x = nextLow m x → headLow l = headLow m := fun l m x h1 h2 h3 => by
  cases l with
  | nil => exact absurd rfl h1
  | cons a l => cases m with
   | nil => exact absurd rfl h2
   | cons b m => exact Option.some.inj h3
 rw [hz _ _ hi hne hne2 a4,p4]
theorem leaves_seg : ∀ (qs : List (List Pair)) (q : List Pair) (lo : List UInt8) (hi : Option (List UInt8)),(∀ g ∈ q :: qs,g ≠ [] ∧ g.length ≤ 4) → pairsOk (q ++ qs.flatten) → (∀ x ∈ q ++ qs.flatten,In lo hi x.key) →
  Seg (WF 0) (.mk lo [] [] q :: qs.map leafOf) hi ∧ Nd.alls (.mk lo [] [] q :: qs.map leafOf) = q ++ qs.flatten ∧ Nd.masss (.mk lo [] [] q :: qs.map leafOf) = qs.length + 1
 | [],q,lo,hi,h1,h2,h3 => by
  simp only [List.flatten_nil,List.append_nil] at h2 h3
  obtain ⟨hq,hq4⟩ := h1 q zG
  have hw : WF 0 hi (.mk lo [] [] q) := ⟨rfl,rfl,hq4,h2,h3,fun b hb => by
   cases q with
   | nil => exact absurd rfl hq
   | cons x q => exact ge_lt ((h3 x zG).2 b hb) (h3 x zG).1⟩
  refine ⟨⟨hw,trivial⟩,?_,rfl⟩
  rw [Nd.alls,hw.all_leaf]; rfl
 | q2 :: qs,q,lo,hi,h1,h2,h3 => by
  obtain ⟨hq,hq4⟩ := h1 q zG
  obtain ⟨hq2,_⟩ := h1 q2 (zH _ zG)
  rw [pairsOk_iff] at h2
  obtain ⟨h2a,h2b,h2c⟩ := List.pairwise_append.1 h2.1
  obtain ⟨y,ys,rfl⟩ : ∃ y ys,q2 = y :: ys := by
   cases q2 with
   | nil => exact absurd rfl hq2
   | cons y ys => exact ⟨y,ys,rfl⟩
  have hrest : pairsOk ((y :: ys) ++ qs.flatten) := (pairsOk_iff _).2 ⟨by rw [List.flatten_cons] at h2b; exact h2b,fun x hx => h2.2 x (List.mem_append_right _ (by simpa using hx))⟩
  have hge : ∀ x ∈ (y :: ys) ++ qs.flatten,In y.key hi x.key := fun x hx => by
   refine ⟨?_,(h3 x (List.mem_append_right _ (by simpa using hx))).2⟩
   have h4 := (pairsOk_iff _).1 hrest
   rcases zI.1 hx with rfl | hx
   ·exact slt_irrefl _
   ·exact ge_of_lt ((List.pairwise_cons.1 h4.1).1 x hx)
  obtain ⟨a1,a2,a3⟩ := leaves_seg qs (y :: ys) y.key hi (fun g hg => h1 g (zH _ hg)) hrest hge
  have hqlt : ∀ x ∈ q,slt x.key y.key := fun x hx => h2c x hx y (by simp)
  have hw : WF 0 (some y.key) (.mk lo [] [] q) := ⟨rfl,rfl,hq4,(pairsOk_iff _).2 ⟨h2a,fun x hx => h2.2 x (List.mem_append_left _ hx)⟩,fun x hx => ⟨(h3 x (List.mem_append_left _ hx)).1,fun b hb => by cases hb; exact hqlt x hx⟩,fun b hb => by
   cases hb
   cases q with
   | nil => exact absurd rfl hq
   | cons x q => exact ge_lt (hqlt x zG) (h3 x (by simp)).1⟩
  have e : leafOf (y :: ys) = .mk y.key [] [] (y :: ys) := rfl
  refine ⟨⟨hw,by rw [zC,e]; exact a1⟩,?_,?_⟩
  ·rw [Nd.alls,zC,e,a2,hw.all_leaf]; rfl
  ·rw [Nd.masss,zC,e,a3]; simp [Nd.mass,Nd.masss]; omega
theorem leavesN_spec {lo : List UInt8} {hi : Option (List UInt8)} {l : List Pair} (hl : pairsOk l) (hin : ∀ x ∈ l,In lo hi x.key) :
  Seg (WF 0) (leavesN lo l) hi ∧ (leavesN lo l ≠ [] → headLow (leavesN lo l) = lo) ∧ (∀ k ∈ leavesN lo l,k.pairs ≠ []) ∧ Nd.alls (leavesN lo l) = l ∧ Nd.masss (leavesN lo l) = (l.length + 3) / 4 := by
 obtain ⟨s1,s2,s3⟩ := share4_spec l
 unfold leavesN
 cases hS : shareV l 4 with
 | nil =>
  rw [hS] at s1 s2
  have : l = [] := by rw [← s1]; rfl
  subst this
  exact ⟨trivial,fun h => absurd rfl h,fun k hk => (by cases hk),rfl,rfl⟩
 | cons q qs =>
  rw [hS] at s1 s2 s3
  rw [List.flatten_cons] at s1
  obtain ⟨a1,a2,a3⟩ := leaves_seg qs q lo hi s3 (by rw [s1]; exact hl) (by rw [s1]; exact hin)
  refine ⟨a1,fun _ => rfl,fun k hk => ?_,by rw [a2,s1],by rw [a3,← s2]; rfl⟩
  rcases zI.1 hk with rfl | hk
  ·exact (s3 q zG).1
  ·obtain ⟨g,hg,rfl⟩ := zN.1 hk
   exact (s3 g (zH _ hg)).1
theorem pushOne_keys {l : List Note} {y x : Note} (h : x ∈ pushOne l y) : x ∈ l ∨ x.key = y.key := by
 unfold pushOne gPut gLow gHigh at h
 rcases zO.1 h with h | h
 ·rcases zO.1 h with h | h
  ·exact .inl (List.mem_filter.1 h).1
  ·simp only [List.mem_singleton] at h
   rw [h]; exact .inr (mergeV_key l y)
 ·exact .inl (List.mem_filter.1 h).1
theorem pushV_keys : ∀ (ns : List Note) {l : List Note} {x : Note},x ∈ pushV l ns → x ∈ l ∨ ∃ y ∈ ns,x.key = y.key
 | [],l,x,h => .inl h
 | y :: ns,l,x,h => by
  rcases pushV_keys ns (l := pushOne l y) h with h | ⟨z,hz,e⟩
  ·rcases pushOne_keys h with h | h
   ·exact .inl h
   ·exact .inr ⟨y,zG,h⟩
  ·exact .inr ⟨z,zH _ hz,e⟩
theorem put_spec : ∀ h,PutSpec h (putN h)
 | 0,hi,n,ns,w,hn,hin => by
  obtain ⟨w1,w2,w3,w4,w5,w6⟩ := w
  have ha : (applyV n.pairs ns).1 = appV n.pairs ns := by rw [applyV_ok w4 hn]
  have hp := appV_ok ns w4 hn
  obtain ⟨a1,a2,a3,a4,a5⟩ := leavesN_spec (lo := n.low) (hi := hi) hp (fun x hx => by
   rcases appV_key ns hx with hx | ⟨y,hy,e⟩
   ·exact w5 x hx
   ·rw [e]; exact hin y hy)
  have hlen := appV_len ns ((pairsOk_iff _).1 w4).1
  have hm := mass_pos n
  show PutOK 0 hi n ns (leavesN n.low (applyV n.pairs ns).1)
  rw [ha]
  refine ⟨a1,a2,fun h => absurd rfl h,fun _ => a3,?_,by rw [a5]; omega⟩
  rw [a4,WF.all_leaf ⟨w1,w2,w3,w4,w5,w6⟩]
 | h + 1,hi,n,ns,w,hn,hin => by
  have hall := w.all_node
  obtain ⟨w1,w2,w3,w4,w5,w6,w7,w8,w9⟩ := w
  obtain ⟨k1,k2⟩ := headLow_of w6
  have hemp : n.kids.isEmpty = false := by
   cases hk : n.kids with
   | nil => exact absurd hk k1
   | cons k ks => rfl
  have hpr : (pushR n.wait ns).1 = pushV n.wait ns := by unfold pushR; rw [if_pos ⟨w3,hn⟩]
  have hwo := (waitOk_iff _).1 w3
  have hpo := pushV_ok ns w3 hn
  have hpl := pushV_len ns hwo.1
  have hpin : ∀ x ∈ pushV n.wait ns,In n.low hi x.key := fun x hx => by
   rcases pushV_keys ns hx with h1 | ⟨y,hy,e⟩
   ·exact w4 x h1
   ·rw [e]; exact hin y hy
  have d0 : DI h n.low hi n.kids (pushV n.wait ns) := ⟨w7,w6,w8,hpo,hpin⟩
  obtain ⟨d1,d2,d3,d4⟩ := drain_spec (put_spec h) (pushV n.wait ns).length n.kids (pushV n.wait ns) d0 (zR _)
  have e : putN (h + 1) n ns = partsN n.low (drainN (putN h) (pushV n.wait ns).length n.kids (pushV n.wait ns)).1 (drainN (putN h) (pushV n.wait ns).length n.kids (pushV n.wait ns)).2 := by
   rw [putN,hemp,hpr]; rfl
  have ps := parts_spec d1 d3
  rw [e]
  have hmn : n.mass = n.wait.length + Nd.masss n.kids := by
   cases n with
   | mk l ks ww p =>
    have : ks.isEmpty = false := hemp
    rw [Nd.mass,this]; rfl
  have hsk := (seg_all n.kids hi w7).1
  refine ⟨ps.seg,fun _ => ps.head,fun _ => ps.some,fun h0 => (by cases h0),?_,by rw [ps.mass,hmn]; omega⟩
  rw [ps.all,d2,push_does ((pairsOk_iff _).1 hsk).1 w3 hn,appV_app,hall]
def growN : Nat → List Nd → List Nd
 | 0,l => l
 | f + 1,l => if 1 < l.length then growN f (partsN [] l []) else l
def collapseN : Nat → Nd → Nd
 | 0,n => n
 | f + 1,.mk _ [k] [] _ => collapseN f k
 | _ + 1,n => n
abbrev Tr := Option Nd
def topN : Tr → Nd
 | none => .mk [] [] [] []
 | some n => n
def Tr.pv : Tr → PV
 | none => .agg [.nilp]
 | some n => .agg [n.pv]
def headNd : List Nd → Nd
 | [] => .mk [] [] [] []
 | k :: _ => k
def applyT (h : Nat) (t : Tr) (ns : List Note) : Tr := match putN h (topN t) ns with
 | [] => none
 | k :: ks => some (collapseN (h + (k :: ks).length) (headNd (growN (k :: ks).length (k :: ks))))
structure Root (h : Nat) (n : Nd) (L : List Pair) (M : Nat) : Prop where
 wf : WF h none n
 low : n.low = []
 all : n.all = L
 mass : n.mass ≤ M
def GoodT (t : Tr) (L : List Pair) (H M : Nat) : Prop := ∃ h,h ≤ H ∧ Root h (topN t) L M
theorem nil_wait : waitOk [] := (waitOk_iff []).2 ⟨.nil,fun x hx => (by cases hx)⟩
theorem GoodT.empty : GoodT .none [] 0 1 := ⟨0,by omega,⟨rfl,rfl,by show 0 ≤ 4; omega,pairsOk_nil,fun x hx => (by cases hx),fun b hb => (by cases hb)⟩,rfl,by
 show Nd.all (.mk [] [] [] []) = []
 rw [Nd.all_eq]
 show (applyV ([] ++ Nd.alls []) []).1 = []
 rw [Nd.alls,List.append_nil,applyV_ok pairsOk_nil (fun x hx => by cases hx)]; rfl,by simp [topN,Nd.mass,Nd.masss]⟩
theorem GoodT.mono {t : Tr} {L : List Pair} {H H' M M' : Nat} (g : GoodT t L H M) (hh : H ≤ H') (h : M ≤ M') : GoodT t L H' M' := by
 obtain ⟨d,h0,h1⟩ := g
 exact ⟨d,by omega,h1.wf,h1.low,h1.all,Nat.le_trans h1.mass h⟩
theorem GoodT.ok {t : Tr} {L : List Pair} {H M : Nat} (g : GoodT t L H M) : pairsOk L := by
 obtain ⟨h,_,r⟩ := g
 rw [← r.all]; exact (WF.all h none _ r.wf).1
theorem grow_spec : ∀ (f h : Nat) (l : List Nd),l.length ≤ f → Seg (WF h) l none → l ≠ [] → headLow l = [] → Full h l → ∃ h' r,growN f l = [r] ∧ h' ≤ h + f ∧ WF h' none r ∧ r.low = [] ∧ r.all = Nd.alls l ∧ r.mass = Nd.masss l
 | 0,h,l,hf,_,hne,_,_ => absurd (zP (by omega)) hne
 | f + 1,h,l,hf,hs,hne,hlow,hfull => by
  unfold growN
  by_cases h1 : 1 < l.length
  ·rw [if_pos h1]
   have hd : DI h [] none l [] := ⟨hs,by
    cases l with
    | nil => exact absurd rfl hne
    | cons k ks => exact congrArg some hlow,hfull,nil_wait,fun x hx => (by cases hx)⟩
   have ps := parts_spec hd (by simp)
   obtain ⟨h',r,e1,e2,e3,e4,e5,e6⟩ := grow_spec f (h + 1) (partsN [] l []) (by rw [ps.len]; omega) ps.seg ps.some ps.head (fun h0 => by cases h0)
   refine ⟨h',r,e1,by omega,e3,e4,?_,by rw [e6,ps.mass]; rfl⟩
   rw [e5,ps.all]; rfl
  ·rw [if_neg h1]
   match l,hne with
   | [k],_ =>
    refine ⟨h,k,rfl,by omega,hs.1,hlow,?_,?_⟩
    ·simp [Nd.alls]
    ·simp [Nd.masss]
   | a :: b :: l,_ => simp at h1
theorem collapse_spec : ∀ (f h : Nat) (n : Nd),h ≤ f → WF h none n → n.low = [] → ∃ h',h' ≤ h ∧ WF h' none (collapseN f n) ∧ (collapseN f n).low = [] ∧ (collapseN f n).all = n.all ∧ (collapseN f n).mass = n.mass
 | 0,h,n,hf,w,hl => ⟨h,zR _,w,hl,rfl,rfl⟩
 | f + 1,h,n,hf,w,hl => by
  by_cases hc : ∃ lo k p,n = .mk lo [k] [] p
  ·obtain ⟨lo,k,p,rfl⟩ := hc
   cases h with
   | zero => exact absurd w.1 (by simp [Nd.kids])
   | succ h =>
    have hall := w.all_node
    obtain ⟨w1,w2,w3,w4,w5,w6,w7,w8,w9⟩ := w
    have hkl : k.low = [] := by
     have : some k.low = some lo := w6
     rw [Option.some.inj this]; exact hl
    obtain ⟨h',a0,a1,a2,a3,a4⟩ := collapse_spec f h k (by omega) w7.1 hkl
    refine ⟨h',by omega,a1,a2,?_,?_⟩
    ·show (collapseN f k).all = _
     rw [a3,hall]
     show k.all = appV (Nd.alls [k]) []
     simp [Nd.alls,appV]
    ·show (collapseN f k).mass = _
     rw [a4]
     simp [Nd.mass,Nd.masss]
  ·have e : collapseN (f + 1) n = n := by
    unfold collapseN
    split
    ·rename_i h1; cases h1
    ·exact absurd ⟨_,_,_,rfl⟩ hc
    ·rfl
   rw [e]
   exact ⟨h,zR _,w,hl,rfl,rfl⟩
theorem apply_spec {h : Nat} {t : Tr} {L : List Pair} {M : Nat} {ns : List Note} (r : Root h (topN t) L M) (hn : notesOk ns) : GoodT (applyT h t ns) (appV L ns) (h + M + ns.length) (M + ns.length) := by
 have ps := put_spec h none (topN t) ns r.wf hn (fun x hx => ⟨by rw [r.low]; exact slt_nil _,fun b hb => by cases hb⟩)
 have hM := r.mass
 have hM0 := mass_pos (topN t)
 unfold applyT
 cases hp : putN h (topN t) ns with
 | nil =>
  have ha := ps.all
  rw [hp,r.all] at ha
  show GoodT none _ _ _
  rw [← ha]
  exact GoodT.empty.mono (by omega) (by omega)
 | cons k ks =>
  have hms := ps.mass
  have hlen := masss_len (k :: ks)
  rw [hp] at hms
  have hl0 : headLow (k :: ks) = [] := by
   have := ps.head (by rw [hp]; simp)
   rw [hp] at this
   rw [this,r.low]
  obtain ⟨h',g,e1,e2,e3,e4,e5,e6⟩ := grow_spec (k :: ks).length h (k :: ks) (zR _) (by rw [← hp]; exact ps.seg) (by simp) hl0 (fun h0 _ => by rw [← hp]; exact ps.full h0)
  obtain ⟨h2,c0,c1,c2,c3,c4⟩ := collapse_spec (h + (k :: ks).length) h' g (by omega) e3 e4
  have hd : headNd (growN (k :: ks).length (k :: ks)) = g := by rw [e1]; rfl
  simp only [hd]
  refine ⟨h2,by omega,c1,c2,?_,?_⟩
  ·show (collapseN _ g).all = _
   rw [c3,e5,← hp,ps.all,r.all]
  ·show (collapseN _ g).mass ≤ _
   rw [c4,e6]; omega
def belowGo (key : List UInt8) : Nd → List Nd → Nd
 | out,[] => out
 | out,k :: ks => belowGo key (if slt key k.low then out else k) ks
def belowN (ks : List Nd) (key : List UInt8) : Nd := match ks with
 | [] => .mk [] [] [] []
 | k :: _ => belowGo key k ks
def getN : Nat → Nd → List UInt8 → List UInt8 × Bool
 | 0,n,k => getV n.pairs k
 | h + 1,n,k => if n.kids.isEmpty = true then getV n.pairs k else
   if (findN n.wait k).2 = true then doneV (getN h (belowN n.kids k) k).1 (getN h (belowN n.kids k) k).2 [(findN n.wait k).1] else getN h (belowN n.kids k) k
theorem belowGo_const {key : List UInt8} {c : Nd} : ∀ (l : List Nd),(∀ k ∈ l,slt key k.low) → belowGo key c l = c
 | [],_ => rfl
 | x :: l,hl => by rw [belowGo,if_pos (hl x zG)]; exact belowGo_const l fun y hy => hl y (zH _ hy)
theorem belowGo_spec {h : Nat} {key : List UInt8} : ∀ (ks : List Nd) (hi : Option (List UInt8)) (c out : Nd),Seg (WF h) (c :: ks) hi → In c.low hi key → ∃ A b B,c :: ks = A ++ b :: B ∧ belowGo key out (c :: ks) = b ∧ In b.low (nextLow B hi) key
 | [],hi,c,out,hs,hin => by
  refine ⟨[],c,[],rfl,?_,hin⟩
  rw [belowGo,if_neg hin.1]; rfl
 | k :: ks,hi,c,out,hs,hin => by
  by_cases hk : slt key k.low
  ·refine ⟨[],c,k :: ks,rfl,?_,hin.1,fun b hb => by cases hb; exact hk⟩
   rw [belowGo,if_neg hin.1]
   refine belowGo_const _ fun x hx => ?_
   rcases zI.1 hx with rfl | hx
   ·exact hk
   ·exact slt_trans hk (seg_above ks hi k hs.2 x hx)
  ·obtain ⟨A,b,B,e1,e2,e3⟩ := belowGo_spec ks hi k c hs.2 ⟨hk,hin.2⟩
   refine ⟨c :: A,b,B,by rw [e1]; rfl,?_,e3⟩
   rw [belowGo,if_neg hin.1]; exact e2
theorem below_spec {h : Nat} {key : List UInt8} {ks : List Nd} {hi : Option (List UInt8)} (hne : ks ≠ []) (hs : Seg (WF h) ks hi) (hin : In (headLow ks) hi key) :
  ∃ A B,ks = A ++ belowN ks key :: B ∧ In (belowN ks key).low (nextLow B hi) key ∧ WF h (nextLow B hi) (belowN ks key) ∧ val (Nd.alls ks) key = val (belowN ks key).all key := by
 cases ks with
 | nil => exact absurd rfl hne
 | cons c ks =>
  obtain ⟨A,b,B,e1,e2,e3⟩ := belowGo_spec ks hi c c hs hin
  have eb : belowN (c :: ks) key = b := e2
  rw [eb,e1]
  rw [e1,seg_app] at hs
  refine ⟨A,B,rfl,e3,hs.2.1,?_⟩
  rw [alls_app,Nd.alls]
  have hA : ∀ p ∈ Nd.alls A,slt p.key key := fun p hp => lt_ge (((seg_all A _ hs.1).2 p hp).2 b.low rfl) e3.1
  rw [val_app_r hA]
  cases B with
  | nil => rw [Nd.alls,List.append_nil]
  | cons y ys => exact val_app_l fun p hp => lt_ge (e3.2 y.low rfl) ((seg_all (y :: ys) hi hs.2.2).2 p hp).1
theorem doneOne_no {st : List UInt8 × Bool} {x : Note} (hx : x.ok) (h : (doneOne st x).2 = false) : (doneOne st x).1 = [] := by
 rcases hx.2.2 with h1 | h1 | h1
 ·rw [doneOne_key st h1.1] at h; cases h
 ·rw [doneOne_del st h1.1]
 ·have : x.kind ≠ 1 ∧ x.kind ≠ 2 := by omega
  revert h
  simp [doneOne,h1.1]
theorem getN_spec : ∀ (h : Nat) (hi : Option (List UInt8)) (n : Nd) (k : List UInt8),WF h hi n → In n.low hi k → getN h n k = getV n.all k
 | 0,hi,n,k,w,hin => by rw [getN,w.all_leaf]
 | h + 1,hi,n,k,w,hin => by
  have hall := w.all_node
  have hok := (WF.all _ _ _ w).1
  obtain ⟨w1,w2,w3,w4,w5,w6,w7,w8,w9⟩ := w
  obtain ⟨k1,k2⟩ := headLow_of w6
  have hemp : n.kids.isEmpty = false := by
   cases hk : n.kids with
   | nil => exact absurd hk k1
   | cons k ks => rfl
  obtain ⟨A,B,e1,e2,e3,e4⟩ := below_spec k1 w7 (by rw [k2]; exact hin)
  have ih := getN_spec h _ _ k e3 e2
  have hsk := (seg_all n.kids hi w7).1
  have hwo := (waitOk_iff _).1 w3
  have hbok := (WF.all _ _ _ e3).1
  rw [getN,hemp,ih,getV_val hok,getV_val hbok,hall,app_act ((pairsOk_iff _).1 hsk).1 hwo.2,fold_sorted k _ hwo.1,e4]
  unfold findN
  rw [if_pos w3]
  cases hg : gGet Note.key n.wait k with
  | none => simp [actO]
  | some x =>
   have hxo := hwo.2 x (gGet_mem Note.key hg).1
   have hd : ∀ (v : List UInt8) (b : Bool),doneV v b [x] = doneOne (if b = true then v else [],b) x := fun v b => rfl
   simp only [actO,hd,Bool.false_eq_true,if_false,if_true]
   cases hv : val (belowN n.kids k).all k with
   | none =>
    simp only [stepO,Bool.false_eq_true,if_false]
    by_cases h2 : (doneOne ([],false) x).2 = true
    ·rw [if_pos h2]; exact Prod.ext rfl h2
    ·have h2' : (doneOne ([],false) x).2 = false := by simpa using h2
     rw [if_neg h2]; exact Prod.ext (doneOne_no hxo h2') h2'
   | some v =>
    simp only [stepO,if_true]
    by_cases h2 : (doneOne (v,true) x).2 = true
    ·rw [if_pos h2]; exact Prod.ext rfl h2
    ·have h2' : (doneOne (v,true) x).2 = false := by simpa using h2
     rw [if_neg h2]; exact Prod.ext (doneOne_no hxo h2') h2'
structure Info where
 depth : Nat
 kids : Nat
 low : List UInt8
 notes : List Note
 pairs : List Pair
def Info.pv (x : Info) : PV := .agg [.int .i64 x.depth,.int .i64 x.kids,.str x.low,.row (x.notes.map Note.pv),.row (x.pairs.map Pair.pv)]
set_option maxHeartbeats 4000000 in
theorem GrowNode (n : Nat) (hn : n ≤ 1000000) : Ct pG 194 (.n :: Zv.ops [.int .i64 n]) (.own 25 []) := by
 refine Ct.of_V Tryz.func194 rfl (by simp [Zv.ops,Tryz.f194]) ?_
 refine V.nilk 0 50 1 25 (by simp only [go_sem]) (by simp only [go_sem]) (by simp only [go_sem]) (by decide) ?_
 have h0 : ¬ (n : Int) < 0 := by omega
 have hw0 : IntKind.i64.wrap (((0 : Nat) : Int) - ((0 : Nat) : Int)) = ((0 : Nat) : Int) := by rw [wrap_small'] <;> omega
 have hw : IntKind.i64.wrap ((n : Int) - ((0 : Nat) : Int)) = (n : Int) := by rw [wrap_small'] <;> omega
 have hzv : zeroPV pG 25 1 = some (PV.nilp) := by simp only [go_sem]
 refine V.execS [5] 400 ?_
 by_cases hp : 0 < (n : Int)
 ·simp +contextual (maxSteps:=9^7) only [go_sem,Tryz.f194,h0,Nat.zero_add,Nat.sub_zero,hw0,hw,hp,hzv]
  refine V.exec 19 ?_
  simp +contextual (maxSteps:=9^7) only [go_sem,Nat.zero_add,Nat.sub_zero,hzv]
  refine ⟨⟨by omega,by omega,by omega,by omega⟩,?_⟩
  change V _ _ _ _ _ _
  refine V.opnB 20 1 25 (List.replicate n (PV.nilp)) (by simp only [go_sem]) (by simp only [go_sem]) fun q hq => ?_
  refine V.exec 400 ?_
  simp +contextual (maxSteps:=9^7) only [go_sem,Nat.zero_add,Nat.sub_zero,hzv]
  exact ⟨zF _,zF _⟩
 ·simp +contextual (maxSteps:=9^7) only [go_sem,Tryz.f194,h0,Nat.zero_add,Nat.sub_zero,hw0,hw,hp,hzv]
set_option maxHeartbeats 8000000 in
theorem ConcatNode (ls : List (List PV)) (h1 : ∀ l ∈ ls,∀ x ∈ l,x.cells.length = 1) (hl : ls.flatten.length ≤ 100000) (hn : ls.length ≤ 1000000) :
  Ct pG 179 (Zv.ops [.row (ls.map PV.row)]) (.own 25 ls.flatten) := by
 refine Ct.of_V Tryz.func179 rfl (by simp [Zv.ops,Tryz.f179]) ?_
 refine V.exec 400 ?_
 simp +contextual (maxSteps:=9^7) only [go_sem,Tryz.f179]
 have htl : ∀ i,(ls.take i).flatten.length ≤ ls.flatten.length := fun i => by
  have e : ls = ls.take i ++ ls.drop i := (List.take_append_drop i ls).symm
  have := congrArg (fun l : List (List PV) => l.flatten.length) e
  simp only [List.flatten_append,zJ] at this
  omega
 have hts : ∀ (i : Nat) (x : List PV),ls[i]? = some x → (ls.take (i + 1)).flatten = (ls.take i).flatten ++ x := fun i x hx => by
  rw [zL,hx]; simp
 refine V.loop (fun m lsx os => ∃ (i : Nat),i ≤ ls.length ∧ m = ls.length - i ∧
    lsx = [(0,.val (.row (ls.map PV.row))),(3,.val (.int .i64 (ls.take i).flatten.length)),(9,.val (.row (ls.map PV.row))),(10,.val (.int .i64 ls.length)),(11,.val (.int .i64 i))] ∧ os = []) 0 ls.length
   [(0,.val (.row (ls.map PV.row))),(3,.val (.int .i64 0)),(9,.val (.row (ls.map PV.row))),(10,.val (.int .i64 ls.length)),(11,.val (.int .i64 0))] [] []
   ⟨0,zF _,rfl,rfl,rfl⟩ (by simp only [go_sem]) ?_
 rintro m lsx os ⟨i,hi,rfl,rfl,rfl⟩
 refine V.exec 400 ?_
 by_cases hlt : i < ls.length
 ·have hlt' : (i : Int) < (ls.length : Int) := by omega
  obtain ⟨x,hx⟩ : ∃ x,ls[i]? = some x := ⟨_,zA hlt⟩
  have hw : IntKind.i64.wrap ((i : Int) + 1) = ((i + 1 : Nat) : Int) := by rw [wrap_small'] <;> omega
  have hs := hts i x hx
  have h2 := htl (i + 1)
  rw [hs,zJ] at h2
  have hw2 : IntKind.i64.wrap (((ls.take i).flatten.length : Int) + (x.length : Int)) = (((ls.take i).flatten.length + x.length : Nat) : Int) := by rw [wrap_small'] <;> omega
  have hw3 : ¬ (((ls.take i).flatten.length + x.length : Nat) : Int) < 0 := by omega
  simp +contextual (maxSteps:=9^7) only [go_sem,hlt',hx,hw,hw2,hw3]
  exact ⟨ls.length - (i + 1),_,[],[],by omega,⟨i + 1,by omega,rfl,rfl,rfl⟩,by simp only [go_sem,hs,zJ]⟩
 ·have hlt' : ¬ (i : Int) < (ls.length : Int) := by omega
  obtain rfl : i = ls.length := by omega
  have e0 : ls.take ls.length = ls := List.take_length
  simp +contextual (maxSteps:=9^7) only [go_sem,hlt',e0]
  refine V.call rfl rfl (by simp [dOK]) ⟨194,[],by simp only [go_sem],⟨_,rfl,rfl,rfl⟩,.inr (.inr (.inl ⟨[.val (.int .i64 ls.flatten.length)],[.int .i64 ls.flatten.length],25,[],by simp only [go_sem],.inl (by simp only [go_sem]),GrowNode ls.flatten.length (by omega),by simp only [go_sem],rfl,rfl⟩))⟩ ?_
  refine V.exec 400 ?_
  simp +contextual (maxSteps:=9^7) only [go_sem]
  refine V.loop (fun m lsx os => ∃ (i : Nat),i ≤ ls.length ∧ m = ls.length - i ∧
     lsx = [(6,.ref 0),(25,.val (.row (ls.map PV.row))),(26,.val (.int .i64 ls.length)),(27,.val (.int .i64 i))] ∧ os = [.row 25 (ls.take i).flatten]) 1 ls.length
    [(6,.ref 0),(25,.val (.row (ls.map PV.row))),(26,.val (.int .i64 ls.length)),(27,.val (.int .i64 0))] [.row 25 []] [some 2]
    ⟨0,zF _,rfl,rfl,rfl⟩ (by simp only [go_sem]; try decide) ?_
  rintro m lsx os ⟨i,hi,rfl,rfl,rfl⟩
  refine V.exec 400 ?_
  by_cases hlt : i < ls.length
  ·have hlt' : (i : Int) < (ls.length : Int) := by omega
   obtain ⟨x,hx⟩ : ∃ x,ls[i]? = some x := ⟨_,zA hlt⟩
   have hw : IntKind.i64.wrap ((i : Int) + 1) = ((i + 1 : Nat) : Int) := by rw [wrap_small'] <;> omega
   have hs := hts i x hx
   have h2 := htl (i + 1)
   rw [hs,zJ] at h2
   have hxc := h1 x (zE hx)
   generalize hL : (ls.take i).flatten = L at *
   simp +contextual (maxSteps:=9^7) only [go_sem,hlt',hx,hw]
   exact ⟨hxc,⟨by omega,by omega⟩,ls.length - (i + 1),_,_,[some 7],by omega,⟨i + 1,by omega,rfl,rfl,rfl⟩,by simp only [go_sem,hs]; try decide⟩
  ·have hlt' : ¬ (i : Int) < (ls.length : Int) := by omega
   obtain rfl : i = ls.length := by omega
   simp +contextual (maxSteps:=9^7) only [go_sem,hlt',e0]
set_option maxHeartbeats 4000000 in
theorem GrowPair (n : Nat) (hn : n ≤ 1000000) : Ct pG 171 (.n :: Zv.ops [.int .i64 n]) (.own 77 []) := by
 refine Ct.of_V Tryz.func171 rfl (by simp [Zv.ops,Tryz.f171]) ?_
 refine V.nilk 0 50 2 77 (by simp only [go_sem]) (by simp only [go_sem]) (by simp only [go_sem]) (by decide) ?_
 have h0 : ¬ (n : Int) < 0 := by omega
 have hw0 : IntKind.i64.wrap (((0 : Nat) : Int) - ((0 : Nat) : Int)) = ((0 : Nat) : Int) := by rw [wrap_small'] <;> omega
 have hw : IntKind.i64.wrap ((n : Int) - ((0 : Nat) : Int)) = (n : Int) := by rw [wrap_small'] <;> omega
 have hzv : zeroPV pG 77 2 = some (PV.agg [.str [],.str []]) := by simp only [go_sem]
 refine V.execS [5] 400 ?_
 by_cases hp : 0 < (n : Int)
 ·simp +contextual (maxSteps:=9^7) only [go_sem,Tryz.f171,h0,Nat.zero_add,Nat.sub_zero,hw0,hw,hp,hzv]
  refine V.exec 19 ?_
  simp +contextual (maxSteps:=9^7) only [go_sem,Nat.zero_add,Nat.sub_zero,hzv]
  refine ⟨⟨by omega,by omega,by omega,by omega⟩,?_⟩
  change V _ _ _ _ _ _
  refine V.opnB 20 2 77 (List.replicate n (PV.agg [.str [],.str []])) (by simp only [go_sem]) (by simp only [go_sem]) fun q hq => ?_
  refine V.exec 400 ?_
  simp +contextual (maxSteps:=9^7) only [go_sem,Nat.zero_add,Nat.sub_zero,hzv]
  exact ⟨zF _,zF _⟩
 ·simp +contextual (maxSteps:=9^7) only [go_sem,Tryz.f171,h0,Nat.zero_add,Nat.sub_zero,hw0,hw,hp,hzv]
set_option maxHeartbeats 8000000 in
theorem ConcatPair (ls : List (List PV)) (h1 : ∀ l ∈ ls,∀ x ∈ l,x.cells.length = 2) (hl : ls.flatten.length ≤ 100000) (hn : ls.length ≤ 1000000) :
  Ct pG 141 (Zv.ops [.row (ls.map PV.row)]) (.own 77 ls.flatten) := by
 refine Ct.of_V Tryz.func141 rfl (by simp [Zv.ops,Tryz.f141]) ?_
 refine V.exec 400 ?_
 simp +contextual (maxSteps:=9^7) only [go_sem,Tryz.f141]
 have htl : ∀ i,(ls.take i).flatten.length ≤ ls.flatten.length := fun i => by
  have e : ls = ls.take i ++ ls.drop i := (List.take_append_drop i ls).symm
  have := congrArg (fun l : List (List PV) => l.flatten.length) e
  simp only [List.flatten_append,zJ] at this
  omega
 have hts : ∀ (i : Nat) (x : List PV),ls[i]? = some x → (ls.take (i + 1)).flatten = (ls.take i).flatten ++ x := fun i x hx => by
  rw [zL,hx]; simp
 refine V.loop (fun m lsx os => ∃ (i : Nat),i ≤ ls.length ∧ m = ls.length - i ∧
    lsx = [(0,.val (.row (ls.map PV.row))),(3,.val (.int .i64 (ls.take i).flatten.length)),(9,.val (.row (ls.map PV.row))),(10,.val (.int .i64 ls.length)),(11,.val (.int .i64 i))] ∧ os = []) 0 ls.length
   [(0,.val (.row (ls.map PV.row))),(3,.val (.int .i64 0)),(9,.val (.row (ls.map PV.row))),(10,.val (.int .i64 ls.length)),(11,.val (.int .i64 0))] [] []
   ⟨0,zF _,rfl,rfl,rfl⟩ (by simp only [go_sem]) ?_
 rintro m lsx os ⟨i,hi,rfl,rfl,rfl⟩
 refine V.exec 400 ?_
 by_cases hlt : i < ls.length
 ·have hlt' : (i : Int) < (ls.length : Int) := by omega
  obtain ⟨x,hx⟩ : ∃ x,ls[i]? = some x := ⟨_,zA hlt⟩
  have hw : IntKind.i64.wrap ((i : Int) + 1) = ((i + 1 : Nat) : Int) := by rw [wrap_small'] <;> omega
  have hs := hts i x hx
  have h2 := htl (i + 1)
  rw [hs,zJ] at h2
  have hw2 : IntKind.i64.wrap (((ls.take i).flatten.length : Int) + (x.length : Int)) = (((ls.take i).flatten.length + x.length : Nat) : Int) := by rw [wrap_small'] <;> omega
  have hw3 : ¬ (((ls.take i).flatten.length + x.length : Nat) : Int) < 0 := by omega
  simp +contextual (maxSteps:=9^7) only [go_sem,hlt',hx,hw,hw2,hw3]
  exact ⟨ls.length - (i + 1),_,[],[],by omega,⟨i + 1,by omega,rfl,rfl,rfl⟩,by simp only [go_sem,hs,zJ]⟩
 ·have hlt' : ¬ (i : Int) < (ls.length : Int) := by omega
  obtain rfl : i = ls.length := by omega
  have e0 : ls.take ls.length = ls := List.take_length
  simp +contextual (maxSteps:=9^7) only [go_sem,hlt',e0]
  refine V.call rfl rfl (by simp [dOK]) ⟨171,[],by simp only [go_sem],⟨_,rfl,rfl,rfl⟩,.inr (.inr (.inl ⟨[.val (.int .i64 ls.flatten.length)],[.int .i64 ls.flatten.length],77,[],by simp only [go_sem],.inl (by simp only [go_sem]),GrowPair ls.flatten.length (by omega),by simp only [go_sem],rfl,rfl⟩))⟩ ?_
  refine V.exec 400 ?_
  simp +contextual (maxSteps:=9^7) only [go_sem]
  refine V.loop (fun m lsx os => ∃ (i : Nat),i ≤ ls.length ∧ m = ls.length - i ∧
     lsx = [(6,.ref 0),(25,.val (.row (ls.map PV.row))),(26,.val (.int .i64 ls.length)),(27,.val (.int .i64 i))] ∧ os = [.row 77 (ls.take i).flatten]) 1 ls.length
    [(6,.ref 0),(25,.val (.row (ls.map PV.row))),(26,.val (.int .i64 ls.length)),(27,.val (.int .i64 0))] [.row 77 []] [some 2]
    ⟨0,zF _,rfl,rfl,rfl⟩ (by simp only [go_sem]; try decide) ?_
  rintro m lsx os ⟨i,hi,rfl,rfl,rfl⟩
  refine V.exec 400 ?_
  by_cases hlt : i < ls.length
  ·have hlt' : (i : Int) < (ls.length : Int) := by omega
   obtain ⟨x,hx⟩ : ∃ x,ls[i]? = some x := ⟨_,zA hlt⟩
   have hw : IntKind.i64.wrap ((i : Int) + 1) = ((i + 1 : Nat) : Int) := by rw [wrap_small'] <;> omega
   have hs := hts i x hx
   have h2 := htl (i + 1)
   rw [hs,zJ] at h2
   have hxc := h1 x (zE hx)
   generalize hL : (ls.take i).flatten = L at *
   simp +contextual (maxSteps:=9^7) only [go_sem,hlt',hx,hw]
   exact ⟨hxc,⟨by omega,by omega⟩,ls.length - (i + 1),_,_,[some 7],by omega,⟨i + 1,by omega,rfl,rfl,rfl⟩,by simp only [go_sem,hs]; try decide⟩
  ·have hlt' : ¬ (i : Int) < (ls.length : Int) := by omega
   obtain rfl : i = ls.length := by omega
   simp +contextual (maxSteps:=9^7) only [go_sem,hlt',e0]
set_option maxHeartbeats 4000000 in
theorem GrowNote (n : Nat) (hn : n ≤ 1000000) : Ct pG 195 (.n :: Zv.ops [.int .i64 n]) (.own 72 []) := by
 refine Ct.of_V Tryz.func195 rfl (by simp [Zv.ops,Tryz.f195]) ?_
 refine V.nilk 0 50 4 72 (by simp only [go_sem]) (by simp only [go_sem]) (by simp only [go_sem]) (by decide) ?_
 have h0 : ¬ (n : Int) < 0 := by omega
 have hw0 : IntKind.i64.wrap (((0 : Nat) : Int) - ((0 : Nat) : Int)) = ((0 : Nat) : Int) := by rw [wrap_small'] <;> omega
 have hw : IntKind.i64.wrap ((n : Int) - ((0 : Nat) : Int)) = (n : Int) := by rw [wrap_small'] <;> omega
 have hzv : zeroPV pG 72 4 = some (PV.agg [.int .i64 0,.str [],.str [],.int .u64 0]) := by simp only [go_sem]
 refine V.execS [5] 400 ?_
 by_cases hp : 0 < (n : Int)
 ·simp +contextual (maxSteps:=9^7) only [go_sem,Tryz.f195,h0,Nat.zero_add,Nat.sub_zero,hw0,hw,hp,hzv]
  refine V.exec 19 ?_
  simp +contextual (maxSteps:=9^7) only [go_sem,Nat.zero_add,Nat.sub_zero,hzv]
  refine ⟨⟨by omega,by omega,by omega,by omega⟩,?_⟩
  change V _ _ _ _ _ _
  refine V.opnB 20 4 72 (List.replicate n (PV.agg [.int .i64 0,.str [],.str [],.int .u64 0])) (by simp only [go_sem]) (by simp only [go_sem]) fun q hq => ?_
  refine V.exec 400 ?_
  simp +contextual (maxSteps:=9^7) only [go_sem,Nat.zero_add,Nat.sub_zero,hzv]
  exact ⟨zF _,zF _⟩
 ·simp +contextual (maxSteps:=9^7) only [go_sem,Tryz.f195,h0,Nat.zero_add,Nat.sub_zero,hw0,hw,hp,hzv]
set_option maxHeartbeats 8000000 in
theorem ConcatNote (ls : List (List PV)) (h1 : ∀ l ∈ ls,∀ x ∈ l,x.cells.length = 4) (hl : ls.flatten.length ≤ 100000) (hn : ls.length ≤ 1000000) :
  Ct pG 180 (Zv.ops [.row (ls.map PV.row)]) (.own 72 ls.flatten) := by
 refine Ct.of_V Tryz.func180 rfl (by simp [Zv.ops,Tryz.f180]) ?_
 refine V.exec 400 ?_
 simp +contextual (maxSteps:=9^7) only [go_sem,Tryz.f180]
 have htl : ∀ i,(ls.take i).flatten.length ≤ ls.flatten.length := fun i => by
  have e : ls = ls.take i ++ ls.drop i := (List.take_append_drop i ls).symm
  have := congrArg (fun l : List (List PV) => l.flatten.length) e
  simp only [List.flatten_append,zJ] at this
  omega
 have hts : ∀ (i : Nat) (x : List PV),ls[i]? = some x → (ls.take (i + 1)).flatten = (ls.take i).flatten ++ x := fun i x hx => by
  rw [zL,hx]; simp
 refine V.loop (fun m lsx os => ∃ (i : Nat),i ≤ ls.length ∧ m = ls.length - i ∧
    lsx = [(0,.val (.row (ls.map PV.row))),(3,.val (.int .i64 (ls.take i).flatten.length)),(9,.val (.row (ls.map PV.row))),(10,.val (.int .i64 ls.length)),(11,.val (.int .i64 i))] ∧ os = []) 0 ls.length
   [(0,.val (.row (ls.map PV.row))),(3,.val (.int .i64 0)),(9,.val (.row (ls.map PV.row))),(10,.val (.int .i64 ls.length)),(11,.val (.int .i64 0))] [] []
   ⟨0,zF _,rfl,rfl,rfl⟩ (by simp only [go_sem]) ?_
 rintro m lsx os ⟨i,hi,rfl,rfl,rfl⟩
 refine V.exec 400 ?_
 by_cases hlt : i < ls.length
 ·have hlt' : (i : Int) < (ls.length : Int) := by omega
  obtain ⟨x,hx⟩ : ∃ x,ls[i]? = some x := ⟨_,zA hlt⟩
  have hw : IntKind.i64.wrap ((i : Int) + 1) = ((i + 1 : Nat) : Int) := by rw [wrap_small'] <;> omega
  have hs := hts i x hx
  have h2 := htl (i + 1)
  rw [hs,zJ] at h2
  have hw2 : IntKind.i64.wrap (((ls.take i).flatten.length : Int) + (x.length : Int)) = (((ls.take i).flatten.length + x.length : Nat) : Int) := by rw [wrap_small'] <;> omega
  have hw3 : ¬ (((ls.take i).flatten.length + x.length : Nat) : Int) < 0 := by omega
  simp +contextual (maxSteps:=9^7) only [go_sem,hlt',hx,hw,hw2,hw3]
  exact ⟨ls.length - (i + 1),_,[],[],by omega,⟨i + 1,by omega,rfl,rfl,rfl⟩,by simp only [go_sem,hs,zJ]⟩
 ·have hlt' : ¬ (i : Int) < (ls.length : Int) := by omega
  obtain rfl : i = ls.length := by omega
  have e0 : ls.take ls.length = ls := List.take_length
  simp +contextual (maxSteps:=9^7) only [go_sem,hlt',e0]
  refine V.call rfl rfl (by simp [dOK]) ⟨195,[],by simp only [go_sem],⟨_,rfl,rfl,rfl⟩,.inr (.inr (.inl ⟨[.val (.int .i64 ls.flatten.length)],[.int .i64 ls.flatten.length],72,[],by simp only [go_sem],.inl (by simp only [go_sem]),GrowNote ls.flatten.length (by omega),by simp only [go_sem],rfl,rfl⟩))⟩ ?_
  refine V.exec 400 ?_
  simp +contextual (maxSteps:=9^7) only [go_sem]
  refine V.loop (fun m lsx os => ∃ (i : Nat),i ≤ ls.length ∧ m = ls.length - i ∧
     lsx = [(6,.ref 0),(25,.val (.row (ls.map PV.row))),(26,.val (.int .i64 ls.length)),(27,.val (.int .i64 i))] ∧ os = [.row 72 (ls.take i).flatten]) 1 ls.length
    [(6,.ref 0),(25,.val (.row (ls.map PV.row))),(26,.val (.int .i64 ls.length)),(27,.val (.int .i64 0))] [.row 72 []] [some 2]
    ⟨0,zF _,rfl,rfl,rfl⟩ (by simp only [go_sem]; try decide) ?_
  rintro m lsx os ⟨i,hi,rfl,rfl,rfl⟩
  refine V.exec 400 ?_
  by_cases hlt : i < ls.length
  ·have hlt' : (i : Int) < (ls.length : Int) := by omega
   obtain ⟨x,hx⟩ : ∃ x,ls[i]? = some x := ⟨_,zA hlt⟩
   have hw : IntKind.i64.wrap ((i : Int) + 1) = ((i + 1 : Nat) : Int) := by rw [wrap_small'] <;> omega
   have hs := hts i x hx
   have h2 := htl (i + 1)
   rw [hs,zJ] at h2
   have hxc := h1 x (zE hx)
   generalize hL : (ls.take i).flatten = L at *
   simp +contextual (maxSteps:=9^7) only [go_sem,hlt',hx,hw]
   exact ⟨hxc,⟨by omega,by omega⟩,ls.length - (i + 1),_,_,[some 7],by omega,⟨i + 1,by omega,rfl,rfl,rfl⟩,by simp only [go_sem,hs]; try decide⟩
  ·have hlt' : ¬ (i : Int) < (ls.length : Int) := by omega
   obtain rfl : i = ls.length := by omega
   simp +contextual (maxSteps:=9^7) only [go_sem,hlt',e0]
set_option maxHeartbeats 2000000 in
theorem CloneNode (xs : List PV) (h1 : ∀ x ∈ xs,x.cells.length = 1) (hl : xs.length ≤ 1000000) : Ct pG 146 (Zv.ops [.row xs]) (.own 25 xs) := by
 refine Ct.of_V Tryz.func146 rfl (by simp [Zv.ops,Tryz.f146]) ?_
 refine V.exec 400 ?_
 simp +contextual (maxSteps:=9^7) only [go_sem,Tryz.f146]
 refine V.nilq (xs := xs) rfl rfl (.inl rfl) (by simp only [go_sem,↓reduceIte,Nat.reduceEqDiff]) (by simp only [go_sem]; rfl) (by simp [dOK]) fun c hc => ?_
 refine V.exec 400 ?_
 simp +contextual (maxSteps:=9^7) only [go_sem]
 exact ⟨fun h => ⟨hc h,1,rfl,by decide⟩,fun _ => ⟨h1,by omega,by omega⟩⟩
end Go.Proofs.YtfemlllmglaimaaGreat
namespace Go.Proofs.Zv
open Go Classical
section
variable {P : Program} {C : Ctx} {σ : St} {a : Act} {w : World} {cv : Nat → Value}
theorem Rel.storeBox (h : Rel P C σ a w cv) {i b : Nat} {ag : Bool} {cs : List AV} (he : σ.ob i = .box ag cs) (hb : cv i = .pointer (some ⟨b,0,none⟩)) {ds : List AV} {vs : List Value}
  (htwo : Two (fun c v => SRep w (FS C σ.ob cv w) cv c v ∧ v.oneCell' = true) ds vs) (hcell : ∀ d ∈ ds,d.cell = true) (hle : ds.length ≤ cs.length) (hmd : ∀ d ∈ ds,∀ j,d.ment j → σ.ob j ≠ .free) :
  ∃ w',(storeCells ⟨b,0,none⟩ vs).run P w = .ok () w' ∧ Rel P C (σ.setOb i (.box ag (cs.take 0 ++ ds ++ cs.drop (0 + ds.length)))) a w' cv := by
 have ho := h.obs i
 rw [he] at ho
 obtain ⟨b',ty,arr,h1,h2,h3,h4,h5⟩ := ho
 rw [hb] at h1
 cases h1
 have hmo := h.mento i
 rw [he] at hmo
 refine ⟨_,storeCells_at h2 vs (by rw [htwo.1,h3]; omega) (fun u hu => ?_),?_⟩
 ·obtain ⟨j,hj⟩ := List.mem_iff_getElem?.1 hu
  have hjl : j < ds.length := by rw [← htwo.1]; exact (List.getElem?_eq_some_iff.1 hj).1
  exact (htwo.2 j _ u (List.getElem?_eq_getElem hjl) hj).2
 ·refine h.mod i (by rw [he]; rfl) _ (by simp) (grown_setRow w b _) (fun b' hb' => by cases hb'; rw [hb]; rfl) (fun F' hF _ hS => ?_) (fun j hj => ?_)
  ·have hall : Two (fun c v => SRep w (FS C σ.ob cv w) cv c v ∧ v.oneCell' = true) (cs.take 0 ++ ds ++ cs.drop (0 + ds.length)) (arr.take 0 ++ vs ++ arr.drop (0 + vs.length)) := by
    have hcs : Two (fun c v => SRep w (FS C σ.ob cv w) cv c v ∧ v.oneCell' = true) cs arr := ⟨h3,h5⟩
    rw [htwo.1]
    exact ((hcs.take 0).append htwo).append (hcs.drop _)
   refine ⟨b,ty,_,hb,setRow_heap w b ⟨arr⟩ _ ty _ h2,hall.1,fun c hc => ?_,fun j c v hc hv => ⟨((hall.2 j c v hc hv).1).mono hS hF (fun _ _ => rfl),(hall.2 j c v hc hv).2⟩⟩
   rcases List.mem_append.1 hc with hc | hc
   ·rcases List.mem_append.1 hc with hc | hc
    ·exact h4 c (List.mem_of_mem_take hc)
    ·exact hcell c hc
   ·exact h4 c (List.mem_of_mem_drop hc)
  ·obtain ⟨c,hc,hcj⟩ := hj
   rcases List.mem_append.1 hc with hc | hc
   ·rcases List.mem_append.1 hc with hc | hc
    ·exact hmo j ⟨c,List.mem_of_mem_take hc,hcj⟩
    ·exact hmd c hc j hcj
   ·exact hmo j ⟨c,List.mem_of_mem_drop hc,hcj⟩
end
theorem SemCode.zbox {P : Program} {md : Md} {n id t d1 d2 ty1 ty2 ty3 : Nat} {p1 p2 p3 : String} {f1 f2 f3 : Array Edge} {σ : St} {inf : TypeInfo} {z : Value} {zs : List AV}
  (hd1 : d1 < n) (hd2 : d2 < n) (hne : d2 ≠ d1) (hi : P.info? t = some inf) (hz : inf.zero = some z) (hzs : z.cells.toList.map cAV = zs) (hc : zs.all AV.cell = true)
  (hbt : P.built t [] = some z.cells) (hsz : inf.size = zs.length) (hfr : σ.isFree (σ.ck + 1) = true) :
  SemCode P md n (.region id #[{ dst := some d1,op := .build t #[],type := ty1,pos := p1,after := f1,guard := none },{ dst := some d2,op := .alloc t,type := ty2,pos := p2,after := f2,guard := none },
    { dst := none,op := .store t (.tmp d2) (.tmp d1),type := ty3,pos := p3,after := f3,guard := none }] false) σ
   (fun σ' => σ' = ((((σ.set d1 .any).setOb (σ.ck + 1) (.box true zs)).set d2 (.adr (σ.ck + 1) 0)).setOb (σ.ck + 1) (.box true zs)).setCk (σ.ck + 3)) := by
 intro C a w cv hKC hCn hpin hr b cs m hb
 subst hzs
 have hfree := isFree_free hfr
 have s1 := put_rel hr (d := some d1) (by rw [hCn]; exact hd1) (v := .any) (u := .agg z.cells) trivial (fun i hi => hi.elim)
 have r1 : (execOp a.eval { dst := some d1,op := .build t #[],type := ty1,pos := p1,after := f1,guard := none }).run P w = .ok (.value (.agg z.cells)) w := by
  have e : execOp a.eval { dst := some d1,op := .build t #[],type := ty1,pos := p1,after := f1,guard := none } = (do pure (.value (← Instr.build t #[])) : Sem Next) := by unfold execOp; simp
  rw [e]
  have := run_build (P := P) w t #[] z.cells (by simpa using hbt)
  simp [this]
 have hcell : ∀ v ∈ z.cells.toList,(cAV v).cell = true := fun v hv => List.all_eq_true.1 hc _ (List.mem_map_of_mem hv)
 have htwo : ∀ (σ' : St) (w' : World) (cv' : Nat → Value),Two (fun c v => SRep w' (FS C σ'.ob cv' w') cv' c v ∧ v.oneCell' = true) (z.cells.toList.map cAV) z.cells.toList := fun σ' w' cv' =>
  ⟨by simp,fun j c v hj hv => by
   simp only [List.getElem?_map,hv,Option.map_some,Option.some.injEq] at hj
   subst hj
   exact ⟨cAV_rep _ _ _ v,cAV_oneCell (hcell v (List.mem_of_getElem? hv))⟩⟩
 have hcl : ∀ c ∈ z.cells.toList.map cAV,c.cell = true := fun c hcm => List.all_eq_true.1 hc c hcm
 have hmt : ∀ (σ' : St),∀ c ∈ z.cells.toList.map cAV,∀ j,c.ment j → σ'.ob j ≠ .free := fun σ' c hcm j hj => by
  obtain ⟨v,_,rfl⟩ := List.mem_map.1 hcm
  exact absurd hj (cAV_ment v j)
 obtain ⟨cv1,g1,g2⟩ := s1.newPtr (i := σ.ck + 1) (ag := true) (cs := z.cells.toList.map cAV) (vs := z.cells.toList) (ty := t) hfree (htwo _ _ _) hcl (hmt _)
 have s2 := put_rel g1 (d := some d2) (by rw [hCn]; exact hd2) g2 (fun j hj => by
  have e : σ.ck + 1 = j := hj
  subst e
  simp [St.setOb])
 have r2 : (execOp (a.put (some d1) (.agg z.cells)).eval { dst := some d2,op := .alloc t,type := ty2,pos := p2,after := f2,guard := none }).run P w = .ok (.value (.pointer (some ⟨w.heap.size,0,none⟩))) (w.alloc (.cells ⟨z.cells.toList⟩ t)) := by
  have e : execOp (a.put (some d1) (.agg z.cells)).eval { dst := some d2,op := .alloc t,type := ty2,pos := p2,after := f2,guard := none } = (do pure (.value (← Instr.alloc t true (.tuple #[]))) : Sem Next) := rfl
  rw [e]
  simp [Instr.alloc,zeroValue,typeInfo,hi,hz,newVar,Go.newRow]
 obtain ⟨bk,hbk,hpk⟩ := g2
 obtain rfl : bk = w.heap.size := by simpa using hpk.symm
 obtain ⟨w3,q3,s3⟩ := s2.storeBox (i := σ.ck + 1) (ag := true) (cs := z.cells.toList.map cAV) (by simp [St.put,St.set,St.setOb]) hbk (ds := z.cells.toList.map cAV) (vs := z.cells.toList) (htwo _ _ _) hcl (Nat.le_refl _) (hmt _)
 simp only [List.take_zero,List.nil_append,Nat.zero_add,List.drop_length,List.append_nil] at s3
 have hsz0 : a.tmps.size = n := by rw [← hCn]; exact hr.ntmps
 have e2 : ((a.put (some d1) (.agg z.cells)).put (some d2) (.pointer (some ⟨w.heap.size,0,none⟩))).eval (.tmp d2) = .pointer (some ⟨w.heap.size,0,none⟩) := by
  simp only [Act.eval,Act.put,Array.getD_eq_getD_getElem?]
  rw [Array.getElem?_setIfInBounds_self_of_lt (by rw [Array.size_setIfInBounds,hsz0]; exact hd2)]
  rfl
 have e1 : ((a.put (some d1) (.agg z.cells)).put (some d2) (.pointer (some ⟨w.heap.size,0,none⟩))).eval (.tmp d1) = .agg z.cells := by
  simp only [Act.eval,Act.put,Array.getD_eq_getD_getElem?]
  rw [Array.getElem?_setIfInBounds_ne hne,Array.getElem?_setIfInBounds_self_of_lt (by rw [hsz0]; exact hd1)]
  rfl
 have hn : szOf P t = some inf.size := by simp [szOf,hi]
 have r3 : (execOp ((a.put (some d1) (.agg z.cells)).put (some d2) (.pointer (some ⟨w.heap.size,0,none⟩))).eval { dst := none,op := .store t (.tmp d2) (.tmp d1),type := ty3,pos := p3,after := f3,guard := none }).run P (w.alloc (.cells ⟨z.cells.toList⟩ t)) = .ok .skip w3 := by
  have hst : (Instr.storeAt t (.pointer (some ⟨w.heap.size,0,none⟩)) (.agg z.cells)).run P (w.alloc (.cells ⟨z.cells.toList⟩ t)) = .ok () w3 := by
   have hvl : z.cells.size = inf.size := by rw [hsz]; simp
   have hcells : (Value.agg z.cells).cells = z.cells := rfl
   simp [Instr.storeAt,Instr.sureAddr,storeVar,run_sizeOf hn,hcells,hvl,q3]
  simp only [execOp,e1,e2]
  simp [hst]
 have w0 : ∀ (o : Oper) (x : Nat → Option Bool),o.guard = none → Region.wanted o x = true := fun o x hg => by unfold Region.wanted; rw [hg]
 refine ⟨_,_,_,cv1,rfl,ck_rel s3 _,?_⟩
 refine .trans (.one stepR_region) ?_
 have t1 := oper_steps (P := P) (all := [{ dst := some d1,op := .build t #[],type := ty1,pos := p1,after := f1,guard := none },{ dst := some d2,op := .alloc t,type := ty2,pos := p2,after := f2,guard := none },{ dst := none,op := .store t (.tmp d2) (.tmp d1),type := ty3,pos := p3,after := f3,guard := none }]) (i := 0) (rest := [1,2]) (m := m) rfl (w0 _ _ rfl) (.inl r1) b cs
 have t2 := oper_steps (P := P) (all := [{ dst := some d1,op := .build t #[],type := ty1,pos := p1,after := f1,guard := none },{ dst := some d2,op := .alloc t,type := ty2,pos := p2,after := f2,guard := none },{ dst := none,op := .store t (.tmp d2) (.tmp d1),type := ty3,pos := p3,after := f3,guard := none }]) (i := 1) (rest := [2]) (m := m) rfl (w0 _ _ rfl) (.inl r2) b cs
 have t3 := oper_steps (P := P) (all := [{ dst := some d1,op := .build t #[],type := ty1,pos := p1,after := f1,guard := none },{ dst := some d2,op := .alloc t,type := ty2,pos := p2,after := f2,guard := none },{ dst := none,op := .store t (.tmp d2) (.tmp d1),type := ty3,pos := p3,after := f3,guard := none }]) (i := 2) (rest := []) (m := m) rfl (w0 _ _ rfl) (.inr ⟨r3,rfl⟩) b cs
 exact t1.trans (t2.trans (t3.trans (.one stepR_region_end)))
end Go.Proofs.Zv
namespace Go.Proofs.Zv
open Go Classical
section
variable {P : Program} {σ : St}
def nilG (σ : St) : AV → Option (St × AV)
 | .val (.ptr p) => some (σ,.val (.ptr p))
 | .adr i o => some (σ,.adr i o)
 | .ead i s k o => some (σ,.ead i s k o)
 | .val (.fn f cs) => some (σ,.val (.fn f cs))
 | _ => none
theorem step_nilCheck {i x} : stepOp P σ i (.nilCheck x) = nilG σ (σ.ev x) := by
 simp only [stepOp,nilG]
 split <;> simp_all
theorem nilG_ptr {p} : nilG σ (.val (.ptr p)) = some (σ,.val (.ptr p)) := rfl
theorem nilG_adr {i o} : nilG σ (.adr i o) = some (σ,.adr i o) := rfl
theorem nilG_ead {i s k o} : nilG σ (.ead i s k o) = some (σ,.ead i s k o) := rfl
attribute [go_sem] step_nilCheck nilG_ptr nilG_adr nilG_ead
end
section
variable {P : Program} {C : Ctx} {σ : St} {a : Act} {w : World} {cv : Nat → Value}
theorem SemOp.inl {md : Md} {n : Nat} {all : List Oper} {i : Nat} {o : Oper} {f : FuncId} {fn : Func} {c : Code} {xs : Array Operand} {ts : Array TypeId} {S : Nat → Prop} {JE : (Nat → Ob) → Prop}
  (hpl : md.pl = true) (hg : o.guard = none) (ho : o.op = .call { callee := .value (.func f),args := xs,argTypes := ts })
  (hf : P.funcs[f]? = some fn) (hn : (fn.name == "runtime.NumGoroutine") = false) (hb : fn.body = some c) (hres : fn.results = #[]) (hN : xs.size ≤ fn.ntmps) (hd : dOK n o.dst)
  (hS : ∀ t i,(σ.sl t).ment i → S i) (ckB ckr : Nat)
  (hw : V ⟨fun C => C.lvl = 0,false,true⟩ P fn.ntmps (fun σ' => JE σ'.ob) [.code c] ⟨fun t => ((σ.evs xs.toList)[t]?).getD .any,σ.ob,ckB⟩) :
  SemOp P md n all i o σ (fun σ' => ∃ ob,JE ob ∧ σ' = (⟨σ.sl,ob,ckr⟩ : St).put o.dst (.tup [])) := by
 intro C a w cv hK hCn hpin hr hoi b cs m rest
 have hpin := hpin hpl
 have hvl : (xs.toList.map a.eval).length = xs.size := by simp
 have hbase : Rel P (baseOf C σ w cv fn.ntmps S w) ⟨fun t => ((σ.evs xs.toList)[t]?).getD .any,σ.ob,ckB⟩ { tmps := (⟨xs.toList.map a.eval⟩ : Array Value) ++ Array.replicate (fn.ntmps - (xs.toList.map a.eval).length) undef,defers := [] } w cv := by
  refine hr.base (X := fun _ => False) (fun _ hx => hx.elim) (Agree.refl _ _) S (σ1 := ⟨fun t => ((σ.evs xs.toList)[t]?).getD .any,σ.ob,ckB⟩)
   (a1 := { tmps := (⟨xs.toList.map a.eval⟩ : Array Value) ++ Array.replicate (fn.ntmps - (xs.toList.map a.eval).length) undef,defers := [] }) rfl (by simp; omega) rfl (fun t => ?_) (fun t i hi => ?_)
  ·show SRep w _ cv (((σ.evs xs.toList)[t]?).getD .any) _
   cases hx : xs.toList[t]? with
   | none =>
    have : (σ.evs xs.toList)[t]? = none := by simp only [St.evs,List.getElem?_map,hx,Option.map_none]
    rw [this]; trivial
   | some x =>
    have h1 : (σ.evs xs.toList)[t]? = some (σ.ev x) := by simp only [St.evs,List.getElem?_map,hx,Option.map_some]
    have hlt : t < (⟨xs.toList.map a.eval⟩ : Array Value).size := by
     show t < (xs.toList.map a.eval).length
     rw [List.length_map]; exact (List.getElem?_eq_some_iff.1 hx).1
    have h2 : ((⟨xs.toList.map a.eval⟩ : Array Value) ++ Array.replicate (fn.ntmps - (xs.toList.map a.eval).length) undef).getD t undef = a.eval x := by
     rw [Array.getD_eq_getD_getElem?,Array.getElem?_append_left hlt]
     have : (⟨xs.toList.map a.eval⟩ : Array Value)[t]? = some (a.eval x) := by simp [hx]
     rw [this]; rfl
    rw [h1,h2]
    exact (hr.ev x).1
  ·have hi : (((σ.evs xs.toList)[t]?).getD .any).ment i := hi
   cases hx : xs.toList[t]? with
   | none =>
    have : (σ.evs xs.toList)[t]? = none := by simp only [St.evs,List.getElem?_map,hx,Option.map_none]
    rw [this] at hi; exact hi.elim
   | some x =>
    have h1 : (σ.evs xs.toList)[t]? = some (σ.ev x) := by simp only [St.evs,List.getElem?_map,hx,Option.map_some]
    rw [h1] at hi
    exact (hr.ev x).2 i hi
 have hcalls : Calls P f ⟨xs.toList.map a.eval⟩ w fun e w' => ∃ u,e = .returned u ∧ (u = tupV [] ∧ ∃ ob cv',JE ob ∧ Rel P C ⟨σ.sl,ob,ckr⟩ a w' cv') := by
  intro cs'
  let bB : Frame := { (default : Frame) with fn := f,kind := .normal,roundOf := none }
  have henter : Frame.enter P f ⟨xs.toList.map a.eval⟩ .normal = bB.atR { tmps := (⟨xs.toList.map a.eval⟩ : Array Value) ++ Array.replicate (fn.ntmps - (xs.toList.map a.eval).length) undef,defers := [] } [.code c] := by
   simp [Frame.enter,Frame.atR,hf,hb,bB]
  obtain ⟨σ',a1,w1,cv',todo',⟨hJ,hlv⟩,hr3,hs1⟩ := V.sound (md := ⟨fun C => C.lvl = 0,false,true⟩) (Z := fun σ' todo => JE σ'.ob ∧ leaves true todo) rfl (fun h => by cases h) (fun _ _ h1 h2 => ⟨h1,h2⟩) hw [.code c] (.code c .nil) _ w cv hbase bB cs' (fun _ => rfl)
  have hs2 := hs1.trans (leave_steps (b := bB) rfl hlv cs' w1)
  have hdef : a1.defers = [] := hr3.defers.1 rfl
  have hback := hr.back (X := fun _ => False) (fun _ hx => hx.elim) (Agree.refl _ _) hr3 (Agree.refl _ _) (fun _ hx => hx.elim) hS (fun i v hv => by rw [hpin i] at hv; cases hv) ckr
  rw [← henter] at hs2
  have hresr : (results fn a1.tmps).run P w1 = .ok (tupV []) w1 := results_readR fn a1.tmps (us := []) (by rw [hres]; simp)
  exact ⟨.returned (tupV []),w1,{ bB.atR a1 todo' with mode := .returning },⟨_,rfl,rfl,_,cv',hJ,hback.1⟩,hs2,rfl,rfl,hdef,rfl,fn,hf,hresr⟩
 have hwant : Region.wanted o (yielded all.toArray a.tmps) = true := by unfold Region.wanted; rw [hg]
 have hrun : (execOp a.eval o).run P w = .ok (.enter f ⟨xs.toList.map a.eval⟩) w := by
  have hmap : xs.map a.eval = ⟨xs.toList.map a.eval⟩ := by apply Array.ext'; simp
  simp only [execOp,ho,resolve,Sem.run_bind,Deferred.ofValue,Act.eval,Sem.run_pure,Result.andThen_ok,invoke,callFunc,run_program,hf,hn,hb,Bool.false_eq_true,if_false,hmap,Option.isNone_some]
  try simp [hn,hb]
 obtain ⟨u,w',⟨rfl,ob,cv',hJ,hr4⟩,hs⟩ := call_steps (P := P) (a := a) (w := w) (rest := rest) (m := m) hoi hwant hrun hcalls b cs
 refine ⟨_,_,w',cv',⟨ob,hJ,rfl⟩,put_rel hr4 (d := o.dst) (by rw [hCn]; exact hd) (v := .tup []) (u := tupV []) ⟨[],rfl,Reps.nil _ _⟩ (fun i hi => hi.elim),hs⟩
end
end Go.Proofs.Zv
namespace Go.Proofs.YtfemlllmglaimaaGreat
open Go Go.Proofs Go.Proofs.Zv Go.Proofs.YtfemlllmglaimaaGreat.Ty
open Go.Proofs.Tryz renaming prog → pG
open List renaming getElem?_eq_getElem → zA, map_nil → zB, map_cons → zC, take_of_length_le → zD, mem_of_getElem? → zE, mem_cons_self → zG, mem_cons_of_mem → zH, mem_cons → zI, length_append → zJ, drop_eq_nil_of_le → zK, take_add_one → zL, map_append → zM, mem_map → zN, mem_append → zO, eq_nil_of_length_eq_zero → zP, getElem?_eq_some_iff → zQ, getElem?_map → zS, length_cons → zT, length_take → zU, filter_append → zV, length_map → zW
open Nat renaming zero_le → zF, le_refl → zR
theorem Nd.pv_cells (n : Nd) : n.pv.cells = [n.pv] := by rw [Nd.pv_eq]; rfl
theorem Nd.pv_isAgg (n : Nd) : n.pv.isAgg = false := by rw [Nd.pv_eq]; rfl
attribute [go_sem] Nd.pv_cells Nd.pv_isAgg
theorem nodePtr : ∃ e,pG.underlying 25 = some (.pointer e) := ⟨176,by kernel_rfl⟩
theorem bin_nil : binPV pG .eql 25 .nilp .nilp = some (.bool true) := by
 simp only [binPV,if_pos nodePtr]
theorem bin_ptr (x : PV) : binPV pG .eql 25 (.ptr x) .nilp = some (.bool false) := by
 simp only [binPV,if_pos nodePtr]
theorem tree_top (t : Tr) : Ct pG 76 (Zv.ops [Tr.pv t]) (.vals [(topN t).pv]) := by
 cases t with
 | none =>
  refine Ct.of_V Tryz.func76 rfl (by simp [Zv.ops,Tryz.f76]) ?_
  refine V.exec 400 ?_
  simp +contextual (maxSteps:=9^7) only [go_sem,Tryz.f76,Tr.pv,topN,bin_nil,Nd.pv_eq,Nd.low,Nd.kids,Nd.wait,Nd.pairs]
 | some n =>
  have e := Nd.pv_eq n
  simp only [Tr.pv,topN,e]
  refine Ct.of_V Tryz.func76 rfl (by simp [Zv.ops,Tryz.f76]) ?_
  refine V.exec 400 ?_
  simp +contextual (maxSteps:=9^7) only [go_sem,Tryz.f76,bin_ptr]
set_option maxHeartbeats 4000000 in
theorem tree_lows (ks : List Nd) (hl : ks.length ≤ 1000000) : Ct pG 150 (Zv.ops [.row (ks.map Nd.pv)]) (.own 9 ((ks.map Nd.low).map PV.str)) := by
 refine Ct.of_V Tryz.func150 rfl (by simp [Zv.ops,Tryz.f150]) ?_
 refine V.exec 400 ?_
 simp +contextual (maxSteps:=9^7) only [go_sem,Tryz.f150]
 refine V.loop (fun m ls os => ∃ (i : Nat),i ≤ ks.length ∧ m = ks.length - i ∧
    ls = [(3,.ref 0),(6,.val (.row (ks.map Nd.pv))),(7,.val (.int .i64 ks.length)),(8,.val (.int .i64 i))] ∧ os = [.row 9 (((ks.take i).map Nd.low).map PV.str)]) 1 ks.length
   [(3,.ref 0),(6,.val (.row (ks.map Nd.pv))),(7,.val (.int .i64 ks.length)),(8,.val (.int .i64 0))] [.row 9 []] [none]
   ⟨0,zF _,rfl,rfl,rfl⟩ (by simp only [go_sem]; try decide) ?_
 rintro m ls os ⟨i,hi,rfl,rfl,rfl⟩
 refine V.exec 400 ?_
 by_cases hlt : i < ks.length
 ·have hlt' : (i : Int) < (ks.length : Int) := by omega
  obtain ⟨x,hx⟩ : ∃ x,ks[i]? = some x := ⟨_,zA hlt⟩
  have hw : IntKind.i64.wrap ((i : Int) + 1) = ((i + 1 : Nat) : Int) := by rw [wrap_small3] <;> omega
  have e := Nd.pv_eq x
  have ht : ks.take (i + 1) = ks.take i ++ [x] := by rw [zL,hx]; rfl
  have hlen : (ks.take i).length ≤ ks.length := by rw [zU]; omega
  generalize hL : ks.take i = L at *
  simp +contextual (maxSteps:=9^7) only [go_sem,hlt',hx,hw,e]
  exact ⟨⟨by omega,by omega⟩,ks.length - (i + 1),_,_,[some 11],by omega,⟨i + 1,by omega,rfl,rfl,rfl⟩,by simp only [go_sem,ht,zM]; try decide⟩
 ·have hlt' : ¬ (i : Int) < (ks.length : Int) := by omega
  obtain rfl : i = ks.length := by omega
  have et : ks.take ks.length = ks := List.take_length
  simp +contextual (maxSteps:=9^7) only [go_sem,hlt',et]
theorem leavesN_get {lo : List UInt8} {l : List Pair} {i : Nat} {p : List Pair} (h : (shareV l 4)[i]? = some p) : (leavesN lo l)[i]? = some (.mk (if i = 0 then lo else headKey p) [] [] p) := by
 unfold leavesN
 cases hS : shareV l 4 with
 | nil => rw [hS] at h; simp at h
 | cons q r =>
  rw [hS] at h
  cases i with
  | zero => simp at h ⊢; exact h
  | succ i =>
   have h' : r[i]? = some p := by simpa using h
   show (r.map leafOf)[i]? = _
   rw [zS,h']; simp [leafOf]
theorem leavesN_len (lo : List UInt8) (l : List Pair) : (leavesN lo l).length = (shareV l 4).length := by
 unfold leavesN
 cases shareV l 4 <;> simp
set_option maxHeartbeats 4000000 in
theorem tree_leaves (lo : List UInt8) (l : List Pair) (hl : l.length ≤ 100000) : Ct pG 145 (Zv.ops [.str lo,.row (l.map Pair.pv)]) (.vals [.row ((leavesN lo l).map Nd.pv)]) := by
 have c1 := leaf_Share l 4 (by omega) (by decide)
 obtain ⟨s1,s2,s3⟩ := share4_spec l
 have hget := fun i p => leavesN_get (lo := lo) (l := l) (i := i) (p := p)
 have hlen := leavesN_len lo l
 have hSl : (shareV l 4).length ≤ 100000 := by omega
 generalize leavesN lo l = N at *
 generalize shareV l 4 = S at *
 refine Ct.of_V Tryz.func145 rfl (by simp [Zv.ops,Tryz.f145]) ?_
 refine V.exec 400 ?_
 simp +contextual (maxSteps:=9^7) only [go_sem,Tryz.f145]
 refine V.call rfl rfl (by simp [dOK]) ⟨173,[],by simp only [go_sem],⟨_,rfl,rfl,rfl⟩,.inl ⟨[.row (l.map Pair.pv),.int .i64 4],_,.inl (by simp only [go_sem]),c1,.inr (.inl ⟨_,rfl,rfl,rfl⟩)⟩⟩ ?_
 refine V.exec 400 ?_
 simp +contextual (maxSteps:=9^7) only [go_sem]
 refine V.loop (fun m ls os => ∃ (i : Nat) (z : List UInt8),i ≤ S.length ∧ m = S.length - i ∧ (i = 0 → z = lo) ∧
    ls = [(0,.val (.str z)),(5,.ref 0),(9,.val (.row (S.map rowP))),(10,.val (.int .i64 S.length)),(11,.val (.int .i64 i))] ∧ os = [.row 25 ((N.take i).map Nd.pv)]) 1 S.length
   [(0,.val (.str lo)),(5,.ref 0),(9,.val (.row (S.map rowP))),(10,.val (.int .i64 S.length)),(11,.val (.int .i64 0))] [.row 25 []] [none]
   ⟨0,lo,zF _,rfl,fun _ => rfl,rfl,rfl⟩ (by simp only [go_sem]; try decide) ?_
 rintro m ls os ⟨i,z,hi,rfl,hz,rfl,rfl⟩
 refine V.exec 400 ?_
 by_cases hlt : i < S.length
 ·have hlt' : (i : Int) < (S.length : Int) := by omega
  obtain ⟨p,hp⟩ : ∃ x,S[i]? = some x := ⟨_,zA hlt⟩
  have hw : IntKind.i64.wrap ((i : Int) + 1) = ((i + 1 : Nat) : Int) := by rw [wrap_small3] <;> omega
  have ht : N.take (i + 1) = N.take i ++ [.mk (if i = 0 then lo else headKey p) [] [] p] := by rw [zL,hget i p hp]; rfl
  have hpn := (s3 p (zE hp)).1
  have hnl : (N.take i).length ≤ 100000 := by rw [zU]; omega
  generalize hL : N.take i = L at *
  rcases Nat.eq_zero_or_pos i with rfl | hpos
  ·have h0 : ¬ (0 : Int) < ((0 : Nat) : Int) := by omega
   obtain rfl := hz rfl
   simp +contextual (maxSteps:=9^7) only [go_sem,hlt',hp,hw,h0,rowP]
   exact ⟨⟨by omega,by omega⟩,S.length - (0 + 1),_,_,[some 15],by omega,⟨0 + 1,z,by omega,rfl,fun h => (by omega),rfl,rfl⟩,by simp only [go_sem,ht,zM,Nd.pv_eq,Nd.low,Nd.kids,Nd.wait,Nd.pairs]; try decide⟩
  ·have h0 : (0 : Int) < (i : Int) := by omega
   obtain ⟨y,ys,rfl⟩ : ∃ y ys,p = y :: ys := by
    cases p with
    | nil => exact absurd rfl hpn
    | cons y ys => exact ⟨y,ys,rfl⟩
   have hi0 : ¬ i = 0 := by omega
   simp +contextual (maxSteps:=9^7) only [go_sem,hlt',hp,hw,h0,rowP,Pair.pv,zC,Int.toNat_zero,Int.le_refl]
   exact ⟨⟨by omega,by omega⟩,S.length - (i + 1),_,_,[some 20],by omega,⟨i + 1,y.key,by omega,rfl,fun h => (by omega),rfl,rfl⟩,by simp only [go_sem,ht,hi0,zM,Nd.pv_eq,Nd.low,Nd.kids,Nd.wait,Nd.pairs,headKey,Pair.pv]; try decide⟩
 ·have hlt' : ¬ (i : Int) < (S.length : Int) := by omega
  obtain rfl : i = S.length := by omega
  have et : N.take S.length = N := by rw [← hlen]; exact List.take_length
  simp +contextual (maxSteps:=9^7) only [go_sem,hlt',et]
theorem le_iff (a b : List UInt8) : (slt a b ∨ a = b) ↔ ¬ slt b a := by
 constructor
 ·rintro (h | rfl)
  ·exact slt_asymm h
  ·exact slt_irrefl a
 ·intro h
  rcases slt_total a b with h1 | h1 | h1
  ·exact .inl h1
  ·exact .inr h1
  ·exact absurd h1 h
theorem belowGo_take {key : List UInt8} {c : Nd} : ∀ (l : List Nd) (i : Nat) (x : Nd),l[i]? = some x → belowGo key c (l.take (i + 1)) = if slt key x.low then belowGo key c (l.take i) else x := by
 intro l
 induction l generalizing c with
 | nil => intro i x h; simp at h
 | cons y l ih =>
  intro i x h
  cases i with
  | zero => simp at h; subst h; simp [belowGo]
  | succ i =>
   rw [List.take_succ_cons,List.take_succ_cons,belowGo,belowGo,ih i x (by simpa using h)]
set_option maxHeartbeats 4000000 in
theorem tree_below (n : Nd) (key : List UInt8) (hl : n.kids.length ≤ 1000000) (hne : n.kids ≠ []) : Ct pG 126 (Zv.ops [n.pv,.str key]) (.vals [(belowN n.kids key).pv]) := by
 have e := Nd.pv_eq n
 obtain ⟨c,hc⟩ : ∃ c,n.kids[0]? = some c := ⟨_,zA (List.length_pos_iff.2 hne)⟩
 have hlp : 0 < n.kids.length := List.length_pos_iff.2 hne
 have eb : belowN n.kids key = belowGo key c n.kids := by
  cases hk : n.kids with
  | nil => exact absurd hk hne
  | cons k ks => rw [hk] at hc; simp at hc; subst hc; rfl
 rw [eb,e]
 generalize n.kids = ks at *
 have hlp' : (0 : Int) < (ks.length : Int) := by omega
 refine Ct.of_V Tryz.func126 rfl (by simp [Zv.ops,Tryz.f126]) ?_
 refine V.exec 400 ?_
 simp +contextual (maxSteps:=9^7) only [go_sem,Tryz.f126,hc,hlp',Int.toNat_zero,Int.le_refl]
 refine V.loop (fun m ls os => ∃ (i : Nat),i ≤ ks.length ∧ m = ks.length - i ∧
    ls = [(1,.val (.str key)),(5,.val (belowGo key c (ks.take i)).pv),(17,.val (.row (ks.map Nd.pv))),(18,.val (.int .i64 ks.length)),(19,.val (.int .i64 i))] ∧ os = []) 0 ks.length
   [(1,.val (.str key)),(5,.val c.pv),(17,.val (.row (ks.map Nd.pv))),(18,.val (.int .i64 ks.length)),(19,.val (.int .i64 0))] [] []
   ⟨0,zF _,rfl,rfl,rfl⟩ (by simp only [go_sem]) ?_
 rintro m ls os ⟨i,hi,rfl,rfl,rfl⟩
 refine V.exec 400 ?_
 by_cases hlt : i < ks.length
 ·have hlt' : (i : Int) < (ks.length : Int) := by omega
  obtain ⟨x,hx⟩ : ∃ x,ks[i]? = some x := ⟨_,zA hlt⟩
  have hw : IntKind.i64.wrap ((i : Int) + 1) = ((i + 1 : Nat) : Int) := by rw [wrap_small3] <;> omega
  have ht := belowGo_take (key := key) (c := c) ks i x hx
  have ex := Nd.pv_eq x
  by_cases hk : slt key x.low
  ·rw [if_pos hk] at ht
   have hk' : ¬ (slt x.low key ∨ x.low = key) := fun h => (le_iff x.low key).1 h hk
   simp +contextual (maxSteps:=9^7) only [go_sem,hlt',hx,hw,hk',ex]
   exact ⟨ks.length - (i + 1),_,[],[],by omega,⟨i + 1,by omega,rfl,rfl,rfl⟩,by simp only [go_sem,ht]⟩
  ·rw [if_neg hk] at ht
   have hk' : slt x.low key ∨ x.low = key := (le_iff x.low key).2 hk
   simp +contextual (maxSteps:=9^7) only [go_sem,hlt',hx,hw,hk',ex]
   exact ⟨ks.length - (i + 1),_,[],[],by omega,⟨i + 1,by omega,rfl,rfl,rfl⟩,by simp only [go_sem,ht,ex]⟩
 ·have hlt' : ¬ (i : Int) < (ks.length : Int) := by omega
  obtain rfl : i = ks.length := by omega
  have et : ks.take ks.length = ks := List.take_length
  simp +contextual (maxSteps:=9^7) only [go_sem,hlt',et]
set_option maxHeartbeats 4000000 in
theorem node_get : ∀ (h : Nat) (hi : Option (List UInt8)) (n : Nd) (k : List UInt8),WF h hi n → In n.low hi k → Ct pG 77 (Zv.ops [n.pv,.str k]) (.vals [.str (getN h n k).1,.bool (decide ((getN h n k).2 = true))])
 | 0,hi,n,k,w,hin => by
  have e := Nd.pv_eq n
  obtain ⟨w1,w2,w3,w4,w5,w6⟩ := w
  have c1 := leaf_Get n.pairs k (by omega)
  have h00 : ((0 : Nat) : Int) = 0 := rfl
  rw [e,getN,w1]
  refine Ct.of_V Tryz.func77 rfl (by simp [Zv.ops,Tryz.f77]) ?_
  refine V.exec 400 ?_
  simp +contextual (maxSteps:=9^7) only [go_sem,Tryz.f77,zB,List.length_nil,h00]
  refine V.call rfl rfl (by simp [dOK]) ⟨125,[],by simp only [go_sem],⟨_,rfl,rfl,rfl⟩,.inl ⟨[.row (n.pairs.map Pair.pv),.str k],_,.inl (by simp only [go_sem]),c1,.inl ⟨_,rfl,rfl,rfl,rfl⟩⟩⟩ ?_
  refine V.exec 400 ?_
  simp +contextual (maxSteps:=9^7) only [go_sem]
 | h + 1,hi,n,k,w,hin => by
  have e := Nd.pv_eq n
  obtain ⟨w1,w2,w3,w4,w5,w6,w7,w8,w9⟩ := w
  obtain ⟨k1,k2⟩ := headLow_of w6
  have hemp : n.kids.isEmpty = false := by
   cases hk : n.kids with
   | nil => exact absurd hk k1
   | cons k ks => rfl
  obtain ⟨A,B,e1,e2,e3,e4⟩ := below_spec k1 w7 (by rw [k2]; exact hin)
  have ih := node_get h _ _ k e3 e2
  have c1 := tree_below n k (by omega) k1
  have c2 := pend_Find n.wait k (by omega)
  have hlen : 0 < n.kids.length := List.length_pos_iff.2 k1
  have hl0 : ¬ (n.kids.length : Int) = 0 := by omega
  rw [getN,hemp]
  rw [e] at c1 ⊢
  generalize getN h (belowN n.kids k) k = G at *
  obtain ⟨v,has⟩ := G
  generalize belowN n.kids k = b at *
  refine Ct.of_V Tryz.func77 rfl (by simp [Zv.ops,Tryz.f77]) ?_
  refine V.exec 400 ?_
  simp +contextual (maxSteps:=9^7) only [go_sem,Tryz.f77,hl0]
  refine V.call rfl rfl (by simp [dOK]) ⟨126,[],by simp only [go_sem],⟨_,rfl,rfl,rfl⟩,.inl ⟨[.ptr (.agg [.str n.low,.row (n.kids.map Nd.pv),.row (n.wait.map Note.pv),.row (n.pairs.map Pair.pv)]),.str k],_,.inl (by simp only [go_sem]),c1,.inr (.inl ⟨_,rfl,rfl,rfl⟩)⟩⟩ ?_
  refine V.exec 400 ?_
  simp +contextual (maxSteps:=9^7) only [go_sem]
  refine V.call rfl rfl (by simp [dOK]) ⟨77,[],by simp only [go_sem],⟨_,rfl,rfl,rfl⟩,.inl ⟨[b.pv,.str k],_,.inl (by simp only [go_sem]),ih,.inl ⟨_,rfl,rfl,rfl,rfl⟩⟩⟩ ?_
  refine V.exec 400 ?_
  simp +contextual (maxSteps:=9^7) only [go_sem]
  refine V.call rfl rfl (by simp [dOK]) ⟨127,[],by simp only [go_sem],⟨_,rfl,rfl,rfl⟩,.inl ⟨[.row (n.wait.map Note.pv),.str k],_,.inl (by simp only [go_sem]),c2,.inr (.inl ⟨_,rfl,rfl,rfl⟩)⟩⟩ ?_
  refine V.exec 400 ?_
  generalize findN n.wait k = fx at *
  obtain ⟨x,ok⟩ := fx
  have c3 := note_Done v has [x] (by simp)
  by_cases hok : ok = true
  ·simp +contextual (maxSteps:=9^7) only [go_sem,hok,Note.pv]
   refine V.call rfl rfl (by simp [dOK]) ⟨117,[],by simp only [go_sem],⟨_,rfl,rfl,rfl⟩,.inl ⟨[.str v,.bool (decide (has = true)),.row ([x].map Note.pv)],_,.inl (by simp only [go_sem,zC,zB,Note.pv]),c3,.inl ⟨_,rfl,rfl,rfl,rfl⟩⟩⟩ ?_
   refine V.exec 400 ?_
   simp +contextual (maxSteps:=9^7) only [go_sem,hok]
  ·simp +contextual (maxSteps:=9^7) only [go_sem,hok,Note.pv]
theorem all_len : ∀ (h : Nat) (hi : Option (List UInt8)) (n : Nd),WF h hi n → n.all.length ≤ 5 * n.mass
 | 0,hi,n,w => by
  rw [w.all_leaf]
  have := mass_pos n
  have := w.2.2.1
  omega
 | h + 1,hi,n,w => by
  have hall := w.all_node
  obtain ⟨w1,w2,w3,w4,w5,w6,w7,w8,w9⟩ := w
  have key : ∀ (ks : List Nd) (hi : Option (List UInt8)),Seg (WF h) ks hi → (Nd.alls ks).length ≤ 5 * Nd.masss ks := by
   intro ks
   induction ks with
   | nil => intro hi _; exact zF _
   | cons k ks ih =>
    intro hi hs
    have h1 := all_len h _ k hs.1
    have h2 := ih hi hs.2
    rw [Nd.alls,Nd.masss,zJ]; omega
  have h1 := key n.kids hi w7
  have h2 := appV_len n.wait ((pairsOk_iff _).1 (seg_all n.kids hi w7).1).1
  have h3 : n.wait.length + Nd.masss n.kids ≤ n.mass := by
   cases n; rw [Nd.mass]; simp only [Nd.wait,Nd.kids]; omega
  rw [hall]; omega
theorem alls_len {h : Nat} : ∀ (ks : List Nd) (hi : Option (List UInt8)),Seg (WF h) ks hi → (Nd.alls ks).length ≤ 5 * Nd.masss ks
 | [],_,_ => zF _
 | k :: ks,hi,hs => by
  have h1 := all_len h _ k hs.1
  have h2 := alls_len ks hi hs.2
  rw [Nd.alls,Nd.masss,zJ]; omega
theorem mass_kids (n : Nd) : n.wait.length + Nd.masss n.kids ≤ n.mass := by
 cases n; rw [Nd.mass]; simp only [Nd.wait,Nd.kids]; omega
theorem mass_mem {ks : List Nd} {k : Nd} (h : k ∈ ks) : k.mass ≤ Nd.masss ks := by
 induction ks with
 | nil => cases h
 | cons x ks ih =>
  rw [Nd.masss]
  rcases zI.1 h with rfl | h
  ·omega
  ·have := ih h; omega
theorem seg_mem {R : Option (List UInt8) → Nd → Prop} : ∀ {ks : List Nd} {hi : Option (List UInt8)} {k : Nd},Seg R ks hi → k ∈ ks → ∃ b,R b k
 | x :: ks,hi,k,hs,h => by
  rcases zI.1 h with rfl | h
  ·exact ⟨_,hs.1⟩
  ·exact seg_mem hs.2 h
set_option maxRecDepth 10000 in
set_option maxHeartbeats 8000000 in
theorem node_all : ∀ (h : Nat) (hi : Option (List UInt8)) (n : Nd),WF h hi n → n.mass ≤ 10000 → Ct pG 100 (Zv.ops [n.pv]) (.vals [.row (n.all.map Pair.pv)])
 | h,hi,n,w,hm => by
  have e := Nd.pv_eq n
  have ihk : ∀ k ∈ n.kids,Ct pG 100 (Zv.ops [k.pv]) (.vals [.row (k.all.map Pair.pv)]) := fun k hk => by
   cases h with
   | zero => rw [w.1] at hk; cases hk
   | succ h =>
    obtain ⟨b,hb⟩ := seg_mem w.2.2.2.2.2.2.1 hk
    have := mass_mem hk
    have := mass_kids n
    exact node_all h b k hb (by omega)
  have hal : n.all = (applyV (n.pairs ++ Nd.alls n.kids) n.wait).1 := Nd.all_eq n
  have hlen : (n.pairs ++ Nd.alls n.kids).length ≤ 50000 := by
   cases h with
   | zero => rw [w.1,Nd.alls,List.append_nil]; have := w.2.2.1; omega
   | succ h =>
    have := alls_len n.kids hi w.2.2.2.2.2.2.1
    have := mass_kids n
    rw [w.1,List.nil_append]; omega
  have hwl : n.wait.length ≤ 6 := by
   cases h with
   | zero => rw [w.2.1]; exact zF _
   | succ h => exact w.2.1
  have hkl : n.kids.length ≤ 4 := by
   cases h with
   | zero => rw [w.1]; exact zF _
   | succ h => exact w.2.2.2.2.1
  have c1 := leaf_Apply (n.pairs ++ Nd.alls n.kids) n.wait (by omega) (by omega)
  have htl : ∀ i,(n.pairs ++ Nd.alls (n.kids.take i)).length ≤ 50000 := fun i => by
   have e1 : n.kids = n.kids.take i ++ n.kids.drop i := (List.take_append_drop i n.kids).symm
   rw [e1,alls_app,← List.append_assoc,zJ] at hlen
   omega
  rw [hal,e]
  generalize applyV (n.pairs ++ Nd.alls n.kids) n.wait = G at *
  obtain ⟨g1,g2⟩ := G
  generalize n.kids = ks at *
  generalize n.pairs = ps at *
  refine Ct.of_V Tryz.func100 rfl (by simp [Zv.ops,Tryz.f100]) ?_
  refine V.exec 400 ?_
  simp +contextual (maxSteps:=9^7) only [go_sem,Tryz.f100]
  refine V.loop (fun m ls os => ∃ (i : Nat),i ≤ ks.length ∧ m = ks.length - i ∧
     ls = [(0,.val (.ptr (.agg [.str n.low,.row (ks.map Nd.pv),.row (n.wait.map Note.pv),.row (ps.map Pair.pv)]))),(3,.val (.row ((ps ++ Nd.alls (ks.take i)).map Pair.pv))),(13,.val (.row (ks.map Nd.pv))),(14,.val (.int .i64 ks.length)),(15,.val (.int .i64 i))] ∧ os = []) 0 ks.length
    [(0,.val (.ptr (.agg [.str n.low,.row (ks.map Nd.pv),.row (n.wait.map Note.pv),.row (ps.map Pair.pv)]))),(3,.val (.row (ps.map Pair.pv))),(13,.val (.row (ks.map Nd.pv))),(14,.val (.int .i64 ks.length)),(15,.val (.int .i64 0))] [] []
    ⟨0,zF _,rfl,by simp [Nd.alls],rfl⟩ (by simp only [go_sem]) ?_
  rintro m ls os ⟨i,hi',rfl,rfl,rfl⟩
  refine V.exec 400 ?_
  by_cases hlt : i < ks.length
  ·have hlt' : (i : Int) < (ks.length : Int) := by omega
   obtain ⟨x,hx⟩ : ∃ x,ks[i]? = some x := ⟨_,zA hlt⟩
   have hw : IntKind.i64.wrap ((i : Int) + 1) = ((i + 1 : Nat) : Int) := by rw [wrap_small3] <;> omega
   have c2 := ihk x (zE hx)
   have ht : ps ++ Nd.alls (ks.take (i + 1)) = ps ++ Nd.alls (ks.take i) ++ x.all := by
    rw [zL,hx,alls_app,List.append_assoc]; simp [Nd.alls]
   have hl2 := htl (i + 1)
   rw [ht] at hl2
   generalize ps ++ Nd.alls (ks.take i) = L at *
   have c3 := (ConcatPair [L.map Pair.pv,x.all.map Pair.pv] (fun l hl y hy => by
    simp only [zI,List.not_mem_nil,or_false] at hl
    rcases hl with rfl | rfl <;> (obtain ⟨s,_,rfl⟩ := zN.1 hy; rfl)) (by simpa using (show L.length + x.all.length ≤ 100000 by rw [zJ] at hl2; omega)) (by simp)).forget
   simp +contextual (maxSteps:=9^7) only [go_sem,hlt',hx,hw]
   refine V.call rfl rfl (by simp [dOK]) ⟨100,[],by simp only [go_sem],⟨_,rfl,rfl,rfl⟩,.inl ⟨[x.pv],_,.inl (by simp only [go_sem]),c2,.inr (.inl ⟨_,rfl,rfl,rfl⟩)⟩⟩ ?_
   refine V.exec 400 ?_
   simp +contextual (maxSteps:=9^7) only [go_sem]
   refine V.call rfl rfl (by simp [dOK]) ⟨141,[],by simp only [go_sem],⟨_,rfl,rfl,rfl⟩,.inl ⟨[.row ([L.map Pair.pv,x.all.map Pair.pv].map PV.row)],_,.inl (by simp only [go_sem,zC,zB]),c3,.inr (.inl ⟨_,rfl,rfl,rfl⟩)⟩⟩ ?_
   refine V.exec 400 ?_
   simp +contextual (maxSteps:=9^7) only [go_sem,hlt',hx,hw]
   exact ⟨ks.length - (i + 1),_,[],[],by omega,⟨i + 1,by omega,rfl,rfl,rfl⟩,by simp only [go_sem,ht,zM,List.flatten_cons,List.flatten_nil,List.append_nil]⟩
  ·have hlt' : ¬ (i : Int) < (ks.length : Int) := by omega
   obtain rfl : i = ks.length := by omega
   have et : ks.take ks.length = ks := List.take_length
   simp +contextual (maxSteps:=9^7) only [go_sem,hlt',et]
   refine V.call rfl rfl (by simp [dOK]) ⟨68,[],by simp only [go_sem],⟨_,rfl,rfl,rfl⟩,.inl ⟨[.row ((ps ++ Nd.alls ks).map Pair.pv),.row (n.wait.map Note.pv)],_,.inl (by simp only [go_sem]),c1,.inr (.inl ⟨_,rfl,rfl,rfl⟩)⟩⟩ ?_
   refine V.exec 400 ?_
   simp +contextual (maxSteps:=9^7) only [go_sem]
termination_by h => h
theorem tree_Scan (t : Tr) (L : List Pair) (H M : Nat) (r : Range) (g : GoodT t L H M) (hM : M ≤ 10000) : Ct pG 52 (Zv.ops [Tr.pv t,r.pv]) (.vals [.row ((pickV r L).map Pair.pv)]) := by
 obtain ⟨h,hh,q⟩ := g
 have c1 := tree_top t
 have c2 := node_all h none (topN t) q.wf (Nat.le_trans q.mass hM)
 have hl := all_len h none (topN t) q.wf
 have hm := q.mass
 rw [q.all] at c2 hl
 have c3 := stretch_Pick r L (by omega)
 have et : ∃ x,Tr.pv t = .agg [x] ∧ x.isAgg = false := by
  cases t with
  | none => exact ⟨.nilp,rfl,rfl⟩
  | some n => exact ⟨n.pv,rfl,Nd.pv_isAgg n⟩
 obtain ⟨x,ex,ex2⟩ := et
 rw [ex] at c1 ⊢
 refine Ct.of_V Tryz.func52 rfl (by simp [Zv.ops,Tryz.f52]) ?_
 refine V.exec 400 ?_
 simp +contextual (maxSteps:=9^7) only [go_sem,Tryz.f52,Range.pv,ex2]
 refine DV.call [] [] (by simp only [go_sem]) (by simp [dOK]) ⟨76,[],by simp only [go_sem],⟨_,rfl,rfl,rfl⟩,.inl ⟨[.agg [x]],_,.inl (by simp only [go_sem]),c1,.inr (.inl ⟨_,rfl,rfl,rfl⟩)⟩⟩ (by simp only [go_sem]) (by simp only [go_sem]) (by simp only [go_sem]) (by simp) ?_
 refine DV.exec 400 ?_
 simp +contextual (maxSteps:=9^7) only [go_sem,ex2]
 refine DV.call [] [] (by simp only [go_sem]) (by simp [dOK]) ⟨100,[],by simp only [go_sem],⟨_,rfl,rfl,rfl⟩,.inl ⟨[(topN t).pv],_,.inl (by simp only [go_sem]),c2,.inr (.inl ⟨_,rfl,rfl,rfl⟩)⟩⟩ (by simp only [go_sem]) (by simp only [go_sem]) (by simp only [go_sem]) (by simp) ?_
 refine DV.exec 400 ?_
 simp +contextual (maxSteps:=9^7) only [go_sem,ex2]
 refine DV.call [] [] (by simp only [go_sem,Range.pv]) (by simp [dOK]) ⟨99,[],by simp only [go_sem,Range.pv],⟨_,rfl,rfl,rfl⟩,.inl ⟨[r.pv,.row (L.map Pair.pv)],_,.inl (by simp only [go_sem,Range.pv]),c3,.inr (.inl ⟨_,rfl,rfl,rfl⟩)⟩⟩ (by simp only [go_sem,Range.pv]) (by simp only [go_sem,Range.pv]) (by simp only [go_sem,Range.pv]) (by simp) ?_
 refine DV.exec 400 ?_
 simp +contextual (maxSteps:=9^7) only [go_sem,ex2]
 kernel_rfl
theorem tree_Get (t : Tr) (L : List Pair) (H M : Nat) (k : List UInt8) (g : GoodT t L H M) : Ct pG 32 (Zv.ops [Tr.pv t,.str k]) (.vals [.str (getV L k).1,.bool (decide ((getV L k).2 = true))]) := by
 obtain ⟨h,hh,q⟩ := g
 have c1 := tree_top t
 have hin : In (topN t).low none k := ⟨by rw [q.low]; exact slt_nil _,fun b hb => by cases hb⟩
 have c2 := node_get h none (topN t) k q.wf hin
 rw [getN_spec h none (topN t) k q.wf hin,q.all] at c2
 have et : ∃ x,Tr.pv t = .agg [x] ∧ x.isAgg = false := by
  cases t with
  | none => exact ⟨.nilp,rfl,rfl⟩
  | some n => exact ⟨n.pv,rfl,Nd.pv_isAgg n⟩
 obtain ⟨x,ex,ex2⟩ := et
 rw [ex] at c1 ⊢
 refine Ct.of_V Tryz.func32 rfl (by simp [Zv.ops,Tryz.f32]) ?_
 refine V.exec 400 ?_
 simp +contextual (maxSteps:=9^7) only [go_sem,Tryz.f32,ex2]
 refine V.call rfl rfl (by simp [dOK]) ⟨76,[],by simp only [go_sem],⟨_,rfl,rfl,rfl⟩,.inl ⟨[.agg [x]],_,.inl (by simp only [go_sem]),c1,.inr (.inl ⟨_,rfl,rfl,rfl⟩)⟩⟩ ?_
 refine V.exec 400 ?_
 simp +contextual (maxSteps:=9^7) only [go_sem,ex2]
 refine V.call rfl rfl (by simp [dOK]) ⟨77,[],by simp only [go_sem],⟨_,rfl,rfl,rfl⟩,.inl ⟨[(topN t).pv,.str k],_,.inl (by simp only [go_sem]),c2,.inl ⟨_,rfl,rfl,rfl,rfl⟩⟩⟩ ?_
 refine V.exec 400 ?_
 simp +contextual (maxSteps:=9^7) only [go_sem,ex2]
end Go.Proofs.YtfemlllmglaimaaGreat
namespace Go.Proofs.Zv
open Go Classical
section
variable {P : Program} {C : Ctx} {σ : St} {a : Act} {w : World} {cv : Nat → Value}
theorem DV.execS {md : Md} {n : Nat} {R : St → Prop} {all : List Oper} {b i : Nat} {rest : List Oper} {aM aW : List (List Nat)} {ck : Nat} {k : List It} (sp : List Nat) (m : Nat) (h : Zv.exec md P n R sp m (.dr all b i rest aM aW ck k) σ) : DV md P n R all b i rest aM aW ck k σ := exec_mean m _ _ h
theorem lk_build2 {all : List Oper} {d t i0 i1 x y ty p af g} : lk all { dst := d,op := .build t #[(i0,x),(i1,y)],type := ty,pos := p,after := af,guard := g } = tms [x,y] ++ gsl all g := by
 unfold lk
 congr 1
theorem DV.bref {md : Md} {n : Nat} {R : St → Prop} {all : List Oper} {b i : Nat} {d t i0 i1 x y ty p af g} {rest : List Oper} {aM aW : List (List Nat)} {ck : Nat} {k : List It} (M : List Nat) {p0 : PV} {id : Nat} {e : TypeId} {ys : List PV} {zs : List AV} {places : List (Nat × Nat)} {z cs : List PV} {kk : Nat}
  (hg : runs σ all { dst := d,op := .build t #[(i0,x),(i1,y)],type := ty,pos := p,after := af,guard := g } = some true) (hd : dOK n d)
  (hx : (σ.restr (tms [x,y] ++ gsl all g) M (b + i)).ev x = .val p0) (hy : (σ.restr (tms [x,y] ++ gsl all g) M (b + i)).ev y = .ref id) (hob : (σ.restr (tms [x,y] ++ gsl all g) M (b + i)).ob id = .row e ys)
  (hz : zeroOf P t = some zs) (hpl : plOf P t = some places) (hp : purs zs = some z) (hna : ∀ p ∈ z,p.isAgg = false) (hcs : fillP places z [(i0,p0),(i1,.row [])] = some cs) (hk : places[i1]? = some (kk,1))
  (h2 : mok σ (tms [x,y] ++ gsl all g) M (b + i) (.agr cs kk id)) (h : DV md P n R all b (i + 1) rest (aM ++ [M]) (aW ++ [[]]) ck k (σ.put d (.agr cs kk id))) :
  DV md P n R all b i ({ dst := d,op := .build t #[(i0,x),(i1,y)],type := ty,pos := p,after := af,guard := g } :: rest) aM aW ck k σ := by
 rw [← lk_build2 (all := all) (d := d) (t := t) (i0 := i0) (i1 := i1) (ty := ty) (p := p) (af := af)] at *
 refine DV.op M [] (.bref (by rw [runs_restr]; exact hg) rfl hd hx hy hob hz hpl hp hna hcs hk) (Within.of (fun _ _ => rfl) h2 trivial (by simp)) ?_
 rw [patch_pass]
 exact h
def New (C : Ctx) (b : Nat) : Prop := C.w0.heap.size ≤ b ∨ C.O0 b
structure Anc (C : Ctx) (w : World) : Prop where
 os : w.os = C.w0.os
 tape : w.tape = C.w0.tape
 output : w.output = C.w0.output
 size : C.w0.heap.size ≤ w.heap.size
 old : ∀ k,k < C.w0.heap.size → ¬ C.O0 k → w.heap[k]? = C.w0.heap[k]?
theorem Rel.anc (h : Rel P C σ a w cv) : Anc C w := ⟨h.os,h.tape,h.output,h.size,h.old⟩
theorem Anc.next {C1 : Ctx} (hA : Anc C C1.w0) (h : Rel P C1 σ a w cv) (hO : ∀ b,C1.O0 b → New C b) : Anc C w where
 os := h.os.trans hA.os
 tape := h.tape.trans hA.tape
 output := h.output.trans hA.output
 size := Nat.le_trans hA.size h.size
 old := fun k hk ho => by
  rw [h.old k (Nat.lt_of_lt_of_le hk hA.size) (fun h1 => by
   rcases hO k h1 with h2 | h2
   ·omega
   ·exact ho h2)]
  exact hA.old k hk ho
theorem Rel.rebase (h : Rel P C σ a w cv) (hd : a.defers = []) {σ1 : St} {cv1 : Nat → Value} {F : Nat → Prop} {pin : Nat → Option Value}
    (hF : ∀ b,F b → b < w.heap.size ∧ ∀ i,¬ Live σ1.ob cv1 i b) (hL : ∀ i b,Live σ1.ob cv1 i b → b < w.heap.size) (hinj : ∀ i j b,Live σ1.ob cv1 i b → Live σ1.ob cv1 j b → i = j)
    (hob : ∀ i,ObRep P w F cv1 i (σ1.ob i)) (hsl : ∀ t,SRep w F cv1 (σ1.sl t) (a.tmps.getD t undef))
    (hm : ∀ t i,(σ1.sl t).ment i → σ1.ob i ≠ .free) (hmo : ∀ j i,(σ1.ob j).ment i → σ1.ob i ≠ .free) (hpin : ∀ i v,pin i = some v → σ1.ob i ≠ .free ∧ cv1 i = v) :
    Rel P ⟨w,F,fun b => ∃ i,Live σ1.ob cv1 i b,C.n,pin,0⟩ σ1 a w cv1 := by
  have hS : Same F w w := fun _ _ => rfl
  have hF1 : ∀ b,F b → FS ⟨w,F,fun b => ∃ i,Live σ1.ob cv1 i b,C.n,pin,0⟩ σ1.ob cv1 w b := fun b hb => .inl hb
  exact {
    os := rfl,tape := rfl,output := rfl,size := Nat.le_refl _,old := fun _ _ _ => rfl
    f0 := fun b hb => ⟨(hF b hb).1,fun ⟨i,hl⟩ => (hF b hb).2 i hl⟩
    o0 := fun b ⟨i,hl⟩ => hL i b hl
    live := fun i b hl => ⟨.inr ⟨i,hl⟩,hL i b hl⟩
    inj := hinj
    obs := fun i => (hob i).mono hS hF1 rfl (fun _ _ => rfl) (fun _ _ _ => rfl)
    slots := fun t => (hsl t).mono hS hF1 (fun _ _ => rfl)
    ments := hm,mento := hmo
    defers := by rw [hd]; exact DefOK.nil
    ntmps := h.ntmps
    pin := hpin }
structure Lk (C C1 : Ctx) : Prop where
 lvl : C1.lvl = 0
 n : C1.n = C.n
 anc : Anc C C1.w0
 f : ∀ b,C1.F0 b → C.F0 b ∨ New C b
 o : ∀ b,C1.O0 b → New C b
theorem Lk.defers {C1 : Ctx} (k : Lk C C1) (h : Rel P C1 σ a w cv) : a.defers = [] := h.defers.1 k.lvl
theorem Lk.anc' {C1 : Ctx} (k : Lk C C1) (h : Rel P C1 σ a w cv) : Anc C w := k.anc.next h k.o
theorem Lk.fs {C1 : Ctx} (k : Lk C C1) {ob : Nat → Ob} {b : Nat} (h : FS C1 ob cv w b) : C.F0 b ∨ New C b := by
 rcases h with h | ⟨h,_⟩
 ·exact k.f b h
 ·rcases h with h | h
  ·exact .inr (.inl (Nat.le_trans k.anc.size h))
  ·exact .inr (k.o b h)
theorem Lk.live {C1 : Ctx} (k : Lk C C1) (h : Rel P C1 σ a w cv) {i b : Nat} (hl : Live σ.ob cv i b) : New C b := by
 rcases (h.live i b hl).1 with h1 | h1
 ·exact .inl (Nat.le_trans k.anc.size h1)
 ·exact k.o b h1
theorem Rel.land {C1 : Ctx} (hf0 : ∀ b,C.F0 b → b < C.w0.heap.size ∧ ¬ C.O0 b) (ho0 : ∀ b,C.O0 b → b < C.w0.heap.size) (hpin : ∀ i,C.pin i = none) (k : Lk C C1) (h : Rel P C1 σ a w cv)
    {σ1 : St} {cv1 : Nat → Value} {F : Nat → Prop} (hF : ∀ b,F b → b < w.heap.size ∧ (C.F0 b ∨ New C b)) (hno : ∀ i,(σ1.ob i).live = false)
    (hob : ∀ i,ObRep P w F cv1 i (σ1.ob i)) (hsl : ∀ t,SRep w F cv1 (σ1.sl t) (a.tmps.getD t undef))
    (hm : ∀ t i,(σ1.sl t).ment i → σ1.ob i ≠ .free) (hmo : ∀ j i,(σ1.ob j).ment i → σ1.ob i ≠ .free) : Rel P C σ1 a w cv1 := by
  have hA := k.anc' h
  have hnl : ∀ i b,¬ Live σ1.ob cv1 i b := fun i b hl => by have := hl.1; rw [hno i] at this; cases this
  have hF1 : ∀ b,F b → FS C σ1.ob cv1 w b := fun b hb => by
    obtain ⟨h1,h2⟩ := hF b hb
    rcases h2 with h2 | h2
    · exact .inl h2
    · exact .inr ⟨h2,h1,fun i => hnl i b⟩
  have hS : Same F w w := fun _ _ => rfl
  exact {
    os := hA.os,tape := hA.tape,output := hA.output,size := hA.size,old := hA.old,f0 := hf0,o0 := ho0
    live := fun i b hl => absurd hl (hnl i b)
    inj := fun i j b hi hj => absurd hi (hnl i b)
    obs := fun i => (hob i).mono hS hF1 rfl (fun _ _ => rfl) (fun _ _ _ => rfl)
    slots := fun t => (hsl t).mono hS hF1 (fun _ _ => rfl)
    ments := hm,mento := hmo
    defers := by rw [k.defers h]; exact DefOK.nil
    ntmps := by rw [← k.n]; exact h.ntmps
    pin := fun i v hv => by rw [hpin i] at hv; cases hv }
structure Hid (C C1 : Ctx) (b : Nat) (cs : List PV) : Prop where
 new : New C b
 lt : b < C1.w0.heap.size
 nf : ¬ C1.F0 b
 no : ¬ C1.O0 b
 mem : ∃ arr ty,C1.w0.heap[b]? = some (.cells ⟨arr⟩ ty (0,0)) ∧ Reps C1.w0 C1.F0 cs arr
theorem Rel.sameF0 {C1 : Ctx} (h : Rel P C1 σ a w cv) : Same C1.F0 C1.w0 w := fun b hb => h.old b (h.f0 b hb).1 (h.f0 b hb).2
theorem Hid.off {C1 : Ctx} {b : Nat} {cs : List PV} (hh : Hid C C1 b cs) (h : Rel P C1 σ a w cv) : ¬ FS C1 σ.ob cv w b ∧ (∀ i,¬ Live σ.ob cv i b) ∧ b < w.heap.size ∧ ∃ arr ty,w.heap[b]? = some (.cells ⟨arr⟩ ty (0,0)) ∧ Reps w C1.F0 cs arr := by
 refine ⟨fun hf => ?_,fun i hl => ?_,Nat.lt_of_lt_of_le hh.lt h.size,?_⟩
 ·rcases hf with hf | ⟨hf,_⟩
  ·exact hh.nf hf
  ·rcases hf with hf | hf
   ·have := hh.lt; omega
   ·exact hh.no hf
 ·rcases (h.live i b hl).1 with h1 | h1
  ·have := hh.lt; omega
  ·exact hh.no h1
 ·obtain ⟨arr,ty,h1,h2⟩ := hh.mem
  exact ⟨arr,ty,by rw [h.old b hh.lt hh.no]; exact h1,h2.mono h.sameF0 (fun _ hb => hb)⟩
theorem Hid.next {C1 : Ctx} {b : Nat} {cs : List PV} (hh : Hid C C1 b cs) (h : Rel P C1 σ a w cv) {F O : Nat → Prop} {n : Nat} {pin : Nat → Option Value} (hF : ∀ b,C1.F0 b → F b) (hnF : ¬ F b) (hnO : ¬ O b) : Hid C ⟨w,F,O,n,pin,0⟩ b cs := by
 obtain ⟨h1,h2,h3,arr,ty,h4,h5⟩ := hh.off h
 exact ⟨hh.new,h3,hnF,hnO,arr,ty,h4,h5.mono (fun _ _ => rfl) hF⟩
theorem Hid.ptr {C1 : Ctx} {b : Nat} {cs : List PV} (hh : Hid C C1 b cs) (h : Rel P C1 σ a w cv) {F : Nat → Prop} (hF : ∀ b,C1.F0 b → F b) (hb : F b) (hcs : ∀ c ∈ cs,c.isAgg = false) : Rep w F (.ptr (.agg cs)) (.pointer (some ⟨b,0,none⟩)) := by
 obtain ⟨h1,h2,h3,arr,ty,h4,h5⟩ := hh.off h
 refine .ptr (.agg cs) ⟨b,0,none⟩ arr (.inr hb) h5.1 (fun j v hj => ?_) hcs (h5.mono (fun _ _ => rfl : Same C1.F0 w w) hF).2
 have hlt : j < arr.length := (List.getElem?_eq_some_iff.1 hj).1
 rw [Addr_add_lit]
 unfold World.cell?
 simp only [h4]
 simpa using hj
def ptrV (b : Nat) : Value := .pointer (some ⟨b,0,none⟩)
theorem Rel.hide {C1 : Ctx} (k : Lk C C1) (h : Rel P C1 σ a w cv) {id t : Nat} {ag : Bool} {ps : List PV} (hbox : σ.ob id = .box ag (ps.map AV.val)) (hsl : σ.sl t = .adr id 0) :
  ∃ b C2,Lk C C2 ∧ C2.n = C1.n ∧ (∀ i,C2.pin i = none) ∧ Rel P C2 ((σ.setOb id .gone).set t (.val (.raw (ptrV b)))) a w cv ∧ Hid C C2 b ps ∧ (∀ b' cs',Hid C C1 b' cs' → Hid C C2 b' cs' ∧ b' ≠ b) := by
 have ho := h.obs id
 rw [hbox] at ho
 obtain ⟨b,ty,arr,h1,h2,h3,h4,h5⟩ := ho
 have hl0 : Live σ.ob cv id b := ⟨by rw [hbox]; rfl,by rw [h1]; rfl⟩
 have hob1 : ∀ i,((σ.setOb id .gone).set t (.val (.raw (ptrV b)))).ob i = if i = id then .gone else σ.ob i := fun i => rfl
 have hsl1 : ∀ t',((σ.setOb id .gone).set t (.val (.raw (ptrV b)))).sl t' = if t' = t then .val (.raw (ptrV b)) else σ.sl t' := fun t' => rfl
 have hlv : ∀ i b',Live ((σ.setOb id .gone).set t (.val (.raw (ptrV b)))).ob cv i b' → i ≠ id ∧ Live σ.ob cv i b' := fun i b' ⟨g1,g2⟩ => by
  rw [hob1] at g1
  split at g1
  ·cases g1
  ·exact ⟨‹_›,g1,g2⟩
 have hr2 := h.rebase (k.defers h) (σ1 := (σ.setOb id .gone).set t (.val (.raw (ptrV b)))) (cv1 := cv) (F := FS C1 σ.ob cv w) (pin := fun _ => none)
  (fun b' hb => ⟨h.fs_lt hb,fun i hl => h.fs_live hb (hlv i b' hl).2⟩) (fun i b' hl => (h.live i b' (hlv i b' hl).2).2) (fun i j b' hi hj => h.inj i j b' (hlv i b' hi).2 (hlv j b' hj).2)
  (fun i => by
   rw [hob1]
   split
   ·trivial
   ·exact h.obs i) (fun t' => by
   rw [hsl1]
   split
   ·rename_i e
    have := h.slots t
    rw [hsl] at this
    obtain ⟨b2,g1,g2⟩ := this
    rw [h1] at g1
    cases g1
    rw [e,g2]
    exact Rep.raw (ptrV b) rfl
   ·exact h.slots t') (fun t' i hi => by
   rw [hsl1] at hi
   rw [hob1]
   split at hi
   ·exact hi.elim
   ·split
    ·simp
    ·exact h.ments t' i hi) (fun j i hi => by
   rw [hob1] at hi
   rw [hob1]
   split at hi
   ·exact hi.elim
   ·split
    ·simp
    ·exact h.mento j i hi) (fun i v hv => by cases hv)
 refine ⟨b,⟨w,FS C1 σ.ob cv w,fun b' => ∃ i,Live ((σ.setOb id .gone).set t (.val (.raw (ptrV b)))).ob cv i b',C1.n,fun _ => none,0⟩,⟨rfl,k.n,k.anc' h,fun b' hb => k.fs hb,fun b' ⟨i,hl⟩ => k.live h (hlv i b' hl).2⟩,rfl,fun _ => rfl,hr2,⟨k.live h hl0,(h.live id b hl0).2,fun hf => h.fs_live hf hl0,fun ⟨i,hl⟩ => (hlv i b hl).1 (h.inj i id b (hlv i b hl).2 hl0),arr,ty,h2,?_⟩,fun b' cs' hh => ?_⟩
 ·refine ⟨by rw [h3,List.length_map],fun i p v hp hv => ?_⟩
  exact (h5 i (.val p) v (by rw [List.getElem?_map,hp]; rfl) hv).1
 ·obtain ⟨g1,g2,g3,_⟩ := hh.off h
  exact ⟨hh.next h (fun _ hb => .inl hb) g1 (fun ⟨i,hl⟩ => g2 i (hlv i b' hl).2),fun e => by subst e; exact g2 id hl0⟩
theorem flat_one : ∀ {xs : List PV},(∀ x ∈ xs,x.cells = [x]) → flat xs = xs
 | [],_ => rfl
 | x :: xs,h => by
  have ih := flat_one (xs := xs) fun y hy => h y (List.mem_cons_of_mem _ hy)
  show x.cells ++ flat xs = _
  rw [h x List.mem_cons_self,ih]; rfl
theorem rawRow {F F' : Nat → Prop} {vs : List Value} {xs : List PV} {u : Value} (h : Rep w F (.row (vs.map PV.raw)) u) (hF : ∀ b,F b → F' b) (hl : xs.length = vs.length) (hx : ∀ x ∈ xs,x.cells = [x] ∧ x.isAgg = false)
  (hr : ∀ (j : Nat) (v : Value) (x : PV),vs[j]? = some v → xs[j]? = some x → Rep w F' x v) : Rep w F' (.row xs) u := by
 generalize hR : vs.map PV.raw = R at h
 have hlen : R.length = vs.length := by rw [← hR,List.length_map]
 cases h with
 | rowNil =>
  have : xs = [] := List.eq_nil_of_length_eq_zero (by rw [hl,← hlen]; rfl)
  subst this; exact .rowNil
 | row _ ad c sz cvs hc hsz hFb hcl hcell ha hh =>
  have hfR : flat R = R := flat_one fun x hx => by
   rw [← hR] at hx
   obtain ⟨v,_,rfl⟩ := List.mem_map.1 hx; rfl
  have hfx : flat xs = xs := flat_one fun x hx' => (hx x hx').1
  rw [hfR] at hcl hh hFb
  have e : R.length = xs.length := by omega
  rw [e]
  refine .row xs ad c 1 cvs (by omega) (fun x hx' => by rw [(hx x hx').1]; rfl) ?_ (by rw [hfx]; omega) hcell (by rw [hfx]; exact fun c hc => (hx c hc).2) (fun i p v hp hv => ?_)
  ·rw [hfx]
   rcases hFb with hFb | hFb
   ·left; exact List.eq_nil_of_length_eq_zero (by rw [← e,hFb]; rfl)
   ·exact .inr (hF _ hFb)
  ·rw [hfx] at hp
   have hi : i < vs.length := by rw [← hl]; exact (List.getElem?_eq_some_iff.1 hp).1
   have hRi : R[i]? = some (.raw vs[i]) := by rw [← hR,List.getElem?_map,List.getElem?_eq_getElem hi]; rfl
   have := hh i _ v hRi hv
   have e2 : v = vs[i] := by cases this; rfl
   rw [e2]
   exact hr i _ p (List.getElem?_eq_getElem hi) hp
theorem SemOp.nilRaw {md : Md} {n : Nat} {all : List Oper} {i : Nat} {o : Oper} {x : Operand} {id b : Nat} (hK : ∀ C,md.K C → C.pin id = some (.pointer (some ⟨b,0,none⟩))) (hg : o.guard = none) (ho : o.op = .nilCheck x)
  (hx : σ.ev x = .val (.raw (.pointer (some ⟨b,0,none⟩)))) (hd : dOK n o.dst) : SemOp P md n all i o σ (fun σ' => σ' = σ.put o.dst (.adr id 0)) := by
 intro C a w cv hKC hCn hpin hr hoi bf cs m rest
 have hv := (hr.ev x).1
 rw [hx] at hv
 have he : a.eval x = .pointer (some ⟨b,0,none⟩) := by
  have hv : Rep w (FS C σ.ob cv w) (.raw (.pointer (some ⟨b,0,none⟩))) (a.eval x) := hv
  generalize a.eval x = u at hv
  cases hv; rfl
 obtain ⟨p1,p2⟩ := hr.pin id _ (hK C hKC)
 have hwant : Region.wanted o (yielded all.toArray a.tmps) = true := by unfold Region.wanted; rw [hg]
 have hrun : (execOp a.eval o).run P w = .ok (.value (.pointer (some ⟨b,0,none⟩))) w := by
  unfold execOp; rw [ho]; simp [he]
 refine ⟨_,_,w,cv,rfl,put_rel hr (d := o.dst) (by rw [hCn]; exact hd) (v := .adr id 0) (u := .pointer (some ⟨b,0,none⟩)) ⟨b,p2,rfl⟩ (fun j hj => ?_),oper_steps (P := P) (all := all) (i := i) (rest := rest) (m := m) hoi hwant (.inl hrun) bf cs⟩
 have : id = j := hj
 subst this; exact p1
theorem V.segW {md : Md} {c : Code} {id : Nat} {J1 J2 : St → Prop} (hK : md.K C) (hpin : md.pl = true → ∀ i,C.pin i = none) (hv : V md P C.n (fun _ => False) [.code c,.again J1,.blk id,.stop J2] σ) (hr : Rel P C σ a w cv) (b : Frame) (cs : List Frame) (hb : md.pl = true → b.roundOf = none) (m : List Item) :
  ∃ τ a' w' cv',Rel P C τ a' w' cv' ∧ ((J1 τ ∧ Steps P (lone (b.atR a (.code c :: .inLoop c :: .inBlock id :: m)) cs w) (lone (b.atR a' (.inLoop c :: .inBlock id :: m)) cs w')) ∨
   (J2 τ ∧ Steps P (lone (b.atR a (.code c :: .inLoop c :: .inBlock id :: m)) cs w) (lone (b.atR a' m) cs w'))) := by
 have hz1 : ∀ σ a w cv,J1 σ → Rel P C σ a w cv → Good md P C (fun σ todo => (J1 σ ∧ todo = .inLoop c :: .inBlock id :: m) ∨ (J2 σ ∧ todo = m)) (.inLoop c :: .inBlock id :: m) a w := fun σ a w cv hJ hr b cs hb => ⟨σ,a,w,cv,_,.inl ⟨hJ,rfl⟩,hr,.refl _ _⟩
 have hz2 : ∀ σ a w cv,J2 σ → Rel P C σ a w cv → Good md P C (fun σ todo => (J1 σ ∧ todo = .inLoop c :: .inBlock id :: m) ∨ (J2 σ ∧ todo = m)) m a w := fun σ a w cv hJ hr b cs hb => ⟨σ,a,w,cv,_,.inr ⟨hJ,rfl⟩,hr,.refl _ _⟩
 obtain ⟨τ,a',w',cv',todo,h1,h2,h3⟩ := V.sound (Z := fun σ todo => (J1 σ ∧ todo = .inLoop c :: .inBlock id :: m) ∨ (J2 σ ∧ todo = m)) hK hpin (fun _ _ hf => hf.elim) hv (.code c :: .inLoop c :: .inBlock id :: m) (.code c (.again (.blk (.stop hz2)) hz1)) a w cv hr b cs hb
 refine ⟨τ,a',w',cv',h2,?_⟩
 rcases h1 with ⟨h1,rfl⟩ | ⟨h1,rfl⟩
 ·exact .inl ⟨h1,h3⟩
 ·exact .inr ⟨h1,h3⟩
theorem V.segM {md : Md} {c : Code} {ls : List (Nat × AV)} {os : List Ob} (ck : Nat) (hK : md.K C) (hpin : ∀ i,C.pin i = none) (hv : V md P C.n (fun _ => False) [.code c,.stop (fun τ => ∃ ρ,Match P τ ρ ls os)] σ) (hr : Rel P C σ a w cv)
  (b : Frame) (cs : List Frame) (hb : b.roundOf = none) (m : List Item) : ∃ a' w' cv',Rel P C (litSt ls os ck) a' w' cv' ∧ Steps P (lone (b.atR a (.code c :: m)) cs w) (lone (b.atR a' m) cs w') := by
 obtain ⟨τ,a',w',cv',⟨ρ,hM⟩,hr',hs⟩ := V.seg hK (fun _ => hpin) hv hr b cs (fun _ => hb) m
 obtain ⟨cv2,hr2⟩ := hr'.rename hM ck (fun i v hv => by rw [hpin i] at hv; cases hv)
 exact ⟨a',w',cv2,hr2,hs⟩
theorem V.segSeq {md : Md} {c d : Code} {ls : List (Nat × AV)} {os : List Ob} (ck : Nat) (hK : md.K C) (hpin : ∀ i,C.pin i = none) (hv : V md P C.n (fun _ => False) [.code c,.stop (fun τ => ∃ ρ,Match P τ ρ ls os)] σ) (hr : Rel P C σ a w cv)
  (b : Frame) (cs : List Frame) (hb : b.roundOf = none) (m : List Item) : ∃ a' w' cv',Rel P C (litSt ls os ck) a' w' cv' ∧ Steps P (lone (b.atR a (.code (.seq c d) :: m)) cs w) (lone (b.atR a' (.code d :: m)) cs w') := by
 obtain ⟨a',w',cv',h1,h2⟩ := V.segM ck hK hpin hv hr b cs hb (.code d :: m)
 exact ⟨a',w',cv',h1,.head stepR_seq h2⟩
def Md.low : Md := ⟨fun C => C.lvl = 0,true,true⟩
theorem Ct.of_sem {f : FuncId} {fn : Func} {c : Code} {args : List Arg} {r : Res} (hf : P.funcs[f]? = some fn) (hb : fn.body = some c) (hN : args.length ≤ fn.ntmps)
  (H : ∀ (C : Ctx) (a : Act) (w : World) (cv : Nat → Value),C.lvl = 2 → C.n = fn.ntmps → (∀ i,C.pin i = none) → a.defers = [] → Rel P C (initSt args) a w cv → ∀ (b : Frame) (cs : List Frame),b.roundOf = none →
   ∃ σ' a' w' cv' todo,RetSt P fn.results.toList r σ' ∧ leaves true todo ∧ Rel P C σ' a' w' cv' ∧ Steps P (lone (b.atR a [.code c]) cs w) (lone (b.atR a' todo) cs w')) : Ct P f args r := by
 intro w F vs hF ha cs
 obtain ⟨cv,hrel⟩ := init_rel (P := P) (N := fn.ntmps) hF ha hN
 let b : Frame := { (default : Frame) with fn := f,kind := .normal,roundOf := none }
 have henter : Frame.enter P f ⟨vs⟩ .normal = b.atR { tmps := (⟨vs⟩ : Array Value) ++ Array.replicate (fn.ntmps - vs.length) undef,defers := [] } [.code c] := by
  simp [Frame.enter,Frame.atR,hf,hb,b]
 obtain ⟨σ',a1,w1,cv',todo',hR,hlv,hrel1,hsteps1⟩ := H ⟨w,F,Given args vs,fn.ntmps,fun _ => none,2⟩ _ w cv rfl rfl (fun _ => rfl) rfl hrel b cs rfl
 obtain ⟨w',hrel',hud⟩ := Rel.undefer rfl a1.defers a1 w1 hrel1 rfl
 have hsteps2 := (hsteps1.trans (leave_steps (b := b) rfl hlv cs w1)).trans (hud { b.atR a1 todo' with mode := .returning } cs (by simp) rfl)
 obtain ⟨a',ha'⟩ : ∃ a',a' = ({ a1 with defers := [] } : Act) := ⟨_,rfl⟩
 have hdef : a'.defers = [] := by rw [ha']
 have hsteps : Steps P (lone (b.atR { tmps := (⟨vs⟩ : Array Value) ++ Array.replicate (fn.ntmps - vs.length) undef,defers := [] } [.code c]) cs w) (lone { b.atR a' todo' with mode := .returning } cs w') := by rw [ha']; exact hsteps2
 rw [← ha'] at hrel'
 clear hsteps1 hsteps2 hud hrel1 ha'
 rw [← henter] at hsteps
 have hfs : ∀ b,FS ⟨w,F,Given args vs,fn.ntmps,fun _ => none,2⟩ σ'.ob cv' w' b → FN w w' F args vs b := fun b hb => by
  rcases hb with hb | hb
  ·exact .inl hb
  ·exact .inr ⟨hb.1,hb.2.1⟩
 have fin : ∀ v,(results fn a'.tmps).run P w' = .ok v w' → ResRep P w w' F args vs r v → ∃ (e : Ending) (w' : World) (fr : Frame),(∃ v,e = .returned v ∧ Out P w F args vs w' r v) ∧
   Comes P (lone (Frame.enter P f ⟨vs⟩ .normal) cs w) (lone fr cs w') e ∧ fr.fn = f ∧ fr.leaving P w' e := fun v hv hres =>
  ⟨.returned v,w',{ b.atR a' todo' with mode := .returning },⟨v,rfl,⟨hrel'.os,hrel'.tape,hrel'.output,hrel'.size,hrel'.old,hres⟩⟩,hsteps,rfl,rfl,hdef,rfl,fn,hf,hv⟩
 cases r with
 | vals ps =>
  have hR : retVals P σ' fn.results.toList = some ps := hR
  obtain ⟨us,σ2,h1,h2,h3,h4⟩ := retVals_run hrel' hR
  refine fin _ (results_readR fn a'.tmps h1) ⟨us,rfl,h4.mono (fun _ _ => rfl : Same _ w' w') fun b hb => ?_⟩
  rcases hb with hb | hb
  ·exact .inl hb
  ·exact .inr ⟨hb.1,hb.2.1⟩
 | own e xs =>
  simp only [RetSt,RetOK] at hR
  split at hR
  ·rename_i t hrs
   have h1 : (fn.results.toList.mapM (readR a'.tmps)).run P w' = .ok [a'.tmps.getD t undef] w' := by rw [hrs]; simp [List.mapM_cons,readR]
   have hs := hrel'.slots t
   split at hR
   ·rename_i i hi
    rw [hi] at hs
    have hs : a'.tmps.getD t undef = cv' i := hs
    have ho := hrel'.obs i
    rw [hR] at ho
    have hlv : (σ'.ob i).live = true := by rw [hR]; rfl
    refine fin _ (results_readR fn a'.tmps h1) ⟨?_,fun b hb => ?_⟩
    ·show OwnRow P w' _ (a'.tmps.getD t undef) e xs
     rw [hs]
     refine OwnRow.mono ho (fun _ _ => rfl : Same _ w' w') (fun b hb => ⟨hfs b hb,fun hb' => ?_⟩) (fun _ _ => rfl)
     exact hrel'.fs_live hb ⟨hlv,hb'⟩
    ·have hb : blkOf (cv' i) = some b := by rw [← hs]; exact hb
     exact hrel'.live i b ⟨hlv,hb⟩
   ·rename_i i sz l n hi
    rw [hi] at hs
    obtain ⟨ys,q,ho1,rfl,hn,rfl⟩ := hR
    have ho := hrel'.obs i
    rw [ho1] at ho
    have hlv : (σ'.ob i).live = true := by rw [ho1]; rfl
    obtain ⟨sz',cells,g1,g2,g3,g4,g5,g6,g7⟩ := ho
    generalize a'.tmps.getD t undef = uu at hs h1
    have hfl := flat_take g3 n
    rcases hs with ⟨c1,_,rfl,rfl⟩ | ⟨b,n',c,o,c1,c2,c3,rfl⟩
    ·refine fin _ (results_readR fn a'.tmps h1) ⟨?_,fun b hb => by cases hb⟩
     rw [List.take_zero]
     exact ⟨sz',[],g1,g2,by simp,World.ownsRow_nil w' 0 e sz',Reps.nil _ _,by simp [flat]⟩
    ·rcases g7 with ⟨c1',_⟩ | ⟨g',n'',cur,c1',hg,hm,hcs,ht⟩
     ·rw [c1] at c1'; cases c1'
     ·rw [c1] at c1'; cases c1'
      obtain rfl : o = 0 := by
       rcases c3 with c3 | ⟨c3,c4,c5⟩
       ·simpa using c3
       ·omega
      refine fin _ (results_readR fn a'.tmps h1) ⟨?_,fun b' hb' => ?_⟩
      ·have hlen : (ys.take n).length = n := by rw [List.length_take]; omega
       refine ⟨sz',cells.take (n * sz'),g1,g2,fun x hx => g3 x (List.mem_of_mem_take hx),⟨?_,.inr ⟨b,ys.length + q,cur,by rw [hlen]; rfl,Nat.zero_le _,hg,by rw [hlen]; omega,hm,hcs,?_⟩⟩,?_,fun c hc => ?_⟩
       ·rw [hlen,List.length_take,g4]; have := Nat.mul_le_mul_right sz' hn; omega
       ·rw [hlen,← ht,List.take_take]; congr 1; have := Nat.mul_le_mul_right sz' hn; omega
       ·rw [hfl]
        refine (g5.mono (fun _ _ => rfl : Same (FS ⟨w,F,Given args vs,fn.ntmps,fun _ => none,2⟩ σ'.ob cv' w') w' w') (fun b' hb' => ⟨hfs b' hb',fun hb2 => ?_⟩)).take _
        cases hb2
        exact hrel'.fs_live hb' ⟨hlv,by rw [c1]; rfl⟩
       ·rw [hfl] at hc; exact g6 c (List.mem_of_mem_take hc)
      ·cases hb'
       exact hrel'.live i b ⟨hlv,by rw [c1]; rfl⟩
   ·rename_i hi
    rw [hi] at hs
    have hs : a'.tmps.getD t undef = .slice none 0 0 := hs
    obtain ⟨rfl,sz,g1,g2⟩ := hR
    refine fin _ (results_readR fn a'.tmps h1) ⟨?_,fun b hb => ?_⟩
    ·show OwnRow P w' _ (a'.tmps.getD t undef) e []
     rw [hs]
     exact ⟨sz,[],g1,g2,by simp,World.ownsRow_nil w' 0 e sz,Reps.nil _ _,by simp [flat]⟩
    ·have hb : blkOf (a'.tmps.getD t undef) = some b := hb
     rw [hs] at hb; cases hb
   ·exact hR.elim
  ·exact hR.elim
end
end Go.Proofs.Zv
namespace Go.Proofs.YtfemlllmglaimaaGreat
open Go Go.Proofs Go.Proofs.Zv Go.Proofs.YtfemlllmglaimaaGreat.Ty
open Go.Proofs.Tryz renaming prog → pG
open List renaming getElem?_eq_getElem → zA, map_nil → zB, map_cons → zC, take_of_length_le → zD, mem_of_getElem? → zE, mem_cons_self → zG, mem_cons_of_mem → zH, mem_cons → zI, length_append → zJ, drop_eq_nil_of_le → zK, take_add_one → zL, map_append → zM, mem_map → zN, mem_append → zO, eq_nil_of_length_eq_zero → zP, getElem?_eq_some_iff → zQ, getElem?_map → zS, length_cons → zT, length_take → zU, filter_append → zV, length_map → zW
open Nat renaming zero_le → zF, le_refl → zR
def cA : Code → Code
 | .seq x _ => x
 | c => c
def cB : Code → Code
 | .seq _ y => y
 | c => c
def cI : Code → Code
 | .block _ c => c
 | .loop c => c
 | c => c
noncomputable def prt : Code := match Tryz.f110.body with
 | some c => c
 | none => .skip
noncomputable def prt3 : Code := cB (cB (cB prt))
noncomputable def bd1 : Code := cI (cI (cB (cA prt3)))
noncomputable def bb1 : Code := cI (cA (cB bd1))
noncomputable def bd2 : Code := cI (cI (cB (cA (cB prt3))))
def ndv (lo : List UInt8) (ks : List Nd) (w : List Note) (p : List Pair) : PV := .ptr (.agg [.str lo,.row (ks.map Nd.pv),.row (w.map Note.pv),.row (p.map Pair.pv)])
def Fl : St → Prop := fun _ => False
theorem pw0 (v : PV) : V .low pG Tryz.f110.ntmps Fl [.code (cA prt),.stop (fun τ => ∃ ρ,Match pG τ ρ [(0,.val v)] [])] (initSt (Zv.ops [v])) := by
 refine V.exec 400 ?_
 simp +contextual (maxSteps:=9^7) only [go_sem,prt,cA,cB,Tryz.f110]
 exact ⟨[],by simp only [go_sem]⟩
theorem pw1 (v : PV) : V .low pG Tryz.f110.ntmps Fl [.code (cA (cB prt)),.stop (fun τ => ∃ ρ,Match pG τ ρ [(0,.val v),(3,.ref 0)] [.row 25 []])] (litSt [(0,.val v)] [] 1) := by
 refine V.exec 400 ?_
 simp +contextual (maxSteps:=9^7) only [go_sem,prt,cA,cB,Tryz.f110]
 exact ⟨[none],by simp only [go_sem]; try decide⟩
theorem pw2 (lo : List UInt8) (ks : List Nd) (w : List Note) (p : List Pair) : V .low pG Tryz.f110.ntmps Fl
  [.code (cA (cB (cB prt))),.stop (fun τ => ∃ ρ,Match pG τ ρ [(0,.val (ndv lo ks w p)),(3,.ref 0),(4,.val (.row (ks.map Nd.pv)))] [.row 25 []])] (litSt [(0,.val (ndv lo ks w p)),(3,.ref 0)] [.row 25 []] 1) := by
 refine V.exec 400 ?_
 simp +contextual (maxSteps:=9^7) only [go_sem,prt,cA,cB,Tryz.f110,ndv]
 exact ⟨[some 0],by simp only [go_sem]; try decide⟩
def pst (lo : List UInt8) (ks : List Nd) (w : List Note) (p : List Pair) (vs : List Value) (rest : List Nd) (many : Nat) : List (Nat × AV) := [(0,.val (ndv lo ks w p)),(3,.ref 0),(4,.val (.row (rest.map Nd.pv))),(5,.val (.int .i64 many))]
def pob (vs : List Value) : List Ob := [.row 25 (vs.map PV.raw)]
theorem pw3 (lo : List UInt8) (ks : List Nd) (w : List Note) (p : List Pair) (hk : ks.length ≤ 100000) : V .low pG Tryz.f110.ntmps Fl
  [.code (cA (cA prt3)),.stop (fun τ => ∃ ρ,Match pG τ ρ (pst lo ks w p [] ks ((ks.length + 3) / 4)) (pob []))] (litSt [(0,.val (ndv lo ks w p)),(3,.ref 0),(4,.val (.row (ks.map Nd.pv)))] [.row 25 []] 1) := by
 have h1 : IntKind.i64.wrap ((ks.length : Int) + 4) = ((ks.length + 4 : Nat) : Int) := by rw [wrap_small3] <;> omega
 have h2 : IntKind.i64.wrap (((ks.length + 4 : Nat) : Int) - 1) = ((ks.length + 3 : Nat) : Int) := by rw [wrap_small3] <;> omega
 have h3 : IntKind.i64.wrap (((ks.length + 3 : Nat) : Int).tdiv 4) = (((ks.length + 3) / 4 : Nat) : Int) := by
  have e : ((ks.length + 3 : Nat) : Int).tdiv 4 = (((ks.length + 3) / 4 : Nat) : Int) := rfl
  rw [e,wrap_small3] <;> omega
 refine V.exec 400 ?_
 simp +contextual (maxSteps:=9^7) only [go_sem,prt3,prt,cA,cB,Tryz.f110,ndv,h1,h2,h3,pst,pob]
 exact ⟨by decide,[some 0],by simp only [go_sem,zB]; try decide⟩
theorem pw4 (lo : List UInt8) (ks : List Nd) (w : List Note) (p : List Pair) (vs : List Value) (rest : List Nd) (m : Nat) : V .low pG Tryz.f110.ntmps Fl
  [.code (cA bd1),.stop (fun τ => ∃ ρ,Match pG τ ρ (pst lo ks w p vs rest (m + 1)) (pob vs))] (litSt (pst lo ks w p vs rest (m + 1)) (pob vs) 1) := by
 have h0 : (0 : Int) < ((m + 1 : Nat) : Int) := by omega
 refine V.exec 400 ?_
 simp +contextual (maxSteps:=9^7) only [go_sem,bd1,cI,prt3,prt,cA,cB,Tryz.f110,ndv,pst,pob,h0]
 exact ⟨[some 0],by simp only [go_sem]; try decide⟩
def p6 (lo : List UInt8) (ks : List Nd) (w : List Note) (p : List Pair) (vs : List Value) (rest : List Nd) (m k : Nat) : List (Nat × AV) := pst lo ks w p vs rest (m + 1) ++ [(6,.val (.int .i64 k))]
theorem pw6 (lo : List UInt8) (ks : List Nd) (w : List Note) (p : List Pair) (vs : List Value) (rest : List Nd) (m : Nat) (hr : rest.length ≤ 100000) (hm : m ≤ 100000) : V .low pG Tryz.f110.ntmps Fl
  [.code (cA bb1),.stop (fun τ => ∃ ρ,Match pG τ ρ (p6 lo ks w p vs rest m ((rest.length + m) / (m + 1))) (pob vs))] (litSt (pst lo ks w p vs rest (m + 1)) (pob vs) 1) := by
 have hw1 : IntKind.i64.wrap ((rest.length : Int) + ((m + 1 : Nat) : Int)) = ((rest.length + (m + 1) : Nat) : Int) := by rw [wrap_small3] <;> omega
 have hw2 : IntKind.i64.wrap (((rest.length + (m + 1) : Nat) : Int) - 1) = ((rest.length + m : Nat) : Int) := by rw [wrap_small3] <;> omega
 have hw3 : IntKind.i64.wrap (((rest.length + m : Nat) : Int).tdiv ((m + 1 : Nat) : Int)) = (((rest.length + m) / (m + 1) : Nat) : Int) := by
  have e : ((rest.length + m : Nat) : Int).tdiv ((m + 1 : Nat) : Int) = (((rest.length + m) / (m + 1) : Nat) : Int) := rfl
  have : (rest.length + m) / (m + 1) ≤ rest.length + m := Nat.div_le_self _ _
  rw [e]
  generalize (rest.length + m) / (m + 1) = c at *
  rw [wrap_small3] <;> omega
 have hp0 : ¬ ((m + 1 : Nat) : Int) = 0 := by omega
 refine V.exec 400 ?_
 simp +contextual (maxSteps:=9^7) only [go_sem,bb1,bd1,cI,prt3,prt,cA,cB,Tryz.f110,ndv,pst,pob,p6,hw1,hw2,hw3,hp0]
 exact ⟨[some 0],by simp only [go_sem]; try decide⟩
def pbx (lo : List UInt8) (g : List Nd) : Ob := .box true [.val (.str lo),.val (.row (g.map Nd.pv)),.val (.row []),.val (.row [])]
theorem pw7 (lo : List UInt8) (ks : List Nd) (w : List Note) (p : List Pair) (vs : List Value) (rest : List Nd) (m k : Nat) (hr : rest ≠ []) (hk : k ≤ rest.length) : V .low pG Tryz.f110.ntmps Fl
  [.code (cA (cB bb1)),.stop (fun τ => ∃ ρ,Match pG τ ρ (p6 lo ks w p vs rest m k ++ [(7,.adr 1 0)]) (pob vs ++ [pbx (headLow rest) (rest.take k)]))] (litSt (p6 lo ks w p vs rest m k) (pob vs) 1) := by
 obtain ⟨x,xs,rfl⟩ : ∃ x xs,rest = x :: xs := by
  cases rest with
  | nil => exact absurd rfl hr
  | cons x xs => exact ⟨x,xs,rfl⟩
 have e := Nd.pv_eq x
 have hk' : (k : Int) ≤ ((x :: xs).length : Int) := by omega
 have hl : (0 : Int) < ((x :: xs).length : Int) := by simp
 have h0 : ((x :: xs).map Nd.pv)[(0 : Int).toNat]? = some x.pv := rfl
 have hlen : ((x :: xs).map Nd.pv).length = (x :: xs).length := by simp
 generalize hR : (x :: xs).map Nd.pv = R at *
 refine V.exec 400 ?_
 simp +contextual (maxSteps:=9^7) only [go_sem,bb1,bd1,cI,prt3,prt,cA,cB,Tryz.f110,ndv,pst,pob,p6,pbx,h0,e,hR,hlen,hk',Int.le_refl]
 exact ⟨by have : (x :: xs).length = xs.length + 1 := rfl; omega,by kernel_rfl,[some 0,some 12],by simp only [go_sem,← hR,List.map_take,headLow]; try decide⟩
def lowOf (lo : List UInt8) (vs : List Value) (rest : List Nd) : List UInt8 := if vs.length = 0 then lo else headLow rest
theorem pwX (lo : List UInt8) (ks : List Nd) (w : List Note) (p : List Pair) (vs : List Value) (rest : List Nd) (m k : Nat) (g : List Nd) : V .low pG Tryz.f110.ntmps Fl
  [.code (cA (cB (cB bb1))),.stop (fun τ => ∃ ρ,Match pG τ ρ (p6 lo ks w p vs rest m k ++ [(7,.adr 1 0)]) (pob vs ++ [pbx (lowOf lo vs rest) g]))] (litSt (p6 lo ks w p vs rest m k ++ [(7,.adr 1 0)]) (pob vs ++ [pbx (headLow rest) g]) 2) := by
 refine V.exec 400 ?_
 by_cases h0 : vs.length = 0
 ·obtain rfl : vs = [] := zP h0
  have h00 : ((0 : Nat) : Int) = 0 := rfl
  simp +contextual (maxSteps:=9^7) only [go_sem,bb1,bd1,cI,prt3,prt,cA,cB,Tryz.f110,ndv,pst,pob,p6,pbx,zB,List.length_nil,h00,lowOf]
  exact ⟨[some 0,some 1],by simp only [go_sem]; try decide⟩
 ·have h0' : ¬ (vs.length : Int) = 0 := by omega
  simp +contextual (maxSteps:=9^7) only [go_sem,bb1,bd1,cI,prt3,prt,cA,cB,Tryz.f110,ndv,pst,pob,p6,pbx,h0',lowOf,h0]
  exact ⟨[some 0,some 1],by simp only [go_sem]; try decide⟩
theorem pw10 (lo : List UInt8) (ks : List Nd) (w : List Note) (p : List Pair) (vs : List Value) (rest : List Nd) (m k : Nat) (g : List Nd) (v : Value) (hk : k ≤ rest.length) (hvs : vs.length ≤ 100000) : V .low pG Tryz.f110.ntmps Fl
  [.code (cB (cB (cB bb1))),.stop (fun τ => ∃ ρ,Match pG τ ρ (pst lo ks w p (vs ++ [v]) (rest.drop k) (m + 1)) (pob (vs ++ [v])))]
  (((litSt (p6 lo ks w p vs rest m k ++ [(7,.adr 1 0)]) (pob vs ++ [pbx (lowOf lo vs rest) g]) 2).setOb 1 .gone).set 7 (.val (.raw v))) := by
 have hk' : (k : Int) ≤ (rest.length : Int) := by omega
 refine V.exec 400 ?_
 simp +contextual (maxSteps:=9^7) only [go_sem,bb1,bd1,cI,prt3,prt,cA,cB,Tryz.f110,ndv,pst,pob,p6,pbx,hk']
 exact ⟨⟨by omega,by omega⟩,by kernel_rfl,[some 5],by simp only [go_sem,List.map_drop,zM,zC,zB]; try decide⟩
theorem pw5 (lo : List UInt8) (ks : List Nd) (w : List Note) (p : List Pair) (vs : List Value) (rest : List Nd) (m : Nat) (hm : m ≤ 100000) : V .low pG Tryz.f110.ntmps Fl
  [.code (cB (cB bd1)),.stop (fun τ => ∃ ρ,Match pG τ ρ (pst lo ks w p vs rest m) (pob vs))] (litSt (pst lo ks w p vs rest (m + 1)) (pob vs) 1) := by
 have hw4 : IntKind.i64.wrap (((m + 1 : Nat) : Int) - 1) = (m : Int) := by rw [wrap_small3] <;> omega
 refine V.exec 400 ?_
 simp +contextual (maxSteps:=9^7) only [go_sem,bb1,bd1,cI,prt3,prt,cA,cB,Tryz.f110,ndv,pst,pob,hw4]
 exact ⟨[some 0],by simp only [go_sem]; try decide⟩
theorem pwE (lo : List UInt8) (ks : List Nd) (w : List Note) (p : List Pair) (vs : List Value) (rest : List Nd) : V .low pG Tryz.f110.ntmps Fl
  [.code bd1,.again Fl,.blk 0,.stop (fun τ => ∃ ρ,Match pG τ ρ [(0,.val (ndv lo ks w p)),(3,.ref 0)] (pob vs))] (litSt (pst lo ks w p vs rest 0) (pob vs) 1) := by
 have h0 : ¬ (0 : Int) < ((0 : Nat) : Int) := by omega
 refine V.exec 400 ?_
 simp +contextual (maxSteps:=9^7) only [go_sem,bb1,bd1,cI,prt3,prt,cA,cB,Tryz.f110,ndv,pst,pob,h0]
 exact ⟨[some 0],by simp only [go_sem]; try decide⟩
def cellsOf (x : List UInt8 × List Nd) (w : List Note) : List PV := [.str x.1,.row (x.2.map Nd.pv),.row (w.map Note.pv),.row []]
theorem cellsOf_agg (x : List UInt8 × List Nd) (w : List Note) : ∀ c ∈ cellsOf x w,c.isAgg = false := by simp [cellsOf,PV.isAgg]
def pairsG (lo : List UInt8) (gs : List (List Nd)) : List (List UInt8 × List Nd) := (partLows lo gs).zip gs
def headG (g : List Nd) : List UInt8 × List Nd := (headLow g,g)
theorem pairsG_cons (lo : List UInt8) (g : List Nd) (r : List (List Nd)) : pairsG lo (g :: r) = (lo,g) :: r.map headG := by
 have : ∀ r : List (List Nd),(r.map headLow).zip r = r.map headG := by
  intro r
  induction r with
  | nil => rfl
  | cons x r ih => rw [zC,List.zip_cons_cons,ih]; rfl
 show (lo,g) :: (r.map headLow).zip r = _
 rw [this]
def remG (lo : List UInt8) (d : Nat) (gs : List (List Nd)) : List (List UInt8 × List Nd) := if d = 0 then pairsG lo gs else gs.map headG
theorem remG_cons (lo : List UInt8) (d : Nat) (g : List Nd) (r : List (List Nd)) : remG lo d (g :: r) = (if d = 0 then lo else headLow g,g) :: remG lo (d + 1) r := by
 unfold remG
 by_cases h : d = 0
 ·rw [if_pos h,if_pos h,pairsG_cons,if_neg (by omega)]
 ·rw [if_neg h,if_neg h,if_neg (by omega)]; rfl
theorem remG_nil (lo : List UInt8) (d : Nat) : remG lo d [] = [] := by unfold remG; split <;> rfl
theorem cut_bound {L m : Nat} (h : m + 1 ≤ L) : 0 < (L + m) / (m + 1) ∧ (L + m) / (m + 1) ≤ L ∧ m ≤ L - (L + m) / (m + 1) := by
 obtain ⟨h1,h2⟩ := gparts_step (p := m + 1) (n := L) (by omega)
 rw [Nat.add_sub_cancel] at h1 h2
 generalize (L + m) / (m + 1) = k at *
 have e : k * (m + 1) = k * m + k := Nat.mul_succ k m
 have hk1 : 0 < k := by
  rcases Nat.eq_zero_or_pos k with h5 | h5
  ·subst h5; omega
  ·exact h5
 have hpp : m ≤ k * m := Nat.le_mul_of_pos_left m hk1
 refine ⟨hk1,?_,?_⟩
 ·rcases Nat.lt_or_ge L k with h5 | h5
  ·rcases Nat.lt_or_ge 1 k with h6 | h6
   ·have : 2 * m ≤ k * m := Nat.mul_le_mul_right m h6
    omega
   ·omega
  ·exact h5
 ·rcases Nat.lt_or_ge 1 k with h6 | h6
  ·have h7 : 2 * m ≤ k * m := Nat.mul_le_mul_right m h6
   omega
  ·have : k = 1 := by omega
   subst this; omega
theorem headLow_take {l : List Nd} {k : Nat} (h : 0 < k) : headLow (l.take k) = headLow l := by
 cases l with
 | nil => simp
 | cons x l =>
  cases k with
  | zero => omega
  | succ k => rfl
def IL (C : Ctx) (lo : List UInt8) (ks : List Nd) (w : List Note) (p : List Pair) (m : Nat) (a : Act) (w1 : World) : Prop :=
 ∃ (C1 : Ctx) (cv : Nat → Value) (bs : List Nat) (done : List (List UInt8 × List Nd)) (rest : List Nd),Lk C C1 ∧ (∀ i,C1.pin i = none) ∧ Rel pG C1 (litSt (pst lo ks w p (bs.map ptrV) rest m) (pob (bs.map ptrV)) 1) a w1 cv ∧ bs.Nodup ∧ bs.length = done.length ∧
  (∀ (i b : Nat) (x : List UInt8 × List Nd),bs[i]? = some b → done[i]? = some x → Hid C C1 b (cellsOf x [])) ∧ done ++ remG lo done.length (gparts m rest) = pairsG lo (groups ks) ∧ m ≤ rest.length ∧ rest.length ≤ 100000 ∧ bs.length + m ≤ 100000
theorem eq_bd1 : bd1 = .seq (cA bd1) (cB bd1) := rfl
theorem eq_bd1b : cB bd1 = .seq (.block 1 bb1) (cB (cB bd1)) := rfl
theorem eq_bb1 : bb1 = .seq (cA bb1) (cB bb1) := rfl
theorem eq_bb1b : cB bb1 = .seq (cA (cB bb1)) (cB (cB bb1)) := rfl
theorem eq_bb1c : cB (cB bb1) = .seq (cA (cB (cB bb1))) (cB (cB (cB bb1))) := rfl
theorem loop1_step {C : Ctx} (hn : C.n = Tryz.f110.ntmps) {lo : List UInt8} {ks : List Nd} {w : List Note} {p : List Pair} {m : Nat} {a : Act} {w1 : World} (hI : IL C lo ks w p (m + 1) a w1) (b : Frame) (cs : List Frame) (hb : b.roundOf = none) (mm : List Item) :
  ∃ a' w',IL C lo ks w p m a' w' ∧ Steps pG (lone (b.atR a (.code bd1 :: .inLoop bd1 :: .inBlock 0 :: mm)) cs w1) (lone (b.atR a' (.code bd1 :: .inLoop bd1 :: .inBlock 0 :: mm)) cs w') := by
 obtain ⟨C1,cv,bs,done,rest,k1,hpin,h,hnd,hlen,hhid,hall,hm,hr,hbl⟩ := hI
 have hn1 : C1.n = Tryz.f110.ntmps := k1.n.trans hn
 have hL := k1.lvl
 obtain ⟨c1,c2,c3⟩ := cut_bound hm
 have hne : rest ≠ [] := fun e => by rw [e] at hm; simp at hm
 have hg : gparts (m + 1) rest = rest.take ((rest.length + m) / (m + 1)) :: gparts m (rest.drop ((rest.length + m) / (m + 1))) := rfl
 generalize hk : (rest.length + m) / (m + 1) = k at *
 obtain ⟨a1,x1,v1,r1,s1⟩ := V.segSeq (md := .low) (d := cB bd1) 1 hL hpin (by rw [hn1]; exact pw4 lo ks w p (bs.map ptrV) rest m) h b cs hb (.inLoop bd1 :: .inBlock 0 :: mm)
 obtain ⟨a2,x2,v2,r2,s2⟩ := V.segSeq (md := .low) (d := cB bb1) 1 hL hpin (by rw [hn1]; exact pw6 lo ks w p (bs.map ptrV) rest m hr (by omega)) r1 b cs hb (.inBlock 1 :: .code (cB (cB bd1)) :: .inLoop bd1 :: .inBlock 0 :: mm)
 rw [hk] at r2
 obtain ⟨a3,x3,v3,r3,s3⟩ := V.segSeq (md := .low) (d := cB (cB bb1)) 2 hL hpin (by rw [hn1]; exact pw7 lo ks w p (bs.map ptrV) rest m k hne c2) r2 b cs hb (.inBlock 1 :: .code (cB (cB bd1)) :: .inLoop bd1 :: .inBlock 0 :: mm)
 obtain ⟨a4,x4,v4,r4,s4⟩ := V.segSeq (md := .low) (d := cB (cB (cB bb1))) 2 hL hpin (by rw [hn1]; exact pwX lo ks w p (bs.map ptrV) rest m k (rest.take k)) r3 b cs hb (.inBlock 1 :: .code (cB (cB bd1)) :: .inLoop bd1 :: .inBlock 0 :: mm)
 obtain ⟨nb,C2,k2,n2,pin2,r5,hh,hold⟩ := r4.hide k1 (id := 1) (t := 7) (ag := true) (ps := cellsOf (lowOf lo (bs.map ptrV) rest,rest.take k) []) rfl rfl
 obtain ⟨a6,x6,v6,r6,s6⟩ := V.segM (md := .low) 1 k2.lvl pin2 (by rw [n2,hn1]; exact pw10 lo ks w p (bs.map ptrV) rest m k (rest.take k) (ptrV nb) c2 (by rw [zW]; omega)) r5 b cs hb (.inBlock 1 :: .code (cB (cB bd1)) :: .inLoop bd1 :: .inBlock 0 :: mm)
 obtain ⟨a7,x7,v7,r7,s7⟩ := V.segM (md := .low) 1 k2.lvl pin2 (by rw [n2,hn1]; exact pw5 lo ks w p (bs.map ptrV ++ [ptrV nb]) (rest.drop k) m (by omega)) r6 b cs hb (.inLoop bd1 :: .inBlock 0 :: mm)
 have hmap : bs.map ptrV ++ [ptrV nb] = (bs ++ [nb]).map ptrV := by simp
 rw [hmap] at r7
 have hlow : lowOf lo (bs.map ptrV) rest = if done.length = 0 then lo else headLow (rest.take k) := by
  unfold lowOf
  rw [zW,hlen,headLow_take c1]
 refine ⟨a7,x7,⟨C2,v7,bs ++ [nb],done ++ [(lowOf lo (bs.map ptrV) rest,rest.take k)],rest.drop k,k2,pin2,r7,?_,by simp [hlen],fun i b' x hb' hx => ?_,?_,by rw [List.length_drop]; exact c3,by rw [List.length_drop]; omega,by rw [zJ,List.length_singleton]; omega⟩,?_⟩
 ·rw [List.nodup_append]
  refine ⟨hnd,by simp,fun b' hb' b2 hb2 => ?_⟩
  simp only [List.mem_singleton] at hb2
  obtain ⟨i,hi,rfl⟩ := List.mem_iff_getElem.1 hb'
  rw [hb2]
  exact (hold _ _ (hhid i _ _ (zA hi) (zA (by omega)))).2
 ·by_cases hi : i < bs.length
  ·rw [List.getElem?_append_left hi] at hb'
   rw [List.getElem?_append_left (by omega)] at hx
   exact (hold _ _ (hhid i b' x hb' hx)).1
  ·rw [List.getElem?_append_right (by omega)] at hb'
   rw [List.getElem?_append_right (by omega)] at hx
   have h0 : i - bs.length = 0 := by
    have := (zQ.1 hb').1
    simp at this; omega
   rw [h0] at hb'
   rw [← hlen,h0] at hx
   simp at hb' hx
   subst hb' hx
   exact hh
 ·rw [← hall,hg,remG_cons,hlow,zJ,List.length_singleton,List.append_assoc]; rfl
 ·refine .trans (by rw [← eq_bd1] at s1; exact s1) ?_
  rw [eq_bd1b]
  refine .head stepR_seq (.head stepR_block ?_)
  refine .trans (by rw [← eq_bb1] at s2; exact s2) ?_
  refine .trans (by rw [← eq_bb1b] at s3; exact s3) ?_
  refine .trans (by rw [← eq_bb1c] at s4; exact s4) ?_
  refine .trans s6 (.head stepR_inBlock ?_)
  exact .trans s7 (.one stepR_inLoop)
theorem loop1 {C : Ctx} (hn : C.n = Tryz.f110.ntmps) {lo : List UInt8} {ks : List Nd} {w : List Note} {p : List Pair} : ∀ (m : Nat) (a : Act) (w1 : World),IL C lo ks w p m a w1 → ∀ (b : Frame) (cs : List Frame),b.roundOf = none → ∀ (mm : List Item),
  ∃ a' w',(∃ (C1 : Ctx) (cv : Nat → Value) (bs : List Nat),Lk C C1 ∧ (∀ i,C1.pin i = none) ∧ Rel pG C1 (litSt [(0,.val (ndv lo ks w p)),(3,.ref 0)] (pob (bs.map ptrV)) 1) a' w' cv ∧ bs.Nodup ∧ bs.length = (pairsG lo (groups ks)).length ∧ (∀ (i b : Nat) (x : List UInt8 × List Nd),bs[i]? = some b → (pairsG lo (groups ks))[i]? = some x → Hid C C1 b (cellsOf x []))) ∧
   Steps pG (lone (b.atR a (.code bd1 :: .inLoop bd1 :: .inBlock 0 :: mm)) cs w1) (lone (b.atR a' mm) cs w')
 | 0,a,w1,hI,b,cs,hb,mm => by
  obtain ⟨C1,cv,bs,done,rest,k1,hpin,h,hnd,hlen,hhid,hall,hm,hr,hbl⟩ := hI
  have hn1 : C1.n = Tryz.f110.ntmps := k1.n.trans hn
  obtain ⟨τ,a',w',cv',r1,hs⟩ := V.segW (md := .low) k1.lvl (fun _ => hpin) (by rw [hn1]; exact pwE lo ks w p (bs.map ptrV) rest) h b cs (fun _ => hb) mm
  rcases hs with ⟨hf,_⟩ | ⟨⟨ρ,hM⟩,hs⟩
  ·exact hf.elim
  ·obtain ⟨cv2,r2⟩ := r1.rename hM 1 (fun i v hv => by rw [hpin i] at hv; cases hv)
   have hd : done = pairsG lo (groups ks) := by
    rw [← hall]; show done = done ++ remG lo done.length []
    rw [remG_nil,List.append_nil]
   exact ⟨a',w',⟨C1,cv2,bs,k1,hpin,r2,hnd,by rw [hlen,hd],by rw [← hd]; exact hhid⟩,hs⟩
 | m + 1,a,w1,hI,b,cs,hb,mm => by
  obtain ⟨a1,w2,hI1,s1⟩ := loop1_step hn hI b cs hb mm
  obtain ⟨a2,w3,h2,s2⟩ := loop1 hn m a1 w2 hI1 b cs hb mm
  exact ⟨a2,w3,h2,s1.trans s2⟩
def fixM (K : Ctx → Prop) : Md := ⟨K,false,true⟩
set_option maxHeartbeats 4000000 in
theorem pw11 (K : Ctx → Prop) (lo : List UInt8) (ks : List Nd) (w : List Note) (p : List Pair) (outs : List Nd) (ho : outs.length ≤ 100000) (hw : w.length ≤ 100000) : V (fixM K) pG Tryz.f110.ntmps Fl
  [.code (cA (cA (cB prt3))),.stop (fun σ' => σ'.sl 3 = .ref 0 ∧ ∃ q,q ≠ 0 ∧ σ'.sl 68 = .ref q ∧ σ'.ob q = .row 36 ((splitR w (outs.map Nd.low)).map rowN) ∧ σ'.sl 69 = .val (.int .i64 (splitR w (outs.map Nd.low)).length) ∧ σ'.sl 70 = .val (.int .i64 0))]
  (litSt [(0,.val (ndv lo ks w p)),(3,.ref 0)] [.prow (outs.map Nd.pv)] 10) := by
 have c1 := tree_lows outs (by omega)
 have c2 := pend_SplitO w (outs.map Nd.low) (by omega) (by rw [zW]; omega)
 generalize splitR w (outs.map Nd.low) = S at *
 refine V.exec 400 ?_
 simp +contextual (maxSteps:=9^7) only [go_sem,prt3,prt,cA,cB,Tryz.f110,ndv]
 refine DV.call [0] [15] (by simp only [go_sem]) (by simp [dOK]) ⟨150,[],by simp only [go_sem],⟨_,rfl,rfl,rfl⟩,.inl ⟨[.row (outs.map Nd.pv)],_,.inl (by simp only [go_sem]),c1,.inr (.inr ⟨9,((outs.map Nd.low).map PV.str)   ,rfl,by simp only [go_sem],rfl,rfl⟩)⟩⟩ (by simp only [go_sem]) (by simp only [go_sem]) (by simp only [go_sem]) (by simp) ?_
 refine DV.exec 400 ?_
 simp +contextual (maxSteps:=9^7) only [go_sem]
 refine DV.call [15] [15,16] (by simp only [go_sem]) (by simp [dOK]) ⟨149,[],by simp only [go_sem],⟨_,rfl,rfl,rfl⟩,.inl ⟨[.row (w.map Note.pv),.row ((outs.map Nd.low).map PV.str)],_,.inl (by simp only [go_sem]),c2,.inr (.inr ⟨36,(S.map rowN)   ,rfl,by simp only [go_sem],rfl,rfl⟩)⟩⟩ (by simp only [go_sem]) (by simp only [go_sem]) (by simp only [go_sem]) (by simp) ?_
 refine DV.exec 400 ?_
 simp +contextual (maxSteps:=9^7) only [go_sem]
 exact ⟨by kernel_rfl,16,by decide,rfl,rfl⟩
def l2s (vs : List Value) (L i : Nat) : List (Nat × AV) := [(3,.val (.row (vs.map PV.raw))),(68,.ref 1),(69,.val (.int .i64 L)),(70,.val (.int .i64 i))]
def bxw (x : List UInt8 × List Nd) (w : List Note) : Ob := .box true ((cellsOf x w).map AV.val)
set_option maxHeartbeats 4000000 in
theorem qw2 (K : Ctx → Prop) (b : Nat) (hK : ∀ C,K C → C.pin 0 = some (ptrV b)) (vs : List Value) (S : List (List Note)) (i : Nat) (s : List Note) (x : List UInt8 × List Nd) (hv : vs[i]? = some (ptrV b)) (hs : S[i]? = some s) (hl : S.length ≤ 100000) :
  V (fixM K) pG Tryz.f110.ntmps Fl
  [.code bd2,.again (fun σ' => σ'.sl 3 = .val (.row (vs.map PV.raw)) ∧ σ'.sl 68 = .ref 1 ∧ σ'.sl 69 = .val (.int .i64 S.length) ∧ σ'.sl 70 = .val (.int .i64 (i + 1 : Nat)) ∧ σ'.ob 0 = bxw x s ∧ σ'.ob 1 = .row 36 (S.map rowN)),.blk 2,.stop Fl]
  (litSt (l2s vs S.length i) [bxw x [],.row 36 (S.map rowN)] 2) := by
 have hi : i < S.length := (zQ.1 hs).1
 have hvl : i < vs.length := (zQ.1 hv).1
 have hi' : (i : Int) < (S.length : Int) := by omega
 have hvl' : (i : Int) < (vs.length : Int) := by omega
 have hw : IntKind.i64.wrap ((i : Int) + 1) = ((i + 1 : Nat) : Int) := by rw [wrap_small3] <;> omega
 refine V.execS [14] 400 ?_
 simp +contextual (maxSteps:=9^7) only [go_sem,bd2,cI,prt3,prt,cA,cB,Tryz.f110,l2s,bxw,cellsOf,hi',hs,rowN,zB]
 refine V.exec 16 ?_
 simp +contextual (maxSteps:=9^7) only [go_sem,hvl',hv]
 change V _ _ _ _ _ _
 refine V.sop _ (SemOp.nilRaw (id := 0) (b := b) hK rfl rfl (by simp only [go_sem]; rfl) (by simp [dOK])) ?_
 rintro _ rfl
 refine V.exec 400 ?_
 simp +contextual (maxSteps:=9^7) only [go_sem,hw]
theorem qw2E (vs : List Value) (S : List (List Note)) : V .low pG Tryz.f110.ntmps Fl
  [.code bd2,.again Fl,.blk 2,.stop (fun τ => ∃ ρ,Match pG τ ρ [(3,.val (.row (vs.map PV.raw)))] [])] (litSt (l2s vs S.length S.length) [.gone,.row 36 (S.map rowN)] 2) := by
 have hi' : ¬ (S.length : Int) < (S.length : Int) := by omega
 refine V.exec 400 ?_
 simp +contextual (maxSteps:=9^7) only [go_sem,bd2,cI,prt3,prt,cA,cB,Tryz.f110,l2s,hi']
 exact ⟨[],by simp only [go_sem]; try decide⟩
theorem cell_in {w : World} {ad : Addr} {u : Value} {arr : List Value} {ty : TypeId} (h : w.heap[ad.block]? = some (.cells ⟨arr⟩ ty (0,0))) (hc : w.cell? ad = some u) : u ∈ arr := by
 unfold World.cell? at hc
 rw [h] at hc
 simp only at hc
 split at hc
 ·cases hc
 ·exact zE (by simpa using hc)
theorem notes_strip {w : World} {F X : Nat → Prop} (hX : ∀ b,X b → ∃ (arr : List Value) (ty : TypeId),w.heap[b]? = some (.cells ⟨arr⟩ ty (0,0)) ∧ ∀ v ∈ arr,∀ k n,v ≠ .int k n) {l : List Note} {v : Value} (h : Rep w F (rowN l) v) : Rep w (fun b => F b ∧ ¬ X b) (rowN l) v := by
 unfold rowN at h ⊢
 have hflat : ∀ c ∈ flat (l.map Note.pv),c.isFlat = true := fun c hc => by
  simp only [Zv.flat,List.mem_flatMap,zN] at hc
  obtain ⟨y,⟨x,_,rfl⟩,hc⟩ := hc
  simp only [Note.pv,PV.cells,zI,List.not_mem_nil,or_false] at hc
  rcases hc with rfl | rfl | rfl | rfl <;> rfl
 have hfirst : l.map Note.pv = [] ∨ ∃ (x : Note) (r : List PV),flat (l.map Note.pv) = .int .i64 x.kind :: r := by
  cases l with
  | nil => exact .inl rfl
  | cons x r => exact .inr ⟨x,_,rfl⟩
 generalize l.map Note.pv = R at *
 cases h with
 | rowNil => exact .rowNil
 | row _ ad c sz cvs hc hsz hF hl hcell ha hh =>
  refine .row R ad c sz cvs hc hsz ?_ hl hcell ha (fun i p u hp hu => (hh i p u hp hu).flat (hflat p (zE hp)))
  rcases hfirst with h0 | ⟨x,r,h0⟩
  ·left; rw [h0]; rfl
  ·right
   refine ⟨hF.resolve_left (by rw [h0]; simp),fun hx => ?_⟩
   obtain ⟨arr,ty,h1,h2⟩ := hX _ hx
   have h3 : 0 < cvs.length := by rw [hl,h0]; simp
   have h4 := hh 0 _ cvs[0] (by rw [h0]; rfl) (zA h3)
   have h5 := hcell 0 cvs[0] (zA h3)
   rw [add_zero'] at h5
   have h6 := cell_in h1 h5
   generalize cvs[0] = u at *
   cases h4
   exact h2 _ h6 _ _ rfl
theorem cells_noint {w : World} {F : Nat → Prop} {x : List UInt8 × List Nd} {ws : List Note} {arr : List Value} (h : Reps w F (cellsOf x ws) arr) : ∀ v ∈ arr,∀ k n,v ≠ .int k n := by
 intro v hv k n e
 subst e
 obtain ⟨i,hi,e⟩ := List.mem_iff_getElem.1 hv
 have hl : arr.length = 4 := h.1
 have h2 := fun p hp => h.2 i p _ hp (by rw [zA hi,e])
 match i,hi with
 | 0,_ => have := h2 _ rfl; cases this
 | 1,_ =>
  have := h2 (.row (x.2.map Nd.pv)) rfl
  generalize x.2.map Nd.pv = R at this
  cases this
 | 2,_ =>
  have := h2 (.row (ws.map Note.pv)) rfl
  generalize ws.map Note.pv = R at this
  cases this
 | 3,_ => have := h2 _ rfl; cases this
 | i + 4,hi => omega
theorem lit_slots {w : World} {F : Nat → Prop} {cv : Nat → Value} {tmps : Array Value} {ls : List (Nat × AV)} {os : List Ob} {ck : Nat} (h : ∀ y ∈ ls,SRep w F cv y.2 (tmps.getD y.1 undef)) : ∀ t,SRep w F cv ((litSt ls os ck).sl t) (tmps.getD t undef) := by
 intro t
 induction ls with
 | nil => trivial
 | cons y ls ih =>
  rw [lit_sl_cons]
  split
  ·rename_i e
   rw [e]; exact h y zG
  ·exact ih fun z hz => h z (zH _ hz)
def Hids (C C1 : Ctx) (bs : List Nat) (xs : List (List UInt8 × List Nd)) (wt : Nat → List Note) : Prop := ∀ (i b : Nat) (x : List UInt8 × List Nd),bs[i]? = some b → xs[i]? = some x → Hid C C1 b (cellsOf x (wt i))
def outN (x : List UInt8 × List Nd) (w : List Note) : Nd := .mk x.1 x.2 w []
theorem outN_pv (x : List UInt8 × List Nd) (w : List Note) : (outN x w).pv = .ptr (.agg (cellsOf x w)) := by rw [Nd.pv_eq]; rfl
def IM (C : Ctx) (bs : List Nat) (xs : List (List UInt8 × List Nd)) (S : List (List Note)) (i : Nat) (a : Act) (w1 : World) : Prop :=
 ∃ (C1 : Ctx) (cv : Nat → Value),Lk C C1 ∧ (∀ i,C1.pin i = none) ∧ Rel pG C1 (litSt (l2s (bs.map ptrV) S.length i) [.gone,.row 36 (S.map rowN)] 2) a w1 cv ∧ Hids C C1 bs xs (fun j => if j < i then S.getD j [] else [])
theorem loop2_step {C : Ctx} (hn : C.n = Tryz.f110.ntmps) {bs : List Nat} {xs : List (List UInt8 × List Nd)} {S : List (List Note)} {i : Nat} {a : Act} {w1 : World} (hnd : bs.Nodup) (hbx : bs.length = xs.length) (hSb : S.length ≤ bs.length) (hSl : S.length ≤ 100000) (hi : i < S.length)
  (hI : IM C bs xs S i a w1) (bf : Frame) (cs : List Frame) (hb : bf.roundOf = none) (mm : List Item) :
  ∃ a' w',IM C bs xs S (i + 1) a' w' ∧ Steps pG (lone (bf.atR a (.code bd2 :: .inLoop bd2 :: .inBlock 2 :: mm)) cs w1) (lone (bf.atR a' (.code bd2 :: .inLoop bd2 :: .inBlock 2 :: mm)) cs w') := by
 obtain ⟨C1,cv,k1,hpin,h,hh⟩ := hI
 have hn1 : C1.n = Tryz.f110.ntmps := k1.n.trans hn
 obtain ⟨b,hbi⟩ : ∃ b,bs[i]? = some b := ⟨_,zA (by omega)⟩
 obtain ⟨x,hxi⟩ : ∃ x,xs[i]? = some x := ⟨_,zA (by omega)⟩
 obtain ⟨s,hsi⟩ : ∃ s,S[i]? = some s := ⟨_,zA hi⟩
 have hhb := hh i b x hbi hxi
 simp only [Nat.lt_irrefl,if_false] at hhb
 obtain ⟨o1,o2,o3,arr,ty,o4,o5⟩ := hhb.off h
 let σ5 : St := litSt (l2s (bs.map ptrV) S.length i) [bxw x [],.row 36 (S.map rowN)] 2
 let cv5 : Nat → Value := fun k => if k = 0 then ptrV b else cv k
 have hob5 : ∀ k,k ≠ 0 → σ5.ob k = (litSt (l2s (bs.map ptrV) S.length i) [.gone,.row 36 (S.map rowN)] 2).ob k := fun k hk => by
  cases k with
  | zero => exact absurd rfl hk
  | succ k => rfl
 have hlv5 : ∀ k b',Live σ5.ob cv5 k b' → (k = 0 ∧ b' = b) ∨ (k ≠ 0 ∧ Live (litSt (l2s (bs.map ptrV) S.length i) [.gone,.row 36 (S.map rowN)] 2).ob cv k b') := by
  intro k b' ⟨g1,g2⟩
  by_cases hk : k = 0
  ·subst hk
   have g2 : some b = some b' := g2
   cases g2
   exact .inl ⟨rfl,rfl⟩
  ·refine .inr ⟨hk,?_,?_⟩
   ·rw [← hob5 k hk]; exact g1
   ·have e : cv5 k = cv k := if_neg hk
    rw [← e]; exact g2
 have hsl5 : ∀ t,(σ5.sl t) = (litSt (l2s (bs.map ptrV) S.length i) [.gone,.row 36 (S.map rowN)] 2).sl t := fun t => rfl
 obtain ⟨C5,hC5,r5⟩ : ∃ C5 : Ctx,C5 = ⟨w1,FS C1 (litSt (l2s (bs.map ptrV) S.length i) [.gone,.row 36 (S.map rowN)] 2).ob cv w1,fun b' => ∃ i,Live σ5.ob cv5 i b',C1.n,fun k => if k = 0 then some (ptrV b) else none,0⟩ ∧ Rel pG C5 σ5 a w1 cv5 := ⟨_,rfl,h.rebase (k1.defers h) (σ1 := σ5) (cv1 := cv5) (F := FS C1 (litSt (l2s (bs.map ptrV) S.length i) [.gone,.row 36 (S.map rowN)] 2).ob cv w1) (pin := fun k => if k = 0 then some (ptrV b) else none)
  (fun b' hf => ⟨h.fs_lt hf,fun k hl => by
   rcases hlv5 k b' hl with ⟨rfl,rfl⟩ | ⟨hk,hl⟩
   ·exact o1 hf
   ·exact h.fs_live hf hl⟩)
  (fun k b' hl => by
   rcases hlv5 k b' hl with ⟨rfl,rfl⟩ | ⟨hk,hl⟩
   ·exact o3
   ·exact (h.live k b' hl).2)
  (fun k j b' hk hj => by
   rcases hlv5 k b' hk with ⟨e1,e2⟩ | ⟨hk0,hk1⟩
   ·rcases hlv5 j b' hj with ⟨e3,_⟩ | ⟨hj0,hj1⟩
    ·rw [e1,e3]
    ·rw [e2] at hj1; exact absurd hj1 (o2 j)
   ·rcases hlv5 j b' hj with ⟨e3,e4⟩ | ⟨hj0,hj1⟩
    ·rw [e4] at hk1; exact absurd hk1 (o2 k)
    ·exact h.inj k j b' hk1 hj1)
  (fun k => by
   by_cases hk : k = 0
   ·subst hk
    refine ⟨b,ty,arr,rfl,o4,by rw [o5.1,zW],fun c hc => ?_,fun j c v hc hv => ?_⟩
    ·obtain ⟨p,hp,rfl⟩ := zN.1 hc
     have := cellsOf_agg x [] p hp
     simp [AV.cell,this]
    ·rw [zS] at hc
     cases hp : (cellsOf x [])[j]? with
     | none => rw [hp] at hc; cases hc
     | some p =>
      rw [hp] at hc
      cases hc
      have := o5.2 j p v hp hv
      exact ⟨this.mono (fun _ _ => rfl : Same C1.F0 w1 w1) (fun _ hb => .inl hb),this.oneCell (cellsOf_agg x [] p (zE hp))⟩
   ·rw [hob5 k hk]
    have e : cv5 k = cv k := if_neg hk
    exact (h.obs k).mono (fun _ _ => rfl : Same (FS C1 _ cv w1) w1 w1) (fun _ hb => hb) e (fun j hj => by
     cases k with
     | zero => exact absurd rfl hk
     | succ k => cases k with
      | zero => exact hj.elim
      | succ k => exact hj.elim) (fun _ _ _ => rfl))
  (fun t => by
   rw [hsl5]
   refine (h.slots t).mono (fun _ _ => rfl : Same (FS C1 _ cv w1) w1 w1) (fun _ hb => hb) (fun j hj => ?_)
   obtain ⟨y,hy,hm⟩ := lit_ment hj
   simp only [l2s,zI,List.not_mem_nil,or_false] at hy
   rcases hy with rfl | rfl | rfl | rfl
   ·exact hm.elim
   ·have hm : 1 = j := hm
    subst hm; rfl
   ·exact hm.elim
   ·exact hm.elim)
  (fun t j hj => by
   rw [hsl5] at hj
   by_cases hj0 : j = 0
   ·subst hj0; simp [σ5,litSt,bxw]
   ·rw [hob5 j hj0]; exact h.ments t j hj)
  (fun k j hj => by
   cases k with
   | zero =>
    obtain ⟨c,hc,hcj⟩ := hj
    obtain ⟨p,hp,rfl⟩ := zN.1 hc
    exact hcj.elim
   | succ k => cases k with
    | zero => exact hj.elim
    | succ k => exact hj.elim)
  (fun k v hv => by
   split at hv
   ·rename_i hk
    cases hv
    subst hk
    exact ⟨by simp [σ5,litSt,bxw],rfl⟩
   ·cases hv)⟩
 have k5 : Lk C C5 := by
  subst hC5
  exact ⟨rfl,k1.n,k1.anc' h,fun b' hf => k1.fs hf,fun b' ⟨k,hl⟩ => by
   rcases hlv5 k b' hl with ⟨e1,e2⟩ | ⟨hk0,hk1⟩
   ·rw [e2]; exact hhb.new
   ·exact k1.live h hk1⟩
 have hpin5 : C5.pin 0 = some (ptrV b) := by subst hC5; rfl
 have hn5 : C5.n = Tryz.f110.ntmps := by subst hC5; exact hn1
 have hold : ∀ (j b' : Nat) (y : List UInt8 × List Nd),j ≠ i → bs[j]? = some b' → xs[j]? = some y → Hid C C5 b' (cellsOf y (if j < i then S.getD j [] else [])) := fun j b' y hji hbj hyj => by
  have h1 := hh j b' y hbj hyj
  obtain ⟨g1,g2,_⟩ := h1.off h
  subst hC5
  refine h1.next h (fun _ hb => .inl hb) g1 (fun ⟨k,hl⟩ => ?_)
  rcases hlv5 k b' hl with ⟨e1,e2⟩ | ⟨hk0,hk1⟩
  ·subst e2
   exact hji ((List.getElem?_inj (zQ.1 hbj).1 hnd).1 (hbj.trans hbi.symm))
  ·exact g2 k hk1
 obtain ⟨τ,a',w',cv',r6,hs⟩ := V.segW (md := fixM (fun C => C.lvl = 0 ∧ C.pin 0 = some (ptrV b))) ⟨k5.lvl,hpin5⟩ (fun h => by cases h)
  (by rw [hn5]; exact qw2 (fun C => C.lvl = 0 ∧ C.pin 0 = some (ptrV b)) b (fun C h => h.2) (bs.map ptrV) S i s x (by rw [zS,hbi]; rfl) hsi hSl) r5 bf cs (fun h => by cases h) mm
 rcases hs with ⟨⟨t3,t68,t69,t70,b0,b1⟩,hs⟩ | ⟨hf,_⟩
 case inr => exact hf.elim
 let σ6 : St := litSt (l2s (bs.map ptrV) S.length (i + 1)) [.gone,.row 36 (S.map rowN)] 2
 have hlv6 : ∀ k b',Live σ6.ob cv' k b' → k = 1 ∧ Live τ.ob cv' 1 b' := by
  intro k b' ⟨g1,g2⟩
  match k,g1,g2 with
  | 0,g1,_ => cases g1
  | 1,g1,g2 => exact ⟨rfl,by rw [b1]; rfl,g2⟩
  | k + 2,g1,_ => cases g1
 have hcv0 : cv' 0 = ptrV b := (r6.pin 0 _ hpin5).2
 have hl0 : Live τ.ob cv' 0 b := ⟨by rw [b0]; rfl,by rw [hcv0]; rfl⟩
 obtain ⟨C6,hC6,r7⟩ : ∃ C6 : Ctx,C6 = ⟨w',FS C5 τ.ob cv' w',fun b' => ∃ i,Live σ6.ob cv' i b',C5.n,fun _ => none,0⟩ ∧ Rel pG C6 σ6 a' w' cv' := ⟨_,rfl,r6.rebase (k5.defers r6) (σ1 := σ6) (cv1 := cv') (F := FS C5 τ.ob cv' w') (pin := fun _ => none)
  (fun b' hf => ⟨r6.fs_lt hf,fun k hl => r6.fs_live hf (hlv6 k b' hl).2⟩) (fun k b' hl => (r6.live 1 b' (hlv6 k b' hl).2).2) (fun k j b' hk hj => (hlv6 k b' hk).1.trans (hlv6 j b' hj).1.symm)
  (fun k => by
   match k with
   | 0 => trivial
   | 1 =>
    have := r6.obs 1
    rw [b1] at this
    exact this
   | k + 2 => trivial)
  (lit_slots fun y hy => by
   simp only [l2s,zI,List.not_mem_nil,or_false] at hy
   rcases hy with rfl | rfl | rfl | rfl
   ·have := r6.slots 3; rw [t3] at this; exact this
   ·have := r6.slots 68; rw [t68] at this; exact this
   ·have := r6.slots 69; rw [t69] at this; exact this
   ·have := r6.slots 70; rw [t70] at this; exact this)
  (fun t j hj => by
   obtain ⟨y,hy,hm⟩ := lit_ment hj
   simp only [l2s,zI,List.not_mem_nil,or_false] at hy
   rcases hy with rfl | rfl | rfl | rfl
   ·exact hm.elim
   ·have hm : 1 = j := hm
    subst hm; simp [σ6,litSt]
   ·exact hm.elim
   ·exact hm.elim)
  (fun k j hj => by
   match k,hj with
   | 0,hj => exact hj.elim
   | 1,hj => exact hj.elim
   | k + 2,hj => exact hj.elim)
  (fun k v hv => by cases hv)⟩
 have k6 : Lk C C6 := by
  subst hC6
  exact ⟨rfl,k5.n,k5.anc' r6,fun b' hf => k5.fs hf,fun b' ⟨k,hl⟩ => k5.live r6 (hlv6 k b' hl).2⟩
 refine ⟨a',w',⟨C6,cv',k6,fun _ => by subst hC6; rfl,r7,fun j b' y hbj hyj => ?_⟩,hs.trans (.one stepR_inLoop)⟩
 by_cases hji : j = i
 ·subst hji
  rw [hbi] at hbj
  rw [hxi] at hyj
  cases hbj
  cases hyj
  have hw : (if j < j + 1 then S.getD j [] else []) = s := by rw [if_pos (by omega),List.getD_eq_getElem?_getD,hsi]; rfl
  simp only []
  rw [hw]
  have ho := r6.obs 0
  rw [b0] at ho
  obtain ⟨b2,ty2,arr2,q1,q2,q3,q4,q5⟩ := ho
  rw [hcv0] at q1
  have q1 : some (⟨b,0,none⟩ : Addr) = some ⟨b2,0,none⟩ := by injection q1
  have q1 : b = b2 := by injection q1 with q1; injection q1
  subst q1
  subst hC6
  refine ⟨hhb.new,(r6.live 0 b hl0).2,fun hf => r6.fs_live hf hl0,fun ⟨k,hl⟩ => ?_,arr2,ty2,q2,by rw [q3,zW],fun i' p v hp hv => ?_⟩
  ·have := r6.inj 0 1 b hl0 (hlv6 k b hl).2
   cases this
  ·exact (q5 i' (.val p) v (by rw [zS,hp]; rfl) hv).1
 ·have h1 := hold j b' y hji hbj hyj
  have hw : (if j < i + 1 then S.getD j [] else []) = (if j < i then S.getD j [] else []) := by
   by_cases hlt : j < i
   ·rw [if_pos hlt,if_pos (by omega)]
   ·rw [if_neg hlt,if_neg (by omega)]
  simp only []
  rw [hw]
  obtain ⟨g1,g2,_⟩ := h1.off r6
  subst hC6
  exact h1.next r6 (fun _ hb => .inl hb) g1 (fun ⟨k,hl⟩ => g2 1 (hlv6 k b' hl).2)
end Go.Proofs.YtfemlllmglaimaaGreat
