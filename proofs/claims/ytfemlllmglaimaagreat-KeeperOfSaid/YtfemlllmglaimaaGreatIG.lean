/- A part of a proof: functions of the program, walked. -/
import Derived.Test.YtfemlllmglaimaaGreatIF
set_option linter.unusedVariables false
set_option linter.unusedSimpArgs false
set_option maxRecDepth 8000
namespace Go.Proofs.YtfemlllmglaimaaGreat
open Go Go.Proofs Go.Proofs.Zv Go.Proofs.YtfemlllmglaimaaGreat.Ty
open Go.Proofs.Tryz renaming prog → pG
open List renaming getElem?_eq_getElem → zA, map_nil → zB, map_cons → zC, take_of_length_le → zD, mem_of_getElem? → zE, mem_cons_self → zG, mem_cons_of_mem → zH, mem_cons → zI, length_append → zJ, drop_eq_nil_of_le → zK, take_add_one → zL, map_append → zM, mem_map → zN, mem_append → zO, eq_nil_of_length_eq_zero → zP, getElem?_eq_some_iff → zQ, getElem?_map → zS, length_cons → zT, length_take → zU, filter_append → zV, length_map → zW
open Nat renaming zero_le → zF, le_refl → zR
theorem loop2 {C : Ctx} (hn : C.n = Tryz.f110.ntmps) {bs : List Nat} {xs : List (List UInt8 × List Nd)} {S : List (List Note)} (hnd : bs.Nodup) (hbx : bs.length = xs.length) (hSb : S.length ≤ bs.length) (hSl : S.length ≤ 100000) : ∀ (d i : Nat) (a : Act) (w1 : World),i + d = S.length →
  IM C bs xs S i a w1 → ∀ (bf : Frame) (cs : List Frame),bf.roundOf = none → ∀ (mm : List Item),
  ∃ a' w',(∃ (C1 : Ctx) (cv : Nat → Value),Lk C C1 ∧ Rel pG C1 (litSt [(3,.val (.row ((bs.map ptrV).map PV.raw)))] [] 1) a' w' cv ∧ Hids C C1 bs xs (fun j => S.getD j [])) ∧ Steps pG (lone (bf.atR a (.code bd2 :: .inLoop bd2 :: .inBlock 2 :: mm)) cs w1) (lone (bf.atR a' mm) cs w')
 | 0,i,a,w1,hd,hI,bf,cs,hb,mm => by
  have hi : i = S.length := by omega
  subst hi
  obtain ⟨C1,cv,k1,hpin,h,hh⟩ := hI
  have hn1 : C1.n = Tryz.f110.ntmps := k1.n.trans hn
  obtain ⟨τ,a',w',cv',r1,hs⟩ := V.segW (md := .low) k1.lvl (fun _ => hpin) (by rw [hn1]; exact qw2E (bs.map ptrV) S) h bf cs (fun _ => hb) mm
  rcases hs with ⟨hf,_⟩ | ⟨⟨ρ,hM⟩,hs⟩
  ·exact hf.elim
  ·obtain ⟨cv2,r2⟩ := r1.rename hM 1 (fun i v hv => by rw [hpin i] at hv; cases hv)
   refine ⟨a',w',⟨C1,cv2,k1,r2,fun j b x hbj hxj => ?_⟩,hs⟩
   have := hh j b x hbj hxj
   have e : (if j < S.length then S.getD j [] else []) = S.getD j [] := by
    by_cases hj : j < S.length
    ·rw [if_pos hj]
    ·rw [if_neg hj,List.getD_eq_getElem?_getD,List.getElem?_eq_none (by omega)]; rfl
   simp only [e] at this
   exact this
 | d + 1,i,a,w1,hd,hI,bf,cs,hb,mm => by
  obtain ⟨a1,w2,hI1,s1⟩ := loop2_step hn hnd hbx hSb hSl (by omega) hI bf cs hb mm
  obtain ⟨a2,w3,h2,s2⟩ := loop2 hn hnd hbx hSb hSl d (i + 1) a1 w2 (by omega) hI1 bf cs hb mm
  exact ⟨a2,w3,h2,s1.trans s2⟩
theorem mk_eq : ∀ (los : List (List UInt8)) (gs : List (List Nd)) (S : List (List Note)),los.length = gs.length → mkParts los gs S = (los.zip gs).mapIdx fun i x => outN x (S.getD i [])
 | [],[],S,_ => rfl
 | lo :: los,g :: gs,S,h => by
  rw [mkParts,mk_eq los gs S.tail (by simpa using h),List.zip_cons_cons,List.mapIdx_cons]
  have e0 : S.headD [] = S.getD 0 [] := by cases S <;> rfl
  have e1 : ∀ i,S.tail.getD i [] = S.getD (i + 1) [] := fun i => by cases S <;> simp [List.getD_eq_getElem?_getD]
  rw [e0]
  simp only [e1]
  rfl
 | [],_ :: _,_,h => by simp at h
 | _ :: _,[],_,h => by simp at h
theorem partLows_len (lo : List UInt8) (gs : List (List Nd)) : (partLows lo gs).length = gs.length := by
 cases gs <;> simp [partLows]
theorem pairsG_low (lo : List UInt8) (gs : List (List Nd)) : ((pairsG lo gs).map fun x => outN x []).map Nd.low = partLows lo gs := by
 rw [List.map_map]
 have : (Nd.low ∘ fun x => outN x []) = Prod.fst := by funext x; rfl
 rw [this]
 exact List.map_fst_zip (by rw [partLows_len]; exact zR _)
theorem eq_prt : prt = .seq (cA prt) (cB prt) := rfl
theorem eq_prtb : cB prt = .seq (cA (cB prt)) (cB (cB prt)) := rfl
theorem eq_prtc : cB (cB prt) = .seq (cA (cB (cB prt))) prt3 := rfl
theorem eq_prt3 : prt3 = .seq (cA prt3) (cB prt3) := rfl
theorem eq_prt3a : cA prt3 = .seq (cA (cA prt3)) (.block 0 (.loop bd1)) := rfl
theorem eq_prt3b : cB prt3 = .seq (cA (cB prt3)) (cB (cB prt3)) := rfl
theorem eq_prt3c : cA (cB prt3) = .seq (cA (cA (cB prt3))) (.block 2 (.loop bd2)) := rfl
theorem pwR (outs : List Nd) (n : Nat) (hn : n = Tryz.f110.ntmps) : V .pln pG n (RetSt pG Tryz.f110.results.toList (.vals [.row (outs.map Nd.pv)])) [.code (cB (cB prt3))] (litSt [(3,.val (.row (outs.map Nd.pv)))] [] 1) := by
 subst hn
 refine V.exec 400 ?_
 simp +contextual (maxSteps:=9^7) only [go_sem,prt3,prt,cA,cB,Tryz.f110]
set_option maxHeartbeats 4000000 in
theorem tree_parts (lo : List UInt8) (ks : List Nd) (w : List Note) (p : List Pair) (hk : ks.length ≤ 100000) (hw : w.length ≤ 100000) : Ct pG 110 (Zv.ops [ndv lo ks w p]) (.vals [.row ((partsN lo ks w).map Nd.pv)]) := by
 refine Ct.of_sem (fn := Tryz.f110) (c := prt) Tryz.func110 rfl (by simp [Zv.ops,Tryz.f110]) ?_
 intro C a w0 cv hlvl hn hpin hd hr bf cs hb
 have hno : ∀ i b,¬ Live (initSt (Zv.ops [ndv lo ks w p])).ob cv i b := fun i b ⟨g1,_⟩ => by
  match i,g1 with
  | 0,g1 => cases g1
  | i + 1,g1 => cases g1
 obtain ⟨C1,hC1,r0⟩ : ∃ C1 : Ctx,C1 = ⟨w0,FS C (initSt (Zv.ops [ndv lo ks w p])).ob cv w0,fun b => ∃ i,Live (initSt (Zv.ops [ndv lo ks w p])).ob cv i b,C.n,fun _ => none,0⟩ ∧ Rel pG C1 (initSt (Zv.ops [ndv lo ks w p])) a w0 cv :=
  ⟨_,rfl,hr.rebase hd (σ1 := initSt (Zv.ops [ndv lo ks w p])) (cv1 := cv) (fun b hf => ⟨hr.fs_lt hf,fun i hl => hr.fs_live hf hl⟩) (fun i b hl => (hr.live i b hl).2) hr.inj hr.obs hr.slots hr.ments hr.mento (fun i v hv => by cases hv)⟩
 have k1 : Lk C C1 := by
  subst hC1
  refine ⟨rfl,rfl,hr.anc,fun b hf => ?_,fun b ⟨i,hl⟩ => absurd hl (hno i b)⟩
  rcases hf with hf | hf
  ·exact .inl hf
  ·exact .inr hf.1
 have hpin1 : ∀ i,C1.pin i = none := fun i => by subst hC1; rfl
 have hn1 : C1.n = Tryz.f110.ntmps := k1.n.trans hn
 obtain ⟨a1,x1,v1,r1,s1⟩ := V.segSeq (md := .low) (d := cB prt) 1 k1.lvl hpin1 (by rw [hn1]; exact pw0 (ndv lo ks w p)) r0 bf cs hb []
 obtain ⟨a2,x2,v2,r2,s2⟩ := V.segSeq (md := .low) (d := cB (cB prt)) 1 k1.lvl hpin1 (by rw [hn1]; exact pw1 (ndv lo ks w p)) r1 bf cs hb []
 obtain ⟨a3,x3,v3,r3,s3⟩ := V.segSeq (md := .low) (d := prt3) 1 k1.lvl hpin1 (by rw [hn1]; exact pw2 lo ks w p) r2 bf cs hb []
 obtain ⟨a4,x4,v4,r4,s4⟩ := V.segSeq (md := .low) (d := .block 0 (.loop bd1)) 1 k1.lvl hpin1 (by rw [hn1]; exact pw3 lo ks w p hk) r3 bf cs hb [.code (cB prt3)]
 have hIL : IL C lo ks w p ((ks.length + 3) / 4) a4 x4 := ⟨C1,v4,[],[],ks,k1,hpin1,r4,.nil,rfl,fun i b x hb' => by simp at hb',rfl,by omega,hk,by simp; omega⟩
 obtain ⟨a5,x5,⟨C2,v5,bs,k2,pin2,r5,hnd,hlen,hhid⟩,s5⟩ := loop1 hn _ a4 x4 hIL bf cs hb [.code (cB prt3)]
 have hn2 : C2.n = Tryz.f110.ntmps := k2.n.trans hn
 obtain ⟨xs,hxs⟩ : ∃ xs,xs = pairsG lo (groups ks) := ⟨_,rfl⟩
 rw [← hxs] at hlen hhid
 obtain ⟨outs,houts⟩ : ∃ outs : List Nd,outs = xs.map fun x => outN x [] := ⟨_,rfl⟩
 have hxl : xs.length = (groups ks).length := by rw [hxs,pairsG,List.length_zip,partLows_len,Nat.min_self]
 have hgl := (groups_spec ks).2.1
 have hol : outs.length = xs.length := by rw [houts,zW]
 have hlows : outs.map Nd.low = partLows lo (groups ks) := by rw [houts,hxs]; exact pairsG_low lo (groups ks)
 have h' := (r5.pub (.ref 0)).1
 have epub : (litSt [(0,.val (ndv lo ks w p)),(3,.ref 0)] (pob (bs.map ptrV)) 1).pub (.ref 0) = (litSt [(0,.val (ndv lo ks w p)),(3,.ref 0)] (pob (bs.map ptrV)) 1).setOb 0 (.prow ((bs.map ptrV).map PV.raw)) := rfl
 rw [epub] at h'
 obtain ⟨σp,hσp⟩ : ∃ σp : St,σp = (litSt [(0,.val (ndv lo ks w p)),(3,.ref 0)] (pob (bs.map ptrV)) 1).setOb 0 (.prow ((bs.map ptrV).map PV.raw)) := ⟨_,rfl⟩
 rw [← hσp] at h'
 have hraw : Rep x5 (FS C2 σp.ob v5 x5) (.row ((bs.map ptrV).map PV.raw)) (v5 0) := by
  have := h'.obs 0
  rw [hσp] at this ⊢
  exact this
 have hoff : ∀ b,b ∈ bs → ∃ (x : List UInt8 × List Nd),Hid C C2 b (cellsOf x []) := fun b hb' => by
  obtain ⟨i,hi,rfl⟩ := List.mem_iff_getElem.1 hb'
  exact ⟨xs[i]'(by omega),hhid i _ _ (zA hi) (zA (by omega))⟩
 obtain ⟨σu,hσu⟩ : ∃ σu : St,σu = litSt [(0,.val (ndv lo ks w p)),(3,.ref 0)] [.prow (outs.map Nd.pv)] 10 := ⟨_,rfl⟩
 have hnou : ∀ i b,¬ Live σu.ob v5 i b := fun i b ⟨g1,_⟩ => by
  rw [hσu] at g1
  match i,g1 with
  | 0,g1 => cases g1
  | i + 1,g1 => cases g1
 obtain ⟨C3,hC3,r6⟩ : ∃ C3 : Ctx,C3 = ⟨x5,fun b => FS C2 σp.ob v5 x5 b ∨ b ∈ bs,fun b => ∃ i,Live σu.ob v5 i b,C2.n,fun k => if k = 0 then some (v5 0) else none,0⟩ ∧ Rel pG C3 σu a5 x5 v5 :=
  ⟨_,rfl,h'.rebase (k2.defers h') (σ1 := σu) (cv1 := v5)
   (fun b hf => ⟨by
    rcases hf with hf | hf
    ·exact h'.fs_lt hf
    ·obtain ⟨x,hx⟩ := hoff b hf
     exact (hx.off h').2.2.1,fun i hl => hnou i b hl⟩)
   (fun i b hl => absurd hl (hnou i b)) (fun i j b hi hj => absurd hi (hnou i b))
   (fun i => by
    rw [hσu]
    match i with
    | 0 =>
     show Rep x5 _ (.row (outs.map Nd.pv)) (v5 0)
     refine rawRow hraw (fun _ hb => .inl hb) (by simp; omega) (fun y hy => ?_) (fun j v y hv hy => ?_)
     ·obtain ⟨n,_,rfl⟩ := zN.1 hy
      exact ⟨Nd.pv_cells n,Nd.pv_isAgg n⟩
     ·rw [zS] at hv hy
      cases hbj : bs[j]? with
      | none => rw [hbj] at hv; cases hv
      | some b =>
       rw [hbj] at hv
       cases hv
       obtain ⟨x,hx⟩ : ∃ x,xs[j]? = some x := ⟨_,zA (by rw [← hlen]; exact (zQ.1 hbj).1)⟩
       rw [houts,zS,hx] at hy
       cases hy
       show Rep x5 _ (outN x []).pv _
       rw [outN_pv]
       exact (hhid j b x hbj hx).ptr h' (fun _ hb => .inl (.inl hb)) (.inr (zE hbj)) (cellsOf_agg x [])
    | i + 1 => trivial)
   (fun t => by
    have := h'.slots t
    have e : σp.sl t = σu.sl t := by rw [hσp,hσu]; rfl
    rw [e] at this
    exact this.mono (fun _ _ => rfl : Same (FS C2 σp.ob v5 x5) x5 x5) (fun _ hb => .inl hb) (fun _ _ => rfl))
   (fun t i hi => by
    have e : σp.sl t = σu.sl t := by rw [hσp,hσu]; rfl
    rw [← e] at hi
    have := h'.ments t i hi
    rw [hσp] at this
    rw [hσu]
    match i,this with
    | 0,_ => simp [litSt]
    | i + 1,this => exact this)
   (fun j i hi => by
    rw [hσu] at hi
    match j,hi with
    | 0,hi => exact hi.elim
    | j + 1,hi => exact hi.elim)
   (fun k v hv => by
    split at hv
    ·rename_i hk0
     cases hv
     subst hk0
     exact ⟨by rw [hσu]; simp [litSt],rfl⟩
    ·cases hv)⟩
 have hF3 : ∀ b,C3.F0 b ↔ FS C2 σp.ob v5 x5 b ∨ b ∈ bs := fun b => by subst hC3; exact Iff.rfl
 have k3 : Lk C C3 := by
  subst hC3
  refine ⟨rfl,k2.n,k2.anc' h',fun b hf => ?_,fun b ⟨i,hl⟩ => absurd hl (hnou i b)⟩
  rcases hf with hf | hf
  ·exact k2.fs hf
  ·obtain ⟨x,hx⟩ := hoff b hf
   exact .inr hx.new
 have hw3 : C3.w0 = x5 := by subst hC3; rfl
 have hpin3 : C3.pin 0 = some (v5 0) := by subst hC3; rfl
 have hn3 : C3.n = Tryz.f110.ntmps := k3.n.trans hn
 obtain ⟨τ,a7,x7,v7,⟨t3,q,hq0,t68,obq,t69,t70⟩,r7,s7⟩ := V.seg (md := fixM (fun C => C.lvl = 0)) k3.lvl (fun h => by cases h) (by rw [hn3]; exact pw11 (fun C => C.lvl = 0) lo ks w p outs (by omega) hw) (by rw [← hσu]; exact r6) bf cs (fun h => by cases h) (.code (.block 2 (.loop bd2)) :: [.code (cB (cB prt3))])
 obtain ⟨S,hS⟩ : ∃ S,S = splitR w (outs.map Nd.low) := ⟨_,rfl⟩
 rw [← hS] at obq t69
 have hSl : S.length ≤ outs.length := by
  rw [hS]
  have := splitR_len w (outs.map Nd.low)
  rwa [zW] at this
 have hcv0 : v7 0 = v5 0 := (r7.pin 0 _ hpin3).2
 have hsame : Same C3.F0 x5 x7 := by
  have := r7.sameF0
  rwa [hw3] at this
 have hmem : ∀ b,b ∈ bs → x7.heap[b]? = x5.heap[b]? := fun b hb' => hsame b ((hF3 b).2 (.inr hb'))
 have hnF : ∀ b,b ∈ bs → ¬ FS C2 σp.ob v5 x5 b := fun b hb' => by
  obtain ⟨x,hx⟩ := hoff b hb'
  exact (hx.off h').1
 obtain ⟨σ4,hσ4⟩ : ∃ σ4 : St,σ4 = litSt (l2s (bs.map ptrV) S.length 0) [.gone,.row 36 (S.map rowN)] 2 := ⟨_,rfl⟩
 obtain ⟨cv4,hcv4⟩ : ∃ cv4 : Nat → Value,cv4 = fun k => if k = 1 then v7 q else v7 k := ⟨_,rfl⟩
 have hcv41 : cv4 1 = v7 q := by rw [hcv4]; rfl
 have hlv4 : ∀ k b',Live σ4.ob cv4 k b' → k = 1 ∧ Live τ.ob v7 q b' := by
  intro k b' ⟨g1,g2⟩
  rw [hσ4] at g1
  match k,g1,g2 with
  | 0,g1,_ => cases g1
  | 1,g1,g2 => exact ⟨rfl,by rw [obq]; rfl,by rw [← hcv41]; exact g2⟩
  | k + 2,g1,_ => cases g1
 have hFb : ∀ b,b ∈ bs → FS C3 τ.ob v7 x7 b := fun b hb' => .inl ((hF3 b).2 (.inr hb'))
 obtain ⟨C4,hC4,r8⟩ : ∃ C4 : Ctx,C4 = ⟨x7,fun b => FS C3 τ.ob v7 x7 b ∧ ¬ b ∈ bs,fun b => ∃ i,Live σ4.ob cv4 i b,C3.n,fun _ => none,0⟩ ∧ Rel pG C4 σ4 a7 x7 cv4 :=
  ⟨_,rfl,r7.rebase (k3.defers r7) (σ1 := σ4) (cv1 := cv4)
   (fun b hf => ⟨r7.fs_lt hf.1,fun i hl => r7.fs_live hf.1 (hlv4 i b hl).2⟩) (fun i b hl => (r7.live q b (hlv4 i b hl).2).2) (fun i j b hi hj => (hlv4 i b hi).1.trans (hlv4 j b hj).1.symm)
   (fun i => by
    rw [hσ4]
    match i with
    | 0 => trivial
    | 1 =>
     show OwnRow pG x7 _ (cv4 1) 36 (S.map rowN)
     rw [hcv41]
     have ho := r7.obs q
     rw [obq] at ho
     obtain ⟨sz,cells,g1,g2,g3,g4,g5,g6⟩ := ho
     refine ⟨sz,cells,g1,g2,g3,g4,⟨g5.1,fun j y v hy hv => ?_⟩,g6⟩
     have hfl : flat (S.map rowN) = S.map rowN := flat_one fun y hy => by
      obtain ⟨s,_,rfl⟩ := zN.1 hy; rfl
     have h1 := g5.2 j y v hy hv
     rw [hfl,zS] at hy
     cases hs : S[j]? with
     | none => rw [hs] at hy; cases hy
     | some s =>
      rw [hs] at hy
      cases hy
      exact notes_strip (X := fun b => b ∈ bs) (fun b hb' => by
       obtain ⟨x,hx⟩ := hoff b hb'
       obtain ⟨_,_,_,arr,ty,e1,e2⟩ := hx.off h'
       exact ⟨arr,ty,by rw [hmem b hb']; exact e1,cells_noint e2⟩) h1
    | i + 2 => trivial)
   (by
    rw [hσ4]
    refine lit_slots fun y hy => ?_
    simp only [l2s,zI,List.not_mem_nil,or_false] at hy
    rcases hy with rfl | rfl | rfl | rfl
    ·have h3 := r7.slots 3
     rw [t3] at h3
     have h3 : a7.tmps.getD 3 undef = v7 0 := h3
     show Rep x7 _ (.row _) (a7.tmps.getD 3 undef)
     rw [h3,hcv0]
     exact hraw.mono (fun b hb' => hsame b ((hF3 b).2 (.inl hb'))) (fun b hb' => ⟨.inl ((hF3 b).2 (.inl hb')),fun hin => hnF b hin hb'⟩)
    ·have h3 := r7.slots 68
     rw [t68] at h3
     have h3 : a7.tmps.getD 68 undef = v7 q := h3
     show a7.tmps.getD 68 undef = cv4 1
     rw [h3,hcv41]
    ·have h3 := r7.slots 69
     rw [t69] at h3
     have h3 : Rep x7 _ _ _ := h3
     exact h3.flat rfl
    ·have h3 := r7.slots 70
     rw [t70] at h3
     have h3 : Rep x7 _ _ _ := h3
     exact h3.flat rfl)
   (fun t i hi => by
    rw [hσ4] at hi
    obtain ⟨y,hy,hm⟩ := lit_ment hi
    simp only [l2s,zI,List.not_mem_nil,or_false] at hy
    rcases hy with rfl | rfl | rfl | rfl
    ·exact hm.elim
    ·have hm : 1 = i := hm
     subst hm; rw [hσ4]; simp [litSt]
    ·exact hm.elim
    ·exact hm.elim)
   (fun j i hi => by
    rw [hσ4] at hi
    match j,hi with
    | 0,hi => exact hi.elim
    | 1,hi => exact hi.elim
    | j + 2,hi => exact hi.elim)
   (fun k v hv => by cases hv)⟩
 have k4 : Lk C C4 := by
  subst hC4
  exact ⟨rfl,k3.n,k3.anc' r7,fun b hf => k3.fs hf.1,fun b ⟨i,hl⟩ => k3.live r7 (hlv4 i b hl).2⟩
 have hIM : IM C bs xs S 0 a7 x7 := by
  refine ⟨C4,cv4,k4,fun _ => by subst hC4; rfl,by rw [← hσ4]; exact r8,fun j b x hbj hxj => ?_⟩
  have hh := hhid j b x hbj hxj
  have hbm := zE hbj
  obtain ⟨_,_,_,arr,ty,e1,e2⟩ := hh.off h'
  have hlt := r7.fs_lt (hFb b hbm)
  have hnl : ∀ i,¬ Live τ.ob v7 i b := fun i => r7.fs_live (hFb b hbm)
  subst hC4
  refine ⟨hh.new,hlt,fun hf => hf.2 hbm,fun ⟨i,hl⟩ => hnl q (hlv4 i b hl).2,arr,ty,by rw [hmem b hbm]; exact e1,e2.mono (fun b' hb' => hsame b' ((hF3 b').2 (.inl (.inl hb')))) (fun b' hb' => ⟨.inl ((hF3 b').2 (.inl (.inl hb'))),fun hin => hnF b' hin (.inl hb')⟩)⟩
 obtain ⟨a9,x9,⟨C9,v9,k9,r9,hh9⟩,s9⟩ := loop2 hn hnd hlen (by omega) (by omega) S.length 0 a7 x7 (by omega) hIM bf cs hb [.code (cB (cB prt3))]
 obtain ⟨fin,hfin⟩ : ∃ fin : List Nd,fin = xs.mapIdx fun i x => outN x (S.getD i []) := ⟨_,rfl⟩
 have hfl : fin.length = xs.length := by rw [hfin,List.length_mapIdx]
 have hres : partsN lo ks w = fin := by
  rw [hfin,partsN,mk_eq _ _ _ (partLows_len lo (groups ks)),hxs,hS,hlows]; rfl
 have r10 : Rel pG C (litSt [(3,.val (.row (fin.map Nd.pv)))] [] 1) a9 x9 v9 := by
  refine r9.land hr.f0 hr.o0 hpin k9 (F := fun b => FS C9 (litSt [(3,.val (.row ((bs.map ptrV).map PV.raw)))] [] 1).ob v9 x9 b ∨ b ∈ bs) (fun b hf => ?_) (fun i => rfl) (fun i => trivial) (lit_slots fun y hy => ?_) (fun t i hi => ?_) (fun j i hi => hi.elim)
  ·rcases hf with hf | hf
   ·exact ⟨r9.fs_lt hf,k9.fs hf⟩
   ·obtain ⟨i,hi,rfl⟩ := List.mem_iff_getElem.1 hf
    have hh := hh9 i _ (xs[i]'(by omega)) (zA hi) (zA (by omega))
    exact ⟨(hh.off r9).2.2.1,.inr hh.new⟩
  ·simp only [zI,List.not_mem_nil,or_false] at hy
   subst hy
   have h3 := r9.slots 3
   have h3 : Rep x9 (FS C9 (litSt [(3,.val (.row ((bs.map ptrV).map PV.raw)))] [] 1).ob v9 x9) (.row ((bs.map ptrV).map PV.raw)) (a9.tmps.getD 3 undef) := h3
   show Rep x9 _ (.row (fin.map Nd.pv)) (a9.tmps.getD 3 undef)
   refine rawRow h3 (fun _ hb => .inl hb) (by simp; omega) (fun y hy => ?_) (fun j v y hv hy => ?_)
   ·obtain ⟨n,_,rfl⟩ := zN.1 hy
    exact ⟨Nd.pv_cells n,Nd.pv_isAgg n⟩
   ·rw [zS] at hv hy
    cases hbj : bs[j]? with
    | none => rw [hbj] at hv; cases hv
    | some b =>
     rw [hbj] at hv
     cases hv
     obtain ⟨x,hx⟩ : ∃ x,xs[j]? = some x := ⟨_,zA (by rw [← hlen]; exact (zQ.1 hbj).1)⟩
     rw [hfin,List.getElem?_mapIdx,hx] at hy
     cases hy
     show Rep x9 _ (outN x (S.getD j [])).pv _
     rw [outN_pv]
     exact (hh9 j b x hbj hx).ptr r9 (fun _ hb => .inl (.inl hb)) (.inr (zE hbj)) (cellsOf_agg x _)
  ·obtain ⟨y,hy,hm⟩ := lit_ment hi
   simp only [zI,List.not_mem_nil,or_false] at hy
   subst hy; exact hm.elim
 obtain ⟨σ',a',w',cv',todo,⟨hR,hlv⟩,r11,s11⟩ := V.sound (md := .pln) (Z := fun σ todo => RetSt pG Tryz.f110.results.toList (.vals [.row (fin.map Nd.pv)]) σ ∧ leaves true todo) hlvl (fun _ => hpin) (fun _ _ h1 h2 => ⟨h1,h2⟩) (pwR fin C.n hn) [.code (cB (cB prt3))] (.code _ .nil) a9 x9 v9 r10 bf cs (fun _ => hb)
 rw [hres]
 refine ⟨σ',a',w',cv',todo,hR,hlv,r11,?_⟩
 refine .trans (by rw [← eq_prt] at s1; exact s1) ?_
 refine .trans (by rw [← eq_prtb] at s2; exact s2) ?_
 refine .trans (by rw [← eq_prtc] at s3; exact s3) ?_
 rw [eq_prt3]
 refine .head stepR_seq ?_
 refine .trans (by rw [← eq_prt3a] at s4; exact s4) ?_
 refine .head stepR_block (.head stepR_loop ?_)
 refine .trans s5 ?_
 rw [eq_prt3b]
 refine .head stepR_seq ?_
 rw [eq_prt3c]
 refine .head stepR_seq ?_
 refine .trans s7 ?_
 refine .head stepR_block (.head stepR_loop ?_)
 exact .trans s9 s11
def PutCt (h B : Nat) : Prop := ∀ hi n ns,WF h hi n → notesOk ns → (∀ x ∈ ns,In n.low hi x.key) → n.mass + ns.length ≤ B → Ct pG 109 (Zv.ops [n.pv,.row (ns.map Note.pv)]) (.vals [.row ((putN h n ns).map Nd.pv)])
noncomputable def fls : Code := match Tryz.f148.body with
 | some c => c
 | none => .skip
def mbx (lo : List UInt8) (w : List Note) : Ob := .box true [.val (.str lo),.ref 1,.val (.row (w.map Note.pv)),.val (.row [])]
def FlR (lo : List UInt8) (w : List Note) (ks : List Nd) (σ' : St) : Prop := ∃ q,q ≠ 0 ∧ σ'.ob 0 = .box true [.val (.str lo),.ref q,.val (.row (w.map Note.pv)),.val (.row [])] ∧ σ'.ob q = .row 25 (ks.map Nd.pv)
set_option maxRecDepth 20000 in
set_option maxHeartbeats 16000000 in
theorem flush_walk {h B : Nat} (hB : B ≤ 10000) (hput : PutCt h B) {lo : List UInt8} {hi : Option (List UInt8)} {ks : List Nd} {w : List Note} (d : DI h lo hi ks w) (hw : w ≠ []) (hm : Nd.masss ks + w.length ≤ B) :
  V (fixM fun C => C.lvl = 0) pG Tryz.f148.ntmps (FlR lo (flushN (putN h) ks w).2 (flushN (putN h) ks w).1)
  [.code fls] (litSt [(0,.adr 0 0)] [mbx lo w,.row 25 (ks.map Nd.pv)] 10) := by
 obtain ⟨e1,e2,e3,e4⟩ := d.split
 obtain ⟨k1,k2⟩ := headLow_of d.head
 have hkl := masss_len ks
 have hlen : 0 < ks.length := List.length_pos_iff.2 k1
 have c1 := tree_lows ks (by omega)
 have c2 := pend_Most w (ks.map Nd.low) (by omega) (by rw [zW]; omega)
 have c3 := pend_SplitO w (ks.map Nd.low) (by omega) (by rw [zW]; omega)
 have hilt : mostV w (ks.map Nd.low) < ks.length := by
  rw [mostV,e1,← e4]
  exact bestV_lt _ _ (zR _) (by omega)
 have hSl : (splitR w (ks.map Nd.low)).length = ks.length := by rw [e1]; exact e4
 have hflat : ∀ y ∈ (ks.map Nd.low).map PV.str,∀ c ∈ y.cells,c.isFlat = true := fun y hy c hc => by
  obtain ⟨s,_,rfl⟩ := zN.1 hy
  simp only [PV.cells,List.mem_singleton] at hc
  subst hc; rfl
 have f1 : (flushN (putN h) ks w).1 = spliceN (putN h (ks.getD (mostV w (ks.map Nd.low)) (.mk [] [] [] [])) ((splitR w (ks.map Nd.low)).getD (mostV w (ks.map Nd.low)) [])) ks (mostV w (ks.map Nd.low)) := rfl
 have f2 : (flushN (putN h) ks w).2 = ((splitR w (ks.map Nd.low)).set (mostV w (ks.map Nd.low)) []).flatten := rfl
 have hSf : (splitR w (ks.map Nd.low)).flatten = w := by rw [e1]; exact e2
 rw [← e1] at e3
 rw [f1,f2]
 generalize splitR w (ks.map Nd.low) = S at *
 generalize mostV w (ks.map Nd.low) = i at *
 obtain ⟨k,hk⟩ : ∃ k,ks[i]? = some k := ⟨_,zA hilt⟩
 obtain ⟨s,hs⟩ : ∃ s,S[i]? = some s := ⟨_,zA (by omega)⟩
 have hkd : ks.getD i (.mk [] [] [] []) = k := by rw [List.getD_eq_getElem?_getD,hk]; rfl
 have hsd : S.getD i [] = s := by rw [List.getD_eq_getElem?_getD,hs]; rfl
 rw [hkd,hsd]
 have hsub : s.Sublist w := by rw [← hSf]; exact List.sublist_flatten_of_mem (zE hs)
 have hkm := mass_mem (zE hk)
 have hsl := hsub.length_le
 have hwo := (waitOk_iff w).1 d.wok
 have hks : ks = ks.take i ++ k :: ks.drop (i + 1) := by rw [← drop_of_get hk,List.take_append_drop]
 have hSS : S = S.take i ++ s :: S.drop (i + 1) := by rw [← drop_of_get hs,List.take_append_drop]
 have hseg2 := d.seg
 rw [hks] at hseg2
 have e3' := e3
 rw [hks,hSS] at e3'
 have hwk := ((seg_app _ _ hi).1 hseg2).2.1
 have hsin := ((segN_app _ _ _ _ hi (by simp [hSl])).1 e3').2.1
 have c4 := hput _ k s hwk (fun x hx => hwo.2 x (hsub.subset hx)) hsin (by omega)
 have pm := (put_spec h _ k s hwk (fun x hx => hwo.2 x (hsub.subset hx)) hsin).mass
 have hml := masss_len (putN h k s)
 have hi' : (i : Int) < (ks.length : Int) := by omega
 have hiS : (i : Int) < (S.length : Int) := by omega
 have hpc : ∀ l : List Nd,∀ x ∈ l.map Nd.pv,x.cells.length = 1 := fun l x hx => by
  obtain ⟨n,_,rfl⟩ := zN.1 hx
  rw [Nd.pv_cells]; rfl
 generalize putN h k s = M at *
 refine V.exec 400 ?_
 simp +contextual (maxSteps:=9^7) only [go_sem,fls,Tryz.f148,mbx]
 refine V.call rfl rfl (by simp [dOK]) ⟨150,[],by simp only [go_sem],⟨_,rfl,rfl,rfl⟩,.inr (.inr (.inr ⟨[.row (ks.map Nd.pv)],9,(ks.map Nd.low).map PV.str,.inl (by simp only [go_sem]),c1,hflat,by simp only [go_sem],rfl,rfl⟩))⟩ ?_
 refine V.exec 400 ?_
 simp +contextual (maxSteps:=9^7) only [go_sem]
 refine V.call rfl rfl (by simp [dOK]) ⟨178,[],by simp only [go_sem],⟨_,rfl,rfl,rfl⟩,.inl ⟨[.row (w.map Note.pv),.row ((ks.map Nd.low).map PV.str)],_,.inl (by simp only [go_sem]),c2,.inl ⟨_,rfl,rfl,rfl,rfl⟩⟩⟩ ?_
 refine V.exec 400 ?_
 simp +contextual (maxSteps:=9^7) only [go_sem]
 refine V.call rfl rfl (by simp [dOK]) ⟨149,[],by simp only [go_sem],⟨_,rfl,rfl,rfl⟩,.inl ⟨[.row (w.map Note.pv),.row ((ks.map Nd.low).map PV.str)],_,.inl (by simp only [go_sem]),c3,.inr (.inr ⟨36,(S.map rowN)   ,rfl,by simp only [go_sem],rfl,rfl⟩)⟩⟩ ?_
 refine V.exec 400 ?_
 simp +contextual (maxSteps:=9^7) only [go_sem,hi',hiS,hk,hs,rowN]
 refine DV.call [] [] (by simp only [go_sem]) (by simp [dOK]) ⟨109,[],by simp only [go_sem],⟨_,rfl,rfl,rfl⟩,.inl ⟨[k.pv,.row (s.map Note.pv)],_,.inl (by simp only [go_sem]),c4,.inr (.inl ⟨_,rfl,rfl,rfl⟩)⟩⟩ (by simp only [go_sem]) (by simp only [go_sem]) (by simp only [go_sem]) (by simp) ?_
 refine DV.execS [11] 400 ?_
 have hw1 : IntKind.i64.wrap ((i : Int) + 1) = ((i + 1 : Nat) : Int) := by rw [wrap_small3] <;> omega
 have hi1 : ((i + 1 : Nat) : Int) ≤ (ks.length : Int) := by omega
 have hi2 : (i : Int) ≤ (ks.length : Int) := by omega
 have hset : (S.map rowN).set i (PV.row []) = (S.set i []).map rowN := by rw [List.map_set]; rfl
 have hSetF : (S.set i []).flatten.length ≤ w.length := by
  have e0 : (S.set i []).flatten = (S.take i).flatten ++ (S.drop (i + 1)).flatten := by
   have hl : (S.take i).length = i := by rw [zU]; omega
   conv => lhs; rw [hSS,List.set_append_right _ _ (by omega),hl,Nat.sub_self,List.set_cons_zero,List.flatten_append,List.flatten_cons,List.nil_append]
  have e5 : w = (S.take i).flatten ++ (s ++ (S.drop (i + 1)).flatten) := by
   rw [← hSf]
   conv => lhs; rw [hSS,List.flatten_append,List.flatten_cons]
  rw [e0,e5]
  simp only [zJ]; omega
 have c6 := (ConcatNote ((S.set i []).map fun l => l.map Note.pv) (fun l hl x hx => by
  obtain ⟨n,_,rfl⟩ := zN.1 hl
  obtain ⟨y,_,rfl⟩ := zN.1 hx; rfl) (by
   have : ((S.set i []).map fun l => l.map Note.pv).flatten = (S.set i []).flatten.map Note.pv := by rw [List.map_flatten]
   rw [this,zW]; omega) (by simp; omega)).forget
 have ec6 : (((S.set i []).map fun l => l.map Note.pv).map PV.row) = (S.set i []).map rowN := by rw [List.map_map]; rfl
 have ef6 : ((S.set i []).map fun l => l.map Note.pv).flatten = (S.set i []).flatten.map Note.pv := by rw [List.map_flatten]
 rw [ec6,ef6] at c6
 have tail : ∀ (σ : St) (K' Mo R : List Nd) (mv : AV) (nq : Nat),True → True := fun _ _ _ _ _ _ h => h
 cases hMc : M with
 | cons z zs =>
  rw [← hMc]
  have hM0 : (0 : Int) < (M.length : Int) := by rw [hMc]; simp
  have c5 := ConcatNode [(ks.take i).map Nd.pv,M.map Nd.pv,(ks.drop (i + 1)).map Nd.pv] (fun l hl x hx => by
   simp only [zI,List.not_mem_nil,or_false] at hl
   rcases hl with rfl | rfl | rfl <;> exact hpc _ x hx) (by simp; omega) (by simp)
  have er : [(ks.take i).map Nd.pv,M.map Nd.pv,(ks.drop (i + 1)).map Nd.pv].flatten = (spliceN M ks i).map Nd.pv := by
   rw [spliceN,hMc,fix_cons]; simp
  rw [er] at c5
  generalize spliceN M ks i = R at *
  simp +contextual (maxSteps:=9^7) only [go_sem,hi',hiS,hk,hs,rowN,hM0,hw1,hi1,hi2]
  refine ⟨by kernel_rfl,?_⟩
  refine V.pubc 0 1 1 true [.val (.str lo),.ref 1,.val (.row (w.map Note.pv)),.val (.row [])] 25 (ks.map Nd.pv) (by simp only [go_sem]) rfl (by simp only [go_sem]) ?_
  refine V.exec 400 ?_
  simp +contextual (maxSteps:=9^7) only [go_sem,hi',hiS,hk,hs,rowN,hM0,hw1,hi1,hi2,List.set_cons_succ,List.set_cons_zero]
  refine DV.call [62] [62,63] (by simp only [go_sem,zC,zB,List.map_take,List.map_drop]) (by simp [dOK]) ⟨179,[],by simp only [go_sem,zC,zB,List.map_take,List.map_drop],⟨_,rfl,rfl,rfl⟩,.inl ⟨[.row ([(ks.take i).map Nd.pv,M.map Nd.pv,(ks.drop (i + 1)).map Nd.pv].map PV.row)],_,.inl (by simp only [go_sem,zC,zB,List.map_take,List.map_drop]),c5,.inr (.inr ⟨25,(R.map Nd.pv)   ,rfl,by simp only [go_sem,zC,zB,List.map_take,List.map_drop],rfl,rfl⟩)⟩⟩ (by simp only [go_sem,zC,zB,List.map_take,List.map_drop]) (by simp only [go_sem,zC,zB,List.map_take,List.map_drop]) (by simp only [go_sem,zC,zB,List.map_take,List.map_drop]) (by simp) ?_
  refine DV.exec 400 ?_
  simp +contextual (maxSteps:=9^7) only [go_sem,hiS,hs,rowN,hset]
  refine ⟨by kernel_rfl,?_⟩
  refine V.call rfl rfl (by simp [dOK]) ⟨180,[],by simp only [go_sem],⟨_,rfl,rfl,rfl⟩,.inl ⟨[.row ((S.set i []).map rowN)],_,.inl (by simp only [go_sem]),c6,.inr (.inl ⟨_,rfl,rfl,rfl⟩)⟩⟩ ?_
  refine V.exec 400 ?_
  simp +contextual (maxSteps:=9^7) only [go_sem]
  exact ⟨63,by decide,by simp only [go_sem],by simp only [go_sem]⟩
 | nil =>
  subst hMc
  have hM0 : ¬ (0 : Int) < (([] : List Nd).length : Int) := by simp
  have hM0' : ¬ (0 : Int) < ((0 : Nat) : Int) := by omega
  by_cases h1 : ks.length = 1
  ·have h1' : (ks.length : Int) = 1 := by omega
   obtain ⟨k0,rfl⟩ : ∃ k0,ks = [k0] := by
    match ks,h1 with
    | [k0],_ => exact ⟨k0,rfl⟩
   have hi0 : i = 0 := by simp at hilt; exact hilt
   subst hi0
   have h11 : ((1 : Nat) : Int) = 1 := rfl
   have hkl : ([k0] : List Nd).length = 1 := rfl
   have hlw0 : (([k0] : List Nd).map Nd.low)[0]? = some k0.low := rfl
   have hR : spliceN [] [k0] 0 = [.mk k0.low [] [] []] := rfl
   rw [hR]
   simp +contextual (maxSteps:=9^7) only [go_sem,hi',hiS,hk,hs,rowN,zB,List.length_nil,hM0',h11,hw1,hi1,hi2,Int.toNat_zero,Int.le_refl]
   have c5 := ConcatNode [[],[(Nd.mk k0.low [] [] []).pv],[]] (fun l hl x hx => by
    simp only [zI,List.not_mem_nil,or_false] at hl
    rcases hl with rfl | rfl | rfl
    ·cases hx
    ·simp only [List.mem_singleton] at hx
     subst hx; rw [Nd.pv_cells]; rfl
    ·cases hx) (by simp) (by simp)
   have er : [[],[(Nd.mk k0.low [] [] []).pv],[]].flatten = [Nd.mk k0.low [] [] []].map Nd.pv := rfl
   rw [er] at c5
   have epv : (Nd.mk k0.low [] [] []).pv = .ptr (.agg [.str k0.low,.row [],.row [],.row []]) := by rw [Nd.pv_eq]; rfl
   refine ⟨by kernel_rfl,?_⟩
   refine V.pubc 0 1 1 true [.val (.str lo),.ref 1,.val (.row (w.map Note.pv)),.val (.row [])] 25 [k0.pv] (by simp only [go_sem]) rfl (by simp only [go_sem]) ?_
   refine V.exec 400 ?_
   simp +contextual (maxSteps:=9^7) only [go_sem,hiS,hs,rowN,h11,hw1,List.set_cons_succ,List.set_cons_zero,Int.le_refl,Int.toNat_zero,Int.toNat_one]
   refine ⟨by decide,by decide,?_⟩
   refine DV.call [76] [76,77] (by simp only [go_sem,zC,zB,epv,Int.toNat_natCast]) (by simp [dOK]) ⟨179,[],by simp only [go_sem,zC,zB,epv,Int.toNat_natCast],⟨_,rfl,rfl,rfl⟩,.inl ⟨[.row ([[],[(Nd.mk k0.low [] [] []).pv],[]].map PV.row)],_,.inl (by simp only [go_sem,zC,zB,epv,Int.toNat_natCast]),c5,.inr (.inr ⟨25,([Nd.mk k0.low [] [] []].map Nd.pv)   ,rfl,by simp only [go_sem,zC,zB,epv,Int.toNat_natCast],rfl,rfl⟩)⟩⟩ (by simp only [go_sem,zC,zB,epv,Int.toNat_natCast]) (by simp only [go_sem,zC,zB,epv,Int.toNat_natCast]) (by simp only [go_sem,zC,zB,epv,Int.toNat_natCast]) (by simp) ?_
   refine DV.exec 400 ?_
   simp +contextual (maxSteps:=9^7) only [go_sem,hiS,hs,rowN,hset]
   refine ⟨by kernel_rfl,?_⟩
   refine V.call rfl rfl (by simp [dOK]) ⟨180,[],by simp only [go_sem],⟨_,rfl,rfl,rfl⟩,.inl ⟨[.row ((S.set 0 []).map rowN)],_,.inl (by simp only [go_sem]),c6,.inr (.inl ⟨_,rfl,rfl,rfl⟩)⟩⟩ ?_
   refine V.exec 400 ?_
   simp +contextual (maxSteps:=9^7) only [go_sem]
   exact ⟨77,by decide,by simp only [go_sem],by simp only [go_sem]⟩
  ·have h1' : ¬ (ks.length : Int) = 1 := by omega
   by_cases hi0 : i = 0
   ·subst hi0
    obtain ⟨a,b,r,hkr⟩ : ∃ a b r,ks = a :: b :: r := by
     match ks,h1,hlen with
     | a :: b :: r,_,_ => exact ⟨a,b,r,rfl⟩
     | [a],h,_ => exact absurd rfl h
     | [],_,h => simp at h
    have hR : spliceN [] ks 0 = setLow a.low b :: r := by rw [hkr,spliceN,fix_zero]; rfl
    have hka : k = a := by rw [hkr] at hk; simp at hk; exact hk.symm
    subst hka
    have hb : ks[1]? = some b := by rw [hkr]; rfl
    have hsl1 : (setLow k.low b).pv = .ptr (.agg [.str k.low,.row (b.kids.map Nd.pv),.row (b.wait.map Note.pv),.row (b.pairs.map Pair.pv)]) := by
     rw [Nd.pv_eq]; cases b; rfl
    have hdr : ((ks.map Nd.pv).set 1 (setLow k.low b).pv).drop 1 = (setLow k.low b :: r).map Nd.pv := by rw [hkr]; rfl
    have h10 : (1 : Int) < (ks.length : Int) := by rw [hkr]; simp; omega
    have h01 : (1 : Int) ≤ (ks.length : Int) := by omega
    have hrl : r.length + 2 = ks.length := by rw [hkr]; rfl
    have h00 : ((0 : Nat) : Int) = 0 := rfl
    have eb := Nd.pv_eq b
    have c5 := ConcatNode [[],[],(setLow k.low b :: r).map Nd.pv] (fun l hl x hx => by
     simp only [zI,List.not_mem_nil,or_false] at hl
     rcases hl with rfl | rfl | rfl
     ·cases hx
     ·cases hx
     ·exact hpc _ x hx) (by simp; omega) (by simp)
    have er : [[],[],(setLow k.low b :: r).map Nd.pv].flatten = (setLow k.low b :: r).map Nd.pv := by simp
    rw [er] at c5
    rw [hR]
    generalize setLow k.low b = z at *
    obtain ⟨ZR,hZR⟩ : ∃ ZR,ZR = (z :: r).map Nd.pv := ⟨_,rfl⟩
    rw [← hZR] at hdr c5
    have hw01 : IntKind.i64.wrap (0 + 1) = 1 := by decide
    simp +contextual (maxSteps:=9^7) only [go_sem,hi',hiS,hk,hs,rowN,zB,List.length_nil,hM0',h1',hw1,hi1,hi2,Int.toNat_zero,Int.le_refl,eb,Int.toNat_one,hb,h10,h00,Int.lt_irrefl]
    refine ⟨by kernel_rfl,by decide,by decide,?_⟩
    refine V.pubc 0 1 1 true [.val (.str lo),.ref 1,.val (.row (w.map Note.pv)),.val (.row [])] 25 ((ks.map Nd.pv).set 1 z.pv) (by simp only [go_sem]) rfl (by simp only [go_sem,hsl1]) ?_
    refine V.exec 400 ?_
    simp +contextual (maxSteps:=9^7) only [go_sem,hiS,hs,rowN,h00,hw1,hi2,hi1,List.set_cons_succ,List.set_cons_zero,Int.le_refl,Int.toNat_zero,Int.toNat_one,List.length_set,hdr,hw01]
    refine ⟨⟨by decide,h01,fun x hx => ?_⟩,?_⟩
    ·rcases List.mem_or_eq_of_mem_set hx with hx | rfl
     ·exact hpc _ x hx
     ·rw [Nd.pv_cells]; rfl
    refine DV.call [93] [93,94] (by simp only [go_sem,zC,zB]) (by simp [dOK]) ⟨179,[],by simp only [go_sem,zC,zB],⟨_,rfl,rfl,rfl⟩,.inl ⟨[.row ([[],[],ZR].map PV.row)],_,.inl (by simp only [go_sem,zC,zB]),c5,.inr (.inr ⟨25,ZR   ,rfl,by simp only [go_sem,zC,zB],rfl,rfl⟩)⟩⟩ (by simp only [go_sem,zC,zB]) (by simp only [go_sem,zC,zB]) (by simp only [go_sem,zC,zB]) (by simp) ?_
    refine DV.exec 400 ?_
    simp +contextual (maxSteps:=9^7) only [go_sem,hiS,hs,rowN,hset,h00,Int.le_refl,Int.toNat_zero]
    refine ⟨by kernel_rfl,?_⟩
    refine V.call rfl rfl (by simp [dOK]) ⟨180,[],by simp only [go_sem],⟨_,rfl,rfl,rfl⟩,.inl ⟨[.row ((S.set 0 []).map rowN)],_,.inl (by simp only [go_sem]),c6,.inr (.inl ⟨_,rfl,rfl,rfl⟩)⟩⟩ ?_
    refine V.exec 400 ?_
    simp +contextual (maxSteps:=9^7) only [go_sem]
    refine ⟨94,by decide,by simp only [go_sem],?_⟩
    rw [← hZR]
    simp only [go_sem]
   ·have hi0' : ¬ (i : Int) = 0 := by omega
    have hR : spliceN [] ks i = ks.take i ++ ks.drop (i + 1) := by rw [spliceN,fix_else h1 hi0]; simp
    have c5 := ConcatNode [(ks.take i).map Nd.pv,[],(ks.drop (i + 1)).map Nd.pv] (fun l hl x hx => by
     simp only [zI,List.not_mem_nil,or_false] at hl
     rcases hl with rfl | rfl | rfl
     ·exact hpc _ x hx
     ·cases hx
     ·exact hpc _ x hx) (by simp; omega) (by simp)
    have er : [(ks.take i).map Nd.pv,[],(ks.drop (i + 1)).map Nd.pv].flatten = (ks.take i ++ ks.drop (i + 1)).map Nd.pv := by simp
    rw [er] at c5
    rw [hR]
    obtain ⟨ZR,hZR⟩ : ∃ ZR,ZR = (ks.take i ++ ks.drop (i + 1)).map Nd.pv := ⟨_,rfl⟩
    rw [← hZR] at c5
    simp +contextual (maxSteps:=9^7) only [go_sem,hi',hiS,hk,hs,rowN,zB,List.length_nil,hM0',h1',hw1,hi1,hi2,hi0',Int.toNat_zero,Int.le_refl]
    refine ⟨by kernel_rfl,?_⟩
    refine V.pubc 0 1 1 true [.val (.str lo),.ref 1,.val (.row (w.map Note.pv)),.val (.row [])] 25 (ks.map Nd.pv) (by simp only [go_sem]) rfl (by simp only [go_sem]) ?_
    refine V.exec 400 ?_
    simp +contextual (maxSteps:=9^7) only [go_sem,hiS,hs,rowN,hw1,hi2,hi1,List.set_cons_succ,List.set_cons_zero]
    refine DV.call [72] [72,73] (by simp only [go_sem,zC,zB,List.map_take,List.map_drop]) (by simp [dOK]) ⟨179,[],by simp only [go_sem,zC,zB,List.map_take,List.map_drop],⟨_,rfl,rfl,rfl⟩,.inl ⟨[.row ([(ks.take i).map Nd.pv,[],(ks.drop (i + 1)).map Nd.pv].map PV.row)],_,.inl (by simp only [go_sem,zC,zB,List.map_take,List.map_drop]),c5,.inr (.inr ⟨25,ZR   ,rfl,by simp only [go_sem,zC,zB,List.map_take,List.map_drop],rfl,rfl⟩)⟩⟩ (by simp only [go_sem,zC,zB,List.map_take,List.map_drop]) (by simp only [go_sem,zC,zB,List.map_take,List.map_drop]) (by simp only [go_sem,zC,zB,List.map_take,List.map_drop]) (by simp) ?_
    refine DV.exec 400 ?_
    simp +contextual (maxSteps:=9^7) only [go_sem,hiS,hs,rowN,hset]
    refine ⟨by kernel_rfl,?_⟩
    refine V.call rfl rfl (by simp [dOK]) ⟨180,[],by simp only [go_sem],⟨_,rfl,rfl,rfl⟩,.inl ⟨[.row ((S.set i []).map rowN)],_,.inl (by simp only [go_sem]),c6,.inr (.inl ⟨_,rfl,rfl,rfl⟩)⟩⟩ ?_
    refine V.exec 400 ?_
    simp +contextual (maxSteps:=9^7) only [go_sem]
    refine ⟨73,by decide,by simp only [go_sem],?_⟩
    rw [← hZR]
    simp only [go_sem]
set_option maxRecDepth 20000 in
set_option maxHeartbeats 16000000 in
theorem put_leaf {B : Nat} (hB : B ≤ 10000) : PutCt 0 B := by
 intro hi n ns w hn hin hm
 have e := Nd.pv_eq n
 obtain ⟨w1,w2,w3,w4,w5,w6⟩ := w
 have c1 := leaf_Apply n.pairs ns (by omega) (by omega)
 have hpl := applyV_len n.pairs ns
 have c2 := tree_leaves n.low (applyV n.pairs ns).1 (by omega)
 have ep : putN 0 n ns = leavesN n.low (applyV n.pairs ns).1 := rfl
 have h00 : ((0 : Nat) : Int) = 0 := rfl
 rw [ep,e,w1]
 generalize leavesN n.low (applyV n.pairs ns).1 = M at *
 generalize applyV n.pairs ns = G at *
 obtain ⟨g1,g2⟩ := G
 refine Ct.of_V Tryz.func109 rfl (by simp [Zv.ops,Tryz.f109]) ?_
 refine V.exec 400 ?_
 simp +contextual (maxSteps:=9^7) only [go_sem,Tryz.f109,zB,List.length_nil,h00]
 refine V.call rfl rfl (by simp [dOK]) ⟨68,[],by simp only [go_sem],⟨_,rfl,rfl,rfl⟩,.inl ⟨[.row (n.pairs.map Pair.pv),.row (ns.map Note.pv)],_,.inl (by simp only [go_sem]),c1,.inr (.inl ⟨_,rfl,rfl,rfl⟩)⟩⟩ ?_
 refine V.exec 400 ?_
 simp +contextual (maxSteps:=9^7) only [go_sem]
 refine V.call rfl rfl (by simp [dOK]) ⟨145,[],by simp only [go_sem],⟨_,rfl,rfl,rfl⟩,.inl ⟨[.str n.low,.row (g1.map Pair.pv)],_,.inl (by simp only [go_sem]),c2,.inr (.inl ⟨_,rfl,rfl,rfl⟩)⟩⟩ ?_
 refine V.exec 400 ?_
 simp +contextual (maxSteps:=9^7) only [go_sem]
set_option maxRecDepth 20000 in
set_option maxHeartbeats 16000000 in
theorem put_node {h B : Nat} (hB : B ≤ 10000) (hput : PutCt h B) : PutCt (h + 1) B := by
 intro hi n ns w hn hin hm
 have e := Nd.pv_eq n
 have hall := w.all_node
 obtain ⟨w1,w2,w3,w4,w5,w6,w7,w8,w9⟩ := w
 obtain ⟨k1,k2⟩ := headLow_of w6
 have hemp : n.kids.isEmpty = false := by
  cases hk : n.kids with
  | nil => exact absurd hk k1
  | cons k ks => rfl
 have hpr : (pushR n.wait ns).1 = pushV n.wait ns := by unfold pushR; rw [if_pos ⟨w3,hn⟩]
 have hwo := (waitOk_iff _).1 w3
 have hpo := pushV_ok ns w3 hn
 have hpl := pushV_len ns hwo.1
 have hpin : ∀ x ∈ pushV n.wait ns,In n.low hi x.key := fun x hx => by
  rcases pushV_keys ns hx with h1 | ⟨y,hy,e⟩
  ·exact w4 x h1
  ·rw [e]; exact hin y hy
 have d0 : DI h n.low hi n.kids (pushV n.wait ns) := ⟨w7,w6,w8,hpo,hpin⟩
 have hmk := mass_kids n
 have ep : putN (h + 1) n ns = partsN n.low (drainN (putN h) (pushV n.wait ns).length n.kids (pushV n.wait ns)).1 (drainN (putN h) (pushV n.wait ns).length n.kids (pushV n.wait ns)).2 := by
  rw [putN,hemp,hpr]; rfl
 have c1 := CloneNode (n.kids.map Nd.pv) (fun x hx => by
  obtain ⟨y,_,rfl⟩ := zN.1 hx
  rw [Nd.pv_cells]; rfl) (by simp; omega)
 have c2 := pend_Push n.wait ns (by omega) (by omega)
 rw [hpr] at c2
 have hlen : 0 < n.kids.length := List.length_pos_iff.2 k1
 have hl0 : ¬ (n.kids.length : Int) = 0 := by omega
 rw [ep,e]
 generalize (pushR n.wait ns).2 = er at *
 generalize pushV n.wait ns = w0 at *
 refine Ct.of_V Tryz.func109 rfl (by simp [Zv.ops,Tryz.f109]) ?_
 refine V.exec 400 ?_
 simp +contextual (maxSteps:=9^7) only [go_sem,Tryz.f109,hl0]
 refine DV.call [] [17] (by simp only [go_sem]) (by simp [dOK]) ⟨146,[],by simp only [go_sem],⟨_,rfl,rfl,rfl⟩,.inl ⟨[.row (n.kids.map Nd.pv)],_,.inl (by simp only [go_sem]),c1,.inr (.inr ⟨25,(n.kids.map Nd.pv)   ,rfl,by simp only [go_sem],rfl,rfl⟩)⟩⟩ (by simp only [go_sem]) (by simp only [go_sem]) (by simp only [go_sem]) (by simp) ?_
 refine DV.bref [17] (p0 := .str n.low) (id := 17) (e := 25) (ys := n.kids.map Nd.pv) (zs := [.val (.str []),.nils,.nils,.nils]) (places := [(0,1),(1,1),(2,1),(3,1)]) (z := [.str [],.row [],.row [],.row []]) (cs := [.str n.low,.row [],.row [],.row []]) (kk := 1) rfl (by simp [dOK]) (by simp only [go_sem]) (by simp only [go_sem]) (by simp only [go_sem]) (by kernel_rfl) (by kernel_rfl) (by kernel_rfl) (by simp [PV.isAgg]) rfl rfl (by simp only [go_sem]) ?_
 refine DV.exec 400 ?_
 simp +contextual (maxSteps:=9^7) only [go_sem]
 refine ⟨by kernel_rfl,?_⟩
 refine V.call rfl rfl (by simp [dOK]) ⟨147,[],by simp only [go_sem],⟨_,rfl,rfl,rfl⟩,.inl ⟨[.row (n.wait.map Note.pv),.row (ns.map Note.pv)],_,.inl (by simp only [go_sem]),c2,.inr (.inl ⟨_,rfl,rfl,rfl⟩)⟩⟩ ?_
 refine V.exec 400 ?_
 simp +contextual (maxSteps:=9^7) only [go_sem]
 refine V.loop (fun m ls os => ∃ (ks : List Nd) (w : List Note),DI h n.low hi ks w ∧ w.length ≤ m ∧ Nd.masss ks + w.length ≤ B ∧ drainN (putN h) m ks w = drainN (putN h) w0.length n.kids w0 ∧
    ls = [(7,.adr 0 0)] ∧ os = [mbx n.low w,.row 25 (ks.map Nd.pv)]) 2 w0.length
   [(7,.adr 0 0)] [mbx n.low w0,.row 25 (n.kids.map Nd.pv)] [some 19,some 17]
   ⟨n.kids,w0,d0,zR _,by omega,rfl,rfl,rfl⟩ (by simp only [go_sem,mbx]; try decide) ?_
 rintro m ls os ⟨ks,w,d,hwm,hmw,hdr,rfl,rfl⟩
 by_cases h6 : 6 < w.length
 ·have h6' : (6 : Int) < (w.length : Int) := by omega
  have hwne : w ≠ [] := fun e => by rw [e] at h6; simp at h6
  obtain ⟨f1,f2,f3,f4⟩ := flush_spec (put_spec h) d hwne
  have fw := flush_walk hB hput d hwne hmw
  have hdr2 : drainN (putN h) (m - 1) (flushN (putN h) ks w).1 (flushN (putN h) ks w).2 = drainN (putN h) w0.length n.kids w0 := by
   rw [← hdr]
   obtain ⟨m',rfl⟩ : ∃ m',m = m' + 1 := ⟨m - 1,by omega⟩
   rw [drainN,if_pos h6]; rfl
  generalize flushN (putN h) ks w = G at *
  obtain ⟨ks',w'⟩ := G
  have key : ∀ τ : St,τ = litSt [(0,.adr 0 0)] [mbx n.low w,.row 25 (ks.map Nd.pv)] 10 → V (fixM fun C => C.lvl = 0) pG Tryz.f148.ntmps (fun σ' => FlR n.low w' ks' ⟨fun _ => .any,σ'.ob,0⟩) [.code fls] τ := fun τ e => by rw [e]; exact fw
  simp only [mbx] at key
  refine V.exec 400 ?_
  simp +contextual (maxSteps:=9^7) only [go_sem,h6',mbx]
  refine V.sop _ (SemOp.inl (fn := Tryz.f148) (c := fls) (S := fun _ => True) (JE := fun ob => FlR n.low w' ks' ⟨fun _ => .any,ob,0⟩) rfl rfl rfl Tryz.func148 rfl rfl rfl (by decide) (by simp [dOK]) (fun _ _ _ => trivial) 10 50 ?_) ?_
  ·refine key _ (St.eq_of (fun t => ?_) (fun k => rfl) rfl)
   cases t with
   | zero => rfl
   | succ t => rfl
  ·rintro _ ⟨ob,⟨q,hq,hb0,hbq⟩,rfl⟩
   refine V.exec 400 ?_
   simp +contextual (maxSteps:=9^7) only [go_sem]
   have hb0 : ob 0 = .box true [.val (.str n.low),.ref q,.val (.row (w'.map Note.pv)),.val (.row [])] := hb0
   have hbq : ob q = .row 25 (ks'.map Nd.pv) := hbq
   refine ⟨m - 1,_,_,[some 0,some q],by omega,⟨ks',w',f1,by simp only at f3; omega,by simp only at f4; omega,hdr2,rfl,rfl⟩,?_⟩
   simp only [go_sem,mbx,hb0,hbq]
   simp [hq]
 ·have h6' : ¬ (6 : Int) < (w.length : Int) := by omega
  have hdd : drainN (putN h) m ks w = (ks,w) := by
   cases m with
   | zero => rfl
   | succ m => rw [drainN,if_neg h6]
  rw [← hdr,hdd]
  have hkl := masss_len ks
  have c3 := tree_parts n.low ks w [] (by omega) (by omega)
  simp only [ndv,zB] at c3
  refine V.execS [8] 400 ?_
  simp +contextual (maxSteps:=9^7) only [go_sem,h6',mbx]
  refine V.pubc 0 1 1 true [.val (.str n.low),.ref 1,.val (.row (w.map Note.pv)),.val (.row [])] 25 (ks.map Nd.pv) (by simp only [go_sem]) rfl (by simp only [go_sem]) ?_
  refine V.exec 400 ?_
  simp +contextual (maxSteps:=9^7) only [go_sem,List.set_cons_succ,List.set_cons_zero]
  refine V.call rfl rfl (by simp [dOK]) ⟨110,[],by simp only [go_sem],⟨_,rfl,rfl,rfl⟩,.inl ⟨[.ptr (.agg [.str n.low,.row (ks.map Nd.pv),.row (w.map Note.pv),.row []])],_,.inl (by simp only [go_sem]),c3,.inr (.inl ⟨_,rfl,rfl,rfl⟩)⟩⟩ ?_
  refine V.exec 400 ?_
  simp +contextual (maxSteps:=9^7) only [go_sem]
theorem put_ct {B : Nat} (hB : B ≤ 10000) : ∀ h,PutCt h B
 | 0 => put_leaf hB
 | h + 1 => put_node hB (put_ct hB h)
theorem partsN_len (lo : List UInt8) (l : List Nd) (w : List Note) : (partsN lo l w).length = (l.length + 3) / 4 := by
 rw [partsN,mk_eq _ _ _ (partLows_len lo (groups l)),List.length_mapIdx,List.length_zip,partLows_len,Nat.min_self]
 exact (groups_spec l).2.1
theorem tree_Apply1 (x : Note) : Ct pG 107 (Zv.ops [x.pv]) (.vals [.bool (decide (¬ x.ok))]) := by
 have hc := note_Right x
 refine Ct.of_V Tryz.func107 rfl (by simp [Zv.ops,Tryz.f107]) ?_
 refine V.exec 400 ?_
 simp +contextual (maxSteps:=9^7) only [go_sem,Tryz.f107,Note.pv]
 refine V.call rfl rfl (by simp [dOK]) ⟨108,[],by simp only [go_sem],⟨_,rfl,rfl,rfl⟩,.inl ⟨[x.pv],_,.inl (by simp only [go_sem,Note.pv]),hc,.inl ⟨_,rfl,rfl,rfl,rfl⟩⟩⟩ ?_
 refine V.exec 400 ?_
 simp +contextual (maxSteps:=9^7) only [go_sem]
theorem Contains_badT (ns : List Note) (hl : ns.length ≤ 1000000) : Ct pG 106 (Zv.ops [.row (ns.map Note.pv),.fn 107 []]) (.vals [.bool (decide (¬ notesOk ns))]) := by
 unfold notesOk
 obtain ⟨r,hr,hr1,hr2,hr3⟩ := first_of (fun y => decide (¬ (Note.of y).ok)) (ns.map Note.pv)
 have hi := IndexFuncNote (ns.map Note.pv) 107 [] (fun y => decide (¬ (Note.of y).ok)) (fun y hy => by
   obtain ⟨s,_,rfl⟩ := zN.1 hy
   exact ⟨rfl,rfl⟩) (by simpa using hl) ⟨_,rfl,rfl,rfl⟩ (fun y hy => by
   obtain ⟨s,_,rfl⟩ := zN.1 hy
   rw [Note.of_pv]
   simpa using tree_Apply1 s) r hr hr1 hr2
 refine Ct.of_V Tryz.func106 rfl (by simp [Zv.ops,Tryz.f106]) ?_
 refine V.exec 400 ?_
 simp +contextual (maxSteps:=9^7) only [go_sem,Tryz.f106]
 refine V.call rfl rfl (by simp [dOK]) ⟨144,[],by simp only [go_sem],⟨_,rfl,rfl,rfl⟩,.inl ⟨[.row (ns.map Note.pv),.fn 107 []],_,.inl (by simp only [go_sem]),hi,.inl ⟨_,rfl,rfl,rfl,rfl⟩⟩⟩ ?_
 refine V.exec 400 ?_
 simp +contextual (maxSteps:=9^7) only [go_sem]
 have e : (∃ y ∈ ns.map Note.pv,decide (¬ (Note.of y).ok) = true) ↔ ¬ ∀ x ∈ ns,x.ok := by
  constructor
  ·rintro ⟨y,hy,hp⟩ hc
   obtain ⟨s,hs,rfl⟩ := zN.1 hy
   rw [Note.of_pv] at hp
   simp at hp
   exact hp (hc s hs)
  ·intro h
   simp only [Classical.not_forall] at h
   obtain ⟨x,hx,hp⟩ := h
   exact ⟨x.pv,List.mem_map_of_mem hx,by rw [Note.of_pv]; simpa using hp⟩
 rw [e] at hr3
 rw [zW] at hr3
 by_cases hc : ∀ x ∈ ns,x.ok
 ·have : ¬ r < ns.length := fun h => (hr3.1 h) hc
  simp [this]
  exact hc
 ·have h2 := hr3.2 hc
  simp [h2,hc]
theorem trPv (t : Tr) : ∃ x,Tr.pv t = .agg [x] ∧ x.isAgg = false ∧ x.cells = [x] := by
 cases t with
 | none => exact ⟨.nilp,rfl,rfl,rfl⟩
 | some n => exact ⟨n.pv,rfl,Nd.pv_isAgg n,Nd.pv_cells n⟩
set_option maxRecDepth 20000 in
set_option maxHeartbeats 8000000 in
theorem tree_Apply_bad (t : Tr) (ns : List Note) (hl : ns.length ≤ 1000000) (hn : ¬ notesOk ns) : Ct pG 63 (Zv.ops [Tr.pv t,.row (ns.map Note.pv)]) (.vals [Tr.pv t,.int .i64 1]) := by
 obtain ⟨x,ex,ex2,ex3⟩ := trPv t
 have c1 := Contains_badT ns hl
 rw [ex]
 refine Ct.of_V Tryz.func63 rfl (by simp [Zv.ops,Tryz.f63]) ?_
 refine V.exec 400 ?_
 simp +contextual (maxSteps:=9^7) only [go_sem,Tryz.f63,ex2,ex3]
 refine V.call rfl rfl (by simp [dOK]) ⟨106,[],by simp only [go_sem],⟨_,rfl,rfl,rfl⟩,.inl ⟨[.row (ns.map Note.pv),.fn 107 []],_,.inl (by simp only [go_sem]),c1,.inl ⟨_,rfl,rfl,rfl,rfl⟩⟩⟩ ?_
 refine V.exec 400 ?_
 simp +contextual (maxSteps:=9^7) only [go_sem,hn,ex2,ex3]
theorem collapse_stop (m : Nat) (n : Nd) (hc : ¬ (n.kids.length = 1 ∧ n.wait.length = 0)) : collapseN m n = n := by
 cases m with
 | zero => rfl
 | succ m =>
  obtain ⟨lo,ks,w,p⟩ := n
  unfold collapseN
  split
  ·rename_i he
   cases he
  ·rename_i he
   simp only [Nd.kids,Nd.wait,Nd.mk.injEq] at hc he
   obtain ⟨_,rfl,rfl,_⟩ := he
   exact absurd ⟨rfl,rfl⟩ hc
  ·rfl
set_option maxRecDepth 20000 in
set_option maxHeartbeats 16000000 in
theorem tree_Apply_ok {h M : Nat} {t : Tr} {L : List Pair} {ns : List Note} (r : Root h (topN t) L M) (hn : notesOk ns) (hM : M + ns.length ≤ 10000) : Ct pG 63 (Zv.ops [Tr.pv t,.row (ns.map Note.pv)]) (.vals [Tr.pv (applyT h t ns),.int .i64 0]) := by
 obtain ⟨x,ex,ex2,ex3⟩ := trPv t
 have hrm := r.mass
 have c1 := Contains_badT ns (by omega)
 have c2 := tree_top t
 have hin : ∀ x ∈ ns,In (topN t).low none x.key := fun x hx => ⟨by rw [r.low]; exact slt_nil _,fun b hb => by cases hb⟩
 have c3 := put_ct (B := 10000) (by omega) h none (topN t) ns r.wf hn hin (by omega)
 have ps := put_spec h none (topN t) ns r.wf hn hin
 have ea : putN h (topN t) ns ≠ [] → applyT h t ns = some (collapseN (h + (putN h (topN t) ns).length) (headNd (growN (putN h (topN t) ns).length (putN h (topN t) ns)))) := fun hne => by
  unfold applyT
  cases hc : putN h (topN t) ns with
  | nil => exact absurd hc hne
  | cons k ks => rfl
 have ea0 : putN h (topN t) ns = [] → applyT h t ns = none := fun he => by unfold applyT; rw [he]
 rw [ex] at c2 ⊢
 have hml := masss_len (putN h (topN t) ns)
 have hmm := ps.mass
 have hlow := ps.head
 have hfull := ps.full
 have hseg := ps.seg
 rw [r.low] at hlow
 generalize putN h (topN t) ns = l0 at *
 generalize applyT h t ns = T at *
 refine Ct.of_V Tryz.func63 rfl (by simp [Zv.ops,Tryz.f63]) ?_
 refine V.exec 400 ?_
 simp +contextual (maxSteps:=9^7) only [go_sem,Tryz.f63,ex2,ex3]
 refine V.call rfl rfl (by simp [dOK]) ⟨106,[],by simp only [go_sem],⟨_,rfl,rfl,rfl⟩,.inl ⟨[.row (ns.map Note.pv),.fn 107 []],_,.inl (by simp only [go_sem]),c1,.inl ⟨_,rfl,rfl,rfl,rfl⟩⟩⟩ ?_
 refine V.exec 400 ?_
 simp +contextual (maxSteps:=9^7) only [go_sem,hn,ex2,ex3]
 refine V.call rfl rfl (by simp [dOK]) ⟨76,[],by simp only [go_sem],⟨_,rfl,rfl,rfl⟩,.inl ⟨[.agg [x]],_,.inl (by simp only [go_sem]),c2,.inr (.inl ⟨_,rfl,rfl,rfl⟩)⟩⟩ ?_
 refine V.exec 400 ?_
 simp +contextual (maxSteps:=9^7) only [go_sem]
 refine V.call rfl rfl (by simp [dOK]) ⟨109,[],by simp only [go_sem],⟨_,rfl,rfl,rfl⟩,.inl ⟨[(topN t).pv,.row (ns.map Note.pv)],_,.inl (by simp only [go_sem]),c3,.inr (.inl ⟨_,rfl,rfl,rfl⟩)⟩⟩ ?_
 refine V.exec 400 ?_
 by_cases hl0 : l0 = []
 ·have h00 : ((0 : Nat) : Int) = 0 := rfl
  rw [ea0 hl0]
  subst hl0
  simp +contextual (maxSteps:=9^7) only [go_sem,zB,List.length_nil,h00,Tr.pv]
 ·have hlp : 0 < l0.length := List.length_pos_iff.2 hl0
  have hl00 : ¬ (l0.length : Int) = 0 := by omega
  rw [ea hl0]
  obtain ⟨h',g,e1,e2,e3,e4,e5,e6⟩ := grow_spec l0.length h l0 (zR _) hseg hl0 (hlow hl0) (fun h0 _ => hfull h0)
  rw [e1]
  simp +contextual (maxSteps:=9^7) only [go_sem,hl00]
  refine V.loop (fun m ls os => ∃ (l : List Nd),l.length ≤ m ∧ l ≠ [] ∧ l.length ≤ 10000 ∧ growN m l = [g] ∧ ls = [(4,.adr 0 0),(6,.val (.row (l.map Nd.pv)))] ∧ os = [.box true [.val .nilp]]) 1 l0.length
   [(4,.adr 0 0),(6,.val (.row (l0.map Nd.pv)))] [.box true [.val .nilp]] [some 3]
   ⟨l0,zR _,hl0,by omega,e1,rfl,rfl⟩ (by simp only [go_sem]; try decide) ?_
  rintro m ls os ⟨l,hlm,hlne,hll,hgr,rfl,rfl⟩
  have hll0 : 0 < l.length := List.length_pos_iff.2 hlne
  by_cases h1 : 1 < l.length
  ·have h1' : (1 : Int) < (l.length : Int) := by omega
   have c4 := tree_parts [] l [] [] (by omega) (by simp)
   simp only [ndv,zB] at c4
   have hpl := partsN_len [] l []
   obtain ⟨m',rfl⟩ : ∃ m',m = m' + 1 := ⟨m - 1,by omega⟩
   rw [growN,if_pos h1] at hgr
   refine V.exec 400 ?_
   simp +contextual (maxSteps:=9^7) only [go_sem,h1']
   refine V.call rfl rfl (by simp [dOK]) ⟨110,[],by simp only [go_sem],⟨_,rfl,rfl,rfl⟩,.inl ⟨[.ptr (.agg [.str [],.row (l.map Nd.pv),.row [],.row []])],_,.inl (by simp only [go_sem]),c4,.inr (.inl ⟨_,rfl,rfl,rfl⟩)⟩⟩ ?_
   refine V.exec 400 ?_
   simp +contextual (maxSteps:=9^7) only [go_sem]
   exact ⟨m',_,_,[some 0],by omega,⟨partsN [] l [],by omega,fun he => by rw [he] at hpl; simp at hpl; omega,by omega,hgr,rfl,rfl⟩,by simp only [go_sem]; try decide⟩
  ·have h1' : ¬ (1 : Int) < (l.length : Int) := by omega
   have hlg : l = [g] := by
    cases m with
    | zero => exact hgr
    | succ m => rw [growN,if_neg h1] at hgr; exact hgr
   subst hlg
   have h0g : (([g] : List Nd).map Nd.pv)[(0 : Int).toNat]? = some g.pv := rfl
   refine V.exec 400 ?_
   have h11 : ¬ (1 : Int) < ((1 : Nat) : Int) := by decide
   simp +contextual (maxSteps:=9^7) only [go_sem,h1',zC,zB,zT,List.length_nil,Int.le_refl,Int.toNat_zero,h11]
   obtain ⟨f,hf⟩ : ∃ f,f = h + l0.length := ⟨_,rfl⟩
   have hC : collapseN (h + l0.length) (headNd [g]) = collapseN f g := by rw [hf]; rfl
   rw [hC]
   refine V.loop (fun m ls os => ∃ (n' : Nd) (h2 : Nat),h2 ≤ m ∧ WF h2 none n' ∧ collapseN m n' = collapseN f g ∧ ls = [(4,.adr 0 0),(7,.val n'.pv)] ∧ os = [.box true [.val .nilp]]) 1 f
    [(4,.adr 0 0),(7,.val g.pv)] [.box true [.val .nilp]] [some 0]
    ⟨g,h',by omega,e3,rfl,rfl,rfl⟩ (by simp only [go_sem]; try decide) ?_
   rintro m ls os ⟨n',h2,hle,wf,hcl,rfl,rfl⟩
   rw [Nd.pv_eq]
   by_cases hk1 : n'.kids.length = 1
   ·have hk1' : (n'.kids.length : Int) = 1 := by omega
    by_cases hw0 : n'.wait.length = 0
    ·have hw0' : (n'.wait.length : Int) = 0 := by omega
     obtain ⟨k,hk⟩ := List.length_eq_one_iff.1 hk1
     have hw := zP hw0
     obtain ⟨lo,ks,w,p⟩ := n'
     simp only [Nd.kids,Nd.wait] at hk hw
     subst hk
     subst hw
     simp only [Nd.kids,Nd.wait,Nd.low,Nd.pairs] at hk1' hw0' ⊢
     have h1e : ((1 : Nat) : Int) = 1 := rfl
     have h0e : ((0 : Nat) : Int) = 0 := rfl
     have h0k : ([k].map Nd.pv)[(0 : Int).toNat]? = some k.pv := rfl
     cases h2 with
     | zero => exact absurd wf.1 (by simp [Nd.kids])
     | succ h2 =>
      obtain ⟨m',rfl⟩ : ∃ m',m = m' + 1 := ⟨m - 1,by omega⟩
      have wk : WF h2 none k := wf.2.2.2.2.2.2.1.1
      refine V.exec 400 ?_
      simp +contextual (maxSteps:=9^7) only [go_sem,h1e,h0e,zC,zB,zT,List.length_nil,Int.le_refl,Int.toNat_zero]
      exact ⟨m',_,_,[some 0],by omega,⟨k,h2,by omega,wk,hcl,rfl,rfl⟩,by simp only [go_sem]; try decide⟩
    ·have hw0' : ¬ (n'.wait.length : Int) = 0 := by omega
     rw [← hcl,collapse_stop m n' (fun hx => hw0 hx.2),show Tr.pv (some n') = .agg [n'.pv] from rfl,Nd.pv_eq]
     refine V.exec 400 ?_
     simp +contextual (maxSteps:=9^7) only [go_sem,hk1',hw0']
   ·have hk1' : ¬ (n'.kids.length : Int) = 1 := by omega
    rw [← hcl,collapse_stop m n' (fun hx => hk1 hx.1),show Tr.pv (some n') = .agg [n'.pv] from rfl,Nd.pv_eq]
    refine V.exec 400 ?_
    simp +contextual (maxSteps:=9^7) only [go_sem,hk1']
theorem tree_Apply {t : Tr} {L : List Pair} {H M : Nat} (g : GoodT t L H M) (ns : List Note) (hM : M + ns.length ≤ 10000) : ∃ t',Ct pG 63 (Zv.ops [Tr.pv t,.row (ns.map Note.pv)]) (.vals [Tr.pv t',.int .i64 (if notesOk ns then 0 else 1)]) ∧ GoodT t' (if notesOk ns then appV L ns else L) (H + M + ns.length) (M + ns.length) := by
 by_cases hn : notesOk ns
 ·obtain ⟨h,hh,r⟩ := g
  rw [if_pos hn,if_pos hn]
  exact ⟨_,tree_Apply_ok r hn hM,(apply_spec r hn).mono (by omega) (by omega)⟩
 ·rw [if_neg hn,if_neg hn]
  exact ⟨t,tree_Apply_bad t ns (by omega) hn,g.mono (by omega) (by omega)⟩
def trX : Tr → PV
 | none => .nilp
 | some n => n.pv
theorem trX_pv (t : Tr) : Tr.pv t = .agg [trX t] := by cases t <;> rfl
theorem trX_cells (t : Tr) : (trX t).cells = [trX t] := by
 cases t with
 | none => rfl
 | some n => exact Nd.pv_cells n
theorem trX_agg (t : Tr) : (trX t).isAgg = false := by
 cases t with
 | none => rfl
 | some n => exact Nd.pv_isAgg n
theorem GoodT.len {t : Tr} {L : List Pair} {H M : Nat} (g : GoodT t L H M) : L.length ≤ 5 * M := by
 obtain ⟨h,_,r⟩ := g
 have := all_len h none (topN t) r.wf
 rw [r.all] at this
 exact Nat.le_trans this (Nat.mul_le_mul_left 5 r.mass)
def allR : Range := ⟨[],[],true⟩
theorem pickV_all (L : List Pair) : pickV allR L = L := by
 unfold pickV
 rw [List.filter_eq_self]
 intro x _
 simp only [decide_eq_true_eq]
 exact ⟨slt_nil _,.inl rfl⟩
theorem tree_ApplyK {t : Tr} {L : List Pair} {H M : Nat} (g : GoodT t L H M) (ns : List Note) (hn : notesOk ns) (hM : M + ns.length ≤ 10000) : ∃ t',Ct pG 63 (Zv.ops [.agg [trX t],.row (ns.map Note.pv)]) (.vals [.agg [trX t'],.int .i64 0]) ∧ GoodT t' (appV L ns) (H + M + ns.length) (M + ns.length) := by
 obtain ⟨t',c,g'⟩ := tree_Apply g ns hM
 rw [if_pos hn,trX_pv t,trX_pv t'] at c
 rw [if_pos hn] at g'
 exact ⟨t',c,g'⟩
theorem tree_ScanA {t : Tr} {L : List Pair} {H M : Nat} (g : GoodT t L H M) (hM : M ≤ 10000) : Ct pG 52 (Zv.ops [.agg [trX t],allR.pv]) (.vals [.row (L.map Pair.pv)]) := by
 have c := tree_Scan t L _ _ allR g hM
 rw [pickV_all,trX_pv t] at c
 exact c
theorem tree_ScanR {t : Tr} {L : List Pair} {H M : Nat} (g : GoodT t L H M) (r : Range) (hM : M ≤ 10000) : Ct pG 52 (Zv.ops [.agg [trX t],r.pv]) (.vals [.row ((pickV r L).map Pair.pv)]) := by
 have c := tree_Scan t L _ _ r g hM
 rw [trX_pv t] at c
 exact c
theorem tree_GetA {t : Tr} {L : List Pair} {H M : Nat} (g : GoodT t L H M) (k : List UInt8) : Ct pG 32 (Zv.ops [.agg [trX t],.str k]) (.vals [.str (getV L k).1,.bool (decide ((getV L k).2 = true))]) := by
 have c := tree_Get t L _ _ k g
 rw [trX_pv t] at c
 exact c
def storeX (t : Tr) (k : KSt) : PV := .agg [trX t,.row (k.T.map Change.pv),.row (k.S.map Sub.pv),.int .i64 k.seq,.int .i64 k.floor]
theorem keeper_all : Ct pG 53 (Zv.ops []) (.vals [allR.pv]) := by
 refine Ct.of_V Tryz.func53 rfl (by simp [Zv.ops,Tryz.f53]) ?_
 refine V.exec 400 ?_
 simp +contextual (maxSteps:=9^7) only [go_sem,Tryz.f53,Range.pv,allR]
theorem keeper_refused (t : Tr) (k : KSt) (e : Int) : Ct pG 40 (Zv.ops [storeX t k,.int .i64 e]) (.vals [storeX t k,(Tell.bad e).pv]) := by
 have u1 := trX_cells t
 have u2 := trX_agg t
 refine Ct.of_V Tryz.func40 rfl (by simp [Zv.ops,Tryz.f40]) ?_
 refine V.exec 400 ?_
 simp +contextual (maxSteps:=9^7) only [go_sem,Tryz.f40,storeX,Tell.bad,Tell.pv,Chunk.zero,u1,u2]
theorem keeper_Show {t : Tr} {k : KSt} {H M : Nat} (g : GoodT t k.L H M) (hM : M ≤ 10000) (hT : k.T.length ≤ 1000000) (hS : k.S.length ≤ 1000000) : Ct pG 20 (Zv.ops [storeX t k]) (.vals [k.pv]) := by
 have u1 := trX_cells t
 have u2 := trX_agg t
 have c1 := tree_ScanA g hM
 have c2 := (CloneChange (k.T.map Change.pv) (fun x hx => by obtain ⟨c,_,rfl⟩ := zN.1 hx; rfl) (by simpa using hT)).forget
 have c3 := (CloneSub (k.S.map Sub.pv) (fun x hx => by obtain ⟨c,_,rfl⟩ := zN.1 hx; rfl) (by simpa using hS)).forget
 refine Ct.of_V Tryz.func20 rfl (by simp [Zv.ops,Tryz.f20]) ?_
 refine V.exec 400 ?_
 simp +contextual (maxSteps:=9^7) only [go_sem,Tryz.f20,storeX,u1,u2]
 refine DV.call [] [] (by simp only [go_sem,Range.pv,allR]) (by simp [dOK]) ⟨53,[],by simp only [go_sem,Range.pv,allR],⟨_,rfl,rfl,rfl⟩,.inl ⟨[],_,.inl (by simp only [go_sem,Range.pv,allR]),keeper_all,.inr (.inl ⟨_,rfl,rfl,rfl⟩)⟩⟩ (by simp only [go_sem,Range.pv,allR]) (by simp only [go_sem,Range.pv,allR]) (by simp only [go_sem,Range.pv,allR]) (by simp) ?_
 refine DV.exec 400 ?_
 simp +contextual (maxSteps:=9^7) only [go_sem,u1,u2]
 refine DV.call [] [] (by simp only [go_sem,Range.pv,allR]) (by simp [dOK]) ⟨52,[],by simp only [go_sem,Range.pv,allR],⟨_,rfl,rfl,rfl⟩,.inl ⟨[.agg [trX t],allR.pv],_,.inl (by simp only [go_sem,Range.pv,allR]),c1,.inr (.inl ⟨_,rfl,rfl,rfl⟩)⟩⟩ (by simp only [go_sem,Range.pv,allR]) (by simp only [go_sem,Range.pv,allR]) (by simp only [go_sem,Range.pv,allR]) (by simp) ?_
 refine DV.exec 400 ?_
 simp +contextual (maxSteps:=9^7) only [go_sem,u1,u2]
 refine DV.call [] [] (by simp only [go_sem]) (by simp [dOK]) ⟨54,[],by simp only [go_sem],⟨_,rfl,rfl,rfl⟩,.inl ⟨[.row (k.T.map Change.pv)],_,.inl (by simp only [go_sem]),c2,.inr (.inl ⟨_,rfl,rfl,rfl⟩)⟩⟩ (by simp only [go_sem]) (by simp only [go_sem]) (by simp only [go_sem]) (by simp) ?_
 refine DV.exec 400 ?_
 simp +contextual (maxSteps:=9^7) only [go_sem,u1,u2]
 refine DV.call [] [] (by simp only [go_sem]) (by simp [dOK]) ⟨55,[],by simp only [go_sem],⟨_,rfl,rfl,rfl⟩,.inl ⟨[.row (k.S.map Sub.pv)],_,.inl (by simp only [go_sem]),c3,.inr (.inl ⟨_,rfl,rfl,rfl⟩)⟩⟩ (by simp only [go_sem]) (by simp only [go_sem]) (by simp only [go_sem]) (by simp) ?_
 refine DV.exec 400 ?_
 simp +contextual (maxSteps:=9^7) only [go_sem,u1,u2,KSt.pv]
 kernel_rfl
theorem KSt.ok.lens {k : KSt} (h : k.ok) : k.L.length ≤ 60 ∧ k.T.length ≤ 60 ∧ k.S.length ≤ 4 := ⟨h.2.2.2.1,h.2.2.2.2.1,h.2.2.1.2⟩
theorem findV_ok {l : List Sub} (h : subsOk l) (id : Int) : findV l id = match findL l id with | some x => (x,0) | none => (Sub.zero,3) := by
 unfold findV; rw [if_pos h]
 cases findL l id <;> rfl
set_option maxHeartbeats 4000000 in
theorem keeper_join (t : Tr) {k : KSt} (s : Sub) (hS : k.S.length ≤ 1000000) : Ct pG 34 (Zv.ops [storeX t k,s.pv]) (.vals [storeX t (joinV2 k s).1,(joinV2 k s).2.pv]) := by
 have u1 := trX_cells t
 have u2 := trX_agg t
 have c1 := floor_Add k.S s hS
 have c2 := fun e => keeper_refused t k e
 have hv : joinV2 k s = withV k (addV k.S s).1 (addV k.S s).2.1 (addV k.S s).2.2 := rfl
 obtain ⟨l,n,e,he⟩ : ∃ l n e,addV k.S s = (l,n,e) := ⟨_,_,_,rfl⟩
 rw [he] at c1 hv
 rw [hv]
 refine Ct.of_V Tryz.func34 rfl (by simp [Zv.ops,Tryz.f34]) ?_
 refine V.exec 400 ?_
 simp +contextual (maxSteps:=9^7) only [go_sem,Tryz.f34,storeX,Sub.pv,u1,u2]
 refine V.call rfl rfl (by simp [dOK]) ⟨80,[],by simp only [go_sem],⟨_,rfl,rfl,rfl⟩,.inl ⟨[.row (k.S.map Sub.pv),s.pv],_,.inl (by simp only [go_sem,Sub.pv]),c1,.inr (.inl ⟨_,rfl,rfl,rfl⟩)⟩⟩ ?_
 refine V.exec 400 ?_
 by_cases h0 : e = 0
 ·simp +contextual (maxSteps:=9^7) only [go_sem,h0,u1,u2,withV,Tell.num,Tell.pv,Chunk.zero]
 ·simp +contextual (maxSteps:=9^7) only [go_sem,h0,u1,u2]
  refine V.call rfl rfl (by simp [dOK]) ⟨40,[],by simp only [go_sem],⟨_,rfl,rfl,rfl⟩,.inl ⟨[storeX t k,.int .i64 e],_,.inl (by simp only [go_sem,storeX]),c2 e,.inr (.inl ⟨_,rfl,rfl,rfl⟩)⟩⟩ ?_
  refine V.exec 400 ?_
  simp +contextual (maxSteps:=9^7) only [go_sem,h0,u1,u2,storeX,withV,Tell.pv,Tell.bad,Chunk.zero]
set_option maxHeartbeats 4000000 in
theorem keeper_from (t : Tr) {k : KSt} (c : Cmd) (hS : k.S.length ≤ 1000000) : Ct pG 35 (Zv.ops [storeX t k,c.pv])
  (.vals [storeX t (if c.seq < k.floor then (k,Tell.bad 8) else if k.seq < c.seq then (k,Tell.bad 9) else joinV2 k ⟨0,c.r,true,[],c.seq⟩).1,(if c.seq < k.floor then (k,Tell.bad 8) else if k.seq < c.seq then (k,Tell.bad 9) else joinV2 k ⟨0,c.r,true,[],c.seq⟩).2.pv]) := by
 have u1 := trX_cells t
 have u2 := trX_agg t
 have c1 := keeper_join t (k := k) ⟨0,c.r,true,[],c.seq⟩ hS
 have c2 := fun e => keeper_refused t k e
 refine Ct.of_V Tryz.func35 rfl (by simp [Zv.ops,Tryz.f35]) ?_
 refine V.exec 400 ?_
 simp +contextual (maxSteps:=9^7) only [go_sem,Tryz.f35,storeX,Cmd.pv,u1,u2]
 by_cases h1 : c.seq < k.floor
 ·simp +contextual (maxSteps:=9^7) only [go_sem,h1]
  refine V.call rfl rfl (by simp [dOK]) ⟨40,[],by simp only [go_sem],⟨_,rfl,rfl,rfl⟩,.inl ⟨[storeX t k,.int .i64 8],_,.inl (by simp only [go_sem,storeX]),c2 8,.inr (.inl ⟨_,rfl,rfl,rfl⟩)⟩⟩ ?_
  refine V.exec 400 ?_
  simp +contextual (maxSteps:=9^7) only [go_sem,h1,u1,u2,storeX,Tell.pv,Tell.bad]
 ·by_cases h2 : k.seq < c.seq
  ·simp +contextual (maxSteps:=9^7) only [go_sem,h1,h2]
   refine V.call rfl rfl (by simp [dOK]) ⟨40,[],by simp only [go_sem],⟨_,rfl,rfl,rfl⟩,.inl ⟨[storeX t k,.int .i64 9],_,.inl (by simp only [go_sem,storeX]),c2 9,.inr (.inl ⟨_,rfl,rfl,rfl⟩)⟩⟩ ?_
   refine V.exec 400 ?_
   simp +contextual (maxSteps:=9^7) only [go_sem,h1,h2,u1,u2,storeX,Tell.pv,Tell.bad]
  ·simp +contextual (maxSteps:=9^7) only [go_sem,h1,h2]
   generalize joinV2 k ⟨0,c.r,true,[],c.seq⟩ = jv at *
   refine V.call rfl rfl (by simp [dOK]) ⟨34,[],by simp only [go_sem],⟨_,rfl,rfl,rfl⟩,.inl ⟨[storeX t k,Sub.pv ⟨0,c.r,true,[],c.seq⟩],_,.inl (by simp only [go_sem,storeX,Sub.pv]),c1,.inr (.inl ⟨_,rfl,rfl,rfl⟩)⟩⟩ ?_
   refine V.exec 400 ?_
   simp +contextual (maxSteps:=9^7) only [go_sem,h1,h2,u1,u2,storeX,Tell.pv]
set_option maxHeartbeats 4000000 in
theorem keeper_leave (t : Tr) {k : KSt} (c : Cmd) (hS : k.S.length ≤ 1000000) : Ct pG 38 (Zv.ops [storeX t k,c.pv])
  (.vals [storeX t (withV k (leaveV k.S c.id).1 0 (leaveV k.S c.id).2).1,(withV k (leaveV k.S c.id).1 0 (leaveV k.S c.id).2).2.pv]) := by
 have u1 := trX_cells t
 have u2 := trX_agg t
 have c1 := floor_Leave k.S c.id hS
 have c2 := fun e => keeper_refused t k e
 obtain ⟨l,e,he⟩ : ∃ l e,leaveV k.S c.id = (l,e) := ⟨_,_,rfl⟩
 rw [he] at c1 ⊢
 refine Ct.of_V Tryz.func38 rfl (by simp [Zv.ops,Tryz.f38]) ?_
 refine V.exec 400 ?_
 simp +contextual (maxSteps:=9^7) only [go_sem,Tryz.f38,storeX,Cmd.pv,u1,u2]
 refine V.call rfl rfl (by simp [dOK]) ⟨86,[],by simp only [go_sem],⟨_,rfl,rfl,rfl⟩,.inl ⟨[.row (k.S.map Sub.pv),.int .i64 c.id],_,.inl (by simp only [go_sem]),c1,.inr (.inl ⟨_,rfl,rfl,rfl⟩)⟩⟩ ?_
 refine V.exec 400 ?_
 by_cases h0 : e = 0
 ·simp +contextual (maxSteps:=9^7) only [go_sem,h0,u1,u2,withV,Tell.num,Tell.pv,Chunk.zero]
 ·simp +contextual (maxSteps:=9^7) only [go_sem,h0,u1,u2]
  refine V.call rfl rfl (by simp [dOK]) ⟨40,[],by simp only [go_sem],⟨_,rfl,rfl,rfl⟩,.inl ⟨[storeX t k,.int .i64 e],_,.inl (by simp only [go_sem,storeX]),c2 e,.inr (.inl ⟨_,rfl,rfl,rfl⟩)⟩⟩ ?_
  refine V.exec 400 ?_
  simp +contextual (maxSteps:=9^7) only [go_sem,h0,u1,u2,storeX,withV,Tell.pv,Tell.bad,Chunk.zero]
set_option maxHeartbeats 8000000 in
theorem keeper_goes {t : Tr} {k : KSt} {H M : Nat} (g : GoodT t k.L H M) (hM : M ≤ 10000) (h : k.ok) (c : Cmd) (hd : c.d = 8 ∨ c.d = 9) : Ct pG 37 (Zv.ops [storeX t k,c.pv]) (.vals [storeX t (goesV k c).1,(goesV k c).2.pv]) := by
 have u1 := trX_cells t
 have u2 := trX_agg t
 obtain ⟨hL,hT,hS⟩ := h.lens
 have c1 := floor_Find k.S c.id (by omega)
 rw [findV_ok h.2.2.1] at c1
 have c2 := fun e => keeper_refused t k e
 have c3 := tree_ScanA g hM
 have h30 : ¬ (3 : Int) = 0 := by decide
 unfold goesV
 refine Ct.of_V Tryz.func37 rfl (by simp [Zv.ops,Tryz.f37]) ?_
 refine V.exec 400 ?_
 simp +contextual (maxSteps:=9^7) only [go_sem,Tryz.f37,storeX,Cmd.pv,u1,u2]
 cases hx : findL k.S c.id with
 | none =>
  rw [hx] at c1
  simp only at c1
  refine V.call rfl rfl (by simp [dOK]) ⟨81,[],by simp only [go_sem],⟨_,rfl,rfl,rfl⟩,.inl ⟨[.row (k.S.map Sub.pv),.int .i64 c.id],_,.inl (by simp only [go_sem]),c1,.inr (.inl ⟨_,rfl,rfl,rfl⟩)⟩⟩ ?_
  refine V.exec 400 ?_
  simp +contextual (maxSteps:=9^7) only [go_sem,Sub.zero,Sub.pv,h30,u1,u2]
  refine V.call rfl rfl (by simp [dOK]) ⟨40,[],by simp only [go_sem],⟨_,rfl,rfl,rfl⟩,.inl ⟨[storeX t k,.int .i64 3],_,.inl (by simp only [go_sem,storeX]),c2 3,.inr (.inl ⟨_,rfl,rfl,rfl⟩)⟩⟩ ?_
  refine V.exec 400 ?_
  simp +contextual (maxSteps:=9^7) only [go_sem,u1,u2,storeX,Tell.pv,Tell.bad,Chunk.zero]
 | some x =>
  rw [hx] at c1
  simp only at c1
  refine V.call rfl rfl (by simp [dOK]) ⟨81,[],by simp only [go_sem],⟨_,rfl,rfl,rfl⟩,.inl ⟨[.row (k.S.map Sub.pv),.int .i64 c.id],_,.inl (by simp only [go_sem]),c1,.inr (.inl ⟨_,rfl,rfl,rfl⟩)⟩⟩ ?_
  refine V.exec 400 ?_
  simp +contextual (maxSteps:=9^7) only [go_sem,Sub.pv,u1,u2]
  by_cases h8 : c.d = 8
  ·have c4 := feed_Took x k.L k.T k.floor c.n (by omega) (by omega)
   obtain ⟨y,e,hy⟩ : ∃ y e,tookV x k.L k.T k.floor c.n = (y,e) := ⟨_,_,rfl⟩
   rw [hy] at c4 ⊢
   have c5 := floor_Set k.S y (by omega)
   simp +contextual (maxSteps:=9^7) only [go_sem,h8,u1,u2]
   refine DV.call [] [] (by simp only [go_sem,Range.pv,allR]) (by simp [dOK]) ⟨53,[],by simp only [go_sem,Range.pv,allR],⟨_,rfl,rfl,rfl⟩,.inl ⟨[],_,.inl (by simp only [go_sem,Range.pv,allR]),keeper_all,.inr (.inl ⟨_,rfl,rfl,rfl⟩)⟩⟩ (by simp only [go_sem,Range.pv,allR]) (by simp only [go_sem,Range.pv,allR]) (by simp only [go_sem,Range.pv,allR]) (by simp) ?_
   refine DV.exec 400 ?_
   simp +contextual (maxSteps:=9^7) only [go_sem,u1,u2]
   refine DV.call [] [] (by simp only [go_sem,Range.pv,allR]) (by simp [dOK]) ⟨52,[],by simp only [go_sem,Range.pv,allR],⟨_,rfl,rfl,rfl⟩,.inl ⟨[.agg [trX t],allR.pv],_,.inl (by simp only [go_sem,Range.pv,allR]),c3,.inr (.inl ⟨_,rfl,rfl,rfl⟩)⟩⟩ (by simp only [go_sem,Range.pv,allR]) (by simp only [go_sem,Range.pv,allR]) (by simp only [go_sem,Range.pv,allR]) (by simp) ?_
   refine DV.exec 400 ?_
   simp +contextual (maxSteps:=9^7) only [go_sem,u1,u2]
   refine DV.call [] [] (by simp only [go_sem,Sub.pv]) (by simp [dOK]) ⟨83,[],by simp only [go_sem,Sub.pv],⟨_,rfl,rfl,rfl⟩,.inl ⟨[x.pv,.row (k.L.map Pair.pv),.row (k.T.map Change.pv),.int .i64 k.floor,.int .i64 c.n],_,.inl (by simp only [go_sem,Sub.pv]),c4,.inr (.inl ⟨_,rfl,rfl,rfl⟩)⟩⟩ (by simp only [go_sem,Sub.pv]) (by simp only [go_sem,Sub.pv]) (by simp only [go_sem,Sub.pv]) (by simp) ?_
   refine DV.exec 400 ?_
   simp +contextual (maxSteps:=9^7) only [go_sem,u1,u2,Sub.pv]
   refine ⟨by kernel_rfl,?_⟩
   by_cases he : e = 0
   ·simp +contextual (maxSteps:=9^7) only [go_sem,he,Sub.pv,u1,u2]
    refine V.call rfl rfl (by simp [dOK]) ⟨85,[],by simp only [go_sem],⟨_,rfl,rfl,rfl⟩,.inl ⟨[.row (k.S.map Sub.pv),y.pv],_,.inl (by simp only [go_sem,Sub.pv]),c5,.inr (.inl ⟨_,rfl,rfl,rfl⟩)⟩⟩ ?_
    refine V.exec 400 ?_
    simp +contextual (maxSteps:=9^7) only [go_sem,u1,u2,storeX,withV,Tell.pv,Tell.num,Chunk.zero]
   ·simp +contextual (maxSteps:=9^7) only [go_sem,he,Sub.pv,u1,u2]
    refine V.call rfl rfl (by simp [dOK]) ⟨40,[],by simp only [go_sem],⟨_,rfl,rfl,rfl⟩,.inl ⟨[storeX t k,.int .i64 e],_,.inl (by simp only [go_sem,storeX]),c2 e,.inr (.inl ⟨_,rfl,rfl,rfl⟩)⟩⟩ ?_
    refine V.exec 400 ?_
    simp +contextual (maxSteps:=9^7) only [go_sem,he,u1,u2,storeX,withV,Tell.pv,Tell.bad,Chunk.zero]
  ·have c4 := feed_Ack x k.seq c.seq
   obtain ⟨y,e,hy⟩ : ∃ y e,ackV x k.seq c.seq = (y,e) := ⟨_,_,rfl⟩
   rw [hy] at c4 ⊢
   have c5 := floor_Set k.S y (by omega)
   simp +contextual (maxSteps:=9^7) only [go_sem,h8,u1,u2]
   refine V.call rfl rfl (by simp [dOK]) ⟨84,[],by simp only [go_sem],⟨_,rfl,rfl,rfl⟩,.inl ⟨[x.pv,.int .i64 k.seq,.int .i64 c.seq],_,.inl (by simp only [go_sem,Sub.pv]),c4,.inr (.inl ⟨_,rfl,rfl,rfl⟩)⟩⟩ ?_
   refine V.exec 400 ?_
   by_cases he : e = 0
   ·simp +contextual (maxSteps:=9^7) only [go_sem,he,Sub.pv,u1,u2]
    refine V.call rfl rfl (by simp [dOK]) ⟨85,[],by simp only [go_sem],⟨_,rfl,rfl,rfl⟩,.inl ⟨[.row (k.S.map Sub.pv),y.pv],_,.inl (by simp only [go_sem,Sub.pv]),c5,.inr (.inl ⟨_,rfl,rfl,rfl⟩)⟩⟩ ?_
    refine V.exec 400 ?_
    simp +contextual (maxSteps:=9^7) only [go_sem,u1,u2,storeX,withV,Tell.pv,Tell.num,Chunk.zero]
   ·simp +contextual (maxSteps:=9^7) only [go_sem,he,Sub.pv,u1,u2]
    refine V.call rfl rfl (by simp [dOK]) ⟨40,[],by simp only [go_sem],⟨_,rfl,rfl,rfl⟩,.inl ⟨[storeX t k,.int .i64 e],_,.inl (by simp only [go_sem,storeX]),c2 e,.inr (.inl ⟨_,rfl,rfl,rfl⟩)⟩⟩ ?_
    refine V.exec 400 ?_
    simp +contextual (maxSteps:=9^7) only [go_sem,he,u1,u2,storeX,withV,Tell.pv,Tell.bad,Chunk.zero]
set_option maxHeartbeats 8000000 in
theorem keeper_poll {t : Tr} {k : KSt} {H M : Nat} (g : GoodT t k.L H M) (hM : M ≤ 10000) (h : k.ok) (c : Cmd) : Ct pG 36 (Zv.ops [storeX t k,c.pv]) (.vals [(pollK k c).pv]) := by
 have u1 := trX_cells t
 have u2 := trX_agg t
 obtain ⟨hL,hT,hS⟩ := h.lens
 have c1 := floor_Find k.S c.id (by omega)
 rw [findV_ok h.2.2.1] at c1
 have c3 := tree_ScanA g hM
 have h30 : ¬ (3 : Int) = 0 := by decide
 unfold pollK
 refine Ct.of_V Tryz.func36 rfl (by simp [Zv.ops,Tryz.f36]) ?_
 refine V.exec 400 ?_
 simp +contextual (maxSteps:=9^7) only [go_sem,Tryz.f36,storeX,Cmd.pv,u1,u2]
 cases hx : findL k.S c.id with
 | none =>
  rw [hx] at c1
  simp only at c1
  refine V.call rfl rfl (by simp [dOK]) ⟨81,[],by simp only [go_sem],⟨_,rfl,rfl,rfl⟩,.inl ⟨[.row (k.S.map Sub.pv),.int .i64 c.id],_,.inl (by simp only [go_sem]),c1,.inr (.inl ⟨_,rfl,rfl,rfl⟩)⟩⟩ ?_
  refine V.exec 400 ?_
  simp +contextual (maxSteps:=9^7) only [go_sem,Sub.zero,Sub.pv,h30,u1,u2,Tell.pv,Tell.bad,Chunk.zero]
 | some x =>
  rw [hx] at c1
  simp only at c1
  refine V.call rfl rfl (by simp [dOK]) ⟨81,[],by simp only [go_sem],⟨_,rfl,rfl,rfl⟩,.inl ⟨[.row (k.S.map Sub.pv),.int .i64 c.id],_,.inl (by simp only [go_sem]),c1,.inr (.inl ⟨_,rfl,rfl,rfl⟩)⟩⟩ ?_
  refine V.exec 400 ?_
  simp +contextual (maxSteps:=9^7) only [go_sem,Sub.pv,u1,u2]
  have c4 := feed_Poll x k.L k.T k.floor c.n (by omega) (by omega)
  obtain ⟨y,e,hy⟩ : ∃ y e,pollV x k.L k.T k.floor c.n = (y,e) := ⟨_,_,rfl⟩
  rw [hy] at c4 ⊢
  refine DV.call [] [] (by simp only [go_sem,Range.pv,allR]) (by simp [dOK]) ⟨53,[],by simp only [go_sem,Range.pv,allR],⟨_,rfl,rfl,rfl⟩,.inl ⟨[],_,.inl (by simp only [go_sem,Range.pv,allR]),keeper_all,.inr (.inl ⟨_,rfl,rfl,rfl⟩)⟩⟩ (by simp only [go_sem,Range.pv,allR]) (by simp only [go_sem,Range.pv,allR]) (by simp only [go_sem,Range.pv,allR]) (by simp) ?_
  refine DV.exec 400 ?_
  simp +contextual (maxSteps:=9^7) only [go_sem,u1,u2]
  refine DV.call [] [] (by simp only [go_sem,Range.pv,allR]) (by simp [dOK]) ⟨52,[],by simp only [go_sem,Range.pv,allR],⟨_,rfl,rfl,rfl⟩,.inl ⟨[.agg [trX t],allR.pv],_,.inl (by simp only [go_sem,Range.pv,allR]),c3,.inr (.inl ⟨_,rfl,rfl,rfl⟩)⟩⟩ (by simp only [go_sem,Range.pv,allR]) (by simp only [go_sem,Range.pv,allR]) (by simp only [go_sem,Range.pv,allR]) (by simp) ?_
  refine DV.exec 400 ?_
  simp +contextual (maxSteps:=9^7) only [go_sem,u1,u2]
  refine DV.call [] [] (by simp only [go_sem,Sub.pv]) (by simp [dOK]) ⟨82,[],by simp only [go_sem,Sub.pv],⟨_,rfl,rfl,rfl⟩,.inl ⟨[x.pv,.row (k.L.map Pair.pv),.row (k.T.map Change.pv),.int .i64 k.floor,.int .i64 c.n],_,.inl (by simp only [go_sem,Sub.pv]),c4,.inr (.inl ⟨_,rfl,rfl,rfl⟩)⟩⟩ (by simp only [go_sem,Sub.pv]) (by simp only [go_sem,Sub.pv]) (by simp only [go_sem,Sub.pv]) (by simp) ?_
  refine DV.exec 400 ?_
  simp +contextual (maxSteps:=9^7) only [go_sem,u1,u2,Chunk.pv]
  refine ⟨by kernel_rfl,?_⟩
  simp +contextual (maxSteps:=9^7) only [go_sem,u1,u2,Chunk.pv,Tell.pv]
set_option maxHeartbeats 8000000 in
theorem keeper_scan {t : Tr} {k : KSt} {H M : Nat} (g : GoodT t k.L H M) (hM : M ≤ 10000) (h : k.ok) (c : Cmd) (seq : Int) : Ct pG 33 (Zv.ops [storeX t k,c.pv,.int .i64 seq]) (.vals [(pageK k c seq).pv]) := by
 have u1 := trX_cells t
 have u2 := trX_agg t
 obtain ⟨hL,hT,hS⟩ := h.lens
 have c1 := stretch_Right c.r
 have c2 := tree_ScanR g c.r hM
 have c3 := tree_ScanA g hM
 have c4 := past_Pages k.L k.T k.floor seq c.n c.r (by omega) (by omega)
 have hpl := pickV_len c.r k.L
 unfold pageK
 refine Ct.of_V Tryz.func33 rfl (by simp [Zv.ops,Tryz.f33]) ?_
 refine V.exec 400 ?_
 simp +contextual (maxSteps:=9^7) only [go_sem,Tryz.f33,storeX,Cmd.pv,u1,u2]
 by_cases hn : c.n < 1
 ·have hn' : ¬ 1 ≤ c.n := by omega
  simp +contextual (maxSteps:=9^7) only [go_sem,hn,hn',and_false,Tell.pv,Tell.bad,Chunk.zero]
 ·have hn' : 1 ≤ c.n := by omega
  simp +contextual (maxSteps:=9^7) only [go_sem,hn]
  refine V.call rfl rfl (by simp [dOK]) ⟨78,[],by simp only [go_sem],⟨_,rfl,rfl,rfl⟩,.inl ⟨[c.r.pv],_,.inl (by simp only [go_sem,Range.pv]),c1,.inl ⟨_,rfl,rfl,rfl,rfl⟩⟩⟩ ?_
  refine V.exec 400 ?_
  by_cases hr : c.r.ok
  ·by_cases hq : k.seq < seq
   ·simp +contextual (maxSteps:=9^7) only [go_sem,hr,hq,hn',and_true,Tell.pv,Tell.bad,Chunk.zero]
   ·by_cases he : seq = k.seq
    ·subst he
     have hat := h.now (Int.le_refl k.seq)
     have hp : pageV k.L k.T k.floor k.seq c.n c.r = ((pickV c.r k.L).take (cutN c.n (pickV c.r k.L).length),decide (cutN c.n (pickV c.r k.L).length < (pickV c.r k.L).length),0) := by
      unfold pageV; rw [hat]; rfl
     have hlt : ¬ k.seq < k.seq := by omega
     rw [hp]
     simp +contextual (maxSteps:=9^7) only [go_sem,hr,hlt,u1,u2]
     refine V.call rfl rfl (by simp [dOK]) ⟨52,[],by simp only [go_sem],⟨_,rfl,rfl,rfl⟩,.inl ⟨[.agg [trX t],c.r.pv],_,.inl (by simp only [go_sem,Range.pv]),c2,.inr (.inl ⟨_,rfl,rfl,rfl⟩)⟩⟩ ?_
     refine V.exec 400 ?_
     generalize pickV c.r k.L = w at *
     have hcm : (if (w.length : Int) < c.n then (w.length : Int) else c.n) = ((cutN c.n w.length : Nat) : Int) := by
      unfold cutN
      split <;> omega
     have hc2 : cutN c.n w.length ≤ w.length := by unfold cutN; omega
     simp +contextual (maxSteps:=9^7) only [go_sem,hcm]
     refine ⟨by omega,?_⟩
     simp +contextual (maxSteps:=9^7) only [go_sem,hr,hn',and_true,Tell.pv,List.map_take]
     simp
    ·simp +contextual (maxSteps:=9^7) only [go_sem,hr,hq,he,u1,u2]
     refine DV.call [] [] (by simp only [go_sem,Range.pv,allR]) (by simp [dOK]) ⟨53,[],by simp only [go_sem,Range.pv,allR],⟨_,rfl,rfl,rfl⟩,.inl ⟨[],_,.inl (by simp only [go_sem,Range.pv,allR]),keeper_all,.inr (.inl ⟨_,rfl,rfl,rfl⟩)⟩⟩ (by simp only [go_sem,Range.pv,allR]) (by simp only [go_sem,Range.pv,allR]) (by simp only [go_sem,Range.pv,allR]) (by simp) ?_
     refine DV.exec 400 ?_
     simp +contextual (maxSteps:=9^7) only [go_sem,u1,u2]
     refine DV.call [] [] (by simp only [go_sem,Range.pv,allR]) (by simp [dOK]) ⟨52,[],by simp only [go_sem,Range.pv,allR],⟨_,rfl,rfl,rfl⟩,.inl ⟨[.agg [trX t],allR.pv],_,.inl (by simp only [go_sem,Range.pv,allR]),c3,.inr (.inl ⟨_,rfl,rfl,rfl⟩)⟩⟩ (by simp only [go_sem,Range.pv,allR]) (by simp only [go_sem,Range.pv,allR]) (by simp only [go_sem,Range.pv,allR]) (by simp) ?_
     refine DV.exec 400 ?_
     simp +contextual (maxSteps:=9^7) only [go_sem,u1,u2]
     obtain ⟨p,m,e,hp⟩ : ∃ p m e,pageV k.L k.T k.floor seq c.n c.r = (p,m,e) := ⟨_,_,_,rfl⟩
     rw [hp] at c4 ⊢
     refine DV.call [] [] (by simp only [go_sem,Range.pv]) (by simp [dOK]) ⟨79,[],by simp only [go_sem,Range.pv],⟨_,rfl,rfl,rfl⟩,.inl ⟨[.row (k.L.map Pair.pv),.row (k.T.map Change.pv),.int .i64 k.floor,.int .i64 seq,.int .i64 c.n,c.r.pv],_,.inl (by simp only [go_sem,Range.pv]),c4,.inr (.inl ⟨_,rfl,rfl,rfl⟩)⟩⟩ (by simp only [go_sem,Range.pv]) (by simp only [go_sem,Range.pv]) (by simp only [go_sem,Range.pv]) (by simp) ?_
     refine DV.exec 400 ?_
     simp +contextual (maxSteps:=9^7) only [go_sem,u1,u2]
     refine ⟨by kernel_rfl,?_⟩
     by_cases h0 : e = 0
     ·simp +contextual (maxSteps:=9^7) only [go_sem,h0,hr,hn',hq,and_true,Tell.pv]
     ·simp +contextual (maxSteps:=9^7) only [go_sem,h0,hr,hn',hq,and_true,Tell.pv,Tell.bad,Chunk.zero]
  ·simp +contextual (maxSteps:=9^7) only [go_sem,hr,false_and,Tell.pv,Tell.bad,Chunk.zero]
theorem ofV_congr {a b : List Pair} (ha : pairsOk a) (hb : pairsOk b) {n : Note} (h : getV a n.key = getV b n.key) (seq : Int) : ofV a seq n = ofV b seq n := by
 unfold ofV
 rw [h]
 simp only [ha,hb]
def wasV (l : List Pair) (k : List UInt8) : List Pair := if (getV l k).2 = true then [⟨k,(getV l k).1⟩] else []
theorem wasV_ok {l : List Pair} (h : pairsOk l) {k : List UInt8} (hk : k.length ≤ 16) : pairsOk (wasV l k) ∧ getV (wasV l k) k = getV l k ∧ (wasV l k).length ≤ 1 := by
 unfold wasV
 by_cases hg : (getV l k).2 = true
 ·rw [if_pos hg]
  have hs := getV_short h k
  have ho : pairsOk [⟨k,(getV l k).1⟩] := (pairsOk_one k _).2 ⟨hk,hs⟩
  refine ⟨ho,?_,by simp⟩
  have key : ∀ v,pairsOk [⟨k,v⟩] → getV [⟨k,v⟩] k = (v,true) := fun v hv => by unfold getV; rw [if_pos hv]; simp [getL]
  rw [key _ ho]
  exact Prod.ext rfl hg.symm
 ·rw [if_neg hg]
  have hg' : (getV l k).2 = false := by simpa using hg
  refine ⟨pairsOk_nil,?_,by simp⟩
  have h1 := getV_none h k hg'
  exact Prod.ext h1.symm hg'.symm
theorem runV_err_eq {k : KSt} (h : k.ok) (ns : List Note) : (runV [] k.seq ns).2.2 = (runV k.L k.seq ns).2.2 := by
 have h1 := h.1
 unfold runV
 by_cases hc : batchOk ns ∧ 0 ≤ k.seq ∧ k.seq ≤ 2147483647
 ·have hA : batchOk ns ∧ pairsOk [] ∧ 0 ≤ k.seq ∧ k.seq ≤ 2147483647 := ⟨hc.1,pairsOk_nil,hc.2⟩
  have hB : batchOk ns ∧ pairsOk k.L ∧ 0 ≤ k.seq ∧ k.seq ≤ 2147483647 := ⟨hc.1,h1,hc.2⟩
  rw [if_pos hA,if_pos hB]
  split <;> rfl
 ·rw [if_neg (fun g => hc ⟨g.1,g.2.2⟩),if_neg (fun g => hc ⟨g.1,g.2.2⟩)]
theorem runGo_snoc (n : Note) : ∀ (a : List Note) (p : List Pair) (seq : Int) (out : List Change),runGo p seq out (a ++ [n]) =
  if (ofV (runGo p seq out a).2 (seq + (runGo p seq out a).1.length + 1) n).2 = 0 then ((runGo p seq out a).1 ++ [(ofV (runGo p seq out a).2 (seq + (runGo p seq out a).1.length + 1) n).1],oneV (runGo p seq out a).2 n) else runGo p seq out a
 | [],p,seq,out => by
  simp only [List.nil_append,runGo]
  rfl
 | x :: r,p,seq,out => by
  rw [List.cons_append,runGo,runGo]
  split
  ·exact runGo_snoc n r _ seq _
  ·exact runGo_snoc n r p seq out
theorem chain {α : Type} {P : Nat → α → Prop} {R : Nat → α → α → Prop} (a : α) (h0 : P 0 a) (hs : ∀ i u,P i u → ∃ u',P (i + 1) u' ∧ R i u u') : ∃ f : Nat → α,f 0 = a ∧ ∀ i,P i (f i) ∧ R i (f i) (f (i + 1)) := by
 let F : (i : Nat) → { u : α // P i u } := fun i => Nat.rec ⟨a,h0⟩ (fun i s => ⟨Classical.choose (hs i s.1 s.2),(Classical.choose_spec (hs i s.1 s.2)).1⟩) i
 exact ⟨fun i => (F i).1,rfl,fun i => ⟨(F i).2,(Classical.choose_spec (hs i (F i).1 (F i).2)).2⟩⟩
theorem trees {t : Tr} {k : KSt} {H M : Nat} (g : GoodT t k.L H M) (ns : List Note) (hn : notesAll ns) (hM : M + ns.length ≤ 10000) : ∃ us : Nat → Tr,us 0 = t ∧ ∀ i,(i ≤ ns.length → ∃ H',GoodT (us i) (runGo k.L k.seq [] (ns.take i)).2 H' (M + i)) ∧
  ∀ n,ns[i]? = some n → ((ofV (runGo k.L k.seq [] (ns.take i)).2 (k.seq + (runGo k.L k.seq [] (ns.take i)).1.length + 1) n).2 = 0 → Ct pG 63 (Zv.ops [.agg [trX (us i)],.row ([n].map Note.pv)]) (.vals [.agg [trX (us (i + 1))],.int .i64 0])) ∧
   ((ofV (runGo k.L k.seq [] (ns.take i)).2 (k.seq + (runGo k.L k.seq [] (ns.take i)).1.length + 1) n).2 ≠ 0 → us (i + 1) = us i) := by
 refine chain (P := fun i u => i ≤ ns.length → ∃ H',GoodT u (runGo k.L k.seq [] (ns.take i)).2 H' (M + i))
  (R := fun i u u' => ∀ n,ns[i]? = some n → ((ofV (runGo k.L k.seq [] (ns.take i)).2 (k.seq + (runGo k.L k.seq [] (ns.take i)).1.length + 1) n).2 = 0 → Ct pG 63 (Zv.ops [.agg [trX u],.row ([n].map Note.pv)]) (.vals [.agg [trX u'],.int .i64 0])) ∧
   ((ofV (runGo k.L k.seq [] (ns.take i)).2 (k.seq + (runGo k.L k.seq [] (ns.take i)).1.length + 1) n).2 ≠ 0 → u' = u)) t (fun _ => ⟨H,g⟩) fun i u hu => ?_
 by_cases hi : i < ns.length
 ·obtain ⟨H',gu⟩ := hu (by omega)
  obtain ⟨n,hx⟩ : ∃ n,ns[i]? = some n := ⟨_,zA hi⟩
  have hno : n.ok := hn n (zE hx)
  have et : ns.take (i + 1) = ns.take i ++ [n] := by rw [zL,hx]; rfl
  rw [et,runGo_snoc]
  by_cases he : (ofV (runGo k.L k.seq [] (ns.take i)).2 (k.seq + (runGo k.L k.seq [] (ns.take i)).1.length + 1) n).2 = 0
  ·rw [if_pos he]
   obtain ⟨u',ca,g'⟩ := tree_ApplyK gu [n] (fun y hy => by rw [List.mem_singleton] at hy; rw [hy]; exact hno) (by simp; omega)
   refine ⟨u',fun _ => ⟨_,g'⟩,fun n' hn' => ?_⟩
   rw [hx] at hn'
   cases hn'
   exact ⟨fun _ => ca,fun h => absurd he h⟩
  ·rw [if_neg he]
   refine ⟨u,fun _ => ⟨H',gu.mono (zR _) (by omega)⟩,fun n' hn' => ?_⟩
   rw [hx] at hn'
   cases hn'
   exact ⟨fun h => absurd h he,fun _ => rfl⟩
 ·refine ⟨u,fun h => absurd h (by omega),fun n' hn' => ?_⟩
  rw [List.getElem?_eq_none (by omega)] at hn'
  cases hn'
set_option maxRecDepth 10000 in
set_option maxHeartbeats 16000000 in
theorem keeper_write {t : Tr} {k : KSt} {H M : Nat} (g : GoodT t k.L H M) (hM : M + 8 ≤ 10000) (h : k.ok) (c : Cmd) (hc : c.ns.length ≤ 9223372036854775807) :
  ∃ u H',Ct pG 31 (Zv.ops [storeX t k,c.pv]) (.vals [storeX u (writeV k c).1,(writeV k c).2.pv]) ∧ GoodT u (writeV k c).1.L H' (M + 8) := by
 by_cases he : (runV k.L k.seq c.ns).2.2 = 0
 ·have w := wrote h he
  have f := runV_facts he
  obtain ⟨f1,f2,f3,f4,f5,f6,f7,f8⟩ := f
  have hn8 : c.ns.length ≤ 8 := f1.1
  obtain ⟨hL,hT,hS⟩ := h.lens
  have u1 := trX_cells t
  have u2 := trX_agg t
  have c1 := batch_Run [] k.seq c.ns (by simp) hc (by omega)
  have c2 := fun e => keeper_refused t k e
  have c3 := CloneChange (k.T.map Change.pv) (fun x hx => by obtain ⟨c,_,rfl⟩ := zN.1 hx; rfl) (by simp; omega)
  rw [runV_err_eq h,he] at c1
  generalize (runV [] k.seq c.ns).1 = ra at *
  generalize (runV [] k.seq c.ns).2.1 = rb at *
  obtain ⟨us,hu0,hus⟩ := trees g c.ns f1.2 (by omega)
  have hql : ∀ i,i ≤ c.ns.length → (runGo k.L k.seq [] (c.ns.take i)).1.length ≤ i := fun i hi => by
   have := (runGo_facts (c.ns.take i) k.L k.seq [] h.1 (fun x hx => f1.2 x (List.mem_of_mem_take hx))).1
   simp only [List.length_nil,Nat.zero_add,zU] at this
   omega
  have hqn : runGo k.L k.seq [] (c.ns.take c.ns.length) = ((runV k.L k.seq c.ns).1,(runV k.L k.seq c.ns).2.1) := by rw [List.take_length,f8]
  obtain ⟨Hn,gn⟩ := (hus c.ns.length).1 (zR _)
  rw [hqn] at gn
  have cs := tree_ScanA gn (by omega)
  have hlen := w.len
  unfold writeV
  rw [if_pos he]
  generalize hOO : (runV k.L k.seq c.ns).1 = RO at *
  generalize hPP : (runV k.L k.seq c.ns).2.1 = RP at *
  refine ⟨if 60 < RP.length ∨ 60 < k.T.length + RO.length then t else us c.ns.length,max H Hn,?_,by
   split
   ·exact g.mono (by omega) (by omega)
   ·exact gn.mono (by omega) (by omega)⟩
  refine Ct.of_V Tryz.func31 rfl (by simp [Zv.ops,Tryz.f31]) ?_
  refine V.exec 400 ?_
  simp +contextual (maxSteps:=9^7) only [go_sem,Tryz.f31,storeX,Cmd.pv,u1,u2]
  refine V.call rfl rfl (by simp [dOK]) ⟨74,[],by simp only [go_sem],⟨_,rfl,rfl,rfl⟩,.inl ⟨[.row ([] : List PV),.int .i64 k.seq,.row (c.ns.map Note.pv)],_,.inl (by simp only [go_sem,zB]),c1,.inr (.inl ⟨_,rfl,rfl,rfl⟩)⟩⟩ ?_
  refine V.exec 400 ?_
  simp +contextual (maxSteps:=9^7) only [go_sem,u1,u2]
  refine V.call rfl rfl (by simp [dOK]) ⟨54,[],by simp only [go_sem],⟨_,rfl,rfl,rfl⟩,.inl ⟨[.row (k.T.map Change.pv)],_,.inl (by simp only [go_sem]),c3,.inr (.inr ⟨89,(k.T.map Change.pv)   ,rfl,by simp only [go_sem],rfl,rfl⟩)⟩⟩ ?_
  refine V.exec 400 ?_
  simp +contextual (maxSteps:=9^7) only [go_sem,u1,u2]
  have hqi : ∀ i,runGo k.L k.seq [] (c.ns.take i) = runGo k.L k.seq [] (c.ns.take i) := fun _ => rfl
  obtain ⟨q,hq⟩ : ∃ q : Nat → List Change × List Pair,∀ i,runGo k.L k.seq [] (c.ns.take i) = q i := ⟨_,fun _ => rfl⟩
  have hq0 : q 0 = ([],k.L) := by rw [← hq 0,List.take_zero]; rfl
  have hqs : ∀ i x,c.ns[i]? = some x → q (i + 1) = if (ofV (q i).2 (k.seq + (q i).1.length + 1) x).2 = 0 then ((q i).1 ++ [(ofV (q i).2 (k.seq + (q i).1.length + 1) x).1],oneV (q i).2 x) else q i := fun i x hx => by
   rw [← hq,← hq,zL,hx]
   exact runGo_snoc x _ k.L k.seq []
  simp only [hq] at hus hql hqn
  clear hq hqi
  have R0 : (q 0).1 = [] := by rw [hq0]
  have hz0 : ((0 : Nat) : Int) = 0 := rfl
  refine V.loop (fun m ls os => ∃ i : Nat,i ≤ c.ns.length ∧ m = c.ns.length - i ∧
    ls = [(2,.adr 0 0),(4,.adr 3 0),(5,.adr 4 0),(9,.adr 1 0),(39,.val (.row (c.ns.map Note.pv))),(40,.val (.int .i64 c.ns.length)),(41,.val (.int .i64 i))] ∧
    os = [.box true [.val (trX t),.val (.row (k.T.map Change.pv)),.val (.row (k.S.map Sub.pv)),.val (.int .i64 k.seq),.val (.int .i64 k.floor)],
     .box true [.val (trX (us i)),.ref 2,.val (.row (k.S.map Sub.pv)),.val (.int .i64 (k.seq + ((q i).1.length : Int))),.val (.int .i64 k.floor)],
     .row 89 (k.T.map Change.pv ++ (q i).1.map Change.pv),
     .box true [.val .nilp,.nils,.nils,.val (.int .i64 0),.val (.int .i64 0)],
     .box true [.val (.int .i64 0),.val (.int .i64 0),.val (.bool false),.val (.str []),.nils,.nils,.val (.bool false)]]) 5 c.ns.length
   [(2,.adr 0 0),(4,.adr 3 0),(5,.adr 4 0),(9,.adr 1 0),(39,.val (.row (c.ns.map Note.pv))),(40,.val (.int .i64 c.ns.length)),(41,.val (.int .i64 0))]
   [.box true [.val (trX t),.val (.row (k.T.map Change.pv)),.val (.row (k.S.map Sub.pv)),.val (.int .i64 k.seq),.val (.int .i64 k.floor)],
     .box true [.val (trX (us 0)),.ref 2,.val (.row (k.S.map Sub.pv)),.val (.int .i64 (k.seq + ((q 0).1.length : Int))),.val (.int .i64 k.floor)],
     .row 89 (k.T.map Change.pv ++ (q 0).1.map Change.pv),
     .box true [.val .nilp,.nils,.nils,.val (.int .i64 0),.val (.int .i64 0)],
     .box true [.val (.int .i64 0),.val (.int .i64 0),.val (.bool false),.val (.str []),.nils,.nils,.val (.bool false)]]
   [some 2,some 21,some 25,some 4,some 5]
   ⟨0,zF _,rfl,rfl,rfl⟩ (by simp only [go_sem,R0,hu0,hz0,u2,Int.add_zero,List.length_nil,zB,List.append_nil]; try decide) ?_
  rintro m ls os ⟨i,hi,rfl,rfl,rfl⟩
  refine V.execS [18] 400 ?_
  by_cases hlt : i < c.ns.length
  ·have hlt' : (i : Int) < (c.ns.length : Int) := by omega
   obtain ⟨x,hx⟩ : ∃ x,c.ns[i]? = some x := ⟨_,zA hlt⟩
   have hxo : x.ok := f1.2 x (zE hx)
   have hwi : IntKind.i64.wrap ((i : Int) + 1) = ((i + 1 : Nat) : Int) := by rw [wrap_small3] <;> omega
   obtain ⟨Hi,gi⟩ := (hus i).1 (by omega)
   have hia := (hus i).2 x hx
   have hqx := hqs i x hx
   have hli := hql i (by omega)
   have hpo := gi.ok
   obtain ⟨out,cur,hqi⟩ : ∃ a b,q i = (a,b) := ⟨_,_,rfl⟩
   rw [hqi] at hia hqx hli hpo gi
   simp only at hia hqx hli hpo gi
   have R1 : (q i).1 = out := by rw [hqi]
   have hws : IntKind.i64.wrap (k.seq + (out.length : Int) + 1) = k.seq + (out.length : Int) + 1 := by rw [wrap_small3] <;> omega
   have cg := tree_GetA gi x.key
   obtain ⟨wo,wg,wl⟩ := wasV_ok hpo hxo.1
   have co := change_Of (wasV cur x.key) (k.seq + (out.length : Int) + 1) x (by omega)
   rw [ofV_congr wo hpo wg] at co
   obtain ⟨y,e,hC⟩ : ∃ a b,ofV cur (k.seq + (out.length : Int) + 1) x = (a,b) := ⟨_,_,rfl⟩
   rw [hC] at co hia hqx
   simp only at co hia hqx
   simp +contextual (maxSteps:=9^7) only [go_sem,hlt',hx,Note.pv,R1,trX_cells,trX_agg]
   refine V.call rfl rfl (by simp [dOK]) ⟨32,[],by simp only [go_sem],⟨_,rfl,rfl,rfl⟩,.inl ⟨[.agg [trX (us i)],.str x.key],_,.inl (by simp only [go_sem]),cg,.inl ⟨_,rfl,rfl,rfl,rfl⟩⟩⟩ ?_
   refine V.exec 400 ?_
   by_cases hg : (getV cur x.key).2 = true
   ·have hwas : wasV cur x.key = [⟨x.key,(getV cur x.key).1⟩] := by unfold wasV; rw [if_pos hg]
    rw [hwas] at co
    simp +contextual (maxSteps:=9^7) only [go_sem,hg,R1,Pair.pv,hws,trX_cells,trX_agg]
    refine V.call rfl rfl (by simp [dOK]) ⟨75,[],by simp only [go_sem],⟨_,rfl,rfl,rfl⟩,.inl ⟨[.row ([(⟨x.key,(getV cur x.key).1⟩ : Pair)].map Pair.pv),.int .i64 (k.seq + (out.length : Int) + 1),x.pv],_,.inl (by simp only [go_sem,Note.pv,Pair.pv,zC,zB]),co,.inr (.inl ⟨_,rfl,rfl,rfl⟩)⟩⟩ ?_
    refine V.exec 400 ?_
    simp +contextual (maxSteps:=9^7) only [go_sem,Change.pv]
    by_cases he0 : e = 0
    ·have hca := hia.1 he0
     rw [if_pos he0] at hqx
     have R2 : (q (i + 1)).1 = out ++ [y] := by rw [hqx]
     simp +contextual (maxSteps:=9^7) only [go_sem,he0,R1,trX_cells,trX_agg,Change.pv]
     refine V.call rfl rfl (by simp [dOK]) ⟨63,[],by simp only [go_sem],⟨_,rfl,rfl,rfl⟩,.inl ⟨[.agg [trX (us i)],.row ([x].map Note.pv)],_,.inl (by simp only [go_sem,Note.pv,zC,zB]),hca,.inr (.inl ⟨_,rfl,rfl,rfl⟩)⟩⟩ ?_
     refine V.exec 400 ?_
     simp +contextual (maxSteps:=9^7) only [go_sem,hwi,hws,R1,trX_cells,trX_agg,Change.pv]
     have hTl : (k.T.map Change.pv ++ out.map Change.pv).length ≤ 100 := by simp only [zJ,zW]; omega
     have hln : k.seq + ((out ++ [y]).length : Int) = k.seq + (out.length : Int) + 1 := by simp; omega
     refine ⟨⟨by omega,by omega⟩,by kernel_rfl,c.ns.length - (i + 1),_,_,[some 0,some 1,some 56,some 3,some 4],by omega,⟨i + 1,by omega,rfl,rfl,rfl⟩,?_⟩
     simp only [go_sem,R1,R2,hln,trX_agg,zM,zC,zB,List.append_assoc,Change.pv]
     try decide
    ·have hue := hia.2 he0
     rw [if_neg he0] at hqx
     have R2 : (q (i + 1)).1 = out := by rw [hqx]
     simp +contextual (maxSteps:=9^7) only [go_sem,he0,hwi,R1,trX_cells,trX_agg,Change.pv]
     refine ⟨c.ns.length - (i + 1),_,_,[some 0,some 1,some 2,some 3,some 4],by omega,⟨i + 1,by omega,rfl,rfl,rfl⟩,?_⟩
     simp only [go_sem,R1,R2,hue,trX_agg]
     try decide
   ·have hg' : (getV cur x.key).2 = false := by simpa using hg
    have hwas : wasV cur x.key = [] := by unfold wasV; rw [if_neg hg]
    rw [hwas] at co
    simp +contextual (maxSteps:=9^7) only [go_sem,hg,R1,Pair.pv,hws,trX_cells,trX_agg]
    refine V.call rfl rfl (by simp [dOK]) ⟨75,[],by simp only [go_sem],⟨_,rfl,rfl,rfl⟩,.inl ⟨[.row ([] : List PV),.int .i64 (k.seq + (out.length : Int) + 1),x.pv],_,.inl (by simp only [go_sem,Note.pv,Pair.pv,zC,zB]),co,.inr (.inl ⟨_,rfl,rfl,rfl⟩)⟩⟩ ?_
    refine V.exec 400 ?_
    simp +contextual (maxSteps:=9^7) only [go_sem,Change.pv]
    by_cases he0 : e = 0
    ·have hca := hia.1 he0
     rw [if_pos he0] at hqx
     have R2 : (q (i + 1)).1 = out ++ [y] := by rw [hqx]
     simp +contextual (maxSteps:=9^7) only [go_sem,he0,R1,trX_cells,trX_agg,Change.pv]
     refine V.call rfl rfl (by simp [dOK]) ⟨63,[],by simp only [go_sem],⟨_,rfl,rfl,rfl⟩,.inl ⟨[.agg [trX (us i)],.row ([x].map Note.pv)],_,.inl (by simp only [go_sem,Note.pv,zC,zB]),hca,.inr (.inl ⟨_,rfl,rfl,rfl⟩)⟩⟩ ?_
     refine V.exec 400 ?_
     simp +contextual (maxSteps:=9^7) only [go_sem,hwi,hws,R1,trX_cells,trX_agg,Change.pv]
     have hTl : (k.T.map Change.pv ++ out.map Change.pv).length ≤ 100 := by simp only [zJ,zW]; omega
     have hln : k.seq + ((out ++ [y]).length : Int) = k.seq + (out.length : Int) + 1 := by simp; omega
     refine ⟨⟨by omega,by omega⟩,by kernel_rfl,c.ns.length - (i + 1),_,_,[some 0,some 1,some 50,some 3,some 4],by omega,⟨i + 1,by omega,rfl,rfl,rfl⟩,?_⟩
     simp only [go_sem,R1,R2,hln,trX_agg,zM,zC,zB,List.append_assoc,Change.pv]
     try decide
    ·have hue := hia.2 he0
     rw [if_neg he0] at hqx
     have R2 : (q (i + 1)).1 = out := by rw [hqx]
     simp +contextual (maxSteps:=9^7) only [go_sem,he0,hwi,R1,trX_cells,trX_agg,Change.pv]
     refine ⟨c.ns.length - (i + 1),_,_,[some 0,some 1,some 2,some 3,some 4],by omega,⟨i + 1,by omega,rfl,rfl,rfl⟩,?_⟩
     simp only [go_sem,R1,R2,hue,trX_agg]
     try decide
  ·have hlt' : ¬ (i : Int) < (c.ns.length : Int) := by omega
   obtain rfl : i = c.ns.length := by omega
   have R1 : (q c.ns.length).1 = RO := by rw [hqn]
   have h16 : ¬ (16 : Int) = 18 := by decide
   simp +contextual (maxSteps:=9^7) only [go_sem,hlt',R1,trX_agg]
   refine V.pubc 1 2 1 true [.val (trX (us c.ns.length)),.ref 2,.val (.row (k.S.map Sub.pv)),.val (.int .i64 (k.seq + (RO.length : Int))),.val (.int .i64 k.floor)] 89 (k.T.map Change.pv ++ RO.map Change.pv) (by simp only [go_sem]) rfl (by simp only [go_sem]) ?_
   refine V.exec 400 ?_
   simp +contextual (maxSteps:=9^7) only [go_sem,trX_cells,trX_agg,List.set_cons_succ,List.set_cons_zero]
   refine DV.call [] [] (by simp only [go_sem,Range.pv,allR]) (by simp [dOK]) ⟨53,[],by simp only [go_sem,Range.pv,allR],⟨_,rfl,rfl,rfl⟩,.inl ⟨[],_,.inl (by simp only [go_sem,Range.pv,allR]),keeper_all,.inr (.inl ⟨_,rfl,rfl,rfl⟩)⟩⟩ (by simp only [go_sem,Range.pv,allR]) (by simp only [go_sem,Range.pv,allR]) (by simp only [go_sem,Range.pv,allR]) (by simp) ?_
   refine DV.exec 400 ?_
   simp +contextual (maxSteps:=9^7) only [go_sem,trX_cells,trX_agg]
   refine DV.call [] [] (by simp only [go_sem,Range.pv,allR]) (by simp [dOK]) ⟨52,[],by simp only [go_sem,Range.pv,allR],⟨_,rfl,rfl,rfl⟩,.inl ⟨[.agg [trX (us c.ns.length)],allR.pv],_,.inl (by simp only [go_sem,Range.pv,allR]),cs,.inr (.inl ⟨_,rfl,rfl,rfl⟩)⟩⟩ (by simp only [go_sem,Range.pv,allR]) (by simp only [go_sem,Range.pv,allR]) (by simp only [go_sem,Range.pv,allR]) (by simp) ?_
   refine DV.exec 400 ?_
   by_cases hp : 60 < RP.length
   ·have hp' : (60 : Int) < (RP.length : Int) := by omega
    simp +contextual (maxSteps:=9^7) only [go_sem,trX_cells,trX_agg,hp']
    refine ⟨by kernel_rfl,?_⟩
    refine V.call rfl rfl (by simp [dOK]) ⟨40,[],by simp only [go_sem],⟨_,rfl,rfl,rfl⟩,.inl ⟨[storeX t k,.int .i64 5],_,.inl (by simp only [go_sem,storeX]),c2 5,.inr (.inl ⟨_,rfl,rfl,rfl⟩)⟩⟩ ?_
    refine V.exec 400 ?_
    simp +contextual (maxSteps:=9^7) only [go_sem,hp,trX_cells,trX_agg,storeX,Tell.pv,Tell.bad,Chunk.zero,true_or]
   ·have hp' : ¬ (60 : Int) < (RP.length : Int) := by omega
    have hle : (k.T.map Change.pv ++ RO.map Change.pv).length = k.T.length + RO.length := by simp
    by_cases ht : 60 < k.T.length + RO.length
    ·have ht' : (60 : Int) < ((k.T.length + RO.length : Nat) : Int) := by omega
     simp +contextual (maxSteps:=9^7) only [go_sem,trX_cells,trX_agg,hp',hle,ht']
     refine ⟨by kernel_rfl,?_⟩
     refine V.call rfl rfl (by simp [dOK]) ⟨40,[],by simp only [go_sem],⟨_,rfl,rfl,rfl⟩,.inl ⟨[storeX t k,.int .i64 5],_,.inl (by simp only [go_sem,storeX]),c2 5,.inr (.inl ⟨_,rfl,rfl,rfl⟩)⟩⟩ ?_
     refine V.exec 400 ?_
     simp +contextual (maxSteps:=9^7) only [go_sem,hp,ht,trX_cells,trX_agg,storeX,Tell.pv,Tell.bad,Chunk.zero,or_true]
    ·have ht' : ¬ (60 : Int) < ((k.T.length + RO.length : Nat) : Int) := by omega
     simp +contextual (maxSteps:=9^7) only [go_sem,trX_cells,trX_agg,hp',hle,ht',hp,ht,or_false,Tell.pv,Tell.num,Chunk.zero,zM]
     refine ⟨by kernel_rfl,?_⟩
     kernel_rfl
 ·have hv : writeV k c = (k,Tell.bad (runV k.L k.seq c.ns).2.2) := by unfold writeV; rw [if_neg he]
  rw [hv]
  refine ⟨t,H,?_,g.mono (zR _) (by omega)⟩
  have u1 := trX_cells t
  have u2 := trX_agg t
  have hseq := h.2.2.2.2.2.2.2.1
  have c1 := batch_Run [] k.seq c.ns (by simp) hc (by omega)
  have c2 := fun e => keeper_refused t k e
  rw [runV_err_eq h] at c1
  generalize (runV k.L k.seq c.ns).2.2 = e at *
  generalize (runV [] k.seq c.ns).1 = ra at *
  generalize (runV [] k.seq c.ns).2.1 = rb at *
  refine Ct.of_V Tryz.func31 rfl (by simp [Zv.ops,Tryz.f31]) ?_
  refine V.exec 400 ?_
  simp +contextual (maxSteps:=9^7) only [go_sem,Tryz.f31,storeX,Cmd.pv,u1,u2]
  refine V.call rfl rfl (by simp [dOK]) ⟨74,[],by simp only [go_sem],⟨_,rfl,rfl,rfl⟩,.inl ⟨[.row ([] : List PV),.int .i64 k.seq,.row (c.ns.map Note.pv)],_,.inl (by simp only [go_sem,zB]),c1,.inr (.inl ⟨_,rfl,rfl,rfl⟩)⟩⟩ ?_
  refine V.exec 400 ?_
  simp +contextual (maxSteps:=9^7) only [go_sem,he,u1,u2]
  refine V.call rfl rfl (by simp [dOK]) ⟨40,[],by simp only [go_sem],⟨_,rfl,rfl,rfl⟩,.inl ⟨[storeX t k,.int .i64 e],_,.inl (by simp only [go_sem,storeX]),c2 e,.inr (.inl ⟨_,rfl,rfl,rfl⟩)⟩⟩ ?_
  refine V.exec 400 ?_
  simp +contextual (maxSteps:=9^7) only [go_sem,u1,u2,storeX,Tell.pv,Tell.bad,Chunk.zero]
set_option maxRecDepth 10000 in
set_option maxHeartbeats 16000000 in
theorem keeper_Do {t : Tr} {k : KSt} {H M : Nat} (g : GoodT t k.L H M) (hM : M + 8 ≤ 10000) (h : k.ok) (c : Cmd) (hc : c.ns.length ≤ 9223372036854775807) :
  ∃ u H',Ct pG 14 (Zv.ops [storeX t k,c.pv]) (.vals [storeX u (doK k c).1,(doK k c).2.pv]) ∧ GoodT u (doK k c).1.L H' (M + 8) := by
 have u1 := trX_cells t
 have u2 := trX_agg t
 have hM' : M ≤ 10000 := by omega
 have gg : GoodT t k.L H (M + 8) := g.mono (zR _) (by omega)
 obtain ⟨hL,hT,hS⟩ := h.lens
 by_cases h1 : c.d = 1
 ·have hv : doK k c = writeV k c := by unfold doK; rw [if_pos h1]
  rw [hv]
  obtain ⟨u,H',cw,gu⟩ := keeper_write g hM h c hc
  refine ⟨u,H',?_,gu⟩
  have w1 := trX_cells u
  have w2 := trX_agg u
  generalize writeV k c = W at *
  have d1 := eq_true h1
  refine Ct.of_V Tryz.func14 rfl (by simp [Zv.ops,Tryz.f14]) ?_
  refine V.exec 400 ?_
  simp +contextual (maxSteps:=9^7) only [go_sem,Tryz.f14,storeX,Cmd.pv,u1,u2,d1]
  refine V.call rfl rfl (by simp [dOK]) ⟨31,[],by simp only [go_sem],⟨_,rfl,rfl,rfl⟩,.inl ⟨[storeX t k,c.pv],_,.inl (by simp only [go_sem,storeX,Cmd.pv]),cw,.inr (.inl ⟨_,rfl,rfl,rfl⟩)⟩⟩ ?_
  refine V.exec 400 ?_
  simp +contextual (maxSteps:=9^7) only [go_sem,u1,u2,w1,w2,storeX,Tell.pv]
 by_cases h2 : c.d = 2
 ·have hv : doK k c = (k,⟨0,0,(getV k.L c.key).2,(getV k.L c.key).1,Chunk.zero⟩) := by unfold doK; rw [if_neg h1,if_pos h2]
  rw [hv]
  refine ⟨t,H,?_,gg⟩
  have cg := tree_GetA g c.key
  have d2 := eq_true h2
  refine Ct.of_V Tryz.func14 rfl (by simp [Zv.ops,Tryz.f14]) ?_
  refine V.exec 400 ?_
  simp +contextual (maxSteps:=9^7) only [go_sem,Tryz.f14,storeX,Cmd.pv,u1,u2,h1,d2]
  refine V.call rfl rfl (by simp [dOK]) ⟨32,[],by simp only [go_sem],⟨_,rfl,rfl,rfl⟩,.inl ⟨[.agg [trX t],.str c.key],_,.inl (by simp only [go_sem]),cg,.inl ⟨_,rfl,rfl,rfl,rfl⟩⟩⟩ ?_
  refine V.exec 400 ?_
  simp +contextual (maxSteps:=9^7) only [go_sem,u1,u2,storeX,Tell.pv,Chunk.zero]
 by_cases h3 : c.d = 3
 ·have hv : doK k c = (k,pageK k c k.seq) := by unfold doK; rw [if_neg h1,if_neg h2,if_pos h3]
  rw [hv]
  refine ⟨t,H,?_,gg⟩
  have cg := keeper_scan g hM' h c k.seq
  have d3 := eq_true h3
  generalize pageK k c k.seq = r at *
  refine Ct.of_V Tryz.func14 rfl (by simp [Zv.ops,Tryz.f14]) ?_
  refine V.exec 400 ?_
  simp +contextual (maxSteps:=9^7) only [go_sem,Tryz.f14,storeX,Cmd.pv,u1,u2,h1,h2,d3]
  refine DV.call [] [] (by simp only [go_sem,storeX,Cmd.pv]) (by simp [dOK]) ⟨33,[],by simp only [go_sem,storeX,Cmd.pv],⟨_,rfl,rfl,rfl⟩,.inl ⟨[storeX t k,c.pv,.int .i64 k.seq],_,.inl (by simp only [go_sem,storeX,Cmd.pv]),cg,.inr (.inl ⟨_,rfl,rfl,rfl⟩)⟩⟩ (by simp only [go_sem,storeX,Cmd.pv]) (by simp only [go_sem,storeX,Cmd.pv]) (by simp only [go_sem,storeX,Cmd.pv]) (by simp) ?_
  refine DV.exec 400 ?_
  simp +contextual (maxSteps:=9^7) only [go_sem,u1,u2,storeX,Tell.pv]
  kernel_rfl
 by_cases h4 : c.d = 4
 ·have hv : doK k c = (k,pageK k c c.seq) := by unfold doK; rw [if_neg h1,if_neg h2,if_neg h3,if_pos h4]
  rw [hv]
  refine ⟨t,H,?_,gg⟩
  have cg := keeper_scan g hM' h c c.seq
  have d4 := eq_true h4
  generalize pageK k c c.seq = r at *
  refine Ct.of_V Tryz.func14 rfl (by simp [Zv.ops,Tryz.f14]) ?_
  refine V.exec 400 ?_
  simp +contextual (maxSteps:=9^7) only [go_sem,Tryz.f14,storeX,Cmd.pv,u1,u2,h1,h2,h3,d4]
  refine DV.call [] [] (by simp only [go_sem,storeX,Cmd.pv]) (by simp [dOK]) ⟨33,[],by simp only [go_sem,storeX,Cmd.pv],⟨_,rfl,rfl,rfl⟩,.inl ⟨[storeX t k,c.pv,.int .i64 c.seq],_,.inl (by simp only [go_sem,storeX,Cmd.pv]),cg,.inr (.inl ⟨_,rfl,rfl,rfl⟩)⟩⟩ (by simp only [go_sem,storeX,Cmd.pv]) (by simp only [go_sem,storeX,Cmd.pv]) (by simp only [go_sem,storeX,Cmd.pv]) (by simp) ?_
  refine DV.exec 400 ?_
  simp +contextual (maxSteps:=9^7) only [go_sem,u1,u2,storeX,Tell.pv]
  kernel_rfl
 by_cases h5 : c.d = 5
 ·have hv : doK k c = joinV2 k ⟨0,c.r,false,[],k.seq⟩ := by unfold doK; rw [if_neg h1,if_neg h2,if_neg h3,if_neg h4,if_pos h5]
  rw [hv]
  have hj : (joinV2 k ⟨0,c.r,false,[],k.seq⟩).1.L = k.L := by unfold joinV2 withV; split <;> rfl
  rw [hj]
  refine ⟨t,H,?_,gg⟩
  have cg := keeper_join t (k := k) ⟨0,c.r,false,[],k.seq⟩ (by omega)
  have d5 := eq_true h5
  generalize joinV2 k ⟨0,c.r,false,[],k.seq⟩ = r at *
  refine Ct.of_V Tryz.func14 rfl (by simp [Zv.ops,Tryz.f14]) ?_
  refine V.exec 400 ?_
  simp +contextual (maxSteps:=9^7) only [go_sem,Tryz.f14,storeX,Cmd.pv,u1,u2,h1,h2,h3,h4,d5]
  refine V.call rfl rfl (by simp [dOK]) ⟨34,[],by simp only [go_sem],⟨_,rfl,rfl,rfl⟩,.inl ⟨[storeX t k,Sub.pv ⟨0,c.r,false,[],k.seq⟩],_,.inl (by simp only [go_sem,storeX,Sub.pv]),cg,.inr (.inl ⟨_,rfl,rfl,rfl⟩)⟩⟩ ?_
  refine V.exec 400 ?_
  simp +contextual (maxSteps:=9^7) only [go_sem,u1,u2,storeX,Tell.pv]
 by_cases h6 : c.d = 6
 ·have hv : doK k c = (if c.seq < k.floor then (k,Tell.bad 8) else if k.seq < c.seq then (k,Tell.bad 9) else joinV2 k ⟨0,c.r,true,[],c.seq⟩) := by unfold doK; rw [if_neg h1,if_neg h2,if_neg h3,if_neg h4,if_neg h5,if_pos h6]
  rw [hv]
  have hj : (if c.seq < k.floor then (k,Tell.bad 8) else if k.seq < c.seq then (k,Tell.bad 9) else joinV2 k ⟨0,c.r,true,[],c.seq⟩).1.L = k.L := by
   unfold joinV2 withV
   split
   ·rfl
   ·split
    ·rfl
    ·split <;> rfl
  rw [hj]
  refine ⟨t,H,?_,gg⟩
  have cg := keeper_from t (k := k) c (by omega)
  have d6 := eq_true h6
  generalize (if c.seq < k.floor then (k,Tell.bad 8) else if k.seq < c.seq then (k,Tell.bad 9) else joinV2 k ⟨0,c.r,true,[],c.seq⟩) = r at *
  refine Ct.of_V Tryz.func14 rfl (by simp [Zv.ops,Tryz.f14]) ?_
  refine V.exec 400 ?_
  simp +contextual (maxSteps:=9^7) only [go_sem,Tryz.f14,storeX,Cmd.pv,u1,u2,h1,h2,h3,h4,h5,d6]
  refine V.call rfl rfl (by simp [dOK]) ⟨35,[],by simp only [go_sem],⟨_,rfl,rfl,rfl⟩,.inl ⟨[storeX t k,c.pv],_,.inl (by simp only [go_sem,storeX,Cmd.pv]),cg,.inr (.inl ⟨_,rfl,rfl,rfl⟩)⟩⟩ ?_
  refine V.exec 400 ?_
  simp +contextual (maxSteps:=9^7) only [go_sem,u1,u2,storeX,Tell.pv]
 by_cases h7 : c.d = 7
 ·have hv : doK k c = (k,pollK k c) := by unfold doK; rw [if_neg h1,if_neg h2,if_neg h3,if_neg h4,if_neg h5,if_neg h6,if_pos h7]
  rw [hv]
  refine ⟨t,H,?_,gg⟩
  have cg := keeper_poll g hM' h c
  have d7 := eq_true h7
  generalize pollK k c = r at *
  refine Ct.of_V Tryz.func14 rfl (by simp [Zv.ops,Tryz.f14]) ?_
  refine V.exec 400 ?_
  simp +contextual (maxSteps:=9^7) only [go_sem,Tryz.f14,storeX,Cmd.pv,u1,u2,h1,h2,h3,h4,h5,h6,d7]
  refine DV.call [] [] (by simp only [go_sem,storeX,Cmd.pv]) (by simp [dOK]) ⟨36,[],by simp only [go_sem,storeX,Cmd.pv],⟨_,rfl,rfl,rfl⟩,.inl ⟨[storeX t k,c.pv],_,.inl (by simp only [go_sem,storeX,Cmd.pv]),cg,.inr (.inl ⟨_,rfl,rfl,rfl⟩)⟩⟩ (by simp only [go_sem,storeX,Cmd.pv]) (by simp only [go_sem,storeX,Cmd.pv]) (by simp only [go_sem,storeX,Cmd.pv]) (by simp) ?_
  refine DV.exec 400 ?_
  simp +contextual (maxSteps:=9^7) only [go_sem,u1,u2,storeX,Tell.pv]
  kernel_rfl
 by_cases h89 : c.d = 8 ∨ c.d = 9
 ·have hv : doK k c = goesV k c := by unfold doK; rw [if_neg h1,if_neg h2,if_neg h3,if_neg h4,if_neg h5,if_neg h6,if_neg h7,if_pos h89]
  rw [hv]
  have hj : (goesV k c).1.L = k.L := by
   unfold goesV withV
   split
   ·rfl
   ·split
    ·split <;> rfl
    ·split <;> rfl
  rw [hj]
  refine ⟨t,H,?_,gg⟩
  have cg := keeper_goes g hM' h c h89
  generalize goesV k c = r at *
  by_cases h8 : c.d = 8
  ·have d8 := eq_true h8
   refine Ct.of_V Tryz.func14 rfl (by simp [Zv.ops,Tryz.f14]) ?_
   refine V.exec 400 ?_
   simp +contextual (maxSteps:=9^7) only [go_sem,Tryz.f14,storeX,Cmd.pv,u1,u2,h1,h2,h3,h4,h5,h6,h7,d8]
   refine V.call rfl rfl (by simp [dOK]) ⟨37,[],by simp only [go_sem],⟨_,rfl,rfl,rfl⟩,.inl ⟨[storeX t k,c.pv],_,.inl (by simp only [go_sem,storeX,Cmd.pv]),cg,.inr (.inl ⟨_,rfl,rfl,rfl⟩)⟩⟩ ?_
   refine V.exec 400 ?_
   simp +contextual (maxSteps:=9^7) only [go_sem,u1,u2,storeX,Tell.pv]
  ·have d9 := eq_true (h89.resolve_left h8)
   refine Ct.of_V Tryz.func14 rfl (by simp [Zv.ops,Tryz.f14]) ?_
   refine V.exec 400 ?_
   simp +contextual (maxSteps:=9^7) only [go_sem,Tryz.f14,storeX,Cmd.pv,u1,u2,h1,h2,h3,h4,h5,h6,h7,h8,d9]
   refine V.call rfl rfl (by simp [dOK]) ⟨37,[],by simp only [go_sem],⟨_,rfl,rfl,rfl⟩,.inl ⟨[storeX t k,c.pv],_,.inl (by simp only [go_sem,storeX,Cmd.pv]),cg,.inr (.inl ⟨_,rfl,rfl,rfl⟩)⟩⟩ ?_
   refine V.exec 400 ?_
   simp +contextual (maxSteps:=9^7) only [go_sem,u1,u2,storeX,Tell.pv]
 have h8 : ¬ c.d = 8 := fun e => h89 (.inl e)
 have h9 : ¬ c.d = 9 := fun e => h89 (.inr e)
 by_cases h10 : c.d = 10
 ·have hv : doK k c = withV k (leaveV k.S c.id).1 0 (leaveV k.S c.id).2 := by unfold doK; rw [if_neg h1,if_neg h2,if_neg h3,if_neg h4,if_neg h5,if_neg h6,if_neg h7,if_neg h89,if_pos h10]
  rw [hv]
  have hj : (withV k (leaveV k.S c.id).1 0 (leaveV k.S c.id).2).1.L = k.L := by unfold withV; split <;> rfl
  rw [hj]
  refine ⟨t,H,?_,gg⟩
  have cg := keeper_leave t (k := k) c (by omega)
  have d10 := eq_true h10
  generalize withV k (leaveV k.S c.id).1 0 (leaveV k.S c.id).2 = r at *
  refine Ct.of_V Tryz.func14 rfl (by simp [Zv.ops,Tryz.f14]) ?_
  refine V.exec 400 ?_
  simp +contextual (maxSteps:=9^7) only [go_sem,Tryz.f14,storeX,Cmd.pv,u1,u2,h1,h2,h3,h4,h5,h6,h7,h8,h9,d10]
  refine V.call rfl rfl (by simp [dOK]) ⟨38,[],by simp only [go_sem],⟨_,rfl,rfl,rfl⟩,.inl ⟨[storeX t k,c.pv],_,.inl (by simp only [go_sem,storeX,Cmd.pv]),cg,.inr (.inl ⟨_,rfl,rfl,rfl⟩)⟩⟩ ?_
  refine V.exec 400 ?_
  simp +contextual (maxSteps:=9^7) only [go_sem,u1,u2,storeX,Tell.pv]
 by_cases h11 : c.d = 11
 ·have hv : doK k c = trimV k := by unfold doK; rw [if_neg h1,if_neg h2,if_neg h3,if_neg h4,if_neg h5,if_neg h6,if_neg h7,if_neg h89,if_neg h10,if_pos h11]
  rw [hv]
  refine ⟨t,H,?_,gg⟩
  have cg := floor_Trim k.T k.seq k.S (by omega) (by omega)
  have d11 := eq_true h11
  unfold trimV
  refine Ct.of_V Tryz.func14 rfl (by simp [Zv.ops,Tryz.f14]) ?_
  refine V.exec 400 ?_
  simp +contextual (maxSteps:=9^7) only [go_sem,Tryz.f14,storeX,Cmd.pv,u1,u2,h1,h2,h3,h4,h5,h6,h7,h8,h9,h10,d11]
  refine V.call rfl rfl (by simp [dOK]) ⟨39,[],by simp only [go_sem],⟨_,rfl,rfl,rfl⟩,.inl ⟨[.row (k.T.map Change.pv),.int .i64 k.seq,.row (k.S.map Sub.pv)],_,.inl (by simp only [go_sem]),cg,.inr (.inl ⟨_,rfl,rfl,rfl⟩)⟩⟩ ?_
  refine V.exec 400 ?_
  simp +contextual (maxSteps:=9^7) only [go_sem,u1,u2,storeX,Tell.pv,Tell.num,Chunk.zero]
  kernel_rfl
 by_cases h12 : c.d = 12
 ·have hv : doK k c = (k,Tell.num k.seq) := by unfold doK; rw [if_neg h1,if_neg h2,if_neg h3,if_neg h4,if_neg h5,if_neg h6,if_neg h7,if_neg h89,if_neg h10,if_neg h11,if_pos h12]
  rw [hv]
  refine ⟨t,H,?_,gg⟩
  have d12 := eq_true h12
  refine Ct.of_V Tryz.func14 rfl (by simp [Zv.ops,Tryz.f14]) ?_
  refine V.exec 400 ?_
  simp +contextual (maxSteps:=9^7) only [go_sem,Tryz.f14,storeX,Cmd.pv,u1,u2,h1,h2,h3,h4,h5,h6,h7,h8,h9,h10,h11,d12,Tell.pv,Tell.num,Chunk.zero]
  kernel_rfl
 ·have hv : doK k c = (k,Tell.bad 1) := by unfold doK; rw [if_neg h1,if_neg h2,if_neg h3,if_neg h4,if_neg h5,if_neg h6,if_neg h7,if_neg h89,if_neg h10,if_neg h11,if_neg h12]
  rw [hv]
  refine ⟨t,H,?_,gg⟩
  have cg := keeper_refused t k 1
  refine Ct.of_V Tryz.func14 rfl (by simp [Zv.ops,Tryz.f14]) ?_
  refine V.exec 400 ?_
  simp +contextual (maxSteps:=9^7) only [go_sem,Tryz.f14,storeX,Cmd.pv,u1,u2,h1,h2,h3,h4,h5,h6,h7,h8,h9,h10,h11,h12]
  refine V.call rfl rfl (by simp [dOK]) ⟨40,[],by simp only [go_sem],⟨_,rfl,rfl,rfl⟩,.inl ⟨[storeX t k,.int .i64 1],_,.inl (by simp only [go_sem,storeX]),cg,.inr (.inl ⟨_,rfl,rfl,rfl⟩)⟩⟩ ?_
  refine V.exec 400 ?_
  simp +contextual (maxSteps:=9^7) only [go_sem,u1,u2,storeX,Tell.pv,Tell.bad,Chunk.zero]
def stK (k : KSt) (l : List Cmd) (i : Nat) : KSt := (l.take i).foldl (fun k c => (doK k c).1) k
theorem stK_succ (k : KSt) (l : List Cmd) {i : Nat} {c : Cmd} (h : l[i]? = some c) : stK k l (i + 1) = (doK (stK k l i) c).1 := by
 unfold stK
 rw [zL,h]
 simp
theorem stK_ok {k : KSt} (h : k.ok) (l : List Cmd) : ∀ i,(stK k l i).ok
 | 0 => h
 | i + 1 => by
  cases hx : l[i]? with
  | none =>
   have : stK k l (i + 1) = stK k l i := by unfold stK; rw [zL,hx]; simp
   rw [this]; exact stK_ok h l i
  | some c => rw [stK_succ k l hx]; exact doK_ok (stK_ok h l i) c
def tlK (k : KSt) (l : List Cmd) : Nat → List Tell
 | 0 => []
 | i + 1 => match l[i]? with
  | some c => tlK k l i ++ [(doK (stK k l i) c).2]
  | none => tlK k l i
theorem tlK_succ (k : KSt) (l : List Cmd) {i : Nat} {c : Cmd} (h : l[i]? = some c) : tlK k l (i + 1) = tlK k l i ++ [(doK (stK k l i) c).2] := by
 rw [tlK,h]
theorem tlK_len (k : KSt) (l : List Cmd) : ∀ i,i ≤ l.length → (tlK k l i).length = i
 | 0,_ => rfl
 | i + 1,hi => by
  rw [tlK_succ k l (zA (by omega : i < l.length)),zJ,tlK_len k l i (by omega)]
  rfl
theorem stores {t : Tr} {k : KSt} {H M : Nat} (g : GoodT t k.L H M) (h : k.ok) (l : List Cmd) (hl : ∀ c ∈ l,c.ns.length ≤ 9223372036854775807) (hM : M + 8 * l.length ≤ 10000) :
  ∃ us : Nat → Tr,us 0 = t ∧ ∀ i,(i ≤ l.length → ∃ H',GoodT (us i) (stK k l i).L H' (M + 8 * i)) ∧
   ∀ c,l[i]? = some c → Ct pG 14 (Zv.ops [storeX (us i) (stK k l i),c.pv]) (.vals [storeX (us (i + 1)) (doK (stK k l i) c).1,(doK (stK k l i) c).2.pv]) := by
 refine chain (P := fun i u => i ≤ l.length → ∃ H',GoodT u (stK k l i).L H' (M + 8 * i))
  (R := fun i u u' => ∀ c,l[i]? = some c → Ct pG 14 (Zv.ops [storeX u (stK k l i),c.pv]) (.vals [storeX u' (doK (stK k l i) c).1,(doK (stK k l i) c).2.pv])) t (fun _ => ⟨H,g⟩) fun i u hu => ?_
 by_cases hi : i < l.length
 ·obtain ⟨H',gu⟩ := hu (by omega)
  obtain ⟨c,hx⟩ : ∃ c,l[i]? = some c := ⟨_,zA hi⟩
  obtain ⟨u',H2,cd,g'⟩ := keeper_Do gu (by omega) (stK_ok h l i) c (hl c (zE hx))
  rw [stK_succ k l hx]
  refine ⟨u',fun _ => ⟨H2,g'.mono (zR _) (by omega)⟩,fun c' hc' => ?_⟩
  rw [hx] at hc'
  cases hc'
  exact cd
 ·refine ⟨u,fun h => absurd h (by omega),fun c' hc' => ?_⟩
  rw [List.getElem?_eq_none (by omega)] at hc'
  cases hc'
set_option maxRecDepth 10000 in
set_option maxHeartbeats 16000000 in
theorem keeper_Run {t : Tr} {k : KSt} {H M : Nat} (g : GoodT t k.L H M) (h : k.ok) (l : List Cmd) (hl : ∀ c ∈ l,c.ns.length ≤ 9223372036854775807) (hll : l.length ≤ 100) (hM : M + 8 * l.length ≤ 10000) :
  ∃ u H',Ct pG 21 (Zv.ops [storeX t k,.row (l.map Cmd.pv)]) (.vals [storeX u (stK k l l.length),.row ((tlK k l l.length).map Tell.pv)]) ∧ GoodT u (stK k l l.length).L H' (M + 8 * l.length) := by
 obtain ⟨us,hu0,hus⟩ := stores g h l hl hM
 obtain ⟨Hn,gn⟩ := (hus l.length).1 (zR _)
 refine ⟨us l.length,Hn,?_,gn⟩
 have u1 := trX_cells t
 have u2 := trX_agg t
 have hz0 : ((0 : Nat) : Int) = 0 := rfl
 have bx : ∀ (t : Tr) (k : KSt),storeX t k = .agg [trX t,.row (k.T.map Change.pv),.row (k.S.map Sub.pv),.int .i64 k.seq,.int .i64 k.floor] := fun _ _ => rfl
 have t0 : tlK k l 0 = [] := rfl
 refine Ct.of_V Tryz.func21 rfl (by simp [Zv.ops,Tryz.f21]) ?_
 refine V.exec 400 ?_
 simp +contextual (maxSteps:=9^7) only [go_sem,Tryz.f21,storeX,u1,u2]
 refine V.loop (fun m ls os => ∃ i : Nat,i ≤ l.length ∧ m = l.length - i ∧
   ls = [(2,.adr 0 0),(4,.adr 2 0),(6,.ref 1),(10,.val (.row (l.map Cmd.pv))),(11,.val (.int .i64 l.length)),(12,.val (.int .i64 i))] ∧
   os = [.box true [.val (trX (us i)),.val (.row ((stK k l i).T.map Change.pv)),.val (.row ((stK k l i).S.map Sub.pv)),.val (.int .i64 (stK k l i).seq),.val (.int .i64 (stK k l i).floor)],
    .row 45 ((tlK k l i).map Tell.pv),
    .box true [.val .nilp,.nils,.nils,.val (.int .i64 0),.val (.int .i64 0)]]) 3 l.length
  [(2,.adr 0 0),(4,.adr 2 0),(6,.ref 1),(10,.val (.row (l.map Cmd.pv))),(11,.val (.int .i64 l.length)),(12,.val (.int .i64 0))]
  [.box true [.val (trX t),.val (.row (k.T.map Change.pv)),.val (.row (k.S.map Sub.pv)),.val (.int .i64 k.seq),.val (.int .i64 k.floor)],
    .row 45 [],
    .box true [.val .nilp,.nils,.nils,.val (.int .i64 0),.val (.int .i64 0)]]
  [some 2,none,some 3]
  ⟨0,zF _,rfl,by rw [hz0],by rw [hu0]; rfl⟩ (by simp only [go_sem,hz0,u2]; try decide) ?_
 rintro m ls os ⟨i,hi,rfl,rfl,rfl⟩
 refine V.exec 400 ?_
 by_cases hlt : i < l.length
 ·have hlt' : (i : Int) < (l.length : Int) := by omega
  obtain ⟨c,hx⟩ : ∃ c,l[i]? = some c := ⟨_,zA hlt⟩
  have hwi : IntKind.i64.wrap ((i : Int) + 1) = ((i + 1 : Nat) : Int) := by rw [wrap_small3] <;> omega
  have cd := (hus i).2 c hx
  have hs := stK_succ k l hx
  have hts := tlK_succ k l hx
  have htl := tlK_len k l i (by omega)
  rw [← hs] at cd
  simp +contextual (maxSteps:=9^7) only [go_sem,hlt',hx,Cmd.pv,trX_cells,trX_agg]
  refine V.call rfl rfl (by simp [dOK]) ⟨14,[],by simp only [go_sem],⟨_,rfl,rfl,rfl⟩,.inl ⟨[storeX (us i) (stK k l i),c.pv],_,.inl (by simp only [go_sem,storeX,Cmd.pv]),cd,.inr (.inl ⟨_,rfl,rfl,rfl⟩)⟩⟩ ?_
  refine V.exec 400 ?_
  simp +contextual (maxSteps:=9^7) only [go_sem,hwi,trX_cells,trX_agg,Tell.pv,storeX]
  refine ⟨⟨by omega,by omega⟩,l.length - (i + 1),_,_,[some 0,some 20,some 2],by omega,⟨i + 1,by omega,rfl,rfl,rfl⟩,?_⟩
  simp only [go_sem,hs,hts,trX_agg,zM,zC,zB,Tell.pv]
  try decide
 ·have hlt' : ¬ (i : Int) < (l.length : Int) := by omega
  obtain rfl : i = l.length := by omega
  simp +contextual (maxSteps:=9^7) only [go_sem,hlt',trX_cells,trX_agg,storeX]
theorem with_err (k : KSt) (l : List Sub) (n e : Int) : (withV k l n e).2.err = e ∧ (e ≠ 0 → (withV k l n e).1 = k) ∧ (withV k l n e).1.L = k.L ∧ (withV k l n e).1.T = k.T ∧ (withV k l n e).1.seq = k.seq ∧ (withV k l n e).1.floor = k.floor := by
 unfold withV
 split
 ·rename_i h; exact ⟨h.symm,fun g => absurd h g,rfl,rfl,rfl,rfl⟩
 ·exact ⟨rfl,fun _ => rfl,rfl,rfl,rfl,rfl⟩
def Ext (a b : KSt) : Prop := a.floor = b.floor ∧ a.seq ≤ b.seq ∧ ∃ t,b.T = a.T ++ t ∧ (∀ x ∈ t,a.seq < x.seq) ∧ backGo b.L t = some a.L
theorem Ext.refl (a : KSt) : Ext a a := ⟨rfl,Int.le_refl _,[],by simp,by simp,rfl⟩
theorem Ext.with {a b : KSt} (h : Ext a b) (l : List Sub) (n e : Int) : Ext a (withV b l n e).1 := by
 obtain ⟨_,_,h1,h2,h3,h4⟩ := with_err b l n e
 unfold Ext
 rw [h1,h2,h3,h4]
 exact h
def extQ (a : KSt) (r : KSt × Tell) : Prop := Ext a r.1
theorem Ext.step {a b : KSt} (hb : b.ok) (h : Ext a b) (c : Cmd) (hc : c.d ≠ 11) : extQ a (doK b c) := by
 unfold doK
 split
 ·unfold writeV
  split
  ·rename_i hr
   have w := wrote hb hr
   split
   ·exact h
   ·obtain ⟨h1,h2,t,h3,h4,h5⟩ := h
    refine ⟨h1,by show a.seq ≤ b.seq + _; omega,t ++ (runV b.L b.seq c.ns).1,?_,fun x hx => ?_,?_⟩
    ·show b.T ++ _ = _
     rw [h3,List.append_assoc]
    ·rcases zO.1 hx with hx | hx
     ·exact h4 x hx
     ·have := (w.seqs x hx).1; omega
    ·show backGo (runV b.L b.seq c.ns).2.1 _ = _
     rw [backGo_app,w.back,Option.bind_some]
     exact h5
  ·exact h
 split
 ·exact h
 split
 ·exact h
 split
 ·exact h
 split
 ·exact h.with _ _ _
 split
 ·split
  ·exact h
  ·split
   ·exact h
   ·exact h.with _ _ _
 split
 ·exact h
 split
 ·unfold goesV
  split
  ·exact h
  ·split
   ·exact h.with _ _ _
   ·exact h.with _ _ _
 split
 ·exact h.with _ _ _
 split
 ·exact h
 ·exact h
theorem Ext.was {a b : KSt} (ha : a.ok) (hb : b.ok) (h : Ext a b) : atV b.L b.T b.floor a.seq = (a.L,0) := by
 obtain ⟨h1,h2,t,h3,h4,h5⟩ := h
 have hd : dropV b.T a.seq = t := by
  rw [dropV_ok hb.2.1,h3,zV]
  have e1 : a.T.filter (fun c => decide (a.seq < c.seq)) = [] := by
   rw [List.filter_eq_nil_iff]
   intro x hx
   have := (ha.2.2.2.2.2.2.2.2.1 x hx).2
   simp; omega
  have e2 : t.filter (fun c => decide (a.seq < c.seq)) = t := by
   rw [List.filter_eq_self]
   intro x hx
   simpa using h4 x hx
  rw [e1,e2,List.nil_append]
 obtain ⟨P,g1,g2,_⟩ := hb.at (q := a.seq) (by rw [← h1]; exact ha.2.2.2.2.2.2.1)
 rw [hd,h5] at g1
 cases g1
 exact g2
theorem pairs_self (L : List Pair) (h : L.length ≤ 1000000) : Ct pG 23 (Zv.ops [.row (L.map Pair.pv),.row (L.map Pair.pv)]) (.vals [.bool true]) := by
 have c := ref03_Same L L h
 rw [show decide (L = L) = true from decide_eq_true rfl] at c
 exact c
theorem trail_self (L : List Change) (h : L.length ≤ 1000000) : Ct pG 29 (Zv.ops [.row (L.map Change.pv),.row (L.map Change.pv)]) (.vals [.bool true]) := by
 have c := ref13_Same L L h
 rw [show decide (L = L) = true from decide_eq_true rfl] at c
 exact c
theorem subs_self (L : List Sub) (h : L.length ≤ 1000000) : Ct pG 50 (Zv.ops [.row (L.map Sub.pv),.row (L.map Sub.pv)]) (.vals [.bool true]) := by
 have c := ref20_Same L L h
 rw [show decide (L = L) = true from decide_eq_true rfl] at c
 exact c
theorem law_Reply (t : Tell) : Ct pG 17 (Zv.ops [t.pv]) (.vals [t.pv]) := by
 refine Ct.of_V Tryz.func17 rfl (by simp [Zv.ops,Tryz.f17]) ?_
 refine V.exec 400 ?_
 simp +contextual (maxSteps:=9^7) only [go_sem,Tryz.f17,Tell.pv]
theorem law_Ref (k : KSt) (h : k.S.length ≤ 1000000) : Ct pG 19 (Zv.ops [k.pv]) (.vals [k.pv]) := by
 have c1 := law_Refs k.S h
 refine Ct.of_V Tryz.func19 rfl (by simp [Zv.ops,Tryz.f19]) ?_
 refine V.exec 400 ?_
 simp +contextual (maxSteps:=9^7) only [go_sem,Tryz.f19,KSt.pv]
 refine DV.call [] [] (by simp only [go_sem]) (by simp [dOK]) ⟨51,[],by simp only [go_sem],⟨_,rfl,rfl,rfl⟩,.inl ⟨[.row (k.S.map Sub.pv)],_,.inl (by simp only [go_sem]),c1,.inr (.inl ⟨_,rfl,rfl,rfl⟩)⟩⟩ (by simp only [go_sem]) (by simp only [go_sem]) (by simp only [go_sem]) (by simp) ?_
 refine DV.exec 400 ?_
 simp +contextual (maxSteps:=9^7) only [go_sem,KSt.pv]
 kernel_rfl
set_option maxHeartbeats 4000000 in
theorem told_self (t : Tell) (h1 : t.k.ps.length ≤ 1000000) (h2 : t.k.cs.length ≤ 1000000) : Ct pG 16 (Zv.ops [t.pv,t.pv]) (.vals [.bool true]) := by
 have c1 := pairs_self t.k.ps h1
 have c2 := trail_self t.k.cs h2
 refine Ct.of_V Tryz.func16 rfl (by simp [Zv.ops,Tryz.f16]) ?_
 refine V.exec 400 ?_
 simp +contextual (maxSteps:=9^7) only [go_sem,Tryz.f16,Tell.pv]
 refine DV.call [] [] (by simp only [go_sem]) (by simp [dOK]) ⟨23,[],by simp only [go_sem],⟨_,rfl,rfl,rfl⟩,.inl ⟨[.row (t.k.ps.map Pair.pv),.row (t.k.ps.map Pair.pv)],_,.inl (by simp only [go_sem]),c1,.inl ⟨_,rfl,rfl,rfl,rfl⟩⟩⟩ (by simp only [go_sem]) (by simp only [go_sem]) (by simp only [go_sem]) (by simp) ?_
 refine DV.exec 400 ?_
 simp +contextual (maxSteps:=9^7) only [go_sem]
 refine DV.call [] [] (by simp only [go_sem]) (by simp [dOK]) ⟨29,[],by simp only [go_sem],⟨_,rfl,rfl,rfl⟩,.inl ⟨[.row (t.k.cs.map Change.pv),.row (t.k.cs.map Change.pv)],_,.inl (by simp only [go_sem]),c2,.inl ⟨_,rfl,rfl,rfl,rfl⟩⟩⟩ (by simp only [go_sem]) (by simp only [go_sem]) (by simp only [go_sem]) (by simp) ?_
 refine DV.exec 400 ?_
 simp +contextual (maxSteps:=9^7) only [go_sem]
 kernel_rfl
set_option maxHeartbeats 4000000 in
theorem state_self (k : KSt) (h1 : k.L.length ≤ 1000000) (h2 : k.T.length ≤ 1000000) (h3 : k.S.length ≤ 1000000) : Ct pG 18 (Zv.ops [k.pv,k.pv]) (.vals [.bool true]) := by
 have c1 := pairs_self k.L h1
 have c2 := trail_self k.T h2
 have c3 := subs_self k.S h3
 refine Ct.of_V Tryz.func18 rfl (by simp [Zv.ops,Tryz.f18]) ?_
 refine V.exec 400 ?_
 simp +contextual (maxSteps:=9^7) only [go_sem,Tryz.f18,KSt.pv]
 refine DV.call [] [] (by simp only [go_sem]) (by simp [dOK]) ⟨23,[],by simp only [go_sem],⟨_,rfl,rfl,rfl⟩,.inl ⟨[.row (k.L.map Pair.pv),.row (k.L.map Pair.pv)],_,.inl (by simp only [go_sem]),c1,.inl ⟨_,rfl,rfl,rfl,rfl⟩⟩⟩ (by simp only [go_sem]) (by simp only [go_sem]) (by simp only [go_sem]) (by simp) ?_
 refine DV.exec 400 ?_
 simp +contextual (maxSteps:=9^7) only [go_sem]
 refine DV.call [] [] (by simp only [go_sem]) (by simp [dOK]) ⟨29,[],by simp only [go_sem],⟨_,rfl,rfl,rfl⟩,.inl ⟨[.row (k.T.map Change.pv),.row (k.T.map Change.pv)],_,.inl (by simp only [go_sem]),c2,.inl ⟨_,rfl,rfl,rfl,rfl⟩⟩⟩ (by simp only [go_sem]) (by simp only [go_sem]) (by simp only [go_sem]) (by simp) ?_
 refine DV.exec 400 ?_
 simp +contextual (maxSteps:=9^7) only [go_sem]
 refine DV.call [] [] (by simp only [go_sem]) (by simp [dOK]) ⟨50,[],by simp only [go_sem],⟨_,rfl,rfl,rfl⟩,.inl ⟨[.row (k.S.map Sub.pv),.row (k.S.map Sub.pv)],_,.inl (by simp only [go_sem]),c3,.inl ⟨_,rfl,rfl,rfl,rfl⟩⟩⟩ (by simp only [go_sem]) (by simp only [go_sem]) (by simp only [go_sem]) (by simp) ?_
 refine DV.exec 400 ?_
 simp +contextual (maxSteps:=9^7) only [go_sem]
 kernel_rfl
def slimN (x : Note) : Prop := x.key.length ≤ 300 ∧ x.value.length ≤ 300
instance instSlimN (x : Note) : Decidable (slimN x) := by unfold slimN; infer_instance
def Cmd.slim (c : Cmd) : Prop := c.ns.length ≤ 20 ∧ c.key.length ≤ 300 ∧ c.r.lo.length ≤ 300 ∧ c.r.hi.length ≤ 300 ∧ ∀ x ∈ c.ns,slimN x
instance instSlimC (c : Cmd) : Decidable c.slim := by unfold Cmd.slim; infer_instance
def fewK (l : List Cmd) (n : Nat) : Prop := ∀ c ∈ l.take n,c.slim
instance instFewK (l : List Cmd) (n : Nat) : Decidable (fewK l n) := by unfold fewK; infer_instance
theorem fewK_succ {l : List Cmd} {i : Nat} {c : Cmd} (hx : l[i]? = some c) : fewK l (i + 1) ↔ fewK l i ∧ c.slim := by
 unfold fewK
 rw [zL,hx]
 simp only [Option.toList_some,zO,List.mem_singleton]
 constructor
 ·intro h; exact ⟨fun c hc => h c (.inl hc),h c (.inr rfl)⟩
 ·rintro ⟨h1,h2⟩ c' (h | h)
  ·exact h1 c' h
  ·rw [h]; exact h2
theorem fewK_mono {l : List Cmd} {i j : Nat} (h : i ≤ j) (hj : fewK l j) : fewK l i := fun c hc => hj c (by
 have : l.take i = (l.take j).take i := by rw [List.take_take,Nat.min_eq_left h]
 rw [this] at hc
 exact List.mem_of_mem_take hc)
set_option maxRecDepth 10000 in
set_option maxHeartbeats 16000000 in
theorem law_Few (l : List Cmd) (most : Nat) (hl : l.length ≤ 9223372036854775807) (hm : most ≤ 1000) :
  Ct pG 12 (Zv.ops [.row (l.map Cmd.pv),.int .i64 most]) (.vals [.int .i64 (if fewK l (min l.length most) then ((min l.length most : Nat) : Int) else -1)]) := by
 obtain ⟨n,hn⟩ : ∃ n,min l.length most = n := ⟨_,rfl⟩
 have hmn : (if (most : Int) < (l.length : Int) then (most : Int) else (l.length : Int)) = (n : Int) := by split <;> omega
 have hmn2 : (if (l.length : Int) < (most : Int) then (l.length : Int) else (most : Int)) = (n : Int) := by split <;> omega
 have hnl : n ≤ l.length := by omega
 have htl : (l.take n).length = n := by rw [zU]; omega
 rw [hn]
 refine Ct.of_V Tryz.func12 rfl (by simp [Zv.ops,Tryz.f12]) ?_
 refine V.exec 400 ?_
 simp +contextual (maxSteps:=9^7) only [go_sem,Tryz.f12,hmn,hmn2]
 refine ⟨by omega,?_⟩
 have hmt : (l.map Cmd.pv).take n = (l.take n).map Cmd.pv := by rw [List.map_take]
 have hz0 : ((0 : Nat) : Int) = 0 := rfl
 have hbad : ∀ i c,i < n → l[i]? = some c → ¬ c.slim → ¬ fewK l n := fun i c hi hx hs hf => by
  have := fewK_mono (show i + 1 ≤ n by omega) hf
  exact hs ((fewK_succ hx).1 this).2
 refine V.loop (fun m ls os => ∃ i : Nat,i ≤ n ∧ m = n - i ∧ fewK l i ∧
   ls = [(5,.val (.int .i64 n)),(16,.val (.row ((l.take n).map Cmd.pv))),(17,.val (.int .i64 n)),(18,.val (.int .i64 i))] ∧ os = []) 0 n
  [(5,.val (.int .i64 n)),(16,.val (.row ((l.take n).map Cmd.pv))),(17,.val (.int .i64 n)),(18,.val (.int .i64 0))] [] []
  ⟨0,zF _,rfl,fun c hc => by simp at hc,rfl,rfl⟩ (by simp only [go_sem,hmt,htl]; try decide) ?_
 rintro m ls os ⟨i,hi,rfl,hf,rfl,rfl⟩
 refine V.exec 400 ?_
 by_cases hlt : i < n
 ·have hlt' : (i : Int) < (n : Int) := by omega
  obtain ⟨c,hx⟩ : ∃ c,l[i]? = some c := ⟨_,zA (by omega)⟩
  have hxt : (l.take n)[i]? = some c := by rw [List.getElem?_take,if_pos hlt,hx]
  have hwi : IntKind.i64.wrap ((i : Int) + 1) = ((i + 1 : Nat) : Int) := by rw [wrap_small3] <;> omega
  by_cases h1 : 20 < c.ns.length
  ·have h1' : (20 : Int) < (c.ns.length : Int) := by omega
   have hv := hbad i c hlt hx (fun h => by have := h.1; omega)
   simp +contextual (maxSteps:=9^7) only [go_sem,hlt',htl,hxt,Cmd.pv,h1',hv]
  have h1' : ¬ (20 : Int) < (c.ns.length : Int) := by omega
  by_cases h2 : 300 < c.key.length
  ·have h2' : (300 : Int) < (c.key.length : Int) := by omega
   have hv := hbad i c hlt hx (fun h => by have := h.2.1; omega)
   simp +contextual (maxSteps:=9^7) only [go_sem,hlt',htl,hxt,Cmd.pv,h1',h2',hv]
  have h2' : ¬ (300 : Int) < (c.key.length : Int) := by omega
  by_cases h3 : 300 < c.r.lo.length
  ·have h3' : (300 : Int) < (c.r.lo.length : Int) := by omega
   have hv := hbad i c hlt hx (fun h => by have := h.2.2.1; omega)
   simp +contextual (maxSteps:=9^7) only [go_sem,hlt',htl,hxt,Cmd.pv,h1',h2',h3',hv]
  have h3' : ¬ (300 : Int) < (c.r.lo.length : Int) := by omega
  by_cases h4 : 300 < c.r.hi.length
  ·have h4' : (300 : Int) < (c.r.hi.length : Int) := by omega
   have hv := hbad i c hlt hx (fun h => by have := h.2.2.2.1; omega)
   simp +contextual (maxSteps:=9^7) only [go_sem,hlt',htl,hxt,Cmd.pv,h1',h2',h3',h4',hv]
  have h4' : ¬ (300 : Int) < (c.r.hi.length : Int) := by omega
  simp +contextual (maxSteps:=9^7) only [go_sem,hlt',htl,hxt,Cmd.pv,h1',h2',h3',h4']
  refine V.loop (fun m ls os => ∃ j : Nat,j ≤ c.ns.length ∧ m = c.ns.length - j ∧ (∀ x ∈ c.ns.take j,slimN x) ∧
    ls = [(5,.val (.int .i64 n)),(16,.val (.row ((l.take n).map Cmd.pv))),(17,.val (.int .i64 n)),(18,.val (.int .i64 i)),(47,.val (.row (c.ns.map Note.pv))),(48,.val (.int .i64 c.ns.length)),(49,.val (.int .i64 j))] ∧ os = []) 0 c.ns.length
   [(5,.val (.int .i64 n)),(16,.val (.row ((l.take n).map Cmd.pv))),(17,.val (.int .i64 n)),(18,.val (.int .i64 i)),(47,.val (.row (c.ns.map Note.pv))),(48,.val (.int .i64 c.ns.length)),(49,.val (.int .i64 0))] [] []
   ⟨0,zF _,rfl,fun c hc => by simp at hc,rfl,rfl⟩ (by simp only [go_sem]; try decide) ?_
  rintro m ls os ⟨j,hj,rfl,hg,rfl,rfl⟩
  refine V.exec 400 ?_
  by_cases hjt : j < c.ns.length
  ·have hjt' : (j : Int) < (c.ns.length : Int) := by omega
   obtain ⟨x,hy⟩ : ∃ x,c.ns[j]? = some x := ⟨_,zA hjt⟩
   have hwj : IntKind.i64.wrap ((j : Int) + 1) = ((j + 1 : Nat) : Int) := by rw [wrap_small3] <;> omega
   by_cases h5 : 300 < x.key.length
   ·have h5' : (300 : Int) < (x.key.length : Int) := by omega
    have hv := hbad i c hlt hx (fun h => by have := (h.2.2.2.2 x (zE hy)).1; omega)
    simp +contextual (maxSteps:=9^7) only [go_sem,hjt',hy,Note.pv,h5',hv]
   have h5' : ¬ (300 : Int) < (x.key.length : Int) := by omega
   by_cases h6 : 300 < x.value.length
   ·have h6' : (300 : Int) < (x.value.length : Int) := by omega
    have hv := hbad i c hlt hx (fun h => by have := (h.2.2.2.2 x (zE hy)).2; omega)
    simp +contextual (maxSteps:=9^7) only [go_sem,hjt',hy,Note.pv,h5',h6',hv]
   have h6' : ¬ (300 : Int) < (x.value.length : Int) := by omega
   simp +contextual (maxSteps:=9^7) only [go_sem,hjt',hy,Note.pv,h5',h6',hwj]
   refine ⟨c.ns.length - (j + 1),_,[],[],by omega,⟨j + 1,by omega,rfl,fun y hm => ?_,rfl,rfl⟩,by simp only [go_sem]; try decide⟩
   rw [zL,hy] at hm
   simp only [Option.toList_some,zO,List.mem_singleton] at hm
   rcases hm with hm | rfl
   ·exact hg y hm
   ·exact ⟨by omega,by omega⟩
  ·have hjt' : ¬ (j : Int) < (c.ns.length : Int) := by omega
   obtain rfl : j = c.ns.length := by omega
   rw [List.take_length] at hg
   simp +contextual (maxSteps:=9^7) only [go_sem,hjt',hwi]
   exact ⟨n - (i + 1),_,[],[],by omega,⟨i + 1,by omega,rfl,(fewK_succ hx).2 ⟨hf,by omega,by omega,by omega,by omega,hg⟩,rfl,rfl⟩,by simp only [go_sem]; try decide⟩
 ·have hlt' : ¬ (i : Int) < (n : Int) := by omega
  obtain rfl : i = n := by omega
  simp +contextual (maxSteps:=9^7) only [go_sem,hlt',hf]
end Go.Proofs.YtfemlllmglaimaaGreat
namespace Go.Proofs.Zv
open Go Go.Proofs
end Go.Proofs.Zv
namespace Go.Proofs.Zv
open Go Go.Proofs
end Go.Proofs.Zv
set_option maxRecDepth 8000
namespace Go.Proofs.Zv
open Go Go.Proofs
def RowOf (ks : List KD) (xs : List PV) : Prop := xs.length ≤ maxLen ∧ ∀ x ∈ xs,∃ qs,x = .agg qs ∧ qs.map PV.kd = ks ∧ ∀ q ∈ qs,q.wfv
theorem PTy.rowOf {P : Program} {d d' : Nat} {t e : TypeId} {ps : List PV} {ks : List KD} (h : PTy P (d + 1) t ps) (hs : P.underlying t = some (.slice e)) (hk : eqK P d' e = some ks) (hag : aggOf P e = some true) : ∃ xs,ps = [.row xs] ∧ RowOf ks xs := by
 unfold PTy at h
 simp only [hs] at h
 obtain ⟨ys,hc,hyl,hy⟩ := h
 refine ⟨ys,hc,hyl,fun y hym => ?_⟩
 obtain ⟨k1,k2⟩ := hy y hym
 rw [hag] at k2
 obtain ⟨m1,m2⟩ := PTy.kinds d e _ k1 d' ks hk
 cases y with
 | agg qs => exact ⟨qs,rfl,m1,m2⟩
 | _ => cases k2
end Go.Proofs.Zv
set_option maxRecDepth 8000
namespace Go.Proofs.Zv
open Go Go.Proofs
inductive SK where
 | k (x : KD)
 | r (ks : List KD)
def shFs (P : Program) (K : TypeId → Option (List SK)) : List Field → Option (List SK)
 | [] => some []
 | f :: fs => match K f.type,shFs P K fs with
  | some a,some b => if P.cellsOf f.type = a.length then some (a ++ b) else none
  | _,_ => none
def shOf (P : Program) : Nat → TypeId → Option (List SK)
 | 0,_ => none
 | d + 1,t => match P.underlying t with
  | some .bool => some [.k .bool]
  | some (.int k) => some [.k (.int k)]
  | some .string => some [.k .str]
  | some (.slice e) => if aggOf P e = some true then (eqK P d e).map fun ks => [.r ks] else none
  | some (.struct fs) => shFs P (shOf P d) fs.toList
  | _ => none
def mS : SK → PV → Prop
 | .k x,p => p.kd = x ∧ p.wfv
 | .r ks,p => ∃ xs,p = .row xs ∧ RowOf ks xs
def mSs : List SK → List PV → Prop
 | [],ps => ps = []
 | s :: ss,ps => ∃ p qs,ps = p :: qs ∧ mS s p ∧ mSs ss qs
theorem mSs_app : ∀ (a b : List SK) (ps : List PV),mSs a (ps.take a.length) → mSs b (ps.drop a.length) → mSs (a ++ b) ps
 | [],b,ps,_,h => by simpa using h
 | s :: a,b,ps,h,g => by
  obtain ⟨p,qs,e,h1,h2⟩ := h
  cases ps with
  | nil => simp at e
  | cons x r =>
   simp only [List.length_cons,List.take_succ_cons,List.cons.injEq] at e
   obtain ⟨rfl,rfl⟩ := e
   exact ⟨x,r,rfl,h1,mSs_app a b r h2 (by simpa using g)⟩
theorem PTy.shape {P : Program} : ∀ (d : Nat) (t : TypeId) (ps : List PV),PTy P d t ps → ∀ (d' : Nat) (ss : List SK),shOf P d' t = some ss → mSs ss ps := by
 intro d
 induction d with
 | zero => intro t ps h; exact h.elim
 | succ d ih =>
  intro t ps h d' ss hs
  cases d' with
  | zero => cases hs
  | succ d' =>
   simp only [PTy] at h
   simp only [shOf] at hs
   split at h
   ·rename_i hu
    rw [hu] at hs
    obtain rfl := Option.some.inj hs
    obtain ⟨b,rfl⟩ := h
    exact ⟨_,_,rfl,⟨rfl,trivial⟩,rfl⟩
   ·rename_i k hu
    rw [hu] at hs
    obtain rfl := Option.some.inj hs
    obtain ⟨n,rfl,hw⟩ := h
    exact ⟨_,_,rfl,⟨rfl,hw⟩,rfl⟩
   ·rename_i hu
    rw [hu] at hs
    obtain rfl := Option.some.inj hs
    obtain ⟨l,rfl,hw⟩ := h
    exact ⟨_,_,rfl,⟨rfl,hw⟩,rfl⟩
   ·rename_i e hu
    rw [hu] at hs
    simp only at hs
    split at hs
    ·rename_i hag
     cases hk : eqK P d' e with
     | none => rw [hk] at hs; cases hs
     | some ks =>
      rw [hk] at hs
      obtain rfl := Option.some.inj hs
      have hh : PTy P (d + 1) t ps := by simp only [PTy,hu]; exact h
      obtain ⟨xs,e1,e2⟩ := PTy.rowOf hh hu hk hag
      exact ⟨_,_,e1,⟨xs,rfl,e2⟩,rfl⟩
    ·cases hs
   ·rename_i fs hu
    rw [hu] at hs
    simp only at hs
    have key : ∀ (fs : List Field) (ps : List PV) (ss : List SK),PFs P (PTy P d) fs ps → shFs P (shOf P d') fs = some ss → mSs ss ps := by
     intro fs
     induction fs with
     | nil =>
      intro ps ss h hs
      obtain rfl := Option.some.inj hs
      exact h
     | cons f fs ihf =>
      intro ps ss h hs
      obtain ⟨h1,h2⟩ := h
      simp only [shFs] at hs
      split at hs
      ·rename_i a b ha hb
       split at hs
       ·rename_i hc
        obtain rfl := Option.some.inj hs
        rw [hc] at h1 h2
        exact mSs_app a b ps (ih f.type _ h1 d' a ha) (ihf _ b h2 hb)
       ·cases hs
      ·cases hs
    exact key fs.toList ps ss h hs
   ·exact h.elim
theorem Opens.shape {P : Program} {w : World} {d : Nat} {t : TypeId} {cs : List Value} {ss : List SK} {d' : Nat} (h : Opens P w d t cs) (hs : shOf P d' t = some ss) : ∃ qs,Reps w (Fw w) qs cs ∧ mSs ss qs ∧ ∀ q ∈ qs,q.isAgg = false := by
 obtain ⟨ps,h1,h2,h3,h4⟩ := h
 exact ⟨ps,h1,PTy.shape d t ps h2 d' ss hs,h3⟩
end Go.Proofs.Zv
namespace Go.Proofs.YtfemlllmglaimaaGreat
open Go Go.Proofs Go.Proofs.Zv Go.Proofs.YtfemlllmglaimaaGreat.Ty
open Go.Proofs.Tryz renaming prog → pG
open List renaming getElem?_eq_getElem → zA, map_nil → zB, map_cons → zC, take_of_length_le → zD, mem_of_getElem? → zE, mem_cons_self → zG, mem_cons_of_mem → zH, mem_cons → zI, length_append → zJ, drop_eq_nil_of_le → zK, take_add_one → zL, map_append → zM, mem_map → zN, mem_append → zO, eq_nil_of_length_eq_zero → zP, getElem?_eq_some_iff → zQ, getElem?_map → zS, length_cons → zT, length_take → zU, filter_append → zV, length_map → zW
open Nat renaming zero_le → zF, le_refl → zR
theorem kd_int {p : PV} {k : IntKind} (h : p.kd = .int k) : ∃ n,p = .int k n := by
 cases p <;> simp [PV.kd] at h
 subst h; exact ⟨_,rfl⟩
theorem kd_str {p : PV} (h : p.kd = .str) : ∃ l,p = .str l := by
 cases p <;> simp [PV.kd] at h
 exact ⟨_,rfl⟩
theorem kd_bool {p : PV} (h : p.kd = .bool) : ∃ b,p = .bool b := by
 cases p <;> simp [PV.kd] at h
 exact ⟨_,rfl⟩
abbrev cmdSh : List SK := [.k (.int .i64),.r [.int .i64,.str,.str,.int .u64],.k .str,.k .str,.k .str,.k .bool,.k (.int .i64),.k (.int .i64),.k (.int .i64)]
theorem cmd_one {qs : List PV} (h : mSs cmdSh qs) : ∃ c : Cmd,PV.agg qs = c.pv ∧ c.ns.length ≤ maxLen := by
 obtain ⟨p1,q1,rfl,⟨k1,_⟩,h⟩ := h
 obtain ⟨p2,q2,rfl,⟨xs,rfl,hl,hx⟩,h⟩ := h
 obtain ⟨p3,q3,rfl,⟨k3,_⟩,h⟩ := h
 obtain ⟨p4,q4,rfl,⟨k4,_⟩,h⟩ := h
 obtain ⟨p5,q5,rfl,⟨k5,_⟩,h⟩ := h
 obtain ⟨p6,q6,rfl,⟨k6,_⟩,h⟩ := h
 obtain ⟨p7,q7,rfl,⟨k7,_⟩,h⟩ := h
 obtain ⟨p8,q8,rfl,⟨k8,_⟩,h⟩ := h
 obtain ⟨p9,q9,rfl,⟨k9,_⟩,h⟩ := h
 cases h
 obtain ⟨a1,rfl⟩ := kd_int k1
 obtain ⟨a3,rfl⟩ := kd_str k3
 obtain ⟨a4,rfl⟩ := kd_str k4
 obtain ⟨a5,rfl⟩ := kd_str k5
 obtain ⟨a6,rfl⟩ := kd_bool k6
 obtain ⟨a7,rfl⟩ := kd_int k7
 obtain ⟨a8,rfl⟩ := kd_int k8
 obtain ⟨a9,rfl⟩ := kd_int k9
 obtain ⟨ns,rfl⟩ := note_of17 xs hx
 exact ⟨⟨a1,ns,a3,⟨a4,a5,a6⟩,a7,a8,a9⟩,by cases a6 <;> rfl,by simpa using hl⟩
def lastT (l : List Change) : Int := if trailOk l then (match l[l.length - 1]? with | some c => c.seq | none => 0) else 0
theorem trail_Last (l : List Change) (hl : l.length ≤ 1000000) : Ct pG 58 (Zv.ops [.row (l.map Change.pv)]) (.vals [.int .i64 (lastT l)]) := by
 have c1 := trail_Right l hl
 refine Ct.of_V Tryz.func58 rfl (by simp [Zv.ops,Tryz.f58]) ?_
 refine V.exec 400 ?_
 simp +contextual (maxSteps:=9^7) only [go_sem,Tryz.f58]
 by_cases h0 : l.length = 0
 ·have h0' : (l.length : Int) = 0 := by omega
  have hv : lastT l = 0 := by
   have : l = [] := zP h0
   subst this; rfl
  simp +contextual (maxSteps:=9^7) only [go_sem,h0',hv]
 ·have h0' : ¬ (l.length : Int) = 0 := by omega
  have hw : IntKind.i64.wrap ((l.length : Int) - 1) = ((l.length - 1 : Nat) : Int) := by rw [wrap_small3] <;> omega
  have hlt : ((l.length - 1 : Nat) : Int) < (l.length : Int) := by omega
  obtain ⟨x,hx⟩ : ∃ x,l[l.length - 1]? = some x := ⟨_,zA (by omega)⟩
  simp +contextual (maxSteps:=9^7) only [go_sem,h0']
  refine V.call rfl rfl (by simp [dOK]) ⟨56,[],by simp only [go_sem],⟨_,rfl,rfl,rfl⟩,.inl ⟨[.row (l.map Change.pv)],_,.inl (by simp only [go_sem]),c1,.inl ⟨_,rfl,rfl,rfl,rfl⟩⟩⟩ ?_
  refine V.exec 400 ?_
  by_cases ht : trailOk l
  ·have hv : lastT l = x.seq := by unfold lastT; rw [if_pos ht,hx]
   simp +contextual (maxSteps:=9^7) only [go_sem,ht,hw,hlt,hx,Change.pv,hv]
  ·have hv : lastT l = 0 := by unfold lastT; rw [if_neg ht]
   simp +contextual (maxSteps:=9^7) only [go_sem,ht,hv]
def seqOf : PV → Int
 | .agg [_,_,_,_,_,_,.int _ n] => n
 | _ => 0
def curOut (k : KSt) (s : Sub) : Prop := s.cur < k.floor ∨ k.seq < s.cur
instance instCurOut (k : KSt) (s : Sub) : Decidable (curOut k s) := by unfold curOut; infer_instance
theorem keeper_Right1 (k : KSt) (s : Sub) : Ct pG 60 (Zv.ops [s.pv,.ptr k.pv]) (.vals [.bool (decide (curOut k s))]) := by
 refine Ct.of_V Tryz.func60 rfl (by simp [Zv.ops,Tryz.f60]) ?_
 refine V.exec 400 ?_
 simp +contextual (maxSteps:=9^7) only [go_sem,Tryz.f60,Sub.pv,KSt.pv]
 by_cases h1 : s.cur < k.floor
 ·have : curOut k s := .inl h1
  simp +contextual (maxSteps:=9^7) only [go_sem,h1,this]
 ·by_cases h2 : k.seq < s.cur
  ·have : curOut k s := .inr h2
   simp +contextual (maxSteps:=9^7) only [go_sem,h1,h2,this]
  ·have : ¬ curOut k s := fun h => h.elim h1 h2
   simp +contextual (maxSteps:=9^7) only [go_sem,h1,h2,this]
theorem Contains_sub (l : List Sub) (hl : l.length ≤ 1000000) (g : FuncId) (hg : Entered pG g) (caps : List PV) (p : Sub → Bool) (q : PV → Bool) (hq : ∀ s : Sub,q s.pv = p s)
  (hp : ∀ s ∈ l,Ct pG g (Zv.ops ([s.pv] ++ caps)) (.vals [.bool (decide (p s = true))])) : Ct pG 59 (Zv.ops [.row (l.map Sub.pv),.fn g caps]) (.vals [.bool (decide (∃ s ∈ l,p s = true))]) := by
 obtain ⟨r,hr,hr1,hr2,hr3⟩ := first_of q (l.map Sub.pv)
 have hi := IndexFuncSub (l.map Sub.pv) g caps q (fun y hy => by
   obtain ⟨s,_,rfl⟩ := zN.1 hy
   exact ⟨rfl,rfl⟩) (by simpa using hl) hg (fun y hy => by
   obtain ⟨s,hs,rfl⟩ := zN.1 hy
   rw [hq]
   exact hp s hs) r hr hr1 hr2
 have e : (∃ y ∈ l.map Sub.pv,q y = true) ↔ ∃ s ∈ l,p s = true := by
  constructor
  ·rintro ⟨y,hy,h⟩
   obtain ⟨s,hs,rfl⟩ := zN.1 hy
   exact ⟨s,hs,by rw [← hq]; exact h⟩
  ·rintro ⟨s,hs,h⟩
   exact ⟨s.pv,List.mem_map_of_mem hs,by rw [hq]; exact h⟩
 rw [e,zW] at hr3
 rw [zW] at hi
 refine Ct.of_V Tryz.func59 rfl (by simp [Zv.ops,Tryz.f59]) ?_
 refine V.exec 400 ?_
 simp +contextual (maxSteps:=9^7) only [go_sem,Tryz.f59]
 refine V.call rfl rfl (by simp [dOK]) ⟨103,[],by simp only [go_sem],⟨_,rfl,rfl,rfl⟩,.inl ⟨[.row (l.map Sub.pv),.fn g caps],_,.inl (by simp only [go_sem]),hi,.inl ⟨_,rfl,rfl,rfl,rfl⟩⟩⟩ ?_
 refine V.exec 400 ?_
 simp +contextual (maxSteps:=9^7) only [go_sem]
 by_cases hc : ∃ s ∈ l,p s = true
 ·have h2 := hr3.2 hc
  simp [h2,hc]
 ·have : ¬ r < l.length := fun h => hc (hr3.1 h)
  simp [this]
  simpa using hc
instance KSt.instOk (k : KSt) : Decidable k.ok := by unfold KSt.ok; infer_instance
theorem lastT_le {l : List Change} (h : trailOk l) {n : Int} (hn : 0 ≤ n) : lastT l ≤ n ↔ ∀ c ∈ l,c.seq ≤ n := by
 unfold lastT
 rw [if_pos h]
 rcases Nat.eq_zero_or_pos l.length with h0 | h0
 ·have : l = [] := zP h0
  subst this
  simp [hn]
 ·have hx : l[l.length - 1]? = some l[l.length - 1] := zA (by omega)
  rw [hx]
  constructor
  ·intro g c hc
   have := trailFrom_upto l none (l.length - 1) _ h hx c (by rw [show l.length - 1 + 1 = l.length by omega,List.take_length]; exact hc)
   simp only at g
   omega
  ·intro g
   exact g _ (zE hx)
theorem firstT_gt {l : List Change} (h : trailOk l) {n : Int} {x : Change} (hx : l[0]? = some x) : n < x.seq ↔ ∀ c ∈ l,n < c.seq := by
 cases l with
 | nil => cases hx
 | cons y r =>
  cases hx
  constructor
  ·intro g c hc
   rcases zI.1 hc with rfl | hc
   ·exact g
   ·have := trailFrom_gt r _ h.2.2 c hc
    omega
  ·intro g
   exact g _ zG
set_option maxRecDepth 10000 in
set_option maxHeartbeats 16000000 in
theorem keeper_Right (k : KSt) (hL : k.L.length ≤ 100000) (hT : k.T.length ≤ 100000) (hS : k.S.length ≤ 100000) : Ct pG 22 (Zv.ops [k.pv]) (.vals [.bool (decide k.ok)]) := by
 have c1 := trail_Right k.T (by omega)
 have c2 := floor_Right k.S (by omega)
 have c3 := trail_Last k.T (by omega)
 have c4 := past_At k.L k.T k.floor k.floor (by omega) (by omega)
 have c5 := Contains_sub k.S (by omega) 60 ⟨_,rfl,rfl,rfl⟩ [.ptr k.pv] (fun s => decide (curOut k s)) (fun y => decide (seqOf y < k.floor ∨ k.seq < seqOf y)) (fun s => rfl) (fun s _ => by simpa using keeper_Right1 k s)
 refine Ct.of_V Tryz.func22 rfl (by simp [Zv.ops,Tryz.f22]) ?_
 refine V.exec 400 ?_
 simp +contextual (maxSteps:=9^7) only [go_sem,Tryz.f22,KSt.pv]
 by_cases h1 : k.seq < 0
 ·have hv : ¬ k.ok := fun h => by have := h.2.2.2.2.2.1; have := h.2.2.2.2.2.2.1; omega
  simp +contextual (maxSteps:=9^7) only [go_sem,h1,hv]
 by_cases h2 : 2147483647 < k.seq
 ·have hv : ¬ k.ok := fun h => by have := h.2.2.2.2.2.2.2.1; omega
  simp +contextual (maxSteps:=9^7) only [go_sem,h1,h2,hv]
 by_cases h3 : k.floor < 0
 ·have hv : ¬ k.ok := fun h => by have := h.2.2.2.2.2.1; omega
  simp +contextual (maxSteps:=9^7) only [go_sem,h1,h2,h3,hv]
 by_cases h4 : k.seq < k.floor
 ·have hv : ¬ k.ok := fun h => by have := h.2.2.2.2.2.2.1; omega
  simp +contextual (maxSteps:=9^7) only [go_sem,h1,h2,h3,h4,hv]
 by_cases h5 : 60 < k.L.length
 ·have hv : ¬ k.ok := fun h => by have := h.2.2.2.1; omega
  have h5' : (60 : Int) < (k.L.length : Int) := by omega
  simp +contextual (maxSteps:=9^7) only [go_sem,h1,h2,h3,h4,h5',hv]
 have h5' : ¬ (60 : Int) < (k.L.length : Int) := by omega
 by_cases h6 : 60 < k.T.length
 ·have hv : ¬ k.ok := fun h => by have := h.2.2.2.2.1; omega
  have h6' : (60 : Int) < (k.T.length : Int) := by omega
  simp +contextual (maxSteps:=9^7) only [go_sem,h1,h2,h3,h4,h5',h6',hv]
 have h6' : ¬ (60 : Int) < (k.T.length : Int) := by omega
 simp +contextual (maxSteps:=9^7) only [go_sem,h1,h2,h3,h4,h5',h6']
 refine DV.call [] [] (by simp only [go_sem]) (by simp [dOK]) ⟨56,[],by simp only [go_sem],⟨_,rfl,rfl,rfl⟩,.inl ⟨[.row (k.T.map Change.pv)],_,.inl (by simp only [go_sem]),c1,.inl ⟨_,rfl,rfl,rfl,rfl⟩⟩⟩ (by simp only [go_sem]) (by simp only [go_sem]) (by simp only [go_sem]) (by simp) ?_
 refine DV.exec 400 ?_
 by_cases h7 : trailOk k.T
 ·simp +contextual (maxSteps:=9^7) only [go_sem,h7]
  refine DV.call [] [] (by simp only [go_sem]) (by simp [dOK]) ⟨57,[],by simp only [go_sem],⟨_,rfl,rfl,rfl⟩,.inl ⟨[.row (k.S.map Sub.pv)],_,.inl (by simp only [go_sem]),c2,.inl ⟨_,rfl,rfl,rfl,rfl⟩⟩⟩ (by simp only [go_sem]) (by simp only [go_sem]) (by simp only [go_sem]) (by simp) ?_
  refine DV.exec 400 ?_
  by_cases h8 : subsOk k.S
  ·simp +contextual (maxSteps:=9^7) only [go_sem,h7,h8]
   refine DV.call [] [] (by simp only [go_sem]) (by simp [dOK]) ⟨58,[],by simp only [go_sem],⟨_,rfl,rfl,rfl⟩,.inl ⟨[.row (k.T.map Change.pv)],_,.inl (by simp only [go_sem]),c3,.inl ⟨_,rfl,rfl,rfl,rfl⟩⟩⟩ (by simp only [go_sem]) (by simp only [go_sem]) (by simp only [go_sem]) (by simp) ?_
   refine DV.execS [5] 400 ?_
   have hlast := lastT_le h7 (n := k.seq) (by omega)
   by_cases h9 : k.seq < lastT k.T
   ·have hv : ¬ k.ok := fun h => by
     have h10 := hlast.2 (fun c hc => (h.2.2.2.2.2.2.2.2.1 c hc).2)
     omega
    simp +contextual (maxSteps:=9^7) only [go_sem,h7,h8,h9,hv]
    kernel_rfl
   ·have hseq := hlast.1 (by omega)
    simp +contextual (maxSteps:=9^7) only [go_sem,h7,h8,h9]
    refine ⟨by kernel_rfl,?_⟩
    have hok : (∀ c ∈ k.T,k.floor < c.seq) → (∀ s ∈ k.S,k.floor ≤ s.cur ∧ s.cur ≤ k.seq) → (decide ((atV k.L k.T k.floor k.floor).2 = 0) = decide k.ok) := fun g1 g2 => by
     have e1 : dropV k.T k.floor = k.T := drop_all h7 g1
     apply decide_eq_decide.2
     constructor
     ·intro h0
      rcases atV_facts k.L k.T k.floor k.floor with ⟨_,_,_,hp,_⟩ | ⟨_,g⟩
      ·refine ⟨hp,h7,h8,by omega,by omega,by omega,by omega,by omega,fun c hc => ⟨g1 c hc,hseq c hc⟩,g2,?_⟩
       unfold atV at h0
       rw [if_pos ⟨hp,h7⟩,if_neg (by omega),e1] at h0
       cases hb : backGo k.L k.T with
       | none => rw [hb] at h0; simp at h0
       | some q => rfl
      ·omega
     ·intro hk
      obtain ⟨P,_,hP,_⟩ := hk.at (Int.le_refl k.floor)
      rw [hP]
    have hbad : (∃ s ∈ k.S,decide (curOut k s) = true) → ¬ k.ok := fun ⟨s,hs,hc⟩ h => by
     have := h.2.2.2.2.2.2.2.2.2.1 s hs
     have hc' : curOut k s := by simpa using hc
     rcases hc' with g | g <;> omega
    have hfin : (∀ c ∈ k.T,k.floor < c.seq) → (¬ ∃ s ∈ k.S,decide (curOut k s) = true) → (decide ((atV k.L k.T k.floor k.floor).2 = 0) = decide k.ok) := fun g1 g2 => hok g1 fun s hs => by
     have : ¬ curOut k s := fun hc => g2 ⟨s,hs,by simpa using hc⟩
     unfold curOut at this
     omega
    refine V.pubt 1 (.ptr k.pv) (by simp only [go_sem,KSt.pv]) ?_
    refine V.exec 400 ?_
    by_cases h10 : k.T.length = 0
    ·have h10' : ¬ (0 : Int) < (k.T.length : Int) := by omega
     have hTn : k.T = [] := zP h10
     have g1 : ∀ c ∈ k.T,k.floor < c.seq := fun c hc => by rw [hTn] at hc; cases hc
     simp +contextual (maxSteps:=9^7) only [go_sem,h10',KSt.pv]
     refine DV.call [] [] (by simp only [go_sem,KSt.pv]) (by simp [dOK]) ⟨59,[],by simp only [go_sem,KSt.pv],⟨_,rfl,rfl,rfl⟩,.inl ⟨[.row (k.S.map Sub.pv),.fn 60 [.ptr k.pv]],_,.inl (by simp only [go_sem,KSt.pv]),c5,.inl ⟨_,rfl,rfl,rfl,rfl⟩⟩⟩ (by simp only [go_sem,KSt.pv]) (by simp only [go_sem,KSt.pv]) (by simp only [go_sem,KSt.pv]) (by simp) ?_
     refine DV.exec 400 ?_
     by_cases h11 : ∃ s ∈ k.S,decide (curOut k s) = true
     ·have hv := hbad h11
      simp +contextual (maxSteps:=9^7) only [go_sem,h11,hv]
      kernel_rfl
     ·have hf := hfin g1 h11
      simp +contextual (maxSteps:=9^7) only [go_sem,h11]
      refine ⟨by kernel_rfl,?_⟩
      refine V.call rfl rfl (by simp [dOK]) ⟨61,[],by simp only [go_sem],⟨_,rfl,rfl,rfl⟩,.inl ⟨[.row (k.L.map Pair.pv),.row (k.T.map Change.pv),.int .i64 k.floor,.int .i64 k.floor],_,.inl (by simp only [go_sem]),c4,.inr (.inl ⟨_,rfl,rfl,rfl⟩)⟩⟩ ?_
      refine V.exec 400 ?_
      simp +contextual (maxSteps:=9^7) only [go_sem,hf]
    ·have h10' : (0 : Int) < (k.T.length : Int) := by omega
     obtain ⟨x,hx⟩ : ∃ x,k.T[0]? = some x := ⟨_,zA (by omega)⟩
     have hgt := firstT_gt h7 (n := k.floor) hx
     by_cases h12 : x.seq ≤ k.floor
     ·have hv : ¬ k.ok := fun h => by
       have := hgt.2 (fun c hc => (h.2.2.2.2.2.2.2.2.1 c hc).1)
       omega
      simp +contextual (maxSteps:=9^7) only [go_sem,h10',hx,Change.pv,h12,hv,KSt.pv,Int.toNat_zero,Int.le_refl]
      kernel_rfl
     ·have g1 := hgt.1 (by omega)
      simp +contextual (maxSteps:=9^7) only [go_sem,h10',hx,Change.pv,h12,KSt.pv,Int.toNat_zero,Int.le_refl]
      refine DV.call [] [] (by simp only [go_sem,KSt.pv]) (by simp [dOK]) ⟨59,[],by simp only [go_sem,KSt.pv],⟨_,rfl,rfl,rfl⟩,.inl ⟨[.row (k.S.map Sub.pv),.fn 60 [.ptr k.pv]],_,.inl (by simp only [go_sem,KSt.pv]),c5,.inl ⟨_,rfl,rfl,rfl,rfl⟩⟩⟩ (by simp only [go_sem,KSt.pv]) (by simp only [go_sem,KSt.pv]) (by simp only [go_sem,KSt.pv]) (by simp) ?_
      refine DV.exec 400 ?_
      by_cases h11 : ∃ s ∈ k.S,decide (curOut k s) = true
      ·have hv := hbad h11
       simp +contextual (maxSteps:=9^7) only [go_sem,h11,hv]
       kernel_rfl
      ·have hf := hfin g1 h11
       simp +contextual (maxSteps:=9^7) only [go_sem,h11]
       refine ⟨by kernel_rfl,?_⟩
       refine V.call rfl rfl (by simp [dOK]) ⟨61,[],by simp only [go_sem],⟨_,rfl,rfl,rfl⟩,.inl ⟨[.row (k.L.map Pair.pv),.row (k.T.map Change.pv),.int .i64 k.floor,.int .i64 k.floor],_,.inl (by simp only [go_sem]),c4,.inr (.inl ⟨_,rfl,rfl,rfl⟩)⟩⟩ ?_
       refine V.exec 400 ?_
       simp +contextual (maxSteps:=9^7) only [go_sem,hf]
  ·have hv : ¬ k.ok := fun h => h8 h.2.2.1
   simp +contextual (maxSteps:=9^7) only [go_sem,h7,h8,hv]
   kernel_rfl
 ·have hv : ¬ k.ok := fun h => h7 h.2.1
  simp +contextual (maxSteps:=9^7) only [go_sem,h7,hv]
  kernel_rfl
def r0 : Range := ⟨[],[],false⟩
def k1 : Cmd := ⟨5,[],[],⟨[],[],true⟩,0,0,0⟩
def nAv : Note := ⟨1,[97],[118],0⟩
def k2 : Cmd := ⟨1,[nAv],[],r0,0,0,0⟩
def k3 : Cmd := ⟨8,[],[],r0,1,0,0⟩
def k4 : Cmd := ⟨7,[],[],r0,1,0,5⟩
def k5 : Cmd := ⟨2,[],[97],r0,0,0,0⟩
def k6 : Cmd := ⟨9,[],[],r0,1,2,0⟩
def k7 : Cmd := ⟨0,[],[],r0,0,0,0⟩
def kAll : List Cmd := [k1,k2,k3,k4,k5,k6,k7]
def cAv : Change := ⟨1,[97],false,[],true,[118]⟩
def tAll : List Tell := [Tell.num 1,Tell.num 1,Tell.num 0,⟨0,0,false,[],⟨[],[cAv],false⟩⟩,⟨0,0,true,[118],Chunk.zero⟩,Tell.bad 9,Tell.bad 1]
def sAll : KSt := ⟨[⟨[97],[118]⟩],[cAv],[⟨1,⟨[],[],true⟩,true,[],0⟩],1,0⟩
theorem tell_all : tlK KSt.zero kAll 7 = tAll := by decide +kernel
theorem state_all : stK KSt.zero kAll 7 = sAll := by decide +kernel
theorem sAll_ok : sAll.ok := by decide +kernel
set_option maxRecDepth 20000 in
set_option maxHeartbeats 16000000 in
theorem law_awake : Ct pG 13 (Zv.ops []) (.vals [.bool true]) := by
 obtain ⟨u,H,c1,g⟩ := keeper_Run GoodT.empty zero_ok kAll (by decide) (by decide) (by decide)
 have hl : kAll.length = 7 := rfl
 rw [hl,tell_all,state_all] at c1
 rw [hl,state_all] at g
 have c2 := keeper_Show g (by decide) (by decide) (by decide)
 have c3 := keeper_Right sAll (by decide) (by decide) (by decide)
 rw [show decide sAll.ok = true from decide_eq_true sAll_ok] at c3
 have u1 := trX_cells u
 have u2 := trX_agg u
 have q7 : ((7 : Nat) : Int) = 7 := rfl
 have q1 : ((1 : Nat) : Int) = 1 := rfl
 have t0 : (0 : Int).toNat = 0 := rfl
 have l0 : (0 : Int) ≤ 0 := by decide
 have m0 : (0 : Int) < 7 := by decide
 have t1 : (1 : Int).toNat = 1 := rfl
 have l1 : (0 : Int) ≤ 1 := by decide
 have m1 : (1 : Int) < 7 := by decide
 have t2 : (2 : Int).toNat = 2 := rfl
 have l2 : (0 : Int) ≤ 2 := by decide
 have m2 : (2 : Int) < 7 := by decide
 have t3 : (3 : Int).toNat = 3 := rfl
 have l3 : (0 : Int) ≤ 3 := by decide
 have m3 : (3 : Int) < 7 := by decide
 have t4 : (4 : Int).toNat = 4 := rfl
 have l4 : (0 : Int) ≤ 4 := by decide
 have m4 : (4 : Int) < 7 := by decide
 have t5 : (5 : Int).toNat = 5 := rfl
 have l5 : (0 : Int) ≤ 5 := by decide
 have m5 : (5 : Int) < 7 := by decide
 have t6 : (6 : Int).toNat = 6 := rfl
 have l6 : (0 : Int) ≤ 6 := by decide
 have m6 : (6 : Int) < 7 := by decide
 refine Ct.of_V Tryz.func13 rfl (by simp [Zv.ops,Tryz.f13]) ?_
 refine V.exec 23 ?_
 simp +contextual (maxSteps:=9^7) only [go_sem,Tryz.f13]
 refine V.pubt 9 (.row [nAv.pv]) (by simp only [go_sem,Note.pv,nAv]) ?_
 refine V.exec 400 ?_
 simp +contextual (maxSteps:=9^7) only [go_sem,Note.pv,nAv]
 refine V.call rfl rfl (by simp [dOK]) ⟨21,[],by simp only [go_sem],⟨_,rfl,rfl,rfl⟩,.inl ⟨[storeX none KSt.zero,.row (kAll.map Cmd.pv)],_,.inl (by simp only [go_sem,storeX,KSt.zero,trX,kAll,k1,k2,k3,k4,k5,k6,k7,r0,nAv,Cmd.pv,Note.pv,zC,zB]),c1,.inr (.inl ⟨_,rfl,rfl,rfl⟩)⟩⟩ ?_
 refine V.exec 400 ?_
 simp +contextual (maxSteps:=9^7) only [go_sem,storeX,u1,u2]
 refine V.call rfl rfl (by simp [dOK]) ⟨20,[],by simp only [go_sem],⟨_,rfl,rfl,rfl⟩,.inl ⟨[storeX u sAll],_,.inl (by simp only [go_sem,storeX]),c2,.inr (.inl ⟨_,rfl,rfl,rfl⟩)⟩⟩ ?_
 refine V.exec 400 ?_
 simp +contextual (maxSteps:=9^7) only [go_sem,KSt.pv,sAll,tAll,Tell.pv,Tell.num,Tell.bad,Chunk.zero,cAv,Sub.pv,Pair.pv,Change.pv,List.append_eq,q7,q1,t0,l0,m0,t1,l1,m1,t2,l2,m2,t3,l3,m3,t4,l4,m4,t5,l5,m5,t6,l6,m6]
 refine V.call rfl rfl (by simp [dOK]) ⟨22,[],by simp only [go_sem],⟨_,rfl,rfl,rfl⟩,.inl ⟨[sAll.pv],_,.inl (by simp only [go_sem,KSt.pv,sAll,cAv,Sub.pv,Pair.pv,Change.pv,zC,zB]),c3,.inl ⟨_,rfl,rfl,rfl,rfl⟩⟩⟩ ?_
 refine V.exec 400 ?_
 simp +contextual (maxSteps:=9^7) only [go_sem,List.append_eq]
theorem tell_len {k : KSt} (h : k.ok) (c : Cmd) : (doK k c).2.k.ps.length ≤ 1000 ∧ (doK k c).2.k.cs.length ≤ 1000 := by
 obtain ⟨hL,hT,hS⟩ := h.lens
 have hw : ∀ (l : List Sub) (n e : Int),(withV k l n e).2.k.ps.length ≤ 1000 ∧ (withV k l n e).2.k.cs.length ≤ 1000 := fun l n e => by
  unfold withV
  split <;> exact ⟨zF _,zF _⟩
 have hp : ∀ q,(pageK k c q).k.ps.length ≤ 1000 ∧ (pageK k c q).k.cs.length ≤ 1000 := fun q => by
  unfold pageK
  split
  ·split
   ·exact ⟨zF _,zF _⟩
   ·split
    ·refine ⟨?_,zF _⟩
     show (pageV k.L k.T k.floor q c.n c.r).1.length ≤ 1000
     have h1 := atV_len k.L k.T k.floor q
     have h2 := pickV_len c.r (atV k.L k.T k.floor q).1
     unfold pageV
     split
     ·simp only [zU]; omega
     ·exact zF _
    ·exact ⟨zF _,zF _⟩
  ·exact ⟨zF _,zF _⟩
 have z : (0 : Nat) ≤ 1000 := by decide
 unfold doK
 split
 ·unfold writeV
  split
  ·split <;> exact ⟨z,z⟩
  ·exact ⟨z,z⟩
 split
 ·exact ⟨z,z⟩
 split
 ·exact hp _
 split
 ·exact hp _
 split
 ·exact hw _ _ _
 split
 ·split
  ·exact ⟨z,z⟩
  ·split
   ·exact ⟨z,z⟩
   ·exact hw _ _ _
 split
 ·show (pollK k c).k.ps.length ≤ 1000 ∧ (pollK k c).k.cs.length ≤ 1000
  unfold pollK
  split
  ·exact ⟨z,z⟩
  ·rename_i x _
   show (pollV x k.L k.T k.floor c.n).1.ps.length ≤ 1000 ∧ (pollV x k.L k.T k.floor c.n).1.cs.length ≤ 1000
   have h1 := leftV_len x k.L k.T k.floor
   have h2 := sinceA_len k.T x
   unfold pollV
   split
   ·split
    ·split
     ·refine ⟨z,?_⟩
      simp only [zU]; omega
     ·refine ⟨?_,z⟩
      simp only [zU]; omega
    ·exact ⟨z,z⟩
   ·exact ⟨z,z⟩
 split
 ·unfold goesV
  split
  ·exact ⟨z,z⟩
  ·split <;> exact hw _ _ _
 split
 ·exact hw _ _ _
 split
 ·exact ⟨z,z⟩
 split
 ·exact ⟨z,z⟩
 ·exact ⟨z,z⟩
theorem fewK_one (c : Cmd) : fewK [c] 1 ↔ c.slim := by
 unfold fewK
 simp
end Go.Proofs.YtfemlllmglaimaaGreat
