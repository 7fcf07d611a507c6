/- A part of a proof: functions of the program, walked. -/
import Derived.Test.YtfemlllmglaimaaGreatGG
set_option linter.unusedVariables false
set_option linter.unusedSimpArgs false
set_option maxRecDepth 8000
namespace Go.Proofs.YtfemlllmglaimaaGreat
open Go Go.Proofs Go.Proofs.Zv Go.Proofs.YtfemlllmglaimaaGreat.Ty
open Nat renaming reduceAdd → uA, reduceLT → uB, reduceEqDiff → uC, reduceLeDiff → uD, reduceSub → uE, reduceMul → uF
open Bool renaming false_eq_true → yA, true_eq_false → yB
set_option maxRecDepth 20000 in
set_option maxHeartbeats 32000000 in
theorem law_Stays (l : List Cmd) (hl : l.length ≤ maxLen) : Ct Tryz.prog 4 (Zv.ops [.row (l.map Cmd.pv)]) (.vals [.bool true]) := by
 have hmax : maxLen = 9223372036854775807 := rfl
 rw [hmax] at hl
 have aw := law_awake
 have cf := law_Few l 40 hl (by decide)
 rw [show ((40 : Nat) : Int) = 40 from rfl] at cf
 obtain ⟨n,hn⟩ : ∃ n,min l.length 40 = n := ⟨_,rfl⟩
 have hnl : n ≤ l.length := by omega
 have hn40 : n ≤ 40 := by omega
 rw [hn] at cf
 have hmt : (l.map Cmd.pv).take n = (l.take n).map Cmd.pv := by rw [List.map_take]
 have htl : (l.take n).length = n := by rw [List.length_take]; omega
 refine Ct.of_V Tryz.func4 rfl (by simp [Zv.ops,Tryz.f4]) ?_
 refine V.exec 400 ?_
 simp +contextual (maxSteps := 1000000) only [go_sem,↓reduceIte,reduceCtorEq,yA,yB,uA,uB,uC,uD,uE,uF,Tryz.f4]
 refine V.call rfl rfl (by simp [dOK]) ⟨12,[],by simp only [go_sem,↓reduceIte,reduceCtorEq,yA,yB,uA,uB,uC,uD,uE,uF],⟨_,rfl,rfl,rfl⟩,.inl ⟨[.row (l.map Cmd.pv),.int .i64 40],_,.inl (by simp only [go_sem,↓reduceIte,reduceCtorEq,yA,yB,uA,uB,uC,uD,uE,uF]),cf,.inl ⟨_,rfl,rfl,rfl,rfl⟩⟩⟩ ?_
 refine V.exec 400 ?_
 by_cases hf : fewK l n
 ·have hn0 : ¬ (n : Int) < 0 := by omega
  have hz0 : ((0 : Nat) : Int) = 0 := rfl
  simp +contextual (maxSteps := 1000000) only [go_sem,↓reduceIte,reduceCtorEq,yA,yB,uA,uB,uC,uD,uE,uF,hf,hn0]
  refine ⟨by omega,?_⟩
  generalize hll : l.take n = ll at *
  obtain ⟨us,hu0,hus⟩ := stores GoodT.empty zero_ok ll (by rw [← hll]; exact slim_len hf) (by omega)
  have hok := stK_ok zero_ok ll
  refine V.nilb 7 1 true [.val .nilp,.nils,.nils,.val (.int .i64 0),.val (.int .i64 0)] (by simp only [go_sem,↓reduceIte,reduceCtorEq,yA,yB,uA,uB,uC,uD,uE,uF]) rfl ?_
  refine V.nilb 7 2 true [.val .nilp,.val (.row []),.nils,.val (.int .i64 0),.val (.int .i64 0)] (by simp only [go_sem,↓reduceIte,reduceCtorEq,yA,yB,uA,uB,uC,uD,uE,uF,List.set_cons_succ,List.set_cons_zero]) rfl ?_
  refine V.loop (fun m ls os => ∃ i : Nat,i ≤ n ∧ m = n - i ∧
    ls = [(4,.adr 0 0),(17,.val (.row (ll.map Cmd.pv))),(18,.val (.int .i64 n)),(19,.val (.int .i64 i))] ∧ os = [sbox (us i) (stK KSt.zero ll i)]) 1 n
   [(4,.adr 0 0),(17,.val (.row (ll.map Cmd.pv))),(18,.val (.int .i64 n)),(19,.val (.int .i64 0))] [sbox none KSt.zero] [some 7]
   ⟨0,Nat.zero_le _,rfl,by rw [hz0],by rw [hu0]; rfl⟩ (by simp only [go_sem,↓reduceIte,reduceCtorEq,yA,yB,uA,uB,uC,uD,uE,uF,hmt,htl,sbox,KSt.zero,trX,List.map_nil,List.set_cons_succ,List.set_cons_zero]; try decide) ?_
  rintro m ls os ⟨i,hi,rfl,rfl,rfl⟩
  refine V.exec 400 ?_
  by_cases hlt : i < n
  ·have hlt' : (i : Int) < (n : Int) := by omega
   obtain ⟨c,hx⟩ : ∃ c,ll[i]? = some c := ⟨_,List.getElem?_eq_getElem (by omega)⟩
   have hwi : IntKind.i64.wrap ((i : Int) + 1) = ((i + 1 : Nat) : Int) := by rw [wrap_small3] <;> omega
   have cd := (hus i).2 c hx
   have hs := stK_succ KSt.zero ll hx
   obtain ⟨H1,g1⟩ := (hus i).1 (by omega)
   obtain ⟨H2,g2⟩ := (hus (i + 1)).1 (by omega)
   have ok1 := hok i
   have ok2 := hok (i + 1)
   have hasks := doK_asks (stK KSt.zero ll i) c
   have herr := doK_err (stK KSt.zero ll i) c
   have hold := doK_old ok1 c
   rw [← hs] at cd hasks
   unfold errQ at herr
   rw [← hs] at herr
   have hnx : sbox (us (i + 1)) (stK KSt.zero ll (i + 1)) = sbox (us (i + 1)) (stK KSt.zero ll (i + 1)) := rfl
   obtain ⟨hL1,hT1,hS1⟩ := ok1.lens
   obtain ⟨hL2,hT2,hS2⟩ := ok2.lens
   have sh1 := keeper_Show g1 (by omega) (by omega) (by omega)
   have sh2 := keeper_Show g2 (by omega) (by omega) (by omega)
   have rt2 := keeper_Right (stK KSt.zero ll (i + 1)) (by omega) (by omega) (by omega)
   rw [show decide (stK KSt.zero ll (i + 1)).ok = true from decide_eq_true ok2] at rt2
   have rf1 := law_Ref (stK KSt.zero ll i) (by omega)
   have ss1 := state_self (stK KSt.zero ll i) (by omega) (by omega) (by omega)
   generalize hK1 : stK KSt.zero ll i = K1 at *
   generalize hT : (doK K1 c).2 = T at *
   generalize hK2 : stK KSt.zero ll (i + 1) = K2 at *
   generalize hu1 : us i = u1 at *
   generalize hu2 : us (i + 1) = u2 at *
   simp +contextual (maxSteps := 1000000) only [go_sem,↓reduceIte,reduceCtorEq,yA,yB,uA,uB,uC,uD,uE,uF,hlt',hx,Cmd.pv,trX_cells,trX_agg]
   refine V.call rfl rfl (by simp [dOK]) ⟨14,[],by simp only [go_sem,↓reduceIte,reduceCtorEq,yA,yB,uA,uB,uC,uD,uE,uF],⟨_,rfl,rfl,rfl⟩,.inl ⟨[storeX u1 K1,c.pv],_,.inl (by simp only [go_sem,↓reduceIte,reduceCtorEq,yA,yB,uA,uB,uC,uD,uE,uF,storeX,Cmd.pv]),cd,.inr (.inl ⟨_,rfl,rfl,rfl⟩)⟩⟩ ?_
   apply V.join (n := 90) (fun b : Bool => litSt [(4,.adr 0 0),(6,.adr 1 0),(7,.adr 2 0),(8,.adr 3 0),(9,.val (.bool b)),(17,.val (.row (ll.map Cmd.pv))),(18,.val (.int .i64 n)),(19,.val (.int .i64 i))] [sbox u1 K1,cbox c,sbox u2 K2,rbox T] 4) (fun b => b = true → K2 = K1)
   case main =>
    intro rest
    refine V.execS [10] 400 ?_
    by_cases d2 : c.d = 2
    ·have e2 := eq_true d2
     simp +contextual (maxSteps := 1000000) only [go_sem,↓reduceIte,reduceCtorEq,yA,yB,uA,uB,uC,uD,uE,uF,e2,trX_cells,trX_agg,storeX,Tell.pv]
     refine V.cut 4 _ _ [some 0,some 4,some 12,some 13] ?_ (rest true (fun _ => hasks (.inl d2)))
     simp only [go_sem,↓reduceIte,reduceCtorEq,yA,yB,uA,uB,uC,uD,uE,uF]; try decide
    by_cases d3 : c.d = 3
    ·have e3 := eq_true d3
     simp +contextual (maxSteps := 1000000) only [go_sem,↓reduceIte,reduceCtorEq,yA,yB,uA,uB,uC,uD,uE,uF,d2,e3,trX_cells,trX_agg,storeX,Tell.pv]
     refine V.cut 4 _ _ [some 0,some 4,some 12,some 13] ?_ (rest true (fun _ => hasks (.inr (.inl d3))))
     simp only [go_sem,↓reduceIte,reduceCtorEq,yA,yB,uA,uB,uC,uD,uE,uF]; try decide
    by_cases d4 : c.d = 4
    ·have e4 := eq_true d4
     simp +contextual (maxSteps := 1000000) only [go_sem,↓reduceIte,reduceCtorEq,yA,yB,uA,uB,uC,uD,uE,uF,d2,d3,e4,trX_cells,trX_agg,storeX,Tell.pv]
     refine V.cut 4 _ _ [some 0,some 4,some 12,some 13] ?_ (rest true (fun _ => hasks (.inr (.inr (.inl d4)))))
     simp only [go_sem,↓reduceIte,reduceCtorEq,yA,yB,uA,uB,uC,uD,uE,uF]; try decide
    by_cases d7 : c.d = 7
    ·have e7 := eq_true d7
     simp +contextual (maxSteps := 1000000) only [go_sem,↓reduceIte,reduceCtorEq,yA,yB,uA,uB,uC,uD,uE,uF,d2,d3,d4,e7,trX_cells,trX_agg,storeX,Tell.pv]
     refine V.cut 4 _ _ [some 0,some 4,some 12,some 13] ?_ (rest true (fun _ => hasks (.inr (.inr (.inr (.inl d7))))))
     simp only [go_sem,↓reduceIte,reduceCtorEq,yA,yB,uA,uB,uC,uD,uE,uF]; try decide
    by_cases d12 : c.d = 12
    ·have e12 := eq_true d12
     simp +contextual (maxSteps := 1000000) only [go_sem,↓reduceIte,reduceCtorEq,yA,yB,uA,uB,uC,uD,uE,uF,d2,d3,d4,d7,e12,trX_cells,trX_agg,storeX,Tell.pv]
     refine V.cut 4 _ _ [some 0,some 4,some 12,some 13] ?_ (rest true (fun _ => hasks (.inr (.inr (.inr (.inr d12))))))
     simp only [go_sem,↓reduceIte,reduceCtorEq,yA,yB,uA,uB,uC,uD,uE,uF]; try decide
    ·simp +contextual (maxSteps := 1000000) only [go_sem,↓reduceIte,reduceCtorEq,yA,yB,uA,uB,uC,uD,uE,uF,d2,d3,d4,d7,d12,trX_cells,trX_agg,storeX,Tell.pv]
     refine V.cut 4 _ _ [some 0,some 4,some 12,some 13] ?_ (rest false (fun h => by cases h))
     simp only [go_sem,↓reduceIte,reduceCtorEq,yA,yB,uA,uB,uC,uD,uE,uF]; try decide
   case rest =>
    rintro b hb
    apply V.join (n := 90) (fun _ : Unit => litSt [(4,.adr 0 0),(6,.adr 1 0),(7,.adr 2 0),(8,.adr 3 0),(17,.val (.row (ll.map Cmd.pv))),(18,.val (.int .i64 n)),(19,.val (.int .i64 i))] [sbox u1 K1,cbox c,sbox u2 K2,rbox T] 4) (fun _ => True)
    case main =>
     intro rest2
     refine V.exec 400 ?_
     simp +contextual (maxSteps := 1000000) only [go_sem,↓reduceIte,reduceCtorEq,yA,yB,uA,uB,uC,uD,uE,uF,sbox,trX_agg]
     refine DV.call [] [] (by simp only [go_sem,↓reduceIte,reduceCtorEq,yA,yB,uA,uB,uC,uD,uE,uF,storeX]) (by simp [dOK]) ⟨20,[],by simp only [go_sem,↓reduceIte,reduceCtorEq,yA,yB,uA,uB,uC,uD,uE,uF,storeX],⟨_,rfl,rfl,rfl⟩,.inl ⟨[storeX u2 K2],_,.inl (by simp only [go_sem,↓reduceIte,reduceCtorEq,yA,yB,uA,uB,uC,uD,uE,uF,storeX]),sh2,.inr (.inl ⟨_,rfl,rfl,rfl⟩)⟩⟩ (by simp only [go_sem,↓reduceIte,reduceCtorEq,yA,yB,uA,uB,uC,uD,uE,uF,storeX]) (by simp only [go_sem,↓reduceIte,reduceCtorEq,yA,yB,uA,uB,uC,uD,uE,uF,storeX]) (by simp only [go_sem,↓reduceIte,reduceCtorEq,yA,yB,uA,uB,uC,uD,uE,uF,storeX]) (by simp) ?_
     refine DV.exec 400 ?_
     simp +contextual (maxSteps := 1000000) only [go_sem,↓reduceIte,reduceCtorEq,yA,yB,uA,uB,uC,uD,uE,uF,KSt.pv]
     refine DV.call [] [] (by simp only [go_sem,↓reduceIte,reduceCtorEq,yA,yB,uA,uB,uC,uD,uE,uF,KSt.pv]) (by simp [dOK]) ⟨22,[],by simp only [go_sem,↓reduceIte,reduceCtorEq,yA,yB,uA,uB,uC,uD,uE,uF,KSt.pv],⟨_,rfl,rfl,rfl⟩,.inl ⟨[K2.pv],_,.inl (by simp only [go_sem,↓reduceIte,reduceCtorEq,yA,yB,uA,uB,uC,uD,uE,uF,KSt.pv]),rt2,.inl ⟨_,rfl,rfl,rfl,rfl⟩⟩⟩ (by simp only [go_sem,↓reduceIte,reduceCtorEq,yA,yB,uA,uB,uC,uD,uE,uF,KSt.pv]) (by simp only [go_sem,↓reduceIte,reduceCtorEq,yA,yB,uA,uB,uC,uD,uE,uF,KSt.pv]) (by simp only [go_sem,↓reduceIte,reduceCtorEq,yA,yB,uA,uB,uC,uD,uE,uF,KSt.pv]) (by simp) ?_
     refine DV.execS [12] 400 ?_
     by_cases hdo : b = true ∨ T.err ≠ 0
     ·have hKK : K2 = K1 := by
       rcases hdo with h | h
       ·exact hb h
       ·exact herr h
      have rf2 : Ct Tryz.prog 19 (Zv.ops [K2.pv]) (.vals [K2.pv]) := by rw [hKK]; exact rf1
      have ss2 : Ct Tryz.prog 18 (Zv.ops [K2.pv,K1.pv]) (.vals [.bool true]) := by rw [hKK]; exact ss1
      by_cases he : T.err = 0
      ·obtain rfl : b = true := hdo.resolve_right (fun h => h he)
       simp +contextual (maxSteps := 1000000) only [go_sem,↓reduceIte,reduceCtorEq,yA,yB,uA,uB,uC,uD,uE,uF,he,trX_agg,trX_cells]
       refine DV.call [] [] (by simp only [go_sem,↓reduceIte,reduceCtorEq,yA,yB,uA,uB,uC,uD,uE,uF,storeX]) (by simp [dOK]) ⟨20,[],by simp only [go_sem,↓reduceIte,reduceCtorEq,yA,yB,uA,uB,uC,uD,uE,uF,storeX],⟨_,rfl,rfl,rfl⟩,.inl ⟨[storeX u2 K2],_,.inl (by simp only [go_sem,↓reduceIte,reduceCtorEq,yA,yB,uA,uB,uC,uD,uE,uF,storeX]),sh2,.inr (.inl ⟨_,rfl,rfl,rfl⟩)⟩⟩ (by simp only [go_sem,↓reduceIte,reduceCtorEq,yA,yB,uA,uB,uC,uD,uE,uF,storeX]) (by simp only [go_sem,↓reduceIte,reduceCtorEq,yA,yB,uA,uB,uC,uD,uE,uF,storeX]) (by simp only [go_sem,↓reduceIte,reduceCtorEq,yA,yB,uA,uB,uC,uD,uE,uF,storeX]) (by simp) ?_
       refine DV.exec 400 ?_
       simp +contextual (maxSteps := 1000000) only [go_sem,↓reduceIte,reduceCtorEq,yA,yB,uA,uB,uC,uD,uE,uF,KSt.pv,trX_agg,trX_cells]
       refine DV.call [] [] (by simp only [go_sem,↓reduceIte,reduceCtorEq,yA,yB,uA,uB,uC,uD,uE,uF,KSt.pv]) (by simp [dOK]) ⟨19,[],by simp only [go_sem,↓reduceIte,reduceCtorEq,yA,yB,uA,uB,uC,uD,uE,uF,KSt.pv],⟨_,rfl,rfl,rfl⟩,.inl ⟨[K2.pv],_,.inl (by simp only [go_sem,↓reduceIte,reduceCtorEq,yA,yB,uA,uB,uC,uD,uE,uF,KSt.pv]),rf2,.inr (.inl ⟨_,rfl,rfl,rfl⟩)⟩⟩ (by simp only [go_sem,↓reduceIte,reduceCtorEq,yA,yB,uA,uB,uC,uD,uE,uF,KSt.pv]) (by simp only [go_sem,↓reduceIte,reduceCtorEq,yA,yB,uA,uB,uC,uD,uE,uF,KSt.pv]) (by simp only [go_sem,↓reduceIte,reduceCtorEq,yA,yB,uA,uB,uC,uD,uE,uF,KSt.pv]) (by simp) ?_
       refine DV.exec 400 ?_
       simp +contextual (maxSteps := 1000000) only [go_sem,↓reduceIte,reduceCtorEq,yA,yB,uA,uB,uC,uD,uE,uF,KSt.pv,trX_agg,trX_cells]
       refine DV.call [] [] (by simp only [go_sem,↓reduceIte,reduceCtorEq,yA,yB,uA,uB,uC,uD,uE,uF,storeX]) (by simp [dOK]) ⟨20,[],by simp only [go_sem,↓reduceIte,reduceCtorEq,yA,yB,uA,uB,uC,uD,uE,uF,storeX],⟨_,rfl,rfl,rfl⟩,.inl ⟨[storeX u1 K1],_,.inl (by simp only [go_sem,↓reduceIte,reduceCtorEq,yA,yB,uA,uB,uC,uD,uE,uF,storeX]),sh1,.inr (.inl ⟨_,rfl,rfl,rfl⟩)⟩⟩ (by simp only [go_sem,↓reduceIte,reduceCtorEq,yA,yB,uA,uB,uC,uD,uE,uF,storeX]) (by simp only [go_sem,↓reduceIte,reduceCtorEq,yA,yB,uA,uB,uC,uD,uE,uF,storeX]) (by simp only [go_sem,↓reduceIte,reduceCtorEq,yA,yB,uA,uB,uC,uD,uE,uF,storeX]) (by simp) ?_
       refine DV.exec 400 ?_
       simp +contextual (maxSteps := 1000000) only [go_sem,↓reduceIte,reduceCtorEq,yA,yB,uA,uB,uC,uD,uE,uF,KSt.pv,trX_agg,trX_cells]
       refine DV.call [] [] (by simp only [go_sem,↓reduceIte,reduceCtorEq,yA,yB,uA,uB,uC,uD,uE,uF,KSt.pv]) (by simp [dOK]) ⟨19,[],by simp only [go_sem,↓reduceIte,reduceCtorEq,yA,yB,uA,uB,uC,uD,uE,uF,KSt.pv],⟨_,rfl,rfl,rfl⟩,.inl ⟨[K1.pv],_,.inl (by simp only [go_sem,↓reduceIte,reduceCtorEq,yA,yB,uA,uB,uC,uD,uE,uF,KSt.pv]),rf1,.inr (.inl ⟨_,rfl,rfl,rfl⟩)⟩⟩ (by simp only [go_sem,↓reduceIte,reduceCtorEq,yA,yB,uA,uB,uC,uD,uE,uF,KSt.pv]) (by simp only [go_sem,↓reduceIte,reduceCtorEq,yA,yB,uA,uB,uC,uD,uE,uF,KSt.pv]) (by simp only [go_sem,↓reduceIte,reduceCtorEq,yA,yB,uA,uB,uC,uD,uE,uF,KSt.pv]) (by simp) ?_
       refine DV.exec 400 ?_
       simp +contextual (maxSteps := 1000000) only [go_sem,↓reduceIte,reduceCtorEq,yA,yB,uA,uB,uC,uD,uE,uF,KSt.pv,trX_agg,trX_cells]
       refine DV.call [] [] (by simp only [go_sem,↓reduceIte,reduceCtorEq,yA,yB,uA,uB,uC,uD,uE,uF,KSt.pv]) (by simp [dOK]) ⟨18,[],by simp only [go_sem,↓reduceIte,reduceCtorEq,yA,yB,uA,uB,uC,uD,uE,uF,KSt.pv],⟨_,rfl,rfl,rfl⟩,.inl ⟨[K2.pv,K1.pv],_,.inl (by simp only [go_sem,↓reduceIte,reduceCtorEq,yA,yB,uA,uB,uC,uD,uE,uF,KSt.pv]),ss2,.inl ⟨_,rfl,rfl,rfl,rfl⟩⟩⟩ (by simp only [go_sem,↓reduceIte,reduceCtorEq,yA,yB,uA,uB,uC,uD,uE,uF,KSt.pv]) (by simp only [go_sem,↓reduceIte,reduceCtorEq,yA,yB,uA,uB,uC,uD,uE,uF,KSt.pv]) (by simp only [go_sem,↓reduceIte,reduceCtorEq,yA,yB,uA,uB,uC,uD,uE,uF,KSt.pv]) (by simp) ?_
       refine DV.execS [12] 400 ?_
       simp +contextual (maxSteps := 1000000) only [go_sem,↓reduceIte,reduceCtorEq,yA,yB,uA,uB,uC,uD,uE,uF]
       refine ⟨by kernel_rfl,?_⟩
       refine V.cut 4 _ _ [some 0,some 1,some 2,some 3] ?_ (rest2 () trivial)
       simp only [go_sem,↓reduceIte,reduceCtorEq,yA,yB,uA,uB,uC,uD,uE,uF]; try decide
      ·simp +contextual (maxSteps := 1000000) only [go_sem,↓reduceIte,reduceCtorEq,yA,yB,uA,uB,uC,uD,uE,uF,he,trX_agg,trX_cells]
       refine DV.call [] [] (by simp only [go_sem,↓reduceIte,reduceCtorEq,yA,yB,uA,uB,uC,uD,uE,uF,storeX]) (by simp [dOK]) ⟨20,[],by simp only [go_sem,↓reduceIte,reduceCtorEq,yA,yB,uA,uB,uC,uD,uE,uF,storeX],⟨_,rfl,rfl,rfl⟩,.inl ⟨[storeX u2 K2],_,.inl (by simp only [go_sem,↓reduceIte,reduceCtorEq,yA,yB,uA,uB,uC,uD,uE,uF,storeX]),sh2,.inr (.inl ⟨_,rfl,rfl,rfl⟩)⟩⟩ (by simp only [go_sem,↓reduceIte,reduceCtorEq,yA,yB,uA,uB,uC,uD,uE,uF,storeX]) (by simp only [go_sem,↓reduceIte,reduceCtorEq,yA,yB,uA,uB,uC,uD,uE,uF,storeX]) (by simp only [go_sem,↓reduceIte,reduceCtorEq,yA,yB,uA,uB,uC,uD,uE,uF,storeX]) (by simp) ?_
       refine DV.exec 400 ?_
       simp +contextual (maxSteps := 1000000) only [go_sem,↓reduceIte,reduceCtorEq,yA,yB,uA,uB,uC,uD,uE,uF,KSt.pv,trX_agg,trX_cells]
       refine DV.call [] [] (by simp only [go_sem,↓reduceIte,reduceCtorEq,yA,yB,uA,uB,uC,uD,uE,uF,KSt.pv]) (by simp [dOK]) ⟨19,[],by simp only [go_sem,↓reduceIte,reduceCtorEq,yA,yB,uA,uB,uC,uD,uE,uF,KSt.pv],⟨_,rfl,rfl,rfl⟩,.inl ⟨[K2.pv],_,.inl (by simp only [go_sem,↓reduceIte,reduceCtorEq,yA,yB,uA,uB,uC,uD,uE,uF,KSt.pv]),rf2,.inr (.inl ⟨_,rfl,rfl,rfl⟩)⟩⟩ (by simp only [go_sem,↓reduceIte,reduceCtorEq,yA,yB,uA,uB,uC,uD,uE,uF,KSt.pv]) (by simp only [go_sem,↓reduceIte,reduceCtorEq,yA,yB,uA,uB,uC,uD,uE,uF,KSt.pv]) (by simp only [go_sem,↓reduceIte,reduceCtorEq,yA,yB,uA,uB,uC,uD,uE,uF,KSt.pv]) (by simp) ?_
       refine DV.exec 400 ?_
       simp +contextual (maxSteps := 1000000) only [go_sem,↓reduceIte,reduceCtorEq,yA,yB,uA,uB,uC,uD,uE,uF,KSt.pv,trX_agg,trX_cells]
       refine DV.call [] [] (by simp only [go_sem,↓reduceIte,reduceCtorEq,yA,yB,uA,uB,uC,uD,uE,uF,storeX]) (by simp [dOK]) ⟨20,[],by simp only [go_sem,↓reduceIte,reduceCtorEq,yA,yB,uA,uB,uC,uD,uE,uF,storeX],⟨_,rfl,rfl,rfl⟩,.inl ⟨[storeX u1 K1],_,.inl (by simp only [go_sem,↓reduceIte,reduceCtorEq,yA,yB,uA,uB,uC,uD,uE,uF,storeX]),sh1,.inr (.inl ⟨_,rfl,rfl,rfl⟩)⟩⟩ (by simp only [go_sem,↓reduceIte,reduceCtorEq,yA,yB,uA,uB,uC,uD,uE,uF,storeX]) (by simp only [go_sem,↓reduceIte,reduceCtorEq,yA,yB,uA,uB,uC,uD,uE,uF,storeX]) (by simp only [go_sem,↓reduceIte,reduceCtorEq,yA,yB,uA,uB,uC,uD,uE,uF,storeX]) (by simp) ?_
       refine DV.exec 400 ?_
       simp +contextual (maxSteps := 1000000) only [go_sem,↓reduceIte,reduceCtorEq,yA,yB,uA,uB,uC,uD,uE,uF,KSt.pv,trX_agg,trX_cells]
       refine DV.call [] [] (by simp only [go_sem,↓reduceIte,reduceCtorEq,yA,yB,uA,uB,uC,uD,uE,uF,KSt.pv]) (by simp [dOK]) ⟨19,[],by simp only [go_sem,↓reduceIte,reduceCtorEq,yA,yB,uA,uB,uC,uD,uE,uF,KSt.pv],⟨_,rfl,rfl,rfl⟩,.inl ⟨[K1.pv],_,.inl (by simp only [go_sem,↓reduceIte,reduceCtorEq,yA,yB,uA,uB,uC,uD,uE,uF,KSt.pv]),rf1,.inr (.inl ⟨_,rfl,rfl,rfl⟩)⟩⟩ (by simp only [go_sem,↓reduceIte,reduceCtorEq,yA,yB,uA,uB,uC,uD,uE,uF,KSt.pv]) (by simp only [go_sem,↓reduceIte,reduceCtorEq,yA,yB,uA,uB,uC,uD,uE,uF,KSt.pv]) (by simp only [go_sem,↓reduceIte,reduceCtorEq,yA,yB,uA,uB,uC,uD,uE,uF,KSt.pv]) (by simp) ?_
       refine DV.exec 400 ?_
       simp +contextual (maxSteps := 1000000) only [go_sem,↓reduceIte,reduceCtorEq,yA,yB,uA,uB,uC,uD,uE,uF,KSt.pv,trX_agg,trX_cells]
       refine DV.call [] [] (by simp only [go_sem,↓reduceIte,reduceCtorEq,yA,yB,uA,uB,uC,uD,uE,uF,KSt.pv]) (by simp [dOK]) ⟨18,[],by simp only [go_sem,↓reduceIte,reduceCtorEq,yA,yB,uA,uB,uC,uD,uE,uF,KSt.pv],⟨_,rfl,rfl,rfl⟩,.inl ⟨[K2.pv,K1.pv],_,.inl (by simp only [go_sem,↓reduceIte,reduceCtorEq,yA,yB,uA,uB,uC,uD,uE,uF,KSt.pv]),ss2,.inl ⟨_,rfl,rfl,rfl,rfl⟩⟩⟩ (by simp only [go_sem,↓reduceIte,reduceCtorEq,yA,yB,uA,uB,uC,uD,uE,uF,KSt.pv]) (by simp only [go_sem,↓reduceIte,reduceCtorEq,yA,yB,uA,uB,uC,uD,uE,uF,KSt.pv]) (by simp only [go_sem,↓reduceIte,reduceCtorEq,yA,yB,uA,uB,uC,uD,uE,uF,KSt.pv]) (by simp) ?_
       refine DV.execS [12] 400 ?_
       simp +contextual (maxSteps := 1000000) only [go_sem,↓reduceIte,reduceCtorEq,yA,yB,uA,uB,uC,uD,uE,uF]
       refine ⟨by kernel_rfl,?_⟩
       refine V.cut 4 _ _ [some 0,some 1,some 2,some 3] ?_ (rest2 () trivial)
       simp only [go_sem,↓reduceIte,reduceCtorEq,yA,yB,uA,uB,uC,uD,uE,uF]; try decide
     ·obtain rfl : b = false := by
       cases b
       ·rfl
       ·exact absurd (.inl rfl) hdo
      have he : T.err = 0 := Classical.not_not.1 fun h => hdo (.inr h)
      simp +contextual (maxSteps := 1000000) only [go_sem,↓reduceIte,reduceCtorEq,yA,yB,uA,uB,uC,uD,uE,uF,he,trX_agg,trX_cells]
      refine ⟨by kernel_rfl,?_⟩
      refine V.cut 4 _ _ [some 0,some 1,some 2,some 3] ?_ (rest2 () trivial)
      simp only [go_sem,↓reduceIte,reduceCtorEq,yA,yB,uA,uB,uC,uD,uE,uF,sbox]; try decide
    case rest =>
     rintro _ _
     refine V.exec 400 ?_
     by_cases d7 : c.d = 7
     ·have e7 := eq_true d7
      have h8 := hold (.inl d7)
      simp +contextual (maxSteps := 1000000) only [go_sem,↓reduceIte,reduceCtorEq,yA,yB,uA,uB,uC,uD,uE,uF,e7,h8,hwi,sbox,trX_agg,trX_cells]
      exact ⟨n - (i + 1),_,_,[some 0],by omega,⟨i + 1,by omega,rfl,rfl,rfl⟩,by simp only [go_sem,↓reduceIte,reduceCtorEq,yA,yB,uA,uB,uC,uD,uE,uF,sbox,hu2,hK2,trX_agg]; try decide⟩
     by_cases d8 : c.d = 8
     ·have e8 := eq_true d8
      have h8 := hold (.inr d8)
      simp +contextual (maxSteps := 1000000) only [go_sem,↓reduceIte,reduceCtorEq,yA,yB,uA,uB,uC,uD,uE,uF,d7,e8,h8,hwi,sbox,trX_agg,trX_cells]
      exact ⟨n - (i + 1),_,_,[some 0],by omega,⟨i + 1,by omega,rfl,rfl,rfl⟩,by simp only [go_sem,↓reduceIte,reduceCtorEq,yA,yB,uA,uB,uC,uD,uE,uF,sbox,hu2,hK2,trX_agg]; try decide⟩
     ·simp +contextual (maxSteps := 1000000) only [go_sem,↓reduceIte,reduceCtorEq,yA,yB,uA,uB,uC,uD,uE,uF,d7,d8,hwi,sbox,trX_agg,trX_cells]
      exact ⟨n - (i + 1),_,_,[some 0],by omega,⟨i + 1,by omega,rfl,rfl,rfl⟩,by simp only [go_sem,↓reduceIte,reduceCtorEq,yA,yB,uA,uB,uC,uD,uE,uF,sbox,hu2,hK2,trX_agg]; try decide⟩
  ·have hlt' : ¬ (i : Int) < (n : Int) := by omega
   simp +contextual (maxSteps := 1000000) only [go_sem,↓reduceIte,reduceCtorEq,yA,yB,uA,uB,uC,uD,uE,uF,hlt']
   refine V.call rfl rfl (by simp [dOK]) ⟨13,[],by simp only [go_sem,↓reduceIte,reduceCtorEq,yA,yB,uA,uB,uC,uD,uE,uF],⟨_,rfl,rfl,rfl⟩,.inl ⟨[],_,.inl (by simp only [go_sem,↓reduceIte,reduceCtorEq,yA,yB,uA,uB,uC,uD,uE,uF]),aw,.inl ⟨_,rfl,rfl,rfl,rfl⟩⟩⟩ ?_
   refine V.exec 400 ?_
   simp +contextual (maxSteps := 1000000) only [go_sem,↓reduceIte,reduceCtorEq,yA,yB,uA,uB,uC,uD,uE,uF]
 ·have hm1 : (-1 : Int) < 0 := by decide
  simp +contextual (maxSteps := 1000000) only [go_sem,↓reduceIte,reduceCtorEq,yA,yB,uA,uB,uC,uD,uE,uF,hf,hm1]
  refine V.call rfl rfl (by simp [dOK]) ⟨13,[],by simp only [go_sem,↓reduceIte,reduceCtorEq,yA,yB,uA,uB,uC,uD,uE,uF],⟨_,rfl,rfl,rfl⟩,.inl ⟨[],_,.inl (by simp only [go_sem,↓reduceIte,reduceCtorEq,yA,yB,uA,uB,uC,uD,uE,uF]),aw,.inl ⟨_,rfl,rfl,rfl,rfl⟩⟩⟩ ?_
  refine V.exec 400 ?_
  simp +contextual (maxSteps := 1000000) only [go_sem,↓reduceIte,reduceCtorEq,yA,yB,uA,uB,uC,uD,uE,uF]
theorem ctStays (xs0 : List PV) (l0 : xs0.length ≤ maxLen) (h0 : ∀ x ∈ xs0,∃ qs,x = .agg qs ∧ mSs cmdSh qs) : Ct Tryz.prog 4 (Zv.ops [.row xs0]) (.vals [.bool true]) := by
 obtain ⟨l,rfl,_⟩ := cmds_of xs0 h0
 exact law_Stays l (by simpa using l0)
end Go.Proofs.YtfemlllmglaimaaGreat
