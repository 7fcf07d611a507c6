/- A part of a proof: functions of the program, walked. -/
import Derived.Test.YtfemlllmglaimaaGreatGG
set_option linter.unusedVariables false
set_option linter.unusedSimpArgs false
set_option maxRecDepth 8000
namespace Go.Proofs.YtfemlllmglaimaaGreat
open Go Go.Proofs Go.Proofs.Zv Go.Proofs.YtfemlllmglaimaaGreat.Ty
open Nat renaming reduceAdd → uA, reduceLT → uB, reduceEqDiff → uC, reduceLeDiff → uD, reduceSub → uE, reduceMul → uF
open Bool renaming false_eq_true → yA, true_eq_false → yB
set_option maxRecDepth 20000 in
set_option maxHeartbeats 32000000 in
theorem law_Trims (l : List Cmd) (hl : l.length ≤ maxLen) (c : Cmd) (hcl : c.ns.length ≤ maxLen) : Ct Tryz.prog 5 (Zv.ops [.row (l.map Cmd.pv),c.pv]) (.vals [.bool true]) := by
 have hmax : maxLen = 9223372036854775807 := rfl
 rw [hmax] at hl hcl
 have aw := law_awake
 have cf := law_Few l 30 hl (by decide)
 rw [show ((30 : Nat) : Int) = 30 from rfl] at cf
 have cf1 := law_Few [c] 1 (by simp) (by decide)
 rw [show ((1 : Nat) : Int) = 1 from rfl] at cf1
 obtain ⟨n,hn⟩ : ∃ n,min l.length 30 = n := ⟨_,rfl⟩
 have hnl : n ≤ l.length := by omega
 have hn30 : n ≤ 30 := by omega
 have h11 : min [c].length 1 = 1 := rfl
 have hq1 : ((1 : Nat) : Int) = 1 := rfl
 rw [hn] at cf
 rw [h11] at cf1
 have hmt : (l.map Cmd.pv).take n = (l.take n).map Cmd.pv := by rw [List.map_take]
 have hm1 : (-1 : Int) < 0 := by decide
 have h10 : ¬ (1 : Int) < 0 := by decide
 refine Ct.of_V Tryz.func5 rfl (by simp [Zv.ops,Tryz.f5]) ?_
 refine V.exec 400 ?_
 simp +contextual (maxSteps := 1000000) only [go_sem,↓reduceIte,reduceCtorEq,yA,yB,uA,uB,uC,uD,uE,uF,Tryz.f5,Cmd.pv]
 refine V.call rfl rfl (by simp [dOK]) ⟨12,[],by simp only [go_sem,↓reduceIte,reduceCtorEq,yA,yB,uA,uB,uC,uD,uE,uF],⟨_,rfl,rfl,rfl⟩,.inl ⟨[.row (l.map Cmd.pv),.int .i64 30],_,.inl (by simp only [go_sem,↓reduceIte,reduceCtorEq,yA,yB,uA,uB,uC,uD,uE,uF]),cf,.inl ⟨_,rfl,rfl,rfl,rfl⟩⟩⟩ ?_
 refine V.exec 400 ?_
 by_cases hf : fewK l n
 ·have hn0 : ¬ (n : Int) < 0 := by omega
  simp +contextual (maxSteps := 1000000) only [go_sem,↓reduceIte,reduceCtorEq,yA,yB,uA,uB,uC,uD,uE,uF,hf,hn0]
  refine V.call rfl rfl (by simp [dOK]) ⟨12,[],by simp only [go_sem,↓reduceIte,reduceCtorEq,yA,yB,uA,uB,uC,uD,uE,uF],⟨_,rfl,rfl,rfl⟩,.inl ⟨[.row ([c].map Cmd.pv),.int .i64 1],_,.inl (by simp only [go_sem,↓reduceIte,reduceCtorEq,yA,yB,uA,uB,uC,uD,uE,uF,Cmd.pv,List.map_cons,List.map_nil]),cf1,.inl ⟨_,rfl,rfl,rfl,rfl⟩⟩⟩ ?_
  refine V.exec 400 ?_
  by_cases hf1 : fewK [c] 1
  ·have hcs := (fewK_one c).1 hf1
   obtain ⟨u0,H0,cr,g0⟩ := run_zero hf hnl (by omega)
   have ok0 := stK_ok zero_ok (l.take n) n
   obtain ⟨u1,H1,ct,g1⟩ := keeper_Do g0 (by omega) ok0 trimC (by decide)
   rw [do_trim] at ct g1
   have ok1 := trim_ok ok0
   obtain ⟨u2,H2,ct2,g2⟩ := keeper_Do g1 (by omega) ok1 trimC (by decide)
   obtain ⟨tf1,tf2,tf3⟩ := trim_facts ok0
   rw [do_trim,tf1] at ct2 g2
   simp only at ct2 g2
   obtain ⟨u3,H3,ca,g3⟩ := keeper_Do g0 (by omega) ok0 c hcl
   obtain ⟨u4,H4,cb,g4⟩ := keeper_Do g1 (by omega) ok1 c hcl
   have hsame := trim_same ok0 c
   have tl := tell_len ok0 c
   obtain ⟨hL0,hT0,hS0⟩ := ok0.lens
   obtain ⟨hL1,hT1,hS1⟩ := ok1.lens
   obtain ⟨f1,f2,f3⟩ := floor_in ok0
   have sh0 := keeper_Show g0 (by omega) (by omega) (by omega)
   have sh1 := keeper_Show g1 (by omega) (by omega) (by omega)
   have sh2 := keeper_Show g2 (by omega) (by omega) (by omega)
   rw [tf2] at ct ct2
   generalize stK KSt.zero (l.take n) n = K at *
   generalize tlK KSt.zero (l.take n) n = TT at *
   generalize hK1 : (trimV K).1 = K1 at *
   generalize hfl : floorOf K.seq K.S = fl at *
   have rf1 := law_Ref K1 (by omega)
   have ss1 := state_self K1 (by omega) (by omega) (by omega)
   have hti : trimC.pv = .agg [.int .i64 11,.row [],.str [],.str [],.str [],.bool false,.int .i64 0,.int .i64 0,.int .i64 0] := rfl
   simp +contextual (maxSteps := 1000000) only [go_sem,↓reduceIte,reduceCtorEq,yA,yB,uA,uB,uC,uD,uE,uF,hf1,hq1,h10,hmt]
   refine ⟨by omega,?_⟩
   refine V.call rfl rfl (by simp [dOK]) ⟨21,[],by simp only [go_sem,↓reduceIte,reduceCtorEq,yA,yB,uA,uB,uC,uD,uE,uF],⟨_,rfl,rfl,rfl⟩,.inl ⟨[storeX none KSt.zero,.row ((l.take n).map Cmd.pv)],_,.inl (by simp only [go_sem,↓reduceIte,reduceCtorEq,yA,yB,uA,uB,uC,uD,uE,uF,storeX,KSt.zero,trX,List.map_nil]),cr,.inr (.inl ⟨_,rfl,rfl,rfl⟩)⟩⟩ ?_
   refine V.exec 400 ?_
   simp +contextual (maxSteps := 1000000) only [go_sem,↓reduceIte,reduceCtorEq,yA,yB,uA,uB,uC,uD,uE,uF,storeX,trX_cells,trX_agg]
   refine V.call rfl rfl (by simp [dOK]) ⟨14,[],by simp only [go_sem,↓reduceIte,reduceCtorEq,yA,yB,uA,uB,uC,uD,uE,uF],⟨_,rfl,rfl,rfl⟩,.inl ⟨[storeX u0 K,trimC.pv],_,.inl (by simp only [go_sem,↓reduceIte,reduceCtorEq,yA,yB,uA,uB,uC,uD,uE,uF,storeX,hti]),ct,.inr (.inl ⟨_,rfl,rfl,rfl⟩)⟩⟩ ?_
   refine V.exec 400 ?_
   simp +contextual (maxSteps := 1000000) only [go_sem,↓reduceIte,reduceCtorEq,yA,yB,uA,uB,uC,uD,uE,uF,storeX,trX_cells,trX_agg,Tell.num,Tell.pv,Chunk.zero]
   refine V.call rfl rfl (by simp [dOK]) ⟨14,[],by simp only [go_sem,↓reduceIte,reduceCtorEq,yA,yB,uA,uB,uC,uD,uE,uF],⟨_,rfl,rfl,rfl⟩,.inl ⟨[storeX u1 K1,trimC.pv],_,.inl (by simp only [go_sem,↓reduceIte,reduceCtorEq,yA,yB,uA,uB,uC,uD,uE,uF,storeX,hti]),ct2,.inr (.inl ⟨_,rfl,rfl,rfl⟩)⟩⟩ ?_
   refine V.exec 400 ?_
   simp +contextual (maxSteps := 1000000) only [go_sem,↓reduceIte,reduceCtorEq,yA,yB,uA,uB,uC,uD,uE,uF,storeX,trX_cells,trX_agg,Tell.num,Tell.pv,Chunk.zero]
   refine DV.call [] [] (by simp only [go_sem,↓reduceIte,reduceCtorEq,yA,yB,uA,uB,uC,uD,uE,uF,storeX]) (by simp [dOK]) ⟨20,[],by simp only [go_sem,↓reduceIte,reduceCtorEq,yA,yB,uA,uB,uC,uD,uE,uF,storeX],⟨_,rfl,rfl,rfl⟩,.inl ⟨[storeX u1 K1],_,.inl (by simp only [go_sem,↓reduceIte,reduceCtorEq,yA,yB,uA,uB,uC,uD,uE,uF,storeX]),sh1,.inr (.inl ⟨_,rfl,rfl,rfl⟩)⟩⟩ (by simp only [go_sem,↓reduceIte,reduceCtorEq,yA,yB,uA,uB,uC,uD,uE,uF,storeX]) (by simp only [go_sem,↓reduceIte,reduceCtorEq,yA,yB,uA,uB,uC,uD,uE,uF,storeX]) (by simp only [go_sem,↓reduceIte,reduceCtorEq,yA,yB,uA,uB,uC,uD,uE,uF,storeX]) (by simp) ?_
   refine DV.exec 400 ?_
   simp +contextual (maxSteps := 1000000) only [go_sem,↓reduceIte,reduceCtorEq,yA,yB,uA,uB,uC,uD,uE,uF,KSt.pv]
   refine DV.call [] [] (by simp only [go_sem,↓reduceIte,reduceCtorEq,yA,yB,uA,uB,uC,uD,uE,uF,KSt.pv]) (by simp [dOK]) ⟨19,[],by simp only [go_sem,↓reduceIte,reduceCtorEq,yA,yB,uA,uB,uC,uD,uE,uF,KSt.pv],⟨_,rfl,rfl,rfl⟩,.inl ⟨[K1.pv],_,.inl (by simp only [go_sem,↓reduceIte,reduceCtorEq,yA,yB,uA,uB,uC,uD,uE,uF,KSt.pv]),rf1,.inr (.inl ⟨_,rfl,rfl,rfl⟩)⟩⟩ (by simp only [go_sem,↓reduceIte,reduceCtorEq,yA,yB,uA,uB,uC,uD,uE,uF,KSt.pv]) (by simp only [go_sem,↓reduceIte,reduceCtorEq,yA,yB,uA,uB,uC,uD,uE,uF,KSt.pv]) (by simp only [go_sem,↓reduceIte,reduceCtorEq,yA,yB,uA,uB,uC,uD,uE,uF,KSt.pv]) (by simp) ?_
   refine DV.exec 400 ?_
   simp +contextual (maxSteps := 1000000) only [go_sem,↓reduceIte,reduceCtorEq,yA,yB,uA,uB,uC,uD,uE,uF,KSt.pv,trX_cells,trX_agg]
   refine DV.call [] [] (by simp only [go_sem,↓reduceIte,reduceCtorEq,yA,yB,uA,uB,uC,uD,uE,uF,storeX]) (by simp [dOK]) ⟨20,[],by simp only [go_sem,↓reduceIte,reduceCtorEq,yA,yB,uA,uB,uC,uD,uE,uF,storeX],⟨_,rfl,rfl,rfl⟩,.inl ⟨[storeX u2 K1],_,.inl (by simp only [go_sem,↓reduceIte,reduceCtorEq,yA,yB,uA,uB,uC,uD,uE,uF,storeX]),sh2,.inr (.inl ⟨_,rfl,rfl,rfl⟩)⟩⟩ (by simp only [go_sem,↓reduceIte,reduceCtorEq,yA,yB,uA,uB,uC,uD,uE,uF,storeX]) (by simp only [go_sem,↓reduceIte,reduceCtorEq,yA,yB,uA,uB,uC,uD,uE,uF,storeX]) (by simp only [go_sem,↓reduceIte,reduceCtorEq,yA,yB,uA,uB,uC,uD,uE,uF,storeX]) (by simp) ?_
   refine DV.exec 400 ?_
   simp +contextual (maxSteps := 1000000) only [go_sem,↓reduceIte,reduceCtorEq,yA,yB,uA,uB,uC,uD,uE,uF,KSt.pv]
   refine DV.call [] [] (by simp only [go_sem,↓reduceIte,reduceCtorEq,yA,yB,uA,uB,uC,uD,uE,uF,KSt.pv]) (by simp [dOK]) ⟨19,[],by simp only [go_sem,↓reduceIte,reduceCtorEq,yA,yB,uA,uB,uC,uD,uE,uF,KSt.pv],⟨_,rfl,rfl,rfl⟩,.inl ⟨[K1.pv],_,.inl (by simp only [go_sem,↓reduceIte,reduceCtorEq,yA,yB,uA,uB,uC,uD,uE,uF,KSt.pv]),rf1,.inr (.inl ⟨_,rfl,rfl,rfl⟩)⟩⟩ (by simp only [go_sem,↓reduceIte,reduceCtorEq,yA,yB,uA,uB,uC,uD,uE,uF,KSt.pv]) (by simp only [go_sem,↓reduceIte,reduceCtorEq,yA,yB,uA,uB,uC,uD,uE,uF,KSt.pv]) (by simp only [go_sem,↓reduceIte,reduceCtorEq,yA,yB,uA,uB,uC,uD,uE,uF,KSt.pv]) (by simp) ?_
   refine DV.exec 400 ?_
   simp +contextual (maxSteps := 1000000) only [go_sem,↓reduceIte,reduceCtorEq,yA,yB,uA,uB,uC,uD,uE,uF,KSt.pv]
   refine DV.call [] [] (by simp only [go_sem,↓reduceIte,reduceCtorEq,yA,yB,uA,uB,uC,uD,uE,uF,KSt.pv]) (by simp [dOK]) ⟨18,[],by simp only [go_sem,↓reduceIte,reduceCtorEq,yA,yB,uA,uB,uC,uD,uE,uF,KSt.pv],⟨_,rfl,rfl,rfl⟩,.inl ⟨[K1.pv,K1.pv],_,.inl (by simp only [go_sem,↓reduceIte,reduceCtorEq,yA,yB,uA,uB,uC,uD,uE,uF,KSt.pv]),ss1,.inl ⟨_,rfl,rfl,rfl,rfl⟩⟩⟩ (by simp only [go_sem,↓reduceIte,reduceCtorEq,yA,yB,uA,uB,uC,uD,uE,uF,KSt.pv]) (by simp only [go_sem,↓reduceIte,reduceCtorEq,yA,yB,uA,uB,uC,uD,uE,uF,KSt.pv]) (by simp only [go_sem,↓reduceIte,reduceCtorEq,yA,yB,uA,uB,uC,uD,uE,uF,KSt.pv]) (by simp) ?_
   refine DV.exec 400 ?_
   simp +contextual (maxSteps := 1000000) only [go_sem,↓reduceIte,reduceCtorEq,yA,yB,uA,uB,uC,uD,uE,uF,trX_cells,trX_agg]
   refine ⟨by kernel_rfl,?_⟩
   refine V.call rfl rfl (by simp [dOK]) ⟨20,[],by simp only [go_sem,↓reduceIte,reduceCtorEq,yA,yB,uA,uB,uC,uD,uE,uF],⟨_,rfl,rfl,rfl⟩,.inl ⟨[storeX u0 K],_,.inl (by simp only [go_sem,↓reduceIte,reduceCtorEq,yA,yB,uA,uB,uC,uD,uE,uF,storeX]),sh0,.inr (.inl ⟨_,rfl,rfl,rfl⟩)⟩⟩ ?_
   refine V.exec 400 ?_
   simp +contextual (maxSteps := 1000000) only [go_sem,↓reduceIte,reduceCtorEq,yA,yB,uA,uB,uC,uD,uE,uF,KSt.pv]
   refine V.loop (fun m ls os => ∃ i : Nat,i ≤ K.S.length ∧ m = K.S.length - i ∧
     ls = [(3,.adr 0 0),(6,.adr 1 0),(8,.adr 2 0),(9,.adr 3 0),(73,.val (.row (K.S.map Sub.pv))),(74,.val (.int .i64 K.S.length)),(75,.val (.int .i64 i))] ∧ os = [cbox c,sbox u0 K,sbox u1 K1,rbox (Tell.num fl)]) 4 K.S.length
    [(3,.adr 0 0),(6,.adr 1 0),(8,.adr 2 0),(9,.adr 3 0),(73,.val (.row (K.S.map Sub.pv))),(74,.val (.int .i64 K.S.length)),(75,.val (.int .i64 0))] [cbox c,sbox u0 K,sbox u1 K1,rbox (Tell.num fl)] [some 2,some 23,some 32,some 33]
    ⟨0,Nat.zero_le _,rfl,rfl,rfl⟩ (by simp only [go_sem,↓reduceIte,reduceCtorEq,yA,yB,uA,uB,uC,uD,uE,uF,sbox,cbox,rbox,Tell.num,Chunk.zero]; try decide) ?_
   rintro m ls os ⟨i,hi,rfl,rfl,rfl⟩
   by_cases hlt : i < K.S.length
   ·have hlt' : (i : Int) < (K.S.length : Int) := by omega
    refine V.exec 400 ?_
    obtain ⟨x,hx⟩ : ∃ x,K.S[i]? = some x := ⟨_,List.getElem?_eq_getElem hlt⟩
    have hwi : IntKind.i64.wrap ((i : Int) + 1) = ((i + 1 : Nat) : Int) := by rw [wrap_small3] <;> omega
    have hxc : ¬ x.cur < fl := by have := f3 x (List.mem_of_getElem? hx); omega
    simp +contextual (maxSteps := 1000000) only [go_sem,↓reduceIte,reduceCtorEq,yA,yB,uA,uB,uC,uD,uE,uF,hlt',hx,Sub.pv,hxc,hwi,Tell.num]
    exact ⟨K.S.length - (i + 1),_,_,[some 0,some 1,some 2,some 3],by omega,⟨i + 1,by omega,rfl,rfl,rfl⟩,by simp only [go_sem,↓reduceIte,reduceCtorEq,yA,yB,uA,uB,uC,uD,uE,uF,sbox,cbox,rbox,Tell.num]; try decide⟩
   ·have hlt' : ¬ (i : Int) < (K.S.length : Int) := by omega
    apply V.join (n := 131) (fun _ : Unit => litSt [(3,.adr 0 0),(6,.adr 1 0),(8,.adr 2 0)] [cbox c,sbox u0 K,sbox u1 K1] 3) (fun _ => c.d = 2 ∨ c.d = 3 ∨ c.d = 7 ∨ (c.d = 4 ∧ fl ≤ c.seq))
    case main =>
     intro rest
     refine V.execS [18] 400 ?_
     by_cases d2 : c.d = 2
     ·have e2 := eq_true d2
      simp +contextual (maxSteps := 1000000) only [go_sem,↓reduceIte,reduceCtorEq,yA,yB,uA,uB,uC,uD,uE,uF,hlt',e2]
      refine V.cut 3 _ _ [some 0,some 1,some 2] ?_ (rest () (.inl d2))
      simp only [go_sem,↓reduceIte,reduceCtorEq,yA,yB,uA,uB,uC,uD,uE,uF]; try decide
     by_cases d3 : c.d = 3
     ·have e3 := eq_true d3
      simp +contextual (maxSteps := 1000000) only [go_sem,↓reduceIte,reduceCtorEq,yA,yB,uA,uB,uC,uD,uE,uF,hlt',d2,e3]
      refine V.cut 3 _ _ [some 0,some 1,some 2] ?_ (rest () (.inr (.inl d3)))
      simp only [go_sem,↓reduceIte,reduceCtorEq,yA,yB,uA,uB,uC,uD,uE,uF]; try decide
     by_cases d7 : c.d = 7
     ·have e7 := eq_true d7
      simp +contextual (maxSteps := 1000000) only [go_sem,↓reduceIte,reduceCtorEq,yA,yB,uA,uB,uC,uD,uE,uF,hlt',d2,d3,e7]
      refine V.cut 3 _ _ [some 0,some 1,some 2] ?_ (rest () (.inr (.inr (.inl d7))))
      simp only [go_sem,↓reduceIte,reduceCtorEq,yA,yB,uA,uB,uC,uD,uE,uF]; try decide
     by_cases d4 : c.d = 4
     ·have e4 := eq_true d4
      by_cases hq : c.seq < fl
      ·simp +contextual (maxSteps := 1000000) only [go_sem,↓reduceIte,reduceCtorEq,yA,yB,uA,uB,uC,uD,uE,uF,hlt',d2,d3,d7,e4,hq,Tell.num]
       refine V.call rfl rfl (by simp [dOK]) ⟨13,[],by simp only [go_sem,↓reduceIte,reduceCtorEq,yA,yB,uA,uB,uC,uD,uE,uF],⟨_,rfl,rfl,rfl⟩,.inl ⟨[],_,.inl (by simp only [go_sem,↓reduceIte,reduceCtorEq,yA,yB,uA,uB,uC,uD,uE,uF]),aw,.inl ⟨_,rfl,rfl,rfl,rfl⟩⟩⟩ ?_
       refine V.exec 400 ?_
       simp +contextual (maxSteps := 1000000) only [go_sem,↓reduceIte,reduceCtorEq,yA,yB,uA,uB,uC,uD,uE,uF]
      ·simp +contextual (maxSteps := 1000000) only [go_sem,↓reduceIte,reduceCtorEq,yA,yB,uA,uB,uC,uD,uE,uF,hlt',d2,d3,d7,e4,hq,Tell.num]
       refine V.cut 3 _ _ [some 0,some 1,some 2] ?_ (rest () (.inr (.inr (.inr ⟨d4,by omega⟩))))
       simp only [go_sem,↓reduceIte,reduceCtorEq,yA,yB,uA,uB,uC,uD,uE,uF]; try decide
     ·simp +contextual (maxSteps := 1000000) only [go_sem,↓reduceIte,reduceCtorEq,yA,yB,uA,uB,uC,uD,uE,uF,hlt',d2,d3,d7,d4]
      refine V.call rfl rfl (by simp [dOK]) ⟨13,[],by simp only [go_sem,↓reduceIte,reduceCtorEq,yA,yB,uA,uB,uC,uD,uE,uF],⟨_,rfl,rfl,rfl⟩,.inl ⟨[],_,.inl (by simp only [go_sem,↓reduceIte,reduceCtorEq,yA,yB,uA,uB,uC,uD,uE,uF]),aw,.inl ⟨_,rfl,rfl,rfl,rfl⟩⟩⟩ ?_
      refine V.exec 400 ?_
      simp +contextual (maxSteps := 1000000) only [go_sem,↓reduceIte,reduceCtorEq,yA,yB,uA,uB,uC,uD,uE,uF]
    case rest =>
     rintro _ hc
     have hsm := hsame hc
     rw [hsm] at cb
     generalize (doK K c).2 = ta at *
     have rp := law_Reply ta
     have td := told_self ta (by omega) (by omega)
     refine V.exec 400 ?_
     simp +contextual (maxSteps := 1000000) only [go_sem,↓reduceIte,reduceCtorEq,yA,yB,uA,uB,uC,uD,uE,uF,sbox,cbox,trX_cells,trX_agg]
     refine V.call rfl rfl (by simp [dOK]) ⟨14,[],by simp only [go_sem,↓reduceIte,reduceCtorEq,yA,yB,uA,uB,uC,uD,uE,uF],⟨_,rfl,rfl,rfl⟩,.inl ⟨[storeX u0 K,c.pv],_,.inl (by simp only [go_sem,↓reduceIte,reduceCtorEq,yA,yB,uA,uB,uC,uD,uE,uF,storeX,Cmd.pv]),ca,.inr (.inl ⟨_,rfl,rfl,rfl⟩)⟩⟩ ?_
     refine V.exec 400 ?_
     simp +contextual (maxSteps := 1000000) only [go_sem,↓reduceIte,reduceCtorEq,yA,yB,uA,uB,uC,uD,uE,uF,storeX,trX_cells,trX_agg,Tell.pv]
     refine V.call rfl rfl (by simp [dOK]) ⟨14,[],by simp only [go_sem,↓reduceIte,reduceCtorEq,yA,yB,uA,uB,uC,uD,uE,uF],⟨_,rfl,rfl,rfl⟩,.inl ⟨[storeX u1 K1,c.pv],_,.inl (by simp only [go_sem,↓reduceIte,reduceCtorEq,yA,yB,uA,uB,uC,uD,uE,uF,storeX,Cmd.pv]),cb,.inr (.inl ⟨_,rfl,rfl,rfl⟩)⟩⟩ ?_
     refine V.exec 400 ?_
     simp +contextual (maxSteps := 1000000) only [go_sem,↓reduceIte,reduceCtorEq,yA,yB,uA,uB,uC,uD,uE,uF,storeX,trX_cells,trX_agg,Tell.pv]
     refine DV.call [] [] (by simp only [go_sem,↓reduceIte,reduceCtorEq,yA,yB,uA,uB,uC,uD,uE,uF,Tell.pv]) (by simp [dOK]) ⟨17,[],by simp only [go_sem,↓reduceIte,reduceCtorEq,yA,yB,uA,uB,uC,uD,uE,uF,Tell.pv],⟨_,rfl,rfl,rfl⟩,.inl ⟨[ta.pv],_,.inl (by simp only [go_sem,↓reduceIte,reduceCtorEq,yA,yB,uA,uB,uC,uD,uE,uF,Tell.pv]),rp,.inr (.inl ⟨_,rfl,rfl,rfl⟩)⟩⟩ (by simp only [go_sem,↓reduceIte,reduceCtorEq,yA,yB,uA,uB,uC,uD,uE,uF,Tell.pv]) (by simp only [go_sem,↓reduceIte,reduceCtorEq,yA,yB,uA,uB,uC,uD,uE,uF,Tell.pv]) (by simp only [go_sem,↓reduceIte,reduceCtorEq,yA,yB,uA,uB,uC,uD,uE,uF,Tell.pv]) (by simp) ?_
     refine DV.exec 400 ?_
     simp +contextual (maxSteps := 1000000) only [go_sem,↓reduceIte,reduceCtorEq,yA,yB,uA,uB,uC,uD,uE,uF,Tell.pv]
     refine DV.call [] [] (by simp only [go_sem,↓reduceIte,reduceCtorEq,yA,yB,uA,uB,uC,uD,uE,uF,Tell.pv]) (by simp [dOK]) ⟨17,[],by simp only [go_sem,↓reduceIte,reduceCtorEq,yA,yB,uA,uB,uC,uD,uE,uF,Tell.pv],⟨_,rfl,rfl,rfl⟩,.inl ⟨[ta.pv],_,.inl (by simp only [go_sem,↓reduceIte,reduceCtorEq,yA,yB,uA,uB,uC,uD,uE,uF,Tell.pv]),rp,.inr (.inl ⟨_,rfl,rfl,rfl⟩)⟩⟩ (by simp only [go_sem,↓reduceIte,reduceCtorEq,yA,yB,uA,uB,uC,uD,uE,uF,Tell.pv]) (by simp only [go_sem,↓reduceIte,reduceCtorEq,yA,yB,uA,uB,uC,uD,uE,uF,Tell.pv]) (by simp only [go_sem,↓reduceIte,reduceCtorEq,yA,yB,uA,uB,uC,uD,uE,uF,Tell.pv]) (by simp) ?_
     refine DV.exec 400 ?_
     simp +contextual (maxSteps := 1000000) only [go_sem,↓reduceIte,reduceCtorEq,yA,yB,uA,uB,uC,uD,uE,uF,Tell.pv]
     refine DV.call [] [] (by simp only [go_sem,↓reduceIte,reduceCtorEq,yA,yB,uA,uB,uC,uD,uE,uF,Tell.pv]) (by simp [dOK]) ⟨16,[],by simp only [go_sem,↓reduceIte,reduceCtorEq,yA,yB,uA,uB,uC,uD,uE,uF,Tell.pv],⟨_,rfl,rfl,rfl⟩,.inl ⟨[ta.pv,ta.pv],_,.inl (by simp only [go_sem,↓reduceIte,reduceCtorEq,yA,yB,uA,uB,uC,uD,uE,uF,Tell.pv]),td,.inl ⟨_,rfl,rfl,rfl,rfl⟩⟩⟩ (by simp only [go_sem,↓reduceIte,reduceCtorEq,yA,yB,uA,uB,uC,uD,uE,uF,Tell.pv]) (by simp only [go_sem,↓reduceIte,reduceCtorEq,yA,yB,uA,uB,uC,uD,uE,uF,Tell.pv]) (by simp only [go_sem,↓reduceIte,reduceCtorEq,yA,yB,uA,uB,uC,uD,uE,uF,Tell.pv]) (by simp) ?_
     refine DV.exec 400 ?_
     simp +contextual (maxSteps := 1000000) only [go_sem,↓reduceIte,reduceCtorEq,yA,yB,uA,uB,uC,uD,uE,uF]
     refine DV.call [] [] (by simp only [go_sem,↓reduceIte,reduceCtorEq,yA,yB,uA,uB,uC,uD,uE,uF]) (by simp [dOK]) ⟨13,[],by simp only [go_sem,↓reduceIte,reduceCtorEq,yA,yB,uA,uB,uC,uD,uE,uF],⟨_,rfl,rfl,rfl⟩,.inl ⟨[],_,.inl (by simp only [go_sem,↓reduceIte,reduceCtorEq,yA,yB,uA,uB,uC,uD,uE,uF]),aw,.inl ⟨_,rfl,rfl,rfl,rfl⟩⟩⟩ (by simp only [go_sem,↓reduceIte,reduceCtorEq,yA,yB,uA,uB,uC,uD,uE,uF]) (by simp only [go_sem,↓reduceIte,reduceCtorEq,yA,yB,uA,uB,uC,uD,uE,uF]) (by simp only [go_sem,↓reduceIte,reduceCtorEq,yA,yB,uA,uB,uC,uD,uE,uF]) (by simp) ?_
     refine DV.exec 400 ?_
     simp +contextual (maxSteps := 1000000) only [go_sem,↓reduceIte,reduceCtorEq,yA,yB,uA,uB,uC,uD,uE,uF]
     kernel_rfl
  ·simp +contextual (maxSteps := 1000000) only [go_sem,↓reduceIte,reduceCtorEq,yA,yB,uA,uB,uC,uD,uE,uF,hf1,hm1]
   refine V.call rfl rfl (by simp [dOK]) ⟨13,[],by simp only [go_sem,↓reduceIte,reduceCtorEq,yA,yB,uA,uB,uC,uD,uE,uF],⟨_,rfl,rfl,rfl⟩,.inl ⟨[],_,.inl (by simp only [go_sem,↓reduceIte,reduceCtorEq,yA,yB,uA,uB,uC,uD,uE,uF]),aw,.inl ⟨_,rfl,rfl,rfl,rfl⟩⟩⟩ ?_
   refine V.exec 400 ?_
   simp +contextual (maxSteps := 1000000) only [go_sem,↓reduceIte,reduceCtorEq,yA,yB,uA,uB,uC,uD,uE,uF]
 ·simp +contextual (maxSteps := 1000000) only [go_sem,↓reduceIte,reduceCtorEq,yA,yB,uA,uB,uC,uD,uE,uF,hf,hm1]
  refine V.call rfl rfl (by simp [dOK]) ⟨13,[],by simp only [go_sem,↓reduceIte,reduceCtorEq,yA,yB,uA,uB,uC,uD,uE,uF],⟨_,rfl,rfl,rfl⟩,.inl ⟨[],_,.inl (by simp only [go_sem,↓reduceIte,reduceCtorEq,yA,yB,uA,uB,uC,uD,uE,uF]),aw,.inl ⟨_,rfl,rfl,rfl,rfl⟩⟩⟩ ?_
  refine V.exec 400 ?_
  simp +contextual (maxSteps := 1000000) only [go_sem,↓reduceIte,reduceCtorEq,yA,yB,uA,uB,uC,uD,uE,uF]
theorem ctTrims (xs0 : List PV) (l0 : xs0.length ≤ maxLen) (h0 : ∀ x ∈ xs0,∃ qs,x = .agg qs ∧ mSs cmdSh qs) (qs : List PV) (h1 : mSs cmdSh qs) : Ct Tryz.prog 5 (Zv.ops [.row xs0,.agg qs]) (.vals [.bool true]) := by
 obtain ⟨l,rfl,_⟩ := cmds_of xs0 h0
 obtain ⟨c,e,hc⟩ := cmd_one h1
 rw [e]
 exact law_Trims l (by simpa using l0) c hc
end Go.Proofs.YtfemlllmglaimaaGreat
