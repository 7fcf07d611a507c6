/- A part of a proof: functions of the program, walked. -/
import Derived.Test.YtofmiaecjnfeaaaGD
import Derived.SizedLaws
set_option linter.unusedVariables false
set_option linter.unusedSimpArgs false
set_option maxRecDepth 8000
namespace Go.Proofs.Ytofmiaecjnfeaaa
open Go Go.Proofs Go.Proofs.YtofmiaecjnfeaaaVm
theorem weightsAll_mem {H : Type} {P : Program} {e : TypeId} {n : Nat} : ∀ {ds : List (DataW H)} {d : DataW H}, d ∈ ds → n ∈ d.weights P e → n ∈ DataW.weightsAll P e ds
  | d0 :: r, d, hd, hn => by
    simp only [DataW.weightsAll, List.mem_append]
    rcases List.mem_cons.1 hd with rfl | hd
    · exact .inl hn
    · exact .inr (weightsAll_mem hd hn)
theorem flat_strs : ∀ r : List (List UInt8), flat (r.map PV.str) = r.map PV.str
  | [] => rfl
  | z :: r => by
    have : flat (PV.str z :: r.map PV.str) = [PV.str z] ++ flat (r.map PV.str) := rfl
    rw [List.map_cons, this, flat_strs r]; rfl
/-- How long the strings of a slice that comes in are. -/
theorem strs_sized {H : Type} {enc : TypeId × Value → H} {P : Program} {w : World} {spare : Nat → Bool} {held : Bool} {fuel : Nat} {t e : TypeId} {cs : List Value} {x : DataW H × List MemPlace} {B : Nat} {F : Nat → Prop}
    (hu : P.underlying t = some (.slice e)) (hs : P.underlying e = some .string) (hc : P.cellsOf e = 1) (h : DataW.trod enc P w 0 spare held fuel t cs = some x)
    (hsz : ∀ n ∈ x.1.weights P t, n ≤ B) (ls : List (List UInt8)) (hr : Reps w F [.row (ls.map PV.str)] cs) : ∀ l ∈ ls, l.length ≤ B := by
  intro l hl
  rcases DataW.trod_slice hu h with ⟨rfl, _⟩ | ⟨a, len, cap, elems, rest, n, _, rfl, rfl, _, _, _, hel, hget, _⟩
  · have h1 := hr.tail.1
    generalize hxs : ls.map PV.str = xs at h1
    cases h1
    have : ls = [] := by simpa using hxs
    subst this; cases hl
  · have h1 := hr.tail.1
    generalize hxs : ls.map PV.str = xs at h1
    cases h1 with
    | row _ _ _ sz cv q1 q2 q3 q4 q5 q6 q7 =>
      subst hxs
      obtain ⟨i, hi⟩ := List.getElem?_of_mem hl
      have hfl := flat_strs ls
      rw [hfl] at q4 q7
      have hlen : i < ls.length := (List.getElem?_eq_some_iff.1 hi).1
      have hle : (ls.map PV.str).length = ls.length := List.length_map ..
      have hg := hget i (by omega)
      have hlt : i < elems.length := by omega
      rw [List.getElem?_eq_getElem hlt, Option.bind_eq_some_iff] at hg
      obtain ⟨cs', hcs, htr⟩ := hg
      rw [hc] at hcs
      obtain ⟨s, rfl, hx, _⟩ := DataW.trod_string hs htr
      obtain ⟨_, _, hcell⟩ := World.cells?_some hcs
      have h0 := hcell 0 (by omega)
      rw [Addr.add_add] at h0
      have hcv : i < cv.length := by omega
      have hv := q5 i cv[i] (List.getElem?_eq_getElem hcv)
      rw [show i * 1 + 0 = i by omega, hv] at h0
      have hrep := q7 i (.str l) cv[i] (by rw [List.getElem?_map, hi]; rfl) (List.getElem?_eq_getElem hcv)
      have hv2 : cv[i] = .string s := by simpa using h0
      rw [hv2] at hrep
      cases hrep
      refine hsz _ ?_
      simp only [DataW.weights, hu]
      refine List.mem_cons_of_mem _ (List.mem_append_left _ (weightsAll_mem (d := elems[i].1) (List.mem_map.2 ⟨elems[i], List.getElem_mem hlt, rfl⟩) ?_))
      rw [hx]
      simp [DataW.weights]
end Go.Proofs.Ytofmiaecjnfeaaa
