/- A part of a proof: functions of the program, walked. -/
import Derived.Test.YtbciecmoadjigaaL11P3
set_option linter.unusedVariables false
set_option linter.unusedSimpArgs false
namespace Go.Proofs.Ytbciecmoadjigaa
open Go Go.Proofs Go.Proofs.YtbciecmoadjigaaVm Go.Proofs.Ytbciecmoadjigaa.Ty

theorem u64_eq (x : Int) : IntKind.u64.wrap x = x % 18446744073709551616 := by simp [IntKind.wrap, IntKind.bits, IntKind.signed]
theorem beN_foldl : ∀ (l : List UInt8) (a : Int), l.foldl (fun n b => n * 256 + (b.toNat : Int)) a = a * 256 ^ l.length + beN l
  | [], a => by simp [beN]
  | b :: l, a => by
    have h1 := beN_foldl l (a * 256 + (b.toNat : Int))
    have h2 := beN_foldl l (b.toNat : Int)
    have h3 : beN (b :: l) = l.foldl (fun n b => n * 256 + (b.toNat : Int)) (b.toNat : Int) := by simp [beN]
    rw [List.foldl_cons, h1, h3, h2, List.length_cons, Int.pow_succ, Int.add_mul, Int.mul_assoc, Int.mul_comm 256, Int.add_assoc]
theorem beN_cons (b : UInt8) (l : List UInt8) : beN (b :: l) = (b.toNat : Int) * 256 ^ l.length + beN l := by
  have := beN_foldl l (b.toNat : Int)
  rw [← this]; simp [beN]
theorem beN_beB : ∀ (k m : Nat), beN (beB (m : Int) k) = ((m % 256 ^ k : Nat) : Int)
  | 0, m => by simp [beB, beN, Nat.mod_one]
  | k + 1, m => by
    rw [beB_succ, beN_cons, beN_beB k m, beB_len]
    have e : ((m : Int) / 256 ^ k % 256) = ((m / 256 ^ k % 256 : Nat) : Int) := by
      rw [Int.natCast_emod, Int.natCast_ediv, Int.natCast_pow]; rfl
    have h : (UInt8.ofNat ((m : Int) / 256 ^ k % 256).toNat).toNat = m / 256 ^ k % 256 := by
      rw [e, Int.toNat_natCast, UInt8.toNat_ofNat']
      exact Nat.mod_eq_of_lt (Nat.mod_lt _ (by decide))
    rw [h, Nat.pow_succ, Nat.mod_mul, Int.natCast_add, Int.natCast_mul, Int.natCast_pow]
    rw [Int.mul_comm, Int.add_comm]; rfl
theorem numV_beB {w : Int} (h0 : 0 ≤ w) (h1 : w < 18446744073709551616) : numV (beB w 8) = w := by
  unfold numV
  rw [if_pos (beB_len _ _)]
  obtain ⟨m, rfl⟩ := Int.eq_ofNat_of_zero_le h0
  rw [beN_beB]
  have : m < 256 ^ 8 := by
    have e : (256 : Nat) ^ 8 = 18446744073709551616 := by decide
    omega
  rw [Nat.mod_eq_of_lt this]
theorem numV_wrap (x : Int) : numV (beB (IntKind.u64.wrap x) 8) = IntKind.u64.wrap x := numV_beB (u64_wrap_nonneg x) (u64_wrap_lt x)

theorem bothV_assoc {a b c : Note} (ha : a.ok) (hb : b.ok) (hc : c.ok) : bothV (bothV a b) c = bothV a (bothV b c) := by
  obtain ⟨_, _, ka⟩ := ha
  obtain ⟨_, _, kb⟩ := hb
  obtain ⟨_, _, kc⟩ := hc
  have d1 : ¬ (3 : Int) = 1 := by decide
  have d2 : ¬ (3 : Int) = 2 := by decide
  have d3 : ¬ (2 : Int) = 1 := by decide
  rcases kc with kc | kc | kc
  · simp [bothV, kc.1]
  · simp [bothV, kc.1]
  · rcases kb with kb | kb | kb
    · simp [bothV, kc.1, kb.1]
    · simp [bothV, kc.1, kb.1]
    · rcases ka with ka | ka | ka
      · simp only [bothV, kc.1, kb.1, ka.1, d1, d2, or_self, or_true, if_true, if_false, doneOne, ↓reduceIte, numV_wrap]
        simp only [u64_eq]
        congr 2
        omega
      · simp only [bothV, kc.1, kb.1, ka.1, d1, d2, d3, or_self, or_true, if_true, if_false, doneOne, ↓reduceIte, numV_wrap]
        simp only [u64_eq]
        congr 2
        omega
      · simp only [bothV, kc.1, kb.1, ka.1, d1, d2, or_self, or_true, if_true, if_false, ↓reduceIte]
        simp only [u64_eq]
        congr 1
        omega
def joinN : Option Note → Option Note → Option Note
  | o, none => o
  | none, some w => some w
  | some v, some w => some (bothV v w)
def okO (o : Option Note) : Prop := ∀ w, o = some w → w.ok
theorem keyStep_ok (k : List UInt8) {o : Option Note} (ho : okO o) {x : Note} (hx : x.ok) : okO (keyStep k o x) := by
  unfold keyStep
  split
  · intro w hw
    cases o with
    | none => cases hw; exact hx
    | some v => cases hw; exact bothV_ok (ho v rfl) hx
  · exact ho
theorem keyStep_join (k : List UInt8) {o p : Option Note} (ho : okO o) (hp : okO p) {x : Note} (hx : x.ok) : keyStep k (joinN o p) x = joinN o (keyStep k p x) := by
  unfold keyStep
  by_cases h : k = x.key
  · rw [if_pos h, if_pos h]
    cases p with
    | none => cases o <;> rfl
    | some w => cases o with
      | none => rfl
      | some v =>
        show some (bothV (bothV v w) x) = some (bothV v (bothV w x))
        rw [bothV_assoc (ho v rfl) (hp w rfl) hx]
  · rw [if_neg h, if_neg h]
theorem fold_join (k : List UInt8) : ∀ (ns : List Note) {o p : Option Note}, okO o → okO p → allOk ns → ns.foldl (keyStep k) (joinN o p) = joinN o (ns.foldl (keyStep k) p)
  | [], _, _, _, _, _ => rfl
  | x :: r, o, p, ho, hp, hn => by
    have hx := hn x List.mem_cons_self
    rw [List.foldl_cons, List.foldl_cons, keyStep_join k ho hp hx]
    exact fold_join k r ho (keyStep_ok k hp hx) fun y hy => hn y (List.mem_cons_of_mem _ hy)
theorem fold_none (k : List UInt8) {ns : List Note} {o : Option Note} (ho : okO o) (hn : allOk ns) : ns.foldl (keyStep k) o = joinN o (ns.foldl (keyStep k) none) := by
  have := fold_join k ns (p := none) ho (fun w h => by cases h) hn
  rw [← this]
  cases o <;> rfl
theorem fold_other (k : List UInt8) : ∀ (ns : List Note) (o : Option Note), (∀ x ∈ ns, ¬ k = x.key) → ns.foldl (keyStep k) o = o
  | [], _, _ => rfl
  | x :: r, o, h => by
    rw [List.foldl_cons]
    have : keyStep k o x = o := by unfold keyStep; rw [if_neg (h x List.mem_cons_self)]
    rw [this]
    exact fold_other k r o fun y hy => h y (List.mem_cons_of_mem _ hy)
/-- Of notes that wait well each key's fold is its note. -/
theorem fold_sorted (k : List UInt8) : ∀ (ns : List Note), gSorted Note.key ns → ns.foldl (keyStep k) none = gGet Note.key ns k
  | [], _ => rfl
  | x :: r, h => by
    cases h with
    | cons h1 h2 =>
      rw [List.foldl_cons]
      unfold gGet
      rw [List.find?_cons]
      by_cases hk : k = x.key
      · have e : keyStep k none x = some x := by unfold keyStep; rw [if_pos hk]
        rw [e, fold_other k r _ (fun y hy e2 => by
          have := h1 y hy
          rw [← hk, ← e2] at this
          exact slt_irrefl _ this)]
        simp [hk]
      · have e : keyStep k none x = none := by unfold keyStep; rw [if_neg hk]
        rw [e, fold_sorted k r h2]
        have hd : decide (x.key = k) = false := decide_eq_false (fun e => hk e.symm)
        rw [hd]; rfl
theorem okO_get {l : List Note} (h : waitOk l) (k : List UInt8) : okO (gGet Note.key l k) := fun w hw => ((waitOk_iff l).1 h).2 w (gGet_mem Note.key hw).1
theorem fold_okO (k : List UInt8) : ∀ (ns : List Note) {o : Option Note}, okO o → allOk ns → okO (ns.foldl (keyStep k) o)
  | [], _, h, _ => h
  | x :: r, _, h, hn => fold_okO k r (keyStep_ok k h (hn x List.mem_cons_self)) fun y hy => hn y (List.mem_cons_of_mem _ hy)
/-- Pushed in parts is pushed at once. -/
theorem push_groups {l ns : List Note} (hl : waitOk l) (hn : allOk ns) : pushV l (pushV [] ns) = pushV l ns := by
  have hs := ((waitOk_iff l).1 hl).1
  have h0 := pushV_sorted ns (l := []) List.Pairwise.nil
  have hk0 := pushV_ok ns waitOk_nil hn
  refine gGet_ext Note.key (pushV_sorted _ hs) (pushV_sorted _ hs) fun k => ?_
  rw [pushV_get _ hs, pushV_get _ hs, fold_none k (okO_get hl k) ((waitOk_iff _).1 hk0).2, fold_none k (okO_get hl k) hn, fold_sorted k _ h0, pushV_get ns List.Pairwise.nil k]
  rfl
theorem pushV_app (l a b : List Note) : pushV l (a ++ b) = pushV (pushV l a) b := List.foldl_append ..
end Go.Proofs.Ytbciecmoadjigaa
