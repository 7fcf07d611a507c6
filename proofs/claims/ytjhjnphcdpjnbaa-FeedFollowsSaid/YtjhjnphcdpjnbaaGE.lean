/- A part of a proof: functions of the program, walked. -/
import Derived.Test.YtjhjnphcdpjnbaaGD
set_option linter.unusedVariables false
set_option linter.unusedSimpArgs false
namespace Go.Proofs.YtjhjnphcdpjnbaaVm
open Go Classical

/-- Two worlds that agree but for some blocks. -/
structure Agree (X : Nat → Prop) (w w' : World) : Prop where
  os : w'.os = w.os
  tape : w'.tape = w.tape
  output : w'.output = w.output
  size : w'.heap.size = w.heap.size
  same : ∀ k, ¬ X k → w'.heap[k]? = w.heap[k]?

theorem Agree.refl (X : Nat → Prop) (w : World) : Agree X w w := ⟨rfl, rfl, rfl, rfl, fun _ _ => rfl⟩
theorem Agree.putObj (w : World) (l : Nat) (o : Obj) : Agree (fun k => k = l) w (w.putObj l o) := ⟨rfl, rfl, rfl, putObj_size, fun k hk => putObj_get hk⟩

/-- The context of a frame that shares the objects of another one. -/
noncomputable def baseOf (C : Ctx) (σ : St) (w : World) (cv : Nat → Value) (n : Nat) (S : Nat → Prop) (w1 : World) : Ctx where
  w0 := w1
  F0 := fun b => FS C σ.ob cv w b ∧ isC w b
  O0 := fun b => ∃ k, Live σ.ob cv k b
  n := n
  pin := fun k => if S k ∧ σ.ob k ≠ .free then some (cv k) else none
  lvl := 0

section
variable {P : Program} {C : Ctx} {σ : St} {a : Act} {w : World} {cv : Nat → Value}

theorem Rel.base (h : Rel P C σ a w cv) {X : Nat → Prop} {w1 : World} (hX : ∀ k, X k → ¬ isC w k) (hA : Agree X w w1) {n : Nat} (S : Nat → Prop) {σ1 : St} (hob : σ1.ob = σ.ob) {a1 : Act} (hn : a1.tmps.size = n) (hd : a1.defers = [])
    (hsl : ∀ t, SRep w (FS C σ.ob cv w) cv (σ1.sl t) (a1.tmps.getD t undef)) (hm : ∀ t i, (σ1.sl t).ment i → σ.ob i ≠ .free) : Rel P (baseOf C σ w cv n S w1) σ1 a1 w1 cv := by
  obtain ⟨sl1, ob1, ck1⟩ := σ1
  obtain rfl : ob1 = σ.ob := hob
  have hF : ∀ b, (FS C σ.ob cv w b ∧ isC w b) → FS (baseOf C σ w cv n S w1) σ.ob cv w1 b := fun b hb => .inl hb
  have hS : Same (fun b => FS C σ.ob cv w b ∧ isC w b) w w1 := fun b hb => hA.same b fun hx => hX b hx hb.2
  exact {
    os := rfl, tape := rfl, output := rfl, size := Nat.le_refl _, old := fun _ _ _ => rfl
    f0 := fun b hb => ⟨by show b < w1.heap.size; rw [hA.size]; exact h.fs_lt hb.1, fun ⟨k, hl⟩ => h.fs_live hb.1 hl⟩
    o0 := fun b ⟨k, hl⟩ => by show b < w1.heap.size; rw [hA.size]; exact (h.live k b hl).2
    live := fun i b hl => ⟨.inr ⟨i, hl⟩, by rw [hA.size]; exact (h.live i b hl).2⟩
    inj := h.inj
    obs := fun i => (h.obs i).cellsOnly.mono hS hF rfl (fun _ _ => rfl) (fun hlv b hb => hA.same b fun hx => hX b hx (h.live_isC ⟨hlv, hb⟩))
    slots := fun t => (hsl t).cellsOnly.mono hS hF (fun _ _ => rfl)
    ments := hm
    mento := h.mento
    defers := by rw [hd]; exact DefOK.nil
    ntmps := hn
    pin := fun i v hv => by
      have hv : (if S i ∧ σ.ob i ≠ .free then some (cv i) else none) = some v := hv
      split at hv
      · rename_i hh; cases hv; exact ⟨hh.2, rfl⟩
      · cases hv }

/-- Back in the frame whose objects were shared. -/
theorem Rel.back (h : Rel P C σ a w cv) {X : Nat → Prop} {w1 w2 w3 : World} (hX : ∀ k, X k → k < w.heap.size ∧ ¬ isC w k) (hA : Agree X w w1) {n : Nat} {S : Nat → Prop} {σ' : St} {a' : Act} {cv' : Nat → Value}
    (h' : Rel P (baseOf C σ w cv n S w1) σ' a' w2 cv') (hB : Agree X w2 w3) (h3 : ∀ k, X k → w3.heap[k]? = w.heap[k]?) (hS : ∀ t i, (σ.sl t).ment i → S i) (hp : ∀ i v, C.pin i = some v → S i) (ck : Nat) :
    Rel P C ⟨σ.sl, σ'.ob, ck⟩ a w3 cv' ∧ (∀ b, FS C σ.ob cv w b → FS C σ'.ob cv' w3 b) ∧ (∀ b, FS (baseOf C σ w cv n S w1) σ'.ob cv' w2 b → FS C σ'.ob cv' w3 b) ∧ (∀ i, S i → σ.ob i ≠ .free → σ'.ob i ≠ .free ∧ cv' i = cv i) ∧ Same (FS C σ.ob cv w) w w3 ∧
      Same (FS (baseOf C σ w cv n S w1) σ'.ob cv' w2) w2 w3 := by
  have hpin : ∀ i, S i → σ.ob i ≠ .free → σ'.ob i ≠ .free ∧ cv' i = cv i := fun i hs hi => h'.pin i (cv i) (by show (if S i ∧ σ.ob i ≠ .free then some (cv i) else none) = _; rw [if_pos ⟨hs, hi⟩])
  have hsz1 : w1.heap.size = w.heap.size := hA.size
  have hsz : w.heap.size ≤ w2.heap.size := by rw [← hsz1]; exact h'.size
  have hsz3 : w3.heap.size = w2.heap.size := hB.size
  have hlive' : ∀ i b, Live σ'.ob cv' i b → (w.heap.size ≤ b ∨ ∃ k, Live σ.ob cv k b) ∧ b < w2.heap.size := fun i b hl => by
    have := h'.live i b hl
    rw [← hsz1]; exact this
  have hnX : ∀ i b, Live σ'.ob cv' i b → ¬ X b := fun i b hl hx => by
    rcases (hlive' i b hl).1 with h1 | ⟨k, h1⟩
    · have := (hX b hx).1; omega
    · exact (hX b hx).2 (h.live_isC h1)
  have hold : ∀ b, b < w.heap.size → (∀ k, ¬ Live σ.ob cv k b) → w3.heap[b]? = w.heap[b]? := fun b hb hn => by
    by_cases hx : X b
    · exact h3 b hx
    · rw [hB.same b hx, h'.old b (by show b < w1.heap.size; omega) (fun ⟨k, hl⟩ => hn k hl)]
      exact hA.same b hx
  have hF' : ∀ b, FS (baseOf C σ w cv n S w1) σ'.ob cv' w2 b → FS C σ'.ob cv' w3 b := fun b hb => by
    have hnl := fun i => h'.fs_live (i := i) hb
    rcases hb with hb | ⟨hb, hlt, _⟩
    · rcases hb.1 with hb1 | hb1
      · exact .inl hb1
      · exact .inr ⟨hb1.1, by have := hb1.2.1; omega, hnl⟩
    · have hb : w1.heap.size ≤ b ∨ ∃ k, Live σ.ob cv k b := hb
      refine .inr ⟨?_, by omega, hnl⟩
      rcases hb with hb | ⟨k, hl⟩
      · have := h.size; exact .inl (by omega)
      · exact (h.live k b hl).1
  have hSam' : Same (FS (baseOf C σ w cv n S w1) σ'.ob cv' w2) w2 w3 := fun b hb => hB.same b fun hx => by
    rcases hb with hb | ⟨hb, _⟩
    · exact (hX b hx).2 hb.2
    · have hb : w1.heap.size ≤ b ∨ ∃ k, Live σ.ob cv k b := hb
      rcases hb with hb | ⟨k, hl⟩
      · have := (hX b hx).1; omega
      · exact (hX b hx).2 (h.live_isC hl)
  have hSam : Same (FS C σ.ob cv w) w w3 := fun b hb => hold b (h.fs_lt hb) (fun k => h.fs_live hb)
  have hnl3 : ∀ b, FS C σ.ob cv w b → ∀ i, ¬ Live σ'.ob cv' i b := fun b hb i hl => by
    rcases (hlive' i b hl).1 with h1 | ⟨k, h1⟩
    · have := h.fs_lt hb; omega
    · exact h.fs_live hb h1
  have hF : ∀ b, FS C σ.ob cv w b → FS C σ'.ob cv' w3 b := fun b hb => by
    have hn := hnl3 b hb
    have hlt := h.fs_lt hb
    rcases hb with hb | hb
    · exact .inl hb
    · exact .inr ⟨hb.1, by omega, hn⟩
  refine ⟨{
    os := hB.os.trans (h'.os.trans (hA.os.trans h.os)), tape := hB.tape.trans (h'.tape.trans (hA.tape.trans h.tape)), output := hB.output.trans (h'.output.trans (hA.output.trans h.output))
    size := by have := h.size; omega
    old := fun k hk hO => by
      rw [← h.old k hk hO]
      refine hold k (Nat.lt_of_lt_of_le hk h.size) (fun i hl => ?_)
      rcases (h.live i k hl).1 with h1 | h1
      · omega
      · exact hO h1
    f0 := h.f0, o0 := h.o0
    live := fun i b hl => by
      obtain ⟨h1, h2⟩ := hlive' i b hl
      refine ⟨?_, by omega⟩
      rcases h1 with h1 | ⟨k, h1⟩
      · have := h.size; exact .inl (by omega)
      · exact (h.live k b h1).1
    inj := h'.inj
    obs := fun i => (h'.obs i).mono hSam' hF' rfl (fun _ _ => rfl) (fun hlv b hb => hB.same b (hnX i b ⟨hlv, hb⟩))
    slots := fun t => (h.slots t).mono hSam hF (fun i hi => (hpin i (hS t i hi) (h.ments t i hi)).2)
    ments := fun t i hi => (hpin i (hS t i hi) (h.ments t i hi)).1
    mento := h'.mento
    defers := h.defers.mono hF hSam
    ntmps := h.ntmps
    pin := fun i v hv => by
      obtain ⟨h1, h2⟩ := h.pin i v hv
      obtain ⟨h4, h5⟩ := hpin i (hp i v hv) h1
      exact ⟨h4, h5.trans h2⟩ }, hF, hF', hpin, hSam, hSam'⟩

/-- How a round is walked. -/
def Md.rnd : Md := ⟨fun _ => True, false, false⟩

def roundSt (σ0 : St) (p q : Nat) (x y : PV) (ob : Nat → Ob) (ck : Nat) : St := ⟨fun t => if t = q then .val y else if t = p then .val x else σ0.sl t, ob, ck⟩

theorem fold2 (tmps : Array Value) (p q : Nat) (vx vy : Value) : ((#[p, q] : Array Nat).zip #[vx, vy]).foldl (fun t (i, v) => t.setIfInBounds i v) tmps = (tmps.setIfInBounds p vx).setIfInBounds q vy := by
  have e : (#[p, q] : Array Nat).zip #[vx, vy] = #[(p, vx), (q, vy)] := by
    apply Array.ext'
    simp [Array.toList_zip]
  rw [e]
  simp

theorem set_getD {tmps : Array Value} {p : Nat} {v : Value} {t : Nat} (hp : p < tmps.size) : (tmps.setIfInBounds p v).getD t undef = if t = p then v else tmps.getD t undef := by
  simp only [Array.getD_eq_getD_getElem?]
  by_cases h : t = p
  · subst h; rw [if_pos rfl]; simp [hp]
  · rw [if_neg h, Array.getElem?_setIfInBounds_ne (fun e => h e.symm)]

/-- A ROUND: yield was called with two arguments. -/
theorem yield_sound {τ : St} {ab : Act} {W : World} (hr : Rel P C τ ab W cv) {l : Nat} {rec : Loop} (hl : W.heap[l]? = some (.loop rec)) (hst : rec.state = .ready) (hpe : rec.pending = none)
    {σ0 : St} {n p q : Nat} (hps : rec.params = #[p, q]) (hn : rec.tmps.size = n) (hpn : p < n) (hqn : q < n) (hsl : ∀ t, SRep W (FS C τ.ob cv W) cv (σ0.sl t) (rec.tmps.getD t undef)) (hm : ∀ t i, (σ0.sl t).ment i → τ.ob i ≠ .free)
    {vx vy : Value} {px py : PV} (hx : Rep W (FS C τ.ob cv W) px vx) (hy : Rep W (FS C τ.ob cv W) py vy) {J1 J2 : St → Prop} (ck0 : Nat)
    (hw1 : V .rnd P n (fun _ => False) [.code rec.assign, .stop J1] (roundSt σ0 p q px py τ.ob ck0)) (hw2 : ∀ τ1, J1 τ1 → V .rnd P n J2 [.code rec.body] τ1) (ckr : Nat) (c : Frame) (cs : List Frame) :
    ∃ τ2 w3 cv3, J2 τ2 ∧ Rel P C ⟨τ.sl, τ2.ob, ckr⟩ ab w3 cv3 ∧
      Steps P (lone (Frame.round l rec.fn ((rec.params.zip #[vx, vy]).foldl (fun t (i, v) => t.setIfInBounds i v) rec.tmps) rec.assign rec.body .normal) (c :: cs) W) (lone (c.finish (.bool true)) cs w3) := by
  rw [hps, fold2]
  obtain ⟨b, hbr, hbk, hb0⟩ : ∃ b : Frame, b.roundOf = some l ∧ b.kind = .normal ∧ ∀ tmps, Frame.round l rec.fn tmps rec.assign rec.body .normal = b.atR { tmps := tmps, defers := [] } [.code rec.assign, .beginRound, .code rec.body] :=
    ⟨{ (default : Frame) with fn := rec.fn, kind := .normal, roundOf := some l }, rfl, rfl, fun tmps => by simp [Frame.round, Frame.atR]⟩
  rw [hb0]
  -- the round's frame
  have hbase : Rel P (baseOf C τ W cv n (fun _ => True) W) (roundSt σ0 p q px py τ.ob ck0) { tmps := (rec.tmps.setIfInBounds p vx).setIfInBounds q vy, defers := [] } W cv := by
    refine hr.base (X := fun _ => False) (fun _ hx => hx.elim) (Agree.refl _ _) _ (σ1 := roundSt σ0 p q px py τ.ob ck0) (a1 := { tmps := (rec.tmps.setIfInBounds p vx).setIfInBounds q vy, defers := [] }) rfl (by show ((rec.tmps.setIfInBounds p vx).setIfInBounds q vy).size = n; simp [hn]) rfl (fun t => ?_) (fun t i hi => ?_)
    · have e1 : ((rec.tmps.setIfInBounds p vx).setIfInBounds q vy).getD t undef = if t = q then vy else if t = p then vx else rec.tmps.getD t undef := by
        rw [set_getD (by simp; omega), set_getD (by omega)]
      show SRep W _ cv (if t = q then .val py else if t = p then .val px else σ0.sl t) (((rec.tmps.setIfInBounds p vx).setIfInBounds q vy).getD t undef)
      rw [e1]
      split
      · exact hy
      · split
        · exact hx
        · exact hsl t
    · have hi : (if t = q then AV.val py else if t = p then .val px else σ0.sl t).ment i := hi
      split at hi
      · exact hi.elim
      · split at hi
        · exact hi.elim
        · exact hm t i hi
  have hncl : ¬ isC W l := by rintro ⟨c, t, g, hc⟩; rw [hl] at hc; cases hc
  have hlW : l < W.heap.size := (Array.getElem?_eq_some_iff.1 hl).1
  -- the assignment
  obtain ⟨τ1, a1, w1, cv1, hJ1, hr1, hs1⟩ := V.seg (md := .rnd) trivial (fun h => by cases h) hw1 hbase b (c :: cs) (fun h => by cases h) [.beginRound, .code rec.body]
  have hl1 : w1.heap[l]? = some (.loop rec) := by
    rw [← hl]; exact hr1.old l hlW (fun ⟨k, hk⟩ => hncl (hr.live_isC hk))
  have hncl1 : ¬ isC w1 l := by rintro ⟨c, t, g, hc⟩; rw [hl1] at hc; cases hc
  have hlw1 : l < w1.heap.size := (Array.getElem?_eq_some_iff.1 hl1).1
  -- busy
  have hs2 := stepR_beginRound (P := P) (b := b) (a := a1) (k := [.code rec.body]) (cs := c :: cs) hbr (run_beginRound hl1 hst)
  have hdef1 : a1.defers = [] := hr1.defers.1 rfl
  have hX : ∀ k, (fun k => k = l) k → k < w1.heap.size ∧ ¬ isC w1 k := fun k hk => by cases hk; exact ⟨hlw1, hncl1⟩
  have hbase2 := hr1.base (X := fun k => k = l) (fun k hk => (hX k hk).2) (Agree.putObj w1 l (.loop { rec with state := .busy })) (n := n) (fun _ => True) (σ1 := τ1) rfl (a1 := a1) hr1.ntmps hdef1 hr1.slots hr1.ments
  -- the body
  obtain ⟨τ2, a2, w2, cv2, todo, ⟨hJ2, hlv⟩, hr2, hs3⟩ := V.sound (md := .rnd) (Z := fun σ todo => J2 σ ∧ leaves false todo) trivial (fun h => by cases h) (fun _ _ h1 h2 => ⟨h1, h2⟩) (hw2 τ1 hJ1) _ (.code _ .nil) a1 _ cv1 hbase2 b (c :: cs) (fun h => by cases h)
  obtain rfl : todo = [] := by
    match todo, hlv with
    | [], _ => rfl
    | .code .ret :: _, h => cases h
  have hl2 : w2.heap[l]? = some (.loop { rec with state := .busy }) := by
    rw [hr2.old l (by show l < (w1.putObj l _).heap.size; rw [putObj_size]; exact hlw1) (fun ⟨k, hk⟩ => hncl1 (hr1.live_isC hk))]
    exact World.putObj_heap_same hlw1
  have hs4 := stepR_round_end (P := P) (a := a2) (c := c) (cs := cs) hbr hbk (run_endRound none hl2)
  have hrec : ({ { rec with state := .busy } with state := if (none : Option Code).isNone = true then LoopState.ready else .done, pending := none } : Loop) = rec := by
    cases rec; simp only at hst hpe; subst hst; subst hpe; rfl
  have hl2s : l < w2.heap.size := (Array.getElem?_eq_some_iff.1 hl2).1
  have hback := hr1.back hX (Agree.putObj w1 l (.loop { rec with state := .busy })) hr2 (Agree.putObj w2 l (.loop rec)) (fun k hk => by cases hk; rw [World.putObj_heap_same hl2s, hl1]) (fun _ _ _ => trivial) (fun _ _ _ => trivial) ckr
  have hback2 := hr.back (X := fun _ => False) (fun _ hx => hx.elim) (Agree.refl _ _) hback.1 (Agree.refl _ _) (fun _ hx => hx.elim) (S := fun _ => True) (fun _ _ _ => trivial) (fun _ _ _ => trivial) ckr
  refine ⟨τ2, _, cv2, hJ2, hback2.1, ?_⟩
  refine hs1.trans (.head hs2 (hs3.trans (.one ?_)))
  rw [hs4]
  simp only [hrec]
  rfl

/-- What stands behind a call of yield: the loop's record, and the slots of the function that ranges. -/
def YK (P : Program) (md : Md) (S : Nat → Prop) (σ0 : St) (l : Nat) (rec : Loop) : Prop :=
  ∀ C, md.K C → ∀ τ a W cv, Rel P C τ a W cv → W.heap[l]? = some (.loop rec) ∧ (∀ t, SRep W (FS C τ.ob cv W) cv (σ0.sl t) (rec.tmps.getD t undef)) ∧ (∀ t i, (σ0.sl t).ment i → τ.ob i ≠ .free) ∧ (∀ i v, C.pin i = some v → S i)

/-- A call of yield, as an operation of the iterator's walk. -/
theorem SemOp.yield {md : Md} {nb : Nat} {all : List Oper} {i : Nat} {o : Oper} {τ : St} {J : St → Prop} {fx x y : Operand} {ts : Array TypeId} {l : Nat} {px py : PV} {rec : Loop} {σ0 : St} {n p q : Nat} {S : Nat → Prop}
    (hK : YK P md S σ0 l rec) (hst : rec.state = .ready) (hpe : rec.pending = none) (hps : rec.params = #[p, q]) (hn : rec.tmps.size = n) (hpn : p < n) (hqn : q < n)
    (hg : o.guard = none) (ho : o.op = .call { callee := .value fx, args := #[x, y], argTypes := ts }) (hfx : τ.ev fx = .val (.yld l)) (hx : τ.ev x = .val px) (hy : τ.ev y = .val py) (hd : dOK nb o.dst)
    {J1 J2 : St → Prop} (ck0 : Nat) (hw1 : V .rnd P n (fun _ => False) [.code rec.assign, .stop J1] (roundSt σ0 p q px py τ.ob ck0)) (hw2 : ∀ τ1, J1 τ1 → V .rnd P n J2 [.code rec.body] τ1) (ckr : Nat)
    (hfin : ∀ τ2, J2 τ2 → ∃ ls os ρ ck, Match P ((⟨τ.sl, τ2.ob, ckr⟩ : St).put o.dst (.val (.bool true))) ρ ls os ∧ (∀ i, S i → ρ[i]? = some (some i)) ∧ J (litSt ls os ck)) : SemOp P md nb all i o τ J := by
  intro C a w cv hKC hCn _ hr hoi b cs m rest
  obtain ⟨hl, hsl, hm, hpin⟩ := hK C hKC τ a w cv hr
  have hvf := (hr.ev fx).1
  have hvx := (hr.ev x).1
  have hvy := (hr.ev y).1
  rw [hfx] at hvf
  rw [hx] at hvx
  rw [hy] at hvy
  have hfe : a.eval fx = .func (.yield l) #[] #[] := by
    have hvf : Rep w (FS C τ.ob cv w) (.yld l) (a.eval fx) := hvf
    generalize a.eval fx = u at hvf
    cases hvf; rfl
  obtain ⟨τ2, w3, cv3, hJ2, hrel, hsteps⟩ := yield_sound hr hl hst hpe hps hn hpn hqn hsl hm hvx hvy ck0 hw1 hw2 ckr (b.atR a (.inRegion all.toArray (i :: rest) :: m)) cs
  obtain ⟨ls, os, ρ, ck, hM, hS, hJ⟩ := hfin τ2 hJ2
  have hput := put_rel hrel (d := o.dst) (by rw [hCn]; exact hd) (v := .val (.bool true)) (u := .bool true) (Rep.bool _) (fun i hi => hi.elim)
  obtain ⟨cv4, hren⟩ := hput.rename hM ck (fun i v hv => hS i (hpin i v hv))
  refine ⟨_, _, _, cv4, hJ, hren, ?_⟩
  have ho' : all.toArray[i]? = some o := by simpa using hoi
  have hw : Region.wanted o (yielded all.toArray a.tmps) = true := by unfold Region.wanted; rw [hg]
  have hgo := stepGR_op (P := P) (b := b) (k := m) (cs := cs) (w := w) (rest := rest) ho' hw
  have hrun : (execOp a.eval o).run P w = .ok (.round l rec.fn ((rec.params.zip #[a.eval x, a.eval y]).foldl (fun t (i, v) => t.setIfInBounds i v) rec.tmps) rec.assign rec.body) w := by
    have hy := run_yield (P := P) (args := #[a.eval x, a.eval y]) hl (by rw [hps]; rfl)
    simp only [execOp, ho, resolve, Sem.run_bind, Deferred.ofValue, hfe, Sem.run_pure, Result.andThen_ok, invoke]
    simpa using hy
  have hrun' := semAt_run b.roundOf hrun (fun d => by simp)
  have hfin : (b.atR a (.inRegion all.toArray (i :: rest) :: m)).finish (.bool true) = b.atR (a.put o.dst (.bool true)) (.inRegion all.toArray rest :: m) := by
    rw [Frame.finish_atR, ho']; rfl
  have henter : step P (lone (b.atR a (.inRegion all.toArray (i :: rest) :: m)) cs w) =
      .next (lone (Frame.round l rec.fn ((rec.params.zip #[a.eval x, a.eval y]).foldl (fun t (i, v) => t.setIfInBounds i v) rec.tmps) rec.assign rec.body .normal) (b.atR a (.inRegion all.toArray (i :: rest) :: m) :: cs) w) :=
    step_lone_go (by rw [hgo]; simp [stepG.apply, hrun'])
  rw [hfin] at hsteps
  exact .head henter hsteps

/-- A RANGE OVER A FUNCTION of two loop variables: the iterator is a closure over one value. -/
theorem SemCode.range2 {n : Nat} {σ0 : St} {gop : Operand} {p q : Nat} {assign body : Code} {fB : FuncId} {fnB : Func} {cB : Code} {x0 : PV} {S : Nat → Prop} {JE : (Nat → Ob) → Prop}
    (hg : σ0.ev gop = .val (.fn fB [x0])) (hent : Entered P fB) (hfB : P.funcs[fB]? = some fnB) (hbB : fnB.body = some cB) (hres : fnB.results = #[]) (hN : 2 ≤ fnB.ntmps) (hpn : p < n) (hqn : q < n)
    (hS : ∀ t i, (σ0.sl t).ment i → S i) (hSf : ∀ i, S i → σ0.ob i ≠ .free) (ckB : Nat)
    (hit : ∀ (l : Nat) (rec : Loop) (md : Md), rec.state = .ready → rec.pending = none → rec.params = #[p, q] → rec.tmps.size = n → rec.assign = assign → rec.body = body → md.pl = false → md.rt = true → YK P md S σ0 l rec →
      V md P fnB.ntmps (fun σ' => JE σ'.ob) [.code cB] ⟨fun t => if t = 0 then .val (.yld l) else if t = 1 then .val x0 else .any, σ0.ob, ckB⟩) :
    SemCode P .pln n (.rangeFunc gop #[p, q] assign body) σ0 (fun σ' => σ'.sl = σ0.sl ∧ JE σ'.ob) := by
  intro C a w cv hKC hCn hpin hr b cs m hb
  have hlvl : C.lvl = 2 := hKC
  have hvg := (hr.ev gop).1
  rw [hg] at hvg
  obtain ⟨cvs, hge, hcaps⟩ : ∃ cvs : List Value, a.eval gop = .func (.func fB) #[] ⟨cvs⟩ ∧ Reps w (FS C σ0.ob cv w) [x0] cvs := by
    generalize a.eval gop = u at hvg
    have hvg : Rep w (FS C σ0.ob cv w) (.fn fB [x0]) u := hvg
    cases hvg with
    | fn _ _ vs hl hh => exact ⟨vs, rfl, hl, hh⟩
  obtain ⟨v0, rfl⟩ : ∃ v0, cvs = [v0] := by
    match cvs, hcaps.1 with
    | [v0], _ => exact ⟨v0, rfl⟩
  have hx0 : Rep w (FS C σ0.ob cv w) x0 v0 := hcaps.tail.1
  -- the record and the block
  obtain ⟨rec, hrec⟩ : ∃ rec : Loop, rec = { state := .ready, pending := none, fn := b.fn, tmps := a.tmps, params := #[p, q], assign, body, defers := w.heap.size } := ⟨_, rfl⟩
  obtain ⟨w1, hw1⟩ : ∃ w1, w1 = (w.alloc (.deferred (some []))).alloc (.loop rec) := ⟨_, rfl⟩
  have hsz1 : w1.heap.size = w.heap.size + 2 := by rw [hw1]; simp
  have hold1 : ∀ k, k < w.heap.size → w1.heap[k]? = w.heap[k]? := fun k hk => by
    rw [hw1, heap_alloc_old _ _ k (by simp; omega), heap_alloc_old _ _ k hk]
  have hD1 : w1.heap[w.heap.size]? = some (.deferred (some [])) := by rw [hw1]; exact heap_alloc2_old w _ _
  have hL1 : w1.heap[w.heap.size + 1]? = some (.loop rec) := by
    rw [hw1]; exact heap_alloc2_new w _ _
  obtain ⟨hr1, hF1, hnew1⟩ := hr.more (w' := w1) (by rw [hw1]; rfl) (by rw [hw1]; rfl) (by rw [hw1]; rfl) (by omega) hold1
  have hncl1 : ¬ isC w1 (w.heap.size + 1) := by rintro ⟨c, t, g, hc⟩; rw [hL1] at hc; cases hc
  have hnD1 : ¬ isC w1 w.heap.size := by rintro ⟨c, t, g, hc⟩; rw [hD1] at hc; cases hc
  -- the act with the mark
  obtain ⟨mk, hmk⟩ : ∃ mk : Deferred, mk = { target := .collected w.heap.size, args := #[] } := ⟨_, rfl⟩
  have hdef : DefOK C (FS C σ0.ob cv w1) w1 (mk :: a.defers) := by
    have hd := hr1.defers
    refine ⟨fun e => (by rw [hlvl] at e; cases e), List.nodup_cons.2 ⟨fun hin => ?_, hd.2.1⟩, fun d hdm => ?_⟩
    · obtain ⟨D, h1, h2, h3, _⟩ := hr.defers.2.2 mk hin
      rw [hmk] at h1
      have : D = w.heap.size := by simpa using h1.symm
      subst this
      have := hr.fs_lt h2
      omega
    · rcases List.mem_cons.1 hdm with rfl | hdm
      · exact ⟨w.heap.size, hmk, hnew1 _ (Nat.le_refl _) (by omega), hD1, fun _ => hr.size⟩
      · exact hd.2.2 d hdm
  have hr2 := hr1.withDefers hdef
  -- the iterator's frame
  obtain ⟨CB, hCB⟩ : ∃ CB, CB = baseOf C σ0 w1 cv fnB.ntmps S w1 := ⟨_, rfl⟩
  have hg0 : (((⟨[.func (.yield (w.heap.size + 1)) #[] #[], v0]⟩ : Array Value) ++ Array.replicate (fnB.ntmps - 2) undef).getD 0 undef) = .func (.yield (w.heap.size + 1)) #[] #[] := by
    rw [Array.getD_eq_getD_getElem?, Array.getElem?_append_left (by simp)]; rfl
  have hg1 : (((⟨[.func (.yield (w.heap.size + 1)) #[] #[], v0]⟩ : Array Value) ++ Array.replicate (fnB.ntmps - 2) undef).getD 1 undef) = v0 := by
    rw [Array.getD_eq_getD_getElem?, Array.getElem?_append_left (by simp)]; rfl
  have hbase : Rel P CB ⟨fun t => if t = 0 then .val (.yld (w.heap.size + 1)) else if t = 1 then .val x0 else .any, σ0.ob, ckB⟩
      { tmps := (⟨[.func (.yield (w.heap.size + 1)) #[] #[], v0]⟩ : Array Value) ++ Array.replicate (fnB.ntmps - 2) undef, defers := [] } w1 cv := by
    rw [hCB]
    refine hr2.base (X := fun _ => False) (fun _ hx => hx.elim) (Agree.refl _ _) _ (σ1 := ⟨fun t => if t = 0 then .val (.yld (w.heap.size + 1)) else if t = 1 then .val x0 else .any, σ0.ob, ckB⟩)
      (a1 := { tmps := (⟨[.func (.yield (w.heap.size + 1)) #[] #[], v0]⟩ : Array Value) ++ Array.replicate (fnB.ntmps - 2) undef, defers := [] }) rfl (by simp; omega) rfl (fun t => ?_) (fun t i hi => ?_)
    · show SRep w1 _ cv (if t = 0 then .val (.yld (w.heap.size + 1)) else if t = 1 then .val x0 else .any) _
      split
      · rename_i e; subst e; rw [hg0]; exact Rep.yld _
      · split
        · rename_i e; subst e; rw [hg1]
          exact Rep.mono hx0 (fun b hb => hold1 b (hr.fs_lt hb)) hF1
        · trivial
    · have hi : (if t = 0 then AV.val (.yld (w.heap.size + 1)) else if t = 1 then .val x0 else .any).ment i := hi
      split at hi
      · exact hi.elim
      · split at hi <;> exact hi.elim
  have hYK : YK P ⟨fun C => C = CB, false, true⟩ S σ0 (w.heap.size + 1) rec := by
    intro C' hC' τ a' W cv' hτ
    have hC' : C' = CB := hC'
    subst hC'
    have hC'' := hCB
    have hFb : ∀ bb, (FS C σ0.ob cv w1 bb ∧ isC w1 bb) → FS C' τ.ob cv' W bb := fun bb hbb => by rw [hC''] ; exact .inl hbb
    have hw0 : C'.w0 = w1 := by rw [hC'']; rfl
    have hO0 : ∀ bb, C'.O0 bb ↔ ∃ k, Live σ0.ob cv k bb := fun bb => by rw [hC'']; rfl
    have hSm : Same (fun bb => FS C σ0.ob cv w1 bb ∧ isC w1 bb) w1 W := fun bb hbb => by
      have := hτ.old bb (by rw [hw0]; exact hr1.fs_lt hbb.1) (fun hO => by obtain ⟨k, hk⟩ := (hO0 bb).1 hO; exact hr1.fs_live hbb.1 hk)
      rw [this, hw0]
    have hpinS : ∀ i, S i → τ.ob i ≠ .free ∧ cv' i = cv i := fun i hi => hτ.pin i (cv i) (by rw [hC'']; show (if S i ∧ σ0.ob i ≠ .free then some (cv i) else none) = _; rw [if_pos ⟨hi, hSf i hi⟩])
    refine ⟨?_, fun t => ?_, fun t i hi => (hpinS i (hS t i hi)).1, fun i v hv => ?_⟩
    · have := hτ.old (w.heap.size + 1) (by rw [hw0]; omega) (fun hO => by obtain ⟨k, hk⟩ := (hO0 _).1 hO; exact hncl1 (hr1.live_isC hk))
      rw [this, hw0]; exact hL1
    · have := (hr1.slots t).cellsOnly.mono (cv' := cv') hSm hFb (fun i hi => (hpinS i (hS t i hi)).2)
      rw [hrec]; exact this
    · have hv : (baseOf C σ0 w1 cv fnB.ntmps S w1).pin i = some v := by rw [← hC'']; exact hv
      have hv : (if S i ∧ σ0.ob i ≠ .free then some (cv i) else none) = some v := hv
      split at hv
      · rename_i hh; exact hh.1
      · cases hv
  have hwalk := hit (w.heap.size + 1) rec ⟨fun C => C = CB, false, true⟩ (by rw [hrec]) (by rw [hrec]) (by rw [hrec]) (by rw [hrec]; exact hr.ntmps.trans hCn) (by rw [hrec]) (by rw [hrec]) rfl rfl hYK
  have hCBn : CB.n = fnB.ntmps := by rw [hCB]; rfl
  rw [← hCBn] at hwalk
  obtain ⟨bB, hbB1, hbB2, hbB3, henter⟩ : ∃ bB : Frame, bB.roundOf = none ∧ bB.kind = .normal ∧ bB.fn = fB ∧ Frame.enter P fB ⟨[.func (.yield (w.heap.size + 1)) #[] #[], v0]⟩ .normal =
      bB.atR { tmps := (⟨[.func (.yield (w.heap.size + 1)) #[] #[], v0]⟩ : Array Value) ++ Array.replicate (fnB.ntmps - 2) undef, defers := [] } [.code cB] :=
    ⟨{ (default : Frame) with fn := fB, kind := .normal, roundOf := none }, rfl, rfl, rfl, by simp [Frame.enter, Frame.atR, hfB, hbB]⟩
  obtain ⟨c0, hc0⟩ : ∃ c0 : Frame, c0 = b.atR { a with defers := [mk] ++ a.defers } (.inRangeFunc (w.heap.size + 1) :: m) := ⟨_, rfl⟩
  obtain ⟨σ', a', w2, cv2, todo, ⟨hJE, hlv⟩, hr3, hs3⟩ := V.sound (md := ⟨fun C => C = CB, false, true⟩) (Z := fun σ todo => JE σ.ob ∧ leaves true todo) rfl (fun h => by cases h) (fun _ _ h1 h2 => ⟨h1, h2⟩) hwalk _ (.code _ .nil) _ w1 cv hbase bB (c0 :: cs) (fun _ => hbB1)
  have hs4 := leave_steps (P := P) hbB1 (a := a') hlv (c0 :: cs) w2
  have hdefB : a'.defers = [] := hr3.defers.1 (by rw [hCB]; rfl)
  have hleave : ({ bB.atR a' todo with mode := .returning } : Frame).leaving P w2 (.returned (tupV [])) := by
    refine ⟨rfl, hdefB, hbB2, fnB, by show P.funcs[bB.fn]? = _; rw [hbB3]; exact hfB, ?_⟩
    exact results_readR fnB _ (us := []) (by rw [hres]; simp)
  have hs5 := step_leave_returned (c := c0) (cs := cs) hleave
  have hfin5 : c0.finish (tupV []) = b.atR { a with defers := [mk] ++ a.defers } (.endRangeFunc (w.heap.size + 1) :: m) := by rw [hc0]; exact finish_atR_inRangeFunc _ _
  rw [hfin5] at hs5
  rw [hCB] at hr3
  have hL2 : w2.heap[w.heap.size + 1]? = some (.loop rec) := by
    have := hr3.old (w.heap.size + 1) (by show _ < w1.heap.size; omega) (fun ⟨k, hk⟩ => hncl1 (hr1.live_isC hk))
    rw [this]; exact hL1
  have hback := hr2.back (X := fun _ => False) (fun _ hx => hx.elim) (Agree.refl _ _) hr3 (Agree.refl _ _) (fun _ hx => hx.elim) hS (fun i v hv => by rw [hpin i] at hv; cases hv) ckB
  have hturn := hback.1.turn (l := w.heap.size + 1) (o' := .loop { rec with state := .exhausted }) (by have := hr.size; omega) (by rintro ⟨c, t, g, hc⟩; rw [hL2] at hc; cases hc) (fun d hd => by
    rcases List.mem_cons.1 hd with rfl | hd
    · rw [hmk]; simp
    · obtain ⟨D, h1, h2, _⟩ := hr.defers.2.2 d hd
      rw [h1]
      have := hr.fs_lt h2
      intro e
      have e : D = w.heap.size + 1 := by simpa using e
      omega)
  have hend := run_endLoop (P := P) hL2 (by rw [hrec]; simp)
  have hs6 := stepR_endRangeFunc (P := P) (b := b) (a := { a with defers := [mk] ++ a.defers }) (k := m) (cs := cs) hend
  refine ⟨⟨σ0.sl, σ'.ob, ckB⟩, { a with defers := mk :: a.defers }, _, cv2, ⟨rfl, hJE⟩, hturn, ?_⟩
  have hs0 := stepR_rangeFunc (P := P) (b := b) (a := a) (k := m) (cs := cs) (w := w) (g := gop) (ps := #[p, q]) (assign := assign) (body := body) (l := w.heap.size + 1) (mark := [mk]) (w₁ := w1) (w₁' := w1) (w₂ := w1)
    (d := { target := .fn (.func fB) #[v0], args := #[.func (.yield (w.heap.size + 1)) #[] #[]] }) (f := fB) (args := ⟨[.func (.yield (w.heap.size + 1)) #[] #[], v0]⟩)
    (by rw [hb, run_enterLoop_outer, hw1, hrec, hmk]) (by simp only [resolve, Sem.run_bind, Deferred.ofValue, hge, Sem.run_pure, Result.andThen_ok]; simp [Act.eval]) (by
      obtain ⟨fn, hf, hn, hbn⟩ := hent
      simp only [invoke, callFunc, Sem.run_bind, run_program, hf, hn, hbn, Bool.false_eq_true, if_false, Result.andThen_ok]
      rfl)
  rw [henter] at hs0
  rw [← hc0] at hs0
  refine .head hs0 (hs3.trans (hs4.trans (.head hs5 (.one ?_))))
  rw [hs6]
  have hpend : rec.pending = none := by rw [hrec]
  rw [hpend]
  rfl

theorem lit_sl_cons (x : Nat × AV) (ls : List (Nat × AV)) (os : List Ob) (ck t : Nat) : (litSt (x :: ls) os ck).sl t = if t = x.1 then x.2 else (litSt ls os ck).sl t := by
  show (match (x :: ls).find? (fun y => y.1 == t) with | some y => y.2 | none => AV.any) = _
  rw [List.find?_cons]
  by_cases h : t = x.1
  · subst h; simp
  · have : (x.1 == t) = false := by simpa using fun e => h e.symm
    rw [this, if_neg h]; rfl
theorem lit_ment {ls : List (Nat × AV)} {os : List Ob} {ck t i : Nat} (h : ((litSt ls os ck).sl t).ment i) : ∃ x ∈ ls, x.2.ment i := by
  induction ls with
  | nil => exact h.elim
  | cons x ls ih =>
    rw [lit_sl_cons] at h
    split at h
    · exact ⟨x, List.mem_cons_self .., h⟩
    · obtain ⟨y, hy, hm⟩ := ih h
      exact ⟨y, List.mem_cons_of_mem _ hy, hm⟩
theorem roundSt_lit (ls : List (Nat × AV)) (os0 : List Ob) (c p q : Nat) (x y : PV) (ob : Nat → Ob) (os : List Ob) (hob : ob = (litSt [] os 0).ob) (ck : Nat) : roundSt (litSt ls os0 c) p q x y ob ck = litSt ((q, .val y) :: (p, .val x) :: ls) os ck := by
  refine St.eq_of (fun t => ?_) (fun k => by rw [show (roundSt (litSt ls os0 c) p q x y ob ck).ob = ob from rfl, hob]; rfl) rfl
  rw [lit_sl_cons, lit_sl_cons]
  rfl

/-- A range over a function, from a state that is written out. -/
theorem SemCode.rangeL {n : Nat} {ls : List (Nat × AV)} {os : List Ob} {ck : Nat} {gop : Operand} {p q : Nat} {assign body : Code} {fB : FuncId} {fnB : Func} {cB : Code} {x0 : PV} (S : Nat → Prop) (JE : (Nat → Ob) → Prop)
    (hg : (litSt ls os ck).ev gop = .val (.fn fB [x0])) (hent : Entered P fB) (hfB : P.funcs[fB]? = some fnB) (hbB : fnB.body = some cB) (hres : fnB.results = #[]) (hN : 2 ≤ fnB.ntmps) (hpn : p < n) (hqn : q < n)
    (hS : ∀ x ∈ ls, ∀ i, x.2.ment i → S i) (hSf : ∀ i, S i → (litSt ls os ck).ob i ≠ .free) (ckB : Nat)
    (hit : ∀ (l : Nat) (rec : Loop) (md : Md), rec.state = .ready → rec.pending = none → rec.params = #[p, q] → rec.tmps.size = n → rec.assign = assign → rec.body = body → md.pl = false → md.rt = true → YK P md S (litSt ls os ck) l rec →
      V md P fnB.ntmps (fun σ' => JE σ'.ob) [.code cB] (litSt [(0, .val (.yld l)), (1, .val x0)] os ckB)) :
    SemCode P .pln n (.rangeFunc gop #[p, q] assign body) (litSt ls os ck) (fun σ' => σ'.sl = (litSt ls os ck).sl ∧ JE σ'.ob) := by
  refine SemCode.range2 (S := S) hg hent hfB hbB hres hN hpn hqn (fun t i hi => by obtain ⟨x, hx, hm⟩ := lit_ment hi; exact hS x hx i hm) hSf ckB fun l rec md h1 h2 h3 h4 h5 h6 h7 h8 h9 => ?_
  have := hit l rec md h1 h2 h3 h4 h5 h6 h7 h8 h9
  have e : (⟨fun t => if t = 0 then .val (.yld l) else if t = 1 then .val x0 else .any, (litSt ls os ck).ob, ckB⟩ : St) = litSt [(0, .val (.yld l)), (1, .val x0)] os ckB :=
    St.eq_of (fun t => by rw [lit_sl_cons, lit_sl_cons]; rfl) (fun k => rfl) rfl
  rw [e]; exact this

end
end Go.Proofs.YtjhjnphcdpjnbaaVm
set_option linter.unusedVariables false
set_option linter.unusedSimpArgs false
namespace Go.Proofs.YtjhjnphcdpjnbaaVm
open Go Classical

section
variable {P : Program} {C : Ctx} {σ : St} {a : Act} {w : World} {cv : Nat → Value}

theorem Rel.storeBox (h : Rel P C σ a w cv) {i b : Nat} {ag : Bool} {cs : List AV} (he : σ.ob i = .box ag cs) (hb : cv i = .pointer (some ⟨b, 0, none⟩)) {ds : List AV} {vs : List Value}
    (htwo : Two (fun c v => SRep w (FS C σ.ob cv w) cv c v ∧ v.oneCell' = true) ds vs) (hcell : ∀ d ∈ ds, d.cell = true) (hle : ds.length ≤ cs.length) (hmd : ∀ d ∈ ds, ∀ j, d.ment j → σ.ob j ≠ .free) :
    ∃ w', (storeCells ⟨b, 0, none⟩ vs).run P w = .ok () w' ∧ Rel P C (σ.setOb i (.box ag (cs.take 0 ++ ds ++ cs.drop (0 + ds.length)))) a w' cv := by
  have ho := h.obs i
  rw [he] at ho
  obtain ⟨b', ty, arr, h1, h2, h3, h4, h5⟩ := ho
  rw [hb] at h1
  cases h1
  have hmo := h.mento i
  rw [he] at hmo
  refine ⟨_, storeCells_at h2 vs (by rw [htwo.1, h3]; omega) (fun u hu => ?_), ?_⟩
  · obtain ⟨j, hj⟩ := List.mem_iff_getElem?.1 hu
    have hjl : j < ds.length := by rw [← htwo.1]; exact (List.getElem?_eq_some_iff.1 hj).1
    exact (htwo.2 j _ u (List.getElem?_eq_getElem hjl) hj).2
  · refine h.mod i (by rw [he]; rfl) _ (by simp) (grown_setRow w b _) (fun b' hb' => by cases hb'; rw [hb]; rfl) (fun F' hF _ hS => ?_) (fun j hj => ?_)
    · have hall : Two (fun c v => SRep w (FS C σ.ob cv w) cv c v ∧ v.oneCell' = true) (cs.take 0 ++ ds ++ cs.drop (0 + ds.length)) (arr.take 0 ++ vs ++ arr.drop (0 + vs.length)) := by
        have hcs : Two (fun c v => SRep w (FS C σ.ob cv w) cv c v ∧ v.oneCell' = true) cs arr := ⟨h3, h5⟩
        rw [htwo.1]
        exact ((hcs.take 0).append htwo).append (hcs.drop _)
      refine ⟨b, ty, _, hb, setRow_heap w b ⟨arr⟩ _ ty _ h2, hall.1, fun c hc => ?_, fun j c v hc hv => ⟨((hall.2 j c v hc hv).1).mono hS hF (fun _ _ => rfl), (hall.2 j c v hc hv).2⟩⟩
      rcases List.mem_append.1 hc with hc | hc
      · rcases List.mem_append.1 hc with hc | hc
        · exact h4 c (List.mem_of_mem_take hc)
        · exact hcell c hc
      · exact h4 c (List.mem_of_mem_drop hc)
    · obtain ⟨c, hc, hcj⟩ := hj
      rcases List.mem_append.1 hc with hc | hc
      · rcases List.mem_append.1 hc with hc | hc
        · exact hmo j ⟨c, List.mem_of_mem_take hc, hcj⟩
        · exact hmd c hc j hcj
      · exact hmo j ⟨c, List.mem_of_mem_drop hc, hcj⟩
end

/-- The region of `x := T{}`. -/
theorem SemCode.zbox {P : Program} {md : Md} {n id t d1 d2 ty1 ty2 ty3 : Nat} {p1 p2 p3 : String} {f1 f2 f3 : Array Edge} {σ : St} {inf : TypeInfo} {z : Value} {zs : List AV}
    (hd1 : d1 < n) (hd2 : d2 < n) (hne : d2 ≠ d1) (hi : P.info? t = some inf) (hz : inf.zero = some z) (hzs : z.cells.toList.map cAV = zs) (hc : zs.all AV.cell = true)
    (hbt : P.built t [] = some z.cells) (hsz : inf.size = zs.length) (hfr : σ.isFree (σ.ck + 1) = true) :
    SemCode P md n (.region id #[{ dst := some d1, op := .build t #[], type := ty1, pos := p1, after := f1, guard := none }, { dst := some d2, op := .alloc t, type := ty2, pos := p2, after := f2, guard := none },
        { dst := none, op := .store t (.tmp d2) (.tmp d1), type := ty3, pos := p3, after := f3, guard := none }] false) σ
      (fun σ' => σ' = ((((σ.set d1 .any).setOb (σ.ck + 1) (.box true zs)).set d2 (.adr (σ.ck + 1) 0)).setOb (σ.ck + 1) (.box true zs)).setCk (σ.ck + 3)) := by
  intro C a w cv hKC hCn hpin hr b cs m hb
  subst hzs
  have hfree := isFree_free hfr
  -- the zero value
  have s1 := put_rel hr (d := some d1) (by rw [hCn]; exact hd1) (v := .any) (u := .agg z.cells) trivial (fun i hi => hi.elim)
  have r1 : (execOp a.eval { dst := some d1, op := .build t #[], type := ty1, pos := p1, after := f1, guard := none }).run P w = .ok (.value (.agg z.cells)) w := by
    have e : execOp a.eval { dst := some d1, op := .build t #[], type := ty1, pos := p1, after := f1, guard := none } = (do pure (.value (← Instr.build t #[])) : Sem Next) := by unfold execOp; simp
    rw [e]
    have := run_build (P := P) w t #[] z.cells (by simpa using hbt)
    simp [this]
  -- the variable
  have hcell : ∀ v ∈ z.cells.toList, (cAV v).cell = true := fun v hv => List.all_eq_true.1 hc _ (List.mem_map_of_mem hv)
  have htwo : ∀ (σ' : St) (w' : World) (cv' : Nat → Value), Two (fun c v => SRep w' (FS C σ'.ob cv' w') cv' c v ∧ v.oneCell' = true) (z.cells.toList.map cAV) z.cells.toList := fun σ' w' cv' =>
    ⟨by simp, fun j c v hj hv => by
      simp only [List.getElem?_map, hv, Option.map_some, Option.some.injEq] at hj
      subst hj
      exact ⟨cAV_rep _ _ _ v, cAV_oneCell (hcell v (List.mem_of_getElem? hv))⟩⟩
  have hcl : ∀ c ∈ z.cells.toList.map cAV, c.cell = true := fun c hcm => List.all_eq_true.1 hc c hcm
  have hmt : ∀ (σ' : St), ∀ c ∈ z.cells.toList.map cAV, ∀ j, c.ment j → σ'.ob j ≠ .free := fun σ' c hcm j hj => by
    obtain ⟨v, _, rfl⟩ := List.mem_map.1 hcm
    exact absurd hj (cAV_ment v j)
  obtain ⟨cv1, g1, g2⟩ := s1.newPtr (i := σ.ck + 1) (ag := true) (cs := z.cells.toList.map cAV) (vs := z.cells.toList) (ty := t) hfree (htwo _ _ _) hcl (hmt _)
  have s2 := put_rel g1 (d := some d2) (by rw [hCn]; exact hd2) g2 (fun j hj => by
    have e : σ.ck + 1 = j := hj
    subst e
    simp [St.setOb])
  have r2 : (execOp (a.put (some d1) (.agg z.cells)).eval { dst := some d2, op := .alloc t, type := ty2, pos := p2, after := f2, guard := none }).run P w = .ok (.value (.pointer (some ⟨w.heap.size, 0, none⟩))) (w.alloc (.cells ⟨z.cells.toList⟩ t)) := by
    have e : execOp (a.put (some d1) (.agg z.cells)).eval { dst := some d2, op := .alloc t, type := ty2, pos := p2, after := f2, guard := none } = (do pure (.value (← Instr.alloc t true (.tuple #[]))) : Sem Next) := rfl
    rw [e]
    simp [Instr.alloc, zeroValue, typeInfo, hi, hz, newVar, Go.newRow]
  -- what is stored
  obtain ⟨bk, hbk, hpk⟩ := g2
  obtain rfl : bk = w.heap.size := by simpa using hpk.symm
  obtain ⟨w3, q3, s3⟩ := s2.storeBox (i := σ.ck + 1) (ag := true) (cs := z.cells.toList.map cAV) (by simp [St.put, St.set, St.setOb]) hbk (ds := z.cells.toList.map cAV) (vs := z.cells.toList) (htwo _ _ _) hcl (Nat.le_refl _) (hmt _)
  simp only [List.take_zero, List.nil_append, Nat.zero_add, List.drop_length, List.append_nil] at s3
  have hsz0 : a.tmps.size = n := by rw [← hCn]; exact hr.ntmps
  have e2 : ((a.put (some d1) (.agg z.cells)).put (some d2) (.pointer (some ⟨w.heap.size, 0, none⟩))).eval (.tmp d2) = .pointer (some ⟨w.heap.size, 0, none⟩) := by
    simp only [Act.eval, Act.put, Array.getD_eq_getD_getElem?]
    rw [Array.getElem?_setIfInBounds_self_of_lt (by rw [Array.size_setIfInBounds, hsz0]; exact hd2)]
    rfl
  have e1 : ((a.put (some d1) (.agg z.cells)).put (some d2) (.pointer (some ⟨w.heap.size, 0, none⟩))).eval (.tmp d1) = .agg z.cells := by
    simp only [Act.eval, Act.put, Array.getD_eq_getD_getElem?]
    rw [Array.getElem?_setIfInBounds_ne hne, Array.getElem?_setIfInBounds_self_of_lt (by rw [hsz0]; exact hd1)]
    rfl
  have hn : szOf P t = some inf.size := by simp [szOf, hi]
  have r3 : (execOp ((a.put (some d1) (.agg z.cells)).put (some d2) (.pointer (some ⟨w.heap.size, 0, none⟩))).eval { dst := none, op := .store t (.tmp d2) (.tmp d1), type := ty3, pos := p3, after := f3, guard := none }).run P (w.alloc (.cells ⟨z.cells.toList⟩ t)) = .ok .skip w3 := by
    have hst : (Instr.storeAt t (.pointer (some ⟨w.heap.size, 0, none⟩)) (.agg z.cells)).run P (w.alloc (.cells ⟨z.cells.toList⟩ t)) = .ok () w3 := by
      have hvl : z.cells.size = inf.size := by rw [hsz]; simp
      have hcells : (Value.agg z.cells).cells = z.cells := rfl
      simp [Instr.storeAt, Instr.sureAddr, storeVar, run_sizeOf hn, hcells, hvl, q3]
    simp only [execOp, e1, e2]
    simp [hst]
  have w0 : ∀ (o : Oper) (x : Nat → Option Bool), o.guard = none → Region.wanted o x = true := fun o x hg => by unfold Region.wanted; rw [hg]
  refine ⟨_, _, _, cv1, rfl, ck_rel s3 _, ?_⟩
  refine .trans (.one stepR_region) ?_
  have t1 := oper_steps (P := P) (all := [{ dst := some d1, op := .build t #[], type := ty1, pos := p1, after := f1, guard := none }, { dst := some d2, op := .alloc t, type := ty2, pos := p2, after := f2, guard := none }, { dst := none, op := .store t (.tmp d2) (.tmp d1), type := ty3, pos := p3, after := f3, guard := none }]) (i := 0) (rest := [1, 2]) (m := m) rfl (w0 _ _ rfl) (.inl r1) b cs
  have t2 := oper_steps (P := P) (all := [{ dst := some d1, op := .build t #[], type := ty1, pos := p1, after := f1, guard := none }, { dst := some d2, op := .alloc t, type := ty2, pos := p2, after := f2, guard := none }, { dst := none, op := .store t (.tmp d2) (.tmp d1), type := ty3, pos := p3, after := f3, guard := none }]) (i := 1) (rest := [2]) (m := m) rfl (w0 _ _ rfl) (.inl r2) b cs
  have t3 := oper_steps (P := P) (all := [{ dst := some d1, op := .build t #[], type := ty1, pos := p1, after := f1, guard := none }, { dst := some d2, op := .alloc t, type := ty2, pos := p2, after := f2, guard := none }, { dst := none, op := .store t (.tmp d2) (.tmp d1), type := ty3, pos := p3, after := f3, guard := none }]) (i := 2) (rest := []) (m := m) rfl (w0 _ _ rfl) (.inr ⟨r3, rfl⟩) b cs
  exact t1.trans (t2.trans (t3.trans (.one stepR_region_end)))
end Go.Proofs.YtjhjnphcdpjnbaaVm
