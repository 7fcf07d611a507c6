/- A part of a proof: functions of the program, walked. -/
import Derived.Test.YtjbfcmaiejlnbaaGD
set_option linter.unusedVariables false
set_option linter.unusedSimpArgs false
namespace Go.Proofs.YtjbfcmaiejlnbaaVm
open Go Classical

/-- Two worlds that agree but for some blocks. -/
structure Agree (X : Nat → Prop) (w w' : World) : Prop where
  os : w'.os = w.os
  tape : w'.tape = w.tape
  output : w'.output = w.output
  size : w'.heap.size = w.heap.size
  same : ∀ k, ¬ X k → w'.heap[k]? = w.heap[k]?

theorem Agree.refl (X : Nat → Prop) (w : World) : Agree X w w := ⟨rfl, rfl, rfl, rfl, fun _ _ => rfl⟩
theorem Agree.putObj (w : World) (l : Nat) (o : Obj) : Agree (fun k => k = l) w (w.putObj l o) := ⟨rfl, rfl, rfl, putObj_size, fun k hk => putObj_get hk⟩

/-- The context of a frame that shares the objects of another one. -/
noncomputable def baseOf (C : Ctx) (σ : St) (w : World) (cv : Nat → Value) (n : Nat) (S : Nat → Prop) (w1 : World) : Ctx where
  w0 := w1
  F0 := fun b => FS C σ.ob cv w b ∧ isC w b
  O0 := fun b => ∃ k, Live σ.ob cv k b
  n := n
  pin := fun k => if S k ∧ σ.ob k ≠ .free then some (cv k) else none
  lvl := 0

section
variable {P : Program} {C : Ctx} {σ : St} {a : Act} {w : World} {cv : Nat → Value}

theorem Rel.base (h : Rel P C σ a w cv) {X : Nat → Prop} {w1 : World} (hX : ∀ k, X k → ¬ isC w k) (hA : Agree X w w1) {n : Nat} (S : Nat → Prop) {σ1 : St} (hob : σ1.ob = σ.ob) {a1 : Act} (hn : a1.tmps.size = n) (hd : a1.defers = [])
    (hsl : ∀ t, SRep w (FS C σ.ob cv w) cv (σ1.sl t) (a1.tmps.getD t undef)) (hm : ∀ t i, (σ1.sl t).ment i → σ.ob i ≠ .free) : Rel P (baseOf C σ w cv n S w1) σ1 a1 w1 cv := by
  obtain ⟨sl1, ob1, ck1⟩ := σ1
  obtain rfl : ob1 = σ.ob := hob
  have hF : ∀ b, (FS C σ.ob cv w b ∧ isC w b) → FS (baseOf C σ w cv n S w1) σ.ob cv w1 b := fun b hb => .inl hb
  have hS : Same (fun b => FS C σ.ob cv w b ∧ isC w b) w w1 := fun b hb => hA.same b fun hx => hX b hx hb.2
  exact {
    os := rfl, tape := rfl, output := rfl, size := Nat.le_refl _, old := fun _ _ _ => rfl
    f0 := fun b hb => ⟨by show b < w1.heap.size; rw [hA.size]; exact h.fs_lt hb.1, fun ⟨k, hl⟩ => h.fs_live hb.1 hl⟩
    o0 := fun b ⟨k, hl⟩ => by show b < w1.heap.size; rw [hA.size]; exact (h.live k b hl).2
    live := fun i b hl => ⟨.inr ⟨i, hl⟩, by rw [hA.size]; exact (h.live i b hl).2⟩
    inj := h.inj
    obs := fun i => (h.obs i).cellsOnly.mono hS hF rfl (fun _ _ => rfl) (fun hlv b hb => hA.same b fun hx => hX b hx (h.live_isC ⟨hlv, hb⟩))
    slots := fun t => (hsl t).cellsOnly.mono hS hF (fun _ _ => rfl)
    ments := hm
    mento := h.mento
    defers := by rw [hd]; exact DefOK.nil
    ntmps := hn
    pin := fun i v hv => by
      have hv : (if S i ∧ σ.ob i ≠ .free then some (cv i) else none) = some v := hv
      split at hv
      · rename_i hh; cases hv; exact ⟨hh.2, rfl⟩
      · cases hv }

/-- Back in the frame whose objects were shared. -/
theorem Rel.back (h : Rel P C σ a w cv) {X : Nat → Prop} {w1 w2 w3 : World} (hX : ∀ k, X k → k < w.heap.size ∧ ¬ isC w k) (hA : Agree X w w1) {n : Nat} {S : Nat → Prop} {σ' : St} {a' : Act} {cv' : Nat → Value}
    (h' : Rel P (baseOf C σ w cv n S w1) σ' a' w2 cv') (hB : Agree X w2 w3) (h3 : ∀ k, X k → w3.heap[k]? = w.heap[k]?) (hS : ∀ t i, (σ.sl t).ment i → S i) (hp : ∀ i v, C.pin i = some v → S i) (ck : Nat) :
    Rel P C ⟨σ.sl, σ'.ob, ck⟩ a w3 cv' ∧ (∀ b, FS C σ.ob cv w b → FS C σ'.ob cv' w3 b) ∧ (∀ b, FS (baseOf C σ w cv n S w1) σ'.ob cv' w2 b → FS C σ'.ob cv' w3 b) ∧ (∀ i, S i → σ.ob i ≠ .free → σ'.ob i ≠ .free ∧ cv' i = cv i) ∧ Same (FS C σ.ob cv w) w w3 ∧
      Same (FS (baseOf C σ w cv n S w1) σ'.ob cv' w2) w2 w3 := by
  have hpin : ∀ i, S i → σ.ob i ≠ .free → σ'.ob i ≠ .free ∧ cv' i = cv i := fun i hs hi => h'.pin i (cv i) (by show (if S i ∧ σ.ob i ≠ .free then some (cv i) else none) = _; rw [if_pos ⟨hs, hi⟩])
  have hsz1 : w1.heap.size = w.heap.size := hA.size
  have hsz : w.heap.size ≤ w2.heap.size := by rw [← hsz1]; exact h'.size
  have hsz3 : w3.heap.size = w2.heap.size := hB.size
  have hlive' : ∀ i b, Live σ'.ob cv' i b → (w.heap.size ≤ b ∨ ∃ k, Live σ.ob cv k b) ∧ b < w2.heap.size := fun i b hl => by
    have := h'.live i b hl
    rw [← hsz1]; exact this
  have hnX : ∀ i b, Live σ'.ob cv' i b → ¬ X b := fun i b hl hx => by
    rcases (hlive' i b hl).1 with h1 | ⟨k, h1⟩
    · have := (hX b hx).1; omega
    · exact (hX b hx).2 (h.live_isC h1)
  have hold : ∀ b, b < w.heap.size → (∀ k, ¬ Live σ.ob cv k b) → w3.heap[b]? = w.heap[b]? := fun b hb hn => by
    by_cases hx : X b
    · exact h3 b hx
    · rw [hB.same b hx, h'.old b (by show b < w1.heap.size; omega) (fun ⟨k, hl⟩ => hn k hl)]
      exact hA.same b hx
  have hF' : ∀ b, FS (baseOf C σ w cv n S w1) σ'.ob cv' w2 b → FS C σ'.ob cv' w3 b := fun b hb => by
    have hnl := fun i => h'.fs_live (i := i) hb
    rcases hb with hb | ⟨hb, hlt, _⟩
    · rcases hb.1 with hb1 | hb1
      · exact .inl hb1
      · exact .inr ⟨hb1.1, by have := hb1.2.1; omega, hnl⟩
    · have hb : w1.heap.size ≤ b ∨ ∃ k, Live σ.ob cv k b := hb
      refine .inr ⟨?_, by omega, hnl⟩
      rcases hb with hb | ⟨k, hl⟩
      · have := h.size; exact .inl (by omega)
      · exact (h.live k b hl).1
  have hSam' : Same (FS (baseOf C σ w cv n S w1) σ'.ob cv' w2) w2 w3 := fun b hb => hB.same b fun hx => by
    rcases hb with hb | ⟨hb, _⟩
    · exact (hX b hx).2 hb.2
    · have hb : w1.heap.size ≤ b ∨ ∃ k, Live σ.ob cv k b := hb
      rcases hb with hb | ⟨k, hl⟩
      · have := (hX b hx).1; omega
      · exact (hX b hx).2 (h.live_isC hl)
  have hSam : Same (FS C σ.ob cv w) w w3 := fun b hb => hold b (h.fs_lt hb) (fun k => h.fs_live hb)
  have hnl3 : ∀ b, FS C σ.ob cv w b → ∀ i, ¬ Live σ'.ob cv' i b := fun b hb i hl => by
    rcases (hlive' i b hl).1 with h1 | ⟨k, h1⟩
    · have := h.fs_lt hb; omega
    · exact h.fs_live hb h1
  have hF : ∀ b, FS C σ.ob cv w b → FS C σ'.ob cv' w3 b := fun b hb => by
    have hn := hnl3 b hb
    have hlt := h.fs_lt hb
    rcases hb with hb | hb
    · exact .inl hb
    · exact .inr ⟨hb.1, by omega, hn⟩
  refine ⟨{
    os := hB.os.trans (h'.os.trans (hA.os.trans h.os)), tape := hB.tape.trans (h'.tape.trans (hA.tape.trans h.tape)), output := hB.output.trans (h'.output.trans (hA.output.trans h.output))
    size := by have := h.size; omega
    old := fun k hk hO => by
      rw [← h.old k hk hO]
      refine hold k (Nat.lt_of_lt_of_le hk h.size) (fun i hl => ?_)
      rcases (h.live i k hl).1 with h1 | h1
      · omega
      · exact hO h1
    f0 := h.f0, o0 := h.o0
    live := fun i b hl => by
      obtain ⟨h1, h2⟩ := hlive' i b hl
      refine ⟨?_, by omega⟩
      rcases h1 with h1 | ⟨k, h1⟩
      · have := h.size; exact .inl (by omega)
      · exact (h.live k b h1).1
    inj := h'.inj
    obs := fun i => (h'.obs i).mono hSam' hF' rfl (fun _ _ => rfl) (fun hlv b hb => hB.same b (hnX i b ⟨hlv, hb⟩))
    slots := fun t => (h.slots t).mono hSam hF (fun i hi => (hpin i (hS t i hi) (h.ments t i hi)).2)
    ments := fun t i hi => (hpin i (hS t i hi) (h.ments t i hi)).1
    mento := h'.mento
    defers := h.defers.mono hF hSam
    ntmps := h.ntmps
    pin := fun i v hv => by
      obtain ⟨h1, h2⟩ := h.pin i v hv
      obtain ⟨h4, h5⟩ := hpin i (hp i v hv) h1
      exact ⟨h4, h5.trans h2⟩ }, hF, hF', hpin, hSam, hSam'⟩

/-- How a round is walked. -/
def Md.rnd : Md := ⟨fun _ => True, false, false⟩

def roundSt (σ0 : St) (p q : Nat) (x y : PV) (ob : Nat → Ob) (ck : Nat) : St := ⟨fun t => if t = q then .val y else if t = p then .val x else σ0.sl t, ob, ck⟩

theorem fold2 (tmps : Array Value) (p q : Nat) (vx vy : Value) : ((#[p, q] : Array Nat).zip #[vx, vy]).foldl (fun t (i, v) => t.setIfInBounds i v) tmps = (tmps.setIfInBounds p vx).setIfInBounds q vy := by
  have e : (#[p, q] : Array Nat).zip #[vx, vy] = #[(p, vx), (q, vy)] := by
    apply Array.ext'
    simp [Array.toList_zip]
  rw [e]
  simp

theorem set_getD {tmps : Array Value} {p : Nat} {v : Value} {t : Nat} (hp : p < tmps.size) : (tmps.setIfInBounds p v).getD t undef = if t = p then v else tmps.getD t undef := by
  simp only [Array.getD_eq_getD_getElem?]
  by_cases h : t = p
  · subst h; rw [if_pos rfl]; simp [hp]
  · rw [if_neg h, Array.getElem?_setIfInBounds_ne (fun e => h e.symm)]

/-- A ROUND: yield was called with two arguments. -/
theorem yield_sound {τ : St} {ab : Act} {W : World} (hr : Rel P C τ ab W cv) {l : Nat} {rec : Loop} (hl : W.heap[l]? = some (.loop rec)) (hst : rec.state = .ready) (hpe : rec.pending = none)
    {σ0 : St} {n p q : Nat} (hps : rec.params = #[p, q]) (hn : rec.tmps.size = n) (hpn : p < n) (hqn : q < n) (hsl : ∀ t, SRep W (FS C τ.ob cv W) cv (σ0.sl t) (rec.tmps.getD t undef)) (hm : ∀ t i, (σ0.sl t).ment i → τ.ob i ≠ .free)
    {vx vy : Value} {px py : PV} (hx : Rep W (FS C τ.ob cv W) px vx) (hy : Rep W (FS C τ.ob cv W) py vy) {J1 J2 : St → Prop} (ck0 : Nat)
    (hw1 : V .rnd P n (fun _ => False) [.code rec.assign, .stop J1] (roundSt σ0 p q px py τ.ob ck0)) (hw2 : ∀ τ1, J1 τ1 → V .rnd P n J2 [.code rec.body] τ1) (ckr : Nat) (c : Frame) (cs : List Frame) :
    ∃ τ2 w3 cv3, J2 τ2 ∧ Rel P C ⟨τ.sl, τ2.ob, ckr⟩ ab w3 cv3 ∧
      Steps P (lone (Frame.round l rec.fn ((rec.params.zip #[vx, vy]).foldl (fun t (i, v) => t.setIfInBounds i v) rec.tmps) rec.assign rec.body .normal) (c :: cs) W) (lone (c.finish (.bool true)) cs w3) := by
  rw [hps, fold2]
  obtain ⟨b, hbr, hbk, hb0⟩ : ∃ b : Frame, b.roundOf = some l ∧ b.kind = .normal ∧ ∀ tmps, Frame.round l rec.fn tmps rec.assign rec.body .normal = b.atR { tmps := tmps, defers := [] } [.code rec.assign, .beginRound, .code rec.body] :=
    ⟨{ (default : Frame) with fn := rec.fn, kind := .normal, roundOf := some l }, rfl, rfl, fun tmps => by simp [Frame.round, Frame.atR]⟩
  rw [hb0]
  -- the round's frame
  have hbase : Rel P (baseOf C τ W cv n (fun _ => True) W) (roundSt σ0 p q px py τ.ob ck0) { tmps := (rec.tmps.setIfInBounds p vx).setIfInBounds q vy, defers := [] } W cv := by
    refine hr.base (X := fun _ => False) (fun _ hx => hx.elim) (Agree.refl _ _) _ (σ1 := roundSt σ0 p q px py τ.ob ck0) (a1 := { tmps := (rec.tmps.setIfInBounds p vx).setIfInBounds q vy, defers := [] }) rfl (by show ((rec.tmps.setIfInBounds p vx).setIfInBounds q vy).size = n; simp [hn]) rfl (fun t => ?_) (fun t i hi => ?_)
    · have e1 : ((rec.tmps.setIfInBounds p vx).setIfInBounds q vy).getD t undef = if t = q then vy else if t = p then vx else rec.tmps.getD t undef := by
        rw [set_getD (by simp; omega), set_getD (by omega)]
      show SRep W _ cv (if t = q then .val py else if t = p then .val px else σ0.sl t) (((rec.tmps.setIfInBounds p vx).setIfInBounds q vy).getD t undef)
      rw [e1]
      split
      · exact hy
      · split
        · exact hx
        · exact hsl t
    · have hi : (if t = q then AV.val py else if t = p then .val px else σ0.sl t).ment i := hi
      split at hi
      · exact hi.elim
      · split at hi
        · exact hi.elim
        · exact hm t i hi
  have hncl : ¬ isC W l := not_isC hl rfl
  have hlW : l < W.heap.size := (Array.getElem?_eq_some_iff.1 hl).1
  -- the assignment
  obtain ⟨τ1, a1, w1, cv1, hJ1, hr1, hs1⟩ := V.seg (md := .rnd) trivial (fun h => by cases h) hw1 hbase b (c :: cs) (fun h => by cases h) [.beginRound, .code rec.body]
  have hl1 : w1.heap[l]? = some (.loop rec) := by
    rw [← hl]; exact hr1.old l hlW (fun ⟨k, hk⟩ => hncl (hr.live_isC hk))
  have hncl1 : ¬ isC w1 l := not_isC hl1 rfl
  have hlw1 : l < w1.heap.size := (Array.getElem?_eq_some_iff.1 hl1).1
  -- busy
  have hs2 := stepR_beginRound (P := P) (b := b) (a := a1) (k := [.code rec.body]) (cs := c :: cs) hbr (run_beginRound hl1 hst)
  have hdef1 : a1.defers = [] := hr1.defers.1 rfl
  have hX : ∀ k, (fun k => k = l) k → k < w1.heap.size ∧ ¬ isC w1 k := fun k hk => by cases hk; exact ⟨hlw1, hncl1⟩
  have hbase2 := hr1.base (X := fun k => k = l) (fun k hk => (hX k hk).2) (Agree.putObj w1 l (.loop { rec with state := .busy })) (n := n) (fun _ => True) (σ1 := τ1) rfl (a1 := a1) hr1.ntmps hdef1 hr1.slots hr1.ments
  -- the body
  obtain ⟨τ2, a2, w2, cv2, todo, ⟨hJ2, hlv⟩, hr2, hs3⟩ := V.sound (md := .rnd) (Z := fun σ todo => J2 σ ∧ leaves false todo) trivial (fun h => by cases h) (fun _ _ h1 h2 => ⟨h1, h2⟩) (hw2 τ1 hJ1) _ (.code _ .nil) a1 _ cv1 hbase2 b (c :: cs) (fun h => by cases h)
  obtain rfl : todo = [] := by
    match todo, hlv with
    | [], _ => rfl
    | .code .ret :: _, h => cases h
  have hl2 : w2.heap[l]? = some (.loop { rec with state := .busy }) := by
    rw [hr2.old l (by show l < (w1.putObj l _).heap.size; rw [putObj_size]; exact hlw1) (fun ⟨k, hk⟩ => hncl1 (hr1.live_isC hk))]
    exact World.putObj_heap_same hlw1
  have hs4 := stepR_round_end (P := P) (a := a2) (c := c) (cs := cs) hbr hbk (run_endRound none hl2)
  have hrec : ({ { rec with state := .busy } with state := if (none : Option Code).isNone = true then LoopState.ready else .done, pending := none } : Loop) = rec := by
    cases rec; simp only at hst hpe; subst hst; subst hpe; rfl
  have hl2s : l < w2.heap.size := (Array.getElem?_eq_some_iff.1 hl2).1
  have hback := hr1.back hX (Agree.putObj w1 l (.loop { rec with state := .busy })) hr2 (Agree.putObj w2 l (.loop rec)) (fun k hk => by cases hk; rw [World.putObj_heap_same hl2s, hl1]) (fun _ _ _ => trivial) (fun _ _ _ => trivial) ckr
  have hback2 := hr.back (X := fun _ => False) (fun _ hx => hx.elim) (Agree.refl _ _) hback.1 (Agree.refl _ _) (fun _ hx => hx.elim) (S := fun _ => True) (fun _ _ _ => trivial) (fun _ _ _ => trivial) ckr
  refine ⟨τ2, _, cv2, hJ2, hback2.1, ?_⟩
  refine hs1.trans (.head hs2 (hs3.trans (.one ?_)))
  rw [hs4]
  simp only [hrec]
  rfl

/-- What stands behind a call of yield: the loop's record, and the slots of the function that ranges. -/
def YK (P : Program) (md : Md) (S : Nat → Prop) (σ0 : St) (l : Nat) (rec : Loop) : Prop :=
  ∀ C, md.K C → ∀ τ a W cv, Rel P C τ a W cv → W.heap[l]? = some (.loop rec) ∧ (∀ t, SRep W (FS C τ.ob cv W) cv (σ0.sl t) (rec.tmps.getD t undef)) ∧ (∀ t i, (σ0.sl t).ment i → τ.ob i ≠ .free) ∧ (∀ i v, C.pin i = some v → S i)

/-- A call of yield, as an operation of the iterator's walk. -/
theorem SemOp.yield {md : Md} {nb : Nat} {all : List Oper} {i : Nat} {o : Oper} {τ : St} {J : St → Prop} {fx x y : Operand} {ts : Array TypeId} {l : Nat} {px py : PV} {rec : Loop} {σ0 : St} {n p q : Nat} {S : Nat → Prop}
    (hK : YK P md S σ0 l rec) (hst : rec.state = .ready) (hpe : rec.pending = none) (hps : rec.params = #[p, q]) (hn : rec.tmps.size = n) (hpn : p < n) (hqn : q < n)
    (hg : o.guard = none) (ho : o.op = .call { callee := .value fx, args := #[x, y], argTypes := ts }) (hfx : τ.ev fx = .val (.yld l)) (hx : τ.ev x = .val px) (hy : τ.ev y = .val py) (hd : dOK nb o.dst)
    {J1 J2 : St → Prop} (ck0 : Nat) (hw1 : V .rnd P n (fun _ => False) [.code rec.assign, .stop J1] (roundSt σ0 p q px py τ.ob ck0)) (hw2 : ∀ τ1, J1 τ1 → V .rnd P n J2 [.code rec.body] τ1) (ckr : Nat)
    (hfin : ∀ τ2, J2 τ2 → ∃ ls os ρ ck, Match P ((⟨τ.sl, τ2.ob, ckr⟩ : St).put o.dst (.val (.bool true))) ρ ls os ∧ (∀ i, S i → ρ[i]? = some (some i)) ∧ J (litSt ls os ck)) : SemOp P md nb all i o τ J := by
  intro C a w cv hKC hCn _ hr hoi b cs m rest
  obtain ⟨hl, hsl, hm, hpin⟩ := hK C hKC τ a w cv hr
  have hvf := (hr.ev fx).1
  have hvx := (hr.ev x).1
  have hvy := (hr.ev y).1
  rw [hfx] at hvf
  rw [hx] at hvx
  rw [hy] at hvy
  have hfe : a.eval fx = .func (.yield l) #[] #[] := by
    have hvf : Rep w (FS C τ.ob cv w) (.yld l) (a.eval fx) := hvf
    generalize a.eval fx = u at hvf
    cases hvf; rfl
  obtain ⟨τ2, w3, cv3, hJ2, hrel, hsteps⟩ := yield_sound hr hl hst hpe hps hn hpn hqn hsl hm hvx hvy ck0 hw1 hw2 ckr (b.atR a (.inRegion all.toArray (i :: rest) :: m)) cs
  obtain ⟨ls, os, ρ, ck, hM, hS, hJ⟩ := hfin τ2 hJ2
  have hput := put_rel hrel (d := o.dst) (by rw [hCn]; exact hd) (v := .val (.bool true)) (u := .bool true) (Rep.bool _) (fun i hi => hi.elim)
  obtain ⟨cv4, hren⟩ := hput.rename hM ck (fun i v hv => hS i (hpin i v hv))
  refine ⟨_, _, _, cv4, hJ, hren, ?_⟩
  have ho' : all.toArray[i]? = some o := by simpa using hoi
  have hw : Region.wanted o (yielded all.toArray a.tmps) = true := by unfold Region.wanted; rw [hg]
  have hgo := stepGR_op (P := P) (b := b) (k := m) (cs := cs) (w := w) (rest := rest) ho' hw
  have hrun : (execOp a.eval o).run P w = .ok (.round l rec.fn ((rec.params.zip #[a.eval x, a.eval y]).foldl (fun t (i, v) => t.setIfInBounds i v) rec.tmps) rec.assign rec.body) w := by
    have hy := run_yield (P := P) (args := #[a.eval x, a.eval y]) hl (by rw [hps]; rfl)
    simp only [execOp, ho, resolve, Sem.run_bind, Deferred.ofValue, hfe, Sem.run_pure, Result.andThen_ok, invoke]
    simpa using hy
  have hrun' := semAt_run b.roundOf hrun (fun d => by simp)
  have hfin : (b.atR a (.inRegion all.toArray (i :: rest) :: m)).finish (.bool true) = b.atR (a.put o.dst (.bool true)) (.inRegion all.toArray rest :: m) := by
    rw [Frame.finish_atR, ho']; rfl
  have henter : step P (lone (b.atR a (.inRegion all.toArray (i :: rest) :: m)) cs w) =
      .next (lone (Frame.round l rec.fn ((rec.params.zip #[a.eval x, a.eval y]).foldl (fun t (i, v) => t.setIfInBounds i v) rec.tmps) rec.assign rec.body .normal) (b.atR a (.inRegion all.toArray (i :: rest) :: m) :: cs) w) :=
    step_lone_go (by rw [hgo]; simp [stepG.apply, hrun'])
  rw [hfin] at hsteps
  exact .head henter hsteps

/-- A RANGE OVER A FUNCTION of two loop variables: the iterator is a closure over one value. -/
theorem SemCode.range2 {n : Nat} {σ0 : St} {gop : Operand} {p q : Nat} {assign body : Code} {fB : FuncId} {fnB : Func} {cB : Code} {x0 : PV} {S : Nat → Prop} {JE : (Nat → Ob) → Prop}
    (hg : σ0.ev gop = .val (.fn fB [x0])) (hent : Entered P fB) (hfB : P.funcs[fB]? = some fnB) (hbB : fnB.body = some cB) (hres : fnB.results = #[]) (hN : 2 ≤ fnB.ntmps) (hpn : p < n) (hqn : q < n)
    (hS : ∀ t i, (σ0.sl t).ment i → S i) (hSf : ∀ i, S i → σ0.ob i ≠ .free) (ckB : Nat)
    (hit : ∀ (l : Nat) (rec : Loop) (md : Md), rec.state = .ready → rec.pending = none → rec.params = #[p, q] → rec.tmps.size = n → rec.assign = assign → rec.body = body → md.pl = false → md.rt = true → YK P md S σ0 l rec →
      V md P fnB.ntmps (fun σ' => JE σ'.ob) [.code cB] ⟨fun t => if t = 0 then .val (.yld l) else if t = 1 then .val x0 else .any, σ0.ob, ckB⟩) :
    SemCode P .pln n (.rangeFunc gop #[p, q] assign body) σ0 (fun σ' => σ'.sl = σ0.sl ∧ JE σ'.ob) := by
  intro C a w cv hKC hCn hpin hr b cs m hb
  have hlvl : C.lvl = 2 := hKC
  have hvg := (hr.ev gop).1
  rw [hg] at hvg
  obtain ⟨cvs, hge, hcaps⟩ : ∃ cvs : List Value, a.eval gop = .func (.func fB) #[] ⟨cvs⟩ ∧ Reps w (FS C σ0.ob cv w) [x0] cvs := by
    generalize a.eval gop = u at hvg
    have hvg : Rep w (FS C σ0.ob cv w) (.fn fB [x0]) u := hvg
    cases hvg with
    | fn _ _ vs hl hh => exact ⟨vs, rfl, hl, hh⟩
  obtain ⟨v0, rfl⟩ : ∃ v0, cvs = [v0] := by
    match cvs, hcaps.1 with
    | [v0], _ => exact ⟨v0, rfl⟩
  have hx0 : Rep w (FS C σ0.ob cv w) x0 v0 := hcaps.tail.1
  -- the record and the block
  obtain ⟨rec, hrec⟩ : ∃ rec : Loop, rec = { state := .ready, pending := none, fn := b.fn, tmps := a.tmps, params := #[p, q], assign, body, defers := w.heap.size } := ⟨_, rfl⟩
  obtain ⟨w1, hw1⟩ : ∃ w1, w1 = (w.alloc (.deferred (some []))).alloc (.loop rec) := ⟨_, rfl⟩
  have hsz1 : w1.heap.size = w.heap.size + 2 := by rw [hw1]; simp
  have hold1 : ∀ k, k < w.heap.size → w1.heap[k]? = w.heap[k]? := fun k hk => by
    rw [hw1, heap_alloc_old _ _ k (by simp; omega), heap_alloc_old _ _ k hk]
  have hD1 : w1.heap[w.heap.size]? = some (.deferred (some [])) := by rw [hw1]; exact heap_alloc2_old w _ _
  have hL1 : w1.heap[w.heap.size + 1]? = some (.loop rec) := by
    rw [hw1]; exact heap_alloc2_new w _ _
  obtain ⟨hr1, hF1, hnew1⟩ := hr.more (w' := w1) (by rw [hw1]; rfl) (by rw [hw1]; rfl) (by rw [hw1]; rfl) (by omega) hold1
  have hncl1 : ¬ isC w1 (w.heap.size + 1) := not_isC hL1 rfl
  have hnD1 : ¬ isC w1 w.heap.size := not_isC hD1 rfl
  -- the act with the mark
  obtain ⟨mk, hmk⟩ : ∃ mk : Deferred, mk = { target := .collected w.heap.size, args := #[] } := ⟨_, rfl⟩
  have hdef : DefOK C (FS C σ0.ob cv w1) w1 (mk :: a.defers) := by
    have hd := hr1.defers
    refine ⟨fun e => (by rw [hlvl] at e; cases e), List.nodup_cons.2 ⟨fun hin => ?_, hd.2.1⟩, fun d hdm => ?_⟩
    · obtain ⟨D, h1, h2, h3, _⟩ := hr.defers.2.2 mk hin
      rw [hmk] at h1
      have : D = w.heap.size := by simpa using h1.symm
      subst this
      have := hr.fs_lt h2
      omega
    · rcases List.mem_cons.1 hdm with rfl | hdm
      · exact ⟨w.heap.size, hmk, hnew1 _ (Nat.le_refl _) (by omega), hD1, fun _ => hr.size⟩
      · exact hd.2.2 d hdm
  have hr2 := hr1.withDefers hdef
  -- the iterator's frame
  obtain ⟨CB, hCB⟩ : ∃ CB, CB = baseOf C σ0 w1 cv fnB.ntmps S w1 := ⟨_, rfl⟩
  have hg0 : (((⟨[.func (.yield (w.heap.size + 1)) #[] #[], v0]⟩ : Array Value) ++ Array.replicate (fnB.ntmps - 2) undef).getD 0 undef) = .func (.yield (w.heap.size + 1)) #[] #[] := by
    rw [Array.getD_eq_getD_getElem?, Array.getElem?_append_left (by simp)]; rfl
  have hg1 : (((⟨[.func (.yield (w.heap.size + 1)) #[] #[], v0]⟩ : Array Value) ++ Array.replicate (fnB.ntmps - 2) undef).getD 1 undef) = v0 := by
    rw [Array.getD_eq_getD_getElem?, Array.getElem?_append_left (by simp)]; rfl
  have hbase : Rel P CB ⟨fun t => if t = 0 then .val (.yld (w.heap.size + 1)) else if t = 1 then .val x0 else .any, σ0.ob, ckB⟩
      { tmps := (⟨[.func (.yield (w.heap.size + 1)) #[] #[], v0]⟩ : Array Value) ++ Array.replicate (fnB.ntmps - 2) undef, defers := [] } w1 cv := by
    rw [hCB]
    refine hr2.base (X := fun _ => False) (fun _ hx => hx.elim) (Agree.refl _ _) _ (σ1 := ⟨fun t => if t = 0 then .val (.yld (w.heap.size + 1)) else if t = 1 then .val x0 else .any, σ0.ob, ckB⟩)
      (a1 := { tmps := (⟨[.func (.yield (w.heap.size + 1)) #[] #[], v0]⟩ : Array Value) ++ Array.replicate (fnB.ntmps - 2) undef, defers := [] }) rfl (by simp; omega) rfl (fun t => ?_) (fun t i hi => ?_)
    · show SRep w1 _ cv (if t = 0 then .val (.yld (w.heap.size + 1)) else if t = 1 then .val x0 else .any) _
      split
      · rename_i e; subst e; rw [hg0]; exact Rep.yld _
      · split
        · rename_i e; subst e; rw [hg1]
          exact Rep.mono hx0 (fun b hb => hold1 b (hr.fs_lt hb)) hF1
        · trivial
    · have hi : (if t = 0 then AV.val (.yld (w.heap.size + 1)) else if t = 1 then .val x0 else .any).ment i := hi
      split at hi
      · exact hi.elim
      · split at hi <;> exact hi.elim
  have hYK : YK P ⟨fun C => C = CB, false, true⟩ S σ0 (w.heap.size + 1) rec := by
    intro C' hC' τ a' W cv' hτ
    have hC' : C' = CB := hC'
    subst hC'
    have hC'' := hCB
    have hFb : ∀ bb, (FS C σ0.ob cv w1 bb ∧ isC w1 bb) → FS C' τ.ob cv' W bb := fun bb hbb => by rw [hC''] ; exact .inl hbb
    have hw0 : C'.w0 = w1 := by rw [hC'']; rfl
    have hO0 : ∀ bb, C'.O0 bb ↔ ∃ k, Live σ0.ob cv k bb := fun bb => by rw [hC'']; rfl
    have hSm : Same (fun bb => FS C σ0.ob cv w1 bb ∧ isC w1 bb) w1 W := fun bb hbb => by
      have := hτ.old bb (by rw [hw0]; exact hr1.fs_lt hbb.1) (fun hO => by obtain ⟨k, hk⟩ := (hO0 bb).1 hO; exact hr1.fs_live hbb.1 hk)
      rw [this, hw0]
    have hpinS : ∀ i, S i → τ.ob i ≠ .free ∧ cv' i = cv i := fun i hi => hτ.pin i (cv i) (by rw [hC'']; show (if S i ∧ σ0.ob i ≠ .free then some (cv i) else none) = _; rw [if_pos ⟨hi, hSf i hi⟩])
    refine ⟨?_, fun t => ?_, fun t i hi => (hpinS i (hS t i hi)).1, fun i v hv => ?_⟩
    · have := hτ.old (w.heap.size + 1) (by rw [hw0]; omega) (fun hO => by obtain ⟨k, hk⟩ := (hO0 _).1 hO; exact hncl1 (hr1.live_isC hk))
      rw [this, hw0]; exact hL1
    · have := (hr1.slots t).cellsOnly.mono (cv' := cv') hSm hFb (fun i hi => (hpinS i (hS t i hi)).2)
      rw [hrec]; exact this
    · have hv : (baseOf C σ0 w1 cv fnB.ntmps S w1).pin i = some v := by rw [← hC'']; exact hv
      have hv : (if S i ∧ σ0.ob i ≠ .free then some (cv i) else none) = some v := hv
      split at hv
      · rename_i hh; exact hh.1
      · cases hv
  have hwalk := hit (w.heap.size + 1) rec ⟨fun C => C = CB, false, true⟩ (by rw [hrec]) (by rw [hrec]) (by rw [hrec]) (by rw [hrec]; exact hr.ntmps.trans hCn) (by rw [hrec]) (by rw [hrec]) rfl rfl hYK
  have hCBn : CB.n = fnB.ntmps := by rw [hCB]; rfl
  rw [← hCBn] at hwalk
  obtain ⟨bB, hbB1, hbB2, hbB3, henter⟩ : ∃ bB : Frame, bB.roundOf = none ∧ bB.kind = .normal ∧ bB.fn = fB ∧ Frame.enter P fB ⟨[.func (.yield (w.heap.size + 1)) #[] #[], v0]⟩ .normal =
      bB.atR { tmps := (⟨[.func (.yield (w.heap.size + 1)) #[] #[], v0]⟩ : Array Value) ++ Array.replicate (fnB.ntmps - 2) undef, defers := [] } [.code cB] :=
    ⟨{ (default : Frame) with fn := fB, kind := .normal, roundOf := none }, rfl, rfl, rfl, by simp [Frame.enter, Frame.atR, hfB, hbB]⟩
  obtain ⟨c0, hc0⟩ : ∃ c0 : Frame, c0 = b.atR { a with defers := [mk] ++ a.defers } (.inRangeFunc (w.heap.size + 1) :: m) := ⟨_, rfl⟩
  obtain ⟨σ', a', w2, cv2, todo, ⟨hJE, hlv⟩, hr3, hs3⟩ := V.sound (md := ⟨fun C => C = CB, false, true⟩) (Z := fun σ todo => JE σ.ob ∧ leaves true todo) rfl (fun h => by cases h) (fun _ _ h1 h2 => ⟨h1, h2⟩) hwalk _ (.code _ .nil) _ w1 cv hbase bB (c0 :: cs) (fun _ => hbB1)
  have hs4 := leave_steps (P := P) hbB1 (a := a') hlv (c0 :: cs) w2
  have hdefB : a'.defers = [] := hr3.defers.1 (by rw [hCB]; rfl)
  have hleave : ({ bB.atR a' todo with mode := .returning } : Frame).leaving P w2 (.returned (tupV [])) := by
    refine ⟨rfl, hdefB, hbB2, fnB, by show P.funcs[bB.fn]? = _; rw [hbB3]; exact hfB, ?_⟩
    exact results_readR fnB _ (us := []) (by rw [hres]; simp)
  have hs5 := step_leave_returned (c := c0) (cs := cs) hleave
  have hfin5 : c0.finish (tupV []) = b.atR { a with defers := [mk] ++ a.defers } (.endRangeFunc (w.heap.size + 1) :: m) := by rw [hc0]; exact finish_atR_inRangeFunc _ _
  rw [hfin5] at hs5
  rw [hCB] at hr3
  have hL2 : w2.heap[w.heap.size + 1]? = some (.loop rec) := by
    have := hr3.old (w.heap.size + 1) (by show _ < w1.heap.size; omega) (fun ⟨k, hk⟩ => hncl1 (hr1.live_isC hk))
    rw [this]; exact hL1
  have hback := hr2.back (X := fun _ => False) (fun _ hx => hx.elim) (Agree.refl _ _) hr3 (Agree.refl _ _) (fun _ hx => hx.elim) hS (fun i v hv => by rw [hpin i] at hv; cases hv) ckB
  have hturn := hback.1.turn (l := w.heap.size + 1) (o' := .loop { rec with state := .exhausted }) (by have := hr.size; omega) (not_isC hL2 rfl) (fun d hd => by
    rcases List.mem_cons.1 hd with rfl | hd
    · rw [hmk]; simp
    · obtain ⟨D, h1, h2, _⟩ := hr.defers.2.2 d hd
      rw [h1]
      have := hr.fs_lt h2
      intro e
      have e : D = w.heap.size + 1 := by simpa using e
      omega)
  have hend := run_endLoop (P := P) hL2 (by rw [hrec]; simp)
  have hs6 := stepR_endRangeFunc (P := P) (b := b) (a := { a with defers := [mk] ++ a.defers }) (k := m) (cs := cs) hend
  refine ⟨⟨σ0.sl, σ'.ob, ckB⟩, { a with defers := mk :: a.defers }, _, cv2, ⟨rfl, hJE⟩, hturn, ?_⟩
  have hs0 := stepR_rangeFunc (P := P) (b := b) (a := a) (k := m) (cs := cs) (w := w) (g := gop) (ps := #[p, q]) (assign := assign) (body := body) (l := w.heap.size + 1) (mark := [mk]) (w₁ := w1) (w₁' := w1) (w₂ := w1)
    (d := { target := .fn (.func fB) #[v0], args := #[.func (.yield (w.heap.size + 1)) #[] #[]] }) (f := fB) (args := ⟨[.func (.yield (w.heap.size + 1)) #[] #[], v0]⟩)
    (by rw [hb, run_enterLoop_outer, hw1, hrec, hmk]) (by simp only [resolve, Sem.run_bind, Deferred.ofValue, hge, Sem.run_pure, Result.andThen_ok]; simp [Act.eval]) (by
      obtain ⟨fn, hf, hn, hbn⟩ := hent
      simp only [invoke, callFunc, Sem.run_bind, run_program, hf, hn, hbn, Bool.false_eq_true, if_false, Result.andThen_ok]
      rfl)
  rw [henter] at hs0
  rw [← hc0] at hs0
  refine .head hs0 (hs3.trans (hs4.trans (.head hs5 (.one ?_))))
  rw [hs6]
  have hpend : rec.pending = none := by rw [hrec]
  rw [hpend]
  rfl

theorem lit_sl_cons (x : Nat × AV) (ls : List (Nat × AV)) (os : List Ob) (ck t : Nat) : (litSt (x :: ls) os ck).sl t = if t = x.1 then x.2 else (litSt ls os ck).sl t := by
  show (match (x :: ls).find? (fun y => y.1 == t) with | some y => y.2 | none => AV.any) = _
  rw [List.find?_cons]
  by_cases h : t = x.1
  · subst h; simp
  · have : (x.1 == t) = false := by simpa using fun e => h e.symm
    rw [this, if_neg h]; rfl
theorem lit_ment {ls : List (Nat × AV)} {os : List Ob} {ck t i : Nat} (h : ((litSt ls os ck).sl t).ment i) : ∃ x ∈ ls, x.2.ment i := by
  induction ls with
  | nil => exact h.elim
  | cons x ls ih =>
    rw [lit_sl_cons] at h
    split at h
    · exact ⟨x, List.mem_cons_self .., h⟩
    · obtain ⟨y, hy, hm⟩ := ih h
      exact ⟨y, List.mem_cons_of_mem _ hy, hm⟩
theorem roundSt_lit (ls : List (Nat × AV)) (os0 : List Ob) (c p q : Nat) (x y : PV) (ob : Nat → Ob) (os : List Ob) (hob : ob = (litSt [] os 0).ob) (ck : Nat) : roundSt (litSt ls os0 c) p q x y ob ck = litSt ((q, .val y) :: (p, .val x) :: ls) os ck := by
  refine St.eq_of (fun t => ?_) (fun k => by rw [show (roundSt (litSt ls os0 c) p q x y ob ck).ob = ob from rfl, hob]; rfl) rfl
  rw [lit_sl_cons, lit_sl_cons]
  rfl

/-- A range over a function, from a state that is written out. -/
theorem SemCode.rangeL {n : Nat} {ls : List (Nat × AV)} {os : List Ob} {ck : Nat} {gop : Operand} {p q : Nat} {assign body : Code} {fB : FuncId} {fnB : Func} {cB : Code} {x0 : PV} (S : Nat → Prop) (JE : (Nat → Ob) → Prop)
    (hg : (litSt ls os ck).ev gop = .val (.fn fB [x0])) (hent : Entered P fB) (hfB : P.funcs[fB]? = some fnB) (hbB : fnB.body = some cB) (hres : fnB.results = #[]) (hN : 2 ≤ fnB.ntmps) (hpn : p < n) (hqn : q < n)
    (hS : ∀ x ∈ ls, ∀ i, x.2.ment i → S i) (hSf : ∀ i, S i → (litSt ls os ck).ob i ≠ .free) (ckB : Nat)
    (hit : ∀ (l : Nat) (rec : Loop) (md : Md), rec.state = .ready → rec.pending = none → rec.params = #[p, q] → rec.tmps.size = n → rec.assign = assign → rec.body = body → md.pl = false → md.rt = true → YK P md S (litSt ls os ck) l rec →
      V md P fnB.ntmps (fun σ' => JE σ'.ob) [.code cB] (litSt [(0, .val (.yld l)), (1, .val x0)] os ckB)) :
    SemCode P .pln n (.rangeFunc gop #[p, q] assign body) (litSt ls os ck) (fun σ' => σ'.sl = (litSt ls os ck).sl ∧ JE σ'.ob) := by
  refine SemCode.range2 (S := S) hg hent hfB hbB hres hN hpn hqn (fun t i hi => by obtain ⟨x, hx, hm⟩ := lit_ment hi; exact hS x hx i hm) hSf ckB fun l rec md h1 h2 h3 h4 h5 h6 h7 h8 h9 => ?_
  have := hit l rec md h1 h2 h3 h4 h5 h6 h7 h8 h9
  have e : (⟨fun t => if t = 0 then .val (.yld l) else if t = 1 then .val x0 else .any, (litSt ls os ck).ob, ckB⟩ : St) = litSt [(0, .val (.yld l)), (1, .val x0)] os ckB :=
    St.eq_of (fun t => by rw [lit_sl_cons, lit_sl_cons]; rfl) (fun k => rfl) rfl
  rw [e]; exact this

end
end Go.Proofs.YtjbfcmaiejlnbaaVm
set_option linter.unusedVariables false
set_option linter.unusedSimpArgs false
namespace Go.Proofs.YtjbfcmaiejlnbaaVm
open Go Classical

section
variable {P : Program} {C : Ctx} {σ : St} {a : Act} {w : World} {cv : Nat → Value}

theorem Rel.storeBox (h : Rel P C σ a w cv) {i b : Nat} {ag : Bool} {cs : List AV} (he : σ.ob i = .box ag cs) (hb : cv i = .pointer (some ⟨b, 0, none⟩)) {ds : List AV} {vs : List Value}
    (htwo : Two (fun c v => SRep w (FS C σ.ob cv w) cv c v ∧ v.oneCell' = true) ds vs) (hcell : ∀ d ∈ ds, d.cell = true) (hle : ds.length ≤ cs.length) (hmd : ∀ d ∈ ds, ∀ j, d.ment j → σ.ob j ≠ .free) :
    ∃ w', (storeCells ⟨b, 0, none⟩ vs).run P w = .ok () w' ∧ Rel P C (σ.setOb i (.box ag (cs.take 0 ++ ds ++ cs.drop (0 + ds.length)))) a w' cv := by
  have ho := h.obs i
  rw [he] at ho
  obtain ⟨b', ty, arr, h1, h2, h3, h4, h5⟩ := ho
  rw [hb] at h1
  cases h1
  have hmo := h.mento i
  rw [he] at hmo
  refine ⟨_, storeCells_at h2 vs (by rw [htwo.1, h3]; omega) (fun u hu => ?_), ?_⟩
  · obtain ⟨j, hj⟩ := List.mem_iff_getElem?.1 hu
    have hjl : j < ds.length := by rw [← htwo.1]; exact (List.getElem?_eq_some_iff.1 hj).1
    exact (htwo.2 j _ u (List.getElem?_eq_getElem hjl) hj).2
  · refine h.mod i (by rw [he]; rfl) _ (by simp) (grown_setRow w b _) (fun b' hb' => by cases hb'; rw [hb]; rfl) (fun F' hF _ hS => ?_) (fun j hj => ?_)
    · have hall : Two (fun c v => SRep w (FS C σ.ob cv w) cv c v ∧ v.oneCell' = true) (cs.take 0 ++ ds ++ cs.drop (0 + ds.length)) (arr.take 0 ++ vs ++ arr.drop (0 + vs.length)) := by
        have hcs : Two (fun c v => SRep w (FS C σ.ob cv w) cv c v ∧ v.oneCell' = true) cs arr := ⟨h3, h5⟩
        rw [htwo.1]
        exact ((hcs.take 0).append htwo).append (hcs.drop _)
      refine ⟨b, ty, _, hb, setRow_heap w b ⟨arr⟩ _ ty _ h2, hall.1, fun c hc => ?_, fun j c v hc hv => ⟨((hall.2 j c v hc hv).1).mono hS hF (fun _ _ => rfl), (hall.2 j c v hc hv).2⟩⟩
      rcases List.mem_append.1 hc with hc | hc
      · rcases List.mem_append.1 hc with hc | hc
        · exact h4 c (List.mem_of_mem_take hc)
        · exact hcell c hc
      · exact h4 c (List.mem_of_mem_drop hc)
    · obtain ⟨c, hc, hcj⟩ := hj
      rcases List.mem_append.1 hc with hc | hc
      · rcases List.mem_append.1 hc with hc | hc
        · exact hmo j ⟨c, List.mem_of_mem_take hc, hcj⟩
        · exact hmd c hc j hcj
      · exact hmo j ⟨c, List.mem_of_mem_drop hc, hcj⟩
end

/-- The region of `x := T{}`. -/
theorem SemCode.zbox {P : Program} {md : Md} {n id t d1 d2 ty1 ty2 ty3 : Nat} {p1 p2 p3 : String} {f1 f2 f3 : Array Edge} {σ : St} {inf : TypeInfo} {z : Value} {zs : List AV}
    (hd1 : d1 < n) (hd2 : d2 < n) (hne : d2 ≠ d1) (hi : P.info? t = some inf) (hz : inf.zero = some z) (hzs : z.cells.toList.map cAV = zs) (hc : zs.all AV.cell = true)
    (hbt : P.built t [] = some z.cells) (hsz : inf.size = zs.length) (hfr : σ.isFree (σ.ck + 1) = true) :
    SemCode P md n (.region id #[{ dst := some d1, op := .build t #[], type := ty1, pos := p1, after := f1, guard := none }, { dst := some d2, op := .alloc t, type := ty2, pos := p2, after := f2, guard := none },
        { dst := none, op := .store t (.tmp d2) (.tmp d1), type := ty3, pos := p3, after := f3, guard := none }] false) σ
      (fun σ' => σ' = ((((σ.set d1 .any).setOb (σ.ck + 1) (.box true zs)).set d2 (.adr (σ.ck + 1) 0)).setOb (σ.ck + 1) (.box true zs)).setCk (σ.ck + 3)) := by
  intro C a w cv hKC hCn hpin hr b cs m hb
  subst hzs
  have hfree := isFree_free hfr
  -- the zero value
  have s1 := put_rel hr (d := some d1) (by rw [hCn]; exact hd1) (v := .any) (u := .agg z.cells) trivial (fun i hi => hi.elim)
  have r1 : (execOp a.eval { dst := some d1, op := .build t #[], type := ty1, pos := p1, after := f1, guard := none }).run P w = .ok (.value (.agg z.cells)) w := by
    have e : execOp a.eval { dst := some d1, op := .build t #[], type := ty1, pos := p1, after := f1, guard := none } = (do pure (.value (← Instr.build t #[])) : Sem Next) := by unfold execOp; simp
    rw [e]
    have := run_build (P := P) w t #[] z.cells (by simpa using hbt)
    simp [this]
  -- the variable
  have hcell : ∀ v ∈ z.cells.toList, (cAV v).cell = true := fun v hv => List.all_eq_true.1 hc _ (List.mem_map_of_mem hv)
  have htwo : ∀ (σ' : St) (w' : World) (cv' : Nat → Value), Two (fun c v => SRep w' (FS C σ'.ob cv' w') cv' c v ∧ v.oneCell' = true) (z.cells.toList.map cAV) z.cells.toList := fun σ' w' cv' =>
    ⟨by simp, fun j c v hj hv => by
      simp only [List.getElem?_map, hv, Option.map_some, Option.some.injEq] at hj
      subst hj
      exact ⟨cAV_rep _ _ _ v, cAV_oneCell (hcell v (List.mem_of_getElem? hv))⟩⟩
  have hcl : ∀ c ∈ z.cells.toList.map cAV, c.cell = true := fun c hcm => List.all_eq_true.1 hc c hcm
  have hmt : ∀ (σ' : St), ∀ c ∈ z.cells.toList.map cAV, ∀ j, c.ment j → σ'.ob j ≠ .free := fun σ' c hcm j hj => by
    obtain ⟨v, _, rfl⟩ := List.mem_map.1 hcm
    exact absurd hj (cAV_ment v j)
  obtain ⟨cv1, g1, g2⟩ := s1.newPtr (i := σ.ck + 1) (ag := true) (cs := z.cells.toList.map cAV) (vs := z.cells.toList) (ty := t) hfree (htwo _ _ _) hcl (hmt _)
  have s2 := put_rel g1 (d := some d2) (by rw [hCn]; exact hd2) g2 (fun j hj => by
    have e : σ.ck + 1 = j := hj
    subst e
    simp [St.setOb])
  have r2 : (execOp (a.put (some d1) (.agg z.cells)).eval { dst := some d2, op := .alloc t, type := ty2, pos := p2, after := f2, guard := none }).run P w = .ok (.value (.pointer (some ⟨w.heap.size, 0, none⟩))) (w.alloc (.cells ⟨z.cells.toList⟩ t)) := by
    have e : execOp (a.put (some d1) (.agg z.cells)).eval { dst := some d2, op := .alloc t, type := ty2, pos := p2, after := f2, guard := none } = (do pure (.value (← Instr.alloc t true (.tuple #[]))) : Sem Next) := rfl
    rw [e]
    simp [Instr.alloc, zeroValue, typeInfo, hi, hz, newVar, Go.newRow]
  -- what is stored
  obtain ⟨bk, hbk, hpk⟩ := g2
  obtain rfl : bk = w.heap.size := by simpa using hpk.symm
  obtain ⟨w3, q3, s3⟩ := s2.storeBox (i := σ.ck + 1) (ag := true) (cs := z.cells.toList.map cAV) (by simp [St.put, St.set, St.setOb]) hbk (ds := z.cells.toList.map cAV) (vs := z.cells.toList) (htwo _ _ _) hcl (Nat.le_refl _) (hmt _)
  simp only [List.take_zero, List.nil_append, Nat.zero_add, List.drop_length, List.append_nil] at s3
  have hsz0 : a.tmps.size = n := by rw [← hCn]; exact hr.ntmps
  have e2 : ((a.put (some d1) (.agg z.cells)).put (some d2) (.pointer (some ⟨w.heap.size, 0, none⟩))).eval (.tmp d2) = .pointer (some ⟨w.heap.size, 0, none⟩) := by
    simp only [Act.eval, Act.put, Array.getD_eq_getD_getElem?]
    rw [Array.getElem?_setIfInBounds_self_of_lt (by rw [Array.size_setIfInBounds, hsz0]; exact hd2)]
    rfl
  have e1 : ((a.put (some d1) (.agg z.cells)).put (some d2) (.pointer (some ⟨w.heap.size, 0, none⟩))).eval (.tmp d1) = .agg z.cells := by
    simp only [Act.eval, Act.put, Array.getD_eq_getD_getElem?]
    rw [Array.getElem?_setIfInBounds_ne hne, Array.getElem?_setIfInBounds_self_of_lt (by rw [hsz0]; exact hd1)]
    rfl
  have hn : szOf P t = some inf.size := by simp [szOf, hi]
  have r3 : (execOp ((a.put (some d1) (.agg z.cells)).put (some d2) (.pointer (some ⟨w.heap.size, 0, none⟩))).eval { dst := none, op := .store t (.tmp d2) (.tmp d1), type := ty3, pos := p3, after := f3, guard := none }).run P (w.alloc (.cells ⟨z.cells.toList⟩ t)) = .ok .skip w3 := by
    have hst : (Instr.storeAt t (.pointer (some ⟨w.heap.size, 0, none⟩)) (.agg z.cells)).run P (w.alloc (.cells ⟨z.cells.toList⟩ t)) = .ok () w3 := by
      have hvl : z.cells.size = inf.size := by rw [hsz]; simp
      have hcells : (Value.agg z.cells).cells = z.cells := rfl
      simp [Instr.storeAt, Instr.sureAddr, storeVar, run_sizeOf hn, hcells, hvl, q3]
    simp only [execOp, e1, e2]
    simp [hst]
  have w0 : ∀ (o : Oper) (x : Nat → Option Bool), o.guard = none → Region.wanted o x = true := fun o x hg => by unfold Region.wanted; rw [hg]
  refine ⟨_, _, _, cv1, rfl, ck_rel s3 _, ?_⟩
  refine .trans (.one stepR_region) ?_
  have t1 := oper_steps (P := P) (all := [{ dst := some d1, op := .build t #[], type := ty1, pos := p1, after := f1, guard := none }, { dst := some d2, op := .alloc t, type := ty2, pos := p2, after := f2, guard := none }, { dst := none, op := .store t (.tmp d2) (.tmp d1), type := ty3, pos := p3, after := f3, guard := none }]) (i := 0) (rest := [1, 2]) (m := m) rfl (w0 _ _ rfl) (.inl r1) b cs
  have t2 := oper_steps (P := P) (all := [{ dst := some d1, op := .build t #[], type := ty1, pos := p1, after := f1, guard := none }, { dst := some d2, op := .alloc t, type := ty2, pos := p2, after := f2, guard := none }, { dst := none, op := .store t (.tmp d2) (.tmp d1), type := ty3, pos := p3, after := f3, guard := none }]) (i := 1) (rest := [2]) (m := m) rfl (w0 _ _ rfl) (.inl r2) b cs
  have t3 := oper_steps (P := P) (all := [{ dst := some d1, op := .build t #[], type := ty1, pos := p1, after := f1, guard := none }, { dst := some d2, op := .alloc t, type := ty2, pos := p2, after := f2, guard := none }, { dst := none, op := .store t (.tmp d2) (.tmp d1), type := ty3, pos := p3, after := f3, guard := none }]) (i := 2) (rest := []) (m := m) rfl (w0 _ _ rfl) (.inr ⟨r3, rfl⟩) b cs
  exact t1.trans (t2.trans (t3.trans (.one stepR_region_end)))
end Go.Proofs.YtjbfcmaiejlnbaaVm
set_option linter.unusedVariables false
set_option linter.unusedSimpArgs false
namespace Go.Proofs.YtjbfcmaiejlnbaaVm
open Go Classical

section
variable {P : Program} {σ : St}
def nilG (σ : St) : AV → Option (St × AV)
  | .val (.ptr p) => some (σ, .val (.ptr p))
  | .adr i o => some (σ, .adr i o)
  | .ead i s k o => some (σ, .ead i s k o)
  | .val (.fn f cs) => some (σ, .val (.fn f cs))
  | _ => none
theorem step_nilCheck {i x} : stepOp P σ i (.nilCheck x) = nilG σ (σ.ev x) := by
  simp only [stepOp, nilG]
  split <;> simp_all
theorem nilG_ptr {p} : nilG σ (.val (.ptr p)) = some (σ, .val (.ptr p)) := rfl
theorem nilG_adr {i o} : nilG σ (.adr i o) = some (σ, .adr i o) := rfl
theorem nilG_ead {i s k o} : nilG σ (.ead i s k o) = some (σ, .ead i s k o) := rfl
attribute [go_sem] step_nilCheck nilG_ptr nilG_adr nilG_ead
end

section
variable {P : Program} {C : Ctx} {σ : St} {a : Act} {w : World} {cv : Nat → Value}

/-- A call that gets own objects, and hands nothing back: its body is walked on the caller's objects. -/
theorem SemOp.inl {md : Md} {n : Nat} {all : List Oper} {i : Nat} {o : Oper} {f : FuncId} {fn : Func} {c : Code} {xs : Array Operand} {ts : Array TypeId} {S : Nat → Prop} {JE : (Nat → Ob) → Prop}
    (hpl : md.pl = true) (hg : o.guard = none) (ho : o.op = .call { callee := .value (.func f), args := xs, argTypes := ts })
    (hf : P.funcs[f]? = some fn) (hn : (fn.name == "runtime.NumGoroutine") = false) (hb : fn.body = some c) (hres : fn.results = #[]) (hN : xs.size ≤ fn.ntmps) (hd : dOK n o.dst)
    (hS : ∀ t i, (σ.sl t).ment i → S i) (ckB ckr : Nat)
    (hw : V ⟨fun C => C.lvl = 0, false, true⟩ P fn.ntmps (fun σ' => JE σ'.ob) [.code c] ⟨fun t => ((σ.evs xs.toList)[t]?).getD .any, σ.ob, ckB⟩) :
    SemOp P md n all i o σ (fun σ' => ∃ ob, JE ob ∧ σ' = (⟨σ.sl, ob, ckr⟩ : St).put o.dst (.tup [])) := by
  intro C a w cv hK hCn hpin hr hoi b cs m rest
  have hpin := hpin hpl
  have hvl : (xs.toList.map a.eval).length = xs.size := by simp
  have hbase : Rel P (baseOf C σ w cv fn.ntmps S w) ⟨fun t => ((σ.evs xs.toList)[t]?).getD .any, σ.ob, ckB⟩ { tmps := (⟨xs.toList.map a.eval⟩ : Array Value) ++ Array.replicate (fn.ntmps - (xs.toList.map a.eval).length) undef, defers := [] } w cv := by
    refine hr.base (X := fun _ => False) (fun _ hx => hx.elim) (Agree.refl _ _) S (σ1 := ⟨fun t => ((σ.evs xs.toList)[t]?).getD .any, σ.ob, ckB⟩)
      (a1 := { tmps := (⟨xs.toList.map a.eval⟩ : Array Value) ++ Array.replicate (fn.ntmps - (xs.toList.map a.eval).length) undef, defers := [] }) rfl (by simp; omega) rfl (fun t => ?_) (fun t i hi => ?_)
    · show SRep w _ cv (((σ.evs xs.toList)[t]?).getD .any) _
      cases hx : xs.toList[t]? with
      | none =>
        have : (σ.evs xs.toList)[t]? = none := by simp only [St.evs, List.getElem?_map, hx, Option.map_none]
        rw [this]; trivial
      | some x =>
        have h1 : (σ.evs xs.toList)[t]? = some (σ.ev x) := by simp only [St.evs, List.getElem?_map, hx, Option.map_some]
        have hlt : t < (⟨xs.toList.map a.eval⟩ : Array Value).size := by
          show t < (xs.toList.map a.eval).length
          rw [List.length_map]; exact (List.getElem?_eq_some_iff.1 hx).1
        have h2 : ((⟨xs.toList.map a.eval⟩ : Array Value) ++ Array.replicate (fn.ntmps - (xs.toList.map a.eval).length) undef).getD t undef = a.eval x := by
          rw [Array.getD_eq_getD_getElem?, Array.getElem?_append_left hlt]
          have : (⟨xs.toList.map a.eval⟩ : Array Value)[t]? = some (a.eval x) := by simp [hx]
          rw [this]; rfl
        rw [h1, h2]
        exact (hr.ev x).1
    · have hi : (((σ.evs xs.toList)[t]?).getD .any).ment i := hi
      cases hx : xs.toList[t]? with
      | none =>
        have : (σ.evs xs.toList)[t]? = none := by simp only [St.evs, List.getElem?_map, hx, Option.map_none]
        rw [this] at hi; exact hi.elim
      | some x =>
        have h1 : (σ.evs xs.toList)[t]? = some (σ.ev x) := by simp only [St.evs, List.getElem?_map, hx, Option.map_some]
        rw [h1] at hi
        exact (hr.ev x).2 i hi
  have hcalls : Calls P f ⟨xs.toList.map a.eval⟩ w fun e w' => ∃ u, e = .returned u ∧ (u = tupV [] ∧ ∃ ob cv', JE ob ∧ Rel P C ⟨σ.sl, ob, ckr⟩ a w' cv') := by
    intro cs'
    let bB : Frame := { (default : Frame) with fn := f, kind := .normal, roundOf := none }
    have henter : Frame.enter P f ⟨xs.toList.map a.eval⟩ .normal = bB.atR { tmps := (⟨xs.toList.map a.eval⟩ : Array Value) ++ Array.replicate (fn.ntmps - (xs.toList.map a.eval).length) undef, defers := [] } [.code c] := by
      simp [Frame.enter, Frame.atR, hf, hb, bB]
    obtain ⟨σ', a1, w1, cv', todo', ⟨hJ, hlv⟩, hr3, hs1⟩ := V.sound (md := ⟨fun C => C.lvl = 0, false, true⟩) (Z := fun σ' todo => JE σ'.ob ∧ leaves true todo) rfl (fun h => by cases h) (fun _ _ h1 h2 => ⟨h1, h2⟩) hw [.code c] (.code c .nil) _ w cv hbase bB cs' (fun _ => rfl)
    have hs2 := hs1.trans (leave_steps (b := bB) rfl hlv cs' w1)
    have hdef : a1.defers = [] := hr3.defers.1 rfl
    have hback := hr.back (X := fun _ => False) (fun _ hx => hx.elim) (Agree.refl _ _) hr3 (Agree.refl _ _) (fun _ hx => hx.elim) hS (fun i v hv => by rw [hpin i] at hv; cases hv) ckr
    rw [← henter] at hs2
    have hresr : (results fn a1.tmps).run P w1 = .ok (tupV []) w1 := results_readR fn a1.tmps (us := []) (by rw [hres]; simp)
    exact ⟨.returned (tupV []), w1, { bB.atR a1 todo' with mode := .returning }, ⟨_, rfl, rfl, _, cv', hJ, hback.1⟩, hs2, rfl, rfl, hdef, rfl, fn, hf, hresr⟩
  have hwant : Region.wanted o (yielded all.toArray a.tmps) = true := by unfold Region.wanted; rw [hg]
  have hrun : (execOp a.eval o).run P w = .ok (.enter f ⟨xs.toList.map a.eval⟩) w := by
    have hmap : xs.map a.eval = ⟨xs.toList.map a.eval⟩ := by apply Array.ext'; simp
    simp only [execOp, ho, resolve, Sem.run_bind, Deferred.ofValue, Act.eval, Sem.run_pure, Result.andThen_ok, invoke, callFunc, run_program, hf, hn, hb, Bool.false_eq_true, if_false, hmap, Option.isNone_some]
    try simp [hn, hb]
  obtain ⟨u, w', ⟨rfl, ob, cv', hJ, hr4⟩, hs⟩ := call_steps (P := P) (a := a) (w := w) (rest := rest) (m := m) hoi hwant hrun hcalls b cs
  refine ⟨_, _, w', cv', ⟨ob, hJ, rfl⟩, put_rel hr4 (d := o.dst) (by rw [hCn]; exact hd) (v := .tup []) (u := tupV []) ⟨[], rfl, Reps.nil _ _⟩ (fun i hi => hi.elim), hs⟩
end
end Go.Proofs.YtjbfcmaiejlnbaaVm
set_option linter.unusedVariables false
set_option linter.unusedSimpArgs false
namespace Go.Proofs.YtjbfcmaiejlnbaaVm
open Go Classical

section
variable {P : Program} {C : Ctx} {σ : St} {a : Act} {w : World} {cv : Nat → Value}

theorem DV.execS {md : Md} {n : Nat} {R : St → Prop} {all : List Oper} {b i : Nat} {rest : List Oper} {aM aW : List (List Nat)} {ck : Nat} {k : List It} (sp : List Nat) (m : Nat) (h : YtjbfcmaiejlnbaaVm.exec md P n R sp m (.dr all b i rest aM aW ck k) σ) : DV md P n R all b i rest aM aW ck k σ := exec_mean m _ _ h
theorem lk_build2 {all : List Oper} {d t i0 i1 x y ty p af g} : lk all { dst := d, op := .build t #[(i0, x), (i1, y)], type := ty, pos := p, after := af, guard := g } = tms [x, y] ++ gsl all g := by
  unfold lk
  congr 1
theorem DV.bref {md : Md} {n : Nat} {R : St → Prop} {all : List Oper} {b i : Nat} {d t i0 i1 x y ty p af g} {rest : List Oper} {aM aW : List (List Nat)} {ck : Nat} {k : List It} (M : List Nat) {p0 : PV} {id : Nat} {e : TypeId} {ys : List PV} {zs : List AV} {places : List (Nat × Nat)} {z cs : List PV} {kk : Nat}
    (hg : runs σ all { dst := d, op := .build t #[(i0, x), (i1, y)], type := ty, pos := p, after := af, guard := g } = some true) (hd : dOK n d)
    (hx : (σ.restr (tms [x, y] ++ gsl all g) M (b + i)).ev x = .val p0) (hy : (σ.restr (tms [x, y] ++ gsl all g) M (b + i)).ev y = .ref id) (hob : (σ.restr (tms [x, y] ++ gsl all g) M (b + i)).ob id = .row e ys)
    (hz : zeroOf P t = some zs) (hpl : plOf P t = some places) (hp : purs zs = some z) (hna : ∀ p ∈ z, p.isAgg = false) (hcs : fillP places z [(i0, p0), (i1, .row [])] = some cs) (hk : places[i1]? = some (kk, 1))
    (h2 : mok σ (tms [x, y] ++ gsl all g) M (b + i) (.agr cs kk id)) (h : DV md P n R all b (i + 1) rest (aM ++ [M]) (aW ++ [[]]) ck k (σ.put d (.agr cs kk id))) :
    DV md P n R all b i ({ dst := d, op := .build t #[(i0, x), (i1, y)], type := ty, pos := p, after := af, guard := g } :: rest) aM aW ck k σ := by
  rw [← lk_build2 (all := all) (d := d) (t := t) (i0 := i0) (i1 := i1) (ty := ty) (p := p) (af := af)] at *
  refine DV.op M [] (.bref (by rw [runs_restr]; exact hg) rfl hd hx hy hob hz hpl hp hna hcs hk) (Within.of (fun _ _ => rfl) h2 trivial (by simp)) ?_
  rw [patch_pass]
  exact h
/-- What a context's call may write. -/
def New (C : Ctx) (b : Nat) : Prop := C.w0.heap.size ≤ b ∨ C.O0 b
/-- A world that a call has come to. -/
structure Anc (C : Ctx) (w : World) : Prop where
  os : w.os = C.w0.os
  tape : w.tape = C.w0.tape
  output : w.output = C.w0.output
  size : C.w0.heap.size ≤ w.heap.size
  old : ∀ k, k < C.w0.heap.size → ¬ C.O0 k → w.heap[k]? = C.w0.heap[k]?
theorem Rel.anc (h : Rel P C σ a w cv) : Anc C w := ⟨h.os, h.tape, h.output, h.size, h.old⟩
theorem Anc.next {C1 : Ctx} (hA : Anc C C1.w0) (h : Rel P C1 σ a w cv) (hO : ∀ b, C1.O0 b → New C b) : Anc C w where
  os := h.os.trans hA.os
  tape := h.tape.trans hA.tape
  output := h.output.trans hA.output
  size := Nat.le_trans hA.size h.size
  old := fun k hk ho => by
    rw [h.old k (Nat.lt_of_lt_of_le hk hA.size) (fun h1 => by
      rcases hO k h1 with h2 | h2
      · omega
      · exact ho h2)]
    exact hA.old k hk ho
theorem Anc.agree {w1 : World} (hA : Anc C w) {X : Nat → Prop} (hX : ∀ b, X b → New C b) (h : Agree X w w1) : Anc C w1 where
  os := h.os.trans hA.os
  tape := h.tape.trans hA.tape
  output := h.output.trans hA.output
  size := by rw [h.size]; exact hA.size
  old := fun k hk ho => by
    rw [h.same k (fun h1 => by
      rcases hX k h1 with h2 | h2
      · omega
      · exact ho h2)]
    exact hA.old k hk ho

/-- The context is laid anew: of all memory only F is known, and what lives. -/
theorem Rel.rebase (h : Rel P C σ a w cv) (hd : a.defers = []) {σ1 : St} {cv1 : Nat → Value} {F : Nat → Prop} {pin : Nat → Option Value}
    (hF : ∀ b, F b → b < w.heap.size ∧ ∀ i, ¬ Live σ1.ob cv1 i b) (hL : ∀ i b, Live σ1.ob cv1 i b → b < w.heap.size) (hinj : ∀ i j b, Live σ1.ob cv1 i b → Live σ1.ob cv1 j b → i = j)
    (hob : ∀ i, ObRep P w F cv1 i (σ1.ob i)) (hsl : ∀ t, SRep w F cv1 (σ1.sl t) (a.tmps.getD t undef))
    (hm : ∀ t i, (σ1.sl t).ment i → σ1.ob i ≠ .free) (hmo : ∀ j i, (σ1.ob j).ment i → σ1.ob i ≠ .free) (hpin : ∀ i v, pin i = some v → σ1.ob i ≠ .free ∧ cv1 i = v) :
    Rel P ⟨w, F, fun b => ∃ i, Live σ1.ob cv1 i b, C.n, pin, 0⟩ σ1 a w cv1 := by
  have hS : Same F w w := fun _ _ => rfl
  have hF1 : ∀ b, F b → FS ⟨w, F, fun b => ∃ i, Live σ1.ob cv1 i b, C.n, pin, 0⟩ σ1.ob cv1 w b := fun b hb => .inl hb
  exact {
    os := rfl, tape := rfl, output := rfl, size := Nat.le_refl _, old := fun _ _ _ => rfl
    f0 := fun b hb => ⟨(hF b hb).1, fun ⟨i, hl⟩ => (hF b hb).2 i hl⟩
    o0 := fun b ⟨i, hl⟩ => hL i b hl
    live := fun i b hl => ⟨.inr ⟨i, hl⟩, hL i b hl⟩
    inj := hinj
    obs := fun i => (hob i).mono hS hF1 rfl (fun _ _ => rfl) (fun _ _ _ => rfl)
    slots := fun t => (hsl t).mono hS hF1 (fun _ _ => rfl)
    ments := hm, mento := hmo
    defers := by rw [hd]; exact DefOK.nil
    ntmps := h.ntmps
    pin := hpin }
/-- A context that is laid within another one's call. -/
structure Lk (C C1 : Ctx) : Prop where
  lvl : C1.lvl = 0
  n : C1.n = C.n
  anc : Anc C C1.w0
  f : ∀ b, C1.F0 b → C.F0 b ∨ New C b
  o : ∀ b, C1.O0 b → New C b
theorem Lk.defers {C1 : Ctx} (k : Lk C C1) (h : Rel P C1 σ a w cv) : a.defers = [] := h.defers.1 k.lvl
theorem Lk.anc' {C1 : Ctx} (k : Lk C C1) (h : Rel P C1 σ a w cv) : Anc C w := k.anc.next h k.o
theorem Lk.fs {C1 : Ctx} (k : Lk C C1) {ob : Nat → Ob} {b : Nat} (h : FS C1 ob cv w b) : C.F0 b ∨ New C b := by
  rcases h with h | ⟨h, _⟩
  · exact k.f b h
  · rcases h with h | h
    · exact .inr (.inl (Nat.le_trans k.anc.size h))
    · exact .inr (k.o b h)
theorem Lk.live {C1 : Ctx} (k : Lk C C1) (h : Rel P C1 σ a w cv) {i b : Nat} (hl : Live σ.ob cv i b) : New C b := by
  rcases (h.live i b hl).1 with h1 | h1
  · exact .inl (Nat.le_trans k.anc.size h1)
  · exact k.o b h1
/-- Back to where the call began. -/
theorem Rel.land {C1 : Ctx} (hf0 : ∀ b, C.F0 b → b < C.w0.heap.size ∧ ¬ C.O0 b) (ho0 : ∀ b, C.O0 b → b < C.w0.heap.size) (hpin : ∀ i, C.pin i = none) (k : Lk C C1) (h : Rel P C1 σ a w cv)
    {σ1 : St} {cv1 : Nat → Value} {F : Nat → Prop} (hF : ∀ b, F b → b < w.heap.size ∧ (C.F0 b ∨ New C b)) (hno : ∀ i, (σ1.ob i).live = false)
    (hob : ∀ i, ObRep P w F cv1 i (σ1.ob i)) (hsl : ∀ t, SRep w F cv1 (σ1.sl t) (a.tmps.getD t undef))
    (hm : ∀ t i, (σ1.sl t).ment i → σ1.ob i ≠ .free) (hmo : ∀ j i, (σ1.ob j).ment i → σ1.ob i ≠ .free) : Rel P C σ1 a w cv1 := by
  have hA := k.anc' h
  have hnl : ∀ i b, ¬ Live σ1.ob cv1 i b := fun i b hl => by have := hl.1; rw [hno i] at this; cases this
  have hF1 : ∀ b, F b → FS C σ1.ob cv1 w b := fun b hb => by
    obtain ⟨h1, h2⟩ := hF b hb
    rcases h2 with h2 | h2
    · exact .inl h2
    · exact .inr ⟨h2, h1, fun i => hnl i b⟩
  have hS : Same F w w := fun _ _ => rfl
  exact {
    os := hA.os, tape := hA.tape, output := hA.output, size := hA.size, old := hA.old, f0 := hf0, o0 := ho0
    live := fun i b hl => absurd hl (hnl i b)
    inj := fun i j b hi hj => absurd hi (hnl i b)
    obs := fun i => (hob i).mono hS hF1 rfl (fun _ _ => rfl) (fun _ _ _ => rfl)
    slots := fun t => (hsl t).mono hS hF1 (fun _ _ => rfl)
    ments := hm, mento := hmo
    defers := by rw [k.defers h]; exact DefOK.nil
    ntmps := by rw [← k.n]; exact h.ntmps
    pin := fun i v hv => by rw [hpin i] at hv; cases hv }

/-- A variable that is hidden from a context: what it holds. -/
structure Hid (C C1 : Ctx) (b : Nat) (cs : List PV) : Prop where
  new : New C b
  lt : b < C1.w0.heap.size
  nf : ¬ C1.F0 b
  no : ¬ C1.O0 b
  mem : ∃ arr ty, C1.w0.heap[b]? = some (.cells ⟨arr⟩ ty (0, 0)) ∧ Reps C1.w0 C1.F0 cs arr
theorem Rel.sameF0 {C1 : Ctx} (h : Rel P C1 σ a w cv) : Same C1.F0 C1.w0 w := fun b hb => h.old b (h.f0 b hb).1 (h.f0 b hb).2
theorem Hid.off {C1 : Ctx} {b : Nat} {cs : List PV} (hh : Hid C C1 b cs) (h : Rel P C1 σ a w cv) : ¬ FS C1 σ.ob cv w b ∧ (∀ i, ¬ Live σ.ob cv i b) ∧ b < w.heap.size ∧ ∃ arr ty, w.heap[b]? = some (.cells ⟨arr⟩ ty (0, 0)) ∧ Reps w C1.F0 cs arr := by
  refine ⟨fun hf => ?_, fun i hl => ?_, Nat.lt_of_lt_of_le hh.lt h.size, ?_⟩
  · rcases hf with hf | ⟨hf, _⟩
    · exact hh.nf hf
    · rcases hf with hf | hf
      · have := hh.lt; omega
      · exact hh.no hf
  · rcases (h.live i b hl).1 with h1 | h1
    · have := hh.lt; omega
    · exact hh.no h1
  · obtain ⟨arr, ty, h1, h2⟩ := hh.mem
    exact ⟨arr, ty, by rw [h.old b hh.lt hh.no]; exact h1, h2.mono h.sameF0 (fun _ hb => hb)⟩
/-- What was hidden stays so. -/
theorem Hid.next {C1 : Ctx} {b : Nat} {cs : List PV} (hh : Hid C C1 b cs) (h : Rel P C1 σ a w cv) {F O : Nat → Prop} {n : Nat} {pin : Nat → Option Value} (hF : ∀ b, C1.F0 b → F b) (hnF : ¬ F b) (hnO : ¬ O b) : Hid C ⟨w, F, O, n, pin, 0⟩ b cs := by
  obtain ⟨h1, h2, h3, arr, ty, h4, h5⟩ := hh.off h
  exact ⟨hh.new, h3, hnF, hnO, arr, ty, h4, h5.mono (fun _ _ => rfl) hF⟩
/-- A variable that is hidden, read. -/
theorem Hid.ptr {C1 : Ctx} {b : Nat} {cs : List PV} (hh : Hid C C1 b cs) (h : Rel P C1 σ a w cv) {F : Nat → Prop} (hF : ∀ b, C1.F0 b → F b) (hb : F b) (hcs : ∀ c ∈ cs, c.isAgg = false) : Rep w F (.ptr (.agg cs)) (.pointer (some ⟨b, 0, none⟩)) := by
  obtain ⟨h1, h2, h3, arr, ty, h4, h5⟩ := hh.off h
  refine .ptr (.agg cs) ⟨b, 0, none⟩ arr (.inr hb) h5.1 (fun j v hj => ?_) hcs (h5.mono (fun _ _ => rfl : Same C1.F0 w w) hF).2
  have hlt : j < arr.length := (List.getElem?_eq_some_iff.1 hj).1
  rw [Addr_add_lit]
  unfold World.cell?
  simp only [h4]
  simpa using hj

def ptrV (b : Nat) : Value := .pointer (some ⟨b, 0, none⟩)
/-- A variable of the call's own is hidden. -/
theorem Rel.hide {C1 : Ctx} (k : Lk C C1) (h : Rel P C1 σ a w cv) {id t : Nat} {ag : Bool} {ps : List PV} (hbox : σ.ob id = .box ag (ps.map AV.val)) (hsl : σ.sl t = .adr id 0) :
    ∃ b C2, Lk C C2 ∧ C2.n = C1.n ∧ (∀ i, C2.pin i = none) ∧ Rel P C2 ((σ.setOb id .gone).set t (.val (.raw (ptrV b)))) a w cv ∧ Hid C C2 b ps ∧ (∀ b' cs', Hid C C1 b' cs' → Hid C C2 b' cs' ∧ b' ≠ b) := by
  have ho := h.obs id
  rw [hbox] at ho
  obtain ⟨b, ty, arr, h1, h2, h3, h4, h5⟩ := ho
  have hl0 : Live σ.ob cv id b := ⟨by rw [hbox]; rfl, by rw [h1]; rfl⟩
  have hob1 : ∀ i, ((σ.setOb id .gone).set t (.val (.raw (ptrV b)))).ob i = if i = id then .gone else σ.ob i := fun i => rfl
  have hsl1 : ∀ t', ((σ.setOb id .gone).set t (.val (.raw (ptrV b)))).sl t' = if t' = t then .val (.raw (ptrV b)) else σ.sl t' := fun t' => rfl
  have hlv : ∀ i b', Live ((σ.setOb id .gone).set t (.val (.raw (ptrV b)))).ob cv i b' → i ≠ id ∧ Live σ.ob cv i b' := fun i b' ⟨g1, g2⟩ => by
    rw [hob1] at g1
    split at g1
    · cases g1
    · exact ⟨‹_›, g1, g2⟩
  have hr2 := h.rebase (k.defers h) (σ1 := (σ.setOb id .gone).set t (.val (.raw (ptrV b)))) (cv1 := cv) (F := FS C1 σ.ob cv w) (pin := fun _ => none)
    (fun b' hb => ⟨h.fs_lt hb, fun i hl => h.fs_live hb (hlv i b' hl).2⟩) (fun i b' hl => (h.live i b' (hlv i b' hl).2).2) (fun i j b' hi hj => h.inj i j b' (hlv i b' hi).2 (hlv j b' hj).2)
    (fun i => by
      rw [hob1]
      split
      · trivial
      · exact h.obs i) (fun t' => by
      rw [hsl1]
      split
      · rename_i e
        have := h.slots t
        rw [hsl] at this
        obtain ⟨b2, g1, g2⟩ := this
        rw [h1] at g1
        cases g1
        rw [e, g2]
        exact Rep.raw (ptrV b) rfl
      · exact h.slots t') (fun t' i hi => by
      rw [hsl1] at hi
      rw [hob1]
      split at hi
      · exact hi.elim
      · split
        · simp
        · exact h.ments t' i hi) (fun j i hi => by
      rw [hob1] at hi
      rw [hob1]
      split at hi
      · exact hi.elim
      · split
        · simp
        · exact h.mento j i hi) (fun i v hv => by cases hv)
  refine ⟨b, ⟨w, FS C1 σ.ob cv w, fun b' => ∃ i, Live ((σ.setOb id .gone).set t (.val (.raw (ptrV b)))).ob cv i b', C1.n, fun _ => none, 0⟩, ⟨rfl, k.n, k.anc' h, fun b' hb => k.fs hb, fun b' ⟨i, hl⟩ => k.live h (hlv i b' hl).2⟩, rfl, fun _ => rfl, hr2, ⟨k.live h hl0, (h.live id b hl0).2, fun hf => h.fs_live hf hl0, fun ⟨i, hl⟩ => (hlv i b hl).1 (h.inj i id b (hlv i b hl).2 hl0), arr, ty, h2, ?_⟩, fun b' cs' hh => ?_⟩
  · refine ⟨by rw [h3, List.length_map], fun i p v hp hv => ?_⟩
    exact (h5 i (.val p) v (by rw [List.getElem?_map, hp]; rfl) hv).1
  · obtain ⟨g1, g2, g3, _⟩ := hh.off h
    exact ⟨hh.next h (fun _ hb => .inl hb) g1 (fun ⟨i, hl⟩ => g2 i (hlv i b' hl).2), fun e => by subst e; exact g2 id hl0⟩

theorem flat_one : ∀ {xs : List PV}, (∀ x ∈ xs, x.cells = [x]) → flat xs = xs
  | [], _ => rfl
  | x :: xs, h => by
    have ih := flat_one (xs := xs) fun y hy => h y (List.mem_cons_of_mem _ hy)
    show x.cells ++ flat xs = _
    rw [h x List.mem_cons_self, ih]; rfl
/-- A row of bare values, read anew. -/
theorem rawRow {F F' : Nat → Prop} {vs : List Value} {xs : List PV} {u : Value} (h : Rep w F (.row (vs.map PV.raw)) u) (hF : ∀ b, F b → F' b) (hl : xs.length = vs.length) (hx : ∀ x ∈ xs, x.cells = [x] ∧ x.isAgg = false)
    (hr : ∀ (j : Nat) (v : Value) (x : PV), vs[j]? = some v → xs[j]? = some x → Rep w F' x v) : Rep w F' (.row xs) u := by
  generalize hR : vs.map PV.raw = R at h
  have hlen : R.length = vs.length := by rw [← hR, List.length_map]
  cases h with
  | rowNil =>
    have : xs = [] := List.eq_nil_of_length_eq_zero (by rw [hl, ← hlen]; rfl)
    subst this; exact .rowNil
  | row _ ad c sz cvs hc hsz hFb hcl hcell ha hh =>
    have hfR : flat R = R := flat_one fun x hx => by
      rw [← hR] at hx
      obtain ⟨v, _, rfl⟩ := List.mem_map.1 hx; rfl
    have hfx : flat xs = xs := flat_one fun x hx' => (hx x hx').1
    rw [hfR] at hcl hh hFb
    have e : R.length = xs.length := by omega
    rw [e]
    refine .row xs ad c 1 cvs (by omega) (fun x hx' => by rw [(hx x hx').1]; rfl) ?_ (by rw [hfx]; omega) hcell (by rw [hfx]; exact fun c hc => (hx c hc).2) (fun i p v hp hv => ?_)
    · rw [hfx]
      rcases hFb with hFb | hFb
      · left; exact List.eq_nil_of_length_eq_zero (by rw [← e, hFb]; rfl)
      · exact .inr (hF _ hFb)
    · rw [hfx] at hp
      have hi : i < vs.length := by rw [← hl]; exact (List.getElem?_eq_some_iff.1 hp).1
      have hRi : R[i]? = some (.raw vs[i]) := by rw [← hR, List.getElem?_map, List.getElem?_eq_getElem hi]; rfl
      have := hh i _ v hRi hv
      have e2 : v = vs[i] := by cases this; rfl
      rw [e2]
      exact hr i _ p (List.getElem?_eq_getElem hi) hp

/-- A pointer whose block is known by a pin. -/
theorem SemOp.nilRaw {md : Md} {n : Nat} {all : List Oper} {i : Nat} {o : Oper} {x : Operand} {id b : Nat} (hK : ∀ C, md.K C → C.pin id = some (.pointer (some ⟨b, 0, none⟩))) (hg : o.guard = none) (ho : o.op = .nilCheck x)
    (hx : σ.ev x = .val (.raw (.pointer (some ⟨b, 0, none⟩)))) (hd : dOK n o.dst) : SemOp P md n all i o σ (fun σ' => σ' = σ.put o.dst (.adr id 0)) := by
  intro C a w cv hKC hCn hpin hr hoi bf cs m rest
  have hv := (hr.ev x).1
  rw [hx] at hv
  have he : a.eval x = .pointer (some ⟨b, 0, none⟩) := by
    have hv : Rep w (FS C σ.ob cv w) (.raw (.pointer (some ⟨b, 0, none⟩))) (a.eval x) := hv
    generalize a.eval x = u at hv
    cases hv; rfl
  obtain ⟨p1, p2⟩ := hr.pin id _ (hK C hKC)
  have hwant : Region.wanted o (yielded all.toArray a.tmps) = true := by unfold Region.wanted; rw [hg]
  have hrun : (execOp a.eval o).run P w = .ok (.value (.pointer (some ⟨b, 0, none⟩))) w := by
    unfold execOp; rw [ho]; simp [he]
  refine ⟨_, _, w, cv, rfl, put_rel hr (d := o.dst) (by rw [hCn]; exact hd) (v := .adr id 0) (u := .pointer (some ⟨b, 0, none⟩)) ⟨b, p2, rfl⟩ (fun j hj => ?_), oper_steps (P := P) (all := all) (i := i) (rest := rest) (m := m) hoi hwant (.inl hrun) bf cs⟩
  have : id = j := hj
  subst this; exact p1

/-- A loop's body: it comes to its end, or leaves the loop. -/
theorem V.segW {md : Md} {c : Code} {id : Nat} {J1 J2 : St → Prop} (hK : md.K C) (hpin : md.pl = true → ∀ i, C.pin i = none) (hv : V md P C.n (fun _ => False) [.code c, .again J1, .blk id, .stop J2] σ) (hr : Rel P C σ a w cv) (b : Frame) (cs : List Frame) (hb : md.pl = true → b.roundOf = none) (m : List Item) :
    ∃ τ a' w' cv', Rel P C τ a' w' cv' ∧ ((J1 τ ∧ Steps P (lone (b.atR a (.code c :: .inLoop c :: .inBlock id :: m)) cs w) (lone (b.atR a' (.inLoop c :: .inBlock id :: m)) cs w')) ∨
      (J2 τ ∧ Steps P (lone (b.atR a (.code c :: .inLoop c :: .inBlock id :: m)) cs w) (lone (b.atR a' m) cs w'))) := by
  have hz1 : ∀ σ a w cv, J1 σ → Rel P C σ a w cv → Good md P C (fun σ todo => (J1 σ ∧ todo = .inLoop c :: .inBlock id :: m) ∨ (J2 σ ∧ todo = m)) (.inLoop c :: .inBlock id :: m) a w := fun σ a w cv hJ hr b cs hb => ⟨σ, a, w, cv, _, .inl ⟨hJ, rfl⟩, hr, .refl _ _⟩
  have hz2 : ∀ σ a w cv, J2 σ → Rel P C σ a w cv → Good md P C (fun σ todo => (J1 σ ∧ todo = .inLoop c :: .inBlock id :: m) ∨ (J2 σ ∧ todo = m)) m a w := fun σ a w cv hJ hr b cs hb => ⟨σ, a, w, cv, _, .inr ⟨hJ, rfl⟩, hr, .refl _ _⟩
  obtain ⟨τ, a', w', cv', todo, h1, h2, h3⟩ := V.sound (Z := fun σ todo => (J1 σ ∧ todo = .inLoop c :: .inBlock id :: m) ∨ (J2 σ ∧ todo = m)) hK hpin (fun _ _ hf => hf.elim) hv (.code c :: .inLoop c :: .inBlock id :: m) (.code c (.again (.blk (.stop hz2)) hz1)) a w cv hr b cs hb
  refine ⟨τ, a', w', cv', h2, ?_⟩
  rcases h1 with ⟨h1, rfl⟩ | ⟨h1, rfl⟩
  · exact .inl ⟨h1, h3⟩
  · exact .inr ⟨h1, h3⟩

/-- A part of a body, to a state that is written out. -/
theorem V.segM {md : Md} {c : Code} {ls : List (Nat × AV)} {os : List Ob} (ck : Nat) (hK : md.K C) (hpin : ∀ i, C.pin i = none) (hv : V md P C.n (fun _ => False) [.code c, .stop (fun τ => ∃ ρ, Match P τ ρ ls os)] σ) (hr : Rel P C σ a w cv)
    (b : Frame) (cs : List Frame) (hb : b.roundOf = none) (m : List Item) : ∃ a' w' cv', Rel P C (litSt ls os ck) a' w' cv' ∧ Steps P (lone (b.atR a (.code c :: m)) cs w) (lone (b.atR a' m) cs w') := by
  obtain ⟨τ, a', w', cv', ⟨ρ, hM⟩, hr', hs⟩ := V.seg hK (fun _ => hpin) hv hr b cs (fun _ => hb) m
  obtain ⟨cv2, hr2⟩ := hr'.rename hM ck (fun i v hv => by rw [hpin i] at hv; cases hv)
  exact ⟨a', w', cv2, hr2, hs⟩
theorem V.segSeq {md : Md} {c d : Code} {ls : List (Nat × AV)} {os : List Ob} (ck : Nat) (hK : md.K C) (hpin : ∀ i, C.pin i = none) (hv : V md P C.n (fun _ => False) [.code c, .stop (fun τ => ∃ ρ, Match P τ ρ ls os)] σ) (hr : Rel P C σ a w cv)
    (b : Frame) (cs : List Frame) (hb : b.roundOf = none) (m : List Item) : ∃ a' w' cv', Rel P C (litSt ls os ck) a' w' cv' ∧ Steps P (lone (b.atR a (.code (.seq c d) :: m)) cs w) (lone (b.atR a' (.code d :: m)) cs w') := by
  obtain ⟨a', w', cv', h1, h2⟩ := V.segM ck hK hpin hv hr b cs hb (.code d :: m)
  exact ⟨a', w', cv', h1, .head stepR_seq h2⟩

/-- How a walk on a laid context is meant. -/
def Md.low : Md := ⟨fun C => C.lvl = 0, true, true⟩

/-- A contract out of what the machine does. -/
theorem Ct.of_sem {f : FuncId} {fn : Func} {c : Code} {args : List Arg} {r : Res} (hf : P.funcs[f]? = some fn) (hb : fn.body = some c) (hN : args.length ≤ fn.ntmps)
    (H : ∀ (C : Ctx) (a : Act) (w : World) (cv : Nat → Value), C.lvl = 2 → C.n = fn.ntmps → (∀ i, C.pin i = none) → a.defers = [] → Rel P C (initSt args) a w cv → ∀ (b : Frame) (cs : List Frame), b.roundOf = none →
      ∃ σ' a' w' cv' todo, RetSt P fn.results.toList r σ' ∧ leaves true todo ∧ Rel P C σ' a' w' cv' ∧ Steps P (lone (b.atR a [.code c]) cs w) (lone (b.atR a' todo) cs w')) : Ct P f args r := by
  intro w F vs hF ha cs
  obtain ⟨cv, hrel⟩ := init_rel (P := P) (N := fn.ntmps) hF ha hN
  let b : Frame := { (default : Frame) with fn := f, kind := .normal, roundOf := none }
  have henter : Frame.enter P f ⟨vs⟩ .normal = b.atR { tmps := (⟨vs⟩ : Array Value) ++ Array.replicate (fn.ntmps - vs.length) undef, defers := [] } [.code c] := by
    simp [Frame.enter, Frame.atR, hf, hb, b]
  obtain ⟨σ', a1, w1, cv', todo', hR, hlv, hrel1, hsteps1⟩ := H ⟨w, F, Given args vs, fn.ntmps, fun _ => none, 2⟩ _ w cv rfl rfl (fun _ => rfl) rfl hrel b cs rfl
  obtain ⟨w', hrel', hud⟩ := Rel.undefer rfl a1.defers a1 w1 hrel1 rfl
  have hsteps2 := (hsteps1.trans (leave_steps (b := b) rfl hlv cs w1)).trans (hud { b.atR a1 todo' with mode := .returning } cs (by simp) rfl)
  obtain ⟨a', ha'⟩ : ∃ a', a' = ({ a1 with defers := [] } : Act) := ⟨_, rfl⟩
  have hdef : a'.defers = [] := by rw [ha']
  have hsteps : Steps P (lone (b.atR { tmps := (⟨vs⟩ : Array Value) ++ Array.replicate (fn.ntmps - vs.length) undef, defers := [] } [.code c]) cs w) (lone { b.atR a' todo' with mode := .returning } cs w') := by rw [ha']; exact hsteps2
  rw [← ha'] at hrel'
  clear hsteps1 hsteps2 hud hrel1 ha'
  rw [← henter] at hsteps
  have hfs : ∀ b, FS ⟨w, F, Given args vs, fn.ntmps, fun _ => none, 2⟩ σ'.ob cv' w' b → FN w w' F args vs b := fun b hb => by
    rcases hb with hb | hb
    · exact .inl hb
    · exact .inr ⟨hb.1, hb.2.1⟩
  have fin : ∀ v, (results fn a'.tmps).run P w' = .ok v w' → ResRep P w w' F args vs r v → ∃ (e : Ending) (w' : World) (fr : Frame), (∃ v, e = .returned v ∧ Out P w F args vs w' r v) ∧
      Comes P (lone (Frame.enter P f ⟨vs⟩ .normal) cs w) (lone fr cs w') e ∧ fr.fn = f ∧ fr.leaving P w' e := fun v hv hres =>
    ⟨.returned v, w', { b.atR a' todo' with mode := .returning }, ⟨v, rfl, ⟨hrel'.os, hrel'.tape, hrel'.output, hrel'.size, hrel'.old, hres⟩⟩, hsteps, rfl, rfl, hdef, rfl, fn, hf, hv⟩
  cases r with
  | vals ps =>
    have hR : retVals P σ' fn.results.toList = some ps := hR
    obtain ⟨us, σ2, h1, h2, h3, h4⟩ := retVals_run hrel' hR
    refine fin _ (results_readR fn a'.tmps h1) ⟨us, rfl, h4.mono (fun _ _ => rfl : Same _ w' w') fun b hb => ?_⟩
    rcases hb with hb | hb
    · exact .inl hb
    · exact .inr ⟨hb.1, hb.2.1⟩
  | own e xs =>
    simp only [RetSt, RetOK] at hR
    split at hR
    · rename_i t hrs
      have h1 : (fn.results.toList.mapM (readR a'.tmps)).run P w' = .ok [a'.tmps.getD t undef] w' := by rw [hrs]; simp [List.mapM_cons, readR]
      have hs := hrel'.slots t
      split at hR
      · rename_i i hi
        rw [hi] at hs
        have hs : a'.tmps.getD t undef = cv' i := hs
        have ho := hrel'.obs i
        rw [hR] at ho
        have hlv : (σ'.ob i).live = true := by rw [hR]; rfl
        refine fin _ (results_readR fn a'.tmps h1) ⟨?_, fun b hb => ?_⟩
        · show OwnRow P w' _ (a'.tmps.getD t undef) e xs
          rw [hs]
          refine OwnRow.mono ho (fun _ _ => rfl : Same _ w' w') (fun b hb => ⟨hfs b hb, fun hb' => ?_⟩) (fun _ _ => rfl)
          exact hrel'.fs_live hb ⟨hlv, hb'⟩
        · have hb : blkOf (cv' i) = some b := by rw [← hs]; exact hb
          exact hrel'.live i b ⟨hlv, hb⟩
      · rename_i i sz l n hi
        rw [hi] at hs
        obtain ⟨ys, q, ho1, rfl, hn, rfl⟩ := hR
        have ho := hrel'.obs i
        rw [ho1] at ho
        have hlv : (σ'.ob i).live = true := by rw [ho1]; rfl
        obtain ⟨sz', cells, g1, g2, g3, g4, g5, g6, g7⟩ := ho
        generalize a'.tmps.getD t undef = uu at hs h1
        have hfl := flat_take g3 n
        rcases hs with ⟨c1, _, rfl, rfl⟩ | ⟨b, n', c, o, c1, c2, c3, rfl⟩
        · refine fin _ (results_readR fn a'.tmps h1) ⟨?_, fun b hb => by cases hb⟩
          rw [List.take_zero]
          exact ⟨sz', [], g1, g2, by simp, World.ownsRow_nil w' 0 e sz', Reps.nil _ _, by simp [flat]⟩
        · rcases g7 with ⟨c1', _⟩ | ⟨g', n'', cur, c1', hg, hm, hcs, ht⟩
          · rw [c1] at c1'; cases c1'
          · rw [c1] at c1'; cases c1'
            obtain rfl : o = 0 := by
              rcases c3 with c3 | ⟨c3, c4, c5⟩
              · simpa using c3
              · omega
            refine fin _ (results_readR fn a'.tmps h1) ⟨?_, fun b' hb' => ?_⟩
            · have hlen : (ys.take n).length = n := by rw [List.length_take]; omega
              refine ⟨sz', cells.take (n * sz'), g1, g2, fun x hx => g3 x (List.mem_of_mem_take hx), ⟨?_, .inr ⟨b, ys.length + q, cur, by rw [hlen]; rfl, Nat.zero_le _, hg, by rw [hlen]; omega, hm, hcs, ?_⟩⟩, ?_, fun c hc => ?_⟩
              · rw [hlen, List.length_take, g4]; have := Nat.mul_le_mul_right sz' hn; omega
              · rw [hlen, ← ht, List.take_take]; congr 1; have := Nat.mul_le_mul_right sz' hn; omega
              · rw [hfl]
                refine (g5.mono (fun _ _ => rfl : Same (FS ⟨w, F, Given args vs, fn.ntmps, fun _ => none, 2⟩ σ'.ob cv' w') w' w') (fun b' hb' => ⟨hfs b' hb', fun hb2 => ?_⟩)).take _
                cases hb2
                exact hrel'.fs_live hb' ⟨hlv, by rw [c1]; rfl⟩
              · rw [hfl] at hc; exact g6 c (List.mem_of_mem_take hc)
            · cases hb'
              exact hrel'.live i b ⟨hlv, by rw [c1]; rfl⟩
      · rename_i hi
        rw [hi] at hs
        have hs : a'.tmps.getD t undef = .slice none 0 0 := hs
        obtain ⟨rfl, sz, g1, g2⟩ := hR
        refine fin _ (results_readR fn a'.tmps h1) ⟨?_, fun b hb => ?_⟩
        · show OwnRow P w' _ (a'.tmps.getD t undef) e []
          rw [hs]
          exact ⟨sz, [], g1, g2, by simp, World.ownsRow_nil w' 0 e sz, Reps.nil _ _, by simp [flat]⟩
        · have hb : blkOf (a'.tmps.getD t undef) = some b := hb
          rw [hs] at hb; cases hb
      · exact hR.elim
    · exact hR.elim

end
end Go.Proofs.YtjbfcmaiejlnbaaVm
set_option linter.unusedVariables false
set_option linter.unusedSimpArgs false
namespace Go.Proofs.YtjbfcmaiejlnbaaVm
open Go Classical

section
variable {md : Md} {P : Program} {n : Nat} {R : St → Prop} {sp : List Nat} {m : Nat} {σ : St} {k : List It}
theorem exec_entry {all b i d t p af g rest x} : exec md P n R sp (m + 1) (.gd (some true) all b i { dst := d, op := .entry x, type := t, pos := p, after := af, guard := g } rest k) σ = exec md P n R sp m (.res (stepOp P σ (b + i) (.entry x)) d all b (i + 1) rest k) σ := rfl
theorem step_makeMap {i t} : stepOp P σ i (.makeMap t none) = if σ.isFree i = true then some (σ.setOb i (.imap [] 0), .ref i) else none := rfl
noncomputable def mlkG (P : Program) (σ : St) (t : TypeId) (n : Int) : Ob → Option (St × AV)
  | .imap es _ => if mapT P t then some (σ, foundAV (es.find? (keyIs n))) else none
  | _ => none
theorem step_lookup {i t x j} : stepOp P σ i (.lookup t x j true) = stLook P σ t (σ.ev x) (σ.ev j) := rfl
theorem mlk0_ref {t i n} : stLook P σ t (.ref i) (.val (.int .i64 n)) = mlkG P σ t n (σ.ob i) := by
  simp only [stLook, mlkG]
  cases σ.ob i <;> rfl
theorem mlkG_map {t n es c} : mlkG P σ t n (.imap es c) = if mapT P t then some (σ, foundAV (es.find? (keyIs n))) else none := rfl
noncomputable def mupG (P : Program) (σ : St) (t : TypeId) (i : Nat) (n v : Int) : Ob → Option (St × AV)
  | .imap es clock => if mapT P t ∧ es.find? (keyIs n) = none then some (σ.setOb i (.imap (es ++ [(n, v, clock)]) (clock + 1)), .any) else none
  | _ => none
theorem step_mapUpdate {i t x j v} : stepOp P σ i (.mapUpdate t x j v) = stMUpd P σ t (σ.ev x) (σ.ev j) (σ.ev v) := rfl
theorem mup0_ref {t i n v} : stMUpd P σ t (.ref i) (.val (.int .i64 n)) (.val (.int .i64 v)) = mupG P σ t i n v (σ.ob i) := by
  simp only [stMUpd, mupG]
  cases σ.ob i <;> rfl
theorem mupG_map {t i n v es c} : mupG P σ t i n v (.imap es c) = if mapT P t ∧ es.find? (keyIs n) = none then some (σ.setOb i (.imap (es ++ [(n, v, c)]) (c + 1)), .any) else none := rfl
noncomputable def mdlG (P : Program) (σ : St) (t : TypeId) (i : Nat) (n : Int) : Ob → Option (St × AV)
  | .imap es clock => if mapT P t then some (σ.setOb i (.imap (es.eraseP (keyIs n)) clock), .any) else none
  | _ => none
theorem del_ref {i j t t2 n} : stBuiltin P σ i .delete [.ref j, .val (.int .i64 n)] [t, t2] = mdlG P σ t j n (σ.ob j) := by
  show stMDel P σ t (.ref j) (.val (.int .i64 n)) = _
  simp only [stMDel, mdlG]
  cases σ.ob j <;> rfl
theorem mdlG_map {t i n es c} : mdlG P σ t i n (.imap es c) = if mapT P t then some (σ.setOb i (.imap (es.eraseP (keyIs n)) c), .any) else none := rfl
noncomputable def mlnG (P : Program) (σ : St) (t : TypeId) : Ob → Option (St × AV)
  | .imap es _ => if mapT P t then some (σ, .val (.int .i64 es.length)) else none
  | _ => none
theorem lenG_map {t j} : lenG P σ t (.ref j) none none = mlnG P σ t (σ.ob j) := by
  show stMLen P σ t (.ref j) = _
  simp only [stMLen, mlnG]
  cases σ.ob j <;> rfl
theorem mlnG_map {t es c} : mlnG P σ t (.imap es c) = if mapT P t then some (σ, .val (.int .i64 es.length)) else none := rfl
theorem pvOb_imap {es c} : pvOb (.imap es c) = none := rfl
noncomputable def mrgG (P : Program) (σ : St) (nid : Nat) (t : TypeId) (i : Nat) : Ob → Option (St × AV)
  | .imap _ clock => if mapT P t ∧ σ.isFree nid = true then some (σ.setOb nid (.iter i clock [] clock), .ref nid) else none
  | _ => none
theorem step_range {i t x} : stepOp P σ i (.range t x) = stMRange P σ i t (σ.ev x) := rfl
theorem mrg0_ref {nid t i} : stMRange P σ nid t (.ref i) = mrgG P σ nid t i (σ.ob i) := by
  simp only [stMRange, mrgG]
  cases σ.ob i <;> rfl
theorem mrgG_map {nid t i es c} : mrgG P σ nid t i (.imap es c) = if mapT P t ∧ σ.isFree nid = true then some (σ.setOb nid (.iter i c [] c), .ref nid) else none := rfl
def men3 (σ : St) (es : List Ent) : Option Nat → Option (St × AV)
  | some s => entAV σ (es.find? (bornIs s))
  | none => none
noncomputable def men2 (σ : St) (last : Nat) (seen : List Nat) : Ob → Option (St × AV)
  | .imap es clock => if clock = last then men3 σ es seen.getLast? else none
  | _ => none
noncomputable def men1 (σ : St) : Ob → Option (St × AV)
  | .iter m _ seen last => men2 σ last seen (σ.ob m)
  | _ => none
theorem step_entry {i x} : stepOp P σ i (.entry x) = stMEntry σ (σ.ev x) := rfl
theorem men0_ref {j} : stMEntry σ (.ref j) = men1 σ (σ.ob j) := by
  simp only [stMEntry, men1]
  cases σ.ob j <;> rfl
theorem men1_iter {m s seen last} : men1 σ (.iter m s seen last) = men2 σ last seen (σ.ob m) := rfl
theorem men2_map {last seen es clock} : men2 σ last seen (.imap es clock) = if clock = last then men3 σ es seen.getLast? else none := rfl
theorem men3_some {es s} : men3 σ es (some s) = entAV σ (es.find? (bornIs s)) := rfl
theorem entAV_some {e} : entAV σ (some e) = some (σ, .tup [.int .i64 e.1, .int .i64 e.2.1]) := rfl
theorem foundAV_some {e} : foundAV (some e) = .tup [.int .i64 e.2.1, .bool true] := rfl
theorem foundAV_none : foundAV none = .tup [.int .i64 0, .bool false] := rfl
theorem mBox_iter {ρ0 m m' s s' n n' l l'} : mBox σ ρ0 (.iter m s n l) (.iter m' s' n' l') = (ρ0[m']? = some (some m) ∧ s = s' ∧ n = n' ∧ l = l') := rfl
theorem plain_imap {es c} : (Ob.imap es c).plain = true := rfl
theorem plain_iter {m s n l} : (Ob.iter m s n l).plain = false := rfl
theorem freeOb_imap {es c} : freeOb (.imap es c) = false := rfl
theorem freeOb_iter {m s n l} : freeOb (.iter m s n l) = false := rfl
end

attribute [go_sem] exec_entry step_makeMap step_lookup mlk0_ref mlkG_map step_mapUpdate mup0_ref mupG_map del_ref mdlG_map lenG_map mlnG_map pvOb_imap step_range mrg0_ref mrgG_map step_entry men0_ref men1_iter men2_map men3_some entAV_some foundAV_some foundAV_none mBox_iter plain_imap plain_iter freeOb_imap freeOb_iter

/-- The next entry of a map that is ranged over, if one is left. -/
theorem SemOp.mnext {P : Program} {md : Md} {n : Nat} {all : List Oper} {i j mm since last clock : Nat} {seen : List Nat} {es : List Ent} {o : Oper} {σ : St} {x : Operand}
    (hg : runs σ all o = some true) (hop : o.op = .next x false) (hd : dOK n o.dst) (hx : σ.ev x = .ref j) (ho : σ.ob j = .iter mm since seen last) (hm : σ.ob mm = .imap es clock) (hold : ∀ e ∈ es, e.2.2 < since) (hsc : since ≤ last) :
    SemOp P md n all i o σ (fun s => (leftE es seen = [] ∧ s = σ.put o.dst (.tup [.bool false])) ∨
      ∃ e ∈ leftE es seen, s = (σ.setOb j (.iter mm since (seen ++ [e.2.2]) clock)).put o.dst (.tup [.bool true, .int .i64 e.1, .int .i64 e.2.1])) := by
  intro C a w cv hK hn hp h hoo b cs m rest
  have hev := (h.ev x).1
  rw [hx] at hev
  have hev : a.eval x = cv j := hev
  have hex : execOp a.eval o = (do pure (.value (← Instr.next (a.eval x) false o.type)) : Sem Next) := by unfold execOp; rw [hop]
  rcases h.mNextOp (ty := o.type) ho hm hold hsc with ⟨h1, h2⟩ | ⟨e, he, w', h2, h3⟩
  · refine ⟨_, _, w, cv, .inl ⟨h1, rfl⟩, put_rel h (by rw [hn]; exact hd) (v := .tup [.bool false]) ⟨[.bool false], rfl, Reps.cons (.bool _) (Reps.nil _ _)⟩ (fun i hi => hi.elim), oper_steps hoo (runs_wanted h hg) (.inl ?_) b cs⟩
    rw [hex, hev]; simp [h2]
  · refine ⟨_, _, w', cv, .inr ⟨e, he, rfl⟩, put_rel h3 (by rw [hn]; exact hd) (v := .tup [.bool true, .int .i64 e.1, .int .i64 e.2.1]) ⟨[.bool true, .int .i64 e.1, .int .i64 e.2.1], rfl, Reps.cons (.bool _) (Reps.cons (.int _ _) (Reps.cons (.int _ _) (Reps.nil _ _)))⟩ (fun i hi => hi.elim), oper_steps hoo (runs_wanted h hg) (.inl ?_) b cs⟩
    rw [hex, hev]; simp [h2]
end Go.Proofs.YtjbfcmaiejlnbaaVm
