/- A part of a proof: functions of the program, walked. -/
import Derived.Test.YtofmiaecjnfeaaaGG
import Derived.Test.YtofmiaecjnfeaaaGF
import Derived.Test.YtofmiaecjnfeaaaGE
set_option linter.unusedVariables false
set_option linter.unusedSimpArgs false
set_option maxRecDepth 8000
namespace Go.Proofs.Ytofmiaecjnfeaaa
open Go Go.Proofs Go.Proofs.YtofmiaecjnfeaaaVm Go.Proofs.Ytofmiaecjnfeaaa.Ty

/-! ### Parts of a node -/
def shell (g : List Nd) : Nd := .mk (headLow g) g [] []
def waits : List Nd → List (List Note) → List Nd
  | k :: ks, s :: ss => .mk k.low k.kids s [] :: waits ks ss
  | _, _ => []
theorem shells_seg {h : Nat} : ∀ (gs : List (List Nd)) (hi : Option (List UInt8)), (∀ g ∈ gs, g ≠ [] ∧ g.length ≤ 4) → Seg (WF h) gs.flatten hi → (∀ g ∈ gs, Full h g) → Seg (WF (h + 1)) (gs.map shell) hi
  | [], _, _, _, _ => trivial
  | g :: gs, hi, h1, h2, h3 => by
    rw [List.flatten_cons, seg_app] at h2
    obtain ⟨hg, hg4⟩ := h1 g List.mem_cons_self
    have ih := shells_seg gs hi (fun x hx => h1 x (List.mem_cons_of_mem _ hx)) h2.2 (fun x hx => h3 x (List.mem_cons_of_mem _ hx))
    have hn : nextLow (gs.map shell) hi = nextLow gs.flatten hi := by
      cases gs with
      | nil => rfl
      | cons g2 gs =>
        have := (h1 g2 (List.mem_cons_of_mem _ List.mem_cons_self)).1
        cases g2 with
        | nil => exact absurd rfl this
        | cons y ys => rfl
    refine ⟨?_, ih⟩
    rw [hn]
    have hgap : Gap (headLow g) (nextLow gs.flatten hi) := by
      cases g with
      | nil => exact absurd rfl hg
      | cons y ys => exact seg_gap _ _ h2.1 y List.mem_cons_self
    refine ⟨rfl, by show 0 ≤ 6; omega, (waitOk_iff []).2 ⟨.nil, fun x hx => (by cases hx)⟩, fun x hx => (by cases hx), hg4, ?_, h2.1, h3 g List.mem_cons_self, hgap⟩
    show nextLow g none = some (headLow g)
    cases g with
    | nil => exact absurd rfl hg
    | cons y ys => rfl
theorem shells_all {h : Nat} : ∀ (gs : List (List Nd)) (hi : Option (List UInt8)), Seg (WF h) gs.flatten hi → Nd.alls (gs.map shell) = Nd.alls gs.flatten
  | [], _, _ => rfl
  | g :: gs, hi, h2 => by
    rw [List.flatten_cons, seg_app] at h2
    rw [List.map_cons, Nd.alls, shells_all gs hi h2.2, List.flatten_cons, alls_app]
    congr 1
    rw [Nd.all_eq]
    show (applyV ([] ++ Nd.alls g) []).1 = _
    rw [List.nil_append, applyV_ok (seg_all g _ h2.1).1 (fun x hx => by cases hx)]; rfl
theorem shells_mass : ∀ (gs : List (List Nd)), (∀ g ∈ gs, g ≠ []) → Nd.masss (gs.map shell) = Nd.masss gs.flatten
  | [], _ => rfl
  | g :: gs, h => by
    rw [List.map_cons, Nd.masss, shells_mass gs fun x hx => h x (List.mem_cons_of_mem _ hx), List.flatten_cons, masss_app]
    have := h g List.mem_cons_self
    cases g with
    | nil => exact absurd rfl this
    | cons y ys => simp [shell, Nd.mass]
theorem waits_seg {h : Nat} : ∀ (ks : List Nd) (S : List (List Note)) (hi : Option (List UInt8)), Seg (WF (h + 1)) ks hi → SegN ks S hi → (∀ s ∈ S, s.length ≤ 6 ∧ waitOk s) → (∀ k ∈ ks, k.wait = []) →
    Seg (WF (h + 1)) (waits ks S) hi ∧ Nd.alls (waits ks S) = acts ks S ∧ Nd.masss (waits ks S) = Nd.masss ks + S.flatten.length ∧ nextLow (waits ks S) hi = nextLow ks hi ∧ (waits ks S).length = ks.length
  | [], [], hi, _, _, _, _ => ⟨trivial, rfl, rfl, rfl, rfl⟩
  | k :: ks, s :: ss, hi, h1, h2, h3, h4 => by
    obtain ⟨a1, a2, a3, a4, a5⟩ := waits_seg ks ss hi h1.2 h2.2 (fun x hx => h3 x (List.mem_cons_of_mem _ hx)) (fun x hx => h4 x (List.mem_cons_of_mem _ hx))
    obtain ⟨q1, q2, q3, q4, q5, q6, q7, q8, q9⟩ := h1.1
    have hk0 := h4 k List.mem_cons_self
    have hw : WF (h + 1) (nextLow ks hi) (.mk k.low k.kids s []) := ⟨rfl, (h3 s List.mem_cons_self).1, (h3 s List.mem_cons_self).2, h2.1, q5, q6, q7, q8, q9⟩
    refine ⟨⟨by rw [a4]; exact hw, a1⟩, ?_, ?_, rfl, by rw [waits, List.length_cons, a5, List.length_cons]⟩
    · rw [waits, Nd.alls, a2, acts, hw.all_node, h1.1.all_node, hk0]; rfl
    · rw [waits, Nd.masss, a3, Nd.masss, List.flatten_cons, List.length_append]
      cases k with
      | mk kl kk kw kp =>
        have : kw = [] := hk0
        subst this
        simp [Nd.mass, Nd.low, Nd.kids]; omega
  | [], _ :: _, _, _, h, _, _ => h.elim
  | _ :: _, [], _, _, h, _, _ => h.elim
theorem mkParts_eq : ∀ (gs : List (List Nd)) (S : List (List Note)), gs.length = S.length → mkParts (gs.map headLow) gs S = waits (gs.map shell) S
  | [], [], _ => rfl
  | g :: gs, s :: ss, h => by
    rw [List.map_cons, mkParts, List.headD_cons, List.tail_cons, mkParts_eq gs ss (by simpa using h)]; rfl
  | [], _ :: _, h => by simp at h
  | _ :: _, [], h => by simp at h
theorem partLows_eq {lo : List UInt8} : ∀ {gs : List (List Nd)}, (∀ g r, gs = g :: r → headLow g = lo) → partLows lo gs = gs.map headLow
  | [], _ => rfl
  | g :: r, h => by rw [partLows, List.map_cons, h g r rfl]
structure PartsOK (h : Nat) (lo : List UInt8) (hi : Option (List UInt8)) (ks : List Nd) (w : List Note) (out : List Nd) : Prop where
  seg : Seg (WF (h + 1)) out hi
  head : headLow out = lo
  some : out ≠ []
  all : Nd.alls out = appV (Nd.alls ks) w
  mass : Nd.masss out = Nd.masss ks + w.length
  len : out.length = (ks.length + 3) / 4
theorem parts_lows {h : Nat} {lo : List UInt8} {hi : Option (List UInt8)} {ks : List Nd} {w : List Note} (d : DI h lo hi ks w) : partLows lo (groups ks) = ((groups ks).map shell).map Nd.low ∧ groups ks ≠ [] ∧
    Seg (WF (h + 1)) ((groups ks).map shell) hi ∧ headLow ((groups ks).map shell) = lo := by
  obtain ⟨k1, k2⟩ := headLow_of d.head
  obtain ⟨g1, g2, g3⟩ := groups_spec ks
  have hlen : 0 < ks.length := List.length_pos_iff.2 k1
  have hne : groups ks ≠ [] := fun e => by rw [e] at g2; simp at g2; omega
  have hfirst : ∀ g r, groups ks = g :: r → headLow g = lo := fun g r e => by
    have hg := (g3 g (by rw [e]; exact List.mem_cons_self)).1
    rw [e, List.flatten_cons] at g1
    cases g with
    | nil => exact absurd rfl hg
    | cons y ys => rw [← k2, ← g1]; rfl
  have hfull : ∀ g ∈ groups ks, Full h g := fun g hg h0 hl x hx => by
    have hsub : ∀ z ∈ g, z ∈ ks := fun z hz => by rw [← g1]; exact List.mem_flatten.2 ⟨g, hg, hz⟩
    have hle : g.length ≤ ks.length := by
      rw [← g1]
      exact (List.sublist_flatten_of_mem hg).length_le
    exact d.full h0 (by omega) x (hsub x hx)
  have hs := shells_seg (groups ks) hi g3 (by rw [g1]; exact d.seg) hfull
  refine ⟨by rw [partLows_eq hfirst, List.map_map]; rfl, hne, hs, ?_⟩
  cases hc : groups ks with
  | nil => exact absurd hc hne
  | cons g r => exact hfirst g r hc
theorem parts_spec {h : Nat} {lo : List UInt8} {hi : Option (List UInt8)} {ks : List Nd} {w : List Note} (d : DI h lo hi ks w) (hw6 : w.length ≤ 6) : PartsOK h lo hi ks w (partsN lo ks w) := by
  obtain ⟨g1, g2, g3⟩ := groups_spec ks
  obtain ⟨p1, p2, p3, p4⟩ := parts_lows d
  have hwo := (waitOk_iff w).1 d.wok
  have hne2 : (groups ks).map shell ≠ [] := by simpa using p2
  have hrise : risesOk (((groups ks).map shell).map Nd.low) := (risesOk_iff _).2 (seg_rises _ hi p3)
  obtain ⟨s1, s2⟩ := split_parts ((groups ks).map shell) hi w hne2 p3 hwo.1 (by rw [p4]; exact d.win)
  have hsr : splitR w (((groups ks).map shell).map Nd.low) = splitV w (((groups ks).map shell).map Nd.low) := by
    unfold splitR; rw [if_pos ⟨d.wok, hrise, by simpa using p2⟩]
  have hl := segN_len _ _ hi s2
  have e : partsN lo ks w = waits ((groups ks).map shell) (splitV w (((groups ks).map shell).map Nd.low)) := by
    unfold partsN
    rw [p1, hsr, ← mkParts_eq _ _ (by rw [← hl, List.length_map]), List.map_map]; rfl
  generalize splitV w (((groups ks).map shell).map Nd.low) = S at *
  have hS : ∀ s ∈ S, s.length ≤ 6 ∧ waitOk s := fun s hs => by
    have hsub : s.Sublist w := by rw [← s1]; exact List.sublist_flatten_of_mem hs
    exact ⟨Nat.le_trans hsub.length_le hw6, (waitOk_iff s).2 ⟨List.Pairwise.sublist hsub hwo.1, fun x hx => hwo.2 x (hsub.subset hx)⟩⟩
  obtain ⟨a1, a2, a3, a4, a5⟩ := waits_seg _ S hi p3 s2 hS (fun k hk => by obtain ⟨g, _, rfl⟩ := List.mem_map.1 hk; rfl)
  rw [e]
  have hal := appV_acts _ S hi p3 s2
  have hga := shells_all (groups ks) hi (by rw [g1]; exact d.seg)
  rw [g1] at hga
  have hgm := shells_mass (groups ks) (fun g hg => (g3 g hg).1)
  rw [g1] at hgm
  have hwl : (waits ((groups ks).map shell) S).length = (ks.length + 3) / 4 := by rw [a5, List.length_map, g2]
  have hne : waits ((groups ks).map shell) S ≠ [] := fun e0 => by
    rw [e0] at a5
    simp at a5
    exact p2 (List.eq_nil_of_length_eq_zero (by omega))
  refine ⟨a1, ?_, hne, by rw [a2, ← hal, hga, s1], by rw [a3, hgm, s1], hwl⟩
  have hz : ∀ (l m : List Nd) (x : Option (List UInt8)), l ≠ [] → m ≠ [] → nextLow l x = nextLow m x → headLow l = headLow m := fun l m x h1 h2 h3 => by
    cases l with
    | nil => exact absurd rfl h1
    | cons a l => cases m with
      | nil => exact absurd rfl h2
      | cons b m => exact Option.some.inj h3
  rw [hz _ _ hi hne hne2 a4, p4]

/-! ### Leaves -/
theorem leaves_seg : ∀ (qs : List (List Pair)) (q : List Pair) (lo : List UInt8) (hi : Option (List UInt8)), (∀ g ∈ q :: qs, g ≠ [] ∧ g.length ≤ 4) → pairsOk (q ++ qs.flatten) → (∀ x ∈ q ++ qs.flatten, In lo hi x.key) →
    Seg (WF 0) (.mk lo [] [] q :: qs.map leafOf) hi ∧ Nd.alls (.mk lo [] [] q :: qs.map leafOf) = q ++ qs.flatten ∧ Nd.masss (.mk lo [] [] q :: qs.map leafOf) = qs.length + 1
  | [], q, lo, hi, h1, h2, h3 => by
    simp only [List.flatten_nil, List.append_nil] at h2 h3
    obtain ⟨hq, hq4⟩ := h1 q List.mem_cons_self
    have hw : WF 0 hi (.mk lo [] [] q) := ⟨rfl, rfl, hq4, h2, h3, fun b hb => by
      cases q with
      | nil => exact absurd rfl hq
      | cons x q => exact ge_lt ((h3 x List.mem_cons_self).2 b hb) (h3 x List.mem_cons_self).1⟩
    refine ⟨⟨hw, trivial⟩, ?_, rfl⟩
    rw [Nd.alls, hw.all_leaf]; rfl
  | q2 :: qs, q, lo, hi, h1, h2, h3 => by
    obtain ⟨hq, hq4⟩ := h1 q List.mem_cons_self
    obtain ⟨hq2, _⟩ := h1 q2 (List.mem_cons_of_mem _ List.mem_cons_self)
    rw [pairsOk_iff] at h2
    obtain ⟨h2a, h2b, h2c⟩ := List.pairwise_append.1 h2.1
    obtain ⟨y, ys, rfl⟩ : ∃ y ys, q2 = y :: ys := by
      cases q2 with
      | nil => exact absurd rfl hq2
      | cons y ys => exact ⟨y, ys, rfl⟩
    have hrest : pairsOk ((y :: ys) ++ qs.flatten) := (pairsOk_iff _).2 ⟨by rw [List.flatten_cons] at h2b; exact h2b, fun x hx => h2.2 x (List.mem_append_right _ (by simpa using hx))⟩
    have hge : ∀ x ∈ (y :: ys) ++ qs.flatten, In y.key hi x.key := fun x hx => by
      refine ⟨?_, (h3 x (List.mem_append_right _ (by simpa using hx))).2⟩
      have h4 := (pairsOk_iff _).1 hrest
      rcases List.mem_cons.1 hx with rfl | hx
      · exact slt_irrefl _
      · exact ge_of_lt ((List.pairwise_cons.1 h4.1).1 x hx)
    obtain ⟨a1, a2, a3⟩ := leaves_seg qs (y :: ys) y.key hi (fun g hg => h1 g (List.mem_cons_of_mem _ hg)) hrest hge
    have hqlt : ∀ x ∈ q, slt x.key y.key := fun x hx => h2c x hx y (by simp)
    have hw : WF 0 (some y.key) (.mk lo [] [] q) := ⟨rfl, rfl, hq4, (pairsOk_iff _).2 ⟨h2a, fun x hx => h2.2 x (List.mem_append_left _ hx)⟩, fun x hx => ⟨(h3 x (List.mem_append_left _ hx)).1, fun b hb => by cases hb; exact hqlt x hx⟩, fun b hb => by
      cases hb
      cases q with
      | nil => exact absurd rfl hq
      | cons x q => exact ge_lt (hqlt x List.mem_cons_self) (h3 x (by simp)).1⟩
    have e : leafOf (y :: ys) = .mk y.key [] [] (y :: ys) := rfl
    refine ⟨⟨hw, by rw [List.map_cons, e]; exact a1⟩, ?_, ?_⟩
    · rw [Nd.alls, List.map_cons, e, a2, hw.all_leaf]; rfl
    · rw [Nd.masss, List.map_cons, e, a3]; simp [Nd.mass, Nd.masss]; omega
theorem leavesN_spec {lo : List UInt8} {hi : Option (List UInt8)} {l : List Pair} (hl : pairsOk l) (hin : ∀ x ∈ l, In lo hi x.key) :
    Seg (WF 0) (leavesN lo l) hi ∧ (leavesN lo l ≠ [] → headLow (leavesN lo l) = lo) ∧ (∀ k ∈ leavesN lo l, k.pairs ≠ []) ∧ Nd.alls (leavesN lo l) = l ∧ Nd.masss (leavesN lo l) = (l.length + 3) / 4 := by
  obtain ⟨s1, s2, s3⟩ := share4_spec l
  unfold leavesN
  cases hS : shareV l 4 with
  | nil =>
    rw [hS] at s1 s2
    have : l = [] := by rw [← s1]; rfl
    subst this
    exact ⟨trivial, fun h => absurd rfl h, fun k hk => (by cases hk), rfl, rfl⟩
  | cons q qs =>
    rw [hS] at s1 s2 s3
    rw [List.flatten_cons] at s1
    obtain ⟨a1, a2, a3⟩ := leaves_seg qs q lo hi s3 (by rw [s1]; exact hl) (by rw [s1]; exact hin)
    refine ⟨a1, fun _ => rfl, fun k hk => ?_, by rw [a2, s1], by rw [a3, ← s2]; rfl⟩
    rcases List.mem_cons.1 hk with rfl | hk
    · exact (s3 q List.mem_cons_self).1
    · obtain ⟨g, hg, rfl⟩ := List.mem_map.1 hk
      exact (s3 g (List.mem_cons_of_mem _ hg)).1

/-! ### put -/
theorem pushOne_keys {l : List Note} {y x : Note} (h : x ∈ pushOne l y) : x ∈ l ∨ x.key = y.key := by
  unfold pushOne gPut gLow gHigh at h
  rcases List.mem_append.1 h with h | h
  · rcases List.mem_append.1 h with h | h
    · exact .inl (List.mem_filter.1 h).1
    · simp only [List.mem_singleton] at h
      rw [h]; exact .inr (mergeV_key l y)
  · exact .inl (List.mem_filter.1 h).1
theorem pushV_keys : ∀ (ns : List Note) {l : List Note} {x : Note}, x ∈ pushV l ns → x ∈ l ∨ ∃ y ∈ ns, x.key = y.key
  | [], l, x, h => .inl h
  | y :: ns, l, x, h => by
    rcases pushV_keys ns (l := pushOne l y) h with h | ⟨z, hz, e⟩
    · rcases pushOne_keys h with h | h
      · exact .inl h
      · exact .inr ⟨y, List.mem_cons_self, h⟩
    · exact .inr ⟨z, List.mem_cons_of_mem _ hz, e⟩
theorem put_spec : ∀ h, PutSpec h (putN h)
  | 0, hi, n, ns, w, hn, hin => by
    obtain ⟨w1, w2, w3, w4, w5, w6⟩ := w
    have ha : (applyV n.pairs ns).1 = appV n.pairs ns := by rw [applyV_ok w4 hn]
    have hp := appV_ok ns w4 hn
    obtain ⟨a1, a2, a3, a4, a5⟩ := leavesN_spec (lo := n.low) (hi := hi) hp (fun x hx => by
      rcases appV_key ns hx with hx | ⟨y, hy, e⟩
      · exact w5 x hx
      · rw [e]; exact hin y hy)
    have hlen := appV_len ns ((pairsOk_iff _).1 w4).1
    have hm := mass_pos n
    show PutOK 0 hi n ns (leavesN n.low (applyV n.pairs ns).1)
    rw [ha]
    refine ⟨a1, a2, fun h => absurd rfl h, fun _ => a3, ?_, by rw [a5]; omega⟩
    rw [a4, WF.all_leaf ⟨w1, w2, w3, w4, w5, w6⟩]
  | h + 1, hi, n, ns, w, hn, hin => by
    have hall := w.all_node
    obtain ⟨w1, w2, w3, w4, w5, w6, w7, w8, w9⟩ := w
    obtain ⟨k1, k2⟩ := headLow_of w6
    have hemp : n.kids.isEmpty = false := by
      cases hk : n.kids with
      | nil => exact absurd hk k1
      | cons k ks => rfl
    have hpr : (pushR n.wait ns).1 = pushV n.wait ns := by unfold pushR; rw [if_pos ⟨w3, hn⟩]
    have hwo := (waitOk_iff _).1 w3
    have hpo := pushV_ok ns w3 hn
    have hpl := pushV_len ns hwo.1
    have hpin : ∀ x ∈ pushV n.wait ns, In n.low hi x.key := fun x hx => by
      rcases pushV_keys ns hx with h1 | ⟨y, hy, e⟩
      · exact w4 x h1
      · rw [e]; exact hin y hy
    have d0 : DI h n.low hi n.kids (pushV n.wait ns) := ⟨w7, w6, w8, hpo, hpin⟩
    obtain ⟨d1, d2, d3, d4⟩ := drain_spec (put_spec h) (pushV n.wait ns).length n.kids (pushV n.wait ns) d0 (Nat.le_refl _)
    have e : putN (h + 1) n ns = partsN n.low (drainN (putN h) (pushV n.wait ns).length n.kids (pushV n.wait ns)).1 (drainN (putN h) (pushV n.wait ns).length n.kids (pushV n.wait ns)).2 := by
      rw [putN, hemp, hpr]; rfl
    have ps := parts_spec d1 d3
    rw [e]
    have hmn : n.mass = n.wait.length + Nd.masss n.kids := by
      cases n with
      | mk l ks ww p =>
        have : ks.isEmpty = false := hemp
        rw [Nd.mass, this]; rfl
    have hsk := (seg_all n.kids hi w7).1
    refine ⟨ps.seg, fun _ => ps.head, fun _ => ps.some, fun h0 => (by cases h0), ?_, by rw [ps.mass, hmn]; omega⟩
    rw [ps.all, d2, push_does ((pairsOk_iff _).1 hsk).1 w3 hn, appV_app, hall]
end Go.Proofs.Ytofmiaecjnfeaaa
set_option linter.unusedVariables false
set_option linter.unusedSimpArgs false
set_option maxRecDepth 8000
namespace Go.Proofs.Ytofmiaecjnfeaaa
open Go Go.Proofs Go.Proofs.YtofmiaecjnfeaaaVm Go.Proofs.Ytofmiaecjnfeaaa.Ty

def growN : Nat → List Nd → List Nd
  | 0, l => l
  | f + 1, l => if 1 < l.length then growN f (partsN [] l []) else l
def collapseN : Nat → Nd → Nd
  | 0, n => n
  | f + 1, .mk _ [k] [] _ => collapseN f k
  | _ + 1, n => n
/-- A tree: its first node, or none. -/
abbrev Tr := Option Nd
def topN : Tr → Nd
  | none => .mk [] [] [] []
  | some n => n
def Tr.pv : Tr → PV
  | none => .agg [.nilp]
  | some n => .agg [n.pv]
def headNd : List Nd → Nd
  | [] => .mk [] [] [] []
  | k :: _ => k
def applyT (h : Nat) (t : Tr) (ns : List Note) : Tr := match putN h (topN t) ns with
  | [] => none
  | k :: ks => some (collapseN (h + (k :: ks).length) (headNd (growN (k :: ks).length (k :: ks))))
structure Root (h : Nat) (n : Nd) (L : List Pair) (M : Nat) : Prop where
  wf : WF h none n
  low : n.low = []
  all : n.all = L
  mass : n.mass ≤ M
def GoodT (t : Tr) (L : List Pair) (H M : Nat) : Prop := ∃ h, h ≤ H ∧ Root h (topN t) L M
theorem nil_wait : waitOk [] := (waitOk_iff []).2 ⟨.nil, fun x hx => (by cases hx)⟩
theorem GoodT.empty : GoodT .none [] 0 1 := ⟨0, by omega, ⟨rfl, rfl, by show 0 ≤ 4; omega, pairsOk_nil, fun x hx => (by cases hx), fun b hb => (by cases hb)⟩, rfl, by
  show Nd.all (.mk [] [] [] []) = []
  rw [Nd.all_eq]
  show (applyV ([] ++ Nd.alls []) []).1 = []
  rw [Nd.alls, List.append_nil, applyV_ok pairsOk_nil (fun x hx => by cases hx)]; rfl, by simp [topN, Nd.mass, Nd.masss]⟩
theorem GoodT.mono {t : Tr} {L : List Pair} {H H' M M' : Nat} (g : GoodT t L H M) (hh : H ≤ H') (h : M ≤ M') : GoodT t L H' M' := by
  obtain ⟨d, h0, h1⟩ := g
  exact ⟨d, by omega, h1.wf, h1.low, h1.all, Nat.le_trans h1.mass h⟩
theorem GoodT.ok {t : Tr} {L : List Pair} {H M : Nat} (g : GoodT t L H M) : pairsOk L := by
  obtain ⟨h, _, r⟩ := g
  rw [← r.all]; exact (WF.all h none _ r.wf).1
theorem partsN_nil (l : List Nd) : partsN [] l [] = partsN [] l [] := rfl
theorem grow_spec : ∀ (f h : Nat) (l : List Nd), l.length ≤ f → Seg (WF h) l none → l ≠ [] → headLow l = [] → Full h l → ∃ h' r, growN f l = [r] ∧ h' ≤ h + f ∧ WF h' none r ∧ r.low = [] ∧ r.all = Nd.alls l ∧ r.mass = Nd.masss l
  | 0, h, l, hf, _, hne, _, _ => absurd (List.eq_nil_of_length_eq_zero (by omega)) hne
  | f + 1, h, l, hf, hs, hne, hlow, hfull => by
    unfold growN
    by_cases h1 : 1 < l.length
    · rw [if_pos h1]
      have hd : DI h [] none l [] := ⟨hs, by
        cases l with
        | nil => exact absurd rfl hne
        | cons k ks => exact congrArg some hlow, hfull, nil_wait, fun x hx => (by cases hx)⟩
      have ps := parts_spec hd (by simp)
      obtain ⟨h', r, e1, e2, e3, e4, e5, e6⟩ := grow_spec f (h + 1) (partsN [] l []) (by rw [ps.len]; omega) ps.seg ps.some ps.head (fun h0 => by cases h0)
      refine ⟨h', r, e1, by omega, e3, e4, ?_, by rw [e6, ps.mass]; rfl⟩
      rw [e5, ps.all]; rfl
    · rw [if_neg h1]
      match l, hne with
      | [k], _ =>
        refine ⟨h, k, rfl, by omega, hs.1, hlow, ?_, ?_⟩
        · simp [Nd.alls]
        · simp [Nd.masss]
      | a :: b :: l, _ => simp at h1
theorem collapse_spec : ∀ (f h : Nat) (n : Nd), h ≤ f → WF h none n → n.low = [] → ∃ h', h' ≤ h ∧ WF h' none (collapseN f n) ∧ (collapseN f n).low = [] ∧ (collapseN f n).all = n.all ∧ (collapseN f n).mass = n.mass
  | 0, h, n, hf, w, hl => ⟨h, Nat.le_refl _, w, hl, rfl, rfl⟩
  | f + 1, h, n, hf, w, hl => by
    by_cases hc : ∃ lo k p, n = .mk lo [k] [] p
    · obtain ⟨lo, k, p, rfl⟩ := hc
      cases h with
      | zero => exact absurd w.1 (by simp [Nd.kids])
      | succ h =>
        have hall := w.all_node
        obtain ⟨w1, w2, w3, w4, w5, w6, w7, w8, w9⟩ := w
        have hkl : k.low = [] := by
          have : some k.low = some lo := w6
          rw [Option.some.inj this]; exact hl
        obtain ⟨h', a0, a1, a2, a3, a4⟩ := collapse_spec f h k (by omega) w7.1 hkl
        refine ⟨h', by omega, a1, a2, ?_, ?_⟩
        · show (collapseN f k).all = _
          rw [a3, hall]
          show k.all = appV (Nd.alls [k]) []
          simp [Nd.alls, appV]
        · show (collapseN f k).mass = _
          rw [a4]
          simp [Nd.mass, Nd.masss]
    · have e : collapseN (f + 1) n = n := by
        unfold collapseN
        split
        · rename_i h1; cases h1
        · exact absurd ⟨_, _, _, rfl⟩ hc
        · rfl
      rw [e]
      exact ⟨h, Nat.le_refl _, w, hl, rfl, rfl⟩
/-- Notes, done to a tree. -/
theorem apply_spec {h : Nat} {t : Tr} {L : List Pair} {M : Nat} {ns : List Note} (r : Root h (topN t) L M) (hn : notesOk ns) : GoodT (applyT h t ns) (appV L ns) (h + M + ns.length) (M + ns.length) := by
  have ps := put_spec h none (topN t) ns r.wf hn (fun x hx => ⟨by rw [r.low]; exact slt_nil _, fun b hb => by cases hb⟩)
  have hM := r.mass
  have hM0 := mass_pos (topN t)
  unfold applyT
  cases hp : putN h (topN t) ns with
  | nil =>
    have ha := ps.all
    rw [hp, r.all] at ha
    show GoodT none _ _ _
    rw [← ha]
    exact GoodT.empty.mono (by omega) (by omega)
  | cons k ks =>
    have hms := ps.mass
    have hlen := masss_len (k :: ks)
    rw [hp] at hms
    have hl0 : headLow (k :: ks) = [] := by
      have := ps.head (by rw [hp]; simp)
      rw [hp] at this
      rw [this, r.low]
    obtain ⟨h', g, e1, e2, e3, e4, e5, e6⟩ := grow_spec (k :: ks).length h (k :: ks) (Nat.le_refl _) (by rw [← hp]; exact ps.seg) (by simp) hl0 (fun h0 _ => by rw [← hp]; exact ps.full h0)
    obtain ⟨h2, c0, c1, c2, c3, c4⟩ := collapse_spec (h + (k :: ks).length) h' g (by omega) e3 e4
    have hd : headNd (growN (k :: ks).length (k :: ks)) = g := by rw [e1]; rfl
    simp only [hd]
    refine ⟨h2, by omega, c1, c2, ?_, ?_⟩
    · show (collapseN _ g).all = _
      rw [c3, e5, ← hp, ps.all, r.all]
    · show (collapseN _ g).mass ≤ _
      rw [c4, e6]; omega

/-! ### The value of a key -/
def belowGo (key : List UInt8) : Nd → List Nd → Nd
  | out, [] => out
  | out, k :: ks => belowGo key (if slt key k.low then out else k) ks
def belowN (ks : List Nd) (key : List UInt8) : Nd := match ks with
  | [] => .mk [] [] [] []
  | k :: _ => belowGo key k ks
def getN : Nat → Nd → List UInt8 → List UInt8 × Bool
  | 0, n, k => getV n.pairs k
  | h + 1, n, k => if n.kids.isEmpty = true then getV n.pairs k else
      if (findN n.wait k).2 = true then doneV (getN h (belowN n.kids k) k).1 (getN h (belowN n.kids k) k).2 [(findN n.wait k).1] else getN h (belowN n.kids k) k
theorem belowGo_const {key : List UInt8} {c : Nd} : ∀ (l : List Nd), (∀ k ∈ l, slt key k.low) → belowGo key c l = c
  | [], _ => rfl
  | x :: l, hl => by rw [belowGo, if_pos (hl x List.mem_cons_self)]; exact belowGo_const l fun y hy => hl y (List.mem_cons_of_mem _ hy)
theorem belowGo_spec {h : Nat} {key : List UInt8} : ∀ (ks : List Nd) (hi : Option (List UInt8)) (c out : Nd), Seg (WF h) (c :: ks) hi → In c.low hi key → ∃ A b B, c :: ks = A ++ b :: B ∧ belowGo key out (c :: ks) = b ∧ In b.low (nextLow B hi) key
  | [], hi, c, out, hs, hin => by
    refine ⟨[], c, [], rfl, ?_, hin⟩
    rw [belowGo, if_neg hin.1]; rfl
  | k :: ks, hi, c, out, hs, hin => by
    by_cases hk : slt key k.low
    · refine ⟨[], c, k :: ks, rfl, ?_, hin.1, fun b hb => by cases hb; exact hk⟩
      rw [belowGo, if_neg hin.1]
      refine belowGo_const _ fun x hx => ?_
      rcases List.mem_cons.1 hx with rfl | hx
      · exact hk
      · exact slt_trans hk (seg_above ks hi k hs.2 x hx)
    · obtain ⟨A, b, B, e1, e2, e3⟩ := belowGo_spec ks hi k c hs.2 ⟨hk, hin.2⟩
      refine ⟨c :: A, b, B, by rw [e1]; rfl, ?_, e3⟩
      rw [belowGo, if_neg hin.1]; exact e2
theorem below_spec {h : Nat} {key : List UInt8} {ks : List Nd} {hi : Option (List UInt8)} (hne : ks ≠ []) (hs : Seg (WF h) ks hi) (hin : In (headLow ks) hi key) :
    ∃ A B, ks = A ++ belowN ks key :: B ∧ In (belowN ks key).low (nextLow B hi) key ∧ WF h (nextLow B hi) (belowN ks key) ∧ val (Nd.alls ks) key = val (belowN ks key).all key := by
  cases ks with
  | nil => exact absurd rfl hne
  | cons c ks =>
    obtain ⟨A, b, B, e1, e2, e3⟩ := belowGo_spec ks hi c c hs hin
    have eb : belowN (c :: ks) key = b := e2
    rw [eb, e1]
    rw [e1, seg_app] at hs
    refine ⟨A, B, rfl, e3, hs.2.1, ?_⟩
    rw [alls_app, Nd.alls]
    have hA : ∀ p ∈ Nd.alls A, slt p.key key := fun p hp => lt_ge (((seg_all A _ hs.1).2 p hp).2 b.low rfl) e3.1
    rw [val_app_r hA]
    cases B with
    | nil => rw [Nd.alls, List.append_nil]
    | cons y ys => exact val_app_l fun p hp => lt_ge (e3.2 y.low rfl) ((seg_all (y :: ys) hi hs.2.2).2 p hp).1
theorem doneOne_no {st : List UInt8 × Bool} {x : Note} (hx : x.ok) (h : (doneOne st x).2 = false) : (doneOne st x).1 = [] := by
  rcases hx.2.2 with h1 | h1 | h1
  · rw [doneOne_key st h1.1] at h; cases h
  · rw [doneOne_del st h1.1]
  · have : x.kind ≠ 1 ∧ x.kind ≠ 2 := by omega
    revert h
    simp [doneOne, h1.1]
theorem getN_spec : ∀ (h : Nat) (hi : Option (List UInt8)) (n : Nd) (k : List UInt8), WF h hi n → In n.low hi k → getN h n k = getV n.all k
  | 0, hi, n, k, w, hin => by rw [getN, w.all_leaf]
  | h + 1, hi, n, k, w, hin => by
    have hall := w.all_node
    have hok := (WF.all _ _ _ w).1
    obtain ⟨w1, w2, w3, w4, w5, w6, w7, w8, w9⟩ := w
    obtain ⟨k1, k2⟩ := headLow_of w6
    have hemp : n.kids.isEmpty = false := by
      cases hk : n.kids with
      | nil => exact absurd hk k1
      | cons k ks => rfl
    obtain ⟨A, B, e1, e2, e3, e4⟩ := below_spec k1 w7 (by rw [k2]; exact hin)
    have ih := getN_spec h _ _ k e3 e2
    have hsk := (seg_all n.kids hi w7).1
    have hwo := (waitOk_iff _).1 w3
    have hbok := (WF.all _ _ _ e3).1
    rw [getN, hemp, ih, getV_val hok, getV_val hbok, hall, app_act ((pairsOk_iff _).1 hsk).1 hwo.2, fold_sorted k _ hwo.1, e4]
    unfold findN
    rw [if_pos w3]
    cases hg : gGet Note.key n.wait k with
    | none => simp [actO]
    | some x =>
      have hxo := hwo.2 x (gGet_mem Note.key hg).1
      have hd : ∀ (v : List UInt8) (b : Bool), doneV v b [x] = doneOne (if b = true then v else [], b) x := fun v b => rfl
      simp only [actO, hd, Bool.false_eq_true, if_false, if_true]
      cases hv : val (belowN n.kids k).all k with
      | none =>
        simp only [stepO, Bool.false_eq_true, if_false]
        by_cases h2 : (doneOne ([], false) x).2 = true
        · rw [if_pos h2]; exact Prod.ext rfl h2
        · have h2' : (doneOne ([], false) x).2 = false := by simpa using h2
          rw [if_neg h2]; exact Prod.ext (doneOne_no hxo h2') h2'
      | some v =>
        simp only [stepO, if_true]
        by_cases h2 : (doneOne (v, true) x).2 = true
        · rw [if_pos h2]; exact Prod.ext rfl h2
        · have h2' : (doneOne (v, true) x).2 = false := by simpa using h2
          rw [if_neg h2]; exact Prod.ext (doneOne_no hxo h2') h2'
end Go.Proofs.Ytofmiaecjnfeaaa
set_option linter.unusedVariables false
set_option linter.unusedSimpArgs false
set_option maxRecDepth 8000
namespace Go.Proofs.Ytofmiaecjnfeaaa
open Go Go.Proofs Go.Proofs.YtofmiaecjnfeaaaVm Go.Proofs.Ytofmiaecjnfeaaa.Ty

/-- What is told of a node. -/
structure Info where
  depth : Nat
  kids : Nat
  low : List UInt8
  notes : List Note
  pairs : List Pair
def Info.pv (x : Info) : PV := .agg [.int .i64 x.depth, .int .i64 x.kids, .str x.low, .row (x.notes.map Note.pv), .row (x.pairs.map Pair.pv)]
mutual
def infosN (d : Nat) : Nd → List Info
  | .mk lo ks w p => ⟨d, ks.length, lo, w, p⟩ :: infosL (d + 1) ks
def infosL (d : Nat) : List Nd → List Info
  | [] => []
  | k :: ks => infosN d k ++ infosL d ks
end
def headI (d : Nat) (n : Nd) : Info := ⟨d, n.kids.length, n.low, n.wait, n.pairs⟩
theorem infosN_eq (d : Nat) (n : Nd) : infosN d n = headI d n :: infosL (d + 1) n.kids := by cases n; rw [infosN]; rfl
theorem infosL_app (d : Nat) : ∀ (a b : List Nd), infosL d (a ++ b) = infosL d a ++ infosL d b
  | [], b => rfl
  | k :: a, b => by rw [List.cons_append, infosL, infosL_app d a b, infosL, List.append_assoc]
mutual
theorem infosN_depth (d : Nat) : ∀ n : Nd, ∀ x ∈ infosN d n, d ≤ x.depth
  | .mk lo ks w p, x, hx => by
    rw [infosN] at hx
    rcases List.mem_cons.1 hx with rfl | hx
    · exact Nat.le_refl _
    · exact Nat.le_of_succ_le (infosL_depth (d + 1) ks x hx)
theorem infosL_depth (d : Nat) : ∀ ks : List Nd, ∀ x ∈ infosL d ks, d ≤ x.depth
  | [], x, hx => by cases hx
  | k :: ks, x, hx => by
    rw [infosL] at hx
    rcases List.mem_append.1 hx with hx | hx
    · exact infosN_depth d k x hx
    · exact infosL_depth d ks x hx
end
mutual
theorem infosN_len (d : Nat) : ∀ n : Nd, (infosN d n).length = (infosN 0 n).length
  | .mk lo ks w p => by rw [infosN, infosN, List.length_cons, List.length_cons, infosL_len (d + 1) ks, infosL_len (0 + 1) ks]
theorem infosL_len (d : Nat) : ∀ ks : List Nd, (infosL d ks).length = (infosL 0 ks).length
  | [] => rfl
  | k :: ks => by rw [infosL, infosL, List.length_append, List.length_append, infosN_len d k, infosL_len d ks]
end

/-! ### What stands well -/
def highOf (d : Nat) : List Info → Option (List UInt8)
  | [] => none
  | y :: tl => if y.depth ≤ d then some y.low else highOf d tl
def BetwOK (x : Info) (tl : List Info) : Prop := (∀ z ∈ x.notes, In x.low (highOf x.depth tl) z.key) ∧ ∀ z ∈ x.pairs, In x.low (highOf x.depth tl) z.key
def AllBetw : List Info → Prop
  | [] => True
  | x :: tl => BetwOK x tl ∧ AllBetw tl
theorem allBetw_get : ∀ (l : List Info) (i : Nat) (x : Info), AllBetw l → l[i]? = some x → BetwOK x (l.drop (i + 1))
  | y :: tl, 0, x, h, e => by simp at e; subst e; exact h.1
  | y :: tl, i + 1, x, h, e => allBetw_get tl i x h.2 (by simpa using e)
theorem highOf_skip (e : Nat) : ∀ (a b : List Info), (∀ x ∈ a, e < x.depth) → highOf e (a ++ b) = highOf e b
  | [], b, _ => rfl
  | x :: a, b, h => by
    rw [List.cons_append, highOf, if_neg (by have := h x List.mem_cons_self; omega)]
    exact highOf_skip e a b fun y hy => h y (List.mem_cons_of_mem _ hy)
def RestOK (d : Nat) (hi : Option (List UInt8)) (rest : List Info) : Prop := ∀ e, d ≤ e → highOf e rest = hi
theorem betw_seg {h : Nat} (ih : ∀ d hi n rest, WF h hi n → RestOK d hi rest → AllBetw rest → AllBetw (infosN d n ++ rest)) : ∀ (ks : List Nd) (d : Nat) (hi : Option (List UInt8)) (rest : List Info), Seg (WF h) ks hi → RestOK d hi rest → AllBetw rest → AllBetw (infosL d ks ++ rest)
  | [], d, hi, rest, _, _, h3 => h3
  | k :: ks, d, hi, rest, hs, hr, h3 => by
    rw [infosL, List.append_assoc]
    refine ih d _ k _ hs.1 (fun e he => ?_) (betw_seg ih ks d hi rest hs.2 hr h3)
    cases ks with
    | nil => exact hr e he
    | cons y ys =>
      rw [infosL, infosN_eq]
      simp only [List.cons_append, highOf]
      rw [if_pos (by exact he)]; rfl
theorem betw_all : ∀ (h d : Nat) (hi : Option (List UInt8)) (n : Nd) (rest : List Info), WF h hi n → RestOK d hi rest → AllBetw rest → AllBetw (infosN d n ++ rest)
  | 0, d, hi, n, rest, w, hr, h3 => by
    obtain ⟨w1, w2, w3, w4, w5, w6⟩ := w
    rw [infosN_eq, w1, infosL]
    refine ⟨⟨fun z hz => ?_, fun z hz => ?_⟩, h3⟩
    · have hz : z ∈ n.wait := hz
      rw [w2] at hz; cases hz
    · show In n.low (highOf d ([] ++ rest)) z.key
      rw [List.nil_append, hr d (Nat.le_refl _)]; exact w5 z hz
  | h + 1, d, hi, n, rest, w, hr, h3 => by
    obtain ⟨w1, w2, w3, w4, w5, w6, w7, w8, w9⟩ := w
    rw [infosN_eq, List.cons_append]
    have hh : highOf d (infosL (d + 1) n.kids ++ rest) = hi := by
      rw [highOf_skip d _ _ (fun x hx => infosL_depth (d + 1) n.kids x hx)]; exact hr d (Nat.le_refl _)
    refine ⟨⟨fun z hz => ?_, fun z hz => ?_⟩, betw_seg (betw_all h) n.kids (d + 1) hi rest w7 (fun e he => hr e (by omega)) h3⟩
    · show In n.low (highOf d (infosL (d + 1) n.kids ++ rest)) z.key
      rw [hh]; exact w4 z hz
    · have hz : z ∈ n.pairs := hz
      rw [w1] at hz; cases hz
/-- How two nodes stand, the one ahead of the other. -/
def Ahead (x y : Info) : Prop := ¬ slt y.low x.low ∧ ¬ (y.low = x.low ∧ y.depth ≤ x.depth)
theorem info_seg {h : Nat} (ih : ∀ d hi n, WF h hi n → (infosN d n).Pairwise Ahead ∧ ∀ x ∈ infosN d n, In n.low hi x.low ∧ waitOk x.notes ∧ pairsOk x.pairs) : ∀ (ks : List Nd) (d : Nat) (hi : Option (List UInt8)), Seg (WF h) ks hi →
    (infosL d ks).Pairwise Ahead ∧ ∀ x ∈ infosL d ks, In (headLow ks) hi x.low ∧ waitOk x.notes ∧ pairsOk x.pairs
  | [], d, hi, _ => ⟨.nil, fun x hx => by cases hx⟩
  | k :: ks, d, hi, hs => by
    obtain ⟨a1, a2⟩ := ih d _ k hs.1
    obtain ⟨b1, b2⟩ := info_seg ih ks d hi hs.2
    have hg := seg_gap (k :: ks) hi hs
    rw [infosL]
    refine ⟨List.pairwise_append.2 ⟨a1, b1, fun x hx y hy => ?_⟩, fun x hx => ?_⟩
    · cases ks with
      | nil => cases hy
      | cons z zs =>
        have h1 : slt x.low y.low := lt_ge ((a2 x hx).1.2 z.low rfl) (b2 y hy).1.1
        exact ⟨slt_asymm h1, fun e => by rw [e.1] at h1; exact slt_irrefl _ h1⟩
    · rcases List.mem_append.1 hx with h1 | h1
      · obtain ⟨q1, q2⟩ := a2 x h1
        refine ⟨⟨q1.1, fun b hb => ?_⟩, q2⟩
        cases ks with
        | nil => exact q1.2 b hb
        | cons z zs => exact slt_trans (q1.2 z.low rfl) (hg z (List.mem_cons_of_mem _ List.mem_cons_self) b hb)
      · obtain ⟨q1, q2⟩ := b2 x h1
        refine ⟨⟨?_, q1.2⟩, q2⟩
        cases ks with
        | nil => cases h1
        | cons z zs => exact ge_trans q1.1 (ge_of_lt (hs.1.gap z.low rfl))
theorem info_all : ∀ (h d : Nat) (hi : Option (List UInt8)) (n : Nd), WF h hi n → (infosN d n).Pairwise Ahead ∧ ∀ x ∈ infosN d n, In n.low hi x.low ∧ waitOk x.notes ∧ pairsOk x.pairs
  | 0, d, hi, n, w => by
    obtain ⟨w1, w2, w3, w4, w5, w6⟩ := w
    rw [infosN_eq, w1, infosL]
    refine ⟨.cons (fun x hx => by cases hx) .nil, fun x hx => ?_⟩
    simp only [List.mem_singleton] at hx
    subst hx
    exact ⟨⟨slt_irrefl _, w6⟩, by show waitOk n.wait; rw [w2]; exact nil_wait, w4⟩
  | h + 1, d, hi, n, w => by
    obtain ⟨w1, w2, w3, w4, w5, w6, w7, w8, w9⟩ := w
    obtain ⟨a1, a2⟩ := info_seg (info_all h) n.kids (d + 1) hi w7
    rw [(headLow_of w6).2] at a2
    rw [infosN_eq]
    refine ⟨.cons (fun y hy => ⟨(a2 y hy).1.1, fun e => ?_⟩) a1, fun x hx => ?_⟩
    · have := infosL_depth (d + 1) n.kids y hy
      have e2 : y.depth ≤ d := e.2
      omega
    · rcases List.mem_cons.1 hx with rfl | hx
      · exact ⟨⟨slt_irrefl _, w9⟩, w3, by show pairsOk n.pairs; rw [w1]; exact pairsOk_nil⟩
      · exact a2 x hx
/-- How deep they are. -/
theorem deep_all : ∀ (h d : Nat) (hi : Option (List UInt8)) (n : Nd), WF h hi n → (∀ x ∈ infosN d n, x.depth ≤ d + h) ∧ ∃ x ∈ infosN d n, x.depth = d + h
  | 0, d, hi, n, w => by
    rw [infosN_eq, w.1, infosL]
    refine ⟨fun x hx => ?_, headI d n, List.mem_cons_self, rfl⟩
    simp only [List.mem_singleton] at hx
    subst hx; exact Nat.le_refl _
  | h + 1, d, hi, n, w => by
    obtain ⟨w1, w2, w3, w4, w5, w6, w7, w8, w9⟩ := w
    have key : ∀ (ks : List Nd) (hi : Option (List UInt8)), Seg (WF h) ks hi → (∀ x ∈ infosL (d + 1) ks, x.depth ≤ d + (h + 1)) := by
      intro ks
      induction ks with
      | nil => intro hi _ x hx; cases hx
      | cons k ks ih =>
        intro hi hs x hx
        rw [infosL] at hx
        rcases List.mem_append.1 hx with hx | hx
        · have := (deep_all h (d + 1) _ k hs.1).1 x hx; omega
        · exact ih hi hs.2 x hx
    rw [infosN_eq]
    refine ⟨fun x hx => ?_, ?_⟩
    · rcases List.mem_cons.1 hx with rfl | hx
      · show d ≤ _; omega
      · exact key n.kids hi w7 x hx
    · obtain ⟨k1, _⟩ := headLow_of w6
      cases hk : n.kids with
      | nil => exact absurd hk k1
      | cons k ks =>
        rw [hk] at w7
        obtain ⟨x, hx, e⟩ := (deep_all h (d + 1) _ k w7.1).2
        exact ⟨x, List.mem_cons_of_mem _ (by rw [infosL]; exact List.mem_append_left _ hx), by omega⟩
def deepN (l : List Info) : Nat := l.foldl (fun m x => if m < x.depth then x.depth else m) 0
theorem deep_fold : ∀ (l : List Info) (m D : Nat), m ≤ D → (∀ x ∈ l, x.depth ≤ D) → (m = D ∨ ∃ x ∈ l, x.depth = D) → l.foldl (fun m x => if m < x.depth then x.depth else m) m = D
  | [], m, D, _, _, h => by
    rcases h with h | ⟨x, hx, _⟩
    · exact h
    · cases hx
  | y :: l, m, D, h1, h2, h3 => by
    rw [List.foldl_cons]
    have hy := h2 y List.mem_cons_self
    refine deep_fold l _ D (by split <;> omega) (fun x hx => h2 x (List.mem_cons_of_mem _ hx)) ?_
    rcases h3 with h3 | ⟨x, hx, e⟩
    · left; split <;> omega
    · rcases List.mem_cons.1 hx with rfl | hx
      · left; split <;> omega
      · exact .inr ⟨x, hx, e⟩
theorem deep_is {h : Nat} {n : Nd} (w : WF h none n) : deepN (infosN 0 n) = h := by
  obtain ⟨h1, x, hx, e⟩ := deep_all h 0 none n w
  exact deep_fold _ 0 h (by omega) (fun x hx => by have := h1 x hx; omega) (.inr ⟨x, hx, by omega⟩)

/-! ### The pairs of a tree -/
def leafP (l : List Info) : List Pair := l.flatMap Info.pairs
def atD (e : Nat) (l : List Info) : List Note := (l.filter fun x => decide (x.depth = e)).flatMap Info.notes
def downTo (I : List Info) (d : Nat) : Nat → List Pair → List Pair
  | 0, out => appV out (atD d I)
  | j + 1, out => downTo I d j (appV out (atD (d + j + 1) I))
theorem downTo_last (I : List Info) (d : Nat) : ∀ (j : Nat) (out : List Pair), downTo I d (j + 1) out = appV (downTo I (d + 1) j out) (atD d I)
  | 0, out => rfl
  | j + 1, out => by
    rw [downTo, downTo_last I d j]
    congr 1
    rw [downTo]
    congr 2
    rw [show d + (j + 1) + 1 = d + 1 + j + 1 by omega]
theorem downTo_congr {I I' : List Info} {d : Nat} (h : ∀ e, d ≤ e → atD e I = atD e I') : ∀ (j : Nat) (out : List Pair), downTo I d j out = downTo I' d j out
  | 0, out => by rw [downTo, downTo, h d (Nat.le_refl _)]
  | j + 1, out => by rw [downTo, downTo, downTo_congr h j, h _ (by omega)]
theorem atD_app (e : Nat) (a b : List Info) : atD e (a ++ b) = atD e a ++ atD e b := by simp [atD]
theorem atD_none {e : Nat} {l : List Info} (h : ∀ x ∈ l, ¬ x.depth = e) : atD e l = [] := by
  unfold atD
  rw [filter_none fun x hx => by simpa using h x hx]; rfl
theorem atD_cons (e : Nat) (x : Info) (l : List Info) : atD e (x :: l) = (if x.depth = e then x.notes else []) ++ atD e l := by
  unfold atD
  by_cases h : x.depth = e
  · simp [h]
  · simp [h]
theorem leafP_app (a b : List Info) : leafP (a ++ b) = leafP a ++ leafP b := by simp [leafP]
theorem level_of (d : Nat) : ∀ F : List Nd, atD d (infosL d F) = F.flatMap Nd.wait
  | [] => rfl
  | n :: F => by
    rw [infosL, infosN_eq, atD_app, atD_cons, atD_none (l := infosL (d + 1) n.kids) (fun x hx => by have := infosL_depth (d + 1) n.kids x hx; omega), level_of d F, List.flatMap_cons]
    simp [headI]
theorem level_up (d e : Nat) (he : d + 1 ≤ e) : ∀ F : List Nd, atD e (infosL d F) = atD e (infosL (d + 1) (F.flatMap Nd.kids))
  | [] => rfl
  | n :: F => by
    rw [infosL, infosN_eq, atD_app, atD_cons, level_up d e he F, List.flatMap_cons, infosL_app, atD_app]
    have : ¬ (headI d n).depth = e := by show ¬ d = e; omega
    rw [if_neg this, List.nil_append]
theorem leaf_up (d : Nat) : ∀ F : List Nd, (∀ n ∈ F, n.pairs = []) → leafP (infosL d F) = leafP (infosL (d + 1) (F.flatMap Nd.kids))
  | [], _ => rfl
  | n :: F, h => by
    rw [infosL, infosN_eq, leafP_app, leaf_up d F fun x hx => h x (List.mem_cons_of_mem _ hx), List.flatMap_cons, infosL_app, leafP_app]
    have : leafP (headI d n :: infosL (d + 1) n.kids) = n.pairs ++ leafP (infosL (d + 1) n.kids) := by simp [leafP, headI]
    rw [this, h n List.mem_cons_self, List.nil_append]
theorem kids_seg {h : Nat} : ∀ (F : List Nd) (hi : Option (List UInt8)), Seg (WF (h + 1)) F hi → Seg (WF h) (F.flatMap Nd.kids) hi ∧ nextLow (F.flatMap Nd.kids) hi = nextLow F hi ∧ (∀ n ∈ F, n.pairs = []) ∧ appV (Nd.alls (F.flatMap Nd.kids)) (F.flatMap Nd.wait) = Nd.alls F ∧
    ∀ x ∈ F.flatMap Nd.wait, ¬ slt x.key (headLow F)
  | [], hi, _ => ⟨trivial, rfl, fun n hn => (by cases hn), rfl, fun x hx => by cases hx⟩
  | n :: F, hi, hs => by
    have hall := hs.1.all_node
    obtain ⟨a1, a2, a3, a4, a5⟩ := kids_seg F hi hs.2
    obtain ⟨w1, w2, w3, w4, w5, w6, w7, w8, w9⟩ := hs.1
    obtain ⟨k1, k2⟩ := headLow_of w6
    rw [List.flatMap_cons, List.flatMap_cons]
    refine ⟨(seg_app _ _ _).2 ⟨by rw [a2]; exact w7, a1⟩, ?_, fun x hx => ?_, ?_, fun x hx => ?_⟩
    · rw [nextLow_app]
      cases hk : n.kids with
      | nil => exact absurd hk k1
      | cons y ys =>
        rw [hk] at k2
        exact congrArg some k2
    · rcases List.mem_cons.1 hx with rfl | hx
      · exact w1
      · exact a3 x hx
    · rw [alls_app, Nd.alls]
      cases F with
      | nil =>
        simp only [List.flatMap_nil, Nd.alls, List.append_nil]
        exact hall.symm
      | cons y ys =>
        have hb := seg_all _ hi a1
        have hA := seg_all _ _ w7
        have hbl : headLow ((y :: ys).flatMap Nd.kids) = y.low := by
          cases hc : (y :: ys).flatMap Nd.kids with
          | nil =>
            have := (headLow_of hs.2.1.2.2.2.2.2.1).1
            simp only [List.flatMap_cons, List.append_eq_nil_iff] at hc
            exact absurd hc.1 this
          | cons z zs => rw [hc] at a2; exact Option.some.inj a2
        rw [appV_cut (b := y.low) (fun p hp => (hA.2 p hp).2 _ rfl) (fun x hx => (w4 x hx).2 _ rfl) (fun p hp => by rw [← hbl]; exact (hb.2 p hp).1) a5, a4, hall]
    · rcases List.mem_append.1 hx with hx | hx
      · exact (w4 x hx).1
      · cases F with
        | nil => cases hx
        | cons y ys => exact ge_trans (a5 x hx) (ge_of_lt (hs.1.gap y.low rfl))
theorem down_all : ∀ (h d : Nat) (hi : Option (List UInt8)) (F : List Nd), Seg (WF h) F hi → downTo (infosL d F) d h (leafP (infosL d F)) = Nd.alls F
  | 0, d, hi, F, hs => by
    rw [downTo, level_of]
    have key : ∀ (F : List Nd) (hi : Option (List UInt8)), Seg (WF 0) F hi → F.flatMap Nd.wait = [] ∧ leafP (infosL d F) = Nd.alls F := by
      intro F
      induction F with
      | nil => intro hi _; exact ⟨rfl, rfl⟩
      | cons n F ih =>
        intro hi hs
        obtain ⟨i1, i2⟩ := ih hi hs.2
        refine ⟨by rw [List.flatMap_cons, i1, hs.1.2.1]; rfl, ?_⟩
        rw [infosL, infosN_eq, leafP_app, i2, Nd.alls, hs.1.all_leaf, hs.1.1]
        simp [leafP, headI, infosL]
    obtain ⟨k1, k2⟩ := key F hi hs
    rw [k1, k2]; rfl
  | h + 1, d, hi, F, hs => by
    obtain ⟨a1, a2, a3, a4, a5⟩ := kids_seg F hi hs
    rw [downTo_last, leaf_up d F a3, downTo_congr (fun e he => level_up d e he F), down_all h (d + 1) hi _ a1, level_of, a4]
theorem pairs_is {h : Nat} {n : Nd} (w : WF h none n) : downTo (infosN 0 n) 0 h (leafP (infosN 0 n)) = n.all := by
  have := down_all h 0 none [n] ⟨w, trivial⟩
  simpa [infosL, Nd.alls] using this
theorem leafP_ok {h : Nat} {n : Nd} {hi : Option (List UInt8)} : ∀ (h d : Nat) (F : List Nd), Seg (WF h) F hi → pairsOk (leafP (infosL d F))
  | 0, d, F, hs => by
    have key : ∀ (F : List Nd) (hi : Option (List UInt8)), Seg (WF 0) F hi → leafP (infosL d F) = Nd.alls F := by
      intro F
      induction F with
      | nil => intro hi _; rfl
      | cons n F ih =>
        intro hi hs
        rw [infosL, infosN_eq, leafP_app, ih hi hs.2, Nd.alls, hs.1.all_leaf, hs.1.1]
        simp [leafP, headI, infosL]
    rw [key F hi hs]; exact (seg_all F hi hs).1
  | h + 1, d, F, hs => by
    obtain ⟨a1, a2, a3, a4, a5⟩ := kids_seg F hi hs
    rw [leaf_up d F a3]; exact leafP_ok (n := n) (h := h) h (d + 1) _ a1
end Go.Proofs.Ytofmiaecjnfeaaa
set_option linter.unusedVariables false
set_option linter.unusedSimpArgs false
set_option maxRecDepth 8000
namespace Go.Proofs.Ytofmiaecjnfeaaa
open Nat renaming reduceAdd → uA, reduceLT → uB, reduceEqDiff → uC, reduceLeDiff → uD, reduceSub → uE, reduceMul → uF
open Bool renaming false_eq_true → yA, true_eq_false → yB
open Go Go.Proofs Go.Proofs.YtofmiaecjnfeaaaVm Go.Proofs.Ytofmiaecjnfeaaa.Ty

set_option maxHeartbeats 4000000 in
theorem GrowNode (n : Nat) (hn : n ≤ 1000000) : Ct Try.prog 91 (.n :: YtofmiaecjnfeaaaVm.ops [.int .i64 n]) (.own 26 []) := by
  refine Ct.of_V Try.func91 rfl (by simp [YtofmiaecjnfeaaaVm.ops, Try.f91]) ?_
  refine V.nilk 0 50 1 26 (by simp only [go_sem, ↓reduceIte, reduceCtorEq, yA, yB, uA, uB, uC, uD, uE, uF]) (by simp only [go_sem, ↓reduceIte, reduceCtorEq, yA, yB, uA, uB, uC, uD, uE, uF]) (by simp only [go_sem, ↓reduceIte, reduceCtorEq, yA, yB, uA, uB, uC, uD, uE, uF]) (by decide) ?_
  have h0 : ¬ (n : Int) < 0 := by omega
  have hw0 : IntKind.i64.wrap (((0 : Nat) : Int) - ((0 : Nat) : Int)) = ((0 : Nat) : Int) := by rw [wrap_small'] <;> omega
  have hw : IntKind.i64.wrap ((n : Int) - ((0 : Nat) : Int)) = (n : Int) := by rw [wrap_small'] <;> omega
  have hzv : zeroPV Try.prog 26 1 = some (PV.nilp) := by simp only [go_sem, ↓reduceIte, reduceCtorEq, yA, yB, uA, uB, uC, uD, uE, uF]
  refine V.execS [5] 400 ?_
  by_cases hp : 0 < (n : Int)
  · simp +contextual (maxSteps := 1000000) only [go_sem, ↓reduceIte, reduceCtorEq, yA, yB, uA, uB, uC, uD, uE, uF, Try.f91, h0, Nat.zero_add, Nat.sub_zero, hw0, hw, hp, hzv]
    refine V.exec 19 ?_
    simp +contextual (maxSteps := 1000000) only [go_sem, ↓reduceIte, reduceCtorEq, yA, yB, uA, uB, uC, uD, uE, uF, Nat.zero_add, Nat.sub_zero, hzv]
    refine ⟨⟨by omega, by omega, by omega, by omega⟩, ?_⟩
    change V _ _ _ _ _ _
    refine V.opnB 20 1 26 (List.replicate n (PV.nilp)) (by simp only [go_sem, ↓reduceIte, reduceCtorEq, yA, yB, uA, uB, uC, uD, uE, uF]) (by simp only [go_sem, ↓reduceIte, reduceCtorEq, yA, yB, uA, uB, uC, uD, uE, uF]) fun q hq => ?_
    refine V.exec 400 ?_
    simp +contextual (maxSteps := 1000000) only [go_sem, ↓reduceIte, reduceCtorEq, yA, yB, uA, uB, uC, uD, uE, uF, Nat.zero_add, Nat.sub_zero, hzv]
    exact ⟨Nat.zero_le _, Nat.zero_le _⟩
  · simp +contextual (maxSteps := 1000000) only [go_sem, ↓reduceIte, reduceCtorEq, yA, yB, uA, uB, uC, uD, uE, uF, Try.f91, h0, Nat.zero_add, Nat.sub_zero, hw0, hw, hp, hzv]
/-- All of them, one behind the other. -/
def flatNode (ls : List (List PV)) : List PV := ls.flatten
set_option maxHeartbeats 8000000 in
theorem ConcatNode (ls : List (List PV)) (h1 : ∀ l ∈ ls, ∀ x ∈ l, x.cells.length = 1) (hl : ls.flatten.length ≤ 100000) (hn : ls.length ≤ 1000000) :
    Ct Try.prog 73 (YtofmiaecjnfeaaaVm.ops [.row (ls.map PV.row)]) (.own 26 ls.flatten) := by
  refine Ct.of_V Try.func73 rfl (by simp [YtofmiaecjnfeaaaVm.ops, Try.f73]) ?_
  refine V.exec 400 ?_
  simp +contextual (maxSteps := 1000000) only [go_sem, ↓reduceIte, reduceCtorEq, yA, yB, uA, uB, uC, uD, uE, uF, Try.f73]
  have htl : ∀ i, (ls.take i).flatten.length ≤ ls.flatten.length := fun i => by
    have e : ls = ls.take i ++ ls.drop i := (List.take_append_drop i ls).symm
    have := congrArg (fun l : List (List PV) => l.flatten.length) e
    simp only [List.flatten_append, List.length_append] at this
    omega
  have hts : ∀ (i : Nat) (x : List PV), ls[i]? = some x → (ls.take (i + 1)).flatten = (ls.take i).flatten ++ x := fun i x hx => by
    rw [List.take_add_one, hx]; simp
  refine V.loop (fun m lsx os => ∃ (i : Nat), i ≤ ls.length ∧ m = ls.length - i ∧
        lsx = [(0, .val (.row (ls.map PV.row))), (3, .val (.int .i64 (ls.take i).flatten.length)), (9, .val (.row (ls.map PV.row))), (10, .val (.int .i64 ls.length)), (11, .val (.int .i64 i))] ∧ os = []) 0 ls.length
      [(0, .val (.row (ls.map PV.row))), (3, .val (.int .i64 0)), (9, .val (.row (ls.map PV.row))), (10, .val (.int .i64 ls.length)), (11, .val (.int .i64 0))] [] []
      ⟨0, Nat.zero_le _, rfl, rfl, rfl⟩ (by simp only [go_sem, ↓reduceIte, reduceCtorEq, yA, yB, uA, uB, uC, uD, uE, uF]) ?_
  rintro m lsx os ⟨i, hi, rfl, rfl, rfl⟩
  refine V.exec 400 ?_
  by_cases hlt : i < ls.length
  · have hlt' : (i : Int) < (ls.length : Int) := by omega
    obtain ⟨x, hx⟩ : ∃ x, ls[i]? = some x := ⟨_, List.getElem?_eq_getElem hlt⟩
    have hw : IntKind.i64.wrap ((i : Int) + 1) = ((i + 1 : Nat) : Int) := by rw [wrap_small'] <;> omega
    have hs := hts i x hx
    have h2 := htl (i + 1)
    rw [hs, List.length_append] at h2
    have hw2 : IntKind.i64.wrap (((ls.take i).flatten.length : Int) + (x.length : Int)) = (((ls.take i).flatten.length + x.length : Nat) : Int) := by rw [wrap_small'] <;> omega
    have hw3 : ¬ (((ls.take i).flatten.length + x.length : Nat) : Int) < 0 := by omega
    simp +contextual (maxSteps := 1000000) only [go_sem, ↓reduceIte, reduceCtorEq, yA, yB, uA, uB, uC, uD, uE, uF, hlt', hx, hw, hw2, hw3]
    exact ⟨ls.length - (i + 1), _, [], [], by omega, ⟨i + 1, by omega, rfl, rfl, rfl⟩, by simp only [go_sem, ↓reduceIte, reduceCtorEq, yA, yB, uA, uB, uC, uD, uE, uF, hs, List.length_append]⟩
  · have hlt' : ¬ (i : Int) < (ls.length : Int) := by omega
    obtain rfl : i = ls.length := by omega
    have e0 : ls.take ls.length = ls := List.take_length
    simp +contextual (maxSteps := 1000000) only [go_sem, ↓reduceIte, reduceCtorEq, yA, yB, uA, uB, uC, uD, uE, uF, hlt', e0]
    refine V.call rfl rfl (by simp [dOK]) ⟨91, [], by simp only [go_sem, ↓reduceIte, reduceCtorEq, yA, yB, uA, uB, uC, uD, uE, uF], ⟨_, rfl, rfl, rfl⟩, .inr (.inr (.inl ⟨[.val (.int .i64 ls.flatten.length)], [.int .i64 ls.flatten.length], 26, [], by simp only [go_sem, ↓reduceIte, reduceCtorEq, yA, yB, uA, uB, uC, uD, uE, uF], .inl (by simp only [go_sem, ↓reduceIte, reduceCtorEq, yA, yB, uA, uB, uC, uD, uE, uF]), GrowNode ls.flatten.length (by omega), by simp only [go_sem, ↓reduceIte, reduceCtorEq, yA, yB, uA, uB, uC, uD, uE, uF], rfl, rfl⟩))⟩ ?_
    refine V.exec 400 ?_
    simp +contextual (maxSteps := 1000000) only [go_sem, ↓reduceIte, reduceCtorEq, yA, yB, uA, uB, uC, uD, uE, uF]
    refine V.loop (fun m lsx os => ∃ (i : Nat), i ≤ ls.length ∧ m = ls.length - i ∧
          lsx = [(6, .ref 0), (25, .val (.row (ls.map PV.row))), (26, .val (.int .i64 ls.length)), (27, .val (.int .i64 i))] ∧ os = [.row 26 (ls.take i).flatten]) 1 ls.length
        [(6, .ref 0), (25, .val (.row (ls.map PV.row))), (26, .val (.int .i64 ls.length)), (27, .val (.int .i64 0))] [.row 26 []] [some 2]
        ⟨0, Nat.zero_le _, rfl, rfl, rfl⟩ (by simp only [go_sem, ↓reduceIte, reduceCtorEq, yA, yB, uA, uB, uC, uD, uE, uF]; try decide) ?_
    rintro m lsx os ⟨i, hi, rfl, rfl, rfl⟩
    refine V.exec 400 ?_
    by_cases hlt : i < ls.length
    · have hlt' : (i : Int) < (ls.length : Int) := by omega
      obtain ⟨x, hx⟩ : ∃ x, ls[i]? = some x := ⟨_, List.getElem?_eq_getElem hlt⟩
      have hw : IntKind.i64.wrap ((i : Int) + 1) = ((i + 1 : Nat) : Int) := by rw [wrap_small'] <;> omega
      have hs := hts i x hx
      have h2 := htl (i + 1)
      rw [hs, List.length_append] at h2
      have hxc := h1 x (List.mem_of_getElem? hx)
      generalize hL : (ls.take i).flatten = L at *
      simp +contextual (maxSteps := 1000000) only [go_sem, ↓reduceIte, reduceCtorEq, yA, yB, uA, uB, uC, uD, uE, uF, hlt', hx, hw]
      exact ⟨hxc, ⟨by omega, by omega⟩, ls.length - (i + 1), _, _, [some 7], by omega, ⟨i + 1, by omega, rfl, rfl, rfl⟩, by simp only [go_sem, ↓reduceIte, reduceCtorEq, yA, yB, uA, uB, uC, uD, uE, uF, hs]; try decide⟩
    · have hlt' : ¬ (i : Int) < (ls.length : Int) := by omega
      obtain rfl : i = ls.length := by omega
      simp +contextual (maxSteps := 1000000) only [go_sem, ↓reduceIte, reduceCtorEq, yA, yB, uA, uB, uC, uD, uE, uF, hlt', e0]
set_option maxHeartbeats 4000000 in
theorem GrowPair (n : Nat) (hn : n ≤ 1000000) : Ct Try.prog 81 (.n :: YtofmiaecjnfeaaaVm.ops [.int .i64 n]) (.own 42 []) := by
  refine Ct.of_V Try.func81 rfl (by simp [YtofmiaecjnfeaaaVm.ops, Try.f81]) ?_
  refine V.nilk 0 50 2 42 (by simp only [go_sem, ↓reduceIte, reduceCtorEq, yA, yB, uA, uB, uC, uD, uE, uF]) (by simp only [go_sem, ↓reduceIte, reduceCtorEq, yA, yB, uA, uB, uC, uD, uE, uF]) (by simp only [go_sem, ↓reduceIte, reduceCtorEq, yA, yB, uA, uB, uC, uD, uE, uF]) (by decide) ?_
  have h0 : ¬ (n : Int) < 0 := by omega
  have hw0 : IntKind.i64.wrap (((0 : Nat) : Int) - ((0 : Nat) : Int)) = ((0 : Nat) : Int) := by rw [wrap_small'] <;> omega
  have hw : IntKind.i64.wrap ((n : Int) - ((0 : Nat) : Int)) = (n : Int) := by rw [wrap_small'] <;> omega
  have hzv : zeroPV Try.prog 42 2 = some (PV.agg [.str [], .str []]) := by simp only [go_sem, ↓reduceIte, reduceCtorEq, yA, yB, uA, uB, uC, uD, uE, uF]
  refine V.execS [5] 400 ?_
  by_cases hp : 0 < (n : Int)
  · simp +contextual (maxSteps := 1000000) only [go_sem, ↓reduceIte, reduceCtorEq, yA, yB, uA, uB, uC, uD, uE, uF, Try.f81, h0, Nat.zero_add, Nat.sub_zero, hw0, hw, hp, hzv]
    refine V.exec 19 ?_
    simp +contextual (maxSteps := 1000000) only [go_sem, ↓reduceIte, reduceCtorEq, yA, yB, uA, uB, uC, uD, uE, uF, Nat.zero_add, Nat.sub_zero, hzv]
    refine ⟨⟨by omega, by omega, by omega, by omega⟩, ?_⟩
    change V _ _ _ _ _ _
    refine V.opnB 20 2 42 (List.replicate n (PV.agg [.str [], .str []])) (by simp only [go_sem, ↓reduceIte, reduceCtorEq, yA, yB, uA, uB, uC, uD, uE, uF]) (by simp only [go_sem, ↓reduceIte, reduceCtorEq, yA, yB, uA, uB, uC, uD, uE, uF]) fun q hq => ?_
    refine V.exec 400 ?_
    simp +contextual (maxSteps := 1000000) only [go_sem, ↓reduceIte, reduceCtorEq, yA, yB, uA, uB, uC, uD, uE, uF, Nat.zero_add, Nat.sub_zero, hzv]
    exact ⟨Nat.zero_le _, Nat.zero_le _⟩
  · simp +contextual (maxSteps := 1000000) only [go_sem, ↓reduceIte, reduceCtorEq, yA, yB, uA, uB, uC, uD, uE, uF, Try.f81, h0, Nat.zero_add, Nat.sub_zero, hw0, hw, hp, hzv]
/-- All of them, one behind the other. -/
def flatPair (ls : List (List PV)) : List PV := ls.flatten
set_option maxHeartbeats 8000000 in
theorem ConcatPair (ls : List (List PV)) (h1 : ∀ l ∈ ls, ∀ x ∈ l, x.cells.length = 2) (hl : ls.flatten.length ≤ 100000) (hn : ls.length ≤ 1000000) :
    Ct Try.prog 59 (YtofmiaecjnfeaaaVm.ops [.row (ls.map PV.row)]) (.own 42 ls.flatten) := by
  refine Ct.of_V Try.func59 rfl (by simp [YtofmiaecjnfeaaaVm.ops, Try.f59]) ?_
  refine V.exec 400 ?_
  simp +contextual (maxSteps := 1000000) only [go_sem, ↓reduceIte, reduceCtorEq, yA, yB, uA, uB, uC, uD, uE, uF, Try.f59]
  have htl : ∀ i, (ls.take i).flatten.length ≤ ls.flatten.length := fun i => by
    have e : ls = ls.take i ++ ls.drop i := (List.take_append_drop i ls).symm
    have := congrArg (fun l : List (List PV) => l.flatten.length) e
    simp only [List.flatten_append, List.length_append] at this
    omega
  have hts : ∀ (i : Nat) (x : List PV), ls[i]? = some x → (ls.take (i + 1)).flatten = (ls.take i).flatten ++ x := fun i x hx => by
    rw [List.take_add_one, hx]; simp
  refine V.loop (fun m lsx os => ∃ (i : Nat), i ≤ ls.length ∧ m = ls.length - i ∧
        lsx = [(0, .val (.row (ls.map PV.row))), (3, .val (.int .i64 (ls.take i).flatten.length)), (9, .val (.row (ls.map PV.row))), (10, .val (.int .i64 ls.length)), (11, .val (.int .i64 i))] ∧ os = []) 0 ls.length
      [(0, .val (.row (ls.map PV.row))), (3, .val (.int .i64 0)), (9, .val (.row (ls.map PV.row))), (10, .val (.int .i64 ls.length)), (11, .val (.int .i64 0))] [] []
      ⟨0, Nat.zero_le _, rfl, rfl, rfl⟩ (by simp only [go_sem, ↓reduceIte, reduceCtorEq, yA, yB, uA, uB, uC, uD, uE, uF]) ?_
  rintro m lsx os ⟨i, hi, rfl, rfl, rfl⟩
  refine V.exec 400 ?_
  by_cases hlt : i < ls.length
  · have hlt' : (i : Int) < (ls.length : Int) := by omega
    obtain ⟨x, hx⟩ : ∃ x, ls[i]? = some x := ⟨_, List.getElem?_eq_getElem hlt⟩
    have hw : IntKind.i64.wrap ((i : Int) + 1) = ((i + 1 : Nat) : Int) := by rw [wrap_small'] <;> omega
    have hs := hts i x hx
    have h2 := htl (i + 1)
    rw [hs, List.length_append] at h2
    have hw2 : IntKind.i64.wrap (((ls.take i).flatten.length : Int) + (x.length : Int)) = (((ls.take i).flatten.length + x.length : Nat) : Int) := by rw [wrap_small'] <;> omega
    have hw3 : ¬ (((ls.take i).flatten.length + x.length : Nat) : Int) < 0 := by omega
    simp +contextual (maxSteps := 1000000) only [go_sem, ↓reduceIte, reduceCtorEq, yA, yB, uA, uB, uC, uD, uE, uF, hlt', hx, hw, hw2, hw3]
    exact ⟨ls.length - (i + 1), _, [], [], by omega, ⟨i + 1, by omega, rfl, rfl, rfl⟩, by simp only [go_sem, ↓reduceIte, reduceCtorEq, yA, yB, uA, uB, uC, uD, uE, uF, hs, List.length_append]⟩
  · have hlt' : ¬ (i : Int) < (ls.length : Int) := by omega
    obtain rfl : i = ls.length := by omega
    have e0 : ls.take ls.length = ls := List.take_length
    simp +contextual (maxSteps := 1000000) only [go_sem, ↓reduceIte, reduceCtorEq, yA, yB, uA, uB, uC, uD, uE, uF, hlt', e0]
    refine V.call rfl rfl (by simp [dOK]) ⟨81, [], by simp only [go_sem, ↓reduceIte, reduceCtorEq, yA, yB, uA, uB, uC, uD, uE, uF], ⟨_, rfl, rfl, rfl⟩, .inr (.inr (.inl ⟨[.val (.int .i64 ls.flatten.length)], [.int .i64 ls.flatten.length], 42, [], by simp only [go_sem, ↓reduceIte, reduceCtorEq, yA, yB, uA, uB, uC, uD, uE, uF], .inl (by simp only [go_sem, ↓reduceIte, reduceCtorEq, yA, yB, uA, uB, uC, uD, uE, uF]), GrowPair ls.flatten.length (by omega), by simp only [go_sem, ↓reduceIte, reduceCtorEq, yA, yB, uA, uB, uC, uD, uE, uF], rfl, rfl⟩))⟩ ?_
    refine V.exec 400 ?_
    simp +contextual (maxSteps := 1000000) only [go_sem, ↓reduceIte, reduceCtorEq, yA, yB, uA, uB, uC, uD, uE, uF]
    refine V.loop (fun m lsx os => ∃ (i : Nat), i ≤ ls.length ∧ m = ls.length - i ∧
          lsx = [(6, .ref 0), (25, .val (.row (ls.map PV.row))), (26, .val (.int .i64 ls.length)), (27, .val (.int .i64 i))] ∧ os = [.row 42 (ls.take i).flatten]) 1 ls.length
        [(6, .ref 0), (25, .val (.row (ls.map PV.row))), (26, .val (.int .i64 ls.length)), (27, .val (.int .i64 0))] [.row 42 []] [some 2]
        ⟨0, Nat.zero_le _, rfl, rfl, rfl⟩ (by simp only [go_sem, ↓reduceIte, reduceCtorEq, yA, yB, uA, uB, uC, uD, uE, uF]; try decide) ?_
    rintro m lsx os ⟨i, hi, rfl, rfl, rfl⟩
    refine V.exec 400 ?_
    by_cases hlt : i < ls.length
    · have hlt' : (i : Int) < (ls.length : Int) := by omega
      obtain ⟨x, hx⟩ : ∃ x, ls[i]? = some x := ⟨_, List.getElem?_eq_getElem hlt⟩
      have hw : IntKind.i64.wrap ((i : Int) + 1) = ((i + 1 : Nat) : Int) := by rw [wrap_small'] <;> omega
      have hs := hts i x hx
      have h2 := htl (i + 1)
      rw [hs, List.length_append] at h2
      have hxc := h1 x (List.mem_of_getElem? hx)
      generalize hL : (ls.take i).flatten = L at *
      simp +contextual (maxSteps := 1000000) only [go_sem, ↓reduceIte, reduceCtorEq, yA, yB, uA, uB, uC, uD, uE, uF, hlt', hx, hw]
      exact ⟨hxc, ⟨by omega, by omega⟩, ls.length - (i + 1), _, _, [some 7], by omega, ⟨i + 1, by omega, rfl, rfl, rfl⟩, by simp only [go_sem, ↓reduceIte, reduceCtorEq, yA, yB, uA, uB, uC, uD, uE, uF, hs]; try decide⟩
    · have hlt' : ¬ (i : Int) < (ls.length : Int) := by omega
      obtain rfl : i = ls.length := by omega
      simp +contextual (maxSteps := 1000000) only [go_sem, ↓reduceIte, reduceCtorEq, yA, yB, uA, uB, uC, uD, uE, uF, hlt', e0]
set_option maxHeartbeats 4000000 in
theorem GrowNote (n : Nat) (hn : n ≤ 1000000) : Ct Try.prog 92 (.n :: YtofmiaecjnfeaaaVm.ops [.int .i64 n]) (.own 50 []) := by
  refine Ct.of_V Try.func92 rfl (by simp [YtofmiaecjnfeaaaVm.ops, Try.f92]) ?_
  refine V.nilk 0 50 4 50 (by simp only [go_sem, ↓reduceIte, reduceCtorEq, yA, yB, uA, uB, uC, uD, uE, uF]) (by simp only [go_sem, ↓reduceIte, reduceCtorEq, yA, yB, uA, uB, uC, uD, uE, uF]) (by simp only [go_sem, ↓reduceIte, reduceCtorEq, yA, yB, uA, uB, uC, uD, uE, uF]) (by decide) ?_
  have h0 : ¬ (n : Int) < 0 := by omega
  have hw0 : IntKind.i64.wrap (((0 : Nat) : Int) - ((0 : Nat) : Int)) = ((0 : Nat) : Int) := by rw [wrap_small'] <;> omega
  have hw : IntKind.i64.wrap ((n : Int) - ((0 : Nat) : Int)) = (n : Int) := by rw [wrap_small'] <;> omega
  have hzv : zeroPV Try.prog 50 4 = some (PV.agg [.int .i64 0, .str [], .str [], .int .u64 0]) := by simp only [go_sem, ↓reduceIte, reduceCtorEq, yA, yB, uA, uB, uC, uD, uE, uF]
  refine V.execS [5] 400 ?_
  by_cases hp : 0 < (n : Int)
  · simp +contextual (maxSteps := 1000000) only [go_sem, ↓reduceIte, reduceCtorEq, yA, yB, uA, uB, uC, uD, uE, uF, Try.f92, h0, Nat.zero_add, Nat.sub_zero, hw0, hw, hp, hzv]
    refine V.exec 19 ?_
    simp +contextual (maxSteps := 1000000) only [go_sem, ↓reduceIte, reduceCtorEq, yA, yB, uA, uB, uC, uD, uE, uF, Nat.zero_add, Nat.sub_zero, hzv]
    refine ⟨⟨by omega, by omega, by omega, by omega⟩, ?_⟩
    change V _ _ _ _ _ _
    refine V.opnB 20 4 50 (List.replicate n (PV.agg [.int .i64 0, .str [], .str [], .int .u64 0])) (by simp only [go_sem, ↓reduceIte, reduceCtorEq, yA, yB, uA, uB, uC, uD, uE, uF]) (by simp only [go_sem, ↓reduceIte, reduceCtorEq, yA, yB, uA, uB, uC, uD, uE, uF]) fun q hq => ?_
    refine V.exec 400 ?_
    simp +contextual (maxSteps := 1000000) only [go_sem, ↓reduceIte, reduceCtorEq, yA, yB, uA, uB, uC, uD, uE, uF, Nat.zero_add, Nat.sub_zero, hzv]
    exact ⟨Nat.zero_le _, Nat.zero_le _⟩
  · simp +contextual (maxSteps := 1000000) only [go_sem, ↓reduceIte, reduceCtorEq, yA, yB, uA, uB, uC, uD, uE, uF, Try.f92, h0, Nat.zero_add, Nat.sub_zero, hw0, hw, hp, hzv]
/-- All of them, one behind the other. -/
def flatNote (ls : List (List PV)) : List PV := ls.flatten
set_option maxHeartbeats 8000000 in
theorem ConcatNote (ls : List (List PV)) (h1 : ∀ l ∈ ls, ∀ x ∈ l, x.cells.length = 4) (hl : ls.flatten.length ≤ 100000) (hn : ls.length ≤ 1000000) :
    Ct Try.prog 74 (YtofmiaecjnfeaaaVm.ops [.row (ls.map PV.row)]) (.own 50 ls.flatten) := by
  refine Ct.of_V Try.func74 rfl (by simp [YtofmiaecjnfeaaaVm.ops, Try.f74]) ?_
  refine V.exec 400 ?_
  simp +contextual (maxSteps := 1000000) only [go_sem, ↓reduceIte, reduceCtorEq, yA, yB, uA, uB, uC, uD, uE, uF, Try.f74]
  have htl : ∀ i, (ls.take i).flatten.length ≤ ls.flatten.length := fun i => by
    have e : ls = ls.take i ++ ls.drop i := (List.take_append_drop i ls).symm
    have := congrArg (fun l : List (List PV) => l.flatten.length) e
    simp only [List.flatten_append, List.length_append] at this
    omega
  have hts : ∀ (i : Nat) (x : List PV), ls[i]? = some x → (ls.take (i + 1)).flatten = (ls.take i).flatten ++ x := fun i x hx => by
    rw [List.take_add_one, hx]; simp
  refine V.loop (fun m lsx os => ∃ (i : Nat), i ≤ ls.length ∧ m = ls.length - i ∧
        lsx = [(0, .val (.row (ls.map PV.row))), (3, .val (.int .i64 (ls.take i).flatten.length)), (9, .val (.row (ls.map PV.row))), (10, .val (.int .i64 ls.length)), (11, .val (.int .i64 i))] ∧ os = []) 0 ls.length
      [(0, .val (.row (ls.map PV.row))), (3, .val (.int .i64 0)), (9, .val (.row (ls.map PV.row))), (10, .val (.int .i64 ls.length)), (11, .val (.int .i64 0))] [] []
      ⟨0, Nat.zero_le _, rfl, rfl, rfl⟩ (by simp only [go_sem, ↓reduceIte, reduceCtorEq, yA, yB, uA, uB, uC, uD, uE, uF]) ?_
  rintro m lsx os ⟨i, hi, rfl, rfl, rfl⟩
  refine V.exec 400 ?_
  by_cases hlt : i < ls.length
  · have hlt' : (i : Int) < (ls.length : Int) := by omega
    obtain ⟨x, hx⟩ : ∃ x, ls[i]? = some x := ⟨_, List.getElem?_eq_getElem hlt⟩
    have hw : IntKind.i64.wrap ((i : Int) + 1) = ((i + 1 : Nat) : Int) := by rw [wrap_small'] <;> omega
    have hs := hts i x hx
    have h2 := htl (i + 1)
    rw [hs, List.length_append] at h2
    have hw2 : IntKind.i64.wrap (((ls.take i).flatten.length : Int) + (x.length : Int)) = (((ls.take i).flatten.length + x.length : Nat) : Int) := by rw [wrap_small'] <;> omega
    have hw3 : ¬ (((ls.take i).flatten.length + x.length : Nat) : Int) < 0 := by omega
    simp +contextual (maxSteps := 1000000) only [go_sem, ↓reduceIte, reduceCtorEq, yA, yB, uA, uB, uC, uD, uE, uF, hlt', hx, hw, hw2, hw3]
    exact ⟨ls.length - (i + 1), _, [], [], by omega, ⟨i + 1, by omega, rfl, rfl, rfl⟩, by simp only [go_sem, ↓reduceIte, reduceCtorEq, yA, yB, uA, uB, uC, uD, uE, uF, hs, List.length_append]⟩
  · have hlt' : ¬ (i : Int) < (ls.length : Int) := by omega
    obtain rfl : i = ls.length := by omega
    have e0 : ls.take ls.length = ls := List.take_length
    simp +contextual (maxSteps := 1000000) only [go_sem, ↓reduceIte, reduceCtorEq, yA, yB, uA, uB, uC, uD, uE, uF, hlt', e0]
    refine V.call rfl rfl (by simp [dOK]) ⟨92, [], by simp only [go_sem, ↓reduceIte, reduceCtorEq, yA, yB, uA, uB, uC, uD, uE, uF], ⟨_, rfl, rfl, rfl⟩, .inr (.inr (.inl ⟨[.val (.int .i64 ls.flatten.length)], [.int .i64 ls.flatten.length], 50, [], by simp only [go_sem, ↓reduceIte, reduceCtorEq, yA, yB, uA, uB, uC, uD, uE, uF], .inl (by simp only [go_sem, ↓reduceIte, reduceCtorEq, yA, yB, uA, uB, uC, uD, uE, uF]), GrowNote ls.flatten.length (by omega), by simp only [go_sem, ↓reduceIte, reduceCtorEq, yA, yB, uA, uB, uC, uD, uE, uF], rfl, rfl⟩))⟩ ?_
    refine V.exec 400 ?_
    simp +contextual (maxSteps := 1000000) only [go_sem, ↓reduceIte, reduceCtorEq, yA, yB, uA, uB, uC, uD, uE, uF]
    refine V.loop (fun m lsx os => ∃ (i : Nat), i ≤ ls.length ∧ m = ls.length - i ∧
          lsx = [(6, .ref 0), (25, .val (.row (ls.map PV.row))), (26, .val (.int .i64 ls.length)), (27, .val (.int .i64 i))] ∧ os = [.row 50 (ls.take i).flatten]) 1 ls.length
        [(6, .ref 0), (25, .val (.row (ls.map PV.row))), (26, .val (.int .i64 ls.length)), (27, .val (.int .i64 0))] [.row 50 []] [some 2]
        ⟨0, Nat.zero_le _, rfl, rfl, rfl⟩ (by simp only [go_sem, ↓reduceIte, reduceCtorEq, yA, yB, uA, uB, uC, uD, uE, uF]; try decide) ?_
    rintro m lsx os ⟨i, hi, rfl, rfl, rfl⟩
    refine V.exec 400 ?_
    by_cases hlt : i < ls.length
    · have hlt' : (i : Int) < (ls.length : Int) := by omega
      obtain ⟨x, hx⟩ : ∃ x, ls[i]? = some x := ⟨_, List.getElem?_eq_getElem hlt⟩
      have hw : IntKind.i64.wrap ((i : Int) + 1) = ((i + 1 : Nat) : Int) := by rw [wrap_small'] <;> omega
      have hs := hts i x hx
      have h2 := htl (i + 1)
      rw [hs, List.length_append] at h2
      have hxc := h1 x (List.mem_of_getElem? hx)
      generalize hL : (ls.take i).flatten = L at *
      simp +contextual (maxSteps := 1000000) only [go_sem, ↓reduceIte, reduceCtorEq, yA, yB, uA, uB, uC, uD, uE, uF, hlt', hx, hw]
      exact ⟨hxc, ⟨by omega, by omega⟩, ls.length - (i + 1), _, _, [some 7], by omega, ⟨i + 1, by omega, rfl, rfl, rfl⟩, by simp only [go_sem, ↓reduceIte, reduceCtorEq, yA, yB, uA, uB, uC, uD, uE, uF, hs]; try decide⟩
    · have hlt' : ¬ (i : Int) < (ls.length : Int) := by omega
      obtain rfl : i = ls.length := by omega
      simp +contextual (maxSteps := 1000000) only [go_sem, ↓reduceIte, reduceCtorEq, yA, yB, uA, uB, uC, uD, uE, uF, hlt', e0]
end Go.Proofs.Ytofmiaecjnfeaaa
set_option linter.unusedVariables false
set_option linter.unusedSimpArgs false
set_option maxRecDepth 8000
namespace Go.Proofs.Ytofmiaecjnfeaaa
open Nat renaming reduceAdd → uA, reduceLT → uB, reduceEqDiff → uC, reduceLeDiff → uD, reduceSub → uE, reduceMul → uF
open Bool renaming false_eq_true → yA, true_eq_false → yB
open Go Go.Proofs Go.Proofs.YtofmiaecjnfeaaaVm Go.Proofs.Ytofmiaecjnfeaaa.Ty

set_option maxHeartbeats 2000000 in
theorem CloneNode (xs : List PV) (h1 : ∀ x ∈ xs, x.cells.length = 1) (hl : xs.length ≤ 1000000) : Ct Try.prog 41 (YtofmiaecjnfeaaaVm.ops [.row xs]) (.own 26 xs) := by
  refine Ct.of_V Try.func41 rfl (by simp [YtofmiaecjnfeaaaVm.ops, Try.f41]) ?_
  refine V.exec 400 ?_
  simp +contextual (maxSteps := 1000000) only [go_sem, ↓reduceIte, reduceCtorEq, yA, yB, uA, uB, uC, uD, uE, uF, Try.f41]
  refine V.nilq (xs := xs) rfl rfl (.inl rfl) (by simp only [go_sem, ↓reduceIte, Nat.reduceEqDiff]) (by simp only [go_sem]; rfl) (by simp [dOK]) fun c hc => ?_
  refine V.exec 400 ?_
  simp +contextual (maxSteps := 1000000) only [go_sem, ↓reduceIte, reduceCtorEq, yA, yB, uA, uB, uC, uD, uE, uF]
  exact ⟨fun h => ⟨hc h, 1, rfl, by decide⟩, fun _ => ⟨h1, by omega, by omega⟩⟩
end Go.Proofs.Ytofmiaecjnfeaaa
set_option linter.unusedVariables false
set_option linter.unusedSimpArgs false
set_option maxRecDepth 8000
namespace Go.Proofs.Ytofmiaecjnfeaaa
open Nat renaming reduceAdd → uA, reduceLT → uB, reduceEqDiff → uC, reduceLeDiff → uD, reduceSub → uE, reduceMul → uF
open Bool renaming false_eq_true → yA, true_eq_false → yB
open Go Go.Proofs Go.Proofs.YtofmiaecjnfeaaaVm Go.Proofs.Ytofmiaecjnfeaaa.Ty

theorem Nd.pv_cells (n : Nd) : n.pv.cells = [n.pv] := by rw [Nd.pv_eq]; rfl
theorem Nd.pv_isAgg (n : Nd) : n.pv.isAgg = false := by rw [Nd.pv_eq]; rfl
attribute [go_sem] Nd.pv_cells Nd.pv_isAgg
theorem nodePtr : ∃ e, Try.prog.underlying 26 = some (.pointer e) := ⟨63, by kernel_rfl⟩
theorem bin_nil : binPV Try.prog .eql 26 .nilp .nilp = some (.bool true) := by
  simp only [binPV, if_pos nodePtr]
theorem bin_ptr (x : PV) : binPV Try.prog .eql 26 (.ptr x) .nilp = some (.bool false) := by
  simp only [binPV, if_pos nodePtr]
theorem tree_top (t : Tr) : Ct Try.prog 26 (YtofmiaecjnfeaaaVm.ops [Tr.pv t]) (.vals [(topN t).pv]) := by
  cases t with
  | none =>
    refine Ct.of_V Try.func26 rfl (by simp [YtofmiaecjnfeaaaVm.ops, Try.f26]) ?_
    refine V.exec 400 ?_
    simp +contextual (maxSteps := 1000000) only [go_sem, ↓reduceIte, reduceCtorEq, yA, yB, uA, uB, uC, uD, uE, uF, Try.f26, Tr.pv, topN, bin_nil, Nd.pv_eq, Nd.low, Nd.kids, Nd.wait, Nd.pairs]
  | some n =>
    have e := Nd.pv_eq n
    simp only [Tr.pv, topN, e]
    refine Ct.of_V Try.func26 rfl (by simp [YtofmiaecjnfeaaaVm.ops, Try.f26]) ?_
    refine V.exec 400 ?_
    simp +contextual (maxSteps := 1000000) only [go_sem, ↓reduceIte, reduceCtorEq, yA, yB, uA, uB, uC, uD, uE, uF, Try.f26, bin_ptr]

set_option maxHeartbeats 4000000 in
theorem tree_lows (ks : List Nd) (hl : ks.length ≤ 1000000) : Ct Try.prog 45 (YtofmiaecjnfeaaaVm.ops [.row (ks.map Nd.pv)]) (.own 9 ((ks.map Nd.low).map PV.str)) := by
  refine Ct.of_V Try.func45 rfl (by simp [YtofmiaecjnfeaaaVm.ops, Try.f45]) ?_
  refine V.exec 400 ?_
  simp +contextual (maxSteps := 1000000) only [go_sem, ↓reduceIte, reduceCtorEq, yA, yB, uA, uB, uC, uD, uE, uF, Try.f45]
  refine V.loop (fun m ls os => ∃ (i : Nat), i ≤ ks.length ∧ m = ks.length - i ∧
        ls = [(3, .ref 0), (6, .val (.row (ks.map Nd.pv))), (7, .val (.int .i64 ks.length)), (8, .val (.int .i64 i))] ∧ os = [.row 9 (((ks.take i).map Nd.low).map PV.str)]) 1 ks.length
      [(3, .ref 0), (6, .val (.row (ks.map Nd.pv))), (7, .val (.int .i64 ks.length)), (8, .val (.int .i64 0))] [.row 9 []] [none]
      ⟨0, Nat.zero_le _, rfl, rfl, rfl⟩ (by simp only [go_sem, ↓reduceIte, reduceCtorEq, yA, yB, uA, uB, uC, uD, uE, uF]; try decide) ?_
  rintro m ls os ⟨i, hi, rfl, rfl, rfl⟩
  refine V.exec 400 ?_
  by_cases hlt : i < ks.length
  · have hlt' : (i : Int) < (ks.length : Int) := by omega
    obtain ⟨x, hx⟩ : ∃ x, ks[i]? = some x := ⟨_, List.getElem?_eq_getElem hlt⟩
    have hw : IntKind.i64.wrap ((i : Int) + 1) = ((i + 1 : Nat) : Int) := by rw [wrap_small3] <;> omega
    have e := Nd.pv_eq x
    have ht : ks.take (i + 1) = ks.take i ++ [x] := by rw [List.take_add_one, hx]; rfl
    have hlen : (ks.take i).length ≤ ks.length := by rw [List.length_take]; omega
    generalize hL : ks.take i = L at *
    simp +contextual (maxSteps := 1000000) only [go_sem, ↓reduceIte, reduceCtorEq, yA, yB, uA, uB, uC, uD, uE, uF, hlt', hx, hw, e]
    exact ⟨⟨by omega, by omega⟩, ks.length - (i + 1), _, _, [some 11], by omega, ⟨i + 1, by omega, rfl, rfl, rfl⟩, by simp only [go_sem, ↓reduceIte, reduceCtorEq, yA, yB, uA, uB, uC, uD, uE, uF, ht, List.map_append]; try decide⟩
  · have hlt' : ¬ (i : Int) < (ks.length : Int) := by omega
    obtain rfl : i = ks.length := by omega
    have et : ks.take ks.length = ks := List.take_length
    simp +contextual (maxSteps := 1000000) only [go_sem, ↓reduceIte, reduceCtorEq, yA, yB, uA, uB, uC, uD, uE, uF, hlt', et]
end Go.Proofs.Ytofmiaecjnfeaaa
set_option linter.unusedVariables false
set_option linter.unusedSimpArgs false
set_option maxRecDepth 8000
namespace Go.Proofs.Ytofmiaecjnfeaaa
open Go Go.Proofs Go.Proofs.YtofmiaecjnfeaaaVm Go.Proofs.Ytofmiaecjnfeaaa.Ty

structure Change where
  seq : Int
  key : List UInt8
  had : Bool
  bef : List UInt8
  has : Bool
  aft : List UInt8
  deriving DecidableEq
def Change.pv (c : Change) : PV := .agg [.int .i64 c.seq, .str c.key, .bool (decide (c.had = true)), .str c.bef, .bool (decide (c.has = true)), .str c.aft]
/-- May a change be? -/
def Change.ok (c : Change) : Prop := c.key.length ≤ 16 ∧ c.bef.length ≤ 32 ∧ c.aft.length ≤ 32 ∧ 1 ≤ c.seq ∧ c.seq ≤ 2147483647 ∧ (c.had = true ∨ c.bef = []) ∧ (c.has = true ∨ c.aft = []) ∧ (c.had = true ∨ c.has = true)
instance Change.instOk (c : Change) : Decidable c.ok := by unfold Change.ok; infer_instance

theorem pairsOk_one (k v : List UInt8) : pairsOk [⟨k, v⟩] ↔ k.length ≤ 16 ∧ v.length ≤ 32 := by simp [pairsOk, pairsFrom]

end Go.Proofs.Ytofmiaecjnfeaaa
set_option linter.unusedVariables false
set_option linter.unusedSimpArgs false
set_option maxRecDepth 8000
namespace Go.Proofs.Ytofmiaecjnfeaaa
open Go Go.Proofs Go.Proofs.YtofmiaecjnfeaaaVm Go.Proofs.Ytofmiaecjnfeaaa.Ty

/-- Changes whose numbers rise. -/
def trailFrom : Option Int → List Change → Prop
  | _, [] => True
  | last, c :: r => c.ok ∧ (∀ s, last = some s → s < c.seq) ∧ trailFrom (some c.seq) r
def trailOk (l : List Change) : Prop := trailFrom none l
instance instTF : ∀ (last : Option Int) (l : List Change), Decidable (trailFrom last l)
  | _, [] => isTrue trivial
  | none, s :: r => by
    unfold trailFrom
    have := instTF (some s.seq) r
    have : Decidable (∀ k, none = some k → k < s.seq) := isTrue (fun k h => by cases h)
    infer_instance
  | some k, s :: r => by
    unfold trailFrom
    have := instTF (some s.seq) r
    have : Decidable (∀ k', some k = some k' → k' < s.seq) := decidable_of_iff (k < s.seq) ⟨fun h k' e => by cases e; exact h, fun h => h k rfl⟩
    infer_instance
instance instTrailOk (l : List Change) : Decidable (trailOk l) := by unfold trailOk; infer_instance
def prevSeq (l : List Change) (i : Nat) : Option Int := if i = 0 then none else (l[i - 1]?).map Change.seq

end Go.Proofs.Ytofmiaecjnfeaaa
set_option linter.unusedVariables false
set_option linter.unusedSimpArgs false
set_option maxRecDepth 8000
namespace Go.Proofs.Ytofmiaecjnfeaaa
open Go Go.Proofs Go.Proofs.YtofmiaecjnfeaaaVm Go.Proofs.Ytofmiaecjnfeaaa.Ty

end Go.Proofs.Ytofmiaecjnfeaaa
set_option linter.unusedVariables false
set_option linter.unusedSimpArgs false
set_option maxRecDepth 8000
namespace Go.Proofs.Ytofmiaecjnfeaaa
open Go Go.Proofs Go.Proofs.YtofmiaecjnfeaaaVm Go.Proofs.Ytofmiaecjnfeaaa.Ty

structure Range where
  lo : List UInt8
  hi : List UInt8
  op : Bool
  deriving DecidableEq
def Range.pv (r : Range) : PV := .agg [.str r.lo, .str r.hi, .bool (decide (r.op = true))]
def Range.ok (r : Range) : Prop := r.lo.length ≤ 16 ∧ r.hi.length ≤ 17 ∧ (r.op = true → r.hi = [])
instance Range.instOk (r : Range) : Decidable r.ok := by unfold Range.ok; infer_instance

structure Sub where
  id : Int
  r : Range
  live : Bool
  next : List UInt8
  cur : Int
  deriving DecidableEq
def Sub.pv (s : Sub) : PV := .agg [.int .i64 s.id, .str s.r.lo, .str s.r.hi, .bool (decide (s.r.op = true)), .bool (decide (s.live = true)), .str s.next, .int .i64 s.cur]
def Sub.ok (s : Sub) : Prop := s.r.ok ∧ s.next.length ≤ 17 ∧ (s.live = true → s.next = []) ∧ 0 ≤ s.cur ∧ s.cur ≤ 2147483647
instance Sub.instOk (s : Sub) : Decidable s.ok := by unfold Sub.ok; infer_instance

end Go.Proofs.Ytofmiaecjnfeaaa
set_option linter.unusedVariables false
set_option linter.unusedSimpArgs false
set_option maxRecDepth 8000
namespace Go.Proofs.Ytofmiaecjnfeaaa
open Go Go.Proofs Go.Proofs.YtofmiaecjnfeaaaVm Go.Proofs.Ytofmiaecjnfeaaa.Ty

def rightFrom (last : Int) : List Sub → Prop
  | [] => True
  | s :: r => s.ok ∧ last < s.id ∧ rightFrom s.id r
def subsOk (l : List Sub) : Prop := rightFrom 0 l ∧ l.length ≤ 4
instance instRF : ∀ (last : Int) (l : List Sub), Decidable (rightFrom last l)
  | _, [] => isTrue trivial
  | last, s :: r => by
    unfold rightFrom
    have := instRF s.id r
    infer_instance
instance instSubsOk (l : List Sub) : Decidable (subsOk l) := by unfold subsOk; infer_instance

/-- The floor. -/
def floorOf (head : Int) : List Sub → Int
  | [] => head
  | s :: r => floorOf (min head s.cur) r

end Go.Proofs.Ytofmiaecjnfeaaa
set_option linter.unusedVariables false
set_option linter.unusedSimpArgs false
set_option maxRecDepth 8000
namespace Go.Proofs.Ytofmiaecjnfeaaa
open Go Go.Proofs Go.Proofs.YtofmiaecjnfeaaaVm Go.Proofs.Ytofmiaecjnfeaaa.Ty

def Change.of : PV → Change
  | .agg [.int _ s, .str k, .bool h, .str b, .bool h', .str a] => ⟨s, k, h, b, h', a⟩
  | _ => ⟨0, [], false, [], false, []⟩
theorem Change.of_pv (c : Change) : Change.of c.pv = c := by simp [Change.of, Change.pv]
theorem Change.filter_pv (l : List Change) (p : Change → Bool) : (l.map Change.pv).filter (fun x => !p (Change.of x)) = (l.filter fun c => !p c).map Change.pv := by
  induction l with
  | nil => rfl
  | cons s r ih =>
    simp only [List.map_cons, List.filter_cons, Change.of_pv, ih]
    split <;> rfl

def withoutV (l : List Change) (p : Change → Bool) : List Change := if trailOk l then l.filter (fun c => !p c) else []

def dropV (l : List Change) (n : Int) : List Change := withoutV l (fun c => decide (c.seq ≤ n))
end Go.Proofs.Ytofmiaecjnfeaaa
set_option linter.unusedVariables false
set_option linter.unusedSimpArgs false
set_option maxRecDepth 8000
namespace Go.Proofs.Ytofmiaecjnfeaaa
open Nat renaming reduceAdd → uA, reduceLT → uB, reduceEqDiff → uC, reduceLeDiff → uD, reduceSub → uE, reduceMul → uF
open Bool renaming false_eq_true → yA, true_eq_false → yB
open Go Go.Proofs Go.Proofs.YtofmiaecjnfeaaaVm Go.Proofs.Ytofmiaecjnfeaaa.Ty

def Range.isIn (r : Range) (k : List UInt8) : Prop := ¬ slt k r.lo ∧ (r.op = true ∨ slt k r.hi)
instance Range.instIn (r : Range) (k : List UInt8) : Decidable (r.isIn k) := by unfold Range.isIn; infer_instance

theorem stretch_In (r : Range) (k : List UInt8) : Ct Try.prog 58 (YtofmiaecjnfeaaaVm.ops [r.pv, .str k]) (.vals [.bool (decide (r.isIn k))]) := by
  refine Ct.of_V Try.func58 rfl (by simp [YtofmiaecjnfeaaaVm.ops, Try.f58]) ?_
  refine V.exec 400 ?_
  simp +contextual (maxSteps := 1000000) only [go_sem, ↓reduceIte, reduceCtorEq, yA, yB, uA, uB, uC, uD, uE, uF, Try.f58, Range.pv]
  simp only [Option.some.injEq, List.cons.injEq, PV.bool.injEq, and_true]
  grind [Range.isIn]

def maxStr (a b : List UInt8) : List UInt8 := if slt a b then b else a
def minStr (a b : List UInt8) : List UInt8 := if slt a b ∨ a = b then a else b
def meetStep (o r : Range) : Range :=
  if r.op = true then { o with lo := maxStr o.lo r.lo } else if o.op = true then ⟨maxStr o.lo r.lo, r.hi, false⟩ else ⟨maxStr o.lo r.lo, minStr o.hi r.hi, o.op⟩
def meetV (l : List Range) : Range := l.foldl meetStep ⟨[], [], true⟩

end Go.Proofs.Ytofmiaecjnfeaaa
set_option linter.unusedVariables false
set_option linter.unusedSimpArgs false
set_option maxRecDepth 8000
namespace Go.Proofs.Ytofmiaecjnfeaaa
open Nat renaming reduceAdd → uA, reduceLT → uB, reduceEqDiff → uC, reduceLeDiff → uD, reduceSub → uE, reduceMul → uF
open Bool renaming false_eq_true → yA, true_eq_false → yB
open Go Go.Proofs Go.Proofs.YtofmiaecjnfeaaaVm Go.Proofs.Ytofmiaecjnfeaaa.Ty

set_option maxHeartbeats 2000000 in
theorem IndexFuncPair (xs : List PV) (g : FuncId) (caps : List PV) (p : PV → Bool) (h1 : ∀ x ∈ xs, x.cells.length = 2 ∧ x.isAgg = true) (hl : xs.length ≤ 1000000) (hg : Entered Try.prog g)
    (hp : ∀ x ∈ xs, Ct Try.prog g (YtofmiaecjnfeaaaVm.ops ([x] ++ caps)) (.vals [.bool (decide (p x = true))])) (r : Nat) (hr : r ≤ xs.length) (hr1 : ∀ x ∈ xs.take r, p x = false) (hr2 : ∀ x, xs[r]? = some x → p x = true) :
    Ct Try.prog 80 (YtofmiaecjnfeaaaVm.ops [.row xs, .fn g caps]) (.vals [.int .i64 (if r < xs.length then (r : Int) else -1)]) := by
  refine Ct.of_V Try.func80 rfl (by simp [YtofmiaecjnfeaaaVm.ops, Try.f80]) ?_
  refine V.exec 400 ?_
  simp +contextual (maxSteps := 1000000) only [go_sem, ↓reduceIte, reduceCtorEq, yA, yB, uA, uB, uC, uD, uE, uF, Try.f80]
  refine V.loop (fun m ls os => ∃ i : Nat, i ≤ r ∧ m = xs.length - i ∧
        ls = [(0, .val (.row xs)), (1, .val (.fn g caps)), (7, .val (.int .i64 xs.length)), (8, .val (.int .i64 i))] ∧ os = []) 0 xs.length [(0, .val (.row xs)), (1, .val (.fn g caps)), (7, .val (.int .i64 xs.length)), (8, .val (.int .i64 0))] [] []
      ⟨0, Nat.zero_le _, rfl, rfl, rfl⟩ (by simp only [go_sem, ↓reduceIte, reduceCtorEq, yA, yB, uA, uB, uC, uD, uE, uF]) ?_
  rintro m ls os ⟨i, hi, rfl, rfl, rfl⟩
  refine V.exec 400 ?_
  by_cases hlt : i < xs.length
  · have hlt' : (i : Int) < (xs.length : Int) := by omega
    obtain ⟨x, hx⟩ : ∃ x, xs[i]? = some x := ⟨_, List.getElem?_eq_getElem hlt⟩
    have hxm : x ∈ xs := List.mem_of_getElem? hx
    obtain ⟨hxc, hxa⟩ := h1 x hxm
    have hw : IntKind.i64.wrap ((i : Int) + 1) = ((i + 1 : Nat) : Int) := by rw [wrap_small] <;> omega
    simp +contextual (maxSteps := 1000000) only [go_sem, ↓reduceIte, reduceCtorEq, yA, yB, uA, uB, uC, uD, uE, uF, hlt', hx, hxc, hxa]
    refine V.call rfl rfl (by simp [dOK]) ⟨g, caps, by simp only [go_sem, ↓reduceIte, reduceCtorEq, yA, yB, uA, uB, uC, uD, uE, uF], hg, .inl ⟨[x], _, .inl (by simp only [go_sem, ↓reduceIte, reduceCtorEq, yA, yB, uA, uB, uC, uD, uE, uF]), hp x hxm, .inl ⟨_, rfl, rfl, rfl, rfl⟩⟩⟩ ?_
    refine V.exec 400 ?_
    simp +contextual (maxSteps := 1000000) only [go_sem, ↓reduceIte, reduceCtorEq, yA, yB, uA, uB, uC, uD, uE, uF, hw]
    constructor
    · intro hpx
      have hir : i = r := by
        rcases Nat.lt_or_ge i r with h | h
        · have := hr1 x (List.mem_of_getElem? (i := i) (by rw [List.getElem?_take_of_lt h]; exact hx))
          rw [this] at hpx; cases hpx
        · omega
      subst hir
      rw [if_pos hlt]
    · intro hpx
      have hir : i < r := by
        rcases Nat.lt_or_ge i r with h | h
        · exact h
        · have : i = r := by omega
          subst this
          exact absurd (hr2 x hx) hpx
      exact ⟨xs.length - (i + 1), _, [], [], by omega, ⟨i + 1, by omega, rfl, rfl, rfl⟩, by simp only [go_sem, ↓reduceIte, reduceCtorEq, yA, yB, uA, uB, uC, uD, uE, uF]⟩
  · have hlt' : ¬ (i : Int) < (xs.length : Int) := by omega
    simp +contextual (maxSteps := 1000000) only [go_sem, ↓reduceIte, reduceCtorEq, yA, yB, uA, uB, uC, uD, uE, uF, hlt']
    rw [if_neg (by omega)]
set_option maxHeartbeats 4000000 in
theorem DeleteFuncPair (xs : List PV) (g : FuncId) (caps : List PV) (p : PV → Bool) (h1 : ∀ x ∈ xs, x.cells.length = 2 ∧ x.isAgg = true ∧ ∀ c ∈ x.cells, c.isAgg = false) (hl : xs.length ≤ 1000000) (hg : Entered Try.prog g)
    (hp : ∀ x ∈ xs, Ct Try.prog g (YtofmiaecjnfeaaaVm.ops ([x] ++ caps)) (.vals [.bool (decide (p x = true))])) (hz : (zeroPV Try.prog 42 2).isSome = true) :
    Ct Try.prog 55 (.o 42 xs :: YtofmiaecjnfeaaaVm.ops [.fn g caps]) (.own 42 (xs.filter fun x => !p x)) := by
  -- the first that goes
  obtain ⟨r, hr, hr1, hr2⟩ : ∃ r, r ≤ xs.length ∧ (∀ x ∈ xs.take r, p x = false) ∧ ∀ x, xs[r]? = some x → p x = true := by
    clear h1 hl hp
    induction xs with
    | nil => exact ⟨0, by simp, by simp, by simp⟩
    | cons x xs ih =>
      by_cases hx : p x = true
      · exact ⟨0, by simp, by simp, by simp [hx]⟩
      · obtain ⟨r, h1, h2, h3⟩ := ih
        refine ⟨r + 1, by simpa using h1, ?_, by simpa using h3⟩
        intro y hy
        simp only [List.take_succ_cons, List.mem_cons] at hy
        rcases hy with rfl | hy
        · simpa using hx
        · exact h2 y hy
  refine Ct.of_V Try.func55 rfl (by simp [YtofmiaecjnfeaaaVm.ops, Try.f55]) ?_
  refine V.exec 400 ?_
  simp +contextual (maxSteps := 1000000) only [go_sem, ↓reduceIte, reduceCtorEq, yA, yB, uA, uB, uC, uD, uE, uF, Try.f55]
  refine V.call rfl rfl (by simp [dOK]) ⟨80, [], by simp only [go_sem, ↓reduceIte, reduceCtorEq, yA, yB, uA, uB, uC, uD, uE, uF], ⟨_, rfl, rfl, rfl⟩, .inl ⟨[.row xs, .fn g caps], _, .inl (by simp only [go_sem, ↓reduceIte, reduceCtorEq, yA, yB, uA, uB, uC, uD, uE, uF]), IndexFuncPair xs g caps p (fun x hx => ⟨(h1 x hx).1, (h1 x hx).2.1⟩) hl hg hp r hr hr1 hr2, .inl ⟨_, rfl, rfl, rfl, rfl⟩⟩⟩ ?_
  refine V.exec 400 ?_
  simp +contextual (maxSteps := 1000000) only [go_sem, ↓reduceIte, reduceCtorEq, yA, yB, uA, uB, uC, uD, uE, uF]
  constructor
  · intro h
    have hrl : ¬ r < xs.length := by intro h'; rw [if_pos h'] at h; omega
    have : xs.filter (fun x => !p x) = xs := by
      rw [List.filter_eq_self]
      intro x hx
      have := hr1 x (by rw [List.take_of_length_le (by omega)]; exact hx)
      simp [this]
    rw [this]
  · intro h
    have hrl : r < xs.length := by
      rcases Nat.lt_or_ge r xs.length with h' | h'
      · exact h'
      · rw [if_neg (by omega)] at h; exact absurd rfl h
    simp only [if_pos hrl]
    have hw0 : IntKind.i64.wrap ((r : Int) + 1) = ((r + 1 : Nat) : Int) := by rw [wrap_small] <;> omega
    simp only [hw0]
    refine V.loop (fun m ls os => ∃ (i j : Nat) (ys : List PV), i < j ∧ j ≤ xs.length ∧ m = xs.length - j ∧ ys.length = xs.length ∧ ys.take i = (xs.take j).filter (fun x => !p x) ∧ ys.drop j = xs.drop j ∧ (∀ y ∈ ys, y ∈ xs) ∧
        ls = [(0, .ref 0), (1, .val (.fn g caps)), (5, .val (.int .i64 i)), (6, .val (.int .i64 j))] ∧ os = [.row 42 ys]) 1 (xs.length - (r + 1)) [(0, .ref 0), (1, .val (.fn g caps)), (5, .val (.int .i64 r)), (6, .val (.int .i64 (r + 1 : Nat)))] [.row 42 xs] [some 0]
      ⟨r, r + 1, xs, by omega, by omega, rfl, rfl, ?_, rfl, fun y hy => hy, rfl, rfl⟩ (by simp only [go_sem, ↓reduceIte, reduceCtorEq, yA, yB, uA, uB, uC, uD, uE, uF]) ?_
    · obtain ⟨x, hx⟩ : ∃ x, xs[r]? = some x := ⟨_, List.getElem?_eq_getElem hrl⟩
      rw [List.take_add_one, hx, List.filter_append]
      have e1 : (xs.take r).filter (fun x => !p x) = xs.take r := by
        rw [List.filter_eq_self]; intro y hy; simp [hr1 y hy]
      rw [e1]
      simp [hr2 x hx]
    · rintro m ls os ⟨i, j, ys, hij, hj, rfl, hyl, hyt, hyd, hym, rfl, rfl⟩
      by_cases hlt : j < xs.length
      · have hlt' : (j : Int) < (ys.length : Int) := by omega
        refine V.exec 400 ?_
        obtain ⟨x, hx⟩ : ∃ x, ys[j]? = some x := ⟨_, List.getElem?_eq_getElem (by omega)⟩
        obtain ⟨z, hz'⟩ : ∃ z, ys[i]? = some z := ⟨_, List.getElem?_eq_getElem (by omega)⟩
        have hxm : x ∈ xs := hym x (List.mem_of_getElem? hx)
        have hzm : z ∈ xs := hym z (List.mem_of_getElem? hz')
        obtain ⟨hzc, hza, _⟩ := h1 z hzm
        obtain ⟨hxc, hxa, hxn⟩ := h1 x hxm
        have hpx := hp x hxm
        obtain ⟨c0, c1, rfl⟩ : ∃ c0 c1, x = .agg [c0, c1] := by
          cases x with
          | agg cs =>
            match cs, hxc with
            | [c0, c1], _ => exact ⟨c0, c1, rfl⟩
          | _ => cases hxa
        have n0 : c0.isAgg = false := hxn c0 (by simp [PV.cells])
        have n1 : c1.isAgg = false := hxn c1 (by simp [PV.cells])
        have hwi : IntKind.i64.wrap ((i : Int) + 1) = ((i + 1 : Nat) : Int) := by rw [wrap_small] <;> omega
        have hwj : IntKind.i64.wrap ((j : Int) + 1) = ((j + 1 : Nat) : Int) := by rw [wrap_small] <;> omega
        simp +contextual (maxSteps := 1000000) only [go_sem, ↓reduceIte, reduceCtorEq, yA, yB, uA, uB, uC, uD, uE, uF, hlt', hx, n0, n1]
        refine V.call rfl rfl (by simp [dOK]) ⟨g, caps, by simp only [go_sem, ↓reduceIte, reduceCtorEq, yA, yB, uA, uB, uC, uD, uE, uF], hg, .inl ⟨[_], _, .inl (by simp only [go_sem, ↓reduceIte, reduceCtorEq, yA, yB, uA, uB, uC, uD, uE, uF]), hpx, .inl ⟨_, rfl, rfl, rfl, rfl⟩⟩⟩ ?_
        refine V.exec 400 ?_
        simp +contextual (maxSteps := 1000000) only [go_sem, ↓reduceIte, reduceCtorEq, yA, yB, uA, uB, uC, uD, uE, uF, hwi, hwj, hz', hzc, n0, n1]
        have hxj : xs[j]? = some (.agg [c0, c1]) := by
          have e1 : (ys.drop j)[0]? = (xs.drop j)[0]? := by rw [hyd]
          simp only [List.getElem?_drop, Nat.add_zero] at e1
          rw [← e1]; exact hx
        have hdrop : ys.drop (j + 1) = xs.drop (j + 1) := by rw [← List.drop_drop, ← List.drop_drop, hyd]
        have htk : xs.take (j + 1) = xs.take j ++ [.agg [c0, c1]] := by rw [List.take_add_one, hxj]; rfl
        constructor
        · intro hpx
          refine ⟨xs.length - (j + 1), _, _, [some 0], by omega, ⟨i + 1, j + 1, ys.set i (.agg [c0, c1]), by omega, by omega, rfl, by simpa using hyl, ?_, ?_, ?_, rfl, rfl⟩, ?_⟩
          · rw [htk, List.filter_append, ← hyt, List.take_add_one, List.getElem?_set_self (by omega), List.take_set_of_le (Nat.le_refl _)]
            simp [hpx]
          · rw [List.drop_set_of_lt (by omega)]; exact hdrop
          · intro y hy
            rcases List.mem_or_eq_of_mem_set hy with hy | hy
            · exact hym y hy
            · rw [hy]; exact hxm
          · simp only [go_sem, ↓reduceIte, reduceCtorEq, yA, yB, uA, uB, uC, uD, uE, uF]
        · intro hpx
          refine ⟨xs.length - (j + 1), _, _, [some 0], by omega, ⟨i, j + 1, ys, by omega, by omega, rfl, hyl, ?_, hdrop, hym, rfl, rfl⟩, ?_⟩
          · rw [htk, List.filter_append, hyt]
            simp [hpx]
          · simp only [go_sem, ↓reduceIte, reduceCtorEq, yA, yB, uA, uB, uC, uD, uE, uF]
      · have hlt' : ¬ (j : Int) < (ys.length : Int) := by omega
        refine V.execS [11] 400 ?_
        simp +contextual (maxSteps := 1000000) only [go_sem, ↓reduceIte, reduceCtorEq, yA, yB, uA, uB, uC, uD, uE, uF, hlt']
        refine V.opn 0 2 42 ys (by simp only [go_sem, ↓reduceIte, reduceCtorEq, yA, yB, uA, uB, uC, uD, uE, uF]) (by simp only [go_sem, ↓reduceIte, reduceCtorEq, yA, yB, uA, uB, uC, uD, uE, uF]) fun q => ?_
        refine V.exec 400 ?_
        simp +contextual (maxSteps := 1000000) only [go_sem, ↓reduceIte, reduceCtorEq, yA, yB, uA, uB, uC, uD, uE, uF]
        have hi : i ≤ ys.length := by omega
        have hjx : j = xs.length := by omega
        rw [show 0 + i = i from Nat.zero_add i, over_length hi, List.length_replicate]
        refine ⟨⟨hi, by omega⟩, ⟨hi, by omega⟩, ⟨by omega, by omega⟩, by omega, ?_⟩
        rw [hjx, List.take_length] at hyt
        rw [Nat.sub_zero, over, List.append_assoc, List.take_append_of_le_length (by simp [Nat.min_eq_left hi]), List.take_take, Nat.min_self, hyt]
end Go.Proofs.Ytofmiaecjnfeaaa
set_option linter.unusedVariables false
set_option linter.unusedSimpArgs false
set_option maxRecDepth 8000
namespace Go.Proofs.Ytofmiaecjnfeaaa
open Nat renaming reduceAdd → uA, reduceLT → uB, reduceEqDiff → uC, reduceLeDiff → uD, reduceSub → uE, reduceMul → uF
open Bool renaming false_eq_true → yA, true_eq_false → yB
open Go Go.Proofs Go.Proofs.YtofmiaecjnfeaaaVm Go.Proofs.Ytofmiaecjnfeaaa.Ty

def Pair.of : PV → Pair
  | .agg [.str k, .str v] => ⟨k, v⟩
  | _ => ⟨[], []⟩
theorem Pair.of_pv (p : Pair) : Pair.of p.pv = p := rfl
theorem Pair.filter_pv (l : List Pair) (p : Pair → Bool) : (l.map Pair.pv).filter (fun x => !p (Pair.of x)) = (l.filter fun c => !p c).map Pair.pv := by
  induction l with
  | nil => rfl
  | cons s r ih =>
    simp only [List.map_cons, List.filter_cons, Pair.of_pv, ih]
    split <;> rfl

theorem stretch_Pick1 (r : Range) (p : Pair) : Ct Try.prog 57 (YtofmiaecjnfeaaaVm.ops [p.pv, .ptr r.pv]) (.vals [.bool (decide (¬ r.isIn p.key))]) := by
  refine Ct.of_V Try.func57 rfl (by simp [YtofmiaecjnfeaaaVm.ops, Try.f57]) ?_
  refine V.exec 400 ?_
  simp +contextual (maxSteps := 1000000) only [go_sem, ↓reduceIte, reduceCtorEq, yA, yB, uA, uB, uC, uD, uE, uF, Try.f57, Pair.pv, Range.pv]
  refine V.call rfl rfl (by simp [dOK]) ⟨58, [], by simp only [go_sem, ↓reduceIte, reduceCtorEq, yA, yB, uA, uB, uC, uD, uE, uF], ⟨_, rfl, rfl, rfl⟩, .inl ⟨[r.pv, .str p.key], _, .inl (by simp only [go_sem, ↓reduceIte, reduceCtorEq, yA, yB, uA, uB, uC, uD, uE, uF, Range.pv]), stretch_In r p.key, .inl ⟨_, rfl, rfl, rfl, rfl⟩⟩⟩ ?_
  refine V.exec 400 ?_
  simp +contextual (maxSteps := 1000000) only [go_sem, ↓reduceIte, reduceCtorEq, yA, yB, uA, uB, uC, uD, uE, uF]

def pickV (r : Range) (l : List Pair) : List Pair := l.filter fun p => decide (r.isIn p.key)
theorem pickV_len (r : Range) (l : List Pair) : (pickV r l).length ≤ l.length := List.length_filter_le _ _

set_option maxHeartbeats 4000000 in
theorem stretch_Pick (r : Range) (l : List Pair) (hl : l.length ≤ 1000000) : Ct Try.prog 34 (YtofmiaecjnfeaaaVm.ops [r.pv, .row (l.map Pair.pv)]) (.vals [.row ((pickV r l).map Pair.pv)]) := by
  have h7 : ∀ x ∈ l.map Pair.pv, x.cells.length = 2 ∧ x.isAgg = true ∧ ∀ c ∈ x.cells, c.isAgg = false := fun x hx => by
    obtain ⟨s, _, rfl⟩ := List.mem_map.1 hx
    exact ⟨rfl, rfl, by simp [Pair.pv, PV.cells, PV.isAgg]⟩
  have hdel := DeleteFuncPair (l.map Pair.pv) 57 [.ptr r.pv] (fun x => decide (¬ r.isIn (Pair.of x).key)) h7 (by simpa using hl) ⟨_, rfl, rfl, rfl⟩ (fun x hx => by
    obtain ⟨s, hs, rfl⟩ := List.mem_map.1 hx
    rw [Pair.of_pv]
    simpa using stretch_Pick1 r s) (by simp only [go_sem, ↓reduceIte, reduceCtorEq, yA, yB, uA, uB, uC, uD, uE, uF])
  rw [Pair.filter_pv l (fun p => decide (¬ r.isIn p.key))] at hdel
  have e : (l.filter fun c => !decide (¬ r.isIn c.key)) = pickV r l := by
    unfold pickV; congr 1; funext c; simp
  rw [e] at hdel
  refine Ct.of_V Try.func34 rfl (by simp [YtofmiaecjnfeaaaVm.ops, Try.f34]) ?_
  refine V.exec 400 ?_
  simp +contextual (maxSteps := 1000000) only [go_sem, ↓reduceIte, reduceCtorEq, yA, yB, uA, uB, uC, uD, uE, uF, Try.f34, Range.pv]
  refine V.call rfl rfl (by simp [dOK]) ⟨56, [], by simp only [go_sem, ↓reduceIte, reduceCtorEq, yA, yB, uA, uB, uC, uD, uE, uF], ⟨_, rfl, rfl, rfl⟩, .inl ⟨[.row (l.map Pair.pv)], _, .inl (by simp only [go_sem, ↓reduceIte, reduceCtorEq, yA, yB, uA, uB, uC, uD, uE, uF]), ClonePair (l.map Pair.pv) (fun x hx => (h7 x hx).1) (by simpa using hl), .inr (.inr ⟨42, (l.map Pair.pv)   , rfl, by simp only [go_sem, ↓reduceIte, reduceCtorEq, yA, yB, uA, uB, uC, uD, uE, uF], rfl, rfl⟩)⟩⟩ ?_
  refine V.exec 400 ?_
  simp +contextual (maxSteps := 1000000) only [go_sem, ↓reduceIte, reduceCtorEq, yA, yB, uA, uB, uC, uD, uE, uF]
  refine V.call rfl rfl (by simp [dOK]) ⟨55, [], by simp only [go_sem, ↓reduceIte, reduceCtorEq, yA, yB, uA, uB, uC, uD, uE, uF], ⟨_, rfl, rfl, rfl⟩, .inr (.inl ⟨5, 42, l.map Pair.pv, [.val (.fn 57 [.ptr r.pv])], [.fn 57 [.ptr r.pv]], 42, _, by simp only [go_sem, ↓reduceIte, reduceCtorEq, yA, yB, uA, uB, uC, uD, uE, uF, Range.pv], by simp only [go_sem, ↓reduceIte, reduceCtorEq, yA, yB, uA, uB, uC, uD, uE, uF], .inl (by simp only [go_sem, ↓reduceIte, reduceCtorEq, yA, yB, uA, uB, uC, uD, uE, uF]), hdel, by simp only [go_sem, ↓reduceIte, reduceCtorEq, yA, yB, uA, uB, uC, uD, uE, uF], rfl, rfl⟩)⟩ ?_
  refine V.exec 400 ?_
  simp +contextual (maxSteps := 1000000) only [go_sem, ↓reduceIte, reduceCtorEq, yA, yB, uA, uB, uC, uD, uE, uF]

theorem ref03_In (r : Range) (k : List UInt8) : Ct Try.prog 36 (YtofmiaecjnfeaaaVm.ops [r.pv, .str k]) (.vals [.bool (decide (r.isIn k))]) := by
  refine Ct.of_V Try.func36 rfl (by simp [YtofmiaecjnfeaaaVm.ops, Try.f36]) ?_
  refine V.exec 400 ?_
  simp +contextual (maxSteps := 1000000) only [go_sem, ↓reduceIte, reduceCtorEq, yA, yB, uA, uB, uC, uD, uE, uF, Try.f36, Range.pv]
  simp only [Option.some.injEq, List.cons.injEq, PV.bool.injEq, and_true]
  grind [Range.isIn]

set_option maxHeartbeats 4000000 in
theorem ref03_Pick (r : Range) (l : List Pair) (hl : l.length ≤ 1000000) : Ct Try.prog 18 (YtofmiaecjnfeaaaVm.ops [r.pv, .row (l.map Pair.pv)]) (.vals [.row ((pickV r l).map Pair.pv)]) := by
  refine Ct.of_V Try.func18 rfl (by simp [YtofmiaecjnfeaaaVm.ops, Try.f18]) ?_
  refine V.exec 400 ?_
  simp +contextual (maxSteps := 1000000) only [go_sem, ↓reduceIte, reduceCtorEq, yA, yB, uA, uB, uC, uD, uE, uF, Try.f18, Range.pv]
  refine V.loop (fun m ls os => ∃ (i : Nat), i ≤ l.length ∧ m = l.length - i ∧
        ls = [(1, .val (.row (l.map Pair.pv))), (2, .adr 0 0), (5, .ref 1), (6, .val (.int .i64 i))] ∧ os = [.box true [.val (.str r.lo), .val (.str r.hi), .val (.bool (decide (r.op = true)))], .row 42 ((pickV r (l.take i)).map Pair.pv)]) 2 l.length
      [(1, .val (.row (l.map Pair.pv))), (2, .adr 0 0), (5, .ref 1), (6, .val (.int .i64 0))] [.box true [.val (.str r.lo), .val (.str r.hi), .val (.bool (decide (r.op = true)))], .row 42 []] [some 2, none]
      ⟨0, Nat.zero_le _, rfl, rfl, rfl⟩ (by simp only [go_sem, ↓reduceIte, reduceCtorEq, yA, yB, uA, uB, uC, uD, uE, uF, Range.pv]; try decide) ?_
  rintro m ls os ⟨i, hi, rfl, rfl, rfl⟩
  refine V.exec 400 ?_
  have hpl : (pickV r (l.take i)).length ≤ l.length := Nat.le_trans (pickV_len _ _) (by rw [List.length_take]; omega)
  by_cases hlt : i < l.length
  · have hlt' : (i : Int) < (l.length : Int) := by omega
    obtain ⟨x, hx⟩ : ∃ x, l[i]? = some x := ⟨_, List.getElem?_eq_getElem hlt⟩
    have hw : IntKind.i64.wrap ((i : Int) + 1) = ((i + 1 : Nat) : Int) := by rw [wrap_small3] <;> omega
    have hn : pickV r (l.take (i + 1)) = if r.isIn x.key then pickV r (l.take i) ++ [x] else pickV r (l.take i) := by
      unfold pickV
      rw [List.take_add_one, hx, List.filter_append]
      by_cases h : r.isIn x.key <;> simp [h]
    simp +contextual (maxSteps := 1000000) only [go_sem, ↓reduceIte, reduceCtorEq, yA, yB, uA, uB, uC, uD, uE, uF, hlt', hx, Pair.pv]
    refine DV.call [0] [0] (by simp only [go_sem, ↓reduceIte, reduceCtorEq, yA, yB, uA, uB, uC, uD, uE, uF, Range.pv]) (by simp [dOK]) ⟨36, [], by simp only [go_sem, ↓reduceIte, reduceCtorEq, yA, yB, uA, uB, uC, uD, uE, uF, Range.pv], ⟨_, rfl, rfl, rfl⟩, .inl ⟨[r.pv, .str x.key], _, .inl (by simp only [go_sem, ↓reduceIte, reduceCtorEq, yA, yB, uA, uB, uC, uD, uE, uF, Range.pv]), ref03_In r x.key, .inl ⟨_, rfl, rfl, rfl, rfl⟩⟩⟩ (by simp only [go_sem, ↓reduceIte, reduceCtorEq, yA, yB, uA, uB, uC, uD, uE, uF, Range.pv]) (by simp only [go_sem, ↓reduceIte, reduceCtorEq, yA, yB, uA, uB, uC, uD, uE, uF, Range.pv]) (by simp only [go_sem, ↓reduceIte, reduceCtorEq, yA, yB, uA, uB, uC, uD, uE, uF, Range.pv]) (by simp) ?_
    refine DV.exec 400 ?_
    by_cases h : r.isIn x.key
    · rw [if_pos h] at hn
      generalize hL : pickV r (l.take i) = L at *
      simp +contextual (maxSteps := 1000000) only [go_sem, ↓reduceIte, reduceCtorEq, yA, yB, uA, uB, uC, uD, uE, uF, hlt', hx, Pair.pv, h, hw]
      refine ⟨by kernel_rfl, ⟨by omega, by omega⟩, l.length - (i + 1), _, _, [some 0, some 21], by omega, ⟨i + 1, by omega, rfl, rfl, rfl⟩, ?_⟩
      simp only [go_sem, ↓reduceIte, reduceCtorEq, yA, yB, uA, uB, uC, uD, uE, uF, hn, List.map_append, List.map_cons, List.map_nil, Pair.pv]
      try decide
    · rw [if_neg h] at hn
      simp +contextual (maxSteps := 1000000) only [go_sem, ↓reduceIte, reduceCtorEq, yA, yB, uA, uB, uC, uD, uE, uF, hlt', hx, Pair.pv, h, hw]
      refine ⟨by kernel_rfl, l.length - (i + 1), _, _, [some 0, some 1], by omega, ⟨i + 1, by omega, rfl, rfl, rfl⟩, ?_⟩
      simp only [go_sem, ↓reduceIte, reduceCtorEq, yA, yB, uA, uB, uC, uD, uE, uF, hn]
      try decide
  · have hlt' : ¬ (i : Int) < (l.length : Int) := by omega
    simp +contextual (maxSteps := 1000000) only [go_sem, ↓reduceIte, reduceCtorEq, yA, yB, uA, uB, uC, uD, uE, uF, hlt']
    rw [List.take_of_length_le (by omega)]
end Go.Proofs.Ytofmiaecjnfeaaa
set_option linter.unusedVariables false
set_option linter.unusedSimpArgs false
set_option maxRecDepth 8000
namespace Go.Proofs.Ytofmiaecjnfeaaa
open Nat renaming reduceAdd → uA, reduceLT → uB, reduceEqDiff → uC, reduceLeDiff → uD, reduceSub → uE, reduceMul → uF
open Bool renaming false_eq_true → yA, true_eq_false → yB
open Go Go.Proofs Go.Proofs.YtofmiaecjnfeaaaVm Go.Proofs.Ytofmiaecjnfeaaa.Ty

/-! ### Leaves -/
theorem leavesN_get {lo : List UInt8} {l : List Pair} {i : Nat} {p : List Pair} (h : (shareV l 4)[i]? = some p) : (leavesN lo l)[i]? = some (.mk (if i = 0 then lo else headKey p) [] [] p) := by
  unfold leavesN
  cases hS : shareV l 4 with
  | nil => rw [hS] at h; simp at h
  | cons q r =>
    rw [hS] at h
    cases i with
    | zero => simp at h ⊢; exact h
    | succ i =>
      have h' : r[i]? = some p := by simpa using h
      show (r.map leafOf)[i]? = _
      rw [List.getElem?_map, h']; simp [leafOf]
theorem leavesN_len (lo : List UInt8) (l : List Pair) : (leavesN lo l).length = (shareV l 4).length := by
  unfold leavesN
  cases shareV l 4 <;> simp

set_option maxHeartbeats 4000000 in
theorem tree_leaves (lo : List UInt8) (l : List Pair) (hl : l.length ≤ 100000) : Ct Try.prog 40 (YtofmiaecjnfeaaaVm.ops [.str lo, .row (l.map Pair.pv)]) (.vals [.row ((leavesN lo l).map Nd.pv)]) := by
  have c1 := leaf_Share l 4 (by omega) (by decide)
  obtain ⟨s1, s2, s3⟩ := share4_spec l
  have hget := fun i p => leavesN_get (lo := lo) (l := l) (i := i) (p := p)
  have hlen := leavesN_len lo l
  have hSl : (shareV l 4).length ≤ 100000 := by omega
  generalize leavesN lo l = N at *
  generalize shareV l 4 = S at *
  refine Ct.of_V Try.func40 rfl (by simp [YtofmiaecjnfeaaaVm.ops, Try.f40]) ?_
  refine V.exec 400 ?_
  simp +contextual (maxSteps := 1000000) only [go_sem, ↓reduceIte, reduceCtorEq, yA, yB, uA, uB, uC, uD, uE, uF, Try.f40]
  refine V.call rfl rfl (by simp [dOK]) ⟨66, [], by simp only [go_sem, ↓reduceIte, reduceCtorEq, yA, yB, uA, uB, uC, uD, uE, uF], ⟨_, rfl, rfl, rfl⟩, .inl ⟨[.row (l.map Pair.pv), .int .i64 4], _, .inl (by simp only [go_sem, ↓reduceIte, reduceCtorEq, yA, yB, uA, uB, uC, uD, uE, uF]), c1, .inr (.inl ⟨_, rfl, rfl, rfl⟩)⟩⟩ ?_
  refine V.exec 400 ?_
  simp +contextual (maxSteps := 1000000) only [go_sem, ↓reduceIte, reduceCtorEq, yA, yB, uA, uB, uC, uD, uE, uF]
  refine V.loop (fun m ls os => ∃ (i : Nat) (z : List UInt8), i ≤ S.length ∧ m = S.length - i ∧ (i = 0 → z = lo) ∧
        ls = [(0, .val (.str z)), (5, .ref 0), (9, .val (.row (S.map rowP))), (10, .val (.int .i64 S.length)), (11, .val (.int .i64 i))] ∧ os = [.row 26 ((N.take i).map Nd.pv)]) 1 S.length
      [(0, .val (.str lo)), (5, .ref 0), (9, .val (.row (S.map rowP))), (10, .val (.int .i64 S.length)), (11, .val (.int .i64 0))] [.row 26 []] [none]
      ⟨0, lo, Nat.zero_le _, rfl, fun _ => rfl, rfl, rfl⟩ (by simp only [go_sem, ↓reduceIte, reduceCtorEq, yA, yB, uA, uB, uC, uD, uE, uF]; try decide) ?_
  rintro m ls os ⟨i, z, hi, rfl, hz, rfl, rfl⟩
  refine V.exec 400 ?_
  by_cases hlt : i < S.length
  · have hlt' : (i : Int) < (S.length : Int) := by omega
    obtain ⟨p, hp⟩ : ∃ x, S[i]? = some x := ⟨_, List.getElem?_eq_getElem hlt⟩
    have hw : IntKind.i64.wrap ((i : Int) + 1) = ((i + 1 : Nat) : Int) := by rw [wrap_small3] <;> omega
    have ht : N.take (i + 1) = N.take i ++ [.mk (if i = 0 then lo else headKey p) [] [] p] := by rw [List.take_add_one, hget i p hp]; rfl
    have hpn := (s3 p (List.mem_of_getElem? hp)).1
    have hnl : (N.take i).length ≤ 100000 := by rw [List.length_take]; omega
    generalize hL : N.take i = L at *
    rcases Nat.eq_zero_or_pos i with rfl | hpos
    · have h0 : ¬ (0 : Int) < ((0 : Nat) : Int) := by omega
      obtain rfl := hz rfl
      simp +contextual (maxSteps := 1000000) only [go_sem, ↓reduceIte, reduceCtorEq, yA, yB, uA, uB, uC, uD, uE, uF, hlt', hp, hw, h0, rowP]
      exact ⟨⟨by omega, by omega⟩, S.length - (0 + 1), _, _, [some 15], by omega, ⟨0 + 1, z, by omega, rfl, fun h => (by omega), rfl, rfl⟩, by simp only [go_sem, ↓reduceIte, reduceCtorEq, yA, yB, uA, uB, uC, uD, uE, uF, ht, List.map_append, Nd.pv_eq, Nd.low, Nd.kids, Nd.wait, Nd.pairs]; try decide⟩
    · have h0 : (0 : Int) < (i : Int) := by omega
      obtain ⟨y, ys, rfl⟩ : ∃ y ys, p = y :: ys := by
        cases p with
        | nil => exact absurd rfl hpn
        | cons y ys => exact ⟨y, ys, rfl⟩
      have hi0 : ¬ i = 0 := by omega
      simp +contextual (maxSteps := 1000000) only [go_sem, ↓reduceIte, reduceCtorEq, yA, yB, uA, uB, uC, uD, uE, uF, hlt', hp, hw, h0, rowP, Pair.pv, List.map_cons, Int.toNat_zero, Int.le_refl]
      exact ⟨⟨by omega, by omega⟩, S.length - (i + 1), _, _, [some 20], by omega, ⟨i + 1, y.key, by omega, rfl, fun h => (by omega), rfl, rfl⟩, by simp only [go_sem, ↓reduceIte, reduceCtorEq, yA, yB, uA, uB, uC, uD, uE, uF, ht, hi0, List.map_append, Nd.pv_eq, Nd.low, Nd.kids, Nd.wait, Nd.pairs, headKey, Pair.pv]; try decide⟩
  · have hlt' : ¬ (i : Int) < (S.length : Int) := by omega
    obtain rfl : i = S.length := by omega
    have et : N.take S.length = N := by rw [← hlen]; exact List.take_length
    simp +contextual (maxSteps := 1000000) only [go_sem, ↓reduceIte, reduceCtorEq, yA, yB, uA, uB, uC, uD, uE, uF, hlt', et]

/-! ### below, get -/
theorem le_iff (a b : List UInt8) : (slt a b ∨ a = b) ↔ ¬ slt b a := by
  constructor
  · rintro (h | rfl)
    · exact slt_asymm h
    · exact slt_irrefl a
  · intro h
    rcases slt_total a b with h1 | h1 | h1
    · exact .inl h1
    · exact .inr h1
    · exact absurd h1 h
theorem belowGo_take {key : List UInt8} {c : Nd} : ∀ (l : List Nd) (i : Nat) (x : Nd), l[i]? = some x → belowGo key c (l.take (i + 1)) = if slt key x.low then belowGo key c (l.take i) else x := by
  intro l
  induction l generalizing c with
  | nil => intro i x h; simp at h
  | cons y l ih =>
    intro i x h
    cases i with
    | zero => simp at h; subst h; simp [belowGo]
    | succ i =>
      rw [List.take_succ_cons, List.take_succ_cons, belowGo, belowGo, ih i x (by simpa using h)]

set_option maxHeartbeats 4000000 in
theorem tree_below (n : Nd) (key : List UInt8) (hl : n.kids.length ≤ 1000000) (hne : n.kids ≠ []) : Ct Try.prog 52 (YtofmiaecjnfeaaaVm.ops [n.pv, .str key]) (.vals [(belowN n.kids key).pv]) := by
  have e := Nd.pv_eq n
  obtain ⟨c, hc⟩ : ∃ c, n.kids[0]? = some c := ⟨_, List.getElem?_eq_getElem (List.length_pos_iff.2 hne)⟩
  have hlp : 0 < n.kids.length := List.length_pos_iff.2 hne
  have eb : belowN n.kids key = belowGo key c n.kids := by
    cases hk : n.kids with
    | nil => exact absurd hk hne
    | cons k ks => rw [hk] at hc; simp at hc; subst hc; rfl
  rw [eb, e]
  generalize n.kids = ks at *
  have hlp' : (0 : Int) < (ks.length : Int) := by omega
  refine Ct.of_V Try.func52 rfl (by simp [YtofmiaecjnfeaaaVm.ops, Try.f52]) ?_
  refine V.exec 400 ?_
  simp +contextual (maxSteps := 1000000) only [go_sem, ↓reduceIte, reduceCtorEq, yA, yB, uA, uB, uC, uD, uE, uF, Try.f52, hc, hlp', Int.toNat_zero, Int.le_refl]
  refine V.loop (fun m ls os => ∃ (i : Nat), i ≤ ks.length ∧ m = ks.length - i ∧
        ls = [(1, .val (.str key)), (5, .val (belowGo key c (ks.take i)).pv), (17, .val (.row (ks.map Nd.pv))), (18, .val (.int .i64 ks.length)), (19, .val (.int .i64 i))] ∧ os = []) 0 ks.length
      [(1, .val (.str key)), (5, .val c.pv), (17, .val (.row (ks.map Nd.pv))), (18, .val (.int .i64 ks.length)), (19, .val (.int .i64 0))] [] []
      ⟨0, Nat.zero_le _, rfl, rfl, rfl⟩ (by simp only [go_sem, ↓reduceIte, reduceCtorEq, yA, yB, uA, uB, uC, uD, uE, uF]) ?_
  rintro m ls os ⟨i, hi, rfl, rfl, rfl⟩
  refine V.exec 400 ?_
  by_cases hlt : i < ks.length
  · have hlt' : (i : Int) < (ks.length : Int) := by omega
    obtain ⟨x, hx⟩ : ∃ x, ks[i]? = some x := ⟨_, List.getElem?_eq_getElem hlt⟩
    have hw : IntKind.i64.wrap ((i : Int) + 1) = ((i + 1 : Nat) : Int) := by rw [wrap_small3] <;> omega
    have ht := belowGo_take (key := key) (c := c) ks i x hx
    have ex := Nd.pv_eq x
    by_cases hk : slt key x.low
    · rw [if_pos hk] at ht
      have hk' : ¬ (slt x.low key ∨ x.low = key) := fun h => (le_iff x.low key).1 h hk
      simp +contextual (maxSteps := 1000000) only [go_sem, ↓reduceIte, reduceCtorEq, yA, yB, uA, uB, uC, uD, uE, uF, hlt', hx, hw, hk', ex]
      exact ⟨ks.length - (i + 1), _, [], [], by omega, ⟨i + 1, by omega, rfl, rfl, rfl⟩, by simp only [go_sem, ↓reduceIte, reduceCtorEq, yA, yB, uA, uB, uC, uD, uE, uF, ht]⟩
    · rw [if_neg hk] at ht
      have hk' : slt x.low key ∨ x.low = key := (le_iff x.low key).2 hk
      simp +contextual (maxSteps := 1000000) only [go_sem, ↓reduceIte, reduceCtorEq, yA, yB, uA, uB, uC, uD, uE, uF, hlt', hx, hw, hk', ex]
      exact ⟨ks.length - (i + 1), _, [], [], by omega, ⟨i + 1, by omega, rfl, rfl, rfl⟩, by simp only [go_sem, ↓reduceIte, reduceCtorEq, yA, yB, uA, uB, uC, uD, uE, uF, ht, ex]⟩
  · have hlt' : ¬ (i : Int) < (ks.length : Int) := by omega
    obtain rfl : i = ks.length := by omega
    have et : ks.take ks.length = ks := List.take_length
    simp +contextual (maxSteps := 1000000) only [go_sem, ↓reduceIte, reduceCtorEq, yA, yB, uA, uB, uC, uD, uE, uF, hlt', et]

set_option maxHeartbeats 4000000 in
theorem node_get : ∀ (h : Nat) (hi : Option (List UInt8)) (n : Nd) (k : List UInt8), WF h hi n → In n.low hi k → Ct Try.prog 33 (YtofmiaecjnfeaaaVm.ops [n.pv, .str k]) (.vals [.str (getN h n k).1, .bool (decide ((getN h n k).2 = true))])
  | 0, hi, n, k, w, hin => by
    have e := Nd.pv_eq n
    obtain ⟨w1, w2, w3, w4, w5, w6⟩ := w
    have c1 := leaf_Get n.pairs k (by omega)
    have h00 : ((0 : Nat) : Int) = 0 := rfl
    rw [e, getN, w1]
    refine Ct.of_V Try.func33 rfl (by simp [YtofmiaecjnfeaaaVm.ops, Try.f33]) ?_
    refine V.exec 400 ?_
    simp +contextual (maxSteps := 1000000) only [go_sem, ↓reduceIte, reduceCtorEq, yA, yB, uA, uB, uC, uD, uE, uF, Try.f33, List.map_nil, List.length_nil, h00]
    refine V.call rfl rfl (by simp [dOK]) ⟨51, [], by simp only [go_sem, ↓reduceIte, reduceCtorEq, yA, yB, uA, uB, uC, uD, uE, uF], ⟨_, rfl, rfl, rfl⟩, .inl ⟨[.row (n.pairs.map Pair.pv), .str k], _, .inl (by simp only [go_sem, ↓reduceIte, reduceCtorEq, yA, yB, uA, uB, uC, uD, uE, uF]), c1, .inl ⟨_, rfl, rfl, rfl, rfl⟩⟩⟩ ?_
    refine V.exec 400 ?_
    simp +contextual (maxSteps := 1000000) only [go_sem, ↓reduceIte, reduceCtorEq, yA, yB, uA, uB, uC, uD, uE, uF]
  | h + 1, hi, n, k, w, hin => by
    have e := Nd.pv_eq n
    obtain ⟨w1, w2, w3, w4, w5, w6, w7, w8, w9⟩ := w
    obtain ⟨k1, k2⟩ := headLow_of w6
    have hemp : n.kids.isEmpty = false := by
      cases hk : n.kids with
      | nil => exact absurd hk k1
      | cons k ks => rfl
    obtain ⟨A, B, e1, e2, e3, e4⟩ := below_spec k1 w7 (by rw [k2]; exact hin)
    have ih := node_get h _ _ k e3 e2
    have c1 := tree_below n k (by omega) k1
    have c2 := pend_Find n.wait k (by omega)
    have hlen : 0 < n.kids.length := List.length_pos_iff.2 k1
    have hl0 : ¬ (n.kids.length : Int) = 0 := by omega
    rw [getN, hemp]
    rw [e] at c1 ⊢
    generalize getN h (belowN n.kids k) k = G at *
    obtain ⟨v, has⟩ := G
    generalize belowN n.kids k = b at *
    refine Ct.of_V Try.func33 rfl (by simp [YtofmiaecjnfeaaaVm.ops, Try.f33]) ?_
    refine V.exec 400 ?_
    simp +contextual (maxSteps := 1000000) only [go_sem, ↓reduceIte, reduceCtorEq, yA, yB, uA, uB, uC, uD, uE, uF, Try.f33, hl0]
    refine V.call rfl rfl (by simp [dOK]) ⟨52, [], by simp only [go_sem, ↓reduceIte, reduceCtorEq, yA, yB, uA, uB, uC, uD, uE, uF], ⟨_, rfl, rfl, rfl⟩, .inl ⟨[.ptr (.agg [.str n.low, .row (n.kids.map Nd.pv), .row (n.wait.map Note.pv), .row (n.pairs.map Pair.pv)]), .str k], _, .inl (by simp only [go_sem, ↓reduceIte, reduceCtorEq, yA, yB, uA, uB, uC, uD, uE, uF]), c1, .inr (.inl ⟨_, rfl, rfl, rfl⟩)⟩⟩ ?_
    refine V.exec 400 ?_
    simp +contextual (maxSteps := 1000000) only [go_sem, ↓reduceIte, reduceCtorEq, yA, yB, uA, uB, uC, uD, uE, uF]
    refine V.call rfl rfl (by simp [dOK]) ⟨33, [], by simp only [go_sem, ↓reduceIte, reduceCtorEq, yA, yB, uA, uB, uC, uD, uE, uF], ⟨_, rfl, rfl, rfl⟩, .inl ⟨[b.pv, .str k], _, .inl (by simp only [go_sem, ↓reduceIte, reduceCtorEq, yA, yB, uA, uB, uC, uD, uE, uF]), ih, .inl ⟨_, rfl, rfl, rfl, rfl⟩⟩⟩ ?_
    refine V.exec 400 ?_
    simp +contextual (maxSteps := 1000000) only [go_sem, ↓reduceIte, reduceCtorEq, yA, yB, uA, uB, uC, uD, uE, uF]
    refine V.call rfl rfl (by simp [dOK]) ⟨53, [], by simp only [go_sem, ↓reduceIte, reduceCtorEq, yA, yB, uA, uB, uC, uD, uE, uF], ⟨_, rfl, rfl, rfl⟩, .inl ⟨[.row (n.wait.map Note.pv), .str k], _, .inl (by simp only [go_sem, ↓reduceIte, reduceCtorEq, yA, yB, uA, uB, uC, uD, uE, uF]), c2, .inr (.inl ⟨_, rfl, rfl, rfl⟩)⟩⟩ ?_
    refine V.exec 400 ?_
    generalize findN n.wait k = fx at *
    obtain ⟨x, ok⟩ := fx
    have c3 := note_Done v has [x] (by simp)
    by_cases hok : ok = true
    · simp +contextual (maxSteps := 1000000) only [go_sem, ↓reduceIte, reduceCtorEq, yA, yB, uA, uB, uC, uD, uE, uF, hok, Note.pv]
      refine V.call rfl rfl (by simp [dOK]) ⟨54, [], by simp only [go_sem, ↓reduceIte, reduceCtorEq, yA, yB, uA, uB, uC, uD, uE, uF], ⟨_, rfl, rfl, rfl⟩, .inl ⟨[.str v, .bool (decide (has = true)), .row ([x].map Note.pv)], _, .inl (by simp only [go_sem, ↓reduceIte, reduceCtorEq, yA, yB, uA, uB, uC, uD, uE, uF, List.map_cons, List.map_nil, Note.pv]), c3, .inl ⟨_, rfl, rfl, rfl, rfl⟩⟩⟩ ?_
      refine V.exec 400 ?_
      simp +contextual (maxSteps := 1000000) only [go_sem, ↓reduceIte, reduceCtorEq, yA, yB, uA, uB, uC, uD, uE, uF, hok]
    · simp +contextual (maxSteps := 1000000) only [go_sem, ↓reduceIte, reduceCtorEq, yA, yB, uA, uB, uC, uD, uE, uF, hok, Note.pv]
end Go.Proofs.Ytofmiaecjnfeaaa
set_option linter.unusedVariables false
set_option linter.unusedSimpArgs false
set_option maxRecDepth 8000
namespace Go.Proofs.Ytofmiaecjnfeaaa
open Nat renaming reduceAdd → uA, reduceLT → uB, reduceEqDiff → uC, reduceLeDiff → uD, reduceSub → uE, reduceMul → uF
open Bool renaming false_eq_true → yA, true_eq_false → yB
open Go Go.Proofs Go.Proofs.YtofmiaecjnfeaaaVm Go.Proofs.Ytofmiaecjnfeaaa.Ty

/-! ### How long things are -/
theorem all_len : ∀ (h : Nat) (hi : Option (List UInt8)) (n : Nd), WF h hi n → n.all.length ≤ 5 * n.mass
  | 0, hi, n, w => by
    rw [w.all_leaf]
    have := mass_pos n
    have := w.2.2.1
    omega
  | h + 1, hi, n, w => by
    have hall := w.all_node
    obtain ⟨w1, w2, w3, w4, w5, w6, w7, w8, w9⟩ := w
    have key : ∀ (ks : List Nd) (hi : Option (List UInt8)), Seg (WF h) ks hi → (Nd.alls ks).length ≤ 5 * Nd.masss ks := by
      intro ks
      induction ks with
      | nil => intro hi _; exact Nat.zero_le _
      | cons k ks ih =>
        intro hi hs
        have h1 := all_len h _ k hs.1
        have h2 := ih hi hs.2
        rw [Nd.alls, Nd.masss, List.length_append]; omega
    have h1 := key n.kids hi w7
    have h2 := appV_len n.wait ((pairsOk_iff _).1 (seg_all n.kids hi w7).1).1
    have h3 : n.wait.length + Nd.masss n.kids ≤ n.mass := by
      cases n; rw [Nd.mass]; simp only [Nd.wait, Nd.kids]; omega
    rw [hall]; omega
theorem alls_len {h : Nat} : ∀ (ks : List Nd) (hi : Option (List UInt8)), Seg (WF h) ks hi → (Nd.alls ks).length ≤ 5 * Nd.masss ks
  | [], _, _ => Nat.zero_le _
  | k :: ks, hi, hs => by
    have h1 := all_len h _ k hs.1
    have h2 := alls_len ks hi hs.2
    rw [Nd.alls, Nd.masss, List.length_append]; omega
theorem mass_kids (n : Nd) : n.wait.length + Nd.masss n.kids ≤ n.mass := by
  cases n; rw [Nd.mass]; simp only [Nd.wait, Nd.kids]; omega
theorem mass_mem {ks : List Nd} {k : Nd} (h : k ∈ ks) : k.mass ≤ Nd.masss ks := by
  induction ks with
  | nil => cases h
  | cons x ks ih =>
    rw [Nd.masss]
    rcases List.mem_cons.1 h with rfl | h
    · omega
    · have := ih h; omega
theorem seg_mem {R : Option (List UInt8) → Nd → Prop} : ∀ {ks : List Nd} {hi : Option (List UInt8)} {k : Nd}, Seg R ks hi → k ∈ ks → ∃ b, R b k
  | x :: ks, hi, k, hs, h => by
    rcases List.mem_cons.1 h with rfl | h
    · exact ⟨_, hs.1⟩
    · exact seg_mem hs.2 h
theorem infos_len : ∀ (h d : Nat) (hi : Option (List UInt8)) (n : Nd), WF h hi n → (infosN d n).length ≤ (h + 1) * n.mass
  | 0, d, hi, n, w => by
    have := mass_pos n
    rw [infosN_eq, w.1]; simp [infosL]; omega
  | h + 1, d, hi, n, w => by
    obtain ⟨w1, w2, w3, w4, w5, w6, w7, w8, w9⟩ := w
    have key : ∀ (ks : List Nd) (hi : Option (List UInt8)), Seg (WF h) ks hi → (infosL (d + 1) ks).length ≤ (h + 1) * Nd.masss ks := by
      intro ks
      induction ks with
      | nil => intro hi _; exact Nat.zero_le _
      | cons k ks ih =>
        intro hi hs
        have h1 := infos_len h (d + 1) _ k hs.1
        have h2 := ih hi hs.2
        rw [infosL, Nd.masss, List.length_append, Nat.mul_add]; omega
    have h1 := key n.kids hi w7
    have h2 := mass_kids n
    have h3 := mass_pos n
    have h4 : (h + 1) * Nd.masss n.kids ≤ (h + 1) * n.mass := Nat.mul_le_mul_left _ (by omega)
    have h5 : (h + 1 + 1) * n.mass = (h + 1) * n.mass + n.mass := Nat.succ_mul _ _
    rw [infosN_eq, List.length_cons]; omega

/-! ### all -/
set_option maxRecDepth 10000 in
set_option maxHeartbeats 8000000 in
theorem node_all : ∀ (h : Nat) (hi : Option (List UInt8)) (n : Nd), WF h hi n → n.mass ≤ 10000 → Ct Try.prog 35 (YtofmiaecjnfeaaaVm.ops [n.pv]) (.vals [.row (n.all.map Pair.pv)])
  | h, hi, n, w, hm => by
    have e := Nd.pv_eq n
    have ihk : ∀ k ∈ n.kids, Ct Try.prog 35 (YtofmiaecjnfeaaaVm.ops [k.pv]) (.vals [.row (k.all.map Pair.pv)]) := fun k hk => by
      cases h with
      | zero => rw [w.1] at hk; cases hk
      | succ h =>
        obtain ⟨b, hb⟩ := seg_mem w.2.2.2.2.2.2.1 hk
        have := mass_mem hk
        have := mass_kids n
        exact node_all h b k hb (by omega)
    have hal : n.all = (applyV (n.pairs ++ Nd.alls n.kids) n.wait).1 := Nd.all_eq n
    have hlen : (n.pairs ++ Nd.alls n.kids).length ≤ 50000 := by
      cases h with
      | zero => rw [w.1, Nd.alls, List.append_nil]; have := w.2.2.1; omega
      | succ h =>
        have := alls_len n.kids hi w.2.2.2.2.2.2.1
        have := mass_kids n
        rw [w.1, List.nil_append]; omega
    have hwl : n.wait.length ≤ 6 := by
      cases h with
      | zero => rw [w.2.1]; exact Nat.zero_le _
      | succ h => exact w.2.1
    have hkl : n.kids.length ≤ 4 := by
      cases h with
      | zero => rw [w.1]; exact Nat.zero_le _
      | succ h => exact w.2.2.2.2.1
    have c1 := leaf_Apply (n.pairs ++ Nd.alls n.kids) n.wait (by omega) (by omega)
    have htl : ∀ i, (n.pairs ++ Nd.alls (n.kids.take i)).length ≤ 50000 := fun i => by
      have e1 : n.kids = n.kids.take i ++ n.kids.drop i := (List.take_append_drop i n.kids).symm
      rw [e1, alls_app, ← List.append_assoc, List.length_append] at hlen
      omega
    rw [hal, e]
    generalize applyV (n.pairs ++ Nd.alls n.kids) n.wait = G at *
    obtain ⟨g1, g2⟩ := G
    generalize n.kids = ks at *
    generalize n.pairs = ps at *
    refine Ct.of_V Try.func35 rfl (by simp [YtofmiaecjnfeaaaVm.ops, Try.f35]) ?_
    refine V.exec 400 ?_
    simp +contextual (maxSteps := 1000000) only [go_sem, ↓reduceIte, reduceCtorEq, yA, yB, uA, uB, uC, uD, uE, uF, Try.f35]
    refine V.loop (fun m ls os => ∃ (i : Nat), i ≤ ks.length ∧ m = ks.length - i ∧
          ls = [(0, .val (.ptr (.agg [.str n.low, .row (ks.map Nd.pv), .row (n.wait.map Note.pv), .row (ps.map Pair.pv)]))), (3, .val (.row ((ps ++ Nd.alls (ks.take i)).map Pair.pv))), (13, .val (.row (ks.map Nd.pv))), (14, .val (.int .i64 ks.length)), (15, .val (.int .i64 i))] ∧ os = []) 0 ks.length
        [(0, .val (.ptr (.agg [.str n.low, .row (ks.map Nd.pv), .row (n.wait.map Note.pv), .row (ps.map Pair.pv)]))), (3, .val (.row (ps.map Pair.pv))), (13, .val (.row (ks.map Nd.pv))), (14, .val (.int .i64 ks.length)), (15, .val (.int .i64 0))] [] []
        ⟨0, Nat.zero_le _, rfl, by simp [Nd.alls], rfl⟩ (by simp only [go_sem, ↓reduceIte, reduceCtorEq, yA, yB, uA, uB, uC, uD, uE, uF]) ?_
    rintro m ls os ⟨i, hi', rfl, rfl, rfl⟩
    refine V.exec 400 ?_
    by_cases hlt : i < ks.length
    · have hlt' : (i : Int) < (ks.length : Int) := by omega
      obtain ⟨x, hx⟩ : ∃ x, ks[i]? = some x := ⟨_, List.getElem?_eq_getElem hlt⟩
      have hw : IntKind.i64.wrap ((i : Int) + 1) = ((i + 1 : Nat) : Int) := by rw [wrap_small3] <;> omega
      have c2 := ihk x (List.mem_of_getElem? hx)
      have ht : ps ++ Nd.alls (ks.take (i + 1)) = ps ++ Nd.alls (ks.take i) ++ x.all := by
        rw [List.take_add_one, hx, alls_app, List.append_assoc]; simp [Nd.alls]
      have hl2 := htl (i + 1)
      rw [ht] at hl2
      generalize ps ++ Nd.alls (ks.take i) = L at *
      have c3 := (ConcatPair [L.map Pair.pv, x.all.map Pair.pv] (fun l hl y hy => by
        simp only [List.mem_cons, List.not_mem_nil, or_false] at hl
        rcases hl with rfl | rfl <;> (obtain ⟨s, _, rfl⟩ := List.mem_map.1 hy; rfl)) (by simpa using (show L.length + x.all.length ≤ 100000 by rw [List.length_append] at hl2; omega)) (by simp)).forget
      simp +contextual (maxSteps := 1000000) only [go_sem, ↓reduceIte, reduceCtorEq, yA, yB, uA, uB, uC, uD, uE, uF, hlt', hx, hw]
      refine V.call rfl rfl (by simp [dOK]) ⟨35, [], by simp only [go_sem, ↓reduceIte, reduceCtorEq, yA, yB, uA, uB, uC, uD, uE, uF], ⟨_, rfl, rfl, rfl⟩, .inl ⟨[x.pv], _, .inl (by simp only [go_sem, ↓reduceIte, reduceCtorEq, yA, yB, uA, uB, uC, uD, uE, uF]), c2, .inr (.inl ⟨_, rfl, rfl, rfl⟩)⟩⟩ ?_
      refine V.exec 400 ?_
      simp +contextual (maxSteps := 1000000) only [go_sem, ↓reduceIte, reduceCtorEq, yA, yB, uA, uB, uC, uD, uE, uF]
      refine V.call rfl rfl (by simp [dOK]) ⟨59, [], by simp only [go_sem, ↓reduceIte, reduceCtorEq, yA, yB, uA, uB, uC, uD, uE, uF], ⟨_, rfl, rfl, rfl⟩, .inl ⟨[.row ([L.map Pair.pv, x.all.map Pair.pv].map PV.row)], _, .inl (by simp only [go_sem, ↓reduceIte, reduceCtorEq, yA, yB, uA, uB, uC, uD, uE, uF, List.map_cons, List.map_nil]), c3, .inr (.inl ⟨_, rfl, rfl, rfl⟩)⟩⟩ ?_
      refine V.exec 400 ?_
      simp +contextual (maxSteps := 1000000) only [go_sem, ↓reduceIte, reduceCtorEq, yA, yB, uA, uB, uC, uD, uE, uF, hlt', hx, hw]
      exact ⟨ks.length - (i + 1), _, [], [], by omega, ⟨i + 1, by omega, rfl, rfl, rfl⟩, by simp only [go_sem, ↓reduceIte, reduceCtorEq, yA, yB, uA, uB, uC, uD, uE, uF, ht, List.map_append, List.flatten_cons, List.flatten_nil, List.append_nil]⟩
    · have hlt' : ¬ (i : Int) < (ks.length : Int) := by omega
      obtain rfl : i = ks.length := by omega
      have et : ks.take ks.length = ks := List.take_length
      simp +contextual (maxSteps := 1000000) only [go_sem, ↓reduceIte, reduceCtorEq, yA, yB, uA, uB, uC, uD, uE, uF, hlt', et]
      refine V.call rfl rfl (by simp [dOK]) ⟨39, [], by simp only [go_sem, ↓reduceIte, reduceCtorEq, yA, yB, uA, uB, uC, uD, uE, uF], ⟨_, rfl, rfl, rfl⟩, .inl ⟨[.row ((ps ++ Nd.alls ks).map Pair.pv), .row (n.wait.map Note.pv)], _, .inl (by simp only [go_sem, ↓reduceIte, reduceCtorEq, yA, yB, uA, uB, uC, uD, uE, uF]), c1, .inr (.inl ⟨_, rfl, rfl, rfl⟩)⟩⟩ ?_
      refine V.exec 400 ?_
      simp +contextual (maxSteps := 1000000) only [go_sem, ↓reduceIte, reduceCtorEq, yA, yB, uA, uB, uC, uD, uE, uF]
termination_by h => h
end Go.Proofs.Ytofmiaecjnfeaaa
set_option linter.unusedVariables false
set_option linter.unusedSimpArgs false
set_option maxRecDepth 8000
namespace Go.Proofs.Ytofmiaecjnfeaaa
open Nat renaming reduceAdd → uA, reduceLT → uB, reduceEqDiff → uC, reduceLeDiff → uD, reduceSub → uE, reduceMul → uF
open Bool renaming false_eq_true → yA, true_eq_false → yB
open Go Go.Proofs Go.Proofs.YtofmiaecjnfeaaaVm Go.Proofs.Ytofmiaecjnfeaaa.Ty

set_option maxRecDepth 10000 in
set_option maxHeartbeats 8000000 in
theorem node_infos : ∀ (h : Nat) (hi : Option (List UInt8)) (n : Nd) (d : Nat), WF h hi n → n.mass ≤ 10000 → h + d ≤ 10000 → Ct Try.prog 37 (YtofmiaecjnfeaaaVm.ops [n.pv, .int .i64 d]) (.own 86 ((infosN d n).map Info.pv))
  | h, hi, n, d, w, hm, hd => by
    have e := Nd.pv_eq n
    have ihk : ∀ k ∈ n.kids, Ct Try.prog 37 (YtofmiaecjnfeaaaVm.ops [k.pv, .int .i64 (d + 1 : Nat)]) (.own 86 ((infosN (d + 1) k).map Info.pv)) := fun k hk => by
      cases h with
      | zero => rw [w.1] at hk; cases hk
      | succ h =>
        obtain ⟨b, hb⟩ := seg_mem w.2.2.2.2.2.2.1 hk
        have := mass_mem hk
        have := mass_kids n
        exact node_infos h b k (d + 1) hb (by omega) (by omega)
    have hil := infos_len h d hi n w
    have hil2 : (infosN d n).length ≤ 100010000 := Nat.le_trans hil (Nat.le_trans (Nat.mul_le_mul (show h + 1 ≤ 10001 by omega) hm) (by decide))
    have hie := infosN_eq d n
    have hwl : n.wait.length ≤ 6 := by
      cases h with
      | zero => rw [w.2.1]; exact Nat.zero_le _
      | succ h => exact w.2.1
    have hpl : n.pairs.length ≤ 4 := by
      cases h with
      | zero => exact w.2.2.1
      | succ h => rw [w.1]; exact Nat.zero_le _
    have hkl : n.kids.length ≤ 4 := by
      cases h with
      | zero => rw [w.1]; exact Nat.zero_le _
      | succ h => exact w.2.2.2.2.1
    have c1 := (CloneNote (n.wait.map Note.pv) (fun x hx => by obtain ⟨s, _, rfl⟩ := List.mem_map.1 hx; rfl) (by simp; omega)).forget
    have c2 := (ClonePair (n.pairs.map Pair.pv) (fun x hx => by obtain ⟨s, _, rfl⟩ := List.mem_map.1 hx; rfl) (by simp; omega)).forget
    have htl : ∀ i, (headI d n :: infosL (d + 1) (n.kids.take i)).length ≤ 100010000 := fun i => by
      have e1 : n.kids = n.kids.take i ++ n.kids.drop i := (List.take_append_drop i n.kids).symm
      rw [hie, e1, infosL_app, ← List.cons_append, List.length_append] at hil2
      omega
    rw [hie, e]
    have hh : (headI d n).pv = .agg [.int .i64 d, .int .i64 n.kids.length, .str n.low, .row (n.wait.map Note.pv), .row (n.pairs.map Pair.pv)] := rfl
    generalize headI d n = H at *
    generalize n.kids = ks at *
    refine Ct.of_V Try.func37 rfl (by simp [YtofmiaecjnfeaaaVm.ops, Try.f37]) ?_
    refine V.exec 400 ?_
    simp +contextual (maxSteps := 1000000) only [go_sem, ↓reduceIte, reduceCtorEq, yA, yB, uA, uB, uC, uD, uE, uF, Try.f37]
    refine DV.call [] [] (by simp only [go_sem, ↓reduceIte, reduceCtorEq, yA, yB, uA, uB, uC, uD, uE, uF]) (by simp [dOK]) ⟨60, [], by simp only [go_sem, ↓reduceIte, reduceCtorEq, yA, yB, uA, uB, uC, uD, uE, uF], ⟨_, rfl, rfl, rfl⟩, .inl ⟨[.row (n.wait.map Note.pv)], _, .inl (by simp only [go_sem, ↓reduceIte, reduceCtorEq, yA, yB, uA, uB, uC, uD, uE, uF]), c1, .inr (.inl ⟨_, rfl, rfl, rfl⟩)⟩⟩ (by simp only [go_sem, ↓reduceIte, reduceCtorEq, yA, yB, uA, uB, uC, uD, uE, uF]) (by simp only [go_sem, ↓reduceIte, reduceCtorEq, yA, yB, uA, uB, uC, uD, uE, uF]) (by simp only [go_sem, ↓reduceIte, reduceCtorEq, yA, yB, uA, uB, uC, uD, uE, uF]) (by simp) ?_
    refine DV.exec 400 ?_
    simp +contextual (maxSteps := 1000000) only [go_sem, ↓reduceIte, reduceCtorEq, yA, yB, uA, uB, uC, uD, uE, uF]
    refine DV.call [] [] (by simp only [go_sem, ↓reduceIte, reduceCtorEq, yA, yB, uA, uB, uC, uD, uE, uF]) (by simp [dOK]) ⟨56, [], by simp only [go_sem, ↓reduceIte, reduceCtorEq, yA, yB, uA, uB, uC, uD, uE, uF], ⟨_, rfl, rfl, rfl⟩, .inl ⟨[.row (n.pairs.map Pair.pv)], _, .inl (by simp only [go_sem, ↓reduceIte, reduceCtorEq, yA, yB, uA, uB, uC, uD, uE, uF]), c2, .inr (.inl ⟨_, rfl, rfl, rfl⟩)⟩⟩ (by simp only [go_sem, ↓reduceIte, reduceCtorEq, yA, yB, uA, uB, uC, uD, uE, uF]) (by simp only [go_sem, ↓reduceIte, reduceCtorEq, yA, yB, uA, uB, uC, uD, uE, uF]) (by simp only [go_sem, ↓reduceIte, reduceCtorEq, yA, yB, uA, uB, uC, uD, uE, uF]) (by simp) ?_
    refine DV.exec 400 ?_
    simp +contextual (maxSteps := 1000000) only [go_sem, ↓reduceIte, reduceCtorEq, yA, yB, uA, uB, uC, uD, uE, uF]
    refine ⟨by kernel_rfl, ?_⟩
    refine V.loop (fun m ls os => ∃ (i : Nat), i ≤ ks.length ∧ m = ks.length - i ∧
          ls = [(1, .val (.int .i64 d)), (5, .ref 0), (33, .val (.row (ks.map Nd.pv))), (34, .val (.int .i64 ks.length)), (35, .val (.int .i64 i))] ∧ os = [.row 86 ((H :: infosL (d + 1) (ks.take i)).map Info.pv)]) 1 ks.length
        [(1, .val (.int .i64 d)), (5, .ref 0), (33, .val (.row (ks.map Nd.pv))), (34, .val (.int .i64 ks.length)), (35, .val (.int .i64 0))] [.row 86 [H.pv]] [some 24]
        ⟨0, Nat.zero_le _, rfl, rfl, by simp [infosL]⟩ (by simp only [go_sem, ↓reduceIte, reduceCtorEq, yA, yB, uA, uB, uC, uD, uE, uF, hh]; try decide) ?_
    rintro m ls os ⟨i, hi', rfl, rfl, rfl⟩
    refine V.exec 400 ?_
    by_cases hlt : i < ks.length
    · have hlt' : (i : Int) < (ks.length : Int) := by omega
      obtain ⟨x, hx⟩ : ∃ x, ks[i]? = some x := ⟨_, List.getElem?_eq_getElem hlt⟩
      have hw : IntKind.i64.wrap ((i : Int) + 1) = ((i + 1 : Nat) : Int) := by rw [wrap_small3] <;> omega
      have hw2 : IntKind.i64.wrap ((d : Int) + 1) = ((d + 1 : Nat) : Int) := by rw [wrap_small3] <;> omega
      have c3 := ihk x (List.mem_of_getElem? hx)
      have ht : H :: infosL (d + 1) (ks.take (i + 1)) = H :: infosL (d + 1) (ks.take i) ++ infosN (d + 1) x := by
        rw [List.take_add_one, hx, infosL_app]; simp [infosL]
      have hl2 := htl (i + 1)
      rw [ht] at hl2
      generalize H :: infosL (d + 1) (ks.take i) = L at *
      rw [List.length_append] at hl2
      have ht2 := congrArg (List.map Info.pv) ht
      rw [List.map_cons, List.map_append] at ht2
      have h5 : ∀ y ∈ (infosN (d + 1) x).map Info.pv, y.cells.length = 5 := fun y hy => by
        obtain ⟨s, _, rfl⟩ := List.mem_map.1 hy; rfl
      simp +contextual (maxSteps := 1000000) only [go_sem, ↓reduceIte, reduceCtorEq, yA, yB, uA, uB, uC, uD, uE, uF, hlt', hx, hw, hw2]
      refine V.call rfl rfl (by simp [dOK]) ⟨37, [], by simp only [go_sem, ↓reduceIte, reduceCtorEq, yA, yB, uA, uB, uC, uD, uE, uF], ⟨_, rfl, rfl, rfl⟩, .inl ⟨[x.pv, .int .i64 (d + 1 : Nat)], _, .inl (by simp only [go_sem, ↓reduceIte, reduceCtorEq, yA, yB, uA, uB, uC, uD, uE, uF]), c3, .inr (.inr ⟨86, ((infosN (d + 1) x).map Info.pv)   , rfl, by simp only [go_sem, ↓reduceIte, reduceCtorEq, yA, yB, uA, uB, uC, uD, uE, uF], rfl, rfl⟩)⟩⟩ ?_
      refine V.exec 400 ?_
      simp +contextual (maxSteps := 1000000) only [go_sem, ↓reduceIte, reduceCtorEq, yA, yB, uA, uB, uC, uD, uE, uF, hlt', hx, hw, hw2]
      exact ⟨fun j _ => rfl, ⟨by omega, by omega⟩, ks.length - (i + 1), _, _, [some 10], by omega, ⟨i + 1, by omega, rfl, rfl, rfl⟩, by simp only [go_sem, ↓reduceIte, reduceCtorEq, yA, yB, uA, uB, uC, uD, uE, uF, ht2, List.map_append]; try decide⟩
    · have hlt' : ¬ (i : Int) < (ks.length : Int) := by omega
      obtain rfl : i = ks.length := by omega
      have et : ks.take ks.length = ks := List.take_length
      simp +contextual (maxSteps := 1000000) only [go_sem, ↓reduceIte, reduceCtorEq, yA, yB, uA, uB, uC, uD, uE, uF, hlt', et]
termination_by h => h
theorem tree_Scan (t : Tr) (L : List Pair) (H M : Nat) (r : Range) (g : GoodT t L H M) (hM : M ≤ 10000) : Ct Try.prog 17 (YtofmiaecjnfeaaaVm.ops [Tr.pv t, r.pv]) (.vals [.row ((pickV r L).map Pair.pv)]) := by
  obtain ⟨h, hh, q⟩ := g
  have c1 := tree_top t
  have c2 := node_all h none (topN t) q.wf (Nat.le_trans q.mass hM)
  have hl := all_len h none (topN t) q.wf
  have hm := q.mass
  rw [q.all] at c2 hl
  have c3 := stretch_Pick r L (by omega)
  have et : ∃ x, Tr.pv t = .agg [x] ∧ x.isAgg = false := by
    cases t with
    | none => exact ⟨.nilp, rfl, rfl⟩
    | some n => exact ⟨n.pv, rfl, Nd.pv_isAgg n⟩
  obtain ⟨x, ex, ex2⟩ := et
  rw [ex] at c1 ⊢
  refine Ct.of_V Try.func17 rfl (by simp [YtofmiaecjnfeaaaVm.ops, Try.f17]) ?_
  refine V.exec 400 ?_
  simp +contextual (maxSteps := 1000000) only [go_sem, ↓reduceIte, reduceCtorEq, yA, yB, uA, uB, uC, uD, uE, uF, Try.f17, Range.pv, ex2]
  refine DV.call [] [] (by simp only [go_sem, ↓reduceIte, reduceCtorEq, yA, yB, uA, uB, uC, uD, uE, uF]) (by simp [dOK]) ⟨26, [], by simp only [go_sem, ↓reduceIte, reduceCtorEq, yA, yB, uA, uB, uC, uD, uE, uF], ⟨_, rfl, rfl, rfl⟩, .inl ⟨[.agg [x]], _, .inl (by simp only [go_sem, ↓reduceIte, reduceCtorEq, yA, yB, uA, uB, uC, uD, uE, uF]), c1, .inr (.inl ⟨_, rfl, rfl, rfl⟩)⟩⟩ (by simp only [go_sem, ↓reduceIte, reduceCtorEq, yA, yB, uA, uB, uC, uD, uE, uF]) (by simp only [go_sem, ↓reduceIte, reduceCtorEq, yA, yB, uA, uB, uC, uD, uE, uF]) (by simp only [go_sem, ↓reduceIte, reduceCtorEq, yA, yB, uA, uB, uC, uD, uE, uF]) (by simp) ?_
  refine DV.exec 400 ?_
  simp +contextual (maxSteps := 1000000) only [go_sem, ↓reduceIte, reduceCtorEq, yA, yB, uA, uB, uC, uD, uE, uF, ex2]
  refine DV.call [] [] (by simp only [go_sem, ↓reduceIte, reduceCtorEq, yA, yB, uA, uB, uC, uD, uE, uF]) (by simp [dOK]) ⟨35, [], by simp only [go_sem, ↓reduceIte, reduceCtorEq, yA, yB, uA, uB, uC, uD, uE, uF], ⟨_, rfl, rfl, rfl⟩, .inl ⟨[(topN t).pv], _, .inl (by simp only [go_sem, ↓reduceIte, reduceCtorEq, yA, yB, uA, uB, uC, uD, uE, uF]), c2, .inr (.inl ⟨_, rfl, rfl, rfl⟩)⟩⟩ (by simp only [go_sem, ↓reduceIte, reduceCtorEq, yA, yB, uA, uB, uC, uD, uE, uF]) (by simp only [go_sem, ↓reduceIte, reduceCtorEq, yA, yB, uA, uB, uC, uD, uE, uF]) (by simp only [go_sem, ↓reduceIte, reduceCtorEq, yA, yB, uA, uB, uC, uD, uE, uF]) (by simp) ?_
  refine DV.exec 400 ?_
  simp +contextual (maxSteps := 1000000) only [go_sem, ↓reduceIte, reduceCtorEq, yA, yB, uA, uB, uC, uD, uE, uF, ex2]
  refine DV.call [] [] (by simp only [go_sem, ↓reduceIte, reduceCtorEq, yA, yB, uA, uB, uC, uD, uE, uF, Range.pv]) (by simp [dOK]) ⟨34, [], by simp only [go_sem, ↓reduceIte, reduceCtorEq, yA, yB, uA, uB, uC, uD, uE, uF, Range.pv], ⟨_, rfl, rfl, rfl⟩, .inl ⟨[r.pv, .row (L.map Pair.pv)], _, .inl (by simp only [go_sem, ↓reduceIte, reduceCtorEq, yA, yB, uA, uB, uC, uD, uE, uF, Range.pv]), c3, .inr (.inl ⟨_, rfl, rfl, rfl⟩)⟩⟩ (by simp only [go_sem, ↓reduceIte, reduceCtorEq, yA, yB, uA, uB, uC, uD, uE, uF, Range.pv]) (by simp only [go_sem, ↓reduceIte, reduceCtorEq, yA, yB, uA, uB, uC, uD, uE, uF, Range.pv]) (by simp only [go_sem, ↓reduceIte, reduceCtorEq, yA, yB, uA, uB, uC, uD, uE, uF, Range.pv]) (by simp) ?_
  refine DV.exec 400 ?_
  simp +contextual (maxSteps := 1000000) only [go_sem, ↓reduceIte, reduceCtorEq, yA, yB, uA, uB, uC, uD, uE, uF, ex2]
  kernel_rfl
theorem tree_Get (t : Tr) (L : List Pair) (H M : Nat) (k : List UInt8) (g : GoodT t L H M) : Ct Try.prog 14 (YtofmiaecjnfeaaaVm.ops [Tr.pv t, .str k]) (.vals [.str (getV L k).1, .bool (decide ((getV L k).2 = true))]) := by
  obtain ⟨h, hh, q⟩ := g
  have c1 := tree_top t
  have hin : In (topN t).low none k := ⟨by rw [q.low]; exact slt_nil _, fun b hb => by cases hb⟩
  have c2 := node_get h none (topN t) k q.wf hin
  rw [getN_spec h none (topN t) k q.wf hin, q.all] at c2
  have et : ∃ x, Tr.pv t = .agg [x] ∧ x.isAgg = false := by
    cases t with
    | none => exact ⟨.nilp, rfl, rfl⟩
    | some n => exact ⟨n.pv, rfl, Nd.pv_isAgg n⟩
  obtain ⟨x, ex, ex2⟩ := et
  rw [ex] at c1 ⊢
  refine Ct.of_V Try.func14 rfl (by simp [YtofmiaecjnfeaaaVm.ops, Try.f14]) ?_
  refine V.exec 400 ?_
  simp +contextual (maxSteps := 1000000) only [go_sem, ↓reduceIte, reduceCtorEq, yA, yB, uA, uB, uC, uD, uE, uF, Try.f14, ex2]
  refine V.call rfl rfl (by simp [dOK]) ⟨26, [], by simp only [go_sem, ↓reduceIte, reduceCtorEq, yA, yB, uA, uB, uC, uD, uE, uF], ⟨_, rfl, rfl, rfl⟩, .inl ⟨[.agg [x]], _, .inl (by simp only [go_sem, ↓reduceIte, reduceCtorEq, yA, yB, uA, uB, uC, uD, uE, uF]), c1, .inr (.inl ⟨_, rfl, rfl, rfl⟩)⟩⟩ ?_
  refine V.exec 400 ?_
  simp +contextual (maxSteps := 1000000) only [go_sem, ↓reduceIte, reduceCtorEq, yA, yB, uA, uB, uC, uD, uE, uF, ex2]
  refine V.call rfl rfl (by simp [dOK]) ⟨33, [], by simp only [go_sem, ↓reduceIte, reduceCtorEq, yA, yB, uA, uB, uC, uD, uE, uF], ⟨_, rfl, rfl, rfl⟩, .inl ⟨[(topN t).pv, .str k], _, .inl (by simp only [go_sem, ↓reduceIte, reduceCtorEq, yA, yB, uA, uB, uC, uD, uE, uF]), c2, .inl ⟨_, rfl, rfl, rfl, rfl⟩⟩⟩ ?_
  refine V.exec 400 ?_
  simp +contextual (maxSteps := 1000000) only [go_sem, ↓reduceIte, reduceCtorEq, yA, yB, uA, uB, uC, uD, uE, uF, ex2]
theorem tree_Infos (t : Tr) (L : List Pair) (H M : Nat) (g : GoodT t L H M) (hH : H ≤ 10000) (hM : M ≤ 10000) : Ct Try.prog 20 (YtofmiaecjnfeaaaVm.ops [Tr.pv t]) (.vals [.row ((infosN 0 (topN t)).map Info.pv)]) := by
  obtain ⟨h, hh, q⟩ := g
  have c1 := tree_top t
  have c2 := (node_infos h none (topN t) 0 q.wf (Nat.le_trans q.mass hM) (by omega)).forget
  have et : ∃ x, Tr.pv t = .agg [x] ∧ x.isAgg = false := by
    cases t with
    | none => exact ⟨.nilp, rfl, rfl⟩
    | some n => exact ⟨n.pv, rfl, Nd.pv_isAgg n⟩
  obtain ⟨x, ex, ex2⟩ := et
  rw [ex] at c1 ⊢
  refine Ct.of_V Try.func20 rfl (by simp [YtofmiaecjnfeaaaVm.ops, Try.f20]) ?_
  refine V.exec 400 ?_
  simp +contextual (maxSteps := 1000000) only [go_sem, ↓reduceIte, reduceCtorEq, yA, yB, uA, uB, uC, uD, uE, uF, Try.f20, ex2]
  refine V.call rfl rfl (by simp [dOK]) ⟨26, [], by simp only [go_sem, ↓reduceIte, reduceCtorEq, yA, yB, uA, uB, uC, uD, uE, uF], ⟨_, rfl, rfl, rfl⟩, .inl ⟨[.agg [x]], _, .inl (by simp only [go_sem, ↓reduceIte, reduceCtorEq, yA, yB, uA, uB, uC, uD, uE, uF]), c1, .inr (.inl ⟨_, rfl, rfl, rfl⟩)⟩⟩ ?_
  refine V.exec 400 ?_
  simp +contextual (maxSteps := 1000000) only [go_sem, ↓reduceIte, reduceCtorEq, yA, yB, uA, uB, uC, uD, uE, uF, ex2]
  rw [show ((0 : Nat) : Int) = 0 from rfl] at c2
  refine V.call rfl rfl (by simp [dOK]) ⟨37, [], by simp only [go_sem, ↓reduceIte, reduceCtorEq, yA, yB, uA, uB, uC, uD, uE, uF], ⟨_, rfl, rfl, rfl⟩, .inl ⟨[(topN t).pv, .int .i64 0], _, .inl (by simp only [go_sem, ↓reduceIte, reduceCtorEq, yA, yB, uA, uB, uC, uD, uE, uF]), c2, .inr (.inl ⟨_, rfl, rfl, rfl⟩)⟩⟩ ?_
  refine V.exec 400 ?_
  simp +contextual (maxSteps := 1000000) only [go_sem, ↓reduceIte, reduceCtorEq, yA, yB, uA, uB, uC, uD, uE, uF, ex2]
end Go.Proofs.Ytofmiaecjnfeaaa
set_option linter.unusedVariables false
set_option linter.unusedSimpArgs false
set_option maxRecDepth 8000
namespace Go.Proofs.Ytofmiaecjnfeaaa
open Nat renaming reduceAdd → uA, reduceLT → uB, reduceEqDiff → uC, reduceLeDiff → uD, reduceSub → uE, reduceMul → uF
open Bool renaming false_eq_true → yA, true_eq_false → yB
open Go Go.Proofs Go.Proofs.YtofmiaecjnfeaaaVm Go.Proofs.Ytofmiaecjnfeaaa.Ty

/-! ### The code of parts, piece by piece -/
def cA : Code → Code
  | .seq x _ => x
  | c => c
def cB : Code → Code
  | .seq _ y => y
  | c => c
def cI : Code → Code
  | .block _ c => c
  | .loop c => c
  | c => c
noncomputable def prt : Code := match Try.f27.body with
  | some c => c
  | none => .skip
noncomputable def prt3 : Code := cB (cB (cB prt))
noncomputable def bd1 : Code := cI (cI (cB (cA prt3)))
noncomputable def bb1 : Code := cI (cA (cB bd1))
noncomputable def bd2 : Code := cI (cI (cB (cA (cB prt3))))
noncomputable def bb2 : Code := cI (cA (cB (cB bd2)))
def ndv (lo : List UInt8) (ks : List Nd) (w : List Note) (p : List Pair) : PV := .ptr (.agg [.str lo, .row (ks.map Nd.pv), .row (w.map Note.pv), .row (p.map Pair.pv)])
def Fl : St → Prop := fun _ => False

theorem pw0 (v : PV) : V .low Try.prog Try.f27.ntmps Fl [.code (cA prt), .stop (fun τ => ∃ ρ, Match Try.prog τ ρ [(0, .val v)] [])] (initSt (YtofmiaecjnfeaaaVm.ops [v])) := by
  refine V.exec 400 ?_
  simp +contextual (maxSteps := 1000000) only [go_sem, ↓reduceIte, reduceCtorEq, yA, yB, uA, uB, uC, uD, uE, uF, prt, cA, cB, Try.f27]
  exact ⟨[], by simp only [go_sem, ↓reduceIte, reduceCtorEq, yA, yB, uA, uB, uC, uD, uE, uF]⟩
theorem pw1 (v : PV) : V .low Try.prog Try.f27.ntmps Fl [.code (cA (cB prt)), .stop (fun τ => ∃ ρ, Match Try.prog τ ρ [(0, .val v), (3, .ref 0)] [.row 26 []])] (litSt [(0, .val v)] [] 1) := by
  refine V.exec 400 ?_
  simp +contextual (maxSteps := 1000000) only [go_sem, ↓reduceIte, reduceCtorEq, yA, yB, uA, uB, uC, uD, uE, uF, prt, cA, cB, Try.f27]
  exact ⟨[none], by simp only [go_sem, ↓reduceIte, reduceCtorEq, yA, yB, uA, uB, uC, uD, uE, uF]; try decide⟩
theorem pw2 (lo : List UInt8) (ks : List Nd) (w : List Note) (p : List Pair) : V .low Try.prog Try.f27.ntmps Fl
    [.code (cA (cB (cB prt))), .stop (fun τ => ∃ ρ, Match Try.prog τ ρ [(0, .val (ndv lo ks w p)), (3, .ref 0), (4, .val (.row (ks.map Nd.pv)))] [.row 26 []])] (litSt [(0, .val (ndv lo ks w p)), (3, .ref 0)] [.row 26 []] 1) := by
  refine V.exec 400 ?_
  simp +contextual (maxSteps := 1000000) only [go_sem, ↓reduceIte, reduceCtorEq, yA, yB, uA, uB, uC, uD, uE, uF, prt, cA, cB, Try.f27, ndv]
  exact ⟨[some 0], by simp only [go_sem, ↓reduceIte, reduceCtorEq, yA, yB, uA, uB, uC, uD, uE, uF]; try decide⟩
def pst (lo : List UInt8) (ks : List Nd) (w : List Note) (p : List Pair) (vs : List Value) (rest : List Nd) (many : Nat) : List (Nat × AV) := [(0, .val (ndv lo ks w p)), (3, .ref 0), (4, .val (.row (rest.map Nd.pv))), (5, .val (.int .i64 many))]
def pob (vs : List Value) : List Ob := [.row 26 (vs.map PV.raw)]
theorem pw3 (lo : List UInt8) (ks : List Nd) (w : List Note) (p : List Pair) (hk : ks.length ≤ 100000) : V .low Try.prog Try.f27.ntmps Fl
    [.code (cA (cA prt3)), .stop (fun τ => ∃ ρ, Match Try.prog τ ρ (pst lo ks w p [] ks ((ks.length + 3) / 4)) (pob []))] (litSt [(0, .val (ndv lo ks w p)), (3, .ref 0), (4, .val (.row (ks.map Nd.pv)))] [.row 26 []] 1) := by
  have h1 : IntKind.i64.wrap ((ks.length : Int) + 4) = ((ks.length + 4 : Nat) : Int) := by rw [wrap_small3] <;> omega
  have h2 : IntKind.i64.wrap (((ks.length + 4 : Nat) : Int) - 1) = ((ks.length + 3 : Nat) : Int) := by rw [wrap_small3] <;> omega
  have h3 : IntKind.i64.wrap (((ks.length + 3 : Nat) : Int).tdiv 4) = (((ks.length + 3) / 4 : Nat) : Int) := by
    have e : ((ks.length + 3 : Nat) : Int).tdiv 4 = (((ks.length + 3) / 4 : Nat) : Int) := rfl
    rw [e, wrap_small3] <;> omega
  refine V.exec 400 ?_
  simp +contextual (maxSteps := 1000000) only [go_sem, ↓reduceIte, reduceCtorEq, yA, yB, uA, uB, uC, uD, uE, uF, prt3, prt, cA, cB, Try.f27, ndv, h1, h2, h3, pst, pob]
  exact ⟨by decide, [some 0], by simp only [go_sem, ↓reduceIte, reduceCtorEq, yA, yB, uA, uB, uC, uD, uE, uF, List.map_nil]; try decide⟩
theorem pw4 (lo : List UInt8) (ks : List Nd) (w : List Note) (p : List Pair) (vs : List Value) (rest : List Nd) (m : Nat) : V .low Try.prog Try.f27.ntmps Fl
    [.code (cA bd1), .stop (fun τ => ∃ ρ, Match Try.prog τ ρ (pst lo ks w p vs rest (m + 1)) (pob vs))] (litSt (pst lo ks w p vs rest (m + 1)) (pob vs) 1) := by
  have h0 : (0 : Int) < ((m + 1 : Nat) : Int) := by omega
  refine V.exec 400 ?_
  simp +contextual (maxSteps := 1000000) only [go_sem, ↓reduceIte, reduceCtorEq, yA, yB, uA, uB, uC, uD, uE, uF, bd1, cI, prt3, prt, cA, cB, Try.f27, ndv, pst, pob, h0]
  exact ⟨[some 0], by simp only [go_sem, ↓reduceIte, reduceCtorEq, yA, yB, uA, uB, uC, uD, uE, uF]; try decide⟩
def p6 (lo : List UInt8) (ks : List Nd) (w : List Note) (p : List Pair) (vs : List Value) (rest : List Nd) (m k : Nat) : List (Nat × AV) := pst lo ks w p vs rest (m + 1) ++ [(6, .val (.int .i64 k))]
theorem pw6 (lo : List UInt8) (ks : List Nd) (w : List Note) (p : List Pair) (vs : List Value) (rest : List Nd) (m : Nat) (hr : rest.length ≤ 100000) (hm : m ≤ 100000) : V .low Try.prog Try.f27.ntmps Fl
    [.code (cA bb1), .stop (fun τ => ∃ ρ, Match Try.prog τ ρ (p6 lo ks w p vs rest m ((rest.length + m) / (m + 1))) (pob vs))] (litSt (pst lo ks w p vs rest (m + 1)) (pob vs) 1) := by
  have hw1 : IntKind.i64.wrap ((rest.length : Int) + ((m + 1 : Nat) : Int)) = ((rest.length + (m + 1) : Nat) : Int) := by rw [wrap_small3] <;> omega
  have hw2 : IntKind.i64.wrap (((rest.length + (m + 1) : Nat) : Int) - 1) = ((rest.length + m : Nat) : Int) := by rw [wrap_small3] <;> omega
  have hw3 : IntKind.i64.wrap (((rest.length + m : Nat) : Int).tdiv ((m + 1 : Nat) : Int)) = (((rest.length + m) / (m + 1) : Nat) : Int) := by
    have e : ((rest.length + m : Nat) : Int).tdiv ((m + 1 : Nat) : Int) = (((rest.length + m) / (m + 1) : Nat) : Int) := rfl
    have : (rest.length + m) / (m + 1) ≤ rest.length + m := Nat.div_le_self _ _
    rw [e]
    generalize (rest.length + m) / (m + 1) = c at *
    rw [wrap_small3] <;> omega
  have hp0 : ¬ ((m + 1 : Nat) : Int) = 0 := by omega
  refine V.exec 400 ?_
  simp +contextual (maxSteps := 1000000) only [go_sem, ↓reduceIte, reduceCtorEq, yA, yB, uA, uB, uC, uD, uE, uF, bb1, bd1, cI, prt3, prt, cA, cB, Try.f27, ndv, pst, pob, p6, hw1, hw2, hw3, hp0]
  exact ⟨[some 0], by simp only [go_sem, ↓reduceIte, reduceCtorEq, yA, yB, uA, uB, uC, uD, uE, uF]; try decide⟩
def pbx (lo : List UInt8) (g : List Nd) : Ob := .box true [.val (.str lo), .val (.row (g.map Nd.pv)), .val (.row []), .val (.row [])]
theorem pw7 (lo : List UInt8) (ks : List Nd) (w : List Note) (p : List Pair) (vs : List Value) (rest : List Nd) (m k : Nat) (hr : rest ≠ []) (hk : k ≤ rest.length) : V .low Try.prog Try.f27.ntmps Fl
    [.code (cA (cB bb1)), .stop (fun τ => ∃ ρ, Match Try.prog τ ρ (p6 lo ks w p vs rest m k ++ [(7, .adr 1 0)]) (pob vs ++ [pbx (headLow rest) (rest.take k)]))] (litSt (p6 lo ks w p vs rest m k) (pob vs) 1) := by
  obtain ⟨x, xs, rfl⟩ : ∃ x xs, rest = x :: xs := by
    cases rest with
    | nil => exact absurd rfl hr
    | cons x xs => exact ⟨x, xs, rfl⟩
  have e := Nd.pv_eq x
  have hk' : (k : Int) ≤ ((x :: xs).length : Int) := by omega
  have hl : (0 : Int) < ((x :: xs).length : Int) := by simp
  have h0 : ((x :: xs).map Nd.pv)[(0 : Int).toNat]? = some x.pv := rfl
  have hlen : ((x :: xs).map Nd.pv).length = (x :: xs).length := by simp
  generalize hR : (x :: xs).map Nd.pv = R at *
  refine V.exec 400 ?_
  simp +contextual (maxSteps := 1000000) only [go_sem, ↓reduceIte, reduceCtorEq, yA, yB, uA, uB, uC, uD, uE, uF, bb1, bd1, cI, prt3, prt, cA, cB, Try.f27, ndv, pst, pob, p6, pbx, h0, e, hR, hlen, hk', Int.le_refl]
  exact ⟨by have : (x :: xs).length = xs.length + 1 := rfl; omega, by kernel_rfl, [some 0, some 12], by simp only [go_sem, ↓reduceIte, reduceCtorEq, yA, yB, uA, uB, uC, uD, uE, uF, ← hR, List.map_take, headLow]; try decide⟩
def lowOf (lo : List UInt8) (vs : List Value) (rest : List Nd) : List UInt8 := if vs.length = 0 then lo else headLow rest
theorem pwX (lo : List UInt8) (ks : List Nd) (w : List Note) (p : List Pair) (vs : List Value) (rest : List Nd) (m k : Nat) (g : List Nd) : V .low Try.prog Try.f27.ntmps Fl
    [.code (cA (cB (cB bb1))), .stop (fun τ => ∃ ρ, Match Try.prog τ ρ (p6 lo ks w p vs rest m k ++ [(7, .adr 1 0)]) (pob vs ++ [pbx (lowOf lo vs rest) g]))] (litSt (p6 lo ks w p vs rest m k ++ [(7, .adr 1 0)]) (pob vs ++ [pbx (headLow rest) g]) 2) := by
  refine V.exec 400 ?_
  by_cases h0 : vs.length = 0
  · obtain rfl : vs = [] := List.eq_nil_of_length_eq_zero h0
    have h00 : ((0 : Nat) : Int) = 0 := rfl
    simp +contextual (maxSteps := 1000000) only [go_sem, ↓reduceIte, reduceCtorEq, yA, yB, uA, uB, uC, uD, uE, uF, bb1, bd1, cI, prt3, prt, cA, cB, Try.f27, ndv, pst, pob, p6, pbx, List.map_nil, List.length_nil, h00, lowOf]
    exact ⟨[some 0, some 1], by simp only [go_sem, ↓reduceIte, reduceCtorEq, yA, yB, uA, uB, uC, uD, uE, uF]; try decide⟩
  · have h0' : ¬ (vs.length : Int) = 0 := by omega
    simp +contextual (maxSteps := 1000000) only [go_sem, ↓reduceIte, reduceCtorEq, yA, yB, uA, uB, uC, uD, uE, uF, bb1, bd1, cI, prt3, prt, cA, cB, Try.f27, ndv, pst, pob, p6, pbx, h0', lowOf, h0]
    exact ⟨[some 0, some 1], by simp only [go_sem, ↓reduceIte, reduceCtorEq, yA, yB, uA, uB, uC, uD, uE, uF]; try decide⟩
theorem pw10 (lo : List UInt8) (ks : List Nd) (w : List Note) (p : List Pair) (vs : List Value) (rest : List Nd) (m k : Nat) (g : List Nd) (v : Value) (hk : k ≤ rest.length) (hvs : vs.length ≤ 100000) : V .low Try.prog Try.f27.ntmps Fl
    [.code (cB (cB (cB bb1))), .stop (fun τ => ∃ ρ, Match Try.prog τ ρ (pst lo ks w p (vs ++ [v]) (rest.drop k) (m + 1)) (pob (vs ++ [v])))]
    (((litSt (p6 lo ks w p vs rest m k ++ [(7, .adr 1 0)]) (pob vs ++ [pbx (lowOf lo vs rest) g]) 2).setOb 1 .gone).set 7 (.val (.raw v))) := by
  have hk' : (k : Int) ≤ (rest.length : Int) := by omega
  refine V.exec 400 ?_
  simp +contextual (maxSteps := 1000000) only [go_sem, ↓reduceIte, reduceCtorEq, yA, yB, uA, uB, uC, uD, uE, uF, bb1, bd1, cI, prt3, prt, cA, cB, Try.f27, ndv, pst, pob, p6, pbx, hk']
  exact ⟨⟨by omega, by omega⟩, by kernel_rfl, [some 5], by simp only [go_sem, ↓reduceIte, reduceCtorEq, yA, yB, uA, uB, uC, uD, uE, uF, List.map_drop, List.map_append, List.map_cons, List.map_nil]; try decide⟩
theorem pw5 (lo : List UInt8) (ks : List Nd) (w : List Note) (p : List Pair) (vs : List Value) (rest : List Nd) (m : Nat) (hm : m ≤ 100000) : V .low Try.prog Try.f27.ntmps Fl
    [.code (cB (cB bd1)), .stop (fun τ => ∃ ρ, Match Try.prog τ ρ (pst lo ks w p vs rest m) (pob vs))] (litSt (pst lo ks w p vs rest (m + 1)) (pob vs) 1) := by
  have hw4 : IntKind.i64.wrap (((m + 1 : Nat) : Int) - 1) = (m : Int) := by rw [wrap_small3] <;> omega
  refine V.exec 400 ?_
  simp +contextual (maxSteps := 1000000) only [go_sem, ↓reduceIte, reduceCtorEq, yA, yB, uA, uB, uC, uD, uE, uF, bb1, bd1, cI, prt3, prt, cA, cB, Try.f27, ndv, pst, pob, hw4]
  exact ⟨[some 0], by simp only [go_sem, ↓reduceIte, reduceCtorEq, yA, yB, uA, uB, uC, uD, uE, uF]; try decide⟩
theorem pwE (lo : List UInt8) (ks : List Nd) (w : List Note) (p : List Pair) (vs : List Value) (rest : List Nd) : V .low Try.prog Try.f27.ntmps Fl
    [.code bd1, .again Fl, .blk 0, .stop (fun τ => ∃ ρ, Match Try.prog τ ρ [(0, .val (ndv lo ks w p)), (3, .ref 0)] (pob vs))] (litSt (pst lo ks w p vs rest 0) (pob vs) 1) := by
  have h0 : ¬ (0 : Int) < ((0 : Nat) : Int) := by omega
  refine V.exec 400 ?_
  simp +contextual (maxSteps := 1000000) only [go_sem, ↓reduceIte, reduceCtorEq, yA, yB, uA, uB, uC, uD, uE, uF, bb1, bd1, cI, prt3, prt, cA, cB, Try.f27, ndv, pst, pob, h0]
  exact ⟨[some 0], by simp only [go_sem, ↓reduceIte, reduceCtorEq, yA, yB, uA, uB, uC, uD, uE, uF]; try decide⟩
end Go.Proofs.Ytofmiaecjnfeaaa
