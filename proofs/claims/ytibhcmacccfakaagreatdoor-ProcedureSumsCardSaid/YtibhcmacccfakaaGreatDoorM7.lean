/- The evaluator is sound: a run that ends gives the contract of the call. -/
import Derived.Test.YtibhcmacccfakaaGreatDoorM6
import Derived.OrdersIn
import Derived.RangeFuncLeaves
import Derived.Below
set_option linter.unusedSectionVars false
set_option linter.unusedVariables false
set_option linter.unusedSimpArgs false
namespace Go.Proofs.YtibhcmacccfakaaGreatDoor
variable [Sym]

/-- What a call may touch: blocks of its own, ghost blocks from ro on, marks from n on. -/
def touch (ro n : Nat) (t : Tag) : Prop := t ≠ .other ∧ (∀ g, t = .heap g → ro ≤ g) ∧ ∀ g, t = .defer g → n ≤ g

theorem opT.touch {ro n : Nat} {t : Tag} (h : opT ro t) : touch ro n t := by
  rcases h with ⟨g, hg, rfl⟩ | ⟨s, rfl⟩ | ⟨l, rfl⟩
  · exact ⟨by simp, fun g' hq => (by simp only [Tag.heap.injEq] at hq; omega), fun g' hq => (by cases hq)⟩
  · exact ⟨by simp, fun g' hq => (by cases hq), fun g' hq => (by cases hq)⟩
  · exact ⟨by simp, fun g' hq => (by cases hq), fun g' hq => (by cases hq)⟩
theorem touch.le {ro n ro' n' : Nat} {t : Tag} (h : touch ro n t) (h1 : ro' ≤ ro) (h2 : n' ≤ n) : touch ro' n' t :=
  ⟨h.1, fun g hg => Nat.le_trans h1 (h.2.1 g hg), fun g hg => Nat.le_trans h2 (h.2.2 g hg)⟩

def Own.shut (f : Tag → Bool) (O : Own) : Own := ⟨O.M, O.K, fun b => if f (O.B b) then .other else O.B b⟩
def Own.reopen (f : Tag → Bool) (w : World) (O O1 : Own) : Own := ⟨O1.M, O1.K, fun b => if b < w.heap.size ∧ f (O.B b) = true then O.B b else O1.B b⟩
/-- It speaks of variables and permissions alone. -/
def Hides (f : Tag → Bool) : Prop := ∀ t, f t = true → (∃ s, t = .box s) ∨ ∃ l, t = .perm l

section
variable {P : Program} {G : Glob} {τ : Tag → Prop} {O O1 : Own} {w w1 : World} {st s1 : St} {f : Tag → Bool}

theorem Hides.heap (hf : Hides f) (g : Nat) : f (.heap g) = false := by
  cases h : f (.heap g) with
  | false => rfl
  | true => rcases hf _ h with ⟨s, h⟩ | ⟨l, h⟩ <;> cases h
theorem Hides.defer (hf : Hides f) (g : Nat) : f (.defer g) = false := by
  cases h : f (.defer g) with
  | false => rfl
  | true => rcases hf _ h with ⟨s, h⟩ | ⟨l, h⟩ <;> cases h
theorem Hides.other (hf : Hides f) : f .other = false := by
  cases h : f .other with
  | false => rfl
  | true => rcases hf _ h with ⟨s, h⟩ | ⟨l, h⟩ <;> cases h

theorem HInv.shut (h : HInv P G O st w) (hf : Hides f) {st' : St} (hheap : st'.heap = st.heap) (hpp : ∀ g i, (g, i) ∈ st'.perms → (g, i) ∈ st.perms ∧ f (.perm (.hcell g i)) = false) :
    HInv P G (O.shut f) st' w := by
  have hs : Stp (fun t => f t = true) O w (O.shut f) w := {
    mem := .refl _
    kmap := .refl _
    size := Nat.le_refl _
    os := rfl
    tape := rfl
    output := rfl
    same := fun b _ hb => ⟨rfl, by simp only [Own.shut]; rw [if_neg hb], fun _ => rfl⟩
    ksame := fun g k hk _ _ _ => hk }
  refine h.stp hs (fun g o hg => .inl ⟨by rw [← hheap]; exact hg, by simp [hf.heap], fun _ _ => by simp [hf.defer]⟩) (fun g i hg => .inl ⟨(hpp g i hg).1, by rw [hheap], by simp [hf.heap], by simp [(hpp g i hg).2]⟩)
    (fun b hb o v hm => ?_) (fun b hb => ?_) (by rw [hheap]; exact h.kdom) fun g i hg => by rw [hheap]; exact h.pdom g i (hpp g i hg).1
  · obtain ⟨h1, h2⟩ := h.mem b o v hm
    refine ⟨h1, ?_⟩
    simp only [Own.shut]
    split
    · exact .inl rfl
    · exact h2
  · obtain ⟨h1, h2⟩ := h.fresh b hb
    exact ⟨by simp [Own.shut, h1], h2⟩

theorem Stp.reopen (hf : Hides f) (ho : ¬ τ .other) (s : Stp τ (O.shut f) w O1 w1) : Stp (fun t => τ t ∧ f t = false) O w (O.reopen f w O1) w1 where
  mem := s.mem
  kmap := s.kmap
  size := s.size
  os := s.os
  tape := s.tape
  output := s.output
  same b hb ht := by
    by_cases hfb : f (O.B b) = true
    · obtain ⟨h1, h2, h3⟩ := s.same b hb (by simp only [Own.shut]; rw [if_pos hfb]; exact ho)
      exact ⟨h1, by simp only [Own.reopen]; rw [if_pos ⟨hb, hfb⟩], h3⟩
    · have hsh : (O.shut f).B b = O.B b := by simp only [Own.shut]; rw [if_neg hfb]
      obtain ⟨h1, h2, h3⟩ := s.same b hb (by rw [hsh]; exact fun q => ht ⟨q, by simpa using hfb⟩)
      exact ⟨h1, by simp only [Own.reopen]; rw [if_neg fun q => hfb q.2, h2, hsh], h3⟩
  ksame g k hk hb hB ht := by
    refine s.ksame g k hk hb ?_ fun q => ht ⟨q, hf.heap g⟩
    simp only [Own.shut]; rw [hB, hf.heap]; rfl

theorem reopen_B (ho : ¬ τ .other) (s : Stp τ (O.shut f) w O1 w1) {b : Nat} (h : O1.B b ≠ .other) : (O.reopen f w O1).B b = O1.B b := by
  simp only [Own.reopen]
  split
  · rename_i hc
    obtain ⟨_, h2, _⟩ := s.same b hc.1 (by simp only [Own.shut]; rw [if_pos hc.2]; exact ho)
    exfalso
    apply h
    rw [h2]
    simp only [Own.shut]; rw [if_pos hc.2]
  · rfl

theorem HInv.reopen (h : HInv P G O st w) (hf : Hides f) (ho : ¬ τ .other) (s : Stp τ (O.shut f) w O1 w1) (h1 : HInv P G O1 s1 w1) : HInv P G (O.reopen f w O1) s1 w1 := by
  have hs : Stp (· = .other) O1 w1 (O.reopen f w O1) w1 := {
    mem := .refl _
    kmap := .refl _
    size := Nat.le_refl _
    os := rfl
    tape := rfl
    output := rfl
    same := fun b _ hb => ⟨rfl, reopen_B ho s hb, fun _ => rfl⟩
    ksame := fun g k hk _ _ _ => hk }
  refine h1.stp hs (fun g o hg => .inl ⟨hg, by simp, fun _ _ => by simp⟩) (fun g i hg => .inl ⟨hg, rfl, by simp, by simp⟩) (fun b hb o v hm => ?_) (fun b hb => ?_) h1.kdom h1.pdom
  · have hm : O1.M b o = some v := hm
    obtain ⟨g1, g2⟩ := h1.mem b o v hm
    refine ⟨g1, ?_⟩
    simp only [Own.reopen]
    split
    · rename_i hc
      rcases hf _ hc.2 with ⟨r, hr⟩ | ⟨l, hl⟩
      · exfalso
        obtain ⟨_, _, h3⟩ := s.same b hc.1 (by simp only [Own.shut]; rw [if_pos hc.2]; exact ho)
        rw [h3] at hm
        have hm : O.M b o = some v := hm
        obtain ⟨_, h4⟩ := h.mem b o v hm
        rw [hr] at h4
        rcases h4 with h4 | ⟨l, h4⟩ <;> cases h4
      · exact .inr ⟨l, hl⟩
    · exact g2
  · obtain ⟨g1, g2⟩ := h1.fresh b hb
    have := s.size
    refine ⟨?_, g2⟩
    simp only [Own.reopen]
    rw [if_neg (by omega)]
    exact g1

/-! ### The end of a call -/
def above (n : Nat) : Tag → Bool
  | .heap g => decide (n ≤ g)
  | .defer g => decide (n ≤ g)
  | .perm (.hcell g _) => decide (n ≤ g)
  | _ => false
/-- The ghost blocks from n on are ghost blocks no more: their cells never change from now on. -/
def Own.close (O : Own) (n : Nat) (w : World) : Own :=
  ⟨fun b o => match O.B b with
    | .heap g => if n ≤ g then w.cell? ⟨b, o, none⟩ else O.M b o
    | _ => O.M b o, cutK n O.K, fun b => if above n (O.B b) then .other else O.B b⟩

theorem close_mem (h : HInv P G O st w) (n : Nat) : MLe O.M (O.close n w).M := fun b o v hm => by
  obtain ⟨h1, h2⟩ := h.mem b o v hm
  simp only [Own.close]
  split
  · split
    · exact h1
    · exact hm
  · exact hm

theorem close_vrel (h : HInv P G O st w) {n : Nat} {v : GV} {x : Value} (hv : VRel O.M O.K v x) (hn : refsLt n v = true) : VRel (O.close n w).M (O.close n w).K v x :=
  hv.mono' (close_mem h n) (fun g hg k hk => ⟨k, by simp only [Own.close, cutK]; rw [if_pos hg]; exact hk, Nat.le_refl _, fun _ => rfl⟩) hn

theorem close_M {n : Nat} {b : Nat} (h : ∀ g, O.B b = .heap g → g < n) (o : Nat) : (O.close n w).M b o = O.M b o := by
  simp only [Own.close]
  split
  · rename_i g hg
    have := h g hg
    rw [if_neg (by omega)]
  · rfl

theorem Perm.close {n : Nat} {l : PLoc} {sz len : Nat} {x : Value} (h : Perm O w l sz len x) (hl : above n (.perm l) = false) : Perm (O.close n w) w l sz len x := by
  obtain ⟨b, off, cap, rc, ty, rfl, hB, hh, hc, hM⟩ := h
  refine ⟨b, off, cap, rc, ty, rfl, by simp only [Own.close]; rw [hB, hl]; rfl, hh, hc, fun j hj => ?_⟩
  rw [close_M fun g hg => by rw [hB] at hg; cases hg]
  exact hM j hj

theorem HInv.close (h : HInv P G O st w) {n : Nat} (hl : Low n st) {st' : St} (hheap : st'.heap = st.heap.take n) (hpp : ∀ g i, (g, i) ∈ st'.perms → (g, i) ∈ st.perms ∧ g < n) :
    HInv P G (O.close n w) st' w where
  obj g o hg := by
    rw [hheap, List.getElem?_take] at hg
    split at hg
    · rename_i hgn
      have hlow := hl g o hgn hg
      have kk : ∀ {k : KI}, O.K g = some k → (O.close n w).K g = some k := fun hk => by simp only [Own.close, cutK]; rw [if_pos hgn]; exact hk
      have bb : ∀ {b : Nat}, O.B b = .heap g → (O.close n w).B b = .heap g := fun hb => by simp only [Own.close, hb, above]; rw [if_neg (by simp; omega)]
      have ho := h.obj g o hg
      cases o with
      | dead => trivial
      | cells ver cs =>
        obtain ⟨k, rc, ty, k1, k2, k3, k4, k5, k6, k7⟩ := ho
        exact ⟨k, rc, ty, kk k1, k2, bb k3, k4, k5, k6, fun i c y e1 e2 => close_vrel h (k7 i c y e1 e2) (refsLtL_get hlow e1)⟩
      | map es =>
        obtain ⟨k, res, clock, k1, k2, k3, k4, k5, k6⟩ := ho
        exact ⟨k, res, clock, kk k1, k2, bb k3, k4, k5, fun i c y e1 e2 => ⟨close_vrel h (k6 i c y e1 e2).1 (hlow c (List.mem_of_getElem? e1)).1, close_vrel h (k6 i c y e1 e2).2 (hlow c (List.mem_of_getElem? e1)).2⟩⟩
      | iter s pos =>
        obtain ⟨k, k1, k2, k3, k4, k5⟩ := ho
        exact ⟨k, kk k1, k2, k3, bb k4, k5⟩
      | miter m since seen last =>
        obtain ⟨k, mr, k1, k2, k3, k4, k5, k6⟩ := ho
        refine ⟨k, mr, kk k1, k2, k3, bb k4, k5, ?_⟩
        cases m with
        | none => exact k6
        | some m =>
          obtain ⟨km, b, n1, n2, n3⟩ := k6
          have hmn : m < n := hlow
          exact ⟨km, b, by simp only [Own.close, cutK]; rw [if_pos hmn]; exact n1, n2, n3⟩
      | loop e ps a b fn s p =>
        obtain ⟨k, tmps, A, Bc, d, g', fn', k1, k2, k3, k4, k5, k6, k7, kn, k8, k9, k10, k11⟩ := ho
        refine ⟨k, tmps, A, Bc, d, g', fn', kk k1, k2, bb k3, k4, k5, k6, k7, kn, fun t => close_vrel h (k8 t) (hlow t), k9, ?_, k11⟩
        simp only [Own.close, k10, above]
        rw [if_neg (by simp; omega)]
    · simp at hg
  perm g i hg := by
    obtain ⟨h1, h2⟩ := hpp g i hg
    intro ver cs sz b c xs k y e1 e2 e3 e4
    rw [hheap, List.getElem?_take, if_pos h2] at e1
    have e3' : O.K g = some k := by simp only [Own.close, cutK] at e3; rw [if_pos h2] at e3; exact e3
    exact (h.perm g i h1 ver cs sz b c xs k y e1 e2 e3' e4).close (by simp [above]; omega)
  mem b o v hm := by
    simp only [Own.close] at hm ⊢
    cases hB : O.B b with
    | heap g =>
      rw [hB] at hm
      simp only at hm
      split at hm
      · rename_i hg
        exact ⟨hm, .inl (by simp [above, hg])⟩
      · have := h.mem b o v hm
        rw [hB] at this
        rcases this.2 with h1 | ⟨l, h1⟩ <;> cases h1
    | other => rw [hB] at hm; exact ⟨(h.mem b o v hm).1, .inl (by simp [above])⟩
    | box s => rw [hB] at hm; have := h.mem b o v hm; rw [hB] at this; rcases this.2 with h1 | ⟨l, h1⟩ <;> cases h1
    | defer g => rw [hB] at hm; have := h.mem b o v hm; rw [hB] at this; rcases this.2 with h1 | ⟨l, h1⟩ <;> cases h1
    | perm l =>
      rw [hB] at hm
      refine ⟨(h.mem b o v hm).1, ?_⟩
      split
      · exact .inl rfl
      · exact .inr ⟨l, rfl⟩
  fresh b hb := by
    obtain ⟨h1, h2⟩ := h.fresh b hb
    exact ⟨by simp [Own.close, h1, above], fun o => by simp only [Own.close, h1]; exact h2 o⟩
  glob g vs hg i v hv := close_mem h n _ _ _ (h.glob g vs hg i v hv)
  kdom g hg := by
    simp only [Own.close, cutK]
    rw [hheap, List.length_take] at hg
    split
    · rename_i hgn
      exact h.kdom g (by omega)
    · rfl
  pdom g i hg := by
    obtain ⟨h1, h2⟩ := hpp g i hg
    have := h.pdom g i h1
    rw [hheap, List.length_take]; omega

theorem Stp.close {O0 : Own} {w0 : World} {n : Nat} (s : Stp τ O0 w0 O w) (h : HInv P G O st w) (hτ : ∀ t, above n t = true → τ t) (hk0 : ∀ g, n ≤ g → O0.K g = none) : Stp τ O0 w0 (O.close n w) w where
  mem := s.mem.trans (close_mem h n)
  kmap g k hk := by
    obtain ⟨k', e1, e2, e3⟩ := s.kmap g k hk
    have hgn : g < n := by
      rcases Nat.lt_or_ge g n with h | h
      · exact h
      · rw [hk0 g h] at hk; cases hk
    exact ⟨k', by simp only [Own.close, cutK]; rw [if_pos hgn]; exact e1, e2, e3⟩
  size := s.size
  os := s.os
  tape := s.tape
  output := s.output
  same b hb ht := by
    obtain ⟨h1, h2, h3⟩ := s.same b hb ht
    have hna : above n (O.B b) = false := by
      cases hq : above n (O.B b) with
      | false => rfl
      | true => rw [h2] at hq; exact absurd (hτ _ hq) ht
    refine ⟨h1, by simp only [Own.close]; rw [hna]; exact h2, fun o => ?_⟩
    rw [close_M fun g hg => ?_]
    · exact h3 o
    · rw [hg] at hna
      simp [above] at hna; exact hna
  ksame g k hk hb hB ht := by
    have hgn : g < n := by
      rcases Nat.lt_or_ge g n with h | h
      · exact h
      · rw [hk0 g h] at hk; cases hk
    simp only [Own.close, cutK]
    rw [if_pos hgn]
    exact s.ksame g k hk hb hB ht

theorem mapM_get {α β : Type} {f : α → Option β} : ∀ {l : List α} {r : List β}, l.mapM f = some r → r.length = l.length ∧ ∀ (i : Nat) (y : β), r[i]? = some y → ∃ x, l[i]? = some x ∧ f x = some y
  | [], r, h => by simp at h; subst h; simp
  | x :: l, r, h => by
    rw [List.mapM_cons] at h
    simp only [Option.bind_eq_bind, Option.bind_eq_some_iff, Option.pure_def, Option.some.injEq] at h
    obtain ⟨y, hy, r', hr, rfl⟩ := h
    obtain ⟨h1, h2⟩ := mapM_get hr
    refine ⟨by simp [h1], fun i z hz => ?_⟩
    cases i with
    | zero => simp at hz; subst hz; exact ⟨x, rfl, hy⟩
    | succ i => simp at hz ⊢; exact h2 i z hz

theorem seal_rel (h : HInv P G O st w) {n : Nat} : ∀ (d : Nat) (v v' : GV) (x : Value), sealV n st d v = some v' → VRel O.M O.K v x → VRel (O.close n w).M (O.close n w).K v' x
  | 0, v, v', x, hs, _ => by simp [sealV] at hs
  | d + 1, v, v', x, hs, hv => by
    have leaf : (if refsLt n v then some v else none) = some v' → VRel (O.close n w).M (O.close n w).K v' x := fun q => by
      split at q
      · rename_i hr
        simp only [Option.some.injEq] at q; subst q
        exact close_vrel h hv hr
      · simp at q
    -- elements
    have els : ∀ {sz : Nat} {xs xs' : List (List GV)} {f : Nat → Value}, (∀ q, q ∈ xs → q.length = sz) → xs.mapM (fun (l : List GV) => l.mapM (sealV n st d)) = some xs' →
        (∀ (i j : Nat) (q : List GV) (c : GV), xs[i]? = some q → q[j]? = some c → VRel O.M O.K c (f (i * sz + j))) →
        xs'.length = xs.length ∧ (∀ q, q ∈ xs' → q.length = sz) ∧ ∀ (i j : Nat) (q : List GV) (c : GV), xs'[i]? = some q → q[j]? = some c → VRel (O.close n w).M (O.close n w).K c (f (i * sz + j)) := by
      intro sz xs xs' f hsz hm hr
      obtain ⟨h1, h2⟩ := mapM_get hm
      refine ⟨h1, fun q hq => ?_, fun i j q c e1 e2 => ?_⟩
      · obtain ⟨i, hi⟩ := List.getElem?_of_mem hq
        obtain ⟨q0, g1, g2⟩ := h2 i q hi
        rw [(mapM_get g2).1]
        exact hsz q0 (List.mem_of_getElem? g1)
      · obtain ⟨q0, g1, g2⟩ := h2 i q e1
        obtain ⟨c0, g3, g4⟩ := (mapM_get g2).2 j c e2
        exact seal_rel h d c0 c _ g4 (hr i j q0 c0 g1 g3)
    have cells : ∀ {cs cs' : List GV} {A : Array Value}, cs.mapM (sealV n st d) = some cs' → LRel O.M O.K cs A → LRel (O.close n w).M (O.close n w).K cs' A := by
      intro cs cs' A hm hA
      obtain ⟨h1, h2⟩ := mapM_get hm
      refine ⟨by rw [hA.1, h1], fun i c y e1 e2 => ?_⟩
      obtain ⟨c0, g1, g2⟩ := h2 i c e1
      exact seal_rel h d c0 c y g2 (hA.2 i c0 y g1 e2)
    cases hv with
    | slnil sz c hc =>
      simp only [sealV, refsLtLL, if_true, Option.some.injEq] at hs
      subst hs
      exact .slnil _ _ (by split <;> decide)
    | @sl sz c xs b off cap f hc he hl hsz hm hr =>
      have hne : (if c = .exact then Cap.exact else Cap.no) ≠ .own := by split <;> decide
      have hex : (if c = .exact then Cap.exact else Cap.no) = .exact → cap = xs.length := fun q => by
        split at q
        · rename_i hq; exact he hq
        · cases q
      simp only [sealV] at hs
      split at hs
      · rename_i hrf
        simp only [Option.some.injEq] at hs; subst hs
        exact close_vrel h (.sl hne hex hl hsz hm hr) hrf
      · simp only [Option.map_eq_some_iff] at hs
        obtain ⟨xs', hs, rfl⟩ := hs
        obtain ⟨g1, g2, g3⟩ := els hsz hs hr
        rw [← g1]
        exact .sl (f := f) hne (by rw [g1]; exact hex) (by rw [g1]; exact hl) g2 (fun i hi => close_mem h n _ _ _ (hm i (by rw [← g1]; exact hi))) g3
    | @msl g ver off len sz cap b o' k hk hv hl ha =>
      simp only [sealV] at hs
      split at hs
      · rename_i hg
        simp only [Option.some.injEq] at hs; subst hs
        exact close_vrel h (.msl hk hv hl ha) (by simpa [refsLt] using hg)
      · rename_i hg
        simp only [Option.bind_eq_bind, Option.bind_eq_some_iff, Option.some.injEq] at hs
        obtain ⟨xs, hxs, xs', hs, rfl⟩ := hs
        simp only [elems] at hxs
        split at hxs
        · rename_i v' cs hgo
          split at hxs
          · rename_i hc
            obtain ⟨_, rfl, hc⟩ := hc
            simp only [Option.some.injEq] at hxs; subst hxs
            obtain ⟨k', rc, ty, k1, k2, k3, k4, k5, k6, k7⟩ := h.obj g _ hgo
            rw [k1] at hk
            simp only [Option.some.injEq] at hk; subst hk
            obtain ⟨rfl, rfl, _⟩ := ha k2.symm
            have hL : LRel O.M O.K (cs.drop off) (rc.extract (k'.o + off) (k'.o + cs.length)) := by
              refine ⟨by simp; omega, fun i c y h1 h2 => ?_⟩
              simp only [List.getElem?_drop] at h1
              simp only [Array.getElem?_extract] at h2
              split at h2
              · rw [Nat.add_assoc] at h2; exact k7 _ c y h1 h2
              · simp at h2
            have hF := chunks_rel (sz := sz) (n := len) hL (by simp; omega)
            have hcell : ∀ j, j < len * sz → ∃ y, ((rc.extract (k'.o + off) (k'.o + cs.length)).toList.take (len * sz))[j]? = some y ∧ (O.close n w).M k'.b (k'.o + off + j) = some y := by
              intro j hj
              have hjr : k'.o + off + j < rc.size := by omega
              refine ⟨rc[k'.o + off + j], ?_, ?_⟩
              · rw [List.getElem?_take, if_pos hj, Array.getElem?_toList, Array.getElem?_extract, if_pos (by omega)]
                simp
              · simp only [Own.close, k3]
                rw [if_pos (by omega), cell_at k4]
                simp
            obtain ⟨g1, g2, g3⟩ := els (f := fun j => ((rc.extract (k'.o + off) (k'.o + cs.length)).toList.take (len * sz)).getD j undef) hF.1 hs (fun i j q c e1 e2 => by
              have hi := (List.getElem?_eq_some_iff.1 e1).1
              have hj := (List.getElem?_eq_some_iff.1 e2).1
              rw [hF.1 q (List.mem_of_getElem? e1)] at hj
              have hlt := mul_lt hi hj
              rw [chunks_length] at hlt
              obtain ⟨y, e3, _⟩ := hcell _ hlt
              rw [List.getD_eq_getElem?_getD, e3]
              exact hF.2.2 i j q c y e1 e2 e3)
            rw [chunks_length] at g1
            rw [← g1]
            refine .sl (b := k'.b) (o := k'.o + off) (f := fun j => ((rc.extract (k'.o + off) (k'.o + cs.length)).toList.take (len * sz)).getD j undef) (by decide) (fun q => by cases q) (by rw [g1]; exact hl) g2 (fun j hj => ?_) g3
            rw [g1] at hj
            obtain ⟨y, e3, e4⟩ := hcell j hj
            rw [List.getD_eq_getElem?_getD, e3]; exact e4
          · simp at hxs
        · simp at hxs
    | agg hA hr =>
      simp only [sealV, Option.map_eq_some_iff] at hs
      obtain ⟨cs', hs, rfl⟩ := hs
      exact .agg_of (cells hs ⟨hA, hr⟩)
    | tuple hA hr =>
      simp only [sealV, Option.map_eq_some_iff] at hs
      obtain ⟨cs', hs, rfl⟩ := hs
      exact .tuple_of (cells hs ⟨hA, hr⟩)
    | iface hx =>
      simp only [sealV, Option.map_eq_some_iff] at hs
      obtain ⟨v2, hs, rfl⟩ := hs
      exact .iface (seal_rel h d _ _ _ hs hx)
    | _ => exact leaf hs

/-- What is true of a ghost heap that a world is related to. -/
theorem HInv.low (h : HInv P G O st w) : Low st.heap.length st := fun g o hg ho => by
  have hr := h.obj g o ho
  cases o with
  | cells ver cs =>
    obtain ⟨k, rc, ty, k1, k2, k3, k4, k5, k6, k7⟩ := hr
    refine refsLtL_all fun i c hc => ?_
    have hi := (List.getElem?_eq_some_iff.1 hc).1
    exact (k7 i c _ hc (by simp : rc[k.o + i]? = some (rc[k.o + i]'(by omega)))).refs h.kdom
  | map es =>
    obtain ⟨k, res, clock, k1, k2, k3, k4, k5, k6⟩ := hr
    intro p hp
    obtain ⟨i, hi⟩ := List.getElem?_of_mem hp
    have hil := (List.getElem?_eq_some_iff.1 hi).1
    have := k6 i p _ hi (by simp : res[i]? = some (res[i]'(by omega)))
    exact ⟨this.1.refs h.kdom, this.2.refs h.kdom⟩
  | loop e ps a b fn s p =>
    obtain ⟨k, tmps, A, Bc, d, g', fn', k1, k2, k3, k4, k5, k6, k7, kn, k8, _⟩ := hr
    intro t
    exact (k8 t).refs h.kdom
  | miter m since seen last =>
    obtain ⟨k, mr, k1, k2, k3, k4, k5, k6⟩ := hr
    cases m with
    | none => trivial
    | some m =>
      obtain ⟨km, b, n1, _⟩ := k6
      show m < st.heap.length
      rcases Nat.lt_or_ge m st.heap.length with hlt | hge
      · exact hlt
      · rw [h.kdom m hge] at n1; cases n1
  | _ => trivial
end
end Go.Proofs.YtibhcmacccfakaaGreatDoor
namespace Go.Proofs.YtibhcmacccfakaaGreatDoor
variable [Sym]

def Enters (P : Program) (f : FuncId) : Prop := ∃ fn, P.funcs[f]? = some fn ∧ (fn.name == "runtime.NumGoroutine") = false ∧ fn.body.isNone = false

/-- What a call comes to. -/
def Post (P : Program) (G : Glob) (st st' : St) (v : GV) (O : Own) (w : World) (e : Ending) (w' : World) : Prop :=
  ∃ x O', e = .returned x ∧ VRel O'.M O'.K v x ∧ HInv P G O' st' w' ∧ Stp (touch st.ro st.heap.length) O w O' w'

/-- **What a call of a function is.** -/
def Tri (P : Program) (G : Glob) (f : FuncId) (args : List GV) (st : St) (v : GV) (st' : St) : Prop :=
  Enters P f ∧ ∀ (O : Own) (w : World) (xs : Array Value), LRel O.M O.K args xs → HInv P G O st w → Calls P f xs w (Post P G st st' v O w)

/-- A function value is called; a round of a loop. -/
def VRun (P : Program) (X : Value) (xs : Array Value) (w : World) (R : Ending → World → Prop) : Prop :=
  (∃ f F C, X = .func (.func f) F C ∧ Enters P f ∧ Calls P f (F ++ xs ++ C) w R) ∨
  ∃ r lp, X = .func (.yield r) #[] #[] ∧ w.heap[r]? = some (.loop lp) ∧ xs.size = lp.params.size ∧
    ∀ n, RoundIn Fence.wide n P r lp.fn ((lp.params.zip xs).foldl (fun tmps (p : Tmp × Value) => tmps.setIfInBounds p.1 p.2) lp.tmps) lp.assign lp.body w R
def VTri (P : Program) (G : Glob) (f : GV) (args : List GV) (st : St) (v : GV) (st' : St) : Prop :=
  ∀ (O : Own) (w : World) (X : Value) (xs : Array Value), VRel O.M O.K f X → LRel O.M O.K args xs → HInv P G O st w → VRun P X xs w (Post P G st st' v O w)

def CSound (P : Program) (G : Glob) (C : Call) : Prop := ∀ f args st v st', C f args st = some (v, st') → Tri P G f args st v st'
def VSound (P : Program) (G : Glob) (V : CallV) : Prop := ∀ f args st v st', V f args st = some (v, st') → VTri P G f args st v st'

def isFrame : Tag → Bool
  | .box _ | .perm (.slot _) | .perm (.cell _ _) => true
  | _ => false
def isPerm : Tag → Bool
  | .box _ | .perm _ => true
  | _ => false
theorem hides_isFrame : Hides isFrame := fun t h => by
  cases t with
  | box s => exact .inl ⟨s, rfl⟩
  | perm l => exact .inr ⟨l, rfl⟩
  | _ => simp [isFrame] at h
theorem hides_isPerm : Hides isPerm := fun t h => by
  cases t with
  | box s => exact .inl ⟨s, rfl⟩
  | perm l => exact .inr ⟨l, rfl⟩
  | _ => simp [isPerm] at h

/-- A fence that lets everything in. -/
def FW (ro : Option Nat) : Fence := { Fence.wide with round := ro }

theorem callsIn_FW {ro : Option Nat} {n : Nat} {P : Program} {f : FuncId} {xs : Array Value} {w : World} {R : Ending → World → Prop} (h : Calls P f xs w R) : CallsIn (FW ro) n P f xs w R := callsIn_wide.2 h
theorem roundIn_FW {ro : Option Nat} {n l : Nat} {P : Program} {f : FuncId} {tmps : Array Value} {A B : Code} {w : World} {R : Ending → World → Prop} (h : RoundIn Fence.wide n P l f tmps A B w R) :
    RoundIn (FW ro) n P l f tmps A B w R := h

section
variable {P : Program} {G : Glob} {O O1 : Own} {w w1 : World} {st s1 st' : St} {e : Env} {a : Act} {o : Oper} {v v1 : GV} {u : Env} {C : Call} {V : CallV}

theorem run_callFunc {f : FuncId} (h : Enters P f) (xs : Array Value) : (callFunc f xs).run P w = .ok (.enter f xs) w := by
  obtain ⟨fn, h1, h2, h3⟩ := h
  have h2 : ¬ (fn.name = "runtime.NumGoroutine") := by simpa using h2
  have h3 : fn.body ≠ none := by intro q; rw [q] at h3; simp at h3
  simp [callFunc, h1, h2, h3]

/-- After a call that may write the ghost heap. -/
theorem after_call (he : EnvRel O w e a.tmps) (hh : HInv P G O st w) (hd : ∀ d, o.dst = some d → d < a.tmps.size) {x : Value} (hv : VRel O1.M O1.K v x) (h1 : HInv P G O1 s1 w1)
    (hs : Stp (touch st.ro st.heap.length) (O.shut isFrame) w O1 w1) :
    ∃ O2, EnvRel O2 w1 (dstU o.dst v e) (a.put o.dst x).tmps ∧ HInv P G O2 s1 w1 ∧ Stp (fun t => touch st.ro st.heap.length t ∧ isFrame t = false) O w O2 w1 := by
  have ho : ¬ touch st.ro st.heap.length .other := fun q => q.1 rfl
  have s2 := Stp.reopen hides_isFrame ho hs
  refine ⟨O.reopen isFrame w O1, ?_, hh.reopen hides_isFrame ho hs h1, s2⟩
  exact (he.step0 hh s2 (fun t q => by have := q.2; simp [isFrame] at this) (fun t q => by have := q.2; simp [isFrame] at this) (fun t i q => by have := q.2; simp [isFrame] at this)).putV' hd hv

/-- After a call that leaves the ghost heap as it was. -/
theorem after_pure (he : EnvRel O w e a.tmps) (hh : HInv P G O st w) (hd : ∀ d, o.dst = some d → d < a.tmps.size) (hkeep : Keeps { st with ro := st.heap.length, perms := [] } s1) {x : Value} (hv : VRel O1.M O1.K v1 x)
    (h1 : HInv P G O1 s1 w1) (hs : Stp (touch st.heap.length st.heap.length) (O.shut isPerm) w O1 w1)
    (hr : (if s1.heap.length = st.heap.length then some (cp v1) else (sealV st.heap.length s1 12 v1).map cp) = some v) :
    ∃ O2, EnvRel O2 w1 (dstU o.dst v e) (a.put o.dst x).tmps ∧ HInv P G O2 st w1 ∧ Stp (fun t => touch st.heap.length st.heap.length t ∧ isPerm t = false) O w O2 w1 := by
  have ho : ¬ touch st.heap.length st.heap.length .other := fun q => q.1 rfl
  let n := st.heap.length
  have hlen : n ≤ s1.heap.length := hkeep.len
  have hold : ∀ g, g < n → s1.heap[g]? = st.heap[g]? := hkeep.old
  have hlow : Low n s1 := fun g o hg hgo => by rw [hold g hg] at hgo; exact hh.low g o hg hgo
  have hv2 : VRel (O1.close n w1).M (O1.close n w1).K v x := by
    split at hr
    · rename_i hl
      simp only [Option.some.injEq] at hr; subst hr
      rw [hv.cp_eq]
      exact close_vrel h1 hv (hv.refs fun g hg => h1.kdom g (by omega))
    · simp only [Option.map_eq_some_iff] at hr
      obtain ⟨v2, hr, rfl⟩ := hr
      have := seal_rel h1 12 v1 v2 x hr hv
      rw [this.cp_eq]; exact this
  have h2 : HInv P G (O1.close n w1) { s1 with heap := s1.heap.take n, perms := [] } w1 := h1.close hlow rfl fun g i hgi => by simp at hgi
  have hs2 : Stp (touch n n) (O.shut isPerm) w (O1.close n w1) w1 := hs.close h1 (fun t ht => by
    cases t with
    | heap g => simp only [above, decide_eq_true_eq] at ht; exact ⟨by simp, fun g' hq => by simp only [Tag.heap.injEq] at hq; omega, fun g' hq => (by cases hq)⟩
    | defer g => simp only [above, decide_eq_true_eq] at ht; exact ⟨by simp, fun g' hq => (by cases hq), fun g' hq => by simp only [Tag.defer.injEq] at hq; omega⟩
    | perm l => exact ⟨by simp, fun g' hq => (by cases hq), fun g' hq => (by cases hq)⟩
    | _ => simp [above] at ht) hh.kdom
  have s3 := Stp.reopen hides_isPerm ho hs2
  have h3 := hh.reopen hides_isPerm ho hs2 h2
  refine ⟨O.reopen isPerm w (O1.close n w1), ?_, ?_, s3⟩
  · exact (he.step0 hh s3 (fun t q => by have := q.2; simp [isPerm] at this) (fun t q => by have := q.2; simp [isPerm] at this) (fun t i q => by have := q.2; simp [isPerm] at this)).putV' hd hv2
  · refine hh.stp s3 (fun g o hg => .inl ⟨hg, fun q => ?_, fun g' hg' q => ?_⟩) (fun g i hg => .inl ⟨hg, rfl, fun q => ?_, fun q => by have := q.2; simp [isPerm] at this⟩) (fun b _ o v hm => h3.mem b o v hm) h3.fresh (fun g hg => h3.kdom g ?_) hh.pdom
    · have := q.1.2.1 g rfl
      have := (List.getElem?_eq_some_iff.1 hg).1
      omega
    · have := q.1.2.2 g' rfl
      have := (List.getElem?_eq_some_iff.1 hg).1
      omega
    · have := q.1.2.1 g rfl
      have := hh.pdom g i hg
      omega
    · simp only [List.length_take]; omega

/-- What follows an operation in a walk. -/
def Then (P : Program) (G : Glob) (ro n : Nat) (O : Own) (w : World) (o : Oper) (a : Act) (v : GV) (e : Env) (st' : St) (next : Act → World → Prop) : Prop :=
  ∀ (x : Value) (w' : World) (O' : Own), EnvRel O' w' (dstU o.dst v e) (a.put o.dst x).tmps → HInv P G O' st' w' → Stp (touch ro n) O w O' w' → next (a.put o.dst x) w'

theorem okTab_find {name : String} : ∀ {tab : List (TypeId × Nat)} {t : TypeId} {p : TypeId × Nat}, okTab P name tab = true → tab.find? (fun q => q.1 == t) = some p →
    ∃ i m d, P.info? t = some i ∧ i.methods.find? (·.name == name) = some m ∧ m.path.isEmpty = true ∧ m.func = some (p.2, false) ∧ P.underlying t = some d ∧ ∀ k, d ≠ .pointer k
  | [], _, _, _, h => by simp at h
  | (u, f) :: r, t, p, hk, h => by
    simp only [okTab, Bool.and_eq_true] at hk
    simp only [List.find?_cons] at h
    split at h
    · rename_i hu
      simp only [beq_iff_eq] at hu
      subst hu
      simp only [Option.some.injEq] at h; subst h
      obtain ⟨hk, _⟩ := hk
      split at hk
      · rename_i i hi
        split at hk
        · rename_i m hm
          simp only [Bool.and_eq_true, beq_iff_eq] at hk
          obtain ⟨⟨h1, h2⟩, h3⟩ := hk
          split at h3
          · simp at h3
          · rename_i d hnd hd
            exact ⟨i, m, d, hi, hm, h1, h2, hd, fun k q => hnd k q⟩
          · simp at h3
        · simp at hk
      · simp at hk
    · exact okTab_find hk.2 h

theorem run_method {n : Nat} {t : TypeId} {x : Value} {name : String} {i : TypeInfo} {m : Method} {f : FuncId} {d : TypeDesc} (hi : P.info? t = some i) (hm : i.methods.find? (·.name == name) = some m) (hp : m.path.isEmpty = true)
    (hf : m.func = some (f, false)) (hu : P.underlying t = some d) (hd : ∀ k, d ≠ .pointer k) : (method (n + 1) t x name).run P w = .ok (f, x) w := by
  have hp' : m.path.toList = [] := by simpa using hp
  have hrec : ∀ wr, (receiverAt t (.val x) false wr).run P w = .ok x w := fun wr => by
    simp only [receiverAt, Sem.run_bind, run_underlying hu, Result.andThen_ok]
    cases d <;> first | exact absurd rfl (hd _) | simp [Place.get]
  simp only [method, Sem.run_bind, run_typeInfo hi, Result.andThen_ok, hm, hp', follow, Sem.run_pure, hf, hrec]

theorem sim_call {ro : Option Nat} {n : Nat} {Q : Exit → Act → World → Prop} (he : EnvRel O w e a.tmps) (hh : HInv P G O st w) (hd : ∀ d, o.dst = some d → d < a.tmps.size) (hro : st.ro ≤ st.heap.length) (hC : CSound P G C) (hV : VSound P G V) (hCk : CKeeps C) (hVk : VKeeps V)
    {f : GCal} {args : List GX} {pure : Bool} (hk : okOp P G o.op (.call f args pure) = true) (hv : effOp C V e st (.call f args pure) = some (v, u, st'))
    {next : Act → World → Prop} (hnext : Then P G st.ro st.heap.length O w o a v e st' next) : u = [] ∧ o.wpIn (FW ro) n P a w next Q := by
  simp only [effOp] at hv
  -- the state in which the call is made; what is hidden
  let st1 : St := if pure then { st with ro := st.heap.length, perms := [] } else st
  let hide : Tag → Bool := if pure then isPerm else isFrame
  have hhide : Hides hide := by
    cases pure
    · exact hides_isFrame
    · exact hides_isPerm
  have hheap1 : st1.heap = st.heap := by simp only [st1]; split <;> rfl
  have hinv1 : HInv P G (O.shut hide) st1 w := by
    refine hh.shut hhide hheap1 fun g i hgi => ?_
    simp only [st1, hide] at hgi ⊢
    cases pure with
    | true => simp at hgi
    | false => exact ⟨by simpa using hgi, by simp [isFrame]⟩
  cases hc : callTo C V e f (args.map (rd e)) st1 with
  | none => simp only [st1] at hc; rw [hc] at hv; simp at hv
  | some r =>
    obtain ⟨v1, s1⟩ := r
    have hc' := hc
    simp only [st1] at hc'
    rw [hc'] at hv
    simp only at hv
    have hu : u = [] := by
      split at hv
      · split at hv
        · simp at hv; exact hv.2.1
        · simp only [Option.map_eq_some_iff, Prod.mk.injEq] at hv
          obtain ⟨_, _, _, h, _⟩ := hv; exact h.symm
      · simp at hv; exact hv.2.1
    refine ⟨hu, ?_⟩
    have hkeeps : Keeps st1 s1 := by
      cases f with
      | fn f => exact hCk _ _ _ _ _ hc
      | val x => exact hVk _ _ _ _ _ hc
      | inv x tab =>
        simp only [callTo] at hc
        split at hc
        · split at hc
          · exact hCk _ _ _ _ _ hc
          · simp at hc
        · simp at hc
    -- behind the call
    have back : ∀ e2 w2, Post P G st1 s1 v1 (O.shut hide) w e2 w2 → ∃ x, e2 = .returned x ∧ next (a.put o.dst x) w2 := by
      rintro e2 w2 ⟨x, O1, rfl, hvx, h1, hs⟩
      refine ⟨x, rfl, ?_⟩
      cases pure with
      | true =>
        simp only [if_true] at hv
        obtain ⟨O2, g1, g2, g3⟩ := after_pure (v := v) (v1 := v1) he hh hd hkeeps hvx h1 hs (by
          split at hv
          · rename_i hl
            rw [if_pos hl]
            simp at hv; rw [hv.1]
          · rename_i hl
            rw [if_neg hl]
            simp only [Option.map_eq_some_iff, Prod.mk.injEq] at hv
            obtain ⟨v2, h2, rfl, _⟩ := hv; rw [h2]; rfl)
        have hst : st' = st := by
          split at hv
          · simp at hv; exact hv.2.2.symm
          · simp only [Option.map_eq_some_iff, Prod.mk.injEq] at hv
            obtain ⟨_, _, _, _, h⟩ := hv; exact h.symm
        subst hst
        exact hnext x w2 O2 g1 g2 (g3.weak fun t ht => ht.1.le hro (Nat.le_refl _))
      | false =>
        simp only [Bool.false_eq_true, if_false, Option.some.injEq, Prod.mk.injEq] at hv
        obtain ⟨rfl, _, rfl⟩ := hv
        obtain ⟨O2, g1, g2, g3⟩ := after_call (s1 := s1) he hh hd hvx h1 hs
        have hcp : cp v1 = v1 := hvx.cp_eq
        rw [← hcp] at g1
        refine hnext x w2 O2 g1 ?_ (g3.weak fun t ht => ht.1)
        exact { g2 with }
    have hsem : ∀ c, o.op = .call c → o.semAt (FW ro).round a.eval = execOp a.eval o := fun c hq => Oper.semAt_eq _ _ _ (by rw [hq]; simp)
    have habout : ∀ f, o.about P w a.eval = some f → (FW ro).fn f := fun _ _ => trivial
    have hdep : (FW ro).depth.isSome = true → 1 ≤ n := fun h => by simp [FW, Fence.wide] at h
    -- a function is entered
    have enter : ∀ {c : Go.Call} {fid : FuncId} {xs : Array Value}, o.op = .call c → (execOp a.eval o).run P w = .ok (.enter fid xs) w → Calls P fid xs w (Post P G st1 s1 v1 (O.shut hide) w) → o.wpIn (FW ro) n P a w next Q := by
      intro c fid xs hop hrun hcall
      refine ⟨habout, ?_⟩
      rw [hsem c hop, hrun, Oper.uponIn_enter]
      refine ⟨hdep, callsIn_FW fun cs => ?_⟩
      obtain ⟨e2, w2, fr, r1, r2, r3, r4⟩ := hcall cs
      obtain ⟨x, rfl, hx⟩ := back e2 w2 r1
      exact ⟨.returned x, w2, fr, hx, r2, r3, r4⟩
    unfold okOp at hk
    cases f with
    | fn g =>
      dsimp only at hk
      split at hk
      · rename_i fid cargs ats hop
        simp only [Bool.and_eq_true, beq_iff_eq] at hk
        obtain ⟨rfl, hargs⟩ := hk
        have hargs := okXs_rel he hh hargs
        obtain ⟨hent, htri⟩ := hC _ _ _ _ _ hc
        have e1 : (cargs.toList.map a.eval).toArray = cargs.map a.eval := by rw [← Array.toList_map, Array.toArray_toList]
        rw [e1] at hargs
        refine enter hop ?_ (htri (O.shut hide) w _ hargs hinv1)
        simp [execOp, hop, resolve, Act.eval, Deferred.ofValue, invoke, run_callFunc hent]
      · simp at hk
    | val x =>
      dsimp only at hk
      split at hk
      · rename_i X cargs ats hop
        simp only [Bool.and_eq_true] at hk
        obtain ⟨hX, hargs⟩ := hk
        have hargs := okXs_rel he hh hargs
        have hX := rd_rel he hh hX
        have hrun := hV _ _ _ _ _ hc (O.shut hide) w (a.eval X) _ hX hargs hinv1
        have e1 : (cargs.toList.map a.eval).toArray = cargs.map a.eval := by rw [← Array.toList_map, Array.toArray_toList]
        rw [e1] at hrun
        rcases hrun with ⟨fid, F, Cc, hXv, hent, hcall⟩ | ⟨r, lp, hXv, hlp, hsz, hround⟩
        · exact enter hop (by simp [execOp, hop, resolve, hXv, Deferred.ofValue, invoke, run_callFunc hent]) hcall
        · have hrun : (execOp a.eval o).run P w = .ok (.round r lp.fn ((lp.params.zip (cargs.map a.eval)).foldl (fun tmps (p : Tmp × Value) => tmps.setIfInBounds p.1 p.2) lp.tmps) lp.assign lp.body) w := by
            have hget : (Instr.getLoop r).run P w = .ok lp w := by simp [Instr.getLoop, getObj, Sem.run, hlp]
            have hsz' : ¬ ((cargs.map a.eval).size ≠ lp.params.size) := fun q => q hsz
            simp only [execOp, hop, resolve, hXv, Deferred.ofValue, invoke, Sem.run_bind, Sem.run_pure, Result.andThen_ok, Instr.yield, hget, Array.empty_append]
            rw [if_neg hsz']
            rfl
          refine ⟨habout, ?_⟩
          rw [hsem _ hop, hrun, Oper.uponIn_round]
          refine ⟨hdep, roundIn_FW ((hround (n - 1)).mono fun e2 w2 hp => ?_)⟩
          obtain ⟨x, rfl, hx⟩ := back e2 w2 hp
          exact hx
      · simp at hk
    | inv x tab =>
      dsimp only at hk
      split at hk
      · rename_i X name cargs ats hop
        simp only [Bool.and_eq_true] at hk
        obtain ⟨⟨hX, hargs⟩, htab⟩ := hk
        have hargs := okXs_rel he hh hargs
        have hX := rd_rel he hh hX
        have e1 : (cargs.toList.map a.eval).toArray = cargs.map a.eval := by rw [← Array.toList_map, Array.toArray_toList]
        rw [e1] at hargs
        simp only [callTo] at hc
        split at hc
        · rename_i t vv hxv
          split at hc
          · rename_i tt fid hfind
            obtain ⟨i, m, d, m1, m2, m3, m4, m5, m6⟩ := okTab_find htab hfind
            obtain ⟨hent, htri⟩ := hC _ _ _ _ _ hc
            rw [hxv] at hX
            generalize hXe : a.eval X = y at hX
            cases hX with
            | iface hvv =>
              rename_i xv
              have hcall := htri (O.shut hide) w (#[xv] ++ cargs.map a.eval) (LRel.cons hvv hargs) hinv1
              have hmeth : ∀ k, (method (k + 1) t xv name).run P w = .ok (fid, xv) w := fun k => run_method m1 m2 m3 m4 m5 m6
              refine enter hop ?_ hcall
              have hdepth : P.types.size + Made.depth = (P.types.size + (Made.depth - 1)) + 1 := by simp [Made.depth]
              have hm1 : (method (P.types.size + Made.depth) t xv name).run P w = .ok (fid, xv) w := by rw [hdepth]; exact hmeth _
              have hex : (#[Value.iface t xv] ++ cargs.map a.eval).extract 1 (#[Value.iface t xv] ++ cargs.map a.eval).size = cargs.map a.eval := by
                apply Array.ext'
                simp
                exact List.take_of_length_le (by simp)
              simp only [execOp, hop, resolve, hXe, Sem.run_bind, Sem.run_pure, Result.andThen_ok, invoke]
              simp only [Array.getElem?_append, List.size_toArray, List.length_cons, List.length_nil, Nat.zero_add, Nat.zero_lt_one, if_true, List.getElem?_toArray, List.getElem?_cons_zero, hex, callMethod, Sem.run_bind, run_program, Result.andThen_ok, hm1, run_callFunc hent]
          · simp at hc
        · simp at hc
      · simp at hk
end
end Go.Proofs.YtibhcmacccfakaaGreatDoor
namespace Go.Proofs.YtibhcmacccfakaaGreatDoor
variable [Sym]

section
variable {P : Program} {G : Glob} {O O1 : Own} {w w1 : World} {st s1 st' : St} {e : Env} {a : Act} {o : Oper} {v v1 : GV} {u : Env} {C : Call} {V : CallV} {ro : Option Nat} {n : Nat}

def GOp.isCall : GOp → Bool
  | .call .. => true
  | _ => false

theorem okOp_no_defer {g : GOp} (hb : g ≠ .bad) (hk : okOp P G o.op g = true) : ∀ c, o.op ≠ .defer c := by
  intro c hc
  rw [hc] at hk
  unfold okOp at hk
  cases g <;> first | exact hb rfl | (simp at hk; done) | skip
  rename_i f args pure
  cases f <;> simp at hk

theorem op_eff (he : EnvRel O w e a.tmps) (hh : HInv P G O st w) (hd : ∀ d, o.dst = some d → d < a.tmps.size) {g : GOp} (hlp : g.boxes = true → ∀ d, o.dst = some d → ∀ t r, get e t ≠ .lptr d r) (hnc : g.isCall = false)
    (hk : okOp P G o.op g = true) (hv : stepOp C V e st g = some (v, u, st')) : EffSim P G O w e a o v u st' := by
  unfold stepOp at hv
  split at hv
  · split at hv
    · rename_i v' hp
      simp only [Option.some.injEq, Prod.mk.injEq] at hv
      obtain ⟨rfl, rfl, rfl⟩ := hv
      cases hb : g.boxes with
      | true => exact sim_boxes he hh hd hb (hlp hb) hk hp
      | false => exact EffSim.of_pure he hh hd (pure_sim he hh hb hk hp)
    · simp at hv
  · split at hv
    · rename_i v' hp
      simp only [Option.some.injEq, Prod.mk.injEq] at hv
      obtain ⟨rfl, rfl, rfl⟩ := hv
      exact EffSim.of_pure he hh hd (read_sim he hh hk hp)
    · simp at hv
  · cases g <;> first | (simp [effOp] at hv; done) | (simp [GOp.isCall] at hnc; done) | skip
    · exact sim_take he hh hd hk hv
    · exact sim_hbox he hh hd hk hv
    · exact sim_halloc he hh hd hk hv
    · exact sim_bsl he hh hd hk hv
    · exact sim_loadTake he hh hd hk hv
    · exact sim_store he hh hd hk hv
    · exact sim_storeTake he hh hd hk hv
    · exact sim_mkSlice he hh hd hk hv
    · exact sim_mkMap he hh hd hk hv
    · exact sim_mapUpdate he hh hd hk hv
    · exact sim_range he hh hd hk hv
    · exact sim_next he hh hd hk hv
    · exact sim_mrange he hh hd hk hv
    · exact sim_append he hh hd hk hv
    · exact sim_copy he hh hd hk hv

theorem stepOp_ro {g : GOp} (hnc : g.isCall = false) (hC : CKeeps C) (hV : VKeeps V) (hr : st.ro ≤ st.heap.length) (hv : stepOp C V e st g = some (v, u, st')) : st'.ro = st.ro := by
  unfold stepOp at hv
  split at hv
  · split at hv <;> simp at hv; rw [hv.2.2]
  · split at hv <;> simp at hv; rw [hv.2.2]
  · exact (effOp_keepsAll hC hV hr g hv).ro

theorem op_walk {Q : Exit → Act → World → Prop} (he : EnvRel O w e a.tmps) (hh : HInv P G O st w) (hd : ∀ d, o.dst = some d → d < a.tmps.size) (hro : st.ro ≤ st.heap.length) (hC : CSound P G C) (hV : VSound P G V) (hCk : CKeeps C) (hVk : VKeeps V)
    {g : GOp} (hlp : g.boxes = true → ∀ d, o.dst = some d → ∀ t r, get e t ≠ .lptr d r) (hk : okOp P G o.op g = true) (hv : stepOp C V e st g = some (v, u, st'))
    {next : Act → World → Prop} (hnext : Then P G st.ro st.heap.length O w o a v (u ++ e) st' next) : o.wpIn (FW ro) n P a w next Q := by
  have hb : g ≠ .bad := by rintro rfl; simp [stepOp, GOp.kind, pureOp] at hv
  cases hnc : g.isCall with
  | true =>
    cases g <;> simp only [GOp.isCall, Bool.false_eq_true] at hnc
    rename_i f args pure
    have hv' : effOp C V e st (.call f args pure) = some (v, u, st') := by
      simpa [stepOp, GOp.kind] using hv
    have hu : u = [] := by
      have := effOp_keys _ hv'
      cases u with
      | nil => rfl
      | cons p r => have := this p (by simp); simp [GOp.writes] at this
    subst hu
    exact (sim_call he hh hd hro hC hV hCk hVk hk hv' hnext).2
  | false =>
    obtain ⟨x, w', O', h1, h2, h3, h4⟩ := op_eff he hh hd hlp hnc hk hv
    have hro' := stepOp_ro hnc hCk hVk hro hv
    have hn : next (a.put o.dst x) w' := hnext x w' O' h2 h3 (h4.weak fun t ht => by rw [hro'] at ht; exact ht.touch)
    refine ⟨fun _ _ => trivial, ?_⟩
    rw [Oper.semAt_eq _ _ _ (okOp_no_defer hb hk)]
    rcases h1 with h1 | ⟨rfl, h1⟩
    · rw [h1, Oper.uponIn_value]; exact hn
    · rw [h1, Oper.uponIn_skip]; exact hn

/-! ### Statements -/
/-- What is written of a region's operation. -/
structure OkStmt (P : Program) (G : Glob) (nt : Nat) (ops : Array Oper) (o : Oper) (s : GStmt) : Prop where
  dst : o.dst = s.dst
  lt : ∀ d, s.dst = some d → d < nt
  op : okOp P G o.op s.op = true
  guard : okGuard ops o.guard s.guard = true

theorem okStmts_get {nt : Nat} {ops : Array Oper} : ∀ {l : List Oper} {gs : List GStmt}, okStmts P G nt ops l gs = true → l.length = gs.length ∧ ∀ (i : Nat) (o : Oper) (s : GStmt), l[i]? = some o → gs[i]? = some s → OkStmt P G nt ops o s
  | [], [], _ => ⟨rfl, fun i o s h => by simp at h⟩
  | [], _ :: _, h => by simp [okStmts] at h
  | _ :: _, [], h => by simp [okStmts] at h
  | o :: l, s :: gs, h => by
    simp only [okStmts, Bool.and_eq_true, beq_iff_eq] at h
    obtain ⟨⟨⟨⟨h1, h2⟩, h3⟩, h4⟩, h5⟩ := h
    obtain ⟨h6, h7⟩ := okStmts_get h5
    refine ⟨by simp [h6], fun i o' s' e1 e2 => ?_⟩
    cases i with
    | zero =>
      simp at e1 e2; subst e1 e2
      refine ⟨h1, fun d hd => ?_, h3, h4⟩
      rw [hd] at h2; simpa using h2
    | succ i => exact h7 i o' s' (by simpa using e1) (by simpa using e2)

theorem slot_bool {tmps : Array Value} (he : EnvRel O w e tmps) {t : Nat} {b : Bool} (h : get e t = .bool b) : tmps[t]? = some (.bool b) := by
  have hs := he.slot t
  rw [h] at hs
  have hs : VRel O.M O.K (.bool b) (tmps.getD t undef) := hs.1
  have := hs.bool_inv
  rw [Array.getD_eq_getD_getElem?] at this
  cases hq : tmps[t]? with
  | none => rw [hq] at this; simp [undef] at this
  | some y => rw [hq] at this; simp at this; rw [this]
theorem slot_undef {tmps : Array Value} (he : EnvRel O w e tmps) {t : Nat} (h : get e t = .tuple []) : ∀ b, tmps[t]? ≠ some (.bool b) := by
  intro b hq
  have hs := he.slot t
  rw [h] at hs
  have hs : VRel O.M O.K (.tuple []) (tmps.getD t undef) := hs.1
  obtain ⟨A, hA, _⟩ := hs.tuple_inv
  rw [Array.getD_eq_getD_getElem?, hq] at hA
  simp at hA

theorem wanted_rel {ops : Array Oper} (he : EnvRel O w e a.tmps) {s : GStmt} (hg : okGuard ops o.guard s.guard = true) {b : Bool} (h : guardOk e s.guard = some b) : Region.wanted o (yielded ops a.tmps) = b := by
  unfold Region.wanted
  cases ho : o.guard with
  | none =>
    rw [ho] at hg
    cases hs : s.guard with
    | none => rw [hs] at h; simp [guardOk] at h; simp [h]
    | some p => rw [hs] at hg; simp [okGuard] at hg
  | some p =>
    obtain ⟨j, want⟩ := p
    rw [ho] at hg
    cases hs : s.guard with
    | none => rw [hs] at hg; simp [okGuard] at hg
    | some q =>
      obtain ⟨t, c⟩ := q
      rw [hs] at hg h
      simp only [okGuard, Bool.and_eq_true, beq_iff_eq] at hg
      obtain ⟨rfl, hg⟩ := hg
      cases hj : ops[j]? with
      | none => rw [hj] at hg; simp at hg
      | some oj =>
        rw [hj] at hg
        simp only [beq_iff_eq] at hg
        have hy : yielded ops a.tmps j = match a.tmps[t]? with | some (.bool b) => some b | _ => none := by
          simp only [yielded, hj, Option.bind_some, hg]
          rfl
        simp only [hy]
        simp only [guardOk] at h
        split at h
        · rename_i c' hc
          simp only [Option.some.injEq] at h; subst h
          rw [slot_bool he hc]
          simp
        · rename_i hc
          simp only [Option.some.injEq] at h; subst h
          have := slot_undef he hc
          split
          · rename_i b' hb; exact absurd hb (this b')
          · rfl
        · simp at h

/-- What follows a statement in a walk. -/
def ThenS (P : Program) (G : Glob) (ro n : Nat) (O : Own) (w : World) (a : Act) (e : Env) (st' : St) (K : Act → World → Prop) : Prop :=
  ∀ (a' : Act) (w' : World) (O' : Own), EnvRel O' w' e a'.tmps → a'.tmps.size = a.tmps.size → a'.defers = a.defers → HInv P G O' st' w' → Stp (touch ro n) O w O' w' → K a' w'

theorem put_size (d : Option Tmp) (x : Value) : (a.put d x).tmps.size = a.tmps.size := by
  cases d <;> simp [Act.put]
theorem put_defers (d : Option Tmp) (x : Value) : (a.put d x).defers = a.defers := by
  cases d <;> rfl

theorem stmt_walk {Q : Exit → Act → World → Prop} {ops : Array Oper} {nt i : Nat} {s : GStmt} (hi : ops[i]? = some o) (hs : OkStmt P G nt ops o s) (hnt : a.tmps.size = nt) (he : EnvRel O w e a.tmps) (hh : HInv P G O st w)
    (hro : st.ro ≤ st.heap.length) (hC : CSound P G C) (hV : VSound P G V) (hCk : CKeeps C) (hVk : VKeeps V)
    (hlp : s.op.boxes = true → ∀ d, s.dst = some d → ∀ t r, get e t ≠ .lptr d r) (hv : stepU C V e st s = some (u, st'))
    {K : Act → World → Prop} (hK : ThenS P G st.ro st.heap.length O w a (u ++ e) st' K) : wpOpIn (FW ro) n P ops Q i K a w := by
  have hd : ∀ d, o.dst = some d → d < a.tmps.size := fun d h => by rw [hnt]; exact hs.lt d (by rw [← hs.dst]; exact h)
  simp only [wpOpIn, hi]
  unfold stepU at hv
  split at hv
  · rename_i hg
    rw [wanted_rel he hs.guard hg, if_pos rfl]
    split at hv
    · rename_i v' u' s1 ho
      simp only [Option.some.injEq, Prod.mk.injEq] at hv
      obtain ⟨rfl, rfl⟩ := hv
      refine op_walk he hh hd hro hC hV hCk hVk (fun hb d h => hlp hb d (by rw [← hs.dst]; exact h)) hs.op ho fun x w' O' h1 h2 h3 => ?_
      refine hK _ w' O' ?_ (put_size _ _) (put_defers _ _) h2 h3
      rw [hs.dst] at h1
      rw [hs.dst]
      cases hsd : s.dst with
      | none => rw [hsd] at h1; exact h1
      | some d => rw [hsd] at h1; exact h1
    · simp at hv
  · rename_i hg
    rw [wanted_rel he hs.guard hg]
    simp only [Option.some.injEq, Prod.mk.injEq] at hv
    obtain ⟨rfl, rfl⟩ := hv
    rw [if_neg (by simp)]
    refine ⟨fun _ _ => trivial, hK _ w O ?_ (put_size _ _) (put_defers _ _) hh (.refl _ _ _)⟩
    have hu : VRel O.M O.K (.tuple []) undef := .tuple_of LRel.nil
    have := he.putV' (o := o) hd hu
    rw [hs.dst] at this ⊢
    cases hsd : s.dst with
    | none => rw [hsd] at this; exact this
    | some d => rw [hsd] at this; exact this
  · simp at hv
end
end Go.Proofs.YtibhcmacccfakaaGreatDoor
namespace Go.Proofs.YtibhcmacccfakaaGreatDoor
variable [Sym]

/-! ### Addresses of variables come from slots that are named -/
theorem rd_not_lptr {e : Env} (x : GX) {r i : Nat} : rd e x ≠ .lptr r i := by
  cases x with
  | s t => exact cp_not_lptr _
  | c v => exact cp_not_lptr _

theorem adr_lptr {e : Env} {x : GX} {r i : Nat} (h : adr e x = .lptr r i) : r ∈ x.slots ∨ ∃ t j, get e t = .lptr r j := by
  cases x with
  | c v => exact absurd h (cp_not_lptr _)
  | s t =>
    simp only [adr] at h
    split at h
    · simp only [GV.lptr.injEq] at h; exact .inl (by simp [GX.slots, h.1])
    · rename_i s o hg
      simp only [GV.lptr.injEq] at h
      exact .inr ⟨t, o, by rw [hg, h.1]⟩
    · exact absurd h (cp_not_lptr _)

theorem plus_lptr {off : Nat} {v : GV} {r i : Nat} (h : plus off v = some (.lptr r i)) : ∃ j, v = .lptr r j := by
  cases v <;> simp only [plus, reduceCtorEq, Option.some.injEq] at h
  · split at h <;> simp at h
  · simp only [GV.lptr.injEq] at h; exact ⟨_, by rw [h.1]⟩

theorem tabV_not_lptr {o : Option GV} {r i : Nat} (h : tabV o = some (.lptr r i)) : False := by
  unfold tabV at h
  split at h <;> simp at h

theorem mkv_not_lptr {b : Bool} {cs : List GV} {r i : Nat} (h : mkv b cs = some (.lptr r i)) : False := by
  unfold mkv at h
  split at h
  · simp at h
  · split at h
    · simp only [Option.some.injEq] at h; exact cp_not_lptr _ h
    · simp at h

section
variable {e : Env} {st st' : St} {v : GV} {u : Env} {C : Call} {V : CallV}

theorem pureOp_lptr {g : GOp} {r i : Nat} (h : pureOp e g = some (.lptr r i)) : r ∈ g.reads ∨ ∃ t j, get e t = .lptr r j := by
  cases g <;> simp only [pureOp, reduceCtorEq] at h
  case mv x => simp only [Option.some.injEq] at h; exact absurd h (rd_not_lptr _)
  case pick c a b =>
    split at h
    · simp only [Option.some.injEq] at h
      split at h <;> exact absurd h (rd_not_lptr _)
    · simp at h
  case box x => split at h <;> simp at h
  case alloc z => simp at h
  case build z ps => simp at h
  case fieldAddr x off =>
    obtain ⟨j, hj⟩ := plus_lptr h
    exact (adr_lptr hj).imp (fun q => by simpa [GOp.reads] using q) id
  case indexArr x y n sz =>
    simp only [Option.bind_eq_bind, Option.bind_eq_some_iff] at h
    obtain ⟨m, _, h⟩ := h
    split at h
    · obtain ⟨j, hj⟩ := plus_lptr h
      exact (adr_lptr hj).imp (fun q => by simp [GOp.reads, q]) id
    · simp at h
  case indexSl x y sz =>
    simp only [Option.bind_eq_bind, Option.bind_eq_some_iff] at h
    obtain ⟨m, _, h⟩ := h
    split at h
    · split at h
      · split at h <;> simp at h
      · simp at h
    · split at h <;> simp at h
    · simp at h
  case nilCheck x =>
    split at h
    · rename_i s o hx
      simp only [Option.some.injEq] at h
      exact (adr_lptr (hx.trans h)).imp (fun q => by simpa [GOp.reads] using q) id
    all_goals (simp at h)
  case bin op x y =>
    exfalso
    unfold gbin at h
    split at h
    · split at h
      · split at h <;> simp at h
      · split at h <;> simp at h
      · split at h
        · simp at h
        · split at h <;> (try split at h) <;> simp at h
    · dsimp only at h
      split at h <;> (try split at h) <;> simp at h
    · exact tabV_not_lptr h
    · exact tabV_not_lptr h
    · exact tabV_not_lptr h
    · simp at h
  case eqv neg ag ks x y => split at h <;> simp at h
  case un op x =>
    exfalso
    unfold gun at h
    split at h <;> (try split at h) <;> simp at h
  case toInt k x => split at h <;> simp at h
  case mkIface t x => simp at h
  case mkFunc f fs cs => simp at h
  case extract x j =>
    split at h
    · simp only [Option.map_eq_some_iff] at h
      obtain ⟨c, _, h⟩ := h
      exact absurd h (cp_not_lptr _)
    · simp at h
  case field x off n ag =>
    split at h
    · split at h
      · exact (mkv_not_lptr h).elim
      · simp at h
    · simp at h
  case indexAgg x y n sz ag =>
    simp only [Option.bind_eq_bind, Option.bind_eq_some_iff] at h
    obtain ⟨m, _, h⟩ := h
    split at h
    · split at h
      · exact (mkv_not_lptr h).elim
      · simp at h
    · simp at h
  case indexStr x y =>
    simp only [Option.bind_eq_bind, Option.bind_eq_some_iff] at h
    obtain ⟨m, _, h⟩ := h
    split at h <;> simp at h
  case slice str x lo hi mx sz =>
    exfalso
    simp only [Option.bind_eq_bind, Option.bind_eq_some_iff, Option.some.injEq] at h
    obtain ⟨l, _, h', _, m, _, v', hv, h⟩ := h
    subst h
    unfold doSlice at hv
    split at hv <;> (try dsimp only at hv) <;> (try split at hv) <;> (try simp at hv)
    split at hv <;> simp at hv
  case assertTo x ts isI z ok =>
    exfalso
    split at h
    · split at h <;> simp at h
    · split at h
      · simp only [Option.some.injEq] at h
        split at h
        · simp at h
        · split at h
          · simp at h
          · exact cp_not_lptr _ h
      · split at h <;> simp at h
      · simp at h
    · simp at h
  case minmax mx xs =>
    exfalso
    split at h
    · unfold gmm at h
      split at h
      · split at h <;> simp at h
      · simp only [Option.map_eq_some_iff] at h
        obtain ⟨b, _, h⟩ := h
        split at h <;> simp at h
      · simp only [Option.map_eq_some_iff] at h
        obtain ⟨b, _, h⟩ := h
        split at h <;> simp at h
      · simp only [Option.map_eq_some_iff] at h
        obtain ⟨b, _, h⟩ := h
        split at h <;> simp at h
      · simp at h
    · simp at h

theorem readOp_lptr {hp : List GObj} {g : GOp} {r i : Nat} (h : readOp e hp g = some (.lptr r i)) : False := by
  cases g <;> simp only [readOp, reduceCtorEq] at h
  case load n ag a root heap =>
    simp only [Option.bind_eq_bind, Option.bind_eq_some_iff, Option.some.injEq] at h
    obtain ⟨cs, _, v', hv, rfl⟩ := h
    exact mkv_not_lptr hv
  case lookup m k z ok str =>
    split at h
    · simp only [Option.map_eq_some_iff] at h
      obtain ⟨r', _, h⟩ := h
      split at h
      · simp at h
      · exact cp_not_lptr _ h
    · simp at h
  case len x k m => split at h <;> simp at h
  case mentry x =>
    split at h
    · split at h
      · split at h
        · split at h
          · split at h <;> simp at h
          · simp at h
        · simp at h
      · simp at h
    · simp at h

theorem writeAt_no_lptr {root : Nat} {heap : Bool} {vs : List GV} {a : GV} (h : writeAt e st root heap vs a = some (u, st')) : ∀ p, p ∈ u → ∀ r i, p.2 ≠ .lptr r i := by
  cases a <;> simp only [writeAt, reduceCtorEq] at h
  · split at h
    · split at h
      · split at h
        · simp only [Option.map_eq_some_iff, Prod.mk.injEq] at h
          obtain ⟨_, _, rfl, _⟩ := h; simp
        · simp at h
      · simp at h
    · simp at h
  · split at h
    · split at h
      · split at h
        · simp only [Option.some.injEq, Prod.mk.injEq] at h
          obtain ⟨rfl, _⟩ := h
          intro p hp r i
          simp at hp; subst hp; simp
        · simp at h
      · simp at h
    · simp at h

theorem effOp_lptr {g : GOp} (h : effOp C V e st g = some (v, u, st')) : (∀ r i, v ≠ .lptr r i) ∧ ∀ p, p ∈ u → ∀ r i, p.2 ≠ .lptr r i := by
  cases g <;> simp only [effOp, reduceCtorEq] at h
  case take t =>
    simp only [Option.some.injEq, Prod.mk.injEq] at h
    obtain ⟨rfl, rfl, _⟩ := h
    exact ⟨fun r i => tk_not_lptr _, fun p hp r i => by simp at hp; subst hp; exact cp_not_lptr _⟩
  case hbox x => split at h <;> simp at h; obtain ⟨rfl, rfl, _⟩ := h; simp
  case halloc z => simp at h; obtain ⟨rfl, rfl, _⟩ := h; simp
  case bsl sz n z ps mu =>
    simp only [Option.bind_eq_bind, Option.bind_eq_some_iff] at h
    obtain ⟨xs, _, h⟩ := h
    split at h <;> (simp at h; obtain ⟨rfl, rfl, _⟩ := h; simp)
  case loadTake a root heap =>
    simp only [Option.bind_eq_bind, Option.bind_eq_some_iff] at h
    obtain ⟨cs, _, h⟩ := h
    split at h
    · split at h
      · simp only [Option.some.injEq, Prod.mk.injEq] at h
        obtain ⟨rfl, rfl, _⟩ := h; exact ⟨fun r i => cp_not_lptr _, by simp⟩
      · split at h
        · split at h <;> simp only [Option.some.injEq, Prod.mk.injEq] at h <;> obtain ⟨rfl, rfl, _⟩ := h
          · exact ⟨by simp, by simp⟩
          · exact ⟨fun r i => cp_not_lptr _, by simp⟩
        · simp only [Option.some.injEq, Prod.mk.injEq] at h
          obtain ⟨rfl, rfl, _⟩ := h; exact ⟨fun r i => cp_not_lptr _, by simp⟩
      · simp only [Option.bind_eq_some_iff, Option.some.injEq, Prod.mk.injEq] at h
        obtain ⟨⟨u', s'⟩, hw, rfl, rfl, _⟩ := h
        exact ⟨fun r i => tk_not_lptr _, writeAt_no_lptr hw⟩
    · simp at h
  case store n a x root heap =>
    split at h
    · simp only [Option.bind_eq_bind, Option.bind_eq_some_iff, Option.some.injEq, Prod.mk.injEq] at h
      obtain ⟨⟨u', s'⟩, hw, rfl, rfl, _⟩ := h
      exact ⟨by simp, writeAt_no_lptr hw⟩
    · simp at h
  case storeTake a t root heap =>
    simp only [Option.bind_eq_bind, Option.bind_eq_some_iff, Option.some.injEq, Prod.mk.injEq] at h
    obtain ⟨⟨u', s'⟩, hw, rfl, rfl, _⟩ := h
    refine ⟨by simp, fun p hp r i => ?_⟩
    rcases List.mem_cons.1 hp with rfl | hp
    · exact cp_not_lptr _
    · exact writeAt_no_lptr hw p hp r i
  case mkSlice sz bytes z l c pers =>
    simp only [Option.bind_eq_bind, Option.bind_eq_some_iff] at h
    obtain ⟨l', _, c', _, h⟩ := h
    split at h
    · split at h
      · simp at h; obtain ⟨rfl, rfl, _⟩ := h; simp
      · split at h <;> simp at h; obtain ⟨rfl, rfl, _⟩ := h; simp
    · simp at h
  case mkMap => simp at h; obtain ⟨rfl, rfl, _⟩ := h; simp
  case mapUpdate m k x str =>
    split at h
    · split at h
      · split at h
        · split at h
          · simp only [Option.bind_eq_bind, Option.bind_eq_some_iff, Option.some.injEq, Prod.mk.injEq] at h
            obtain ⟨_, _, _, _, rfl, rfl, _⟩ := h; simp
          · simp at h
        · simp at h
      · simp at h
    · simp at h
  case range x => split at h <;> simp at h; obtain ⟨rfl, rfl, _⟩ := h; simp
  case mrange x =>
    split at h
    · simp at h; obtain ⟨rfl, rfl, _⟩ := h; simp
    · split at h
      · simp at h; obtain ⟨rfl, rfl, _⟩ := h; simp
      · simp at h
    · simp at h
  case next x =>
    split at h
    · split at h
      · split at h
        · simp only [Option.bind_eq_bind, Option.bind_eq_some_iff, Option.some.injEq, Prod.mk.injEq] at h
          obtain ⟨_, _, rfl, rfl, _⟩ := h; simp
        · simp at h; obtain ⟨rfl, rfl, _⟩ := h; simp
      · simp at h
    · simp at h
  case append t y sz bytes mu hh =>
    simp only [Option.bind_eq_bind, Option.bind_eq_some_iff, Option.some.injEq, Prod.mk.injEq] at h
    obtain ⟨ys, _, ⟨v1, s1⟩, happ, rfl, rfl, _⟩ := h
    refine ⟨fun r i hq => ?_, fun p hp r i => ?_⟩
    · simp only at hq
      subst hq
      unfold doAppend at happ
      split at happ
      · rename_i hraw
        split at happ
        · simp only [Option.some.injEq, Prod.mk.injEq] at happ; rw [hraw] at happ; simp at happ
        · split at happ
          · simp at happ
          · split at happ
            · split at happ <;> simp at happ
            · simp at happ
      · rename_i hraw
        split at happ
        · simp only [Option.some.injEq, Prod.mk.injEq] at happ; rw [hraw] at happ; simp at happ
        · split at happ
          · simp at happ
          · split at happ
            · split at happ
              · split at happ
                · split at happ
                  · simp at happ
                  · simp at happ
                · simp at happ
              · simp at happ
            · simp at happ
      · simp at happ
    · cases t with
      | s t => simp [spent] at hp; subst hp; exact cp_not_lptr _
      | c c => simp [spent] at hp
  case copy d y sz =>
    simp only [Option.bind_eq_bind, Option.bind_eq_some_iff, Option.some.injEq, Prod.mk.injEq] at h
    obtain ⟨ys, _, ⟨v1, s1⟩, hcp, rfl, rfl, _⟩ := h
    refine ⟨fun r i hq => ?_, by simp⟩
    simp only at hq
    subst hq
    simp only [doCopy, Option.bind_eq_bind, Option.bind_eq_some_iff] at hcp
    obtain ⟨n, _, hcp⟩ := hcp
    split at hcp
    · split at hcp <;> simp at hcp
    · split at hcp
      · split at hcp <;> simp at hcp
      · simp at hcp
  case call f args pure =>
    split at h
    · split at h
      · split at h
        · simp only [Option.some.injEq, Prod.mk.injEq] at h; obtain ⟨rfl, rfl, _⟩ := h; exact ⟨fun r i => cp_not_lptr _, by simp⟩
        · simp only [Option.map_eq_some_iff, Prod.mk.injEq] at h
          obtain ⟨_, _, rfl, rfl, _⟩ := h; exact ⟨fun r i => cp_not_lptr _, by simp⟩
      · simp only [Option.some.injEq, Prod.mk.injEq] at h; obtain ⟨rfl, rfl, _⟩ := h; exact ⟨fun r i => cp_not_lptr _, by simp⟩
    · simp at h

/-- Addresses of variables that are named in l alone. -/
def LPok (e : Env) (l : List Nat) : Prop := ∀ t r i, get e t = .lptr r i → r ∈ l

theorem get_mem {t : Nat} : ∀ {u e : Env}, (∃ p, p ∈ u ∧ p.1 = t ∧ get (u ++ e) t = p.2) ∨ (∀ p, p ∈ u → p.1 ≠ t) ∧ get (u ++ e) t = get e t
  | [], e => .inr ⟨by simp, rfl⟩
  | (k, v) :: r, e => by
    simp only [List.cons_append, get]
    by_cases hk : k = t
    · rw [if_pos hk]; exact .inl ⟨(k, v), by simp, hk, rfl⟩
    · rw [if_neg hk]
      rcases get_mem (t := t) (u := r) (e := e) with ⟨p, h1, h2, h3⟩ | ⟨h1, h2⟩
      · exact .inl ⟨p, List.mem_cons_of_mem _ h1, h2, h3⟩
      · refine .inr ⟨fun p hp => ?_, h2⟩
        rcases List.mem_cons.1 hp with rfl | hp
        · exact hk
        · exact h1 p hp

theorem stepU_lptr {s : GStmt} {l : List Nat} (hl : LPok e l) (h : stepU C V e st s = some (u, st')) : LPok (u ++ e) (s.rds ++ s.wrs ++ l) := by
  intro t r i hg
  have key : ∀ p, p ∈ u → p.2 = .lptr r i → r ∈ s.rds ∨ ∃ t j, get e t = .lptr r j := by
    intro p hp hpl
    unfold stepU at h
    split at h
    · split at h
      · rename_i v' u' s1 ho
        simp only [Option.some.injEq, Prod.mk.injEq] at h
        obtain ⟨rfl, rfl⟩ := h
        have hv : (v' = .lptr r i → r ∈ s.op.reads ∨ ∃ t j, get e t = .lptr r j) ∧ ∀ p, p ∈ u' → p.2 ≠ .lptr r i := by
          unfold stepOp at ho
          split at ho
          · split at ho
            · rename_i hpo
              simp only [Option.some.injEq, Prod.mk.injEq] at ho
              obtain ⟨rfl, rfl, _⟩ := ho
              exact ⟨fun q => by rw [q] at hpo; exact pureOp_lptr hpo, by simp⟩
            · simp at ho
          · split at ho
            · rename_i hpo
              simp only [Option.some.injEq, Prod.mk.injEq] at ho
              obtain ⟨rfl, rfl, _⟩ := ho
              exact ⟨fun q => by rw [q] at hpo; exact (readOp_lptr hpo).elim, by simp⟩
            · simp at ho
          · obtain ⟨h1, h2⟩ := effOp_lptr ho
            exact ⟨fun q => absurd q (h1 r i), fun p hp => h2 p hp r i⟩
        cases hd : s.dst with
        | none => rw [hd] at hp; exact absurd hpl (hv.2 p hp)
        | some d =>
          rw [hd] at hp
          rcases List.mem_cons.1 hp with rfl | hp
          · exact (hv.1 hpl).imp (fun q => by simp only [GStmt.rds, List.mem_append]; exact .inr q) id
          · exact absurd hpl (hv.2 p hp)
      · simp at h
    · simp only [Option.some.injEq, Prod.mk.injEq] at h
      obtain ⟨rfl, rfl⟩ := h
      cases hd : s.dst with
      | none => rw [hd] at hp; simp at hp
      | some d => rw [hd] at hp; simp at hp; subst hp; simp at hpl
    · simp at h
  simp only [List.mem_append]
  rcases get_mem (t := t) (u := u) (e := e) with ⟨p, h1, _, h3⟩ | ⟨_, h2⟩
  · rcases key p h1 (h3.symm.trans hg) with h | ⟨t', j, h⟩
    · exact .inl (.inl h)
    · exact .inr (hl t' r j h)
  · exact .inr (hl t r i (h2.symm.trans hg))
end

/-! ### Regions -/
section
variable {P : Program} {G : Glob} {O O0 : Own} {w w0 : World} {st st0 : St} {e : Env} {a : Act} {C : Call} {V : CallV} {ro : Option Nat} {n nt : Nat} {ops : Array Oper} {gs : List GStmt} {Q : Exit → Act → World → Prop}

theorem boxOk_get : ∀ {gs : List GStmt} {seen : List Nat}, boxOk gs seen = true → ∀ (j : Nat) (s : GStmt), gs[j]? = some s → s.op.boxes = true → ∀ d, s.dst = some d →
    d ∉ seen ∧ ∀ (i : Nat) (s' : GStmt), i < j → gs[i]? = some s' → d ∉ s'.rds ∧ d ∉ s'.wrs
  | [], _, _, j, s, h, _, _, _ => by simp at h
  | s0 :: r, seen, hb, j, s, hj, hbx, d, hd => by
    simp only [boxOk, Bool.and_eq_true] at hb
    obtain ⟨h1, h2⟩ := hb
    cases j with
    | zero =>
      simp only [List.getElem?_cons_zero, Option.some.injEq] at hj
      subst hj
      refine ⟨?_, fun i s' hi => by omega⟩
      cases hop : s0.op <;> rw [hop] at hbx h1 <;> simp only [GOp.boxes, Bool.false_eq_true] at hbx <;> rw [hd] at h1 <;> simpa using h1
    | succ j =>
      obtain ⟨h3, h4⟩ := boxOk_get h2 j s (by simpa using hj) hbx d hd
      simp only [List.mem_append, not_or] at h3
      refine ⟨h3.2, fun i s' hi hs' => ?_⟩
      cases i with
      | zero => simp at hs'; subst hs'; exact h3.1
      | succ i => exact h4 i s' (by omega) (by simpa using hs')

/-- What is carried through a region. -/
structure RInv (P : Program) (G : Glob) (O0 : Own) (w0 : World) (st0 : St) (nt : Nat) (df : List Deferred) (O : Own) (w : World) (e : Env) (a : Act) (st : St) : Prop where
  env : EnvRel O w e a.tmps
  size : a.tmps.size = nt
  defers : a.defers = df
  inv : HInv P G O st w
  stp : Stp (touch st0.ro st0.heap.length) O0 w0 O w
  keeps : Keeps st0 st

theorem RInv.start (he : EnvRel O w e a.tmps) (hs : a.tmps.size = nt) (hh : HInv P G O st w) : RInv P G O w st nt a.defers O w e a st := ⟨he, hs, rfl, hh, .refl _ _ _, .refl _⟩

/-- One statement. -/
theorem RInv.walk {df : List Deferred} {o : Oper} {s : GStmt} {i : Nat} {u : Env} {st1 : St} {K : Act → World → Prop} (h : RInv P G O0 w0 st0 nt df O w e a st) (hr : st0.ro ≤ st0.heap.length) (hi : ops[i]? = some o) (hs : OkStmt P G nt ops o s)
    (hC : CSound P G C) (hV : VSound P G V) (hCk : CKeeps C) (hVk : VKeeps V) (hlp : s.op.boxes = true → ∀ d, s.dst = some d → ∀ t r, get e t ≠ .lptr d r) (hv : stepU C V e st s = some (u, st1))
    (hK : ∀ a' w' O', RInv P G O0 w0 st0 nt df O' w' (u ++ e) a' st1 → K a' w') : wpOpIn (FW ro) n P ops Q i K a w := by
  have hro : st.ro ≤ st.heap.length := by rw [h.keeps.ro]; exact Nat.le_trans hr h.keeps.len
  refine stmt_walk hi hs h.size h.env h.inv hro hC hV hCk hVk hlp hv fun a' w' O' h1 h2 h3 h4 h5 => hK a' w' O' ⟨h1, h2.trans h.size, h3.trans h.defers, h4, ?_, h.keeps.trans (stepU_keepsAll hCk hVk hro hv)⟩
  exact h.stp.trans (h5.weak fun t ht => ht.le (by rw [h.keeps.ro]; exact Nat.le_refl _) h.keeps.len)

/-- In the written order. -/
theorem walk_list {df : List Deferred} (hr : st0.ro ≤ st0.heap.length) (hok : ops.size = gs.length ∧ ∀ (i : Nat) (o : Oper) (s : GStmt), ops[i]? = some o → gs[i]? = some s → OkStmt P G nt ops o s) (hC : CSound P G C) (hV : VSound P G V) (hCk : CKeeps C) (hVk : VKeeps V)
    {ef : Env} {sf : St} (hQ : ∀ a' w' O', RInv P G O0 w0 st0 nt df O' w' ef a' sf → Q .normal a' w') :
    ∀ (l : List GStmt) (k : Nat) (O : Own) (w : World) (e : Env) (a : Act) (st : St) (seen : List Nat), gs.drop k = l → boxOk l seen = true → LPok e seen → RInv P G O0 w0 st0 nt df O w e a st → runOps C V l e st = some (ef, sf) →
      wpOpsIn (FW ro) n P ops Q (List.range' k l.length) a w
  | [], k, O, w, e, a, st, seen, _, _, _, h, hrun => by
    simp only [runOps, Option.some.injEq, Prod.mk.injEq] at hrun
    obtain ⟨rfl, rfl⟩ := hrun
    simp only [List.length_nil, List.range'_zero, wpOpsIn]
    exact hQ a w O h
  | s :: l, k, O, w, e, a, st, seen, hk, hb, hlp, h, hrun => by
    have hgk : gs[k]? = some s := by
      have := congrArg (fun x => x[0]?) hk
      simpa using this
    have hd : gs.drop (k + 1) = l := by
      have := congrArg List.tail hk
      simpa using this
    have hkl := (List.getElem?_eq_some_iff.1 hgk).1
    have hok' : ops[k]? = some (ops[k]'(by rw [hok.1]; exact hkl)) := by simp
    simp only [runOps, step] at hrun
    cases hst : stepU C V e st s with
    | none => rw [hst] at hrun; simp at hrun
    | some q =>
      obtain ⟨u, st1⟩ := q
      rw [hst] at hrun
      rw [List.length_cons, List.range'_succ, wpOpsIn_cons]
      have hbx : s.op.boxes = true → ∀ d, s.dst = some d → ∀ t r, get e t ≠ .lptr d r := fun hbx d hds t r hq => by
        have := (boxOk_get hb 0 s rfl hbx d hds).1
        exact this (hlp t d r hq)
      simp only [boxOk, Bool.and_eq_true] at hb
      refine h.walk hr hok' (hok.2 k _ s hok' hgk) hC hV hCk hVk hbx hst fun a' w' O' h' => ?_
      exact walk_list hr hok hC hV hCk hVk hQ l (k + 1) O' w' (u ++ e) a' st1 _ hd hb.2 (stepU_lptr hlp hst) h' hrun
end
end Go.Proofs.YtibhcmacccfakaaGreatDoor
namespace Go.Proofs.YtibhcmacccfakaaGreatDoor
variable [Sym]

theorem zipIdx_all {α : Type} {l : List α} {f : α × Nat → Bool} (h : l.zipIdx.all f = true) {i : Nat} {x : α} (hi : l[i]? = some x) : f (x, i) = true := by
  refine List.all_eq_true.1 h (x, i) ?_
  rw [List.mem_iff_getElem?]
  exact ⟨i, by simp [hi]⟩

theorem pairOk_get {ms : List Nat} {gs : List GStmt} (h : pairOk ms gs = true) {i j : Nat} {a b : GStmt} (hi : gs[i]? = some a) (hj : gs[j]? = some b) (hij : i < j) :
    (ms.getD j 0).testBit i = true ∨ indep a b = true := by
  have h1 := zipIdx_all h hj
  have h2 := zipIdx_all h1 hi
  simp only [Bool.or_eq_true, Bool.not_eq_true', decide_eq_false_iff_not] at h2
  rcases h2 with (h2 | h2) | h2
  · exact absurd hij h2
  · exact .inl h2
  · exact .inr h2

section
variable {P : Program} {G : Glob} {O O0 : Own} {w w0 : World} {st st0 : St} {e : Env} {a : Act} {C : Call} {V : CallV} {ro : Option Nat} {n nt : Nat} {ops : Array Oper} {gs : List GStmt} {Q : Exit → Act → World → Prop}

/-- In any order that the edges allow. -/
theorem walk_any {df : List Deferred} (hr : st0.ro ≤ st0.heap.length) (hok : ops.size = gs.length ∧ ∀ (i : Nat) (o : Oper) (s : GStmt), ops[i]? = some o → gs[i]? = some s → OkStmt P G nt ops o s)
    (hedge : ∀ (i : Nat) (o : Oper), ops[i]? = some o → ∀ e, e ∈ o.after.toList → Region.binds .any e = true → e.on < i) (hpair : pairOk (masks ops.toList []) gs = true) (hbox : boxOk gs [] = true)
    (hC : CSound P G C) (hV : VSound P G V) (hCk : CKeeps C) (hVk : VKeeps V) {ef : Env} {sf : St} (hQ : ∀ a' w' O' e', EnvEq e' ef → RInv P G O0 w0 st0 nt df O' w' e' a' sf → Q .normal a' w') :
    ∀ (fuel : Nat) (R : List Nat) (listed : Array Bool) (O : Own) (w : World) (e : Env) (a : Act) (st : St) (e1 : Env), listed.size = ops.size → R.Pairwise (· < ·) →
      (∀ i, i ∈ R ↔ i < ops.size ∧ listed.getD i false = false) → R.length ≤ fuel →
      (∀ i y, i < ops.size → listed.getD i false = true → ((masks ops.toList []).getD i 0).testBit y = true → listed.getD y false = true) →
      (∀ t r j, get e t = .lptr r j → ∃ k s, listed.getD k false = true ∧ gs[k]? = some s ∧ (r ∈ s.rds ∨ r ∈ s.wrs)) →
      RInv P G O0 w0 st0 nt df O w e a st → runIdx C V gs R e st = some (e1, sf) → EnvEq e1 ef → wpAnyIn (FW ro) n P .any ops Q fuel listed a w := by
  -- the end
  have fin : ∀ {R : List Nat} {O : Own} {w : World} {e : Env} {a : Act} {st : St} {e1 : Env}, R = [] → RInv P G O0 w0 st0 nt df O w e a st → runIdx C V gs R e st = some (e1, sf) → EnvEq e1 ef → Q .normal a w := by
    intro R O w e a st e1 hR h hrun heq
    subst hR
    simp only [runIdx, Option.some.injEq, Prod.mk.injEq] at hrun
    obtain ⟨rfl, rfl⟩ := hrun
    exact hQ a w O e heq h
  have hget : ∀ i, i < ops.size → ∃ o s, ops[i]? = some o ∧ gs[i]? = some s := fun i hi => ⟨ops[i], gs[i]'(by rw [← hok.1]; exact hi), by simp, by simp⟩
  intro fuel
  induction fuel with
  | zero =>
    intro R listed O w e a st e1 hsz hsort hmem hlen hcl hlp h hrun heq
    have hR : R = [] := List.length_eq_zero_iff.1 (by omega)
    refine ⟨?_, fin hR h hrun heq⟩
    rw [Region.ready, List.filter_eq_nil_iff]
    intro i hi
    have hi : i < ops.size := by simpa using hi
    have hnm : ¬ (i < ops.size ∧ listed.getD i false = false) := by rw [← hmem, hR]; simp
    have hl : listed.getD i false = true := by
      cases hq : listed.getD i false with
      | true => rfl
      | false => exact absurd ⟨hi, hq⟩ hnm
    have hl' : listed.getD i true = true := by
      rw [Array.getD_eq_getD_getElem?, Array.getElem?_eq_getElem (by omega)] at hl ⊢
      simpa using hl
    simp [hl']
  | succ fuel ih =>
    intro R listed O w e a st e1 hsz hsort hmem hlen hcl hlp h hrun heq
    -- what is ready
    have hready : ∀ i, i ∈ Region.ready .any ops listed ↔ i ∈ R ∧ ∀ o, ops[i]? = some o → ∀ e, e ∈ o.after.toList → Region.binds .any e = true → listed.getD e.on false = true := by
      intro i
      rw [Region.ready, List.mem_filter, hmem]
      constructor
      · rintro ⟨h1, h2⟩
        have hi : i < ops.size := by simpa using h1
        simp only [Bool.and_eq_true, Bool.not_eq_true'] at h2
        refine ⟨⟨hi, ?_⟩, fun o ho ed he hb => ?_⟩
        · have := h2.1
          rw [Array.getD_eq_getD_getElem?, Array.getElem?_eq_getElem (by omega)] at this ⊢
          simpa using this
        · have := h2.2
          rw [ho] at this
          simp only [Option.map_some, Option.getD_some] at this
          have := Array.all_eq_true_iff_forall_mem.1 this ed (Array.mem_toList_iff.1 he)
          rw [hb] at this
          simpa using this
      · rintro ⟨⟨hi, hl⟩, h2⟩
        obtain ⟨o, s, ho, _⟩ := hget i hi
        refine ⟨by simpa using hi, ?_⟩
        simp only [Bool.and_eq_true, Bool.not_eq_true']
        refine ⟨?_, ?_⟩
        · rw [Array.getD_eq_getD_getElem?, Array.getElem?_eq_getElem (by omega)] at hl ⊢
          simpa using hl
        · rw [ho]
          simp only [Option.map_some, Option.getD_some]
          refine Array.all_eq_true_iff_forall_mem.2 fun ed he => ?_
          cases hb : Region.binds .any ed with
          | false => rfl
          | true => simpa using h2 o ho ed (Array.mem_toList_iff.2 he) hb
    refine ⟨fun hnone => ?_, fun i hi => ?_⟩
    · cases hR : R with
      | nil => exact fin hR h hrun heq
      | cons r0 R' =>
        exfalso
        have hr0 : r0 ∈ R := by rw [hR]; simp
        have : r0 ∈ Region.ready .any ops listed := by
          rw [hready]
          refine ⟨hr0, fun o ho ed he hb => ?_⟩
          have hlt := hedge r0 o ho ed he hb
          cases hq : listed.getD ed.on false with
          | true => rfl
          | false =>
            exfalso
            have hin : ed.on ∈ R := (hmem ed.on).2 ⟨by have := ((hmem r0).1 hr0).1; omega, hq⟩
            rw [hR] at hin hsort
            rcases List.mem_cons.1 hin with h1 | h1
            · omega
            · have := List.rel_of_pairwise_cons hsort h1; omega
        rw [hnone] at this; simp at this
    · obtain ⟨hiR, hedges⟩ := (hready i).1 hi
      obtain ⟨hil, hinl⟩ := (hmem i).1 hiR
      obtain ⟨o, s, ho, hs⟩ := hget i hil
      obtain ⟨p, q, rfl⟩ := List.append_of_mem hiR
      -- all that stands before is apart from it
      have hbefore : ∀ y, y ∈ p → y < i := fun y hy => (List.pairwise_append.1 hsort).2.2 y hy i (by simp)
      have hin : ∀ y, y ∈ p → ∀ sy, gs[y]? = some sy → indep sy s = true := by
        intro y hy sy hsy
        have hyi := hbefore y hy
        rcases pairOk_get hpair hsy hs hyi with hm | hm
        · exfalso
          obtain ⟨ed, h1, h2, h3⟩ := masks_spec ops.toList [] i y o (by simpa using ho) (by simpa using hm)
          have hon := hedges o ho ed h1 h2
          have hyl : listed.getD y false = true := by
            rcases h3 with rfl | ⟨h3, h4⟩
            · exact hon
            · exact hcl ed.on y (by simp at h3; omega) hon h4
          have := ((hmem y).1 (by simp [hy])).2
          rw [hyl] at this; simp at this
        · exact hm
      obtain ⟨u, st1, hst, e1', hrun', heq'⟩ := runIdx_first hs hin hrun
      have hbx : s.op.boxes = true → ∀ d, s.dst = some d → ∀ t r, get e t ≠ .lptr d r := by
        intro hb d hd t r hq
        obtain ⟨k, sk, h1, h2, h3⟩ := hlp t d r hq
        have hne : k ≠ i := fun q => by rw [q, hinl] at h1; simp at h1
        rcases Nat.lt_or_ge k i with hki | hki
        · obtain ⟨h4, h5⟩ := (boxOk_get hbox i s hs hb d hd).2 k sk hki h2
          rcases h3 with h3 | h3
          · exact h4 h3
          · exact h5 h3
        · have hik : i < k := by omega
          rcases pairOk_get hpair hs h2 hik with hm | hm
          · have := hcl k i (by have := (List.getElem?_eq_some_iff.1 h2).1; rw [hok.1]; exact this) h1 hm
            rw [hinl] at this; simp at this
          · simp only [indep, Bool.and_eq_true] at hm
            have hdw : d ∈ s.wrs := by simp [GStmt.wrs, hd]
            have := apart_spec hm.1.1.1.1 d hdw
            simp only [List.mem_append, not_or] at this
            rcases h3 with h3 | h3
            · exact this.1 h3
            · exact this.2 h3
      refine h.walk hr ho (hok.2 i o s ho hs) hC hV hCk hVk hbx hst fun a' w' O' h' => ?_
      have hset : ∀ j, (listed.setIfInBounds i true).getD j false = if j = i then true else listed.getD j false := by
        intro j
        rw [Array.getD_eq_getD_getElem?, Array.getElem?_setIfInBounds]
        by_cases hj : i = j
        · subst hj; rw [if_pos rfl, if_pos (by omega), if_pos rfl]; rfl
        · rw [if_neg hj, if_neg (Ne.symm hj), Array.getD_eq_getD_getElem?]
      have hnd := List.pairwise_append.1 hsort
      refine ih (p ++ q) (listed.setIfInBounds i true) O' w' (u ++ e) a' st1 e1' (by simpa using hsz) ?_ (fun j => ?_) ?_ (fun j y hj hl hm => ?_) (fun t r j hg => ?_) h' hrun' (heq'.symm.trans heq)
      · refine List.pairwise_append.2 ⟨hnd.1, (List.pairwise_cons.1 hnd.2.1).2, fun x hx y hy => hnd.2.2 x hx y (List.mem_cons_of_mem _ hy)⟩
      · rw [hset]
        have hm := hmem j
        by_cases hj : j = i
        · subst hj
          simp only [if_true, Bool.true_eq_false, and_false, iff_false, List.mem_append, not_or]
          refine ⟨fun hq => ?_, fun hq => ?_⟩
          · have := hbefore j hq; omega
          · have := (List.pairwise_cons.1 hnd.2.1).1 j hq; omega
        · rw [if_neg hj, ← hm]
          simp only [List.mem_append, List.mem_cons]
          constructor
          · rintro (h1 | h1)
            · exact .inl h1
            · exact .inr (.inr h1)
          · rintro (h1 | h1 | h1)
            · exact .inl h1
            · exact absurd h1 hj
            · exact .inr h1
      · simp only [List.length_append, List.length_cons] at hlen ⊢; omega
      · rw [hset] at hl ⊢
        split
        · rfl
        · split at hl
          · rename_i hji
            subst hji
            obtain ⟨ed, h1, h2, h3⟩ := masks_spec ops.toList [] j y o (by simpa using ho) (by simpa using hm)
            have hon := hedges o ho ed h1 h2
            rcases h3 with rfl | ⟨h3, h4⟩
            · exact hon
            · exact hcl ed.on y (by simp at h3; omega) hon h4
          · exact hcl j y hj hl hm
      · have hl0 : LPok e (((List.range gs.length).filter fun k => listed.getD k false).flatMap fun k => match gs[k]? with | some s => s.rds ++ s.wrs | none => []) := by
          intro t r j hq
          obtain ⟨k, sk, h1, h2, h3⟩ := hlp t r j hq
          rw [List.mem_flatMap]
          refine ⟨k, List.mem_filter.2 ⟨by simpa using (List.getElem?_eq_some_iff.1 h2).1, h1⟩, ?_⟩
          rw [h2]; simpa using h3
        have := stepU_lptr hl0 hst t r j hg
        simp only [List.mem_append, List.mem_flatMap, List.mem_filter] at this
        rcases this with h1 | ⟨k, ⟨_, h2⟩, h3⟩
        · exact ⟨i, s, by rw [hset, if_pos rfl], hs, h1⟩
        · cases hk : gs[k]? with
          | none => rw [hk] at h3; simp at h3
          | some sk =>
            rw [hk] at h3
            refine ⟨k, sk, ?_, hk, by simpa using h3⟩
            rw [hset]
            split
            · rfl
            · exact h2

/-- No address of a variable. -/
def NoL (e : Env) : Prop := ∀ t r i, get e t ≠ .lptr r i

theorem RInv.drawn {df : List Deferred} (h : RInv P G O0 w0 st0 nt df O w e a st) (d : Nat) : RInv P G O0 w0 st0 nt df O { w with drawn := d } e a st := by
  have hs : Stp (fun _ => False) O w O { w with drawn := d } := ⟨.refl _, .refl _, Nat.le_refl _, rfl, rfl, rfl, fun _ _ _ => ⟨rfl, rfl, fun _ => rfl⟩, fun _ _ hk _ _ _ => hk⟩
  refine ⟨h.env.step0 h.inv hs (fun _ => id) (fun _ => id) (fun _ _ => id), h.size, h.defers, ?_, h.stp.trans (hs.weak fun _ q => q.elim), h.keeps⟩
  exact h.inv.stp hs (fun g o hg => .inl ⟨hg, id, fun _ _ => id⟩) (fun g i hg => .inl ⟨hg, rfl, id, id⟩) (fun b hb o v hm => h.inv.mem b o v hm) h.inv.fresh h.inv.kdom h.inv.pdom

/-- **A region.** -/
theorem region_walk {id : Nat} {draw : Bool} (hmix : P.follows .mixedOrders = true) (hok : okRegion P G nt ops draw gs = true) (hC : CSound P G C) (hV : VSound P G V) (hCk : CKeeps C) (hVk : VKeeps V) (hro : st0.ro ≤ st0.heap.length) {df : List Deferred}
    (h : RInv P G O0 w0 st0 nt df O w e a st) (hno : NoL e) {ef : Env} {sf : St} (hrun : runOps C V gs e st = some (ef, sf))
    (hQ : ∀ a' w' O' e', EnvEq e' ef → RInv P G O0 w0 st0 nt df O' w' e' a' sf → Q .normal a' w') : (Code.region id ops draw).wpIn (FW ro) n P Q a w := by
  simp only [okRegion, Bool.and_eq_true] at hok
  obtain ⟨⟨⟨hst, hbox⟩, hed⟩, hpr⟩ := hok
  obtain ⟨hl, hget⟩ := okStmts_get hst
  have hok' : ops.size = gs.length ∧ ∀ (i : Nat) (o : Oper) (s : GStmt), ops[i]? = some o → gs[i]? = some s → OkStmt P G nt ops o s := ⟨by simpa using hl, fun i o s h1 h2 => hget i o s (by simpa using h1) h2⟩
  cases draw with
  | false =>
    refine wpIn_region ?_
    have := walk_list (ro := ro) (n := n) (Q := Q) hro hok' hC hV hCk hVk (fun a' w' O' h' => hQ a' w' O' ef (.refl _) h') gs 0 O w e a st [] rfl hbox (fun t r i hq => absurd hq (hno t r i)) h hrun
    rw [hok'.1, List.range_eq_range']
    exact this
  | true =>
    simp only [Bool.not_true, Bool.false_or] at hpr
    have hedge : ∀ (i : Nat) (o : Oper), ops[i]? = some o → ∀ e, e ∈ o.after.toList → Region.binds .any e = true → e.on < i := by
      intro i o ho ed he hb
      have h1 := zipIdx_all hed (show ops.toList[i]? = some o by simpa using ho)
      have h2 := Array.all_eq_true_iff_forall_mem.1 h1 ed (Array.mem_toList_iff.1 he)
      rw [hb] at h2
      simpa using h2
    refine wpIn_region_any hmix ?_
    have hlen : (List.range ops.size).length = ops.size := by simp
    have hrun' : runIdx C V gs (List.range ops.size) e st = some (ef, sf) := by
      rw [hok'.1, List.range_eq_range', runIdx_range 0 e st gs rfl]; exact hrun
    have hrep : ∀ i, (Array.replicate ops.size false).getD i false = false := fun i => by
      rw [Array.getD_eq_getD_getElem?, Array.getElem?_replicate]
      split <;> rfl
    refine walk_any hro hok' hedge hpr hbox hC hV hCk hVk hQ ops.size (List.range ops.size) (Array.replicate ops.size false) O _ e a st ef (by simp) List.pairwise_lt_range (fun i => ?_) (by simp) (fun i y _ hl _ => ?_) (fun t r j hq => absurd hq (hno t r j)) (h.drawn _) hrun' (.refl _)
    · rw [hrep]; simp
    · rw [hrep] at hl; simp at hl
end
end Go.Proofs.YtibhcmacccfakaaGreatDoor
namespace Go.Proofs.YtibhcmacccfakaaGreatDoor
variable [Sym]

section
variable {P : Program} {G : Glob} {τ : Tag → Prop} {O O' O0 : Own} {w w' w0 : World} {st st' st0 : St} {e e' : Env} {a a' : Act} {nt : Nat} {D : List Deferred}

/-- The marks among the deferred calls: each block is there, empty, and no other's. -/
def Marks (n0 : Nat) (O : Own) (st : St) (w : World) : List Deferred → Prop
  | [] => True
  | d :: ds => (∃ r g, d.target = .collected r ∧ n0 ≤ g ∧ g < st.heap.length ∧ O.B r = .defer g ∧ w.heap[r]? = some (.deferred (some [])) ∧ ∀ d', d' ∈ ds → d'.target ≠ .collected r) ∧ Marks n0 O st w ds

theorem Marks.step {n0 : Nat} (s : Stp (touch st.ro st.heap.length) O w O' w') (hl : st.heap.length ≤ st'.heap.length) : ∀ {ds : List Deferred}, Marks n0 O st w ds → Marks n0 O' st' w' ds
  | [], _ => trivial
  | d :: ds, ⟨⟨r, g, h1, h2, h3, h4, h5, h6⟩, h7⟩ => by
    obtain ⟨e1, e2, _⟩ := s.same r (lt_of_heap h5) (by rw [h4]; intro q; have := q.2.2 g rfl; omega)
    exact ⟨⟨r, g, h1, h2, by omega, e2.trans h4, e1.trans h5, h6⟩, Marks.step s hl h7⟩
theorem Marks.lt {n0 : Nat} : ∀ {ds : List Deferred}, Marks n0 O st w ds → ∀ d, d ∈ ds → ∀ r, d.target = .collected r → r < w.heap.size
  | [], _, d, hd, _, _ => by simp at hd
  | d0 :: ds, ⟨⟨r0, g, h1, h2, h3, h4, h5, h6⟩, h7⟩, d, hd, r, hr => by
    rcases List.mem_cons.1 hd with rfl | hd
    · rw [h1] at hr
      simp only [Target.collected.injEq] at hr
      subst hr
      exact lt_of_heap h5
    · exact Marks.lt h7 d hd r hr

/-- The round that the code stands in. -/
def RRel (O0 : Own) (rog ro : Option Nat) : Prop := (rog = none ∧ ro = none) ∨ ∃ l k, rog = some l ∧ ro = some k.b ∧ O0.K l = some k ∧ k.ver = 0

/-- What is carried through code. -/
structure CInv (P : Program) (G : Glob) (D : List Deferred) (O0 : Own) (w0 : World) (st0 : St) (nt : Nat) (O : Own) (w : World) (e : Env) (a : Act) (st : St) : Prop where
  env : EnvRel O w e a.tmps
  size : a.tmps.size = nt
  inv : HInv P G O st w
  stp : Stp (touch st0.ro st0.heap.length) O0 w0 O w
  keeps : Keeps st0 st
  nol : NoL e
  marks : ∃ ms, a.defers = ms ++ D ∧ Marks st0.heap.length O st w ms

theorem CInv.step (h : CInv P G D O0 w0 st0 nt O w e a st) (he : EnvRel O' w' e' a'.tmps) (hs : a'.tmps.size = a.tmps.size) (hd : a'.defers = a.defers) (hh : HInv P G O' st' w') (hn : NoL e') (s : Stp (touch st.ro st.heap.length) O w O' w') (hk : Keeps st st') :
    CInv P G D O0 w0 st0 nt O' w' e' a' st' where
  env := he
  size := hs.trans h.size
  inv := hh
  stp := h.stp.trans (s.weak fun t ht => ht.le (by rw [h.keeps.ro]; exact Nat.le_refl _) h.keeps.len)
  keeps := h.keeps.trans hk
  nol := hn
  marks := by rw [hd]; obtain ⟨ms, h1, h2⟩ := h.marks; exact ⟨ms, h1, h2.step s hk.len⟩

theorem get_keepOnly (e : Env) (t : Nat) : ∀ (keep : List Nat), get (keepOnly keep e) t = if t ∈ keep then nrm (get e t) else .undef
  | [] => by simp [keepOnly, get]
  | k :: r => by
    have ih := get_keepOnly e t r
    simp only [keepOnly, List.map_cons, get] at ih ⊢
    by_cases hk : k = t
    · subst hk; simp
    · rw [if_neg hk, ih]
      simp [Ne.symm hk]

theorem EnvRel.keep {tmps : Array Value} (h : EnvRel O w e tmps) (keep : List Nat) : EnvRel O w (keepOnly keep e) tmps ∧ NoL (keepOnly keep e) := by
  have hno : NoL (keepOnly keep e) := fun t r i hq => by
    rw [get_keepOnly] at hq
    split at hq
    · cases hg : get e t <;> rw [hg] at hq <;> simp [nrm] at hq
    · cases hq
  refine ⟨⟨fun t => ?_, fun t s o cs h1 _ => absurd h1 (hno t s o)⟩, hno⟩
  rw [get_keepOnly]
  split
  · have hs := h.slot t
    cases hg : get e t <;> rw [hg] at hs <;> simp only [nrm] <;> first | exact hs | exact VRel.slot (.undef _)
  · exact VRel.slot (.undef _)

def geExit : GE → Exit
  | .normal => .normal
  | .exit i => .exit i
  | .ret => .ret

theorem get_map_cp (t : Nat) : ∀ (e : Env), get (e.map fun p => (p.1, cp p.2)) t = cp (get e t)
  | [] => rfl
  | (k, v) :: r => by
    simp only [List.map_cons, get]
    split
    · rfl
    · exact get_map_cp t r
end

section
variable {P : Program} {G : Glob} {O O0 : Own} {w w0 : World} {st st0 : St} {e : Env} {a : Act} {nt : Nat} {D : List Deferred}

/-- A loop's record is laid. -/
theorem enter_loop {rog ro : Option Nat} {fn fnm : Nat} {ps : List Nat} {A B : Code} {ga gb : GC} (h : CInv P G D O0 w0 st0 nt O w e a st) (hrr : RRel O0 rog ro) (hla : loopAt st rog = true) (hA : okCode P G nt A ga = true) (hB : okCode P G nt B gb = true)
    (hps : ∀ t, t ∈ ps → t < nt) (hnd : ps.Nodup) :
    ∃ lr mark w1 O1, (Instr.enterLoop fnm a.tmps ps.toArray A B ro).run P w = .ok (lr, mark) w1 ∧ O1.K st.heap.length = some ⟨lr, 0, 0, 0⟩ ∧ O1.B lr = .heap st.heap.length ∧
      HInv P G O1 (st.new (.loop (e.map fun p => (p.1, cp p.2)) ps ga gb fn .ready none)) w1 ∧ EnvRel O1 w1 e a.tmps ∧ Stp (fun _ => False) O w O1 w1 ∧
      ∃ ms, mark ++ a.defers = ms ++ D ∧ Marks st0.heap.length O1 (st.new (.loop (e.map fun p => (p.1, cp p.2)) ps ga gb fn .ready none)) w1 ms := by
  obtain ⟨ms0, hms0, hM0⟩ := h.marks
  let l := st.heap.length
  -- the block for the deferred calls
  have block : ∃ d mark w1 O1 g', (match ro with
      | some l => (do pure ((← Instr.getLoop l).defers, ([] : List Deferred)) : Sem (Nat × List Deferred))
      | none => do
        let r ← newObj (.deferred (some []))
        pure (r, [{ target := .collected r, args := #[] }])).run P w = .ok (d, mark) w1 ∧ HInv P G O1 st w1 ∧ EnvRel O1 w1 e a.tmps ∧ Stp (fun _ => False) O w O1 w1 ∧ g' ≤ l ∧ O1.B d = .defer g' ∧ w1.heap[d]? = some (.deferred (some [])) ∧
      (mark = [] ∨ (mark = [{ target := .collected d, args := #[] }] ∧ g' = l ∧ d = w.heap.size)) := by
    rcases hrr with ⟨rfl, rfl⟩ | ⟨l0, k0, rfl, rfl, hk0, hv0⟩
    · have hp := Pushed.of w (.deferred (some []))
      have hs := Stp.alloc h.inv hp (.defer l) fun _ => none
      refine ⟨w.heap.size, [{ target := .collected w.heap.size, args := #[] }], _, _, l, by simp, h.inv.alloc hp (.defer l) (fun _ => none) (fun o v hq => by simp at hq), h.env.step0 h.inv hs (fun _ => id) (fun _ => id) (fun _ _ => id), hs, Nat.le_refl _, by simp [Own.newB], hp.get.1, .inr ⟨rfl, rfl, rfl⟩⟩
    · simp only [loopAt] at hla
      split at hla
      · rename_i e2 ps2 a2 b2 fn2 s2 p2 hg
        obtain ⟨k, tmps, A2, Bc, d, g', fn', k1, k2, k3, k4, _, _, _, _, _, k9, k10, k11⟩ := h.inv.obj l0 _ hg
        obtain ⟨k', e1, e2', e3⟩ := h.stp.kmap l0 k0 hk0
        rw [k1] at e1
        simp only [Option.some.injEq] at e1
        subst e1
        have := e3 (by omega)
        subst this
        have hl0 := (List.getElem?_eq_some_iff.1 hg).1
        refine ⟨d, [], w, O, g', ?_, h.inv, h.env, .refl _ _ _, by omega, k10, k11, .inl rfl⟩
        simp [Instr.getLoop, getObj, Sem.run, k4]
      · simp at hla
  obtain ⟨d, mark, w1, O1, g', hrun, hinv1, henv1, hs1, hg', hBd, hd, hmark⟩ := block
  let ob : Obj := .loop { state := .ready, pending := none, fn := fnm, tmps := a.tmps, params := ps.toArray, assign := A, body := B, defers := d }
  have hp := Pushed.of w1 ob
  have hs := (Stp.alloc hinv1 hp (.heap l) fun _ => none).bindK (k := ⟨w1.heap.size, 0, 0, 0⟩) (hinv1.kdom _ (Nat.le_refl _))
  have hdlt := lt_of_heap hd
  have hBd2 : ((O1.newB w1.heap.size (.heap l) fun _ => none).bindK l ⟨w1.heap.size, 0, 0, 0⟩).B d = .defer g' := by
    simp only [Own.bindK, Own.newB]; rw [if_neg (by omega)]; exact hBd
  have hobj : ObjRel P G ((O1.newB w1.heap.size (.heap l) fun _ => none).bindK l ⟨w1.heap.size, 0, 0, 0⟩) { w1 with heap := w1.heap.push ob } l (.loop (e.map fun p => (p.1, cp p.2)) ps ga gb fn .ready none) := by
    refine ⟨⟨w1.heap.size, 0, 0, 0⟩, a.tmps, A, B, d, g', fnm, by simp [Own.bindK], rfl, by simp [Own.bindK, Own.newB], by rw [hp.get.1]; rfl, by rw [h.size]; exact hA, by rw [h.size]; exact hB, by rw [h.size]; exact hps, hnd, fun t => ?_, hg', hBd2, ?_⟩
    · rw [get_map_cp]
      exact hs.vrel (slot_cp henv1 t)
    · rw [hp.get.2 d hdlt]; exact hd
  refine ⟨w1.heap.size, mark, { w1 with heap := w1.heap.push ob }, _, ?_, by simp [Own.bindK, l], by simp [Own.bindK, Own.newB, l], hinv1.allocObj hp _ _ hobj, henv1.step0 hinv1 hs (fun _ => id) (fun _ => id) (fun _ _ => id), hs1.trans hs, ?_⟩
  · cases ro with
    | none =>
      simp only [Sem.run_bind, run_newObj, Result.andThen_ok, Sem.run_pure, Result.ok.injEq, Prod.mk.injEq] at hrun
      obtain ⟨⟨rfl, rfl⟩, rfl⟩ := hrun
      simp only [Instr.enterLoop, Sem.run_bind, run_newObj, Result.andThen_ok, Sem.run_pure]
      rfl
    | some l0 =>
      simp only [Sem.run_bind] at hrun
      cases hgl : (Instr.getLoop l0).run P w with
      | halt x w2 => rw [hgl] at hrun; simp at hrun
      | ok lp w2 =>
        rw [hgl] at hrun
        simp only [Result.andThen_ok, Sem.run_pure, Result.ok.injEq, Prod.mk.injEq] at hrun
        obtain ⟨⟨rfl, rfl⟩, rfl⟩ := hrun
        simp only [Instr.enterLoop, Sem.run_bind, hgl, run_newObj, Result.andThen_ok, Sem.run_pure]
        rfl
  · have hold : Marks st0.heap.length ((O1.newB w1.heap.size (.heap l) fun _ => none).bindK l ⟨w1.heap.size, 0, 0, 0⟩) (st.new (.loop (e.map fun p => (p.1, cp p.2)) ps ga gb fn .ready none)) { w1 with heap := w1.heap.push ob } ms0 :=
      hM0.step ((hs1.trans hs).weak fun _ q => q.elim) (by simp [St.new])
    rcases hmark with rfl | ⟨rfl, rfl, hdw⟩
    · exact ⟨ms0, hms0, hold⟩
    · refine ⟨{ target := .collected d, args := #[] } :: ms0, by simp [hms0], ⟨d, l, rfl, h.keeps.len, by simp [St.new, l], hBd2, by rw [hp.get.2 d hdlt]; exact hd, fun d' hd' hq => ?_⟩, hold⟩
      have := hM0.lt d' hd' d hq
      omega
end
end Go.Proofs.YtibhcmacccfakaaGreatDoor
namespace Go.Proofs.YtibhcmacccfakaaGreatDoor
variable [Sym]

section
variable {P : Program} {G : Glob} {C : Call} {V : CallV} {n : Nat} {fn : Nat} {rog ro : Option Nat} {nt : Nat} {O0 : Own} {w0 : World} {st0 : St} {D : List Deferred}

theorem endLoop_run {l : Nat} {lp : Loop} {w : World} (h : w.heap[l]? = some (.loop lp)) (hs : lp.state ≠ .busy) :
    (Instr.endLoop l).run P w = .ok lp.pending { w with heap := w.heap.setIfInBounds l (.loop { lp with state := .exhausted }) } := by
  simp [Instr.endLoop, Instr.getLoop, getObj, setObj, Sem.run, h, hs]

theorem exists_least {p : Nat → Prop} (h : ∃ k, p k) : ∃ k, p k ∧ ∀ j, p j → k ≤ j := by
  obtain ⟨k, hk⟩ := h
  induction k using Nat.strongRecOn with
  | _ k ih =>
    by_cases hq : ∃ j, j < k ∧ p j
    · obtain ⟨j, hj, hp⟩ := hq
      exact ih j hj hp
    · exact ⟨k, hk, fun j hj => Classical.byContradiction fun hlt => hq ⟨j, by omega, hj⟩⟩

theorem range_walk {f : GX} {X : Operand} {ps : List Nat} {A B : Code} {ga gb : GC} (hX : okX G X f = true) (hA : okCode P G nt A ga = true) (hB : okCode P G nt B gb = true) (hps : ∀ t, t ∈ ps → t < nt) (hnd : ps.Nodup)
    (hC : CSound P G C) (hCk : CKeeps C) (hrr : RRel O0 rog ro) (hr0 : st0.ro ≤ st0.heap.length) {O : Own} {w : World} {e : Env} {a : Act} {st : St} (h : CInv P G D O0 w0 st0 nt O w e a st) {m : Nat} {ge : GE} {e' : Env} {st' : St}
    (hrun : run C V n fn rog (.rangeFunc f ps ga gb) e st = some (ge, e', st')) {Q : Exit → Act → World → Prop} (hQ : ∀ a' w' O', CInv P G D O0 w0 st0 nt O' w' e' a' st' → Q (geExit ge) a' w') :
    (Code.rangeFunc X ps.toArray A B).wpIn (FW ro) m P Q a w := by
  have hro : st.ro ≤ st.heap.length := by rw [h.keeps.ro]; exact Nat.le_trans hr0 h.keeps.len
  simp only [run] at hrun
  split at hrun
  · simp at hrun
  · rename_i hla
    have hla : loopAt st rog = true := by simpa using hla
    let l := st.heap.length
    let s0 := st.new (.loop (e.map fun p => (p.1, cp p.2)) ps ga gb fn .ready none)
    have hk0 : Keeps st s0 := .new _ hro
    split at hrun
    · rename_i v1 s1 hcall
      -- the function that is ranged over
      have hf := rd_rel h.env h.inv hX
      unfold callFn at hcall
      split at hcall
      · rename_i k fs cs hfv
        rw [hfv] at hf
        obtain ⟨hent, htri⟩ := hC _ _ _ _ _ hcall
        have hk1 : Keeps s0 s1 := hCk _ _ _ _ _ hcall
        refine wpIn_rangeFunc fun fnm _ => ?_
        obtain ⟨lr, mark, w1, O1, he, hKl, hBl, hinv1, henv1, hs1, hmarks⟩ := enter_loop (fn := fn) (fnm := fnm) h hrr hla hA hB hps hnd
        generalize hXe : a.eval X = xv at hf
        cases hf with
        | @fnc _ _ _ F Cc hF hCc rF rC =>
          have hres : (resolve a.eval (rangeCall X lr) 0).run P w1 = .ok { target := .fn (.func k) Cc, args := F ++ #[.func (.yield lr) #[] #[]] } w1 := by
            have hce : a.eval (.const (.func (.yield lr) #[] #[])) = .func (.yield lr) #[] #[] := rfl
            simp [resolve, rangeCall, hXe, Deferred.ofValue, hce]
          refine ⟨lr, mark, w1, _, w1, k, F ++ #[.func (.yield lr) #[] #[]] ++ Cc, w1, he, hres, fun _ _ => trivial, ?_, fun hq => by simp [FW, Fence.wide] at hq, ?_⟩
          · simp only [invoke]; exact run_callFunc hent _
          · -- the call
            have hinvS : HInv P G (O1.shut isFrame) s0 w1 := hinv1.shut hides_isFrame rfl fun g i hgi => ⟨hgi, by simp [isFrame]⟩
            have hyld : VRel O1.M O1.K (.func (.yield l) [] []) (.func (.yield lr) #[] #[]) := .yld hKl fun _ => rfl
            have hargs : LRel O1.M O1.K (fs ++ [.func (.yield l) [] []] ++ cs) (F ++ #[.func (.yield lr) #[] #[]] ++ Cc) := by
              have hF' : LRel O1.M O1.K fs F := ⟨hF, fun i c v e1 e2 => hs1.vrel (rF i c v e1 e2)⟩
              have hC' : LRel O1.M O1.K cs Cc := ⟨hCc, fun i c v e1 e2 => hs1.vrel (rC i c v e1 e2)⟩
              exact (hF'.append (LRel.cons hyld LRel.nil)).append hC'
            have hcalls := htri (O1.shut isFrame) w1 _ hargs hinvS
            refine callsIn_FW fun cs' => ?_
            obtain ⟨e2, w2, fr, r1, r2, r3, r4⟩ := hcalls cs'
            obtain ⟨x, O2, rfl, hvx, hinv2, hs2⟩ := r1
            refine ⟨.returned x, w2, fr, ?_, r2, r3, r4⟩
            -- behind the call
            have ho : ¬ touch s0.ro s0.heap.length .other := fun q => q.1 rfl
            have s3 := Stp.reopen hides_isFrame ho hs2
            have hinv3 := hinv1.reopen hides_isFrame ho hs2 hinv2
            let O3 := O1.reopen isFrame w1 O2
            have henv3 : EnvRel O3 w2 e a.tmps := henv1.step0 hinv1 s3 (fun t q => by have := q.2; simp [isFrame] at this) (fun t q => by have := q.2; simp [isFrame] at this) (fun t i q => by have := q.2; simp [isFrame] at this)
            obtain ⟨ms, hms, hmarks⟩ := hmarks
            have hmarks3 : Marks st0.heap.length O3 s1 w2 ms := hmarks.step (s3.weak fun t ht => ht.1) hk1.len
            -- the record
            split at hrun
            · rename_i e3 ps3 ga3 gb3 fn3 stt p hgl
              split at hrun
              · simp at hrun
              · rename_i hbusy
                split at hrun
                · rename_i s2 hput
                  simp only [Option.some.injEq, Prod.mk.injEq] at hrun
                  obtain ⟨rfl, rfl, rfl⟩ := hrun
                  obtain ⟨hrol, hs2e⟩ := St.put_some hput
                  obtain ⟨k3, tmps3, A3, B3, d3, g3, fn3', q1, q2, q3, q4, _⟩ := hinv3.obj l _ hgl
                  obtain ⟨k', e1, e2', e3'⟩ := s3.kmap l ⟨lr, 0, 0, 0⟩ hKl
                  have q1' : O2.K l = some k3 := q1
                  have e1 : O2.K l = some k' := e1
                  rw [q1'] at e1
                  simp only [Option.some.injEq] at e1
                  subst e1
                  have := e3' (by rw [q2])
                  subst this
                  have hend := endLoop_run (P := P) q4 (by simpa using hbusy)
                  let w3 : World := { w2 with heap := w2.heap.setIfInBounds lr (.loop { state := .exhausted, pending := p.bind toCode, fn := fn3', tmps := tmps3, params := ps3.toArray, assign := A3, body := B3, defers := d3 }) }
                  have hw : Wrote w2 w3 lr := setObj_wrote
                  have hlt := (List.getElem?_eq_some_iff.1 hgl).1
                  have hinv4 : HInv P G O3 s2 w3 := by
                    rw [hs2e]
                    exact hinv3.write q3 hw (new := .dead) trivial hlt (pp := s1.perms) (fun _ _ hq => hq) fun i _ => by
                      intro ver cs sz b c xs kk y hq
                      rw [List.getElem?_set_self hlt] at hq
                      simp at hq
                  have s4 := hw.stp q3
                  have henv4 : EnvRel O3 w3 e a.tmps := henv3.step0 hinv3 s4 (by simp) (by simp) (by simp)
                  have hk2 : Keeps s1 s2 := .put hput fun _ _ _ _ => trivial
                  have hkall : Keeps st s2 := (hk0.trans hk1).trans hk2
                  have h5 : s1.ro = st.ro := (hk0.trans hk1).ro
                  have h6 : st.ro ≤ l := by rw [← h5]; exact hrol
                  have stp_all : Stp (touch st.ro st.heap.length) O w O3 w3 := by
                    refine ((hs1.weak fun _ q => q.elim).trans (s3.weak fun t ht => ht.1.le (Nat.le_refl _) (by simp [s0, St.new]))).trans (s4.weak fun t ht => ?_)
                    rw [ht]
                    exact ⟨by simp, fun g hg => Tag.heap.inj hg ▸ h6, fun g hg => by cases hg⟩
                  have hmarks4 : Marks st0.heap.length O3 s2 w3 ms := by
                    refine hmarks3.step (s4.weak fun t ht => ?_) hk2.len
                    rw [ht]
                    exact ⟨by simp, fun g hg => Tag.heap.inj hg ▸ hrol, fun g hg => by cases hg⟩
                  have hfin : CInv P G D O0 w0 st0 nt O3 w3 e { a with defers := mark ++ a.defers } s2 :=
                    ⟨henv4, h.size, hinv4, h.stp.trans (stp_all.weak fun t ht => ht.le (by rw [h.keeps.ro]; exact Nat.le_refl _) h.keeps.len), h.keeps.trans hkall, h.nol, ms, hms, hmarks4⟩
                  have hq := hQ { a with defers := mark ++ a.defers } w3 O3 hfin
                  refine ⟨_, w3, hend, ?_⟩
                  cases p with
                  | none => exact hq
                  | some pe =>
                    cases pe with
                    | normal => exact hq
                    | exit i => exact wpIn_exit hq
                    | ret => exact wpIn_ret hq
                · simp at hrun
            · simp at hrun
      · simp at hcall
    · simp at hrun

theorem run_walk (hmix : P.follows .mixedOrders = true) (hC : CSound P G C) (hV : VSound P G V) (hCk : CKeeps C) (hVk : VKeeps V) (hrr : RRel O0 rog ro) (hr0 : st0.ro ≤ st0.heap.length) {m : Nat} :
    ∀ (gc : GC) (c : Code) (O : Own) (w : World) (e : Env) (a : Act) (st : St) (ge : GE) (e' : Env) (st' : St), okCode P G nt c gc = true → CInv P G D O0 w0 st0 nt O w e a st → run C V n fn rog gc e st = some (ge, e', st') →
      ∀ (Q : Exit → Act → World → Prop), (∀ a' w' O', CInv P G D O0 w0 st0 nt O' w' e' a' st' → Q (geExit ge) a' w') → c.wpIn (FW ro) m P Q a w := by
  intro gc
  induction gc with
  | skip =>
    intro c O w e a st ge e' st' hok h hrun Q hQ
    cases c <;> simp only [okCode, Bool.false_eq_true] at hok
    simp only [run, Option.some.injEq, Prod.mk.injEq] at hrun
    obtain ⟨rfl, rfl, rfl⟩ := hrun
    exact wpIn_skip (hQ a w O h)
  | exit i =>
    intro c O w e a st ge e' st' hok h hrun Q hQ
    cases c <;> simp only [okCode, Bool.false_eq_true, beq_iff_eq] at hok
    subst hok
    simp only [run, Option.some.injEq, Prod.mk.injEq] at hrun
    obtain ⟨rfl, rfl, rfl⟩ := hrun
    exact wpIn_exit (hQ a w O h)
  | ret =>
    intro c O w e a st ge e' st' hok h hrun Q hQ
    cases c <;> simp only [okCode, Bool.false_eq_true] at hok
    simp only [run, Option.some.injEq, Prod.mk.injEq] at hrun
    obtain ⟨rfl, rfl, rfl⟩ := hrun
    exact wpIn_ret (hQ a w O h)
  | region gs keep =>
    intro c O w e a st ge e' st' hok h hrun Q hQ
    cases c <;> simp only [okCode, Bool.false_eq_true] at hok
    simp only [run] at hrun
    split at hrun
    · rename_i ef sf hops
      simp only [Option.some.injEq, Prod.mk.injEq] at hrun
      obtain ⟨rfl, rfl, rfl⟩ := hrun
      have hro : st.ro ≤ st.heap.length := by rw [h.keeps.ro]; exact Nat.le_trans hr0 h.keeps.len
      refine region_walk hmix hok hC hV hCk hVk hro (RInv.start h.env h.size h.inv) h.nol hops fun a' w' O' e2 heq hr => ?_
      have hk := (hr.env.congr heq).keep keep
      exact hQ a' w' O' (h.step hk.1 (hr.size.trans h.size.symm) hr.defers hr.inv hk.2 hr.stp hr.keeps)
    · simp at hrun
  | pregion lst gs keep =>
    intro c O w e a st ge e' st' hok h hrun Q hQ
    cases c <;> simp only [okCode, Bool.false_eq_true, Bool.and_eq_true] at hok
    simp only [run] at hrun
    split at hrun
    · rename_i ef sf hops
      simp only [Option.some.injEq, Prod.mk.injEq] at hrun
      obtain ⟨rfl, rfl, rfl⟩ := hrun
      have hro : st.ro ≤ st.heap.length := by rw [h.keeps.ro]; exact Nat.le_trans hr0 h.keeps.len
      refine region_walk hmix hok.1 hC hV hCk hVk hro (RInv.start h.env h.size h.inv) h.nol hops fun a' w' O' e2 heq hr => ?_
      have hk := (hr.env.congr heq).keep keep
      exact hQ a' w' O' (h.step hk.1 (hr.size.trans h.size.symm) hr.defers hr.inv hk.2 hr.stp hr.keeps)
    · simp at hrun
  | seq x y ihx ihy =>
    intro c O w e a st ge e' st' hok h hrun Q hQ
    cases c <;> simp only [okCode, Bool.false_eq_true, Bool.and_eq_true] at hok
    simp only [run] at hrun
    refine wpIn_seq ?_
    split at hrun
    · rename_i e1 s1 h1
      exact ihx _ O w e a st .normal e1 s1 hok.1 h h1 _ fun a' w' O' h' => ihy _ O' w' e1 a' s1 ge e' st' hok.2 h' hrun Q hQ
    · rename_i hne
      refine ihx _ O w e a st ge e' st' hok.1 h hrun _ fun a' w' O' h' => ?_
      cases ge with
      | normal => exact absurd hrun (hne e' st')
      | exit i => exact hQ a' w' O' h'
      | ret => exact hQ a' w' O' h'
  | cond x y z ihy ihz =>
    intro c O w e a st ge e' st' hok h hrun Q hQ
    cases c <;> simp only [okCode, Bool.false_eq_true, Bool.and_eq_true] at hok
    obtain ⟨⟨hx, hy⟩, hz⟩ := hok
    simp only [run] at hrun
    split at hrun
    · rename_i t ht
      have hr := rd_rel h.env h.inv hx
      rw [ht] at hr
      refine wpIn_cond hr.bool_inv ?_
      cases t with
      | true => exact ihy _ O w e a st ge e' st' hy h (by simpa using hrun) Q hQ
      | false => exact ihz _ O w e a st ge e' st' hz h (by simpa using hrun) Q hQ
    · simp at hrun
  | block id b ih =>
    intro c O w e a st ge e' st' hok h hrun Q hQ
    cases c <;> simp only [okCode, Bool.false_eq_true, Bool.and_eq_true, beq_iff_eq] at hok
    obtain ⟨rfl, hb⟩ := hok
    simp only [run] at hrun
    refine wpIn_block ?_
    split at hrun
    · rename_i j e1 s1 h1
      refine ih _ O w e a st (.exit j) e1 s1 hb h h1 _ fun a' w' O' h' => ?_
      simp only [geExit, Exit.inBlock]
      split at hrun
      · rename_i hj
        simp only [Option.some.injEq, Prod.mk.injEq] at hrun
        obtain ⟨rfl, rfl, rfl⟩ := hrun
        rw [if_pos hj]; exact hQ a' w' O' h'
      · rename_i hj
        simp only [Option.some.injEq, Prod.mk.injEq] at hrun
        obtain ⟨rfl, rfl, rfl⟩ := hrun
        rw [if_neg hj]; exact hQ a' w' O' h'
    · rename_i hne
      refine ih _ O w e a st ge e' st' hb h hrun _ fun a' w' O' h' => ?_
      cases ge with
      | normal => exact hQ a' w' O' h'
      | exit i => exact absurd hrun (hne i e' st')
      | ret => exact hQ a' w' O' h'
  | loop keep b ih =>
    intro c O w e a st ge e' st' hok h hrun Q hQ
    cases c <;> simp only [okCode, Bool.false_eq_true] at hok
    simp only [run] at hrun
    let I : Nat → Act → World → Prop := fun k a w => ∃ O e st, loopN (run C V n fn rog b) keep k e st = some (ge, e', st') ∧ CInv P G D O0 w0 st0 nt O w e a st
    have hI : ∃ k, I k a w := ⟨n, O, e, st, hrun, h⟩
    classical
    refine wpIn_loop (fun a w => ∃ k, I k a w) (fun a w => if hx : ∃ k, I k a w then Classical.choose (exists_least hx) else 0) hI fun a w hI => ?_
    have hmin := (Classical.choose_spec (exists_least hI)).1
    obtain ⟨O1, e1, s1, hl, h1⟩ := hmin
    cases hk : Classical.choose (exists_least hI) with
    | zero => rw [hk] at hl; simp [loopN] at hl
    | succ k =>
      rw [hk] at hl
      simp only [loopN] at hl
      have hkeep := h1.env.keep keep
      have h1' : CInv P G D O0 w0 st0 nt O1 w (keepOnly keep e1) a s1 := { h1 with env := hkeep.1, nol := hkeep.2 }
      split at hl
      · rename_i e2 s2 hb
        refine ih _ O1 w _ a s1 .normal e2 s2 hok h1' hb _ fun a' w' O' h' => ?_
        have hI' : ∃ k, I k a' w' := ⟨k, O', e2, s2, hl, h'⟩
        refine ⟨hI', ?_⟩
        simp only [dif_pos hI, dif_pos hI', hk]
        exact Nat.lt_succ_of_le ((Classical.choose_spec (exists_least hI')).2 k ⟨O', e2, s2, hl, h'⟩)
      · rename_i hne
        refine ih _ O1 w _ a s1 ge e' st' hok h1' hl _ fun a' w' O' h' => ?_
        cases ge with
        | normal => exact absurd hl (hne e' st')
        | exit i => exact hQ a' w' O' h'
        | ret => exact hQ a' w' O' h'
  | rangeFunc f ps ga gb iha ihb =>
    intro c O w e a st ge e' st' hok h hrun Q hQ
    cases c <;> simp only [okCode, Bool.false_eq_true, Bool.and_eq_true, beq_iff_eq, decide_eq_true_eq] at hok
    rename_i X qs A B
    obtain ⟨⟨⟨⟨⟨hX, hps⟩, hlt⟩, hnd⟩, hA⟩, hB⟩ := hok
    have hqs : qs = ps.toArray := by rw [← hps]
    subst hqs
    exact range_walk hX hA hB (fun t ht => by simpa using List.all_eq_true.1 hlt t ht) hnd hC hCk hrr hr0 h hrun hQ
end
end Go.Proofs.YtibhcmacccfakaaGreatDoor
namespace Go.Proofs.YtibhcmacccfakaaGreatDoor
variable [Sym]

section
variable {P : Program} {G : Glob} {C : Call} {V : CallV} {O O' O0 : Own} {w w' w0 : World} {st st' st0 : St} {e : Env} {a : Act} {nt : Nat}

/-! ### The end of a function -/
def GObj.isLoop : GObj → Bool
  | .loop .. => true
  | _ => false
theorem noLoops_get : ∀ {l : List GObj}, noLoops l = true → ∀ (i : Nat) (o : GObj), l[i]? = some o → o.isLoop = false
  | [], _, i, o, h => by simp at h
  | x :: r, hn, i, o, h => by
    cases x <;> simp only [noLoops, Bool.false_eq_true] at hn
    all_goals
      cases i with
      | zero => simp at h; subst h; rfl
      | succ i => exact noLoops_get hn i o (by simpa using h)

theorem ObjRel.other_world {g : Nat} {o : GObj} (h : ObjRel P G O w g o) (h1 : ∀ b, O.B b = .heap g → w'.heap[b]? = w.heap[b]?) (h2 : o.isLoop = true → ∀ b g', g' ≤ g → O.B b = .defer g' → w'.heap[b]? = w.heap[b]?) : ObjRel P G O w' g o := by
  cases o with
  | dead => trivial
  | cells ver cs =>
    obtain ⟨k, rc, ty, k1, k2, k3, k4, k5⟩ := h
    exact ⟨k, rc, ty, k1, k2, k3, (h1 _ k3).trans k4, k5⟩
  | map es =>
    obtain ⟨k, res, clock, k1, k2, k3, k4, k5⟩ := h
    exact ⟨k, res, clock, k1, k2, k3, (h1 _ k3).trans k4, k5⟩
  | iter s pos =>
    obtain ⟨k, k1, k2, k3, k4, k5⟩ := h
    exact ⟨k, k1, k2, k3, k4, (h1 _ k4).trans k5⟩
  | miter m since seen last =>
    obtain ⟨k, mr, k1, k2, k3, k4, k5, k6⟩ := h
    exact ⟨k, mr, k1, k2, k3, k4, (h1 _ k4).trans k5, k6⟩
  | loop e ps a b fn s p =>
    obtain ⟨k, tmps, A, Bc, d, g', fn', k1, k2, k3, k4, k5, k6, k7, kn, k8, k9, k10, k11⟩ := h
    exact ⟨k, tmps, A, Bc, d, g', fn', k1, k2, k3, (h1 _ k3).trans k4, k5, k6, k7, kn, k8, k9, k10, (h2 rfl d g' k9 k10).trans k11⟩

/-- The marks are worked off. -/
theorem leaves_marks {fn : Func} {tmps : Array Value} {n : Nat} {R : Ending → World → Prop} {n0 ro0 : Nat} {D : List Deferred} {um : FrameMode} (hum : um ≠ .run) (hloops : ∀ g o, n0 ≤ g → st.heap[g]? = some o → o.isLoop = false)
    (hR : ∀ w', EnvRel O w' e tmps → HInv P G O st w' → Stp (touch ro0 n0) O0 w0 O w' → LeavesInM Fence.wide n P fn tmps R D um w') :
    ∀ (ds : List Deferred) (w : World), EnvRel O w e tmps → HInv P G O st w → Stp (touch ro0 n0) O0 w0 O w → Marks n0 O st w ds → LeavesInM Fence.wide n P fn tmps R (ds ++ D) um w
  | [], w, he, hh, hs, _ => hR w he hh hs
  | d :: ds, w, he, hh, hs, ⟨⟨r, g, h1, h2, h3, h4, h5, h6⟩, h7⟩ => by
    have hw : Wrote w { w with heap := w.heap.setIfInBounds r (.deferred none) } r := setObj_wrote
    have s1 := hw.stp h4
    refine ⟨hum, .inl ⟨r, _, h1, by simp [Instr.takeDeferred, getObj, setObj, Sem.run, h5]; rfl, ?_⟩⟩
    refine leaves_marks hum hloops hR ds _ (he.step0 hh s1 (by simp) (by simp) (by simp)) ?_ (hs.trans (s1.weak fun t ht => ?_)) ?_
    · refine hh.stp s1 (fun g' o hg' => .inr ((hh.obj g' o hg').other_world (fun b hb => hw.other b fun q => ?_) fun hl b g2 hg2 hb => hw.other b fun q => ?_)) (fun g' i hgi => .inl ⟨hgi, rfl, by simp, by simp⟩) (fun b hb o v hm => ?_) (fun b hb => ?_) hh.kdom hh.pdom
      · rw [q, h4] at hb; cases hb
      · rw [q, h4] at hb
        simp only [Tag.defer.injEq] at hb
        rcases Nat.lt_or_ge g' n0 with hlt | hge
        · omega
        · have := hloops g' o hge hg'
          rw [hl] at this; simp at this
      · exfalso
        obtain ⟨_, m2⟩ := hh.mem b o v hm
        rcases hb with hb | hb
        · rw [(hh.fresh b hb).2] at hm; cases hm
        · rw [hb] at m2; rcases m2 with m2 | ⟨l, m2⟩ <;> cases m2
      · rw [hw.size] at hb; exact hh.fresh b hb
    · rw [ht]; exact ⟨by simp, fun g' hq => (by cases hq), fun g' hq => (by simp only [Tag.defer.injEq] at hq; omega)⟩
    · have key : ∀ {es : List Deferred}, (∀ d', d' ∈ es → d'.target ≠ .collected r) → Marks n0 O st w es → Marks n0 O st { w with heap := w.heap.setIfInBounds r (.deferred none) } es := by
        intro es
        induction es with
        | nil => intro _ _; trivial
        | cons d1 es ih =>
          rintro hne ⟨⟨r1, g1, m1, m2, m3, m4, m5, m6⟩, m7⟩
          have hr1 : r1 ≠ r := fun q => hne d1 (by simp) (by rw [m1, q])
          exact ⟨⟨r1, g1, m1, m2, m3, m4, (hw.other r1 hr1).trans m5, m6⟩, ih (fun d' hd' => hne d' (List.mem_cons_of_mem _ hd')) m7⟩
      exact key h6 h7

/-! ### Results -/
def readRes (tmps : Array Value) (r : ResultVar) : Sem Value := match r with
  | .tmp t => pure (tmps.getD t undef)
  | .cell a t => do loadVar t (← asAddr (tmps.getD a undef))
theorem results_eq {fn : Func} {tmps : Array Value} : results fn tmps = (do let vs ← fn.results.mapM (readRes tmps); pure (if h : vs.size = 1 then vs[0] else .tuple vs)) := rfl

theorem readRes_list {tmps : Array Value} (he : EnvRel O w e tmps) (hh : HInv P G O st w) : ∀ {rs : List ResultVar} {qs : List (Nat ⊕ (Nat × Nat × Bool))} {vs : List GV},
    okResults rs qs (fun t n b => sizeIs P t n && aggB P t b && (b || n == 1)) = true → qs.mapM (result e st) = some vs →
      ∃ ys : List Value, (rs.mapM (readRes tmps)).run P w = .ok ys w ∧ LRel O.M O.K vs ys.toArray
  | [], [], vs, _, hv => by
    simp at hv
    subst hv
    exact ⟨[], by simp, LRel.nil⟩
  | [], _ :: _, _, hk, _ => by simp [okResults] at hk
  | r :: _, [], _, hk, _ => by cases r <;> simp [okResults] at hk
  | r :: rs, q :: qs, vs, hk, hv => by
    rw [List.mapM_cons] at hv
    simp only [Option.bind_eq_bind, Option.bind_eq_some_iff, Option.pure_def, Option.some.injEq] at hv
    obtain ⟨v, hv1, vs', hv2, rfl⟩ := hv
    have one : ∀ {y : Value}, (readRes tmps r).run P w = .ok y w → VRel O.M O.K v y → (okResults rs qs (fun t n b => sizeIs P t n && aggB P t b && (b || n == 1)) = true) →
        ∃ ys : List Value, ((r :: rs).mapM (readRes tmps)).run P w = .ok ys w ∧ LRel O.M O.K (v :: vs') ys.toArray := by
      intro y h1 h2 h3
      obtain ⟨ys, h4, h5⟩ := readRes_list he hh h3 hv2
      refine ⟨y :: ys, ?_, by simpa using LRel.cons h2 h5⟩
      rw [List.mapM_cons]
      simp only [Sem.run_bind, h1, Result.andThen_ok, h4, Sem.run_pure]
    cases r with
    | tmp t =>
      cases q with
      | inr q => simp [okResults] at hk
      | inl t' =>
        simp only [okResults, Bool.and_eq_true, beq_iff_eq] at hk
        obtain ⟨ht', hk2⟩ := hk
        subst ht'
        simp only [result, Option.some.injEq] at hv1
        subst hv1
        exact one (y := tmps.getD t undef) (by simp [readRes]) (slot_cp he t) hk2
    | cell at_ ty =>
      cases q with
      | inl t => simp [okResults] at hk
      | inr q =>
        obtain ⟨b, n, ag⟩ := q
        simp only [okResults, Bool.and_eq_true, beq_iff_eq, Bool.or_eq_true] at hk
        obtain ⟨⟨hb, ⟨hs, ha⟩, h1⟩, hk2⟩ := hk
        subst hb
        simp only [result, Option.bind_eq_bind, Option.bind_eq_some_iff] at hv1
        obtain ⟨cs, hcs, hmk⟩ := hv1
        have hA : ARel O e tmps (adr e (.s at_)) (tmps.getD at_ undef) := adr_rel (a := ⟨tmps, []⟩) he hh (X := .tmp at_) (gx := .s at_) (by simp [okX])
        obtain ⟨bb, off, hX, hl, hc⟩ := cellsAt_rel he hh hA hcs
        obtain ⟨y, g1, g2⟩ := run_loadVar (P := P) hs ha hl hc hmk
        exact one (y := y) (by simp only [readRes, hX, asAddr, Sem.run_bind, Sem.run_pure, Result.andThen_ok]; exact g1) g2 hk2

theorem run_map_toArray {α : Type} (x : Sem (List α)) : (List.toArray <$> x).run P w = (x.run P w).andThen fun l w' => .ok l.toArray w' := by simp

def resV : List GV → GV
  | [v] => v
  | vs => .tuple vs

theorem results_rel {fn : Func} {g : GFun} {tmps : Array Value} (he : EnvRel O w e tmps) (hh : HInv P G O st w) (hok : okResults fn.results.toList g.results (fun t n b => sizeIs P t n && aggB P t b && (b || n == 1)) = true) {vs : List GV}
    (hvs : g.results.mapM (result e st) = some vs) : ∃ x, (results fn tmps).run P w = .ok x w ∧ VRel O.M O.K (resV vs) x := by
  obtain ⟨ys, h1, h2⟩ := readRes_list he hh hok hvs
  have hres : (results fn tmps).run P w = .ok (if h : ys.toArray.size = 1 then ys.toArray[0] else .tuple ys.toArray) w := by
    rw [results_eq]
    simp only [Sem.run_bind, Array.mapM_eq_mapM_toList, run_map_toArray, h1, Result.andThen_ok, Sem.run_pure]
  refine ⟨_, hres, ?_⟩
  have hlen : ys.length = vs.length := by have := h2.1; simpa using this
  clear hvs
  match vs, ys, hlen, h2 with
  | [], [], _, h2 => exact .tuple_of h2
  | [v], [y], _, h2 => exact h2.2 0 v y rfl rfl
  | v1 :: v2 :: vs, y1 :: y2 :: ys, _, h2 => simpa [resV] using VRel.tuple_of h2

/-! ### Functions -/
theorem get_argEnv (t : Nat) : ∀ (l : List GV) (i : Nat), get (argEnv i l) t = if i ≤ t then l.getD (t - i) .undef else .undef
  | [], i => by simp [argEnv, get]
  | v :: r, i => by
    simp only [argEnv, get]
    by_cases h : i = t
    · subst h; simp
    · rw [if_neg h, get_argEnv t r (i + 1)]
      by_cases hi : i ≤ t
      · rw [if_pos (by omega), if_pos hi, show t - i = (t - (i + 1)) + 1 by omega]; rfl
      · rw [if_neg (by omega), if_neg hi]

theorem VRel.not_lptr {M : Mem} {K : KMap} {v : GV} {x : Value} (h : VRel M K v x) {r i : Nat} : v ≠ .lptr r i := by
  rintro rfl; cases h

theorem runFun_sound {funs : Nat → Option GFun} (hfuns : ∀ k g, funs k = some g → ∃ fn, P.funcs[k]? = some fn ∧ okFun P G fn g = true) (hmix : P.follows .mixedOrders = true) (hC : CSound P G C) (hV : VSound P G V) (hCk : CKeeps C) (hVk : VKeeps V) (n : Nat) :
    CSound P G (runFun funs C V n) := by
  intro f args st v st' hrun
  unfold runFun at hrun
  split at hrun
  · simp at hrun
  · rename_i g hg
    obtain ⟨fn, hfn, hok⟩ := hfuns f g hg
    simp only [okFun, Bool.and_eq_true, bne_iff_ne, ne_eq, decide_eq_true_eq] at hok
    obtain ⟨⟨⟨hname, hnp⟩, hres⟩, hbody⟩ := hok
    split at hrun
    · rename_i hc
      obtain ⟨hargs, hro⟩ := hc
      cases hfb : fn.body with
      | none => rw [hfb] at hbody; simp at hbody
      | some c =>
        rw [hfb] at hbody
        simp only at hbody
        refine ⟨⟨fn, hfn, by simpa using hname, by simp [hfb]⟩, fun O w xs hxs hh => ?_⟩
        let n0 := st.heap.length
        let stS : St := if g.keepHeap then st else { st with base := n0 }
        have hSheap : stS.heap = st.heap := by simp only [stS]; split <;> rfl
        have hSro : stS.ro = st.ro := by simp only [stS]; split <;> rfl
        have hSperms : stS.perms = st.perms := by simp only [stS]; split <;> rfl
        have hhS : HInv P G O stS w := by
          simp only [stS]
          split
          · exact hh
          · exact { hh with }
        -- the frame
        let tmps := xs ++ Array.replicate (fn.ntmps - xs.size) undef
        have hxl : xs.size = args.length := hxs.1
        have hts : tmps.size = fn.ntmps := by simp [tmps]; omega
        have hgets : ∀ t, VRel O.M O.K (get (argEnv 0 args) t) (tmps.getD t undef) := by
          intro t
          rw [get_argEnv, if_pos (Nat.zero_le _), Nat.sub_zero]
          by_cases ht : t < args.length
          · rw [List.getD_eq_getElem?_getD, List.getElem?_eq_getElem ht]
            have hx : xs[t]? = some (xs[t]'(by omega)) := by simp
            have h1 := hxs.2 t _ _ (List.getElem?_eq_getElem ht) hx
            have h2 : tmps.getD t undef = xs[t]'(by omega) := by
              rw [Array.getD_eq_getD_getElem?, Array.getElem?_append, if_pos (by omega), hx]; rfl
            rw [h2]; exact h1
          · rw [List.getD_eq_getElem?_getD, List.getElem?_eq_none (by omega)]
            exact .undef _
        have henv : EnvRel O w (argEnv 0 args) tmps := ⟨fun t => (hgets t).slot, fun t s o cs h1 _ => absurd h1 (hgets t).not_lptr⟩
        have hci : CInv P G [] O w stS fn.ntmps O w (argEnv 0 args) { tmps := tmps, defers := [] } stS :=
          ⟨henv, hts, hhS, .refl _ _ _, .refl _, fun t r i => (hgets t).not_lptr, [], rfl, trivial⟩
        have hroS : stS.ro ≤ stS.heap.length := by rw [hSro, hSheap]; exact hro
        -- the end
        have fin : ∀ {e : Env} {s : St}, finish g n0 st.base e s = some (v, st') → ∀ (a' : Act) (w' : World) (O' : Own), CInv P G [] O w stS fn.ntmps O' w' e a' s →
            LeavesInM Fence.wide 0 P fn a'.tmps (Post P G st st' v O w) a'.defers .returning w' := by
          intro e s hfin a' w' O' h
          simp only [finish, Option.bind_eq_bind, Option.bind_eq_some_iff] at hfin
          obtain ⟨vs, hvs, hfin⟩ := hfin
          split at hfin
          · simp at hfin
          · rename_i hnl
            have hnl : noLoops (s.heap.drop n0) = true := by simpa using hnl
            obtain ⟨ms, hms, hmarks⟩ := h.marks
            rw [List.append_nil] at hms
            rw [hms, ← List.append_nil ms]
            have hstp := h.stp
            rw [hSheap] at hmarks
            rw [hSro, hSheap] at hstp
            refine leaves_marks (st := s) (e := e) (ro0 := st.ro) (n0 := n0) (O0 := O) (w0 := w) (D := []) (by simp) (fun gi o hgi ho => ?_) (fun w2 he2 hh2 hs2 => ?_) ms w' h.env h.inv hstp hmarks
            · refine noLoops_get hnl (gi - n0) o ?_
              rw [List.getElem?_drop, show n0 + (gi - n0) = gi by omega]; exact ho
            · obtain ⟨x, hx, hvx⟩ := results_rel he2 hh2 hres hvs
              refine ⟨x, hx, ?_⟩
              split at hfin
              · rename_i hkeep
                simp only [Option.some.injEq, Prod.mk.injEq] at hfin
                obtain ⟨h1, rfl⟩ := hfin
                refine ⟨x, O', rfl, ?_, hh2, hs2⟩
                rw [← h1]; exact hvx
              · rename_i hkeep
                simp only [Option.bind_eq_some_iff, Option.some.injEq, Prod.mk.injEq] at hfin
                obtain ⟨v2, hseal, rfl, rfl⟩ := hfin
                have hseal' : sealV n0 s 12 (resV vs) = some v2 := hseal
                have hlow : Low n0 s := by
                  have hb : stS.base = n0 := by simp only [stS]; rw [if_neg hkeep]
                  refine h.keeps.low n0 (by rw [hb]; exact Nat.le_refl _) (by rw [hSheap]; exact Nat.le_refl _) ?_
                  have := hhS.low
                  rw [hSheap] at this; exact this
                refine ⟨x, O'.close n0 w2, rfl, seal_rel hh2 12 _ _ x hseal' hvx, ?_, ?_⟩
                · exact hh2.close hlow rfl fun g' i hgi => by
                    have := List.mem_filter.1 hgi
                    exact ⟨this.1, by simpa using this.2⟩
                · refine hs2.close hh2 (fun t ht => ?_) fun g' hg' => hh.kdom g' hg'
                  cases t with
                  | heap g' => simp only [above, decide_eq_true_eq] at ht; exact ⟨by simp, fun g2 hq => (by simp only [Tag.heap.injEq] at hq; omega), fun g2 hq => (by cases hq)⟩
                  | defer g' => simp only [above, decide_eq_true_eq] at ht; exact ⟨by simp, fun g2 hq => (by cases hq), fun g2 hq => (by simp only [Tag.defer.injEq] at hq; omega)⟩
                  | perm l => exact ⟨by simp, fun g2 hq => (by cases hq), fun g2 hq => (by cases hq)⟩
                  | _ => simp [above] at ht
        refine callsIn_wide.1 (callsIn_of_wp_marks (n := 0) hfn hfb trivial ?_)
        have hrr : RRel O none none := .inl ⟨rfl, rfl⟩
        split at hrun
        · rename_i e1 s1 h1
          exact run_walk hmix hC hV hCk hVk hrr hroS g.body c O w _ _ stS .normal e1 s1 hbody hci h1 _ fun a' w' O' h => fin hrun a' w' O' h
        · rename_i e1 s1 h1
          exact run_walk hmix hC hV hCk hVk hrr hroS g.body c O w _ _ stS .ret e1 s1 hbody hci h1 _ fun a' w' O' h => fin hrun a' w' O' h
        · simp at hrun
    · simp at hrun
end
end Go.Proofs.YtibhcmacccfakaaGreatDoor
namespace Go.Proofs.YtibhcmacccfakaaGreatDoor
variable [Sym]

section
variable {P : Program} {G : Glob} {C : Call} {V : CallV} {O O' O0 : Own} {w w' w0 : World} {st st' st0 : St} {e : Env} {a : Act} {nt : Nat}

theorem get_zip : ∀ {ps : List Nat} {as : List GV} {e : Env} {t : Nat}, as.length = ps.length → ps.Nodup →
    (∃ (i : Nat) (v : GV), ps[i]? = some t ∧ as[i]? = some v ∧ get (ps.zip as ++ e) t = v) ∨ (t ∉ ps ∧ get (ps.zip as ++ e) t = get e t)
  | [], [], e, t, _, _ => .inr ⟨by simp, rfl⟩
  | [], _ :: _, _, _, h, _ => by simp at h
  | _ :: _, [], _, _, h, _ => by simp at h
  | p :: ps, a :: as, e, t, h, hn => by
    simp only [List.zip_cons_cons, List.cons_append, get]
    by_cases hp : p = t
    · rw [if_pos hp]; exact .inl ⟨0, a, by simp [hp], rfl, rfl⟩
    · rw [if_neg hp]
      rcases get_zip (e := e) (t := t) (by simpa using h) (List.nodup_cons.1 hn).2 with ⟨i, v, h1, h2, h3⟩ | ⟨h1, h2⟩
      · exact .inl ⟨i + 1, v, by simpa using h1, by simpa using h2, h3⟩
      · exact .inr ⟨by simp [h1, Ne.symm hp], h2⟩

theorem fold_size : ∀ (l : List (Tmp × Value)) (tmps : Array Value), (l.foldl (fun tmps (p : Tmp × Value) => tmps.setIfInBounds p.1 p.2) tmps).size = tmps.size
  | [], _ => rfl
  | p :: l, tmps => by simp only [List.foldl_cons]; rw [fold_size l]; simp
theorem fold_other : ∀ (l : List (Tmp × Value)) (tmps : Array Value) (t : Nat), (∀ p, p ∈ l → p.1 ≠ t) → (l.foldl (fun tmps (p : Tmp × Value) => tmps.setIfInBounds p.1 p.2) tmps)[t]? = tmps[t]?
  | [], _, _, _ => rfl
  | p :: l, tmps, t, h => by
    simp only [List.foldl_cons]
    rw [fold_other l _ t fun q hq => h q (List.mem_cons_of_mem _ hq), Array.getElem?_setIfInBounds, if_neg (h p (by simp))]
theorem fold_at : ∀ (ps : List Nat) (xs : List Value) (tmps : Array Value) (i t : Nat) (v : Value), ps.Nodup → xs.length = ps.length → (∀ p, p ∈ ps → p < tmps.size) → ps[i]? = some t → xs[i]? = some v →
    ((ps.zip xs).foldl (fun tmps (p : Tmp × Value) => tmps.setIfInBounds p.1 p.2) tmps)[t]? = some v
  | [], _, _, i, _, _, _, _, _, h, _ => by simp at h
  | _ :: _, [], _, _, _, _, _, h, _, _, _ => by simp at h
  | p :: ps, x :: xs, tmps, i, t, v, hn, hl, hlt, h1, h2 => by
    simp only [List.zip_cons_cons, List.foldl_cons]
    obtain ⟨hp, hn⟩ := List.nodup_cons.1 hn
    cases i with
    | zero =>
      simp only [List.getElem?_cons_zero, Option.some.injEq] at h1 h2
      subst h1 h2
      rw [fold_other _ _ p fun q hq hqp => hp (by rw [← hqp]; exact (List.of_mem_zip hq).1)]
      rw [Array.getElem?_setIfInBounds, if_pos rfl, if_pos (hlt p (by simp))]
    | succ i =>
      exact fold_at ps xs _ i t v hn (by simpa using hl) (fun q hq => by simpa using hlt q (List.mem_cons_of_mem _ hq)) (by simpa using h1) (by simpa using h2)

theorem geExit_pending (ge : GE) (w : World) {r : Nat} {R : Ending → World → Prop} {a : Act} {lp : Loop} (hr : w.heap[r]? = some (.loop lp))
    (hR : R (.returned (.bool (decide (ge = .normal)))) { w with heap := w.heap.setIfInBounds r (.loop { lp with state := if ge = .normal then .ready else .done, pending := (if ge = .normal then none else some ge).bind toCode }) }) :
    roundPost P r R (geExit ge) a w := by
  cases ge with
  | normal =>
    refine ⟨.bool true, _, ?_, by simpa using hR⟩
    simp [Instr.endRound, Instr.getLoop, getObj, setObj, Sem.run, hr]
  | exit i =>
    refine ⟨.bool false, _, ?_, by simpa [toCode] using hR⟩
    simp [Instr.endRound, Instr.getLoop, getObj, setObj, Sem.run, hr]
  | ret =>
    refine ⟨.bool false, _, ?_, by simpa [toCode] using hR⟩
    simp [Instr.endRound, Instr.getLoop, getObj, setObj, Sem.run, hr]

theorem runVal_sound {C' : Call} {n : Nat} (hmix : P.follows .mixedOrders = true) (hC' : CSound P G C') (hC : CSound P G C) (hV : VSound P G V) (hCk : CKeeps C) (hVk : VKeeps V) :
    VSound P G (runVal C' fun fn l c e st => run C V n fn (some l) c e st) := by
  intro f args st v st' hrun O w X xs hX hxs hh
  unfold runVal at hrun
  split at hrun
  · rename_i k fs cs
    obtain ⟨hent, htri⟩ := hC' _ _ _ _ _ hrun
    cases hX with
    | @fnc _ _ _ F Cc hF hCc rF rC =>
      have hF' : LRel O.M O.K fs F := ⟨hF, rF⟩
      have hCc' : LRel O.M O.K cs Cc := ⟨hCc, rC⟩
      exact .inl ⟨k, F, Cc, rfl, hent, htri O w _ ((hF'.append hxs).append hCc') hh⟩
  · rename_i l fa fb
    cases hX with
    | @yld _ r k hk hr =>
      split at hrun
      · rename_i e0 ps ga gb fn p hgl
        obtain ⟨k1, tmps, A, Bc, d, g', fn', q1, q2, q3, q4, q5, q6, q7, qn, q8, _⟩ := hh.obj l _ hgl
        rw [q1] at hk
        simp only [Option.some.injEq] at hk; subst hk
        have hr := hr q2
        subst hr
        split at hrun
        · rename_i hc
          obtain ⟨hlen, hro⟩ := hc
          refine .inr ⟨k1.b, _, rfl, q4, by simp [hxs.1, hlen], fun m => ?_⟩
          -- the round's frame
          let tm := (ps.zip xs.toList).foldl (fun tmps (p : Tmp × Value) => tmps.setIfInBounds p.1 p.2) tmps
          have htm : ((ps.toArray.zip xs).foldl (fun tmps (p : Tmp × Value) => tmps.setIfInBounds p.1 p.2) tmps) = tm := by
            rw [← Array.foldl_toList]; simp [tm]
          have hts : tm.size = tmps.size := fold_size _ _
          have hgets : ∀ t, VRel O.M O.K (get (ps.zip args ++ e0) t) (tm.getD t undef) := by
            intro t
            rcases get_zip (e := e0) (t := t) hlen qn with ⟨i, v, h1, h2, h3⟩ | ⟨h1, h2⟩
            · rw [h3]
              have hi := (List.getElem?_eq_some_iff.1 h2).1
              have hx : xs[i]? = some (xs[i]'(by rw [hxs.1]; exact hi)) := by simp
              have h4 := fold_at ps xs.toList tmps i t _ qn (by simp [hxs.1, hlen]) q7 h1 ((Array.getElem?_toList (xs := xs) (i := i)).trans hx)
              rw [Array.getD_eq_getD_getElem?, h4]
              exact hxs.2 i v _ h2 hx
            · rw [h2]
              have h4 : tm[t]? = tmps[t]? := fold_other _ _ t fun q hq hqt => h1 (by rw [← hqt]; exact (List.of_mem_zip hq).1)
              rw [Array.getD_eq_getD_getElem?, h4, ← Array.getD_eq_getD_getElem?]
              exact q8 t
          have henv : EnvRel O w (ps.zip args ++ e0) tm := ⟨fun t => (hgets t).slot, fun t s o cs h1 _ => absurd h1 (hgets t).not_lptr⟩
          have hci : CInv P G [] O w st tmps.size O w (ps.zip args ++ e0) { tmps := tm, defers := [] } st := ⟨henv, hts, hh, .refl _ _ _, .refl _, fun t r i => (hgets t).not_lptr, [], rfl, trivial⟩
          have hrr : RRel O (some l) (some k1.b) := .inr ⟨l, k1, rfl, rfl, q1, q2⟩
          split at hrun
          · rename_i e1 s1 h1
            split at hrun
            · rename_i e2 ps2 ga2 gb2 fn2 p2 hgl2
              split at hrun
              · rename_i s2 hput
                split at hrun
                · rename_i ge e3 s3 h3
                  split at hrun
                  · rename_i e4 ps4 ga4 gb4 fn4 p4 hgl4
                    split at hrun
                    · rename_i s4 hput4
                      simp only [Option.some.injEq, Prod.mk.injEq] at hrun
                      obtain ⟨rfl, rfl⟩ := hrun
                      refine roundIn_of_wpIn trivial ?_
                      rw [htm]
                      refine run_walk hmix hC hV hCk hVk hrr hro ga A O w _ _ st .normal e1 s1 q5 hci h1 _ fun a1 w1 O1 hc1 => ?_
                      -- the record, busy
                      obtain ⟨k2, tmps2, A2, B2, d2, g2, fn2', r1, r2, r3, r4, r5, r6, r7, rn, r8, r9, r10, r11⟩ := hc1.inv.obj l _ hgl2
                      obtain ⟨k2', y1, y2, y3⟩ := hc1.stp.kmap l k1 q1
                      rw [r1] at y1
                      simp only [Option.some.injEq] at y1; subst y1
                      have := y3 (by rw [r2, q2])
                      subst this
                      have hbeg : (Instr.beginRound k2.b).run P w1 = .ok () { w1 with heap := w1.heap.setIfInBounds k2.b (.loop { state := .busy, pending := p2.bind toCode, fn := fn2', tmps := tmps2, params := ps2.toArray, assign := A2, body := B2, defers := d2 }) } := by
                        simp [Instr.beginRound, Instr.getLoop, getObj, setObj, Sem.run, r4]
                      refine ⟨_, hbeg, ?_⟩
                      generalize hw2 : ({ w1 with heap := w1.heap.setIfInBounds k2.b (.loop { state := .busy, pending := p2.bind toCode, fn := fn2', tmps := tmps2, params := ps2.toArray, assign := A2, body := B2, defers := d2 }) } : World) = w2
                      have hwr : Wrote w1 w2 k2.b := by rw [← hw2]; exact setObj_wrote
                      obtain ⟨hrol, hs2⟩ := St.put_some hput
                      have hlt := (List.getElem?_eq_some_iff.1 hgl2).1
                      have hd2 : d2 ≠ k2.b := fun q => by rw [q, r3] at r10; cases r10
                      have hobj2 : ObjRel P G O1 w2 l (.loop e2 ps2 ga2 gb2 fn2 .busy p2) :=
                        ⟨k2, tmps2, A2, B2, d2, g2, fn2', r1, r2, r3, by rw [← hw2]; simp [lt_of_heap r4], r5, r6, r7, rn, r8, r9, r10, (hwr.other d2 hd2).trans r11⟩
                      have hinv2 : HInv P G O1 s2 w2 := by
                        rw [hs2]
                        exact hc1.inv.write r3 hwr hobj2 hlt (pp := s1.perms) (fun _ _ hq => hq) fun i _ => by
                          intro ver cs sz b c xs kk y hq
                          rw [List.getElem?_set_self hlt] at hq
                          simp at hq
                      have s5 := hwr.stp r3
                      have hk2 : Keeps s1 s2 := .put hput fun n0 _ hg hl => by
                        have := hl _ _ hg hgl2
                        exact this
                      have hci2 : CInv P G [] O w st tmps.size O1 w2 e1 a1 s2 := by
                        refine hc1.step (hc1.env.step0 hc1.inv s5 (by simp) (by simp) (by simp)) rfl rfl hinv2 hc1.nol (s5.weak fun t ht => ?_) hk2
                        rw [ht]; exact ⟨by simp, fun g hg => Tag.heap.inj hg ▸ hrol, fun g hg => by cases hg⟩
                      have hrb : RRel O (some l) (some k2.b) := hrr
                      refine run_walk hmix hC hV hCk hVk hrb hro gb Bc O1 w2 e1 a1 s2 ge e3 s3 q6 hci2 h3 _ fun a3 w3 O3 hc3 => ?_
                      -- the record, at the round's end
                      obtain ⟨k3, tmps3, A3, B3, d3, g3, fn3', t1, t2, t3, t4, t5, t6, t7, tn, t8, t9, t10, t11⟩ := hc3.inv.obj l _ hgl4
                      obtain ⟨k3', z1, z2, z3⟩ := hc3.stp.kmap l k2 q1
                      rw [t1] at z1
                      simp only [Option.some.injEq] at z1; subst z1
                      have := z3 (by rw [t2, q2])
                      subst this
                      refine geExit_pending ge w3 t4 ?_
                      generalize hw4 : ({ w3 with heap := w3.heap.setIfInBounds k3.b (.loop { state := if ge = .normal then .ready else .done, pending := (if ge = .normal then none else some ge).bind toCode, fn := fn3', tmps := tmps3, params := ps4.toArray, assign := A3, body := B3, defers := d3 }) } : World) = w4
                      have hwr4 : Wrote w3 w4 k3.b := by rw [← hw4]; exact setObj_wrote
                      obtain ⟨hrol4, hs4⟩ := St.put_some hput4
                      have hlt4 := (List.getElem?_eq_some_iff.1 hgl4).1
                      have hd3 : d3 ≠ k3.b := fun q => by rw [q, t3] at t10; cases t10
                      have hobj4 : ObjRel P G O3 w4 l (.loop e4 ps4 ga4 gb4 fn4 (if ge = .normal then .ready else .done) (if ge = .normal then none else some ge)) :=
                        ⟨k3, tmps3, A3, B3, d3, g3, fn3', t1, t2, t3, by rw [← hw4]; simp [lt_of_heap t4], t5, t6, t7, tn, t8, t9, t10, (hwr4.other d3 hd3).trans t11⟩
                      have hinv4 : HInv P G O3 s4 w4 := by
                        rw [hs4]
                        exact hc3.inv.write t3 hwr4 hobj4 hlt4 (pp := s3.perms) (fun _ _ hq => hq) fun i _ => by
                          intro ver cs sz b c xs kk y hq
                          rw [List.getElem?_set_self hlt4] at hq
                          simp at hq
                      have s6 := hwr4.stp t3
                      have hk4 : Keeps s3 s4 := .put hput4 fun n0 _ hg hl => by
                        have := hl _ _ hg hgl4
                        exact this
                      refine ⟨.bool (decide (ge = .normal)), O3, rfl, .bool _, hinv4, hc3.stp.trans (s6.weak fun t ht => ?_)⟩
                      rw [ht]; exact ⟨by simp, fun g hg => Tag.heap.inj hg ▸ (by rw [← hc3.keeps.ro]; exact hrol4), fun g hg => by cases hg⟩
                    · simp at hrun
                  · simp at hrun
                · simp at hrun
              · simp at hrun
            · simp at hrun
          · simp at hrun
        · simp at hrun
      · simp at hrun
  · simp at hrun

/-- **The evaluator is sound.** -/
theorem ev_sound {funs : Nat → Option GFun} (hfuns : ∀ k g, funs k = some g → ∃ fn, P.funcs[k]? = some fn ∧ okFun P G fn g = true) (hmix : P.follows .mixedOrders = true) {orc : Call} (ho : CSound P G orc) (hok : CKeeps orc) :
    ∀ n, CSound P G (evF funs orc n).1 ∧ VSound P G (evF funs orc n).2
  | 0 => ⟨ho, fun f args st v st' h => by simp [evF] at h⟩
  | n + 1 => by
    obtain ⟨h1, h2⟩ := ev_sound hfuns hmix ho hok n
    obtain ⟨k1, k2⟩ := ev_keeps funs hok n
    refine ⟨fun f args st v st' h => ?_, fun f args st v st' h => ?_⟩
    · simp only [evF] at h
      split at h
      · rename_i r hr
        simp only [Option.some.injEq] at h
        subst h
        exact ho _ _ _ _ _ hr
      · exact runFun_sound hfuns hmix h1 h2 k1 k2 n _ _ _ _ _ h
    · simp only [evF] at h
      exact runVal_sound hmix h1 h1 h2 k1 k2 _ _ _ _ _ h
end
end Go.Proofs.YtibhcmacccfakaaGreatDoor
namespace Go.Proofs.YtibhcmacccfakaaGreatDoor

mutual
def same : GV → GV → Bool
  | .bool a, .bool b => a == b
  | .int k a, .int j b => decide (k = j) && decide (a = b)
  | .str a, .str b => decide (a = b)
  | .nilptr, .nilptr => true
  | .nilmap, .nilmap => true
  | .nilfunc, .nilfunc => true
  | .niliface, .niliface => true
  | .sym i, .sym j => decide (i = j)
  | .sl z b c xs, .sl z' b' c' xs' => decide (z = z') && b == b' && decide (c = c') && sameLL xs xs'
  | .agg a, .agg b => sameL a b
  | .tuple a, .tuple b => sameL a b
  | _, _ => false
def sameL : List GV → List GV → Bool
  | [], [] => true
  | a :: r, b :: q => same a b && sameL r q
  | _, _ => false
def sameLL : List (List GV) → List (List GV) → Bool
  | [], [] => true
  | a :: r, b :: q => sameL a b && sameLL r q
  | _, _ => false
end

mutual
theorem same_eq : ∀ (a b : GV), same a b = true → a = b
  | .bool a, b, h => by cases b <;> simp_all [same]
  | .int k a, b, h => by cases b <;> simp_all [same]
  | .str a, b, h => by cases b <;> simp_all [same]
  | .nilptr, b, h => by cases b <;> simp_all [same]
  | .nilmap, b, h => by cases b <;> simp_all [same]
  | .nilfunc, b, h => by cases b <;> simp_all [same]
  | .niliface, b, h => by cases b <;> simp_all [same]
  | .sym i, b, h => by cases b <;> simp_all [same]
  | .sl z c d xs, b, h => by
    cases b <;> simp only [same, Bool.false_eq_true, Bool.and_eq_true, decide_eq_true_eq, beq_iff_eq] at h
    obtain ⟨⟨⟨rfl, rfl⟩, rfl⟩, h⟩ := h
    rw [sameLL_eq xs _ h]
  | .agg a, b, h => by
    cases b <;> simp only [same, Bool.false_eq_true] at h
    rw [sameL_eq a _ h]
  | .tuple a, b, h => by
    cases b <;> simp only [same, Bool.false_eq_true] at h
    rw [sameL_eq a _ h]
  | .undef, b, h => by cases b <;> simp [same] at h
  | .ptr .., b, h => by cases b <;> simp [same] at h
  | .eptr _, b, h => by cases b <;> simp [same] at h
  | .lptr .., b, h => by cases b <;> simp [same] at h
  | .msl .., b, h => by cases b <;> simp [same] at h
  | .map _, b, h => by cases b <;> simp [same] at h
  | .func .., b, h => by cases b <;> simp [same] at h
  | .iface .., b, h => by cases b <;> simp [same] at h
  | .box _, b, h => by cases b <;> simp [same] at h
theorem sameL_eq : ∀ (a b : List GV), sameL a b = true → a = b
  | [], b, h => by cases b <;> simp_all [sameL]
  | x :: r, b, h => by
    cases b with
    | nil => simp [sameL] at h
    | cons y q =>
      simp only [sameL, Bool.and_eq_true] at h
      rw [same_eq x y h.1, sameL_eq r q h.2]
theorem sameLL_eq : ∀ (a b : List (List GV)), sameLL a b = true → a = b
  | [], b, h => by cases b <;> simp_all [sameLL]
  | x :: r, b, h => by
    cases b with
    | nil => simp [sameLL] at h
    | cons y q =>
      simp only [sameLL, Bool.and_eq_true] at h
      rw [sameL_eq x y h.1, sameLL_eq r q h.2]
end

/-- The empty ghost heap. -/
def z0 : St := { heap := [], ro := 0, base := 0, perms := [] }

/-- What is answered already. -/
def orcOf (L : List (Nat × List GV × GV)) : Call := fun f args st => match L.find? (fun q => q.1 == f && sameL q.2.1 args) with
  | some q => some (q.2.2, st)
  | none => none

/-- A run over the empty ghost heap that comes to r and to an empty ghost heap. -/
def okRun [Tab] (funs : Nat → Option GFun) (L : List (Nat × List GV × GV)) (n f : Nat) (args : List GV) (r : GV) : Bool := refsLtL 0 args && refsLt 0 r && match (evF funs (orcOf L) n).1 f args z0 with
  | some (v, st) => same v r && st.heap.isEmpty
  | none => false

section
variable [Sym] {P : Program} {G : Glob}

theorem VRel.noRefs {M M' : Mem} {K K' : KMap} {v : GV} {x : Value} (h : VRel M K v x) (hM : MLe M M') (hv : refsLt 0 v = true) : VRel M' K' v x :=
  h.mono' hM (fun g hg => absurd hg (Nat.not_lt_zero g)) hv

theorem Tri.frame {f : FuncId} {args : List GV} {v : GV} {z1 : St} (h : Tri P G f args z0 v z1) (ha : refsLtL 0 args = true) (hv : refsLt 0 v = true) (st : St) : Tri P G f args st v st := by
  refine ⟨h.1, fun O w xs hxs hh => ?_⟩
  let O1 : Own := ⟨O.M, fun _ => none, fun _ => .other⟩
  have hinv1 : HInv P G O1 z0 w := {
    obj := fun g o hg => by simp [z0] at hg
    perm := fun g i hg => by simp [z0] at hg
    mem := fun b o v hm => ⟨(hh.mem b o v hm).1, .inl rfl⟩
    fresh := fun b hb => ⟨rfl, (hh.fresh b hb).2⟩
    glob := hh.glob
    kdom := fun _ _ => rfl
    pdom := fun g i hg => by simp [z0] at hg }
  have hargs : LRel O1.M O1.K args xs := ⟨hxs.1, fun i c y e1 e2 => (hxs.2 i c y e1 e2).noRefs (.refl _) (refsLtL_get ha e1)⟩
  intro cs
  obtain ⟨e2, w2, fr, hp, r2, r3, r4⟩ := h.2 O1 w xs hargs hinv1 cs
  refine ⟨e2, w2, fr, ?_, r2, r3, r4⟩
  obtain ⟨x, O', rfl, hvx, hinv', hs⟩ := hp
  have hsame : ∀ b, b < w.heap.size → w2.heap[b]? = w.heap[b]? ∧ O'.B b = .other ∧ ∀ o, O'.M b o = O.M b o := fun b hb => hs.same b hb fun q => q.1 rfl
  let O2 : Own := ⟨O'.M, O.K, fun b => if b < w.heap.size then O.B b else .other⟩
  have hs2 : Stp (fun _ => False) O w O2 w2 := {
    mem := hs.mem
    kmap := .refl _
    size := hs.size
    os := hs.os
    tape := hs.tape
    output := hs.output
    same := fun b hb _ => ⟨(hsame b hb).1, by simp only [O2]; rw [if_pos hb], (hsame b hb).2.2⟩
    ksame := fun g k hk _ _ _ => hk }
  refine ⟨x, O2, rfl, hvx.noRefs (.refl _) hv, ?_, hs2.weak fun _ q => q.elim⟩
  refine hh.stp hs2 (fun g o hg => .inl ⟨hg, id, fun _ _ => id⟩) (fun g i hg => .inl ⟨hg, rfl, id, id⟩) (fun b hb o v hm => ?_) (fun b hb => ?_) hh.kdom hh.pdom
  · have hb : w.heap.size ≤ b := hb.resolve_right id
    exact ⟨(hinv'.mem b o v hm).1, .inl (by simp only [O2]; rw [if_neg (by omega)])⟩
  · have := hs.size
    exact ⟨by simp only [O2]; rw [if_neg (by omega)], (hinv'.fresh b hb).2⟩

def Known (P : Program) (G : Glob) (L : List (Nat × List GV × GV)) : Prop := ∀ q, q ∈ L → ∀ st, Tri P G q.1 q.2.1 st q.2.2 st

theorem orc_sound {L : List (Nat × List GV × GV)} (h : Known P G L) : CSound P G (orcOf L) ∧ CKeeps (orcOf L) := by
  refine ⟨fun f args st v st' hr => ?_, fun f args st v st' hr => ?_⟩
  · unfold orcOf at hr
    split at hr
    · rename_i q hq
      simp only [Option.some.injEq, Prod.mk.injEq] at hr
      obtain ⟨rfl, rfl⟩ := hr
      have h1 := List.find?_some hq
      simp only [Bool.and_eq_true, beq_iff_eq] at h1
      obtain ⟨rfl, h2⟩ := h1
      have := h q (List.mem_of_find?_eq_some hq) st
      rw [← sameL_eq _ _ h2]; exact this
    · simp at hr
  · unfold orcOf at hr
    split at hr
    · simp only [Option.some.injEq, Prod.mk.injEq] at hr
      rw [← hr.2]; exact .refl _
    · simp at hr

/-- A run that the kernel has carried out. -/
theorem tri_of_run {funs : Nat → Option GFun} (hfuns : ∀ k g, funs k = some g → ∃ fn, P.funcs[k]? = some fn ∧ okFun P G fn g = true) (hmix : P.follows .mixedOrders = true) {L : List (Nat × List GV × GV)} (hL : Known P G L) {n f : Nat} {args : List GV} {r : GV}
    (h : okRun funs L n f args r = true) : ∀ st, Tri P G f args st r st := by
  simp only [okRun, Bool.and_eq_true] at h
  obtain ⟨⟨h1, h2⟩, h3⟩ := h
  obtain ⟨ho, hk⟩ := orc_sound hL
  split at h3
  · rename_i v st hev
    simp only [Bool.and_eq_true] at h3
    have hv := same_eq _ _ h3.1
    subst hv
    exact fun st' => ((ev_sound hfuns hmix ho hk n).1 _ _ _ _ _ hev).frame h1 h2 st'
  · simp at h3

/-- **A function that was run, called in any world**: it returns what the run says, and the world has new blocks at most. -/
theorem calls_of_tri {f : FuncId} {args : List GV} {r : GV} (h : ∀ st, Tri P G f args st r st) {w : World} {xs : Array Value} (hargs : ∀ (M : Mem) (K : KMap), LRel M K args xs)
    (hg : ∀ g vs, G g = some vs → ∀ (i : Nat) (v : Value), vs[i]? = some v → w.cell? ⟨g, i, none⟩ = some v) :
    Calls P f xs w fun e w' => (∃ x, e = .returned x ∧ ∃ M K, VRel M K r x) ∧ RowKit.Below w.heap.size w w' := by
  let O : Own := ⟨fun b o => w.cell? ⟨b, o, none⟩, fun _ => none, fun _ => .other⟩
  have hinv : HInv P G O z0 w := {
    obj := fun g o hg => by simp [z0] at hg
    perm := fun g i hg => by simp [z0] at hg
    mem := fun b o v hm => ⟨hm, .inl rfl⟩
    fresh := fun b hb => ⟨rfl, fun o => by simp only [O, World.cell?]; rw [Array.getElem?_eq_none hb]⟩
    glob := hg
    kdom := fun _ _ => rfl
    pdom := fun g i hg => by simp [z0] at hg }
  intro cs
  obtain ⟨e2, w2, fr, hp, r2, r3, r4⟩ := (h z0).2 O w xs (hargs _ _) hinv cs
  refine ⟨e2, w2, fr, ?_, r2, r3, r4⟩
  obtain ⟨x, O', rfl, hvx, _, hs⟩ := hp
  exact ⟨⟨x, rfl, _, _, hvx⟩, ⟨hs.os, hs.tape, hs.output, hs.size, fun k hk => (hs.same k hk fun q => q.1 rfl).1⟩⟩
end
end Go.Proofs.YtibhcmacccfakaaGreatDoor
