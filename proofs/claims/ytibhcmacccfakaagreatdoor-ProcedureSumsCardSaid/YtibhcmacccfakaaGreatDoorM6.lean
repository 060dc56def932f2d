/- Operations with effects are sound. -/
import Derived.Test.YtibhcmacccfakaaGreatDoorM5
import Derived.Laws.Append
import Derived.Test.YtibhcmacccfakaaGreatDoorM4
set_option linter.unusedSectionVars false
set_option linter.unusedVariables false
set_option linter.unusedSimpArgs false
namespace Go.Proofs.YtibhcmacccfakaaGreatDoor
variable [Sym]

section
variable {P : Program} {G : Glob} {τ : Tag → Prop} {O O' : Own} {w w' : World} {st st' : St} {e : Env} {a : Act} {o : Oper} {v : GV} {u : Env} {tmps : Array Value}

/-! ### Permissions handed on -/
def Own.retag (O : Own) (b : Nat) (t : Tag) : Own := ⟨O.M, O.K, fun b' => if b' = b then t else O.B b'⟩

theorem Stp.retag {b : Nat} {t t' : Tag} (h : O.B b = t) : Stp (· = t) O w (O.retag b t') w where
  mem := .refl _
  kmap := .refl _
  size := Nat.le_refl _
  os := rfl
  tape := rfl
  output := rfl
  same b' _ hb := ⟨rfl, by simp only [Own.retag]; rw [if_neg fun q => hb (by rw [q]; exact h)], fun _ => rfl⟩
  ksame g k hk _ _ _ := hk

theorem HInv.retag (h : HInv P G O st w) {b : Nat} {l l' : PLoc} (hB : O.B b = .perm l) (hlt : b < w.heap.size) {pp : List (Nat × Nat)} (hpp : ∀ g i, (g, i) ∈ pp → (g, i) ∈ st.perms ∧ PLoc.hcell g i ≠ l) :
    HInv P G (O.retag b (.perm l')) { st with perms := pp } w := by
  refine h.stp (Stp.retag hB) (fun g o hg => .inl ⟨hg, by simp, fun _ _ => by simp⟩) (fun g i hg => .inl ⟨(hpp g i hg).1, rfl, by simp, ?_⟩) (fun b' hb o v hm => ?_) (fun b' hb => ?_) h.kdom fun g i hg => h.pdom g i (hpp g i hg).1
  · intro q; simp only [Tag.perm.injEq] at q; exact (hpp g i hg).2 q
  · have := h.mem b' o v hm
    refine ⟨this.1, ?_⟩
    simp only [Own.retag]
    split
    · exact .inr ⟨l', rfl⟩
    · exact this.2
  · simp only [Own.retag]
    rw [if_neg (by omega)]
    exact h.fresh b' hb

theorem Perm.retag {l : PLoc} {sz len : Nat} {x : Value} (h : Perm O w l sz len x) : ∃ b, O.B b = .perm l ∧ b < w.heap.size ∧ ∀ l', Perm (O.retag b (.perm l')) w l' sz len x := by
  obtain ⟨b, off, cap, rc, ty, rfl, hB, hh, hc, hM⟩ := h
  exact ⟨b, hB, lt_of_heap hh, fun l' => ⟨b, off, cap, rc, ty, rfl, by simp [Own.retag], hh, hc, hM⟩⟩

theorem tk_own {v : GV} {sz : Nat} {b : Bool} {xs : List (List GV)} (h : tk v = .sl sz b .own xs) : v = .sl sz b .own xs := by
  cases v <;> simp only [tk, cp, reduceCtorEq] at h
  exact h
theorem tk_cp (v : GV) (h : ∀ sz b xs, v ≠ .sl sz b .own xs) : tk v = cp v := by
  cases v with
  | sl sz b c xs => cases c <;> simp_all [tk, cp]
  | _ => rfl
theorem cp_tk (v : GV) : cp (tk v) = cp v := by
  cases v with
  | sl sz b c xs => rfl
  | _ => rfl
theorem cp_cp (v : GV) : cp (cp v) = cp v := by
  cases v with
  | sl sz b c xs => cases c <;> rfl
  | _ => rfl
theorem cp_not_own (v : GV) {sz : Nat} {b : Bool} {xs : List (List GV)} : cp v ≠ .sl sz b .own xs := by
  cases v with
  | sl sz' b' c xs' => cases c <;> simp [cp]
  | _ => simp [cp]
theorem cp_not_lptr (v : GV) {r i : Nat} : cp v ≠ .lptr r i := by
  cases v with
  | sl sz' b' c xs' => cases c <;> simp [cp]
  | _ => simp [cp]
theorem cp_not_box (v : GV) {cs : List GV} : cp v ≠ .box cs := by
  cases v with
  | sl sz' b' c xs' => cases c <;> simp [cp]
  | _ => simp [cp]

/-- A slot's value without a variable and without a permission. -/
theorem slot_cp (he : EnvRel O w e tmps) (t : Nat) : VRel O.M O.K (cp (get e t)) (tmps.getD t undef) := by
  have hs := he.slot t
  cases hv : get e t <;> rw [hv] at hs <;> simp only [SlotRel] at hs <;> first | exact hs.1 | exact .undef _

/-- A slot that is left with a copy. -/
theorem EnvRel.cpSlot (he : EnvRel O w e tmps) (s : Stp τ O w O' w') (hb : ∀ b r, O.B b = .box r → O'.B b = .box r) {t : Nat} (hτ : ∀ q, ¬ τ (.box q)) (h1 : ∀ q, q ≠ t → ¬ τ (.perm (.slot q)))
    (h2 : ∀ q i, ¬ τ (.perm (.cell q i))) : EnvRel O' w' ((t, cp (get e t)) :: e) tmps := by
  refine he.next s hb (fun q => ?_) fun q r off cs e1 e2 => ?_
  · simp only [get]
    by_cases hq : t = q
    · subst hq; rw [if_pos rfl]; exact .inr (VRel.slot (s.vrel (slot_cp he t)))
    · rw [if_neg hq]; exact .inl ⟨rfl, trivial, hτ q, h1 q (Ne.symm hq), h2 q⟩
  · simp only [get] at e1 e2
    left
    by_cases hq : t = q
    · rw [if_pos hq] at e1; exact absurd e1 (cp_not_lptr _)
    · rw [if_neg hq] at e1
      by_cases hr : t = r
      · rw [if_pos hr] at e2; exact absurd e2 (cp_not_box _)
      · rw [if_neg hr] at e2; exact ⟨e1, ⟨cs, e2⟩, rfl, rfl⟩

/-- What a slot holds is taken out of it, the permission with it. -/
theorem take_slot (he : EnvRel O w e tmps) (hh : HInv P G O st w) (t : Nat) (l : PLoc) :
    ∃ O', EnvRel O' w ((t, cp (get e t)) :: e) tmps ∧ HInv P G O' st w ∧ Stp (· = .perm (.slot t)) O w O' w ∧ CRel O' w l (tk (get e t)) (tmps.getD t undef) := by
  by_cases hown : ∃ sz b xs, get e t = .sl sz b .own xs
  · obtain ⟨sz, b, xs, hv⟩ := hown
    have hs := he.slot t
    rw [hv] at hs
    obtain ⟨hs1, hs2⟩ := hs
    obtain ⟨b0, q1, q2, q3⟩ := (hs2 sz b xs rfl).retag
    have hst := Stp.retag (w := w) (t' := .perm l) q1
    refine ⟨O.retag b0 (.perm l), he.cpSlot hst (fun b' r hb => ?_) (by simp) (by simp) (by simp), ?_, hst, ?_⟩
    · simp only [Own.retag]
      split
      · rename_i hq; subst hq; rw [q1] at hb; cases hb
      · exact hb
    · exact hh.retag q1 q2 (pp := st.perms) fun g i hg => ⟨hg, by simp⟩
    · rw [hv]
      exact ⟨hst.vrel hs1, fun sz' b' xs' hq => by simp only [tk, GV.sl.injEq] at hq; obtain ⟨rfl, rfl, _, rfl⟩ := hq; exact q3 l⟩
  · have hno : ∀ sz b xs, get e t ≠ .sl sz b .own xs := fun sz b xs hq => hown ⟨sz, b, xs, hq⟩
    refine ⟨O, he.cpSlot (Stp.refl (fun _ => False) O w) (fun _ _ h => h) (by simp) (by simp) (by simp), hh, .refl _ _ _, ?_⟩
    rw [tk_cp _ hno]
    exact ⟨by rw [cp_cp]; exact slot_cp he t, fun sz b xs hq => absurd hq (cp_not_own _)⟩

theorem CRel.slot' {d : Nat} {v : GV} {x : Value} (h : CRel O w (.slot d) v x) (hl : ∀ r i, v ≠ .lptr r i) (hb : ∀ cs, v ≠ .box cs) : SlotRel O w d v x := by
  cases v <;> first | exact h | skip
  · exact absurd rfl (hl _ _)
  · exact absurd rfl (hb _)
theorem tk_not_lptr (v : GV) {r i : Nat} : tk v ≠ .lptr r i := by
  cases v <;> simp [tk, cp]
theorem tk_not_box (v : GV) {cs : List GV} : tk v ≠ .box cs := by
  cases v <;> simp [tk, cp]

theorem EnvRel.putC {x : Value} (he : EnvRel O w e a.tmps) {dst : Option Nat} {v : GV} (hd : ∀ d, dst = some d → d < a.tmps.size) (h : ∀ d, dst = some d → CRel O w (.slot d) (tk v) x) :
    EnvRel O w (dstU dst (tk v) e) (a.put dst x).tmps :=
  he.putV hd (fun d hdd => (h d hdd).slot' (fun _ _ => tk_not_lptr _) fun _ => tk_not_box _) (fun r i hq => absurd hq (tk_not_lptr _)) fun cs hq => absurd hq (tk_not_box _)

theorem sim_take (he : EnvRel O w e a.tmps) (hh : HInv P G O st w) (hd : ∀ d, o.dst = some d → d < a.tmps.size) {C : Call} {V : CallV} {t : Nat} (hk : okOp P G o.op (.take t) = true)
    (hv : effOp C V e st (.take t) = some (v, u, st')) : EffSim P G O w e a o v u st' := by
  simp only [effOp, Option.some.injEq, Prod.mk.injEq] at hv; obtain ⟨rfl, rfl, rfl⟩ := hv
  have hrun : Gives P w a o (a.tmps.getD t undef) w := by
    unfold okOp at hk; dsimp only at hk
    split at hk
    · rename_i t' ho; simp only [beq_iff_eq] at hk; subst hk; simp [Gives, execOp, ho, Act.eval]
    · rename_i t' ho; simp only [beq_iff_eq] at hk; subst hk; simp [Gives, execOp, ho, Act.eval]
    · simp at hk
  obtain ⟨O', h1, h2, h3, h4⟩ := take_slot he hh t (.slot (o.dst.getD 0))
  exact ⟨_, w, O', .inl hrun, h1.putC hd (fun d hdd => by rw [hdd] at h4; exact h4), h2, h3.weak fun t ht => .inr (.inr ⟨_, ht⟩)⟩

/-! ### Cells written -/
theorem setRow_wrote {b : Nat} {cs : Array Value} : Wrote w (w.setRow b cs) b := ⟨fun k hk => setRow_other w b k cs hk, by simp, by simp, by simp, by simp⟩

/-- What a write may touch. -/
def Written (ro : Nat) (t : Tag) : Prop := (∃ g, ro ≤ g ∧ t = .heap g) ∨ ∃ s, t = .box s

theorem writeAt_rel (he : EnvRel O w e tmps) (hh : HInv P G O st w) {A : GV} {x : Value} (hA : ARel O e tmps A x) {root : Nat} {heap : Bool} {vs : List GV} {ys : List Value} (hlen : ys.length = vs.length)
    (hv : ∀ (i : Nat) (c : GV) (y : Value), vs[i]? = some c → ys[i]? = some y → VRel O.M O.K (cp c) y)
    (hown : ∀ s o', A = .lptr s o' → ∀ (i : Nat) (c : GV) (y : Value), vs[i]? = some c → ys[i]? = some y → CRel O w (.cell s (o' + i)) c y)
    (h : writeAt e st root heap vs A = some (u, st')) :
    ∃ b off w', x = .pointer (some ⟨b, off, none⟩) ∧ (storeCells ⟨b, off, none⟩ ys).run P w = .ok () w' ∧ EnvRel O w' (u ++ e) tmps ∧ HInv P G O st' w' ∧ Stp (Written st.ro) O w O w' ∧
      (∀ (i : Nat) (y : Value), ys[i]? = some y → w'.cell? ⟨b, off + i, none⟩ = some y) ∧ (∀ g ver o', A = .ptr g ver o' → ∃ cs, st'.heap[g]? = some (.cells ver cs) ∧ (∀ (i : Nat) (c : GV), vs[i]? = some c → cs[o' + i]? = some (cp c)) ∧ ∃ k, O.K g = some k ∧ b = k.b ∧ off = k.o + o') := by
  have hone : (vs.all one = true) → ∀ y ∈ ys, y.oneCell' = true := by
    intro ho y hy
    obtain ⟨i, hi⟩ := List.getElem?_of_mem hy
    have hil := (List.getElem?_eq_some_iff.1 hi).1
    have hc : vs[i]? = some (vs[i]'(by omega)) := by simp
    have h1 := hv i _ y hc hi
    refine h1.one ?_
    have h2 := List.all_eq_true.1 ho _ (List.mem_of_getElem? hc)
    revert h2
    generalize vs[i]'(by omega) = c
    intro h2
    cases c with
    | sl sz b c xs => cases c <;> rfl
    | _ => first | exact h2 | simp_all [one]
  have store : ∀ {b off : Nat} {rc : Array Value} {ty : TypeId}, w.heap[b]? = some (.cells rc ty (0, 0)) → off + vs.length ≤ rc.size → vs.all one = true →
      (storeCells ⟨b, off, none⟩ ys).run P w = .ok () (w.setRow b (rc.toList.take off ++ ys ++ rc.toList.drop (off + ys.length)).toArray) := by
    intro b off rc ty hb hl ho
    have := run_storeCells_at P b off ty ys 0 rc w hb (by omega) (hone ho)
    simpa using this
  have newcells : ∀ {rc : Array Value} {off i : Nat}, off + vs.length ≤ rc.size → ((rc.toList.take off ++ ys ++ rc.toList.drop (off + ys.length)).toArray)[i]? =
      if off ≤ i ∧ i < off + vs.length then ys[i - off]? else rc[i]? := by
    intro rc off i hl
    simp only [List.getElem?_toArray, List.append_assoc, List.getElem?_append, List.length_take, Array.length_toList]
    rw [Nat.min_eq_left (by omega)]
    by_cases h1 : i < off
    · rw [if_pos h1, if_neg (by omega)]
      simp [List.getElem?_take, h1]
    · rw [if_neg h1]
      by_cases h2 : i < off + vs.length
      · rw [if_pos (by omega), if_pos ⟨by omega, h2⟩]
      · rw [if_neg (by omega), if_neg (by omega)]
        simp only [List.getElem?_drop, hlen, Array.getElem?_toList]
        congr 1; omega
  have newsize : ∀ {rc : Array Value} {off : Nat}, off + vs.length ≤ rc.size → ((rc.toList.take off ++ ys ++ rc.toList.drop (off + ys.length)).toArray).size = rc.size := by
    intro rc off hl
    simp [hlen]; omega
  have told : ∀ {b off : Nat} {rc : Array Value} {ty : TypeId}, w.heap[b]? = some (.cells rc ty (0, 0)) → off + vs.length ≤ rc.size → ∀ (i : Nat) (y : Value), ys[i]? = some y →
      (w.setRow b (rc.toList.take off ++ ys ++ rc.toList.drop (off + ys.length)).toArray).cell? ⟨b, off + i, none⟩ = some y := by
    intro b off rc ty hb hl i y hy
    rw [cell_at (setRow_heap w b rc _ ty (0, 0) hb), newcells hl]
    have := (List.getElem?_eq_some_iff.1 hy).1
    rw [if_pos ⟨by omega, by omega⟩]
    rw [show off + i - off = i by omega]; exact hy
  cases A with
  | lptr s o' =>
    simp only [writeAt] at h
    split at h
    · rename_i hs
      obtain ⟨rfl, rfl⟩ := hs
      split at h
      · rename_i bcs hb
        split at h
        · rename_i hl
          obtain ⟨hl, ho⟩ := hl
          simp only [Option.some.injEq, Prod.mk.injEq] at h
          obtain ⟨rfl, rfl⟩ := h
          obtain ⟨b, rfl, h1, h2⟩ := hA
          have hsl := he.slot s
          rw [hb] at hsl
          obtain ⟨b', rc, ty, q1, q2, q3, q4, q5⟩ := hsl
          have e1 := h2 bcs hb
          rw [e1] at q1
          simp only [Value.pointer.injEq, Option.some.injEq, Addr.mk.injEq, and_true] at q1
          subst q1
          have hl' : o' + vs.length ≤ rc.size := by omega
          let rc' := (rc.toList.take o' ++ ys ++ rc.toList.drop (o' + ys.length)).toArray
          have hw : Wrote w (w.setRow b rc') b := setRow_wrote
          have hstp := hw.stp q2
          refine ⟨b, o', _, rfl, store q3 hl' ho, ?_, ?_, hstp.weak fun t ht => .inr ⟨s, ht⟩, told q3 hl', fun g ver o2 hq => by cases hq⟩
          · refine he.next hstp (fun _ _ h => h) (fun q => ?_) fun q r off cs f1 f2 => ?_
            · simp only [List.cons_append, List.nil_append, get]
              by_cases hq : s = q
              · subst hq
                rw [if_pos rfl]
                right
                have hslen : (splice bcs o' vs).length = bcs.length := by simp [splice]; omega
                refine ⟨b, rc', ty, e1, q2, setRow_heap w b rc _ ty (0, 0) q3, by rw [hslen, ← q4]; exact newsize hl', fun i c y g1 g2 => ?_⟩
                rw [newcells hl'] at g2
                simp only [splice, List.append_assoc, List.getElem?_append, List.length_take] at g1
                rw [Nat.min_eq_left (by omega)] at g1
                by_cases g3 : o' ≤ i ∧ i < o' + vs.length
                · rw [if_pos g3] at g2
                  rw [if_neg (by omega), if_pos (by omega)] at g1
                  have := hown s o' rfl (i - o') c y g1 g2
                  rw [show o' + (i - o') = i by omega] at this
                  exact hstp.crel this (by simp)
                · rw [if_neg g3] at g2
                  have : bcs[i]? = some c := by
                    split at g1
                    · rename_i g4; simpa [List.getElem?_take, g4] using g1
                    · split at g1
                      · omega
                      · simp only [List.getElem?_drop] at g1
                        rw [show o' + vs.length + (i - o' - vs.length) = i by omega] at g1
                        exact g1
                  exact hstp.crel (q5 i c y this g2) (by simp)
              · rw [if_neg hq]
                exact .inl ⟨rfl, trivial, by simpa using Ne.symm hq, by simp, by simp⟩
            · simp only [List.cons_append, List.nil_append, get] at f1 f2
              by_cases hq : s = q
              · rw [if_pos hq] at f1; cases f1
              · rw [if_neg hq] at f1
                left
                refine ⟨f1, ?_, rfl, rfl⟩
                by_cases hr : s = r
                · subst hr; exact ⟨bcs, hb⟩
                · rw [if_neg hr] at f2; exact ⟨cs, f2⟩
          · refine hh.stp hstp (fun g o hg => .inl ⟨hg, by simp, fun _ _ => by simp⟩) (fun g i hg => .inl ⟨hg, rfl, by simp, by simp⟩) (fun b2 hb2 o v hm => ?_) (fun b2 hb2 => ?_) hh.kdom hh.pdom
            · exfalso
              obtain ⟨m1, m2⟩ := hh.mem b2 o v hm
              rcases hb2 with hb2 | hb2
              · rw [(hh.fresh b2 hb2).2] at hm; cases hm
              · rw [hb2] at m2; rcases m2 with m2 | ⟨l, m2⟩ <;> cases m2
            · rw [hw.size] at hb2; exact hh.fresh b2 hb2
        · simp at h
      · simp at h
    · simp at h
  | ptr g ver o' =>
    simp only [writeAt] at h
    split at h
    · split at h
      · rename_i v' gcs hg
        split at h
        · rename_i hl
          obtain ⟨rfl, hl, ho⟩ := hl
          simp only [Option.map_eq_some_iff, Prod.mk.injEq] at h
          obtain ⟨s1, hput, rfl, rfl⟩ := h
          obtain ⟨hro, rfl⟩ := St.put_some hput
          have hA : VRel O.M O.K (.ptr g v' o') x := hA
          obtain ⟨k, rc, ty, k1, k2, k3, k4, k5, k6, k7⟩ := hh.obj g _ hg
          cases hA with
          | @ptr _ _ _ b off k' hk hv' ha =>
            rw [k1] at hk
            simp only [Option.some.injEq] at hk
            subst hk
            obtain ⟨rfl, rfl⟩ := ha k2.symm
            have hl' : k.o + o' + vs.length ≤ rc.size := by omega
            let rc' := (rc.toList.take (k.o + o') ++ ys ++ rc.toList.drop (k.o + o' + ys.length)).toArray
            have hw : Wrote w (w.setRow k.b rc') k.b := setRow_wrote
            have hstp := hw.stp k3
            have hglt := (List.getElem?_eq_some_iff.1 hg).1
            have hslen : (splice gcs o' (vs.map cp)).length = gcs.length := by simp [splice]; omega
            have hrc' : ∀ {i : Nat}, rc'[i]? = if k.o + o' ≤ i ∧ i < k.o + o' + vs.length then ys[i - (k.o + o')]? else rc[i]? := fun {i} => newcells hl'
            have hspl : ∀ {i : Nat}, (splice gcs o' (vs.map cp))[i]? = if o' ≤ i ∧ i < o' + vs.length then (vs.map cp)[i - o']? else gcs[i]? := by
              intro i
              simp only [splice, List.append_assoc, List.getElem?_append, List.length_take, List.length_map]
              rw [Nat.min_eq_left (by omega)]
              by_cases g3 : i < o'
              · rw [if_pos g3, if_neg (by omega)]; simp [List.getElem?_take, g3]
              · rw [if_neg g3]
                by_cases g4 : i < o' + vs.length
                · rw [if_pos (by omega), if_pos ⟨by omega, g4⟩]
                · rw [if_neg (by omega), if_neg (by omega)]
                  simp only [List.getElem?_drop]
                  congr 1; omega
            have hobj : ObjRel P G O (w.setRow k.b rc') g (.cells v' (splice gcs o' (vs.map cp))) := by
              refine ⟨k, rc', ty, k1, k2, k3, setRow_heap w k.b rc _ ty (0, 0) k4, by rw [← k5]; exact newsize hl', by rw [hslen, newsize hl']; exact k6, fun i c y g1 g2 => ?_⟩
              rw [hrc'] at g2
              rw [hspl] at g1
              by_cases g3 : o' ≤ i ∧ i < o' + vs.length
              · rw [if_pos g3] at g1
                rw [if_pos (by omega)] at g2
                simp only [List.getElem?_map, Option.map_eq_some_iff] at g1
                obtain ⟨c', g1, rfl⟩ := g1
                refine hv (i - o') c' y g1 ?_
                rw [show k.o + i - (k.o + o') = i - o' by omega] at g2
                exact g2
              · rw [if_neg g3] at g1
                rw [if_neg (by omega)] at g2
                exact k7 i c y g1 g2
            refine ⟨k.b, k.o + o', _, rfl, store k4 hl' ho, he.step0 hh hstp (by simp) (by simp) (by simp), ?_, hstp.weak fun t ht => .inl ⟨g, hro, ht⟩, told k4 hl', fun g2 ver2 o2 hq => ?_⟩
            · refine hh.write k3 hw hobj hglt (pp := (st.drop g o' vs.length).perms) (fun g' i hgi => (List.mem_filter.1 hgi).1) fun i hgi => ?_
              have hgi' := List.mem_filter.1 hgi
              have hout : ¬ (o' ≤ i ∧ i < o' + vs.length) := by
                have := hgi'.2
                simp only [beq_self_eq_true, Bool.true_and, Bool.not_eq_true', Bool.and_eq_false_iff, decide_eq_false_iff_not] at this
                omega
              have hp := hh.perm g i hgi'.1
              intro ver2 cs2 sz b c xs kk y f1 f2 f3 f4
              have : ver2 = v' ∧ cs2 = splice gcs o' (vs.map cp) := by
                simp [hglt] at f1; exact ⟨f1.1.symm, f1.2.symm⟩
              obtain ⟨rfl, rfl⟩ := this
              rw [hspl, if_neg hout] at f2
              rw [k1] at f3
              simp only [Option.some.injEq] at f3; subst f3
              rw [cell_at (setRow_heap w k.b rc _ ty (0, 0) k4), newcells hl', if_neg (by omega)] at f4
              exact hstp.perm (hp ver2 gcs sz b c xs k y hg f2 k1 (by rw [cell_at k4]; exact f4)) (by simp)
            · simp only [GV.ptr.injEq] at hq
              obtain ⟨rfl, rfl, rfl⟩ := hq
              refine ⟨_, by simp only [St.drop]; rw [List.getElem?_set_self hglt], fun i c hc => ?_, k, k1, rfl, rfl⟩
              have := (List.getElem?_eq_some_iff.1 hc).1
              rw [hspl, if_pos ⟨by omega, by omega⟩, List.getElem?_map, show o' + i - o' = i by omega, hc]; rfl
        · simp at h
      · simp at h
    · simp at h
  | _ => simp [writeAt] at h
end
end Go.Proofs.YtibhcmacccfakaaGreatDoor
namespace Go.Proofs.YtibhcmacccfakaaGreatDoor
variable [Sym]

section
variable {P : Program} {G : Glob} {τ : Tag → Prop} {O O' : Own} {w w' : World} {st st' : St} {e : Env} {a : Act} {o : Oper} {v : GV} {u : Env} {tmps : Array Value}

theorem Written.op {ro : Nat} {t : Tag} (h : Written ro t) : opT ro t := h.imp id .inl

theorem writeAt_ro {root : Nat} {heap : Bool} {vs : List GV} {a : GV} (h : writeAt e st root heap vs a = some (u, st')) : st'.ro = st.ro := by
  cases a <;> simp only [writeAt, reduceCtorEq] at h
  · split at h
    · split at h
      · split at h
        · simp only [Option.map_eq_some_iff, Prod.mk.injEq] at h
          obtain ⟨s1, hp, _, rfl⟩ := h
          obtain ⟨_, rfl⟩ := St.put_some hp
          rfl
        · simp at h
      · simp at h
    · simp at h
  · split at h
    · split at h
      · split at h
        · simp only [Option.some.injEq, Prod.mk.injEq] at h
          rw [h.2]
        · simp at h
      · simp at h
    · simp at h

theorem run_storeVar {t : TypeId} {x y : Value} {n : Nat} {b off : Nat} {X A : Operand} (ho : o.op = .store t A X) (hA : a.eval A = .pointer (some ⟨b, off, none⟩)) (hX : a.eval X = y) (hs : sizeIs P t n = true) (hn : y.cells.size = n)
    (h : (storeCells ⟨b, off, none⟩ y.cells.toList).run P w = .ok () w') : (execOp a.eval o).run P w = .ok .skip w' := by
  have := run_sizeOf (P := P) (w := w) hs
  simp [execOp, ho, hA, hX, Instr.storeAt, Instr.sureAddr, storeVar, this, hn, h]

theorem sim_store (he : EnvRel O w e a.tmps) (hh : HInv P G O st w) (hd : ∀ d, o.dst = some d → d < a.tmps.size) {C : Call} {V : CallV} {n : Nat} {x y : GX} {root : Nat} {heap : Bool}
    (hk : okOp P G o.op (.store n x y root heap) = true) (hv : effOp C V e st (.store n x y root heap) = some (v, u, st')) : EffSim P G O w e a o v u st' := by
  simp only [effOp] at hv
  split at hv
  · rename_i hn
    obtain ⟨hn, hl⟩ := hn
    simp only [Option.bind_eq_bind, Option.bind_eq_some_iff, Option.some.injEq, Prod.mk.injEq] at hv
    obtain ⟨⟨u1, s1⟩, hwr, rfl, rfl, rfl⟩ := hv
    unfold okOp at hk; dsimp only at hk
    split at hk
    · rename_i t A X ho
      simp only [Bool.and_eq_true] at hk
      obtain ⟨⟨hs, hA⟩, hX⟩ := hk
      have hA := adr_rel he hh hA
      have hX := rd_rel he hh hX
      have hL := ndef_rd hX hn
      have hsz : (a.eval X).cells.size = n := by rw [hL.1, hl]
      have hg : ∀ (i : Nat) (c : GV) (z : Value), ((cellsOf (rd e y)).map cp)[i]? = some c → (a.eval X).cells.toList[i]? = some z → VRel O.M O.K c z := fun i c z h1 h2 => hL.2 i c z h1 (by simpa using h2)
      obtain ⟨b, off, w', e1, e2, e3, e4, e5, _⟩ := writeAt_rel he hh hA (ys := (a.eval X).cells.toList) (by rw [Array.length_toList, hL.1])
        (fun i c z h1 h2 => by have := hg i c z h1 h2; rw [this.cp_eq]; exact this)
        (fun s o' _ i c z h1 h2 => by
          have := hg i c z h1 h2
          refine ⟨by rw [this.cp_eq]; exact this, fun sz b xs hq => ?_⟩
          subst hq
          have := this.cp_eq
          simp [cp] at this) hwr
      exact EffSim.of_skip hd (run_storeVar (x := undef) ho e1 rfl hs hsz e2) e3 e4 (e5.weak fun t ht => by rw [writeAt_ro hwr]; exact ht.op)
    · simp at hk
  · simp at hv

theorem EnvRel.congr {e' : Env} (h : EnvRel O w e tmps) (he : EnvEq e e') : EnvRel O w e' tmps :=
  ⟨fun t => by rw [← he t]; exact h.slot t, fun t s o cs h1 h2 => h.lptr t s o cs (by rw [he t]; exact h1) (by rw [he s]; exact h2)⟩

theorem HInv.addPerm (h : HInv P G O st w) {g i : Nat} (hp : PermAt O w st.heap g i) (hl : g < st.heap.length) : HInv P G O { st with perms := (g, i) :: st.perms } w :=
  { h with
    perm := fun g' i' hgi => by
      simp only [List.mem_cons, Prod.mk.injEq] at hgi
      rcases hgi with ⟨rfl, rfl⟩ | hgi
      · exact hp
      · exact h.perm g' i' hgi
    pdom := fun g' i' hgi => by
      simp only [List.mem_cons, Prod.mk.injEq] at hgi
      rcases hgi with ⟨rfl, rfl⟩ | hgi
      · exact hl
      · exact h.pdom g' i' hgi }

def ownSl : GV → Bool
  | .sl _ _ .own _ => true
  | _ => false
theorem ownSl_iff {v : GV} : ownSl v = true ↔ ∃ sz b xs, v = .sl sz b .own xs := by
  cases v with
  | sl sz b c xs => cases c <;> simp [ownSl]
  | _ => simp [ownSl]

theorem sim_storeTake (he : EnvRel O w e a.tmps) (hh : HInv P G O st w) (hd : ∀ d, o.dst = some d → d < a.tmps.size) {C : Call} {V : CallV} {x : GX} {t root : Nat} {heap : Bool}
    (hk : okOp P G o.op (.storeTake x t root heap) = true) (hv : effOp C V e st (.storeTake x t root heap) = some (v, u, st')) : EffSim P G O w e a o v u st' := by
  simp only [effOp, Option.bind_eq_bind, Option.bind_eq_some_iff, Option.some.injEq, Prod.mk.injEq] at hv
  obtain ⟨⟨u1, s1⟩, hwr, rfl, rfl, hst'⟩ := hv
  unfold okOp at hk; dsimp only at hk
  split at hk
  · rename_i ty A tv ho
    simp only [Bool.and_eq_true, beq_iff_eq] at hk
    obtain ⟨⟨hs, hA⟩, rfl⟩ := hk
    have hA := adr_rel he hh hA
    generalize hAe : adr e x = ga at hA hwr hst'
    -- the value is one cell
    have hone : one (tk (get e tv)) = true := by
      cases ga <;> simp only [writeAt, reduceCtorEq] at hwr
      · split at hwr
        · split at hwr
          · split at hwr
            · rename_i hc; simpa using hc.2.2
            · simp at hwr
          · simp at hwr
        · simp at hwr
      · split at hwr
        · split at hwr
          · split at hwr
            · rename_i hc; simpa using hc.2
            · simp at hwr
          · simp at hwr
        · simp at hwr
    let l : PLoc := match ga with | .lptr s o' => .cell s o' | .ptr g _ o' => .hcell g o' | _ => .slot 0
    obtain ⟨O1, f1, f2, f3, f4⟩ := take_slot he hh tv l
    have hbox : ∀ b r, O.B b = .box r → O1.B b = .box r := f3.hbox hh (by simp)
    -- a variable's slot is not the slot that is taken
    have hroot : heap = false → get e root = get ((tv, cp (get e tv)) :: e) root ∧ (∀ s o', ga = .lptr s o' → tv ≠ root) := by
      intro hheap
      by_cases htr : tv = root
      · exfalso
        subst htr
        cases ga <;> simp only [writeAt, reduceCtorEq] at hwr
        · split at hwr
          · rename_i hc; rw [hheap] at hc; simp at hc
          · simp at hwr
        · split at hwr
          · rename_i hc
            obtain ⟨rfl, _⟩ := hc
            split at hwr
            · rename_i cs hbx
              rw [hbx] at hone
              simp [tk, cp, one] at hone
            · simp at hwr
          · simp at hwr
      · exact ⟨by simp only [get]; rw [if_neg htr], fun _ _ _ => htr⟩
    have hwr' : writeAt ((tv, cp (get e tv)) :: e) st root heap [tk (get e tv)] ga = some (u1, s1) := by
      rw [← writeAt_congr (e := e) fun hq => (hroot hq).1]; exact hwr
    have hA1 : ARel O1 ((tv, cp (get e tv)) :: e) a.tmps ga (a.eval A) := by
      cases ga with
      | lptr s o' =>
        obtain ⟨b, h1, h2, h3⟩ := hA
        refine ⟨b, h1, hbox b s h2, fun cs hc => ?_⟩
        simp only [get] at hc
        split at hc
        · exact absurd hc (cp_not_box _)
        · exact h3 cs hc
      | _ => exact f3.vrel (show VRel O.M O.K _ _ from hA)
    have hcp : VRel O1.M O1.K (cp (tk (get e tv))) (a.eval (.tmp tv)) := f4.1
    obtain ⟨b, off, w', e1, e2, e3, e4, e5, e6, e7⟩ := writeAt_rel f1 f2 hA1 (vs := [tk (get e tv)]) (ys := [a.eval (.tmp tv)]) rfl
      (fun i c z h1 h2 => by
        cases i with
        | zero => simp at h1 h2; subst h1 h2; exact hcp
        | succ i => simp at h1)
      (fun s o' hq i c z h1 h2 => by
        cases i with
        | zero => simp at h1 h2; subst h1 h2 hq; exact f4
        | succ i => simp at h1) hwr'
    have hcells : (a.eval (.tmp tv)).cells = #[a.eval (.tmp tv)] := by
      have hone' : one (cp (tk (get e tv))) = true := by
        revert hone
        generalize tk (get e tv) = c
        intro hone
        cases c with
        | sl sz b c xs => cases c <;> rfl
        | _ => first | exact hone | simp [one] at hone
      have := hcp.one hone'
      revert this
      generalize a.eval (.tmp tv) = z
      intro h
      cases z <;> first | rfl | (simp [Value.oneCell'] at h)
    have hrun : (execOp a.eval o).run P w = .ok .skip w' := run_storeVar (x := undef) ho e1 rfl hs (n := 1) (by rw [hcells]; rfl) (by rw [hcells]; exact e2)
    have hsame : EnvEq (u1 ++ ((tv, cp (get e tv)) :: e)) (((tv, cp (tk (get e tv))) :: u1) ++ e) := by
      intro q
      rw [cp_tk]
      by_cases hq : tv = q
      · subst hq
        have hn : ∀ p, p ∈ u1 → p.1 ≠ tv := by
          intro p hp
          obtain ⟨h1, h2⟩ := writeAt_keys hwr' p hp
          rw [h1]
          cases ga with
          | lptr s o' => exact Ne.symm ((hroot h2).2 s o' rfl)
          | ptr g ver o' =>
            simp only [writeAt] at hwr'
            split at hwr'
            · rename_i hc; rw [h2] at hc; simp at hc
            · simp at hwr'
          | _ => simp [writeAt] at hwr'
        rw [get_append_not hn]
        simp [get]
      · simp only [List.cons_append, get]
        rw [if_neg hq]
        by_cases hm : ∃ p, p ∈ u1 ∧ p.1 = q
        · exact get_append_mem _ _ hm
        · have hn : ∀ p, p ∈ u1 → p.1 ≠ q := fun p hp hpq => hm ⟨p, hp, hpq⟩
          rw [get_append_not hn, get_append_not hn]
          simp only [get]; rw [if_neg hq]
    have hst : Stp (opT st.ro) O w O1 w' := (f3.weak fun t ht => .inr (.inr ⟨_, ht⟩)).trans (e5.weak fun t ht => ht.op)
    have hro' : st'.ro = st.ro := by
      rw [← hst', ← writeAt_ro hwr]
      split <;> rfl
    -- the permission
    have hinv : HInv P G O1 st' w' := by
      rw [← hst']
      split
      · rename_i g ver o' sz bn xs hown
        obtain ⟨cs, h1, h2, k, h3, h4, h5⟩ := e7 g ver o' rfl
        refine e4.addPerm ?_ (List.getElem?_eq_some_iff.1 h1).1
        intro ver2 cs2 sz2 b2 c2 xs2 k2 y g1 g2 g3 g4
        rw [h1] at g1
        simp only [Option.some.injEq, GObj.cells.injEq] at g1
        obtain ⟨rfl, rfl⟩ := g1
        have := h2 0 _ rfl
        rw [Nat.add_zero, g2] at this
        simp only [Option.some.injEq] at this
        rw [hown] at this
        simp only [cp, GV.sl.injEq] at this
        obtain ⟨rfl, rfl, rfl, rfl⟩ := this
        rw [h3] at g3
        simp only [Option.some.injEq] at g3
        subst g3
        have hy := e6 0 (a.eval (.tmp tv)) rfl
        rw [h4, h5, Nat.add_zero] at hy
        rw [hy] at g4
        simp only [Option.some.injEq] at g4
        subst g4
        exact e5.perm (f4.2 _ _ _ hown) (by simp [Written])
      · exact e4
    exact EffSim.of_skip hd hrun (e3.congr hsame) hinv (by rw [hro']; exact hst)
  · simp at hk
end
end Go.Proofs.YtibhcmacccfakaaGreatDoor
namespace Go.Proofs.YtibhcmacccfakaaGreatDoor
variable [Sym]

section
variable {P : Program} {G : Glob} {τ : Tag → Prop} {O O' : Own} {w w' : World} {st st' : St} {e : Env} {a : Act} {o : Oper} {v : GV} {u : Env} {tmps : Array Value}

/-- A permission goes to another place. -/
theorem take_perm (hh : HInv P G O st w) {l0 : PLoc} (l : PLoc) {c : GV} {y : Value} (h : CRel O w l0 c y) {pp : List (Nat × Nat)} (hpp : ∀ g i, (g, i) ∈ pp → (g, i) ∈ st.perms ∧ PLoc.hcell g i ≠ l0) :
    ∃ O', HInv P G O' { st with perms := pp } w ∧ Stp (· = .perm l0) O w O' w ∧ (∀ b r, O.B b = .box r → O'.B b = .box r) ∧ CRel O' w l c y := by
  by_cases hown : ownSl c = true
  · obtain ⟨sz, bn, xs, rfl⟩ := ownSl_iff.1 hown
    obtain ⟨b0, q1, q2, q3⟩ := (h.2 sz bn xs rfl).retag
    have hst := Stp.retag (w := w) (t' := .perm l) q1
    refine ⟨O.retag b0 (.perm l), hh.retag q1 q2 hpp, hst, fun b r hb => ?_, hst.vrel h.1, fun sz' b' xs' hq => ?_⟩
    · simp only [Own.retag]
      split
      · rename_i hq; subst hq; rw [q1] at hb; cases hb
      · exact hb
    · simp only [GV.sl.injEq] at hq
      obtain ⟨rfl, rfl, _, rfl⟩ := hq
      exact q3 l
  · refine ⟨O, ?_, .refl _ _ _, fun _ _ h => h, h.1, fun sz b xs hq => absurd (ownSl_iff.2 ⟨sz, b, xs, hq⟩) hown⟩
    exact { hh with perm := fun g i hg => hh.perm g i (hpp g i hg).1, pdom := fun g i hg => hh.pdom g i (hpp g i hg).1 }

theorem splice_one {cs : List GV} {o : Nat} {c : GV} (h : o < cs.length) (i : Nat) : (splice cs o [c])[i]? = if i = o then some c else cs[i]? := by
  simp only [splice, List.append_assoc, List.getElem?_append, List.length_take, List.length_singleton]
  rw [Nat.min_eq_left (by omega)]
  by_cases h1 : i < o
  · rw [if_pos h1, if_neg (by omega)]; simp [h1]
  · rw [if_neg h1]
    by_cases h2 : i = o
    · subst h2; simp
    · rw [if_neg (by omega), if_neg h2]
      simp only [List.getElem?_drop]
      congr 1; omega

theorem sim_loadTake (he : EnvRel O w e a.tmps) (hh : HInv P G O st w) (hd : ∀ d, o.dst = some d → d < a.tmps.size) {C : Call} {V : CallV} {x : GX} {root : Nat} {heap : Bool}
    (hk : okOp P G o.op (.loadTake x root heap) = true) (hv : effOp C V e st (.loadTake x root heap) = some (v, u, st')) : EffSim P G O w e a o v u st' := by
  simp only [effOp, Option.bind_eq_bind, Option.bind_eq_some_iff] at hv
  obtain ⟨cs, hcs, hv⟩ := hv
  unfold okOp at hk; dsimp only at hk
  split at hk
  · rename_i ty A ho
    simp only [Bool.and_eq_true] at hk
    obtain ⟨⟨hs, ha⟩, hA⟩ := hk
    have hA := adr_rel he hh hA
    generalize hAe : adr e x = ga at hA hcs hv
    obtain ⟨b, off, hX, hl, hc⟩ := cellsAt_rel he hh hA hcs
    split at hv
    · rename_i c
      obtain ⟨y, hy, hvy⟩ := hc 0 c rfl
      rw [Nat.add_zero] at hy
      have hrun : Gives P w a o y w := by
        simp [Gives, execOp, ho, hX, Instr.loadAt, Instr.sureAddr, loadVar, run_isAgg ha, hy]
      split at hv
      · simp only [Option.some.injEq, Prod.mk.injEq] at hv
        obtain ⟨rfl, rfl, rfl⟩ := hv
        exact EffSim.of_pure he hh hd (.of_vrel hrun hvy)
      · -- a cell of a ghost block
        rename_i g ver o'
        have plain : v = cp c → u = [] → st' = st → EffSim P G O w e a o v u st' := by
          rintro rfl rfl rfl
          exact EffSim.of_pure he hh hd (.of_vrel hrun hvy)
        split at hv
        · rename_i sz bn cap xs
          split at hv
          · rename_i hp
            obtain ⟨hp, hro⟩ := hp
            simp only [Option.some.injEq, Prod.mk.injEq] at hv
            obtain ⟨rfl, rfl, rfl⟩ := hv
            have hp : (g, o') ∈ st.perms := by simpa using hp
            -- the permission of the cell
            have hperm : Perm O w (.hcell g o') sz xs.length y := by
              simp only [cellsAt] at hcs
              split at hcs
              · split at hcs
                · rename_i v' gcs hg
                  split at hcs
                  · rename_i hl2
                    obtain ⟨rfl, hl2⟩ := hl2
                    obtain ⟨k, rc, ty', k1, k2, k3, k4, k5, k6, k7⟩ := hh.obj g _ hg
                    have hgc : gcs[o']? = some (.sl sz bn cap xs) := by
                      simp only [Option.some.injEq] at hcs
                      have := congrArg (fun l => l[0]?) hcs
                      simpa [List.getElem?_take] using this
                    have hA' : VRel O.M O.K (.ptr g v' o') (a.eval A) := hA
                    rw [hX] at hA'
                    cases hA' with
                    | @ptr _ _ _ _ _ k' hk' hv' ha' =>
                      rw [k1] at hk'
                      simp only [Option.some.injEq] at hk'; subst hk'
                      obtain ⟨rfl, rfl⟩ := ha' k2.symm
                      exact hh.perm g o' hp v' gcs sz bn cap xs k y hg hgc k1 hy
                  · simp at hcs
                · simp at hcs
              · simp at hcs
            have hcr : CRel O w (.hcell g o') (.sl sz bn .own xs) y := by
              refine ⟨?_, fun sz' b' xs' hq => by simp only [GV.sl.injEq] at hq; obtain ⟨rfl, rfl, _, rfl⟩ := hq; exact hperm⟩
              simp only [cp]
              -- the same slice, its capacity not told
              cases hvy' : cap with
              | own => rw [hvy'] at hvy; exact hvy
              | no => rw [hvy'] at hvy; exact hvy
              | exact =>
                rw [hvy'] at hvy
                have hvy : VRel O.M O.K (.sl sz bn .exact xs) y := hvy
                cases hvy with
                | slnil _ _ _ => exact .slnil _ _ (by decide)
                | sl h1 h2 h3 h4 h5 h6 => exact .sl (by decide) (fun q => by cases q) h3 h4 h5 h6
            obtain ⟨O1, h1, h2, h3, h4⟩ := take_perm hh (.slot (o.dst.getD 0)) hcr (pp := (st.drop g o' 1).perms) fun g' i hgi => by
              have := List.mem_filter.1 hgi
              refine ⟨this.1, fun hq => ?_⟩
              simp only [PLoc.hcell.injEq] at hq
              obtain ⟨rfl, rfl⟩ := hq
              simp at this
            have he1 := he.step0 hh h2 (by simp) (by simp) (by simp)
            refine ⟨y, w, O1, .inl hrun, ?_, h1, h2.weak fun t ht => .inr (.inr ⟨_, ht⟩)⟩
            exact he1.putC (v := .sl sz bn .own xs) hd fun d hdd => by rw [hdd] at h4; exact h4
          · simp only [Option.some.injEq, Prod.mk.injEq] at hv
            obtain ⟨rfl, rfl, rfl⟩ := hv
            exact plain rfl rfl rfl
        · simp only [Option.some.injEq, Prod.mk.injEq] at hv
          obtain ⟨rfl, rfl, rfl⟩ := hv
          exact plain rfl rfl rfl
      · -- a variable's cell
        rename_i hne1 hne2
        simp only [Option.bind_eq_some_iff, Option.some.injEq, Prod.mk.injEq] at hv
        obtain ⟨⟨u1, s1⟩, hwr, rfl, rfl, rfl⟩ := hv
        cases ga with
        | lptr s o' =>
          simp only [writeAt] at hwr
          split at hwr
          · rename_i hsr
            obtain ⟨rfl, rfl⟩ := hsr
            split at hwr
            · rename_i bcs hb
              split at hwr
              · rename_i hl2
                obtain ⟨hl2, hone⟩ := hl2
                simp only [Option.some.injEq, Prod.mk.injEq] at hwr
                obtain ⟨rfl, rfl⟩ := hwr
                simp only [List.length_singleton] at hl2
                have hbc : bcs[o']? = some c := by
                  simp only [cellsAt, hb, and_self, if_true, if_pos hl2, Option.some.injEq] at hcs
                  have := congrArg (fun l => l[0]?) hcs
                  simpa [List.getElem?_take] using this
                obtain ⟨b2, hXb, h1, h2⟩ := hA
                rw [hX] at hXb
                simp only [Value.pointer.injEq, Option.some.injEq, Addr.mk.injEq, and_true] at hXb
                obtain ⟨rfl, rfl⟩ := hXb
                have hsl := he.slot s
                rw [hb] at hsl
                obtain ⟨b', rc, ty', q1, q2, q3, q4, q5⟩ := hsl
                have e1 := h2 bcs hb
                rw [e1] at q1
                simp only [Value.pointer.injEq, Option.some.injEq, Addr.mk.injEq, and_true] at q1
                subst q1
                have hy' : rc[off]? = some y := by rw [cell_at q3] at hy; exact hy
                have hcr : CRel O w (.cell s off) (tk c) y := by
                  have := q5 off c y hbc hy'
                  refine ⟨by rw [cp_tk]; exact this.1, fun sz b xs hq => this.2 sz b xs (tk_own hq)⟩
                obtain ⟨O1, g1, g2, g3, g4⟩ := take_perm hh (.slot (o.dst.getD 0)) hcr (pp := st.perms) fun g i hgi => ⟨hgi, by simp⟩
                have he1 : EnvRel O1 w ([(s, .box (splice bcs off [cp c]))] ++ e) a.tmps := by
                  refine he.next g2 g3 (fun q => ?_) fun q r o2 cs2 f1 f2 => ?_
                  · simp only [List.cons_append, List.nil_append, get]
                    by_cases hq : s = q
                    · subst hq
                      rw [if_pos rfl]
                      right
                      refine ⟨b, rc, ty', e1, g3 b s h1, q3, by rw [q4]; simp [splice]; omega, fun i c' y' k1 k2 => ?_⟩
                      rw [splice_one hl2] at k1
                      by_cases hi : i = off
                      · rw [if_pos hi] at k1
                        simp only [Option.some.injEq] at k1
                        subst k1 hi
                        rw [hy'] at k2
                        simp only [Option.some.injEq] at k2
                        subst k2
                        refine ⟨by rw [cp_cp]; exact g2.vrel hvy, fun sz b xs hq => absurd hq (cp_not_own _)⟩
                      · rw [if_neg hi] at k1
                        exact g2.crel (q5 i c' y' k1 k2) (by simpa using hi)
                    · rw [if_neg hq]
                      exact .inl ⟨rfl, trivial, by simp, by simp, fun i => by simp [Ne.symm hq]⟩
                  · simp only [List.cons_append, List.nil_append, get] at f1 f2
                    by_cases hq : s = q
                    · rw [if_pos hq] at f1; cases f1
                    · rw [if_neg hq] at f1
                      left
                      refine ⟨f1, ?_, rfl, rfl⟩
                      by_cases hr : s = r
                      · subst hr; exact ⟨bcs, hb⟩
                      · rw [if_neg hr] at f2; exact ⟨cs2, f2⟩
                refine ⟨y, w, O1, .inl hrun, ?_, g1, g2.weak fun t ht => .inr (.inr ⟨_, ht⟩)⟩
                exact he1.putC (v := c) hd fun d hdd => by rw [hdd] at g4; exact g4
              · simp at hwr
            · simp at hwr
          · simp at hwr
        | _ => simp [writeAt] at hwr <;> first | exact absurd rfl (hne1 _) | exact absurd rfl (hne2 _ _ _)
    · simp at hv
  · simp at hk
end
end Go.Proofs.YtibhcmacccfakaaGreatDoor
namespace Go.Proofs.YtibhcmacccfakaaGreatDoor
variable [Sym]

section
variable {M : Mem} {K : KMap}

/-- Elements of sz cells each, laid one behind the other. -/
def FRel (M : Mem) (K : KMap) (sz : Nat) (xs : List (List GV)) (A : List Value) : Prop :=
  (∀ x, x ∈ xs → x.length = sz) ∧ A.length = xs.length * sz ∧
    ∀ (i j : Nat) (x : List GV) (c : GV) (y : Value), xs[i]? = some x → x[j]? = some c → A[i * sz + j]? = some y → VRel M K c y

theorem FRel.nil {sz : Nat} : FRel M K sz [] [] := ⟨by simp, by simp, fun i j x c y h => by simp at h⟩

theorem FRel.mono {M' : Mem} {K' : KMap} {sz : Nat} {xs : List (List GV)} {A : List Value} (h : FRel M K sz xs A) (hm : ∀ {c : GV} {y : Value}, VRel M K c y → VRel M' K' c y) : FRel M' K' sz xs A :=
  ⟨h.1, h.2.1, fun i j x c y h1 h2 h3 => hm (h.2.2 i j x c y h1 h2 h3)⟩

theorem mul_lt {i j n sz : Nat} (hi : i < n) (hj : j < sz) : i * sz + j < n * sz := by
  have := Nat.mul_le_mul_right sz (show i + 1 ≤ n by omega)
  rw [Nat.add_mul] at this
  omega

theorem FRel.append {sz : Nat} {xs ys : List (List GV)} {A B : List Value} (h : FRel M K sz xs A) (h' : FRel M K sz ys B) : FRel M K sz (xs ++ ys) (A ++ B) := by
  refine ⟨fun x hx => ?_, by simp [h.2.1, h'.2.1, Nat.add_mul], fun i j x c y h1 h2 h3 => ?_⟩
  · rcases List.mem_append.1 hx with hx | hx
    · exact h.1 x hx
    · exact h'.1 x hx
  · rw [List.getElem?_append] at h1
    split at h1
    · rename_i hi
      have hj : j < sz := by
        have := (List.getElem?_eq_some_iff.1 h2).1
        rw [h.1 x (List.mem_of_getElem? h1)] at this; exact this
      rw [List.getElem?_append_left (by rw [h.2.1]; exact mul_lt hi hj)] at h3
      exact h.2.2 i j x c y h1 h2 h3
    · rename_i hi
      simp only [Nat.not_lt] at hi
      have he : i * sz = xs.length * sz + (i - xs.length) * sz := by rw [← Nat.add_mul]; congr 1; omega
      rw [List.getElem?_append_right (by rw [h.2.1]; omega), h.2.1] at h3
      refine h'.2.2 (i - xs.length) j x c y h1 h2 ?_
      rw [← h3]; congr 1; omega

theorem FRel.take {sz : Nat} {xs : List (List GV)} {A : List Value} (h : FRel M K sz xs A) (n : Nat) : FRel M K sz (xs.take n) (A.take (n * sz)) := by
  refine ⟨fun x hx => h.1 x (List.mem_of_mem_take hx), ?_, fun i j x c y h1 h2 h3 => ?_⟩
  · simp only [List.length_take, h.2.1]
    rw [Nat.min_def, Nat.min_def]
    by_cases hn : n ≤ xs.length
    · rw [if_pos hn, if_pos (Nat.mul_le_mul_right sz hn)]
    · rw [if_neg hn]
      split
      · rename_i hq
        have : xs.length * sz ≤ n * sz := Nat.mul_le_mul_right sz (by omega)
        omega
      · rfl
  · rw [List.getElem?_take] at h1 h3
    split at h1
    · split at h3
      · exact h.2.2 i j x c y h1 h2 h3
      · simp at h3
    · simp at h1

theorem flatten_get {sz : Nat} : ∀ {xs : List (List GV)} {k : Nat} {c : GV}, (∀ x, x ∈ xs → x.length = sz) → xs.flatten[k]? = some c →
    ∃ i j x, k = i * sz + j ∧ xs[i]? = some x ∧ x[j]? = some c
  | [], k, c, _, h => by simp at h
  | x :: r, k, c, hs, h => by
    rw [List.flatten_cons, List.getElem?_append] at h
    have hx := hs x (by simp)
    split at h
    · exact ⟨0, k, x, by simp, rfl, h⟩
    · rename_i hk
      obtain ⟨i, j, y, h1, h2, h3⟩ := flatten_get (fun y hy => hs y (List.mem_cons_of_mem _ hy)) h
      refine ⟨i + 1, j, y, ?_, by simpa using h2, h3⟩
      rw [Nat.add_mul]
      omega

theorem flatten_length {sz : Nat} : ∀ {xs : List (List GV)}, (∀ x, x ∈ xs → x.length = sz) → xs.flatten.length = xs.length * sz
  | [], _ => by simp
  | x :: r, h => by
    rw [List.flatten_cons, List.length_append, flatten_length fun y hy => h y (List.mem_cons_of_mem _ hy), h x (by simp), List.length_cons, Nat.add_mul]
    omega

theorem FRel.flat {sz : Nat} {xs : List (List GV)} {A : List Value} (h : FRel M K sz xs A) : LRel M K xs.flatten A.toArray := by
  refine ⟨by simp [h.2.1, flatten_length h.1], fun k c y h1 h2 => ?_⟩
  obtain ⟨i, j, x, rfl, h3, h4⟩ := flatten_get h.1 h1
  exact h.2.2 i j x c y h3 h4 (by simpa using h2)

theorem chunks_length (sz : Nat) : ∀ (n : Nat) (cs : List GV), (chunks sz n cs).length = n
  | 0, _ => rfl
  | n + 1, cs => by simp [chunks, chunks_length sz n]
theorem chunks_rel {sz : Nat} : ∀ {n : Nat} {cs : List GV} {A : Array Value}, LRel M K cs A → n * sz ≤ cs.length → FRel M K sz (chunks sz n cs) (A.toList.take (n * sz))
  | 0, cs, A, _, _ => by simpa [chunks] using FRel.nil
  | n + 1, cs, A, h, hn => by
    rw [Nat.add_mul, Nat.one_mul] at hn
    have h1 : LRel M K (cs.take sz) (A.extract 0 sz) := by
      have := h.extract 0 sz
      simpa using this
    have h2 : LRel M K (cs.drop sz) (A.extract sz (sz + (cs.length - sz))) := by
      have := h.extract sz (cs.length - sz)
      rwa [List.take_of_length_le (by simp)] at this
    have h3 := chunks_rel (sz := sz) (n := n) h2 (by simp; omega)
    have h4 : FRel M K sz [cs.take sz] ((A.extract 0 sz).toList) := by
      refine ⟨fun x hx => ?_, ?_, fun i j x c y g1 g2 g3 => ?_⟩
      · simp only [List.mem_singleton] at hx; subst hx; simp; omega
      · simp [h.1]; omega
      · cases i with
        | zero =>
          simp only [List.getElem?_cons_zero, Option.some.injEq] at g1
          subst g1
          rw [Nat.zero_mul, Nat.zero_add, Array.getElem?_toList] at g3
          exact h1.2 j c y g2 g3
        | succ i => simp at g1
    have h5 := h4.append h3
    have e1 : chunks sz (n + 1) cs = [cs.take sz] ++ chunks sz n (cs.drop sz) := by
      simp only [chunks, List.singleton_append]
      congr 1
      exact h1.map_cp
    rw [e1]
    have e2 : A.toList.take ((n + 1) * sz) = (A.extract 0 sz).toList ++ (A.extract sz (sz + (cs.length - sz))).toList.take (n * sz) := by
      have hA := h.1
      rw [Nat.add_mul, Nat.one_mul, Nat.add_comm, List.take_add]
      congr 1
      · simp [List.extract_eq_take_drop]
      · simp only [Array.toList_extract, List.extract_eq_take_drop]
        rw [show sz + (cs.length - sz) - sz = cs.length - sz by omega, List.take_take]
        congr 1; omega
    rw [e2]; exact h5
end

section
variable {P : Program} {G : Glob} {O : Own} {w w' : World} {st st' : St} {e : Env} {a : Act} {o : Oper} {v : GV} {u : Env} {tmps : Array Value}

theorem cell_heap {w2 : World} (h : w2.heap = w.heap) (x : Addr) : w2.cell? x = w.cell? x := by simp only [World.cell?, h]

theorem run_first {n sz : Nat} {b off : Nat} {len cap : Nat} {B : List Value} (hB : B.length = n * sz) (hc : ∀ (j : Nat) (y : Value), B[j]? = some y → w.cell? ⟨b, off + j, none⟩ = some y) {w2 : World} (hw : w2.heap = w.heap) :
    (Builtin.firstCells sz n (.slice (some ⟨b, off, none⟩) len cap)).run P w2 = .ok B.toArray w2 := by
  have := run_loadCells_list (P := P) w2 ⟨b, off, none⟩ B fun j y hy => by rw [add_none, cell_heap hw]; exact hc j y hy
  simp only [Builtin.firstCells]
  rw [← hB]; exact this

/-- What a slice's elements are. -/
theorem elems_rel (hh : HInv P G O st w) {sz : Nat} {gx : GV} {x : Value} (hx : VRel O.M O.K gx x) {ys : List (List GV)} (h : elems st.heap sz gx = some ys) :
    ∃ B : List Value, FRel O.M O.K sz ys B ∧ (∀ w2 : World, w2.heap = w.heap → (Builtin.lenOf x).run P w2 = .ok ys.length w2 ∧ ∀ n, n ≤ ys.length → (Builtin.firstCells sz n x).run P w2 = .ok (B.take (n * sz)).toArray w2) := by
  cases hx <;> simp only [elems, reduceCtorEq] at h
  case str s =>
    split at h
    · rename_i hs; subst hs
      simp only [Option.some.injEq] at h; subst h
      refine ⟨s.data.toList.map fun b => .int .u8 b.toNat, ⟨by simp, by simp, fun i j x c y h1 h2 h3 => ?_⟩, fun w2 hw => ⟨by simp only [Builtin.lenOf, Sem.run_pure, List.length_map]; rfl, fun n hn => ?_⟩⟩
      · simp only [List.getElem?_map, Option.map_eq_some_iff] at h1
        obtain ⟨b, hb, rfl⟩ := h1
        cases j with
        | zero =>
          simp only [List.getElem?_cons_zero, Option.some.injEq] at h2
          subst h2
          simp only [Nat.mul_one, Nat.add_zero, List.getElem?_map, hb, Option.map_some, Option.some.injEq] at h3
          subst h3; exact .int _ _
        | succ j => simp at h2
      · simp only [Builtin.firstCells, Sem.run_pure]
        congr 1
        apply Array.ext'
        simp [ByteArray.data_extract, List.extract_eq_take_drop, List.map_take]
    · simp at h
  case slnil z c hc =>
    split at h
    · simp only [Option.some.injEq] at h; subst h
      refine ⟨[], FRel.nil, fun w2 hw => ⟨by simp [Builtin.lenOf], fun n hn => ?_⟩⟩
      simp [Builtin.firstCells]
    · simp at h
  case sl z c xs b off cap f hc he hl hs hm hr =>
    split at h
    · rename_i hz
      simp only [Option.some.injEq] at h; subst h
      rcases hz with rfl | rfl
      · refine ⟨(List.range (xs.length * z)).map f, ⟨hs, by simp, fun i j x c y h1 h2 h3 => ?_⟩, fun w2 hw => ⟨by simp [Builtin.lenOf], fun n hn => ?_⟩⟩
        · have hi := (List.getElem?_eq_some_iff.1 h1).1
          have hj := (List.getElem?_eq_some_iff.1 h2).1
          rw [hs x (List.mem_of_getElem? h1)] at hj
          have := mul_lt hi hj
          simp [this] at h3
          subst h3
          exact hr i j x c h1 h2
        · have hle : n * z ≤ xs.length * z := Nat.mul_le_mul_right z hn
          refine run_first (w := w) (by rw [List.length_take, List.length_map, List.length_range]; exact Nat.min_eq_left hle) (fun j y hy => ?_) hw
          have hj := (List.getElem?_eq_some_iff.1 hy).1
          simp only [List.length_take, List.length_map, List.length_range, Nat.lt_min] at hj
          rw [List.getElem?_take, if_pos hj.1, List.getElem?_map, List.getElem?_range hj.2] at hy
          simp only [Option.map_some, Option.some.injEq] at hy
          subst hy
          exact (hh.mem _ _ _ (hm j hj.2)).1
      · refine ⟨[], FRel.nil, fun w2 hw => ⟨by simp [Builtin.lenOf], fun n hn => ?_⟩⟩
        have : n = 0 := by simpa using hn
        subst this
        exact run_first (w := w) (by simp) (fun j y hy => by simp at hy) hw
    · simp at h
  case msl g ver off n z cap b o' k hk hv hl ha =>
    split at h
    · rename_i v' cs hg
      split at h
      · rename_i hc
        obtain ⟨rfl, rfl, hc⟩ := hc
        simp only [Option.some.injEq] at h; subst h
        obtain ⟨k', rc, ty, k1, k2, k3, k4, k5, k6, k7⟩ := hh.obj g _ hg
        rw [k1] at hk
        simp only [Option.some.injEq] at hk; subst hk
        obtain ⟨rfl, rfl, _⟩ := ha k2.symm
        have hL : LRel O.M O.K (cs.drop off) (rc.extract (k'.o + off) (k'.o + cs.length)) := by
          refine ⟨by simp; omega, fun i c y h1 h2 => ?_⟩
          simp only [List.getElem?_drop] at h1
          simp only [Array.getElem?_extract] at h2
          split at h2
          · rw [Nat.add_assoc] at h2; exact k7 _ c y h1 h2
          · simp at h2
        refine ⟨_, chunks_rel (n := n) hL (by simp; omega), fun w2 hw => ⟨by simp [Builtin.lenOf, chunks_length], fun m hm => ?_⟩⟩
        rw [chunks_length] at hm
        have hle : m * z ≤ n * z := Nat.mul_le_mul_right z hm
        refine run_first (w := w) (by simp; omega) (fun j y hy => ?_) hw
        rw [cell_at k4]
        simp only [List.take_take, List.getElem?_take, Array.getElem?_toList, Array.getElem?_extract] at hy
        split at hy
        · split at hy
          · exact hy
          · simp at hy
        · simp at hy
      · simp at h
    · simp at h
end
end Go.Proofs.YtibhcmacccfakaaGreatDoor
namespace Go.Proofs.YtibhcmacccfakaaGreatDoor
variable [Sym]

section
variable {M : Mem} {K : KMap}

/-- Zero cells, one element behind the other. -/
theorem zeroRow_rel {sz : Nat} {z : List GV} {Z : Array Value} (hz : LRel M K z Z) (hl : z.length = sz) {l c : Nat} (h : l ≤ c) :
    FRel M K sz (List.replicate l z) ((((Array.range (c * sz)).map fun i => Z[i % Z.size]!).toList).take (l * sz)) := by
  have hZ : Z.size = sz := by rw [hz.1, hl]
  have hle : l * sz ≤ c * sz := Nat.mul_le_mul_right sz h
  refine ⟨fun x hx => by rw [List.eq_of_mem_replicate hx]; exact hl, by rw [List.length_take, Array.length_toList, Array.size_map, Array.size_range, List.length_replicate]; exact Nat.min_eq_left hle, fun i j x cc y h1 h2 h3 => ?_⟩
  have hi := (List.getElem?_eq_some_iff.1 h1).1
  simp only [List.length_replicate] at hi
  have hx : x = z := List.eq_of_mem_replicate (List.mem_of_getElem? h1)
  subst hx
  have hj := (List.getElem?_eq_some_iff.1 h2).1
  rw [hl] at hj
  have hlt := mul_lt hi hj
  rw [List.getElem?_take, if_pos hlt, Array.getElem?_toList, Array.getElem?_map, Array.getElem?_range, if_pos (by omega)] at h3
  simp only [Option.map_some, Option.some.injEq] at h3
  have hmod : (i * sz + j) % Z.size = j := by
    rw [hZ, Nat.add_comm, Nat.add_mul_mod_self_right, Nat.mod_eq_of_lt hj]
  rw [hmod] at h3
  have hy : Z[j]? = some y := by
    rw [← h3]
    rw [getElem!_pos Z j (by omega)]
    simp
  exact hz.2 j cc y h2 hy

theorem FRel.set {sz : Nat} {xs : List (List GV)} {A : Array Value} (h : FRel M K sz xs A.toList) {i : Nat} {vs : List GV} {V : Array Value} (hV : LRel M K vs V) (hl : vs.length = sz) (hi : i < xs.length) {C : Array Value}
    (hC : C.size = A.size) (hg : ∀ k, C[k]? = if i * sz ≤ k ∧ k < i * sz + sz then V[k - i * sz]? else A[k]?) : FRel M K sz (xs.set i vs) C.toList := by
  refine ⟨fun x hx => ?_, by rw [Array.length_toList, hC, ← Array.length_toList, h.2.1, List.length_set], fun i' j x c y h1 h2 h3 => ?_⟩
  · rcases List.mem_or_eq_of_mem_set hx with hx | rfl
    · exact h.1 x hx
    · exact hl
  · rw [Array.getElem?_toList, hg] at h3
    rw [List.getElem?_set] at h1
    by_cases hii : i = i'
    · subst hii
      rw [if_pos rfl, if_pos hi] at h1
      simp only [Option.some.injEq] at h1; subst h1
      have hj := (List.getElem?_eq_some_iff.1 h2).1
      rw [if_pos ⟨by omega, by omega⟩, show i * sz + j - i * sz = j by omega] at h3
      exact hV.2 j c y h2 h3
    · rw [if_neg hii] at h1
      have hj := (List.getElem?_eq_some_iff.1 h2).1
      rw [h.1 x (List.mem_of_getElem? h1)] at hj
      have hout : ¬ (i * sz ≤ i' * sz + j ∧ i' * sz + j < i * sz + sz) := by
        rintro ⟨h4, h5⟩
        rcases Nat.lt_or_ge i i' with h6 | h6
        · have := Nat.mul_le_mul_right sz (show i + 1 ≤ i' by omega)
          rw [Nat.add_mul] at this
          omega
        · have := Nat.mul_le_mul_right sz (show i' + 1 ≤ i by omega)
          rw [Nat.add_mul] at this
          omega
      rw [if_neg hout] at h3
      exact h.2.2 i' j x c y h1 h2 (by simpa using h3)
end

section
variable {P : Program} {G : Glob} {O : Own} {w w' : World} {st st' : St} {e : Env} {a : Act} {o : Oper} {v : GV} {u : Env} {tmps : Array Value}

theorem fillE_rel (he : EnvRel O w e a.tmps) (hh : HInv P G O st w) {sz : Nat} : ∀ {ps : List (Nat × Operand)} {qs : List (Nat × GX)} {xs xs' : List (List GV)} {A : Array Value},
    okEls G ps qs = true → FRel O.M O.K sz xs A.toList → fillElems e sz xs qs = some xs' →
      ∃ A', Instr.fill (fun i => some (i * sz, sz)) A (ps.map fun p => (p.1, a.eval p.2)) = some A' ∧ FRel O.M O.K sz xs' A'.toList ∧ xs'.length = xs.length
  | [], [], xs, xs', A, _, hA, hf => by
    simp only [fillElems, Option.some.injEq] at hf
    subst hf
    exact ⟨A, rfl, hA, rfl⟩
  | [], _ :: _, _, _, _, h, _, _ => by simp [okEls] at h
  | _ :: _, [], _, _, _, h, _, _ => by simp [okEls] at h
  | (i, X) :: r, (j, y) :: q, xs, xs', A, h, hA, hf => by
    simp only [okEls, Bool.and_eq_true, beq_iff_eq] at h
    obtain ⟨⟨rfl, hx⟩, hr⟩ := h
    have hx := rd_rel he hh hx
    simp only [fillElems] at hf
    split at hf
    · rename_i hc
      obtain ⟨hd, hn, hi⟩ := hc
      have hV := hx.cells hd
      have hsz : A.size = xs.length * sz := by have := hA.2.1; simpa using this
      have hle : i * sz + sz ≤ xs.length * sz := by
        have := Nat.mul_le_mul_right sz (show i + 1 ≤ xs.length by omega)
        rw [Nat.add_mul] at this; omega
      have h1 := set_fold (i * sz) (a.eval X).cells.toList 0 A (by simp [hV.1]; omega)
      have e1 : (a.eval X).cells.zipIdx.foldl (fun cs (c, j) => cs.setIfInBounds (i * sz + j) c) A = ((a.eval X).cells.toList.zipIdx 0).foldl (fun cs p => cs.setIfInBounds (i * sz + p.2) p.1) A := by
        rw [← Array.foldl_toList]; simp
      have hF := hA.set hV hn hi h1.1 fun k => by
        rw [h1.2]
        simp [hV.1, hn]
      obtain ⟨A', g1, g2, g3⟩ := fillE_rel he hh hr hF hf
      refine ⟨A', ?_, g2, by rw [g3]; simp⟩
      simp only [List.map_cons, Instr.fill]
      rw [if_neg]
      · rw [e1]; exact g1
      · simp only [Bool.or_eq_true, decide_eq_true_eq, not_or, ne_eq, hV.1, hn, not_true_eq_false, not_false_eq_true, true_and]
        omega
    · simp at hf

/-- A new row of a slice that may grow in place. -/
theorem ownNew {e1 : Env} (he : EnvRel O w e1 a.tmps) (hh : HInv P G O st w) (hd : ∀ d, o.dst = some d → d < a.tmps.size) {sz cap : Nat} {xs : List (List GV)} {A : Array Value} {ty : TypeId}
    (hr : FRel O.M O.K sz xs (A.toList.take (xs.length * sz))) (hA : A.size = cap * sz) (hl : xs.length ≤ cap) (hp : Pushed w w' (.cells A ty)) :
    ∃ O', EnvRel O' w' (dstU o.dst (.sl sz false .own xs) e1) (a.put o.dst (.slice (some ⟨w.heap.size, 0, none⟩) xs.length cap)).tmps ∧ HInv P G O' st w' ∧ Stp (fun _ => False) O w O' w' := by
  let m : Nat → Option Value := fun j => if j < xs.length * sz then A[j]? else none
  have hle : xs.length * sz ≤ cap * sz := Nat.mul_le_mul_right sz hl
  have hs := Stp.alloc hh hp (.perm (.slot (o.dst.getD 0))) m
  refine ⟨O.newB w.heap.size (.perm (.slot (o.dst.getD 0))) m, ?_, hh.alloc hp _ _ fun j y hj => ?_, hs⟩
  · have he' := he.step0 hh hs (fun _ => id) (fun _ => id) (fun _ _ => id)
    refine he'.putC (v := .sl sz false .own xs) hd fun d hdd => ⟨?_, fun sz' b' xs' hq => ?_⟩
    · simp only [tk, cp]
      refine .sl (b := w.heap.size) (o := 0) (f := fun j => A.getD j undef) (by decide) (fun q => by cases q) hl hr.1 (fun j hj => ?_) fun i j x c h1 h2 => ?_
      · simp only [Own.newB, if_true, m, Nat.zero_add, if_pos hj]
        rw [Array.getD_eq_getD_getElem?, Array.getElem?_eq_getElem (by omega)]; rfl
      · have hi := (List.getElem?_eq_some_iff.1 h1).1
        have hj := (List.getElem?_eq_some_iff.1 h2).1
        rw [hr.1 x (List.mem_of_getElem? h1)] at hj
        have hlt := mul_lt hi hj
        refine hs.vrel (hr.2.2 i j x c _ h1 h2 ?_)
        rw [List.getElem?_take, if_pos hlt, Array.getElem?_toList, Array.getElem?_eq_getElem (by omega), Array.getD_eq_getD_getElem?, Array.getElem?_eq_getElem (by omega)]; rfl
    · simp only [tk, GV.sl.injEq] at hq
      obtain ⟨rfl, rfl, _, rfl⟩ := hq
      refine ⟨w.heap.size, 0, cap, A, ty, rfl, by simp [Own.newB, hdd], hp.get.1, by omega, fun j hj => ?_⟩
      simp only [Own.newB, if_true, m]
      rw [if_neg (by omega)]
  · simp only [m] at hj
    split at hj
    · exact ⟨⟨A, ty, _, rfl, hj⟩, .inr ⟨_, rfl⟩⟩
    · simp at hj

/-- A new row of a slice of a ghost block. -/
theorem mslNew {e1 : Env} (he : EnvRel O w e1 a.tmps) (hh : HInv P G O st w) (hd : ∀ d, o.dst = some d → d < a.tmps.size) {sz cap : Nat} {xs : List (List GV)} {A : Array Value} {ty : TypeId}
    (hr : FRel O.M O.K sz xs (A.toList.take (xs.length * sz))) (hA : A.size = cap * sz) (hl : xs.length ≤ cap) (hp : Pushed w w' (.cells A ty)) :
    ∃ O', EnvRel O' w' (dstU o.dst (.msl st.heap.length 0 0 xs.length sz) e1) (a.put o.dst (.slice (some ⟨w.heap.size, 0, none⟩) xs.length cap)).tmps ∧ HInv P G O' (st.new (.cells 0 xs.flatten)) w' ∧ Stp (fun _ => False) O w O' w' := by
  have hle : xs.length * sz ≤ cap * sz := Nat.mul_le_mul_right sz hl
  have hs := (Stp.alloc hh hp (.heap st.heap.length) fun _ => none).bindK (k := ⟨w.heap.size, 0, 0, A.size⟩) (hh.kdom _ (Nat.le_refl _))
  have he' := he.step0 hh hs (fun _ => id) (fun _ => id) (fun _ _ => id)
  refine ⟨_, ?_, hh.allocObj hp (.cells 0 xs.flatten) ⟨w.heap.size, 0, 0, A.size⟩ ?_, hs⟩
  · refine he'.putA hd (.of_vrel (.msl (k := ⟨w.heap.size, 0, 0, A.size⟩) (by simp [Own.bindK]) (Nat.le_refl _) hl fun _ => ⟨rfl, rfl, by simp only; omega⟩))
  · refine ⟨⟨w.heap.size, 0, 0, A.size⟩, A, ty, by simp [Own.bindK], rfl, by simp [Own.bindK, Own.newB], hp.get.1, rfl, by rw [flatten_length hr.1]; simp only; omega, fun i c y h1 h2 => ?_⟩
    have hi := (List.getElem?_eq_some_iff.1 h1).1
    rw [flatten_length hr.1] at hi
    refine hs.vrel (hr.flat.2 i c y h1 ?_)
    simp only [Nat.zero_add] at h2
    simp [List.getElem?_take, hi, h2]

theorem sim_bsl (he : EnvRel O w e a.tmps) (hh : HInv P G O st w) (hd : ∀ d, o.dst = some d → d < a.tmps.size) {C : Call} {V : CallV} {sz n : Nat} {z : List GV} {ps : List (Nat × GX)} {mu : Bool}
    (hk : okOp P G o.op (.bsl sz n z ps mu) = true) (hv : effOp C V e st (.bsl sz n z ps mu) = some (v, u, st')) : EffSim P G O w e a o v u st' := by
  simp only [effOp, Option.bind_eq_bind, Option.bind_eq_some_iff] at hv
  obtain ⟨xs, hxs, hv⟩ := hv
  unfold okOp at hk; dsimp only at hk
  split at hk
  · rename_i t n' qs ho
    simp only [Bool.and_eq_true, beq_iff_eq] at hk
    obtain ⟨rfl, hk⟩ := hk
    split at hk
    · rename_i el hsl
      simp only [Bool.and_eq_true, beq_iff_eq, decide_eq_true_eq] at hk
      obtain ⟨⟨⟨⟨hs, hz⟩, hzl⟩, hb⟩, hels⟩ := hk
      have hu := sliceOf_inv hsl
      obtain ⟨i, zz, hi, hzz, hc⟩ := zeroIs_inv hz
      have hz0 : LRel O.M O.K z zz.cells := okCL_lrel hc
      have hrow := zeroRow_rel hz0 hzl (Nat.le_refl n')
      obtain ⟨A, h1, h2, h3⟩ := fillE_rel he hh (A := (Array.range (n' * sz)).map fun i => zz.cells[i % zz.cells.size]!) hels (by
        have := hrow
        rwa [List.take_of_length_le (by simp)] at this) hxs
      simp only [List.length_replicate] at h3
      have hAs : A.size = n' * sz := by have := h2.2.1; rw [h3] at this; simpa using this
      have hrun : Gives P w a o (.slice (some ⟨w.heap.size, 0, none⟩) n' n') { w with heap := w.heap.push (.cells A el) } := by
        have h1' : Instr.fill (fun i => some (i * sz, sz)) ((Array.range (n' * sz)).map fun i => zz.cells[i % zz.cells.size]!) (qs.map fun p => (p.1, a.eval p.2)).toList = some A := by
          rw [Array.toList_map]; exact h1
        simp only [Gives, execOp, ho, Instr.buildSlice, Sem.run_bind, run_underlying hu, Result.andThen_ok, run_sizeOf hs]
        rw [if_neg (show ¬ (n' * sz > 2 ^ 24) by omega)]
        by_cases h0 : n' * sz = 0
        · rw [if_pos h0]
          have h1'' : Instr.fill (fun i => some (i * sz, sz)) ((Array.range (n' * sz)).map fun i => (#[] : Array Value)[i % (#[] : Array Value).size]!) (qs.map fun p => (p.1, a.eval p.2)).toList = some A := by
            rw [h0] at h1' ⊢
            simp only [Array.range_zero', Array.map_empty] at h1' ⊢; exact h1'
          simp only [Sem.run_bind, Sem.run_pure, Result.andThen_ok, h1'']
          simp [newRow]
        · rw [if_neg h0]
          simp only [Sem.run_bind, Sem.run_pure, Result.andThen_ok, run_zeroValue hi hzz, h1']
          simp [newRow]
      have hp := Pushed.of w (.cells A el)
      have h2' : FRel O.M O.K sz xs (A.toList.take (xs.length * sz)) := by
        rw [List.take_of_length_le (by rw [h2.2.1]; exact Nat.le_refl _)]; exact h2
      cases mu with
      | true =>
        simp only [if_true, Option.some.injEq, Prod.mk.injEq] at hv
        obtain ⟨rfl, rfl, rfl⟩ := hv
        obtain ⟨O1, g1, g2, g3⟩ := mslNew he hh hd h2' (cap := n') hAs (by omega) hp
        rw [h3] at g1
        exact ⟨_, _, O1, .inl hrun, g1, g2, g3.weak fun _ h => h.elim⟩
      | false =>
        simp only [Bool.false_eq_true, if_false, Option.some.injEq, Prod.mk.injEq] at hv
        obtain ⟨rfl, rfl, rfl⟩ := hv
        have hst := Stp.alloc hh hp .other fun j => A[j]?
        refine ⟨_, _, _, .inl hrun, ?_, hh.alloc hp .other (fun j => A[j]?) (fun j y hj => ⟨⟨A, el, _, rfl, hj⟩, .inl rfl⟩), hst.weak fun _ h => h.elim⟩
        refine (he.step0 hh hst (fun _ => id) (fun _ => id) (fun _ _ => id)).putA hd (.of_vrel ?_)
        rw [← h3]
        refine .sl (b := w.heap.size) (o := 0) (f := fun j => A.getD j undef) (by decide) (fun _ => rfl) (Nat.le_refl _) h2.1 (fun j hj => ?_) fun i j x c h4 h5 => ?_
        · simp only [Own.newB, if_true, Nat.zero_add]
          rw [h3] at hj
          rw [Array.getD_eq_getD_getElem?, Array.getElem?_eq_getElem (by omega)]; rfl
        · have hi := (List.getElem?_eq_some_iff.1 h4).1
          have hj := (List.getElem?_eq_some_iff.1 h5).1
          rw [h2.1 x (List.mem_of_getElem? h4)] at hj
          have hlt := mul_lt hi hj
          rw [h3] at hlt
          refine hst.vrel (h2.2.2 i j x c _ h4 h5 ?_)
          rw [Array.getElem?_toList, Array.getElem?_eq_getElem (by omega), Array.getD_eq_getD_getElem?, Array.getElem?_eq_getElem (by omega)]; rfl
    · simp at hk
  · simp at hk

theorem wrap_small {n : Nat} (h : n ≤ 2 ^ 40) : IntKind.i64.wrap n = n := by
  have h1 : (n : Int) % 18446744073709551616 = n := by omega
  have h2 : ¬ ((n : Int) ≥ 9223372036854775808) := by omega
  simp [IntKind.wrap, IntKind.bits, IntKind.signed, h1, h2]

theorem sim_mkSlice (he : EnvRel O w e a.tmps) (hh : HInv P G O st w) (hd : ∀ d, o.dst = some d → d < a.tmps.size) {C : Call} {V : CallV} {sz bytes : Nat} {z : List GV} {lx cx : GX} {pers : Bool}
    (hk : okOp P G o.op (.mkSlice sz bytes z lx cx pers) = true) (hv : effOp C V e st (.mkSlice sz bytes z lx cx pers) = some (v, u, st')) : EffSim P G O w e a o v u st' := by
  simp only [effOp, Option.bind_eq_bind, Option.bind_eq_some_iff] at hv
  obtain ⟨l, hl, c, hc, hv⟩ := hv
  obtain ⟨kl, hl⟩ := asNat_inv hl
  obtain ⟨kc, hc⟩ := asNat_inv hc
  unfold okOp at hk; dsimp only at hk
  split at hk
  · rename_i t L Cx ho
    simp only [Bool.and_eq_true] at hk
    obtain ⟨⟨hL, hC⟩, hk⟩ := hk
    have hL := rd_rel he hh hL
    have hC := rd_rel he hh hC
    rw [hl] at hL; rw [hc] at hC
    have hL := hL.int_inv
    have hC := hC.int_inv
    split at hk
    · rename_i el hsl
      simp only [Bool.and_eq_true, beq_iff_eq] at hk
      obtain ⟨⟨⟨hs, hby⟩, hz⟩, hzl⟩ := hk
      have hu := sliceOf_inv hsl
      obtain ⟨i, zz, hi, hzz, hcc⟩ := zeroIs_inv hz
      obtain ⟨i', hi', rfl⟩ := bytesAre_inv hby
      rw [hi] at hi'
      simp only [Option.some.injEq] at hi'; subst hi'
      have hz0 : LRel O.M O.K z zz.cells := okCL_lrel hcc
      split at hv
      · rename_i hb
        obtain ⟨hlc, hb1, hb2⟩ := hb
        simp only [bound] at hb1 hb2
        let A := (Array.range (c * sz)).map fun i => zz.cells[i % zz.cells.size]!
        have hrow := zeroRow_rel (c := c) hz0 hzl hlc
        have hAs : A.size = c * sz := by simp [A]
        have hrun : Gives P w a o (.slice (some ⟨w.heap.size, 0, none⟩) l c) { w with heap := w.heap.push (.cells A el) } := by
          have hw1 := wrap_small (show l ≤ 2 ^ 40 by omega)
          have hw2 := wrap_small (show c ≤ 2 ^ 40 by omega)
          have hbig : ¬ ((2 : Int) ^ 48 < (i.bytes : Int) * (c : Int)) := by
            have : ((i.bytes * c : Nat) : Int) ≤ 2 ^ 40 := by rw [Nat.mul_comm]; exact_mod_cast hb1
            push_cast at this
            omega
          have hneg : ¬ ((c : Int) < 0) := by omega
          have hneg2 : ¬ ((l : Int) < 0) := by omega
          have hgt : ¬ ((c : Int) < (l : Int)) := by omega
          simp only [Gives, execOp, ho, Instr.makeSlice, Sem.run_bind, run_underlying hu, Result.andThen_ok, hL, hC, asInt, asIntOf, Sem.run_pure, run_typeInfo hi, hw1, hw2, gt_iff_lt, hbig, hneg, hneg2, hgt, decide_false, Bool.or_self, Bool.false_eq_true, if_false, run_askRoom, run_sizeOf hs, Int.toNat_natCast]
          by_cases h0 : c * sz = 0
          · rw [if_pos h0]
            have hA : A = (Array.range (c * sz)).map fun x => (#[] : Array Value)[x % (#[] : Array Value).size]! := by
              simp only [A, h0, Array.range_zero', Array.map_empty]
            simp only [Sem.run_bind, Sem.run_pure, Result.andThen_ok, ← hA]
            simp [newRow]
          · rw [if_neg h0]
            simp only [Sem.run_bind, Sem.run_pure, Result.andThen_ok, run_zeroValue hi hzz]
            simp [newRow, A]
        have hp := Pushed.of w (.cells A el)
        have hrow' : FRel O.M O.K sz (List.replicate l z) (A.toList.take ((List.replicate l z).length * sz)) := by rw [List.length_replicate]; exact hrow
        split at hv
        · simp only [Option.some.injEq, Prod.mk.injEq] at hv
          obtain ⟨rfl, rfl, rfl⟩ := hv
          obtain ⟨O1, g1, g2, g3⟩ := ownNew he hh hd hrow' (cap := c) hAs (by simpa using hlc) hp
          rw [List.length_replicate] at g1
          exact ⟨_, _, O1, .inl hrun, g1, g2, g3.weak fun _ h => h.elim⟩
        · split at hv
          · rename_i hlc2
            subst hlc2
            simp only [Option.some.injEq, Prod.mk.injEq] at hv
            obtain ⟨rfl, rfl, rfl⟩ := hv
            obtain ⟨O1, g1, g2, g3⟩ := mslNew he hh hd hrow' (cap := l) hAs (by simp) hp
            rw [List.length_replicate] at g1
            exact ⟨_, _, O1, .inl hrun, g1, g2, g3.weak fun _ h => h.elim⟩
          · simp at hv
      · simp at hv
    · simp at hk
  · simp at hk
end
end Go.Proofs.YtibhcmacccfakaaGreatDoor
namespace Go.Proofs.YtibhcmacccfakaaGreatDoor
variable [Sym]

section
variable {P : Program} {G : Glob} {O : Own} {w w' : World} {st st' : St} {e : Env} {a : Act} {o : Oper} {v : GV} {u : Env} {tmps : Array Value}

theorem growBy_le {need : Nat} : ∀ (r c : Nat), c ≤ need + need / 4 + 192 → Builtin.growBy need r c ≤ need + need / 4 + 192
  | 0, c, h => h
  | r + 1, c, h => by
    simp only [Builtin.growBy]
    split
    · exact h
    · exact growBy_le r _ (by omega)
theorem nextslicecap_le {need old : Nat} (h : old < need) : Builtin.nextslicecap need old ≤ 2 * need + 192 := by
  unfold Builtin.nextslicecap
  split
  · omega
  · split
    · omega
    · have := growBy_le (need := need) 4 old (by omega)
      omega

/-- What an append is of: the operation's words. -/
structure AppOp (P : Program) (G : Glob) (o : Oper) (x y : GX) (sz bytes : Nat) (X Y : Operand) (el : TypeId) (i : TypeInfo) (z : Value) : Prop where
  op : ∃ t u d, o.op = .call { callee := .builtin .append, args := #[X, Y], argTypes := #[t, u] } ∧ P.underlying t = some (.slice el) ∧ P.underlying u = some d ∧ (∀ k, d ≠ .int k)
  x : okX G X x = true
  y : okX G Y y = true
  info : P.info? el = some i
  size : i.size = sz
  bytes : i.bytes = bytes
  zero : i.zero = some z
  zsize : z.cells.size = sz

theorem okOp_append {x y : GX} {sz bytes : Nat} {mu h : Bool} (hk : okOp P G o.op (.append x y sz bytes mu h) = true) : ∃ X Y el i z, AppOp P G o x y sz bytes X Y el i z := by
  unfold okOp at hk; dsimp only at hk
  split at hk
  · rename_i args ats ho
    split at hk
    · rename_i X Y t u hargs hats
      simp only [Bool.and_eq_true] at hk
      obtain ⟨⟨hx, hy⟩, hk⟩ := hk
      have e1 : args = #[X, Y] := by rw [← Array.toArray_toList (xs := args), hargs]
      have e2 : ats = #[t, u] := by rw [← Array.toArray_toList (xs := ats), hats]
      subst e1 e2
      split at hk
      · rename_i el hsl
        simp only [Bool.and_eq_true] at hk
        obtain ⟨⟨⟨hs, hb⟩, hz⟩, hu⟩ := hk
        obtain ⟨i, hi, h1⟩ := sizeIs_inv hs
        obtain ⟨i', hi', h2⟩ := bytesAre_inv hb
        rw [hi] at hi'
        simp only [Option.some.injEq] at hi'; subst hi'
        rw [hi] at hz
        simp only [Option.any_some] at hz
        cases hzz : i.zero with
        | none => rw [hzz] at hz; simp at hz
        | some z =>
          rw [hzz] at hz
          simp only [Option.any_some, beq_iff_eq] at hz
          refine ⟨X, Y, el, i, z, ⟨t, u, ?_⟩, hx, hy, hi, h1, h2, hzz, hz⟩
          split at hu
          · simp at hu
          · rename_i d hnd hud
            exact ⟨d, ho, sliceOf_inv hsl, hud, fun k q => hnd k q⟩
          · simp at hu
      · simp at hk
    · simp at hk
  · simp at hk

/-- The elements that are appended: how many, and their cells in any world with this heap. -/
def Reads (P : Program) (w : World) (sz : Nat) (y : Value) (n : Nat) (B : List Value) : Prop :=
  ∀ w2 : World, w2.heap = w.heap → (Builtin.lenOf y).run P w2 = .ok n w2 ∧ (Builtin.firstCells sz n y).run P w2 = .ok B.toArray w2

theorem run_app_in {x y : GX} {sz bytes : Nat} {X Y : Operand} {el : TypeId} {i : TypeInfo} {z : Value} (ha : AppOp P G o x y sz bytes X Y el i z) {base : Option Addr} {len cap n : Nat} {B : List Value}
    (hX : a.eval X = .slice base len cap) (hY : Reads P w sz (a.eval Y) n B) (hroom : len + n ≤ cap)
    (hst : (match base with | some A => (storeCells (A.add (len * sz)) B).run P w | none => .ok () w) = .ok () w') : Gives P w a o (.slice base (len + n) cap) w' := by
  obtain ⟨t, u, d, ho, hu, hud, hd⟩ := ha.op
  obtain ⟨h1, h2⟩ := hY w rfl
  have hsz : (sizeOf el).run P w = .ok sz w := by simp [sizeOf, typeInfo, ha.info, ha.size]
  have hz : (match d with | .int _ => true | _ => false) = false := by
    cases d <;> first | rfl | exact absurd rfl (hd _)
  simp only [Gives, execOp, ho, resolve, invoke, builtin, Builtin.append_, Sem.run_bind, Sem.run_pure, Result.andThen_ok]
  simp only [List.map_toArray, List.map_cons, List.map_nil, List.getElem?_toArray, List.getElem?_cons_zero, List.getElem?_cons_succ, hX, Sem.run_bind, run_underlying hu, run_underlying hud, Result.andThen_ok, hsz, Sem.run_pure, hz, Bool.false_eq_true, if_false, h1,
    if_pos hroom, Bool.not_false, if_true, h2]
  cases base with
  | none =>
    simp only [Result.ok.injEq, true_and] at hst
    subst hst
    simp
  | some A =>
    simp only at hst
    simp [hst]

theorem run_app_grow {x y : GX} {sz bytes : Nat} {X Y : Operand} {el : TypeId} {i : TypeInfo} {z : Value} (ha : AppOp P G o x y sz bytes X Y el i z) {base : Option Addr} {len cap n : Nat} {A B : List Value}
    (hX : a.eval X = .slice base len cap) (hY : Reads P w sz (a.eval Y) n B) (hA : ∀ w2 : World, w2.heap = w.heap → (Builtin.firstCells sz len (.slice base len cap)).run P w2 = .ok A.toArray w2)
    (hroom : ¬ len + n ≤ cap) (hb : (len + n) * bytes ≤ 2 ^ 40) (hb2 : len + n ≤ 2 ^ 40) :
    ∃ newCap w' Z, len + n ≤ newCap ∧ Gives P w a o (.slice (some ⟨w.heap.size, 0, none⟩) (len + n) newCap) w' ∧ Pushed w w' (.cells (A.toArray ++ B.toArray ++ Z) el) ∧ Z.size = (newCap - (len + n)) * sz := by
  obtain ⟨t, u, d, ho, hu, hud, hd⟩ := ha.op
  obtain ⟨h1, _⟩ := hY w rfl
  have hsz : (sizeOf el).run P w = .ok sz w := by simp [sizeOf, typeInfo, ha.info, ha.size]
  have hz : (match d with | .int _ => true | _ => false) = false := by
    cases d <;> first | rfl | exact absurd rfl (hd _)
  let q := Question.appendCap (len + n) cap el
  let newCap := q.cut (w.tape w.drawn q)
  let w1 : World := { w with drawn := w.drawn + 1 }
  have hge : len + n ≤ newCap := by simp only [newCap, q, Question.cut]; omega
  obtain ⟨_, h2⟩ := hY w1 rfl
  have h3 := hA w1 rfl
  refine ⟨newCap, { w1 with heap := w1.heap.push (.cells (A.toArray ++ B.toArray ++ Builtin.zeroCells z.cells (newCap - (len + n))) el) }, Builtin.zeroCells z.cells (newCap - (len + n)), hge, ?_, ⟨rfl, rfl, rfl, rfl⟩, by simp [Builtin.zeroCells, ha.zsize]⟩
  have hc1 : ¬ ((len + n : Nat) : Int) > IntKind.i64.max := by rw [IntKind.max_i64]; omega
  have hc2 : ¬ (Builtin.nextslicecap (len + n) cap * i.bytes > 2 ^ 48) := by
    have := nextslicecap_le (need := len + n) (old := cap) (by omega)
    have h4 : Builtin.nextslicecap (len + n) cap * i.bytes ≤ (2 * (len + n) + 192) * i.bytes := Nat.mul_le_mul_right _ this
    rw [← ha.bytes] at hb
    rw [Nat.add_mul, Nat.mul_assoc] at h4
    have h5 : 192 * i.bytes ≤ 192 * 2 ^ 40 := by
      refine Nat.mul_le_mul_left _ ?_
      have : 1 * i.bytes ≤ (len + n) * i.bytes := Nat.mul_le_mul_right _ (by omega)
      omega
    omega
  have hinfo : (typeInfo el).run P w = .ok i w := run_typeInfo ha.info
  have hforced : q.forced = false := rfl
  have hinfo1 : (typeInfo el).run P w1 = .ok i w1 := run_typeInfo ha.info
  have hzero1 : (zeroValue el).run P w1 = .ok z w1 := run_zeroValue ha.info ha.zero
  have hcond : ((((len + n : Nat) : Int) > IntKind.i64.max) ∧ (false = true ∨ i.bytes = 0)) = False := by simp only [hc1, false_and]
  simp only [Gives, execOp, ho, resolve, invoke, builtin, Builtin.append_, Sem.run_bind, Sem.run_pure, Result.andThen_ok]
  simp only [List.map_toArray, List.map_cons, List.map_nil, List.getElem?_toArray, List.getElem?_cons_zero, List.getElem?_cons_succ, hX, Sem.run_bind, run_underlying hu, run_underlying hud, Result.andThen_ok, hsz, Sem.run_pure, hz, Bool.false_eq_true, if_false, h1,
    if_neg hroom, Bool.not_false, if_true, hinfo]
  rw [if_neg (by rw [← Bool.false_eq_true] at *; exact fun h => hc1 h.1)]
  simp only [Sem.run_bind, hinfo, Result.andThen_ok, if_neg hc2, run_choose]
  have hq : (Question.appendCap (len + n) cap el).forced = false := rfl
  simp only [hq, Bool.false_eq_true, if_false, Result.andThen_ok]
  change Result.andThen (Result.andThen ((typeInfo el).run P w1) _) _ = _
  simp only [hinfo1, Result.andThen_ok, run_askRoom]
  change Result.andThen (Result.andThen ((Builtin.firstCells sz len (.slice base len cap)).run P w1) _) _ = _
  simp only [h3, h2, Result.andThen_ok]
  simp only [hzero1, Result.andThen_ok, newRow, Sem.run_bind, run_newObj, Sem.run_pure]
  rfl
end
end Go.Proofs.YtibhcmacccfakaaGreatDoor
namespace Go.Proofs.YtibhcmacccfakaaGreatDoor
variable [Sym]

section
variable {P : Program} {G : Glob} {O : Own} {w w' : World} {st st' : St} {e : Env} {a : Act} {o : Oper} {v : GV} {u : Env} {tmps : Array Value}

def slotTag (t : Tag) : Prop := ∃ s, t = .perm (.slot s)

/-- An operand taken: its slot is left with a copy. -/
theorem take_op (he : EnvRel O w e a.tmps) (hh : HInv P G O st w) {X : Operand} {x : GX} (hk : okX G X x = true) :
    ∃ O' l, EnvRel O' w (spent e x ++ e) a.tmps ∧ HInv P G O' st w ∧ Stp slotTag O w O' w ∧ CRel O' w (.slot l) (tk (raw e x)) (a.eval X) ∧ (∀ t, x = .s t → l = t) ∧ (∀ c, x = .c c → ownSl c = false) := by
  cases x with
  | s t =>
    cases X <;> first | (simp [okX] at hk; done) | skip
    rename_i t'
    have hk : t' = t := by simpa [okX] using hk
    subst hk
    obtain ⟨O', h1, h2, h3, h4⟩ := take_slot he hh t' (.slot t')
    exact ⟨O', t', h1, h2, h3.weak fun q hq => ⟨t', hq⟩, h4, fun t hq => by simpa using hq, fun c hq => by simp at hq⟩
  | c v =>
    have hr : VRel O.M O.K v (a.eval X) := by
      cases X with
      | tmp t => simp [okX] at hk
      | const u => exact okC_rel v u hk
      | global g =>
        obtain ⟨cs, vs, rfl, _, _⟩ := okX_global hk
        exact rd_rel he hh hk
      | func f =>
        obtain rfl := okX_func hk
        exact rd_rel he hh hk
    have hno : ownSl v = false := by
      cases hq : ownSl v with
      | false => rfl
      | true =>
        obtain ⟨sz, b, xs, rfl⟩ := ownSl_iff.1 hq
        generalize a.eval X = x at hr
        cases hr with
        | slnil _ _ h => exact absurd rfl h
        | sl h => exact absurd rfl h
    have htk : tk v = v := by
      rw [tk_cp v fun sz b xs hq => by subst hq; simp [ownSl] at hno]; exact hr.cp_eq
    refine ⟨O, 0, he, hh, .refl _ _ _, ?_, fun t hq => (by simp at hq), fun c hq => (by simp only [GX.c.injEq] at hq; rw [← hq]; exact hno)⟩
    simp only [raw, htk]
    exact ⟨by rw [hr.cp_eq]; exact hr, fun sz b xs hq => by subst hq; simp [ownSl] at hno⟩

theorem slotTag.op {ro : Nat} {t : Tag} (h : slotTag t) : opT ro t := by obtain ⟨s, h⟩ := h; exact .inr (.inr ⟨_, h⟩)

/-- What is appended. -/
theorem app_reads (he : EnvRel O w e a.tmps) (hh : HInv P G O st w) {Y : Operand} {y : GX} (hk : okX G Y y = true) {sz : Nat} {ys : List (List GV)} (h : elems st.heap sz (rd e y) = some ys) :
    ∃ B, FRel O.M O.K sz ys B ∧ Reads P w sz (a.eval Y) ys.length B := by
  obtain ⟨B, h1, h2⟩ := elems_rel (P := P) hh (rd_rel he hh hk) h
  refine ⟨B, h1, fun w2 hw => ⟨(h2 w2 hw).1, ?_⟩⟩
  have := (h2 w2 hw).2 ys.length (Nat.le_refl _)
  rwa [List.take_of_length_le (by rw [h1.2.1]; exact Nat.le_refl _)] at this

theorem FRel.ones {M : Mem} {K : KMap} {sz : Nat} {ys : List (List GV)} {B : List Value} (h : FRel M K sz ys B) (ho : ys.all (·.all one) = true) : ∀ y ∈ B, y.oneCell' = true := by
  intro y hy
  obtain ⟨k, hk⟩ := List.getElem?_of_mem hy
  have hl := h.flat
  have hkl := (List.getElem?_eq_some_iff.1 hk).1
  have hfl : ys.flatten.length = B.length := by have := hl.1; simpa using this.symm
  have hc : ys.flatten[k]? = some (ys.flatten[k]'(by omega)) := by simp
  have hv := hl.2 k _ y hc (by simpa using hk)
  refine hv.one ?_
  obtain ⟨i, j, x, _, h1, h2⟩ := flatten_get h.1 hc
  have h3 := List.all_eq_true.1 ho x (List.mem_of_getElem? h1)
  exact List.all_eq_true.1 h3 _ (List.mem_of_getElem? h2)

/-- The old elements of a slice that never changes. -/
theorem sl_old (hh : HInv P G O st w) {z sz : Nat} {bn : Bool} {c : Cap} {xs : List (List GV)} {x : Value} (h : VRel O.M O.K (.sl z bn c xs) x) (hz : z = sz ∨ xs = []) :
    ∃ A base cap, x = .slice base xs.length cap ∧ xs.length ≤ cap ∧ FRel O.M O.K sz xs A ∧ (c = .exact → cap = xs.length) ∧
      ∀ w2 : World, w2.heap = w.heap → (Builtin.firstCells sz xs.length (.slice base xs.length cap)).run P w2 = .ok A.toArray w2 := by
  have he : elems st.heap sz (.sl z bn c xs) = some xs := by simp only [elems]; rw [if_pos hz]
  obtain ⟨A, h1, h2⟩ := elems_rel (P := P) hh h he
  cases h with
  | slnil _ _ _ =>
    refine ⟨A, none, 0, rfl, Nat.le_refl _, h1, fun _ => rfl, fun w2 hw => ?_⟩
    have := (h2 w2 hw).2 0 (Nat.le_refl _)
    have hA : A = [] := List.length_eq_zero_iff.1 (by have := h1.2.1; simpa using this)
    subst hA; simpa using this
  | sl hc hex hl hs hm hr =>
    refine ⟨A, _, _, rfl, hl, h1, hex, fun w2 hw => ?_⟩
    have := (h2 w2 hw).2 xs.length (Nat.le_refl _)
    rwa [List.take_of_length_le (by rw [h1.2.1]; exact Nat.le_refl _)] at this

theorem grown_rel {M : Mem} {K : KMap} {sz : Nat} {xs ys : List (List GV)} {A B : List Value} {Z : Array Value} (h : FRel M K sz xs A) (h' : FRel M K sz ys B) :
    FRel M K sz (xs ++ ys) ((A.toArray ++ B.toArray ++ Z).toList.take ((xs ++ ys).length * sz)) := by
  have h1 := h.append h'
  have : (A.toArray ++ B.toArray ++ Z).toList.take ((xs ++ ys).length * sz) = A ++ B := by
    have h2 : (A.toArray ++ B.toArray ++ Z).toList = (A ++ B) ++ Z.toList := by simp
    rw [h2, ← h1.2.1, List.take_left]
  rw [this]; exact h1
theorem grown_size {M : Mem} {K : KMap} {sz newCap : Nat} {xs ys : List (List GV)} {A B : List Value} {Z : Array Value} (h : FRel M K sz xs A) (h' : FRel M K sz ys B) (hc : xs.length + ys.length ≤ newCap)
    (hZ : Z.size = (newCap - (xs.length + ys.length)) * sz) : (A.toArray ++ B.toArray ++ Z).size = newCap * sz := by
  have : newCap * sz = (xs.length + ys.length) * sz + (newCap - (xs.length + ys.length)) * sz := by rw [← Nat.add_mul]; congr 1; omega
  rw [this, Nat.add_mul]
  simp [h.2.1, h'.2.1, hZ]

/-- The slice of a slot's own grows in place. -/
theorem own_inplace {t : Nat} {e1 : Env} (he : EnvRel O w e1 a.tmps) (hcp : cp (get e1 t) = get e1 t) (hh : HInv P G O st w) (hd : ∀ d, o.dst = some d → d < a.tmps.size) {sz : Nat} {bn : Bool} {xs ys : List (List GV)} {x : Value}
    (hx : CRel O w (.slot t) (.sl sz bn .own xs) x) {B : List Value} (hB : FRel O.M O.K sz ys B) (hone : ys.all (·.all one) = true) :
    ∃ b off cap, x = .slice (some ⟨b, off, none⟩) xs.length cap ∧ (xs.length + ys.length ≤ cap →
      ∃ w' O', (storeCells ((⟨b, off, none⟩ : Addr).add (xs.length * sz)) B).run P w = .ok () w' ∧
        EnvRel O' w' (dstU o.dst (.sl sz false .own (xs ++ ys)) e1) (a.put o.dst (.slice (some ⟨b, off, none⟩) (xs.length + ys.length) cap)).tmps ∧ HInv P G O' st w' ∧ Stp slotTag O w O' w') := by
  obtain ⟨b, off, cap, rc, ty, rfl, hBt, hheap, hroom, hM⟩ := hx.2 sz bn xs rfl
  have hv : VRel O.M O.K (.sl sz bn .no xs) (.slice (some ⟨b, off, none⟩) xs.length cap) := hx.1
  refine ⟨b, off, cap, rfl, fun hle => ?_⟩
  have hBl := hB.2.1
  have hlen : (xs.length + ys.length) * sz = xs.length * sz + ys.length * sz := Nat.add_mul _ _ _
  have hcapsz : (xs.length + ys.length) * sz ≤ cap * sz := Nat.mul_le_mul_right sz hle
  have hst := run_storeCells_at P b (off + xs.length * sz) ty B 0 rc w hheap (by omega) (hB.ones hone)
  rw [add_none]
  simp only [Nat.add_zero] at hst
  let rc' := (rc.toList.take (off + xs.length * sz) ++ B ++ rc.toList.drop (off + xs.length * sz + B.length)).toArray
  let w' := w.setRow b rc'
  have hrc' : ∀ j, rc'[j]? = if off + xs.length * sz ≤ j ∧ j < off + xs.length * sz + B.length then B[j - (off + xs.length * sz)]? else rc[j]? := by
    intro j
    simp only [rc', List.getElem?_toArray, List.append_assoc, List.getElem?_append, List.length_take, Array.length_toList]
    rw [Nat.min_eq_left (by omega)]
    by_cases h1 : j < off + xs.length * sz
    · rw [if_pos h1, if_neg (by omega)]; simp [h1]
    · rw [if_neg h1]
      by_cases h2 : j < off + xs.length * sz + B.length
      · rw [if_pos (by omega), if_pos ⟨by omega, h2⟩]
      · rw [if_neg (by omega), if_neg (by omega)]
        simp only [List.getElem?_drop, Array.getElem?_toList]
        congr 1; omega
  have hrcs : rc'.size = rc.size := by simp [rc']; omega
  have hheap' : w'.heap[b]? = some (.cells rc' ty (0, 0)) := setRow_heap w b rc _ ty (0, 0) hheap
  have hw : Wrote w w' b := setRow_wrote
  -- the memory grows by the new elements
  let m : Nat → Option Value := fun j => if off + xs.length * sz ≤ j ∧ j < off + xs.length * sz + B.length then B[j - (off + xs.length * sz)]? else O.M b j
  let O1 : Own := ⟨fun b' => if b' = b then m else O.M b', O.K, O.B⟩
  have hMnone : ∀ j, off + xs.length * sz ≤ j → O.M b j = none := fun j hj => hM j hj
  have hs : Stp (· = .perm (.slot t)) O w O1 w' := {
    mem := fun b' j y hy => by
      simp only [O1]
      split
      · rename_i hb; subst hb
        simp only [m]
        split
        · rename_i hj; rw [hMnone j hj.1] at hy; cases hy
        · exact hy
      · exact hy
    kmap := .refl _
    size := by rw [hw.size]; exact Nat.le_refl _
    os := hw.os
    tape := hw.tape
    output := hw.output
    same := fun b' _ hb' => by
      have hne : b' ≠ b := fun q => hb' (by rw [q]; exact hBt)
      exact ⟨hw.other b' hne, rfl, fun j => by simp only [O1]; rw [if_neg hne]⟩
    ksame := fun g k hk _ _ _ => hk }
  have hh1 : HInv P G O1 st w' := by
    refine hh.stp hs (fun g o hg => .inl ⟨hg, by simp, fun _ _ => by simp⟩) (fun g i hg => .inl ⟨hg, rfl, by simp, by simp⟩) (fun b' hb' j y hy => ?_) (fun b' hb' => ?_) hh.kdom hh.pdom
    · simp only [O1] at hy ⊢
      by_cases hbb : b' = b
      · subst hbb
        rw [if_pos rfl] at hy
        refine ⟨?_, .inr ⟨_, hBt⟩⟩
        rw [cell_at hheap', hrc']
        simp only [m] at hy
        split at hy
        · rename_i hj; rw [if_pos hj]; exact hy
        · rename_i hj; rw [if_neg hj]
          have := (hh.mem b' j y hy).1
          rwa [cell_at hheap] at this
      · rw [if_neg hbb] at hy
        obtain ⟨h1, h2⟩ := hh.mem b' j y hy
        refine ⟨?_, h2⟩
        simp only [World.cell?, hw.other b' hbb] at h1 ⊢
        exact h1
    · simp only [O1]
      rw [hw.size] at hb'
      have hne : b' ≠ b := by have := lt_of_heap hheap; omega
      rw [if_neg hne]
      exact hh.fresh b' hb'
  have heq : EnvEq ((t, cp (get e1 t)) :: e1) e1 := fun q => by
    simp only [get]
    split
    · rename_i hq; subst hq; exact hcp
    · rfl
  have he1 : EnvRel O1 w' e1 a.tmps := (he.cpSlot (t := t) hs (fun _ _ h => h) (by simp) (fun q hq => by simpa using hq) (by simp)).congr heq
  -- the grown slice at its old place
  have hnew : CRel O1 w' (.slot t) (.sl sz false .own (xs ++ ys)) (.slice (some ⟨b, off, none⟩) (xs.length + ys.length) cap) := by
    have hlenxy : (xs ++ ys).length = xs.length + ys.length := by simp
    refine ⟨?_, fun sz' b' xs' hq => ?_⟩
    · simp only [cp]
      rw [← hlenxy]
      -- old cells and new ones
      have hB1 := hB.mono (M' := O1.M) (K' := O1.K) fun h => hs.vrel h
      cases hv with
      | @sl _ _ _ _ _ _ f hc hex hl hsz hm hr =>
        refine .sl (b := b) (o := off) (f := fun j => if j < xs.length * sz then f j else B.getD (j - xs.length * sz) undef) (by decide) (fun q => by cases q) (by rw [hlenxy]; exact hle)
          (fun q hq => (List.mem_append.1 hq).elim (hsz q) (hB.1 q)) (fun j hj => ?_) fun i j q c h1 h2 => ?_
        · simp only [O1, if_true]
          rw [hlenxy, hlen] at hj
          by_cases hjl : j < xs.length * sz
          · rw [if_pos hjl]
            simp only [m]
            rw [if_neg (by omega)]
            exact hm j hjl
          · rw [if_neg hjl]
            simp only [m]
            rw [if_pos (by omega), show off + j - (off + xs.length * sz) = j - xs.length * sz by omega, List.getD_eq_getElem?_getD, List.getElem?_eq_getElem (by omega)]
            rfl
        · rw [List.getElem?_append] at h1
          split at h1
          · rename_i hi
            have hj := (List.getElem?_eq_some_iff.1 h2).1
            rw [hsz q (List.mem_of_getElem? h1)] at hj
            rw [if_pos (mul_lt hi hj)]
            exact hs.vrel (hr i j q c h1 h2)
          · rename_i hi
            simp only [Nat.not_lt] at hi
            have he' : i * sz = xs.length * sz + (i - xs.length) * sz := by rw [← Nat.add_mul]; congr 1; omega
            have hj := (List.getElem?_eq_some_iff.1 h2).1
            rw [hB.1 q (List.mem_of_getElem? h1)] at hj
            have hi' := (List.getElem?_eq_some_iff.1 h1).1
            have hlt := mul_lt hi' hj
            rw [if_neg (by omega)]
            refine hB1.2.2 (i - xs.length) j q c _ h1 h2 ?_
            rw [List.getD_eq_getElem?_getD, show i * sz + j - xs.length * sz = (i - xs.length) * sz + j by omega, List.getElem?_eq_getElem (by omega)]
            rfl
    · simp only [GV.sl.injEq] at hq
      obtain ⟨rfl, rfl, _, rfl⟩ := hq
      refine ⟨b, off, cap, rc', ty, by rw [hlenxy], hBt, hheap', by rw [hrcs]; exact hroom, fun j hj => ?_⟩
      rw [hlenxy, hlen] at hj
      simp only [O1, if_true, m]
      rw [if_neg (by omega)]
      exact hMnone j (by omega)
  obtain ⟨O2, g1, g2, g3, g4⟩ := take_perm hh1 (.slot (o.dst.getD 0)) hnew (pp := st.perms) fun g i hgi => ⟨hgi, by simp⟩
  have he2 : EnvRel O2 w' e1 a.tmps := (he1.cpSlot (t := t) g2 g3 (by simp) (fun q hq => by simpa using hq) (by simp)).congr heq
  refine ⟨w', O2, hst, ?_, g1, (hs.weak fun q hq => ⟨t, hq⟩).trans (g2.weak fun q hq => ⟨t, hq⟩)⟩
  exact he2.putC (v := .sl sz false .own (xs ++ ys)) hd fun d hdd => by rw [hdd] at g4; exact g4
end
end Go.Proofs.YtibhcmacccfakaaGreatDoor
namespace Go.Proofs.YtibhcmacccfakaaGreatDoor
variable [Sym]

theorem rowSet (rc : Array Value) (p : Nat) (B : List Value) (h : p + B.length ≤ rc.size) :
    ((rc.toList.take p ++ B ++ rc.toList.drop (p + B.length)).toArray).size = rc.size ∧
    ∀ j, ((rc.toList.take p ++ B ++ rc.toList.drop (p + B.length)).toArray)[j]? = if p ≤ j ∧ j < p + B.length then B[j - p]? else rc[j]? := by
  refine ⟨by simp; omega, fun j => ?_⟩
  simp only [List.getElem?_toArray, List.append_assoc, List.getElem?_append, List.length_take, Array.length_toList]
  rw [Nat.min_eq_left (by omega)]
  by_cases h1 : j < p
  · rw [if_pos h1, if_neg (by omega)]; simp [h1]
  · rw [if_neg h1]
    by_cases h2 : j < p + B.length
    · rw [if_pos (by omega), if_pos ⟨by omega, h2⟩]
    · rw [if_neg (by omega), if_neg (by omega)]
      simp only [List.getElem?_drop, Array.getElem?_toList]
      congr 1; omega

section
variable {P : Program} {G : Glob} {O : Own} {w w' : World} {st st' : St} {e : Env} {a : Act} {o : Oper} {v : GV} {u : Env} {tmps : Array Value}

/-- What is known of a slice of a ghost block. -/
theorem msl_old (hh : HInv P G O st w) {g ver n sz : Nat} {cs : List GV} {x : Value} (hg : st.heap[g]? = some (.cells ver cs)) (hx : VRel O.M O.K (.msl g ver 0 n sz) x) (hn : n * sz ≤ cs.length) :
    ∃ k rc ty cap A, x = .slice (some ⟨k.b, k.o, none⟩) n cap ∧ n ≤ cap ∧ O.K g = some k ∧ k.ver = ver ∧ O.B k.b = .heap g ∧ w.heap[k.b]? = some (.cells rc ty (0, 0)) ∧ rc.size = k.size ∧ k.o + cap * sz ≤ rc.size ∧
      A = (rc.extract k.o (k.o + cs.length)).toList.take (n * sz) ∧ LRel O.M O.K cs (rc.extract k.o (k.o + cs.length)) ∧ FRel O.M O.K sz (chunks sz n cs) A ∧
      ∀ w2 : World, w2.heap = w.heap → (Builtin.firstCells sz n (.slice (some ⟨k.b, k.o, none⟩) n cap)).run P w2 = .ok A.toArray w2 := by
  obtain ⟨k, rc, ty, k1, k2, k3, k4, k5, k6, k7⟩ := hh.obj g _ hg
  cases hx with
  | @msl _ _ _ _ _ cap b off k' hk hv hl ha =>
    rw [k1] at hk
    simp only [Option.some.injEq] at hk; subst hk
    obtain ⟨h1, h2, h3⟩ := ha k2.symm
    rw [Nat.add_zero] at h2
    subst h1 h2
    have hL : LRel O.M O.K cs (rc.extract k.o (k.o + cs.length)) := by
      refine ⟨by simp; omega, fun i c y g1 g2 => ?_⟩
      simp only [Array.getElem?_extract] at g2
      split at g2
      · exact k7 i c y g1 g2
      · simp at g2
    refine ⟨k, rc, ty, cap, _, rfl, hl, k1, k2, k3, k4, k5, by omega, rfl, hL, chunks_rel hL hn, fun w2 hw => ?_⟩
    refine run_first (w := w) (by rw [List.length_take, Array.length_toList, hL.1]; exact Nat.min_eq_left hn) (fun j y hy => ?_) hw
    rw [cell_at k4]
    simp only [List.getElem?_take, Array.getElem?_toList, Array.getElem?_extract] at hy
    split at hy
    · split at hy
      · exact hy
      · simp at hy
    · simp at hy

theorem EnvRel.putV' {e1 : Env} (he : EnvRel O w e1 a.tmps) (hd : ∀ d, o.dst = some d → d < a.tmps.size) {v : GV} {x : Value} (h : VRel O.M O.K v x) : EnvRel O w (dstU o.dst v e1) (a.put o.dst x).tmps :=
  he.putA hd (.of_vrel h)

/-- A ghost block's slice grows in place. -/
theorem msl_inplace {e1 : Env} (he : EnvRel O w e1 a.tmps) (hh : HInv P G O st w) (hd : ∀ d, o.dst = some d → d < a.tmps.size) {g ver n sz : Nat} {cs : List GV} {x : Value} (hg : st.heap[g]? = some (.cells ver cs))
    (hx : VRel O.M O.K (.msl g ver 0 n sz) x) (hn : n * sz ≤ cs.length) {ys : List (List GV)} {B : List Value} (hB : FRel O.M O.K sz ys B) (hone : ys.all (·.all one) = true) :
    ∃ b off cap, x = .slice (some ⟨b, off, none⟩) n cap ∧ (n + ys.length ≤ cap → ∃ w', (storeCells ((⟨b, off, none⟩ : Addr).add (n * sz)) B).run P w = .ok () w' ∧
      (∃ O', EnvRel O' w' (dstU o.dst (.msl g (ver + 1) 0 (n + ys.length) sz) e1) (a.put o.dst (.slice (some ⟨b, off, none⟩) (n + ys.length) cap)).tmps ∧
        HInv P G O' { st with heap := st.heap.set g (.cells (ver + 1) (cs.take (n * sz) ++ ys.flatten)), perms := (st.drop g 0 ((n + ys.length) * sz)).perms } w' ∧ Stp (· = .heap g) O w O' w') ∧
      (∃ O', EnvRel O' w' (dstU o.dst (.sl sz false .own (chunks sz n cs ++ ys)) e1) (a.put o.dst (.slice (some ⟨b, off, none⟩) (n + ys.length) cap)).tmps ∧
        HInv P G O' { st with heap := st.heap.set g .dead, perms := (st.drop g 0 cs.length).perms } w' ∧ Stp (· = .heap g) O w O' w')) := by
  obtain ⟨k, rc, ty, cap, A, rfl, hcap, k1, k2, k3, k4, k5, k6, hA, hL, hF, _⟩ := msl_old hh hg hx hn
  refine ⟨k.b, k.o, cap, rfl, fun hle => ?_⟩
  have hBl := hB.2.1
  have hlen : (n + ys.length) * sz = n * sz + ys.length * sz := Nat.add_mul _ _ _
  have hcapsz : (n + ys.length) * sz ≤ cap * sz := Nat.mul_le_mul_right sz hle
  have hfl := flatten_length hB.1
  have hglt := (List.getElem?_eq_some_iff.1 hg).1
  have hst := run_storeCells_at P k.b (k.o + n * sz) ty B 0 rc w k4 (by omega) (hB.ones hone)
  rw [add_none]
  simp only [Nat.add_zero] at hst
  obtain ⟨hrcs, hrc'⟩ := rowSet rc (k.o + n * sz) B (by omega)
  generalize hrr : (rc.toList.take (k.o + n * sz) ++ B ++ rc.toList.drop (k.o + n * sz + B.length)).toArray = rc' at hst hrcs hrc'
  have hw : Wrote w (w.setRow k.b rc') k.b := setRow_wrote
  have hheap' : (w.setRow k.b rc').heap[k.b]? = some (.cells rc' ty (0, 0)) := setRow_heap w k.b rc _ ty (0, 0) k4
  have hMb : ∀ j, O.M k.b j = none := fun j => by
    cases hq : O.M k.b j with
    | none => rfl
    | some y =>
      obtain ⟨_, h2⟩ := hh.mem _ _ _ hq
      rw [k3] at h2
      rcases h2 with h2 | ⟨l, h2⟩ <;> cases h2
  refine ⟨_, hst, ?_, ?_⟩
  · -- the same block, a version on
    let k' : KI := ⟨k.b, k.o, ver + 1, k.size⟩
    let O1 := O.bindK g k'
    have hs : Stp (· = .heap g) O w O1 (w.setRow k.b rc') := {
      mem := .refl _
      kmap := fun g' q hq => by
        simp only [O1, Own.bindK]
        by_cases hgg : g' = g
        · subst hgg
          rw [k1] at hq
          simp only [Option.some.injEq] at hq; subst hq
          exact ⟨k', by simp, by simp only [k']; omega, fun q => by simp only [k'] at q; omega⟩
        · exact ⟨q, by rw [if_neg hgg]; exact hq, Nat.le_refl _, fun _ => rfl⟩
      size := by rw [hw.size]; exact Nat.le_refl _
      os := hw.os
      tape := hw.tape
      output := hw.output
      same := fun b hb hb' => ⟨hw.other b fun q => hb' (by rw [q]; exact k3), rfl, fun _ => rfl⟩
      ksame := fun g' q hq _ _ hgg => by
        simp only [O1, Own.bindK]
        rw [if_neg fun h => hgg (by rw [h])]; exact hq }
    have hobj : ObjRel P G O1 (w.setRow k.b rc') g (.cells (ver + 1) (cs.take (n * sz) ++ ys.flatten)) := by
      refine ⟨k', rc', ty, by simp [O1, Own.bindK], rfl, k3, hheap', by rw [hrcs]; exact k5, ?_, fun i c y h1 h2 => ?_⟩
      · simp only [List.length_append, List.length_take, hfl, k']
        rw [Nat.min_eq_left hn, hrcs]; omega
      · simp only [k'] at h2
        rw [hrc'] at h2
        rw [List.getElem?_append] at h1
        simp only [List.length_take, Nat.min_eq_left hn] at h1
        split at h1
        · rename_i hi
          rw [if_neg (by omega)] at h2
          rw [List.getElem?_take, if_pos hi] at h1
          have hil := (List.getElem?_eq_some_iff.1 h1).1
          refine hs.vrel (hL.2 i c y h1 ?_)
          rw [Array.getElem?_extract, if_pos (by omega)]; exact h2
        · rename_i hi
          have hil := (List.getElem?_eq_some_iff.1 h1).1
          rw [hfl] at hil
          rw [if_pos (by omega)] at h2
          refine hs.vrel (hB.flat.2 (i - n * sz) c y h1 ?_)
          rw [show k.o + i - (k.o + n * sz) = i - n * sz by omega] at h2
          simpa using h2
    have hh1 : HInv P G O1 { st with heap := st.heap.set g (.cells (ver + 1) (cs.take (n * sz) ++ ys.flatten)), perms := (st.drop g 0 ((n + ys.length) * sz)).perms } (w.setRow k.b rc') := by
      refine hh.stp hs (fun g' o' hg' => ?_) (fun g' i hgi => ?_) (fun b hb j y hm => ?_) (fun b hb => ?_) (fun g' hg' => ?_) fun g' i hgi => ?_
      · by_cases hgg : g' = g
        · subst hgg
          have : o' = .cells (ver + 1) (cs.take (n * sz) ++ ys.flatten) := by simpa [List.getElem?_set, hglt] using hg'.symm
          rw [this]; exact .inr hobj
        · exact .inl ⟨by simpa [List.getElem?_set, Ne.symm hgg] using hg', by simpa using hgg, fun _ _ => by simp⟩
      · have hgi' := List.mem_filter.1 hgi
        by_cases hgg : g' = g
        · subst hgg
          right
          have hi : ¬ i < (n + ys.length) * sz := by
            have := hgi'.2
            simp at this
            omega
          intro ver2 cs2 sz2 b2 c2 xs2 kk y h1 h2
          simp [hglt] at h1
          obtain ⟨_, rfl⟩ := h1
          have := (List.getElem?_eq_some_iff.1 h2).1
          simp only [List.length_append, List.length_take, hfl] at this
          rw [Nat.min_eq_left hn] at this
          omega
        · exact .inl ⟨hgi'.1, by simp [Ne.symm hgg], by simpa using hgg, by simp⟩
      · exfalso
        have hm : O.M b j = some y := hm
        obtain ⟨_, h2⟩ := hh.mem b j y hm
        rcases hb with hb | hb
        · rw [(hh.fresh b hb).2] at hm; cases hm
        · rw [hb] at h2; rcases h2 with h2 | ⟨l, h2⟩ <;> cases h2
      · rw [hw.size] at hb; exact hh.fresh b hb
      · simp only [List.length_set] at hg'
        simp only [O1, Own.bindK]
        rw [if_neg (by omega)]
        exact hh.kdom g' hg'
      · simp only [List.length_set]
        exact hh.pdom g' i (List.mem_filter.1 hgi).1
    refine ⟨O1, (he.step0 hh hs (by simp) (by simp) (by simp)).putV' hd (.msl (k := k') (by simp [O1, Own.bindK]) (Nat.le_refl _) hle fun _ => ⟨rfl, rfl, by simp only [k']; omega⟩), hh1, hs⟩
  · -- the ghost block ends; the slice is the slot's own
    let m : Nat → Option Value := fun j => if k.o ≤ j ∧ j < k.o + (n + ys.length) * sz then rc'[j]? else none
    let O1 : Own := ⟨fun b => if b = k.b then m else O.M b, O.K, fun b => if b = k.b then .perm (.slot (o.dst.getD 0)) else O.B b⟩
    have hs : Stp (· = .heap g) O w O1 (w.setRow k.b rc') := {
      mem := fun b j y hy => by
        simp only [O1]
        split
        · rename_i hb; subst hb; rw [hMb] at hy; cases hy
        · exact hy
      kmap := .refl _
      size := by rw [hw.size]; exact Nat.le_refl _
      os := hw.os
      tape := hw.tape
      output := hw.output
      same := fun b hb hb' => by
        have hne : b ≠ k.b := fun q => hb' (by rw [q]; exact k3)
        exact ⟨hw.other b hne, by simp only [O1]; rw [if_neg hne], fun j => by simp only [O1]; rw [if_neg hne]⟩
      ksame := fun g' q hq _ _ _ => hq }
    have hh1 : HInv P G O1 { st with heap := st.heap.set g .dead, perms := (st.drop g 0 cs.length).perms } (w.setRow k.b rc') := by
      refine hh.stp hs (fun g' o' hg' => ?_) (fun g' i hgi => ?_) (fun b hb j y hm => ?_) (fun b hb => ?_) (fun g' hg' => ?_) fun g' i hgi => ?_
      · by_cases hgg : g' = g
        · subst hgg
          have : o' = .dead := by simpa [List.getElem?_set, hglt] using hg'.symm
          rw [this]; exact .inr trivial
        · exact .inl ⟨by simpa [List.getElem?_set, Ne.symm hgg] using hg', by simpa using hgg, fun _ _ => by simp⟩
      · have hgi' := List.mem_filter.1 hgi
        by_cases hgg : g' = g
        · subst hgg
          right
          intro ver2 cs2 sz2 b2 c2 xs2 kk y h1 h2
          simp [hglt] at h1
        · exact .inl ⟨hgi'.1, by simp [Ne.symm hgg], by simpa using hgg, by simp⟩
      · simp only [O1] at hm ⊢
        by_cases hbb : b = k.b
        · subst hbb
          rw [if_pos rfl] at hm ⊢
          refine ⟨?_, .inr ⟨_, rfl⟩⟩
          rw [cell_at hheap']
          simp only [m] at hm
          split at hm
          · exact hm
          · simp at hm
        · rw [if_neg hbb] at hm ⊢
          obtain ⟨h1, h2⟩ := hh.mem b j y hm
          refine ⟨?_, h2⟩
          simp only [World.cell?, hw.other b hbb] at h1 ⊢
          exact h1
      · rw [hw.size] at hb
        have hne : b ≠ k.b := by have := lt_of_heap k4; omega
        simp only [O1]
        rw [if_neg hne, if_neg hne]
        exact hh.fresh b hb
      · simp only [List.length_set] at hg'; exact hh.kdom g' hg'
      · simp only [List.length_set]
        exact hh.pdom g' i (List.mem_filter.1 hgi).1
    refine ⟨O1, ?_, hh1, hs⟩
    refine (he.step0 hh hs (by simp) (by simp) (by simp)).putC (v := .sl sz false .own (chunks sz n cs ++ ys)) hd fun d hdd => ?_
    have hFB := hF.append hB
    have hxl : (chunks sz n cs ++ ys).length = n + ys.length := by simp [chunks_length]
    have hAl : A.length = n * sz := by have := hF.2.1; rwa [chunks_length] at this
    have hcell : ∀ j, j < (n + ys.length) * sz → ∃ y, (A ++ B)[j]? = some y ∧ rc'[k.o + j]? = some y := by
      intro j hj
      have hjl : j < (A ++ B).length := by rw [List.length_append, hAl, hBl]; omega
      refine ⟨_, List.getElem?_eq_getElem hjl, ?_⟩
      rw [← List.getElem?_eq_getElem hjl, hrc', List.getElem?_append]
      by_cases hjn : j < n * sz
      · rw [if_neg (by omega), if_pos (by omega), hA, List.getElem?_take, if_pos hjn, Array.getElem?_toList, Array.getElem?_extract, if_pos (by omega)]
      · rw [if_pos (by omega), if_neg (by omega), hAl, show k.o + j - (k.o + n * sz) = j - n * sz by omega]
    refine ⟨?_, fun sz' b' xs' hq => ?_⟩
    · simp only [tk, cp]
      rw [← hxl]
      refine .sl (b := k.b) (o := k.o) (f := fun j => (A ++ B).getD j undef) (by decide) (fun q => by cases q) (by rw [hxl]; exact hle) hFB.1 (fun j hj => ?_) fun i j q c h1 h2 => ?_
      · rw [hxl] at hj
        obtain ⟨y, h1, h2⟩ := hcell j hj
        simp only [O1, if_true, m]
        rw [if_pos (by omega), h2, List.getD_eq_getElem?_getD, h1]; rfl
      · have hi := (List.getElem?_eq_some_iff.1 h1).1
        have hj := (List.getElem?_eq_some_iff.1 h2).1
        rw [hFB.1 q (List.mem_of_getElem? h1)] at hj
        have hlt := mul_lt hi hj
        rw [hxl] at hlt
        obtain ⟨y, h3, _⟩ := hcell _ hlt
        rw [List.getD_eq_getElem?_getD, h3]
        exact hs.vrel (hFB.2.2 i j q c y h1 h2 h3)
    · simp only [tk, GV.sl.injEq] at hq
      obtain ⟨rfl, rfl, _, rfl⟩ := hq
      refine ⟨k.b, k.o, cap, rc', ty, by rw [hxl], by simp [O1, hdd], hheap', by rw [hrcs]; exact k6, fun j hj => ?_⟩
      rw [hxl] at hj
      simp only [O1, if_true, m]
      rw [if_neg (by omega)]

/-- A ghost block's slice moves to a new row; the ghost block is that row. -/
theorem msl_grow {e1 : Env} (he : EnvRel O w e1 a.tmps) (hh : HInv P G O st w) (hd : ∀ d, o.dst = some d → d < a.tmps.size) {g ver n sz cap : Nat} {cs : List GV} (hg : st.heap[g]? = some (.cells ver cs)) {k : KI} (hk : O.K g = some k) (hkv : k.ver = ver)
    (hn : n * sz ≤ cs.length) {ys : List (List GV)} (hys : ∀ q, q ∈ ys → q.length = sz) {A : Array Value} {ty : TypeId} (hr : FRel O.M O.K sz (chunks sz n cs ++ ys) (A.toList.take ((n + ys.length) * sz)))
    (hcs : LRel O.M O.K (cs.take (n * sz) ++ ys.flatten) ((A.toList.take ((n + ys.length) * sz)).toArray)) (hA : A.size = cap * sz) (hl : n + ys.length ≤ cap) (hp : Pushed w w' (.cells A ty)) :
    ∃ O', EnvRel O' w' (dstU o.dst (.msl g (ver + 1) 0 (n + ys.length) sz) e1) (a.put o.dst (.slice (some ⟨w.heap.size, 0, none⟩) (n + ys.length) cap)).tmps ∧
      HInv P G O' { st with heap := st.heap.set g (.cells (ver + 1) (cs.take (n * sz) ++ ys.flatten)), perms := (st.drop g 0 ((n + ys.length) * sz)).perms } w' ∧ Stp (· = .heap g) O w O' w' := by
  have hle : (n + ys.length) * sz ≤ cap * sz := Nat.mul_le_mul_right sz hl
  have hlen : (n + ys.length) * sz = n * sz + ys.length * sz := Nat.add_mul _ _ _
  have hglt := (List.getElem?_eq_some_iff.1 hg).1
  have hfl := flatten_length hys
  let k' : KI := ⟨w.heap.size, 0, ver + 1, A.size⟩
  have hs0 := Stp.alloc hh hp (.heap g) fun _ => none
  let O1 := (O.newB w.heap.size (.heap g) fun _ => none).bindK g k'
  have hs : Stp (· = .heap g) O w O1 w' := {
    mem := hs0.mem
    kmap := fun g' q hq => by
      simp only [O1, Own.bindK, Own.newB]
      by_cases hgg : g' = g
      · subst hgg
        rw [hk] at hq
        simp only [Option.some.injEq] at hq; subst hq
        exact ⟨k', by simp, by simp only [k']; omega, fun q => by simp only [k'] at q; omega⟩
      · exact ⟨q, by rw [if_neg hgg]; exact hq, Nat.le_refl _, fun _ => rfl⟩
    size := hs0.size
    os := hp.os
    tape := hp.tape
    output := hp.output
    same := fun b hb _ => hs0.same b hb id
    ksame := fun g' q hq _ _ hgg => by
      simp only [O1, Own.bindK, Own.newB]
      rw [if_neg fun h => hgg (by rw [h])]; exact hq }
  have hobj : ObjRel P G O1 w' g (.cells (ver + 1) (cs.take (n * sz) ++ ys.flatten)) := by
    refine ⟨k', A, ty, by simp [O1, Own.bindK], rfl, by simp [O1, Own.bindK, Own.newB, k'], hp.get.1, rfl, ?_, fun i c y h1 h2 => hs.vrel (hcs.2 i c y h1 ?_)⟩
    · simp only [List.length_append, List.length_take, hfl, k']
      rw [Nat.min_eq_left hn]; omega
    · have := (List.getElem?_eq_some_iff.1 h1).1
      simp only [List.length_append, List.length_take, hfl] at this
      rw [Nat.min_eq_left hn] at this
      simp only [k', Nat.zero_add] at h2
      rw [List.getElem?_toArray, List.getElem?_take, if_pos (by omega), Array.getElem?_toList]; exact h2
  refine ⟨O1, (he.step0 hh hs (by simp) (by simp) (by simp)).putV' hd (.msl (k := k') (by simp [O1, Own.bindK]) (Nat.le_refl _) hl fun _ => ⟨rfl, rfl, by simp only [k']; omega⟩), ?_, hs⟩
  refine hh.stp hs (fun g' o' hg' => ?_) (fun g' i hgi => ?_) (fun b hb j y hm => ?_) (fun b hb => ?_) (fun g' hg' => ?_) fun g' i hgi => ?_
  · by_cases hgg : g' = g
    · subst hgg
      have : o' = .cells (ver + 1) (cs.take (n * sz) ++ ys.flatten) := by simpa [List.getElem?_set, hglt] using hg'.symm
      rw [this]; exact .inr hobj
    · exact .inl ⟨by simpa [List.getElem?_set, Ne.symm hgg] using hg', by simpa using hgg, fun _ _ => by simp⟩
  · have hgi' := List.mem_filter.1 hgi
    by_cases hgg : g' = g
    · subst hgg
      right
      have hi : ¬ i < (n + ys.length) * sz := by
        have := hgi'.2
        simp at this
        omega
      intro ver2 cs2 sz2 b2 c2 xs2 kk y h1 h2
      simp [hglt] at h1
      obtain ⟨_, rfl⟩ := h1
      have := (List.getElem?_eq_some_iff.1 h2).1
      simp only [List.length_append, List.length_take, hfl] at this
      rw [Nat.min_eq_left hn] at this
      omega
    · exact .inl ⟨hgi'.1, by simp [Ne.symm hgg], by simpa using hgg, by simp⟩
  · exfalso
    simp only [O1, Own.bindK, Own.newB] at hm
    split at hm
    · simp at hm
    · obtain ⟨_, h2⟩ := hh.mem b j y hm
      rcases hb with hb | hb
      · rw [(hh.fresh b hb).2] at hm; cases hm
      · rw [hb] at h2; rcases h2 with h2 | ⟨l, h2⟩ <;> cases h2
  · rw [hp.size] at hb
    simp only [O1, Own.bindK, Own.newB]
    rw [if_neg (by omega), if_neg (by omega)]
    exact hh.fresh b (by omega)
  · simp only [List.length_set] at hg'
    simp only [O1, Own.bindK, Own.newB]
    rw [if_neg (by omega)]
    exact hh.kdom g' hg'
  · simp only [List.length_set]
    exact hh.pdom g' i (List.mem_filter.1 hgi).1

theorem HInv.kill (hh : HInv P G O st w) {g : Nat} (pp : List (Nat × Nat)) (hpp : ∀ g' i, (g', i) ∈ pp → (g', i) ∈ st.perms) : HInv P G O { st with heap := st.heap.set g .dead, perms := pp } w where
  obj g' o' hg' := by
    simp only [List.getElem?_set] at hg'
    split at hg'
    · split at hg'
      · simp only [Option.some.injEq] at hg'; rw [← hg']; trivial
      · simp at hg'
    · exact hh.obj g' o' hg'
  perm g' i hgi := by
    intro ver cs sz b c xs k y h1 h2 h3 h4
    simp only [List.getElem?_set] at h1
    split at h1
    · split at h1 <;> simp at h1
    · exact hh.perm g' i (hpp g' i hgi) ver cs sz b c xs k y h1 h2 h3 h4
  mem := hh.mem
  fresh := hh.fresh
  glob := hh.glob
  kdom g' hg' := by simp only [List.length_set] at hg'; exact hh.kdom g' hg'
  pdom g' i hgi := by simp only [List.length_set]; exact hh.pdom g' i (hpp g' i hgi)
end
end Go.Proofs.YtibhcmacccfakaaGreatDoor
namespace Go.Proofs.YtibhcmacccfakaaGreatDoor
variable [Sym]

section
variable {P : Program} {G : Glob} {O : Own} {w w' : World} {st st' : St} {e : Env} {a : Act} {o : Oper} {v : GV} {u : Env} {tmps : Array Value}

theorem LRel.append {M : Mem} {K : KMap} {cs ds : List GV} {A B : Array Value} (h : LRel M K cs A) (h' : LRel M K ds B) : LRel M K (cs ++ ds) (A ++ B) := by
  refine ⟨by simp [h.1, h'.1], fun i c v h1 h2 => ?_⟩
  rw [List.getElem?_append] at h1
  rw [Array.getElem?_append, h.1] at h2
  split at h1
  · rename_i hi
    rw [if_pos hi] at h2; exact h.2 i c v h1 h2
  · rename_i hi
    rw [if_neg hi] at h2; exact h'.2 _ c v h1 h2

theorem sim_append (he : EnvRel O w e a.tmps) (hh : HInv P G O st w) (hd : ∀ d, o.dst = some d → d < a.tmps.size) {C : Call} {V : CallV} {t y : GX} {sz bytes : Nat} {mu h : Bool}
    (hk : okOp P G o.op (.append t y sz bytes mu h) = true) (hv : effOp C V e st (.append t y sz bytes mu h) = some (v, u, st')) : EffSim P G O w e a o v u st' := by
  simp only [effOp, Option.bind_eq_bind, Option.bind_eq_some_iff, Option.some.injEq, Prod.mk.injEq] at hv
  obtain ⟨ys, hys, ⟨v1, s1⟩, happ, rfl, rfl, rfl⟩ := hv
  change EffSim P G O w e a o v1 (spent e t) s1
  obtain ⟨X, Y, el, i, z, ha⟩ := okOp_append hk
  obtain ⟨B, hB0, hY⟩ := app_reads (P := P) he hh ha.y hys
  obtain ⟨O1, l, he1, hh1, hs1, hc1, hl1, hl2⟩ := take_op he hh ha.x
  have hB := hB0.mono (M' := O1.M) (K' := O1.K) fun h => hs1.vrel h
  have hs1' : Stp (opT st.ro) O w O1 w := hs1.weak fun t ht => ht.op
  have hr0 := rd_rel he hh ha.x
  generalize hx : a.eval X = x at hc1 hr0
  have hcp : ∀ q, t = .s q → cp (get (spent e t ++ e) q) = get (spent e t ++ e) q := by
    rintro q rfl
    simp only [spent, List.cons_append, List.nil_append, get, if_true, cp_cp]
  -- nothing is appended
  have nothing : ∀ {base : Option Addr} {len cap : Nat}, x = .slice base len cap → len ≤ cap → ys = [] → v1 = raw e t → s1 = st → tk (raw e t) = raw e t → EffSim P G O w e a o v1 (spent e t) s1 := by
    rintro base len cap rfl hle rfl rfl rfl htk
    have hBn : B = [] := List.length_eq_zero_iff.1 (by have := hB.2.1; simpa using this)
    subst hBn
    have hrun : Gives P w a o (.slice base (len + 0) cap) w := run_app_in ha hx hY hle (by cases base <;> simp [storeCells])
    cases t with
    | c c =>
      have hno := hl2 c rfl
      have hcc : cp c = c := by
        rw [← tk_cp c fun sz b xs hq => by subst hq; simp [ownSl] at hno]; exact htk
      have hr1 : VRel O.M O.K (cp c) (.slice base len cap) := hr0
      rw [hcc] at hr1
      exact EffSim.of_pure he hh hd (.of_vrel hrun hr1)
    | s t =>
      obtain ⟨O2, g1, g2, g3, g4⟩ := take_perm hh1 (.slot (o.dst.getD 0)) hc1 (pp := s1.perms) fun g i hgi => ⟨hgi, by simp⟩
      have hlt := hl1 t rfl
      subst hlt
      have heq : EnvRel O2 w (spent e (.s l) ++ e) a.tmps := by
        refine (he1.cpSlot (t := l) g2 g3 (by simp) (fun q hq => by simpa using hq) (by simp)).congr fun q => ?_
        simp only [get]
        split
        · rename_i hq; subst hq; exact hcp l rfl
        · rfl
      refine ⟨_, w, O2, .inl hrun, ?_, g1, hs1'.trans (g2.weak fun q hq => .inr (.inr ⟨_, hq⟩))⟩
      rw [htk] at g4
      have := heq.putC (v := raw e (.s l)) (dst := o.dst) (x := .slice base len cap) hd fun d hdd => by rw [hdd] at g4; rw [htk]; exact g4
      rw [htk] at this
      exact this
  unfold doAppend at happ
  split at happ
  · -- a slice that never changes, or is the slot's own
    rename_i zz bn cap xs hraw
    rw [hraw] at hc1
    simp only [tk] at hc1
    have hcp1 : ∃ c', cp (.sl zz bn cap xs) = .sl zz bn c' xs ∧ (cap = .exact → c' = .exact) := by cases cap <;> exact ⟨_, rfl, fun h => by first | exact h | cases h⟩
    obtain ⟨c', hc', hce⟩ := hcp1
    have hv1 := hc1.1
    rw [hc'] at hv1
    split at happ
    · rename_i hy0
      subst hy0
      simp only [Option.some.injEq, Prod.mk.injEq] at happ
      obtain ⟨rfl, rfl⟩ := happ
      obtain ⟨A, base, cap', g1, g2, _⟩ := sl_old (sz := zz) (P := P) hh1 hv1 (.inl rfl)
      exact nothing g1 g2 rfl rfl rfl (by rw [hraw]; rfl)
    · rename_i hy0
      split at happ
      · simp at happ
      · rename_i hcond
        simp only [not_or, Nat.not_lt, Bool.not_eq_false, Decidable.not_not] at hcond
        obtain ⟨hno, hmo, hb1, hb2, hone, hz0⟩ := hcond
        have hz : zz = sz ∨ (xs = [] ∧ cap = .exact) := Classical.byContradiction fun hq => hz0 (not_or.1 hq)
        simp only [bound] at hb1 hb2
        have hz' : zz = sz ∨ xs = [] := hz.imp id fun q => q.1
        obtain ⟨A, base, cap', g1, g2, g3, g4, g5⟩ := sl_old (sz := sz) (P := P) hh1 hv1 hz'
        -- a new row
        have grow : ¬ xs.length + ys.length ≤ cap' → EffSim P G O w e a o v1 (spent e t) s1 := by
          intro hroom
          obtain ⟨newCap, w', Z, k1, k2, k3, k4⟩ := run_app_grow (P := P) (w := w) ha (by rw [hx]; exact g1) hY g5 hroom hb1 hb2
          have hrel := grown_rel (Z := Z) g3 hB
          have hsize := grown_size g3 hB k1 k4
          have hlen : (xs ++ ys).length = xs.length + ys.length := by simp
          split at happ
          · split at happ
            · simp only [Option.some.injEq, Prod.mk.injEq] at happ
              obtain ⟨rfl, rfl⟩ := happ
              obtain ⟨O2, q1, q2, q3⟩ := mslNew he1 hh1 hd hrel (cap := newCap) hsize (by rw [hlen]; exact k1) k3
              rw [hlen] at q1
              exact ⟨_, w', O2, .inl k2, q1, q2, hs1'.trans (q3.weak fun _ h => h.elim)⟩
            · simp at happ
          · simp only [Option.some.injEq, Prod.mk.injEq] at happ
            obtain ⟨rfl, rfl⟩ := happ
            obtain ⟨O2, q1, q2, q3⟩ := ownNew he1 hh1 hd hrel (cap := newCap) hsize (by rw [hlen]; exact k1) k3
            rw [hlen] at q1
            exact ⟨_, w', O2, .inl k2, q1, q2, hs1'.trans (q3.weak fun _ h => h.elim)⟩
        by_cases hroom : xs.length + ys.length ≤ cap'
        · have hown : cap = .own := by
            cases hcap : cap with
            | own => rfl
            | no => exact absurd hcap hno
            | exact =>
              have := g4 (hce hcap)
              have hyl : ys.length ≠ 0 := fun q => hy0 (List.length_eq_zero_iff.1 q)
              omega
          subst hown
          have hzz : zz = sz := by
            rcases hz with h | ⟨_, h⟩
            · exact h
            · cases h
          subst hzz
          cases t with
          | c c =>
            have := hl2 c rfl
            simp only [raw] at hraw
            rw [hraw] at this
            simp [ownSl] at this
          | s t =>
            have hlt := hl1 t rfl
            subst hlt
            obtain ⟨b, off, cap2, q1, q2⟩ := own_inplace (P := P) he1 (hcp l rfl) hh1 hd hc1 hB hone
            rw [g1] at q1
            simp only [Value.slice.injEq, true_and] at q1
            obtain ⟨rfl, rfl⟩ := q1
            obtain ⟨w', O2, r1, r2, r3, r4⟩ := q2 hroom
            split at happ
            · rename_i hmu
              exact absurd ⟨hmu, rfl⟩ hmo
            · simp only [Option.some.injEq, Prod.mk.injEq] at happ
              obtain ⟨rfl, rfl⟩ := happ
              exact ⟨_, w', O2, .inl (run_app_in (base := some ⟨b, off, none⟩) ha (by rw [hx]; exact g1) hY hroom r1), r2, r3, hs1'.trans (r4.weak fun _ h => h.op)⟩
        · exact grow hroom
  · -- a slice of a ghost block
    rename_i g ver o2 n zz hraw
    rw [hraw] at hc1
    have hv1 : VRel O1.M O1.K (.msl g ver o2 n zz) x := hc1.1
    split at happ
    · rename_i hy0
      subst hy0
      simp only [Option.some.injEq, Prod.mk.injEq] at happ
      obtain ⟨rfl, rfl⟩ := happ
      cases hv1 with
      | msl _ _ hl _ => exact nothing rfl hl rfl rfl rfl (by rw [hraw]; rfl)
    · rename_i hy0
      split at happ
      · simp at happ
      · rename_i hcond
        simp only [not_or, Nat.not_lt, Bool.not_eq_false, ne_eq, Decidable.not_not] at hcond
        obtain ⟨_, rfl, rfl, hb1, hb2, hone⟩ := hcond
        simp only [bound] at hb1 hb2
        split at happ
        · rename_i ver' cs hg
          split at happ
          · rename_i hvn
            obtain ⟨rfl, hn⟩ := hvn
            obtain ⟨k, rc, ty, cap, A, q1, q2, q3, q4, q5, q6, q7, q8, q9, q10, q11, q12⟩ := msl_old (P := P) hh1 hg hv1 hn
            obtain ⟨b, off, cap2, p1, p2⟩ := msl_inplace (P := P) he1 hh1 hd hg hv1 hn hB hone
            rw [q1] at p1
            simp only [Value.slice.injEq, Option.some.injEq, Addr.mk.injEq, true_and, and_true] at p1
            obtain ⟨⟨rfl, rfl⟩, rfl⟩ := p1
            have hAl : A.length = n * zz := by have := q11.2.1; rwa [chunks_length] at this
            have hcl : (chunks zz n cs).length = n := chunks_length zz n cs
            by_cases hroom : n + ys.length ≤ cap
            · obtain ⟨w', r1, ⟨O2, m1, m2, m3⟩, O3, d1, d2, d3⟩ := p2 hroom
              have hrun := run_app_in (P := P) (base := some ⟨k.b, k.o, none⟩) ha (by rw [hx]; exact q1) hY hroom r1
              split at happ
              · split at happ
                · simp only [Option.map_eq_some_iff, Prod.mk.injEq] at happ
                  obtain ⟨s2, hput, rfl, rfl⟩ := happ
                  obtain ⟨hro, rfl⟩ := St.put_some hput
                  exact ⟨_, w', O2, .inl hrun, m1, m2, hs1'.trans (m3.weak fun _ h => .inl ⟨g, hro, h⟩)⟩
                · simp at happ
              · simp only [Option.map_eq_some_iff, Prod.mk.injEq] at happ
                obtain ⟨s2, hput, rfl, rfl⟩ := happ
                obtain ⟨hro, rfl⟩ := St.put_some hput
                exact ⟨_, w', O3, .inl hrun, d1, d2, hs1'.trans (d3.weak fun _ h => .inl ⟨g, hro, h⟩)⟩
            · obtain ⟨newCap, w', Z, k1, k2, k3, k4⟩ := run_app_grow (P := P) (w := w) ha (by rw [hx]; exact q1) hY q12 hroom hb1 hb2
              have hrel := grown_rel (Z := Z) q11 hB
              have hsize := grown_size q11 hB (by rw [hcl]; exact k1) (by rw [hcl]; exact k4)
              have hlen : (chunks zz n cs ++ ys).length = n + ys.length := by rw [List.length_append, hcl]
              split at happ
              · split at happ
                · simp only [Option.map_eq_some_iff, Prod.mk.injEq] at happ
                  obtain ⟨s2, hput, rfl, rfl⟩ := happ
                  obtain ⟨hro, rfl⟩ := St.put_some hput
                  have hcs : LRel O1.M O1.K (cs.take (n * zz) ++ ys.flatten) (((A.toArray ++ B.toArray ++ Z).toList.take ((n + ys.length) * zz)).toArray) := by
                    have h1 : LRel O1.M O1.K (cs.take (n * zz)) A.toArray := by
                      have h2 := q10.extract 0 (n * zz)
                      have h3 : ((rc.extract k.o (k.o + cs.length)).extract 0 (0 + n * zz)) = A.toArray := by
                        rw [q9]; apply Array.ext'; simp [List.extract_eq_take_drop]; rw [List.take_take]
                      rw [h3, List.drop_zero] at h2
                      exact h2
                    have h2 := h1.append hB.flat
                    have h3 : ((A.toArray ++ B.toArray ++ Z).toList.take ((n + ys.length) * zz)).toArray = A.toArray ++ B.toArray := by
                      have h4 : (A.toArray ++ B.toArray ++ Z).toList = (A ++ B) ++ Z.toList := by simp
                      have h5 : (n + ys.length) * zz = (A ++ B).length := by rw [List.length_append, hAl, hB.2.1, Nat.add_mul]
                      rw [h4, h5, List.take_left]; simp
                    rw [h3]; exact h2
                  rw [hlen] at hrel
                  obtain ⟨O2, m1, m2, m3⟩ := msl_grow (P := P) he1 hh1 hd hg q3 q4 hn hB.1 hrel hcs hsize k1 k3
                  exact ⟨_, w', O2, .inl k2, m1, m2, hs1'.trans (m3.weak fun _ h => .inl ⟨g, hro, h⟩)⟩
                · simp at happ
              · simp only [Option.map_eq_some_iff, Prod.mk.injEq] at happ
                obtain ⟨s2, hput, rfl, rfl⟩ := happ
                obtain ⟨hro, rfl⟩ := St.put_some hput
                have hh2 := hh1.kill (g := g) (st.drop g 0 cs.length).perms fun g' i hgi => (List.mem_filter.1 hgi).1
                obtain ⟨O2, m1, m2, m3⟩ := ownNew he1 hh2 hd hrel (cap := newCap) hsize (by rw [hlen]; exact k1) k3
                rw [hlen] at m1
                exact ⟨_, w', O2, .inl k2, m1, m2, hs1'.trans (m3.weak fun _ h => h.elim)⟩
          · simp at happ
        · simp at happ
  · simp at happ

theorem sim_copy (he : EnvRel O w e a.tmps) (hh : HInv P G O st w) (hd : ∀ d, o.dst = some d → d < a.tmps.size) {C : Call} {V : CallV} {x y : GX} {sz : Nat}
    (hk : okOp P G o.op (.copy x y sz) = true) (hv : effOp C V e st (.copy x y sz) = some (v, u, st')) : EffSim P G O w e a o v u st' := by
  simp only [effOp, Option.bind_eq_bind, Option.bind_eq_some_iff, Option.some.injEq, Prod.mk.injEq] at hv
  obtain ⟨ys, hys, ⟨v1, s1⟩, hcp, rfl, rfl, rfl⟩ := hv
  change EffSim P G O w e a o v1 [] s1
  unfold okOp at hk; dsimp only at hk
  split at hk
  · rename_i args ats ho
    split at hk
    · rename_i X Y t hargs hats
      simp only [Bool.and_eq_true] at hk
      obtain ⟨⟨hX, hY⟩, hk⟩ := hk
      have e1 : args = #[X, Y] := by rw [← Array.toArray_toList (xs := args), hargs]
      subst e1
      split at hk
      · rename_i el hsl
        have hu := sliceOf_inv hsl
        have hX := rd_rel he hh hX
        obtain ⟨B, hB, hR⟩ := elems_rel (P := P) hh (rd_rel he hh hY) hys
        obtain ⟨hR1, hR2⟩ := hR w rfl
        generalize hx : a.eval X = xv at hX
        simp only [doCopy, Option.bind_eq_bind, Option.bind_eq_some_iff] at hcp
        obtain ⟨n, hn, hcp⟩ := hcp
        have run : ∀ {base : Option Addr} {cap : Nat} {w' : World}, xv = .slice base n cap →
            (match base with | some A => (storeCells A (B.take ((min ys.length n) * sz))).run P w | none => .ok () w) = .ok () w' → Gives P w a o (.int .i64 (min ys.length n : Nat)) w' := by
          intro base cap w' hxv hst
          have hf := hR2 (min ys.length n) (Nat.min_le_left _ _)
          have hsz := run_sizeOf (P := P) (w := w) hk
          have hmin : Nat.min ys.length n = min ys.length n := rfl
          simp only [Gives, execOp, ho, resolve, invoke, builtin, Builtin.copy_, Sem.run_bind, Sem.run_pure, Result.andThen_ok, hats]
          simp only [List.map_toArray, List.map_cons, List.map_nil, List.getElem?_toArray, List.getElem?_cons_zero, List.getElem?_cons_succ, hx, hxv, Sem.run_bind, run_underlying hu, Result.andThen_ok, hsz, Sem.run_pure, hR1, hmin, hf]
          cases base with
          | none =>
            simp only [Result.ok.injEq, true_and] at hst
            subst hst
            simp [goInt]
          | some A =>
            simp only at hst
            simp [hst, goInt]
        split at hcp
        · rename_i hk0
          split at hcp
          · rename_i hkind
            simp only [Option.some.injEq, Prod.mk.injEq] at hcp
            obtain ⟨rfl, rfl⟩ := hcp
            have hxv : ∃ base cap, xv = .slice base n cap := by
              generalize rd e x = gx at hX hkind hn
              cases hX <;> simp only [kindOf, Bool.false_eq_true] at hkind <;> simp only [glen, Option.some.injEq] at hn <;> subst hn <;> exact ⟨_, _, rfl⟩
            obtain ⟨base, cap, hxv⟩ := hxv
            have := run (w' := w) hxv (by cases base <;> simp [hk0, storeCells])
            rw [hk0] at this
            exact EffSim.of_pure he hh hd (.of_vrel this (.int _ _))
          · simp at hcp
        · rename_i hk0
          split at hcp
          · rename_i g ver off n2 zz hd2
            split at hcp
            · rename_i hz
              subst hz
              simp only [Option.map_eq_some_iff, Prod.mk.injEq] at hcp
              obtain ⟨⟨u1, s2⟩, hwr, rfl, rfl⟩ := hcp
              rw [hd2] at hX hn
              simp only [glen, Option.some.injEq] at hn
              subst hn
              have hwr' : writeAt e st 0 true ((ys.take (min ys.length n2)).flatten) (.ptr g ver off) = some (u1, s2) := by
                rw [writeAt_congr (e' := []) (by simp)]; exact hwr
              have hu1 : u1 = [] := by
                cases u1 with
                | nil => rfl
                | cons p r => have := (writeAt_keys hwr' p (by simp)).2; simp at this
              subst hu1
              cases hX with
              | @msl _ _ _ _ _ cap b o' k hkk hv' hl ha =>
                have hA : ARel O e a.tmps (.ptr g ver off) (.pointer (some ⟨b, o', none⟩)) := by
                  show VRel O.M O.K _ _
                  exact .ptr hkk hv' fun q => ⟨(ha q).1, (ha q).2.1⟩
                have hF := (hB.take (min ys.length n2)).flat
                have hg : ∀ (i : Nat) (c : GV) (z : Value), ((ys.take (min ys.length n2)).flatten)[i]? = some c → (B.take ((min ys.length n2) * zz))[i]? = some z → VRel O.M O.K c z := fun i c z h1 h2 => hF.2 i c z h1 (by simpa using h2)
                obtain ⟨b2, off2, w', q1, q2, q3, q4, q5, _⟩ := writeAt_rel he hh hA (ys := B.take ((min ys.length n2) * zz)) (by have := hF.1; simpa using this)
                  (fun i c z h1 h2 => by have := hg i c z h1 h2; rw [this.cp_eq]; exact this) (fun s o' hq => by cases hq) hwr'
                simp only [Value.pointer.injEq, Option.some.injEq, Addr.mk.injEq, and_true] at q1
                obtain ⟨rfl, rfl⟩ := q1
                have hrun := run (base := some ⟨b, o', none⟩) (cap := cap) (w' := w') rfl q2
                exact ⟨_, w', O, .inl hrun, q3.putV' hd (.int _ _), q4, q5.weak fun t ht => by rw [writeAt_ro hwr']; exact ht.op⟩
            · simp at hcp
          · simp at hcp
      · simp at hk
    · simp at hk
  · simp at hk
end
end Go.Proofs.YtibhcmacccfakaaGreatDoor
namespace Go.Proofs.YtibhcmacccfakaaGreatDoor
variable [Tab]

mutual
theorem refsLt_mono {a b : Nat} (h : a ≤ b) : ∀ (v : GV), refsLt a v = true → refsLt b v = true
  | .ptr g _ _, hv => by simp only [refsLt, decide_eq_true_eq] at hv ⊢; omega
  | .msl g _ _ _ _, hv => by simp only [refsLt, decide_eq_true_eq] at hv ⊢; omega
  | .map g, hv => by simp only [refsLt, decide_eq_true_eq] at hv ⊢; omega
  | .func fn fs cs, hv => by
    simp only [refsLt, Bool.and_eq_true] at hv ⊢
    refine ⟨⟨?_, refsLtL_mono h fs hv.1.2⟩, refsLtL_mono h cs hv.2⟩
    have := hv.1.1
    cases fn <;> simp_all <;> omega
  | .iface _ v, hv => by simp only [refsLt] at hv ⊢; exact refsLt_mono h v hv
  | .agg cs, hv => by simp only [refsLt] at hv ⊢; exact refsLtL_mono h cs hv
  | .tuple cs, hv => by simp only [refsLt] at hv ⊢; exact refsLtL_mono h cs hv
  | .eptr cs, hv => by simp only [refsLt] at hv ⊢; exact refsLtL_mono h cs hv
  | .sl _ _ _ xs, hv => by simp only [refsLt] at hv ⊢; exact refsLtLL_mono h xs hv
  | .box _, hv => by simp [refsLt] at hv
  | .lptr _ _, hv => by simp [refsLt] at hv
  | .undef, _ => rfl
  | .sym _, _ => rfl
  | .bool _, _ => rfl
  | .int _ _, _ => rfl
  | .str _, _ => rfl
  | .nilptr, _ => rfl
  | .nilmap, _ => rfl
  | .nilfunc, _ => rfl
  | .niliface, _ => rfl
theorem refsLtL_mono {a b : Nat} (h : a ≤ b) : ∀ (vs : List GV), refsLtL a vs = true → refsLtL b vs = true
  | [], _ => rfl
  | v :: r, hv => by
    simp only [refsLtL, Bool.and_eq_true] at hv ⊢
    exact ⟨refsLt_mono h v hv.1, refsLtL_mono h r hv.2⟩
theorem refsLtLL_mono {a b : Nat} (h : a ≤ b) : ∀ (vs : List (List GV)), refsLtLL a vs = true → refsLtLL b vs = true
  | [], _ => rfl
  | v :: r, hv => by
    simp only [refsLtLL, Bool.and_eq_true] at hv ⊢
    exact ⟨refsLtL_mono h v hv.1, refsLtLL_mono h r hv.2⟩
end

theorem refsLt_cp {n : Nat} {v : GV} (h : refsLt n v = true) : refsLt n (cp v) = true := by
  cases v with
  | sl sz b c xs => cases c <;> exact h
  | _ => first | exact h | rfl
theorem refsLtL_iff {n : Nat} {cs : List GV} : refsLtL n cs = true ↔ ∀ c, c ∈ cs → refsLt n c = true := by
  induction cs with
  | nil => simp [refsLtL]
  | cons x r ih => simp [refsLtL, ih]
theorem refsLtLL_iff {n : Nat} {xs : List (List GV)} : refsLtLL n xs = true ↔ ∀ x, x ∈ xs → refsLtL n x = true := by
  induction xs with
  | nil => simp [refsLtLL]
  | cons x r ih => simp [refsLtLL, ih]
theorem refsLtL_splice {n : Nat} {cs vs : List GV} {o : Nat} (h : refsLtL n cs = true) (h' : refsLtL n vs = true) : refsLtL n (splice cs o vs) = true := by
  rw [refsLtL_iff] at *
  intro c hc
  simp only [splice, List.append_assoc, List.mem_append] at hc
  rcases hc with hc | hc | hc
  · exact h c (List.mem_of_mem_take hc)
  · exact h' c hc
  · exact h c (List.mem_of_mem_drop hc)
theorem refsLtL_flatten {n : Nat} {xs : List (List GV)} (h : refsLtLL n xs = true) : refsLtL n xs.flatten = true := by
  rw [refsLtL_iff]
  rw [refsLtLL_iff] at h
  intro c hc
  obtain ⟨x, hx, hc⟩ := List.mem_flatten.1 hc
  exact refsLtL_iff.1 (h x hx) c hc

def objLt (n : Nat) : GObj → Prop
  | .cells _ cs => refsLtL n cs = true
  | .map es => ∀ p, p ∈ es → refsLt n p.1 = true ∧ refsLt n p.2 = true
  | .loop e _ _ _ _ _ _ => ∀ t, refsLt n (get e t) = true
  | .miter (some m) _ _ _ => m < n
  | _ => True
def Low (n : Nat) (st : St) : Prop := ∀ g o, g < n → st.heap[g]? = some o → objLt n o

structure Keeps (st st' : St) : Prop where
  base : st'.base = st.base
  ro : st'.ro = st.ro
  len : st.heap.length ≤ st'.heap.length
  old : ∀ g, g < st.ro → st'.heap[g]? = st.heap[g]?
  low : ∀ n, n ≤ st.base → n ≤ st.heap.length → Low n st → Low n st'

section
variable {st st' st'' : St}
theorem Keeps.refl (st : St) : Keeps st st := ⟨rfl, rfl, Nat.le_refl _, fun _ _ => rfl, fun _ _ _ h => h⟩
theorem Keeps.trans (h : Keeps st st') (h' : Keeps st' st'') : Keeps st st'' :=
  ⟨h'.base.trans h.base, h'.ro.trans h.ro, Nat.le_trans h.len h'.len, fun g hg => (h'.old g (by rw [h.ro]; exact hg)).trans (h.old g hg),
    fun n h1 h2 h3 => h'.low n (by rw [h.base]; exact h1) (Nat.le_trans h2 h.len) (h.low n h1 h2 h3)⟩
theorem Keeps.perms (h : Keeps st st') (q : List (Nat × Nat)) : Keeps st { st' with perms := q } := ⟨h.base, h.ro, h.len, h.old, h.low⟩

theorem Keeps.new (o : GObj) (hr : st.ro ≤ st.heap.length) : Keeps st (st.new o) where
  base := rfl
  ro := rfl
  len := by simp [St.new]
  old g hg := by simp only [St.new]; rw [List.getElem?_append_left (by omega)]
  low n _ h2 h3 g o' hg hgo := by
    simp only [St.new] at hgo
    rw [List.getElem?_append_left (by omega)] at hgo
    exact h3 g o' hg hgo

theorem Keeps.put {g : Nat} {o : GObj} (h : st.put g o = some st') (hlow : ∀ n, n ≤ st.base → g < n → Low n st → objLt n o) : Keeps st st' := by
  unfold St.put at h
  split at h
  · rename_i hro
    simp only [Option.some.injEq] at h
    subst h
    exact {
      base := rfl
      ro := rfl
      len := by simp
      old := fun g' hg' => by simp only; rw [List.getElem?_set, if_neg (by omega)]
      low := fun n h1 _ h3 g' o' hg' hgo => by
        simp only at hgo
        rw [List.getElem?_set] at hgo
        split at hgo
        · rename_i hq
          subst hq
          split at hgo
          · simp only [Option.some.injEq] at hgo
            rw [← hgo]
            exact hlow n h1 hg' h3
          · simp at hgo
        · exact h3 g' o' hg' hgo }
  · simp at h
end

section
variable {C : Call} {V : CallV} {e : Env} {st st' : St} {v : GV} {u : Env}

/-- What calls keep. -/
def CKeeps (C : Call) : Prop := ∀ f args st v st', C f args st = some (v, st') → Keeps st st'
def VKeeps (V : CallV) : Prop := ∀ f args st v st', V f args st = some (v, st') → Keeps st st'

theorem writeAt_keeps {root : Nat} {heap : Bool} {vs : List GV} {a : GV} (h : writeAt e st root heap vs a = some (u, st')) : Keeps st st' := by
  cases a <;> simp only [writeAt, reduceCtorEq] at h
  · split at h
    · rename_i hc
      split at h
      · rename_i hg
        split at h
        · simp only [Option.map_eq_some_iff, Prod.mk.injEq] at h
          obtain ⟨s1, hp, _, rfl⟩ := h
          refine (Keeps.put hp fun n h1 h2 h3 => ?_).perms _
          have h4 := h3 _ _ h2 hg
          simp only [objLt] at h4 ⊢
          refine refsLtL_splice h4 ?_
          have h5 : refsLtL 0 vs = true := by
            rcases hc.2 with h5 | h5
            · exact h5
            · omega
          have := refsLtL_mono (Nat.zero_le n) vs h5
          rw [refsLtL_iff] at this ⊢
          intro c hcc
          obtain ⟨c', h6, rfl⟩ := List.mem_map.1 hcc
          exact refsLt_cp (this c' h6)
        · simp at h
      · simp at h
    · simp at h
  · split at h
    · split at h
      · split at h
        · simp only [Option.some.injEq, Prod.mk.injEq] at h
          rw [← h.2]; exact .refl _
        · simp at h
      · simp at h
    · simp at h

theorem setKey_mem {k x : GV} : ∀ {es es' : List (GV × GV)}, setKey k x es = some es' → ∀ p, p ∈ es' → p ∈ es ∨ p = (k, x)
  | [], es', h, p, hp => by
    simp only [setKey, Option.some.injEq] at h
    subst h; exact .inr (by simpa using hp)
  | (j, y) :: r, es', h, p, hp => by
    simp only [setKey] at h
    split at h
    · simp only [Option.some.injEq] at h; subst h
      rcases List.mem_cons.1 hp with hp | hp
      · exact .inr hp
      · exact .inl (List.mem_cons_of_mem _ hp)
    · simp only [Option.map_eq_some_iff] at h
      obtain ⟨es2, h2, rfl⟩ := h
      rcases List.mem_cons.1 hp with hp | hp
      · exact .inl (by simp [hp])
      · exact (setKey_mem h2 p hp).imp (List.mem_cons_of_mem _) id
    · simp at h

theorem effOp_keepsAll (hC : CKeeps C) (hV : VKeeps V) (hr : st.ro ≤ st.heap.length) (o : GOp) (h : effOp C V e st o = some (v, u, st')) : Keeps st st' := by
  cases o <;> simp only [effOp, reduceCtorEq] at h
  case take t => simp at h; obtain ⟨_, _, rfl⟩ := h; exact .refl _
  case hbox x => split at h <;> simp at h; obtain ⟨_, _, rfl⟩ := h; exact .new _ hr
  case halloc z => simp at h; obtain ⟨_, _, rfl⟩ := h; exact .new _ hr
  case bsl sz n z ps mu =>
    simp only [Option.bind_eq_bind, Option.bind_eq_some_iff] at h
    obtain ⟨xs, _, h⟩ := h
    split at h <;> simp at h <;> obtain ⟨_, _, rfl⟩ := h
    · exact .new _ hr
    · exact .refl _
  case loadTake a root heap =>
    simp only [Option.bind_eq_bind, Option.bind_eq_some_iff] at h
    obtain ⟨cs, _, h⟩ := h
    split at h
    · split at h
      · simp at h; obtain ⟨_, _, rfl⟩ := h; exact .refl _
      · split at h
        · split at h <;> simp at h <;> obtain ⟨_, _, rfl⟩ := h
          · exact (Keeps.refl st).perms _
          · exact .refl _
        · simp at h; obtain ⟨_, _, rfl⟩ := h; exact .refl _
      · simp only [Option.bind_eq_some_iff, Option.some.injEq, Prod.mk.injEq] at h
        obtain ⟨⟨u', s'⟩, hw, _, _, rfl⟩ := h
        exact writeAt_keeps hw
    · simp at h
  case store n a x root heap =>
    split at h
    · simp only [Option.bind_eq_bind, Option.bind_eq_some_iff, Option.some.injEq, Prod.mk.injEq] at h
      obtain ⟨⟨u', s'⟩, hw, _, _, rfl⟩ := h
      exact writeAt_keeps hw
    · simp at h
  case storeTake a t root heap =>
    simp only [Option.bind_eq_bind, Option.bind_eq_some_iff, Option.some.injEq, Prod.mk.injEq] at h
    obtain ⟨⟨u', s'⟩, hw, _, _, rfl⟩ := h
    have := writeAt_keeps hw
    split
    · exact this.perms _
    · exact this
  case mkSlice sz bytes z l c pers =>
    simp only [Option.bind_eq_bind, Option.bind_eq_some_iff] at h
    obtain ⟨l', _, c', _, h⟩ := h
    split at h
    · split at h
      · simp at h; obtain ⟨_, _, rfl⟩ := h; exact .refl _
      · split at h <;> simp at h; obtain ⟨_, _, rfl⟩ := h; exact .new _ hr
    · simp at h
  case mkMap => simp at h; obtain ⟨_, _, rfl⟩ := h; exact .new _ hr
  case mapUpdate m k x str =>
    split at h
    · rename_i hkey
      split at h
      · split at h
        · rename_i es hg
          split at h
          · rename_i hc
            simp only [Option.bind_eq_bind, Option.bind_eq_some_iff, Option.some.injEq, Prod.mk.injEq] at h
            obtain ⟨es', hs, s1, hp, _, _, rfl⟩ := h
            refine .put hp fun n h1 h2 h3 p hpp => ?_
            rcases setKey_mem hs p hpp with h4 | rfl
            · exact h3 _ _ h2 hg p h4
            · refine ⟨?_, ?_⟩
              · generalize rd e k = key at hkey
                cases key <;> first | rfl | (simp [isKey] at hkey)
              · rcases hc with h5 | h5
                · exact refsLt_mono (Nat.zero_le n) _ h5
                · omega
          · simp at h
        · simp at h
      · simp at h
    · simp at h
  case range x =>
    split at h
    · simp at h; obtain ⟨_, _, rfl⟩ := h; exact .new _ hr
    · simp at h
  case mrange x =>
    split at h
    · simp at h; obtain ⟨_, _, rfl⟩ := h; exact .new _ hr
    · split at h
      · simp at h; obtain ⟨_, _, rfl⟩ := h; exact .new _ hr
      · simp at h
    · simp at h
  case next x =>
    split at h
    · split at h
      · split at h
        · simp only [Option.bind_eq_bind, Option.bind_eq_some_iff, Option.some.injEq, Prod.mk.injEq] at h
          obtain ⟨s1, hp, _, _, rfl⟩ := h
          exact .put hp fun _ _ _ _ => trivial
        · simp at h; obtain ⟨_, _, rfl⟩ := h; exact .refl _
      · simp at h
    · simp at h
  case append t y sz bytes mu hh =>
    simp only [Option.bind_eq_bind, Option.bind_eq_some_iff, Option.some.injEq, Prod.mk.injEq] at h
    obtain ⟨ys, _, ⟨v1, s1⟩, happ, _, _, rfl⟩ := h
    unfold doAppend at happ
    split at happ
    · split at happ
      · simp at happ; obtain ⟨_, rfl⟩ := happ; exact .refl _
      · split at happ
        · simp at happ
        · split at happ
          · split at happ
            · simp at happ; obtain ⟨_, rfl⟩ := happ; exact .new _ hr
            · simp at happ
          · simp at happ; obtain ⟨_, rfl⟩ := happ; exact .refl _
    · split at happ
      · simp at happ; obtain ⟨_, rfl⟩ := happ; exact .refl _
      · split at happ
        · simp at happ
        · split at happ
          · rename_i w cs hg
            split at happ
            · split at happ
              · split at happ
                · rename_i hc
                  simp only [Option.map_eq_some_iff, Prod.mk.injEq] at happ
                  obtain ⟨s2, hp, _, rfl⟩ := happ
                  refine (Keeps.put hp fun n h1 h2 h3 => ?_).perms _
                  have h4 := h3 _ _ h2 hg
                  simp only [objLt] at h4 ⊢
                  rw [refsLtL_iff] at h4 ⊢
                  intro c hcc
                  rcases List.mem_append.1 hcc with h5 | h5
                  · exact h4 c (List.mem_of_mem_take h5)
                  · rcases hc with h6 | h6
                    · exact refsLt_mono (Nat.zero_le n) _ (refsLtL_iff.1 (refsLtL_flatten h6) c h5)
                    · omega
                · simp at happ
              · simp only [Option.map_eq_some_iff, Prod.mk.injEq] at happ
                obtain ⟨s2, hp, _, rfl⟩ := happ
                exact (Keeps.put hp fun _ _ _ _ => trivial).perms _
            · simp at happ
          · simp at happ
    · simp at happ
  case copy d y sz =>
    simp only [Option.bind_eq_bind, Option.bind_eq_some_iff, Option.some.injEq, Prod.mk.injEq] at h
    obtain ⟨ys, _, ⟨v1, s1⟩, hcp, _, _, rfl⟩ := h
    simp only [doCopy, Option.bind_eq_bind, Option.bind_eq_some_iff] at hcp
    obtain ⟨n, _, hcp⟩ := hcp
    split at hcp
    · split at hcp <;> simp at hcp; obtain ⟨_, rfl⟩ := hcp; exact .refl _
    · split at hcp
      · split at hcp
        · simp only [Option.map_eq_some_iff, Prod.mk.injEq] at hcp
          obtain ⟨⟨u1, s2⟩, hw, _, rfl⟩ := hcp
          exact writeAt_keeps hw
        · simp at hcp
      · simp at hcp
  case call f args pure =>
    split at h
    · rename_i v1 s1 hc
      split at h
      · split at h
        · simp at h; obtain ⟨_, _, rfl⟩ := h; exact .refl _
        · simp only [Option.map_eq_some_iff, Prod.mk.injEq] at h
          obtain ⟨_, _, _, _, rfl⟩ := h; exact .refl _
      · rename_i hpure
        simp only [hpure, Bool.false_eq_true, if_false] at hc
        simp at h; obtain ⟨_, _, rfl⟩ := h
        have hk : Keeps st s1 := by
          cases f with
          | fn f => exact hC _ _ _ _ _ hc
          | val x => exact hV _ _ _ _ _ hc
          | inv x tab =>
            simp only [callTo] at hc
            split at hc
            · split at hc
              · exact hC _ _ _ _ _ hc
              · simp at hc
            · simp at hc
        exact ⟨hk.base, rfl, hk.len, hk.old, hk.low⟩
    · simp at h

theorem stepU_keepsAll (hC : CKeeps C) (hV : VKeeps V) (hr : st.ro ≤ st.heap.length) {s : GStmt} (h : stepU C V e st s = some (u, st')) : Keeps st st' := by
  unfold stepU at h
  split at h
  · split at h
    · rename_i v' u' s1 ho
      simp only [Option.some.injEq, Prod.mk.injEq] at h
      obtain ⟨_, rfl⟩ := h
      unfold stepOp at ho
      split at ho
      · split at ho
        · simp at ho; obtain ⟨_, _, rfl⟩ := ho; exact .refl _
        · simp at ho
      · split at ho
        · simp at ho; obtain ⟨_, _, rfl⟩ := ho; exact .refl _
        · simp at ho
      · exact effOp_keepsAll hC hV hr s.op ho
    · simp at h
  · simp only [Option.some.injEq, Prod.mk.injEq] at h
    obtain ⟨_, rfl⟩ := h; exact .refl _
  · simp at h

theorem runOps_keeps (hC : CKeeps C) (hV : VKeeps V) : ∀ {l : List GStmt} {e : Env} {st : St} {e' : Env} {st' : St}, st.ro ≤ st.heap.length → runOps C V l e st = some (e', st') → Keeps st st'
  | [], e, st, e', st', _, h => by
    simp only [runOps, Option.some.injEq, Prod.mk.injEq] at h
    rw [← h.2]; exact .refl _
  | s :: r, e, st, e', st', hr, h => by
    simp only [runOps, step] at h
    cases hs : stepU C V e st s with
    | none => rw [hs] at h; simp at h
    | some q =>
      obtain ⟨u, s1⟩ := q
      rw [hs] at h
      have hk := stepU_keepsAll hC hV hr hs
      exact hk.trans (runOps_keeps hC hV (by rw [hk.ro]; exact Nat.le_trans hr hk.len) h)
end

section
variable {C : Call} {V : CallV} {fn : Nat}

theorem loopN_keeps {body : Env → St → Option (GE × Env × St)} (hb : ∀ e st ge e' st', st.ro ≤ st.heap.length → body e st = some (ge, e', st') → Keeps st st') {keep : List Nat} :
    ∀ {n : Nat} {e : Env} {st : St} {ge : GE} {e' : Env} {st' : St}, st.ro ≤ st.heap.length → loopN body keep n e st = some (ge, e', st') → Keeps st st'
  | 0, _, _, _, _, _, _, h => by simp [loopN] at h
  | n + 1, e, st, ge, e', st', hr, h => by
    simp only [loopN] at h
    split at h
    · rename_i e1 s1 h1
      have hk := hb _ _ _ _ _ hr h1
      exact hk.trans (loopN_keeps hb (by rw [hk.ro]; exact Nat.le_trans hr hk.len) h)
    · exact hb _ _ _ _ _ hr h

theorem run_keeps (hC : CKeeps C) (hV : VKeeps V) (n : Nat) {ro : Option Nat} : ∀ (c : GC) (e : Env) (st : St) (ge : GE) (e' : Env) (st' : St), st.ro ≤ st.heap.length → run C V n fn ro c e st = some (ge, e', st') → Keeps st st'
  | .skip, e, st, ge, e', st', _, h => by simp [run] at h; rw [← h.2.2]; exact .refl _
  | .region ops keep, e, st, ge, e', st', hr, h => by
    simp only [run] at h
    split at h
    · rename_i h1
      simp only [Option.some.injEq, Prod.mk.injEq] at h
      rw [← h.2.2]; exact runOps_keeps hC hV hr h1
    · simp at h
  | .pregion _ ops keep, e, st, ge, e', st', hr, h => by
    simp only [run] at h
    split at h
    · rename_i h1
      simp only [Option.some.injEq, Prod.mk.injEq] at h
      rw [← h.2.2]; exact runOps_keeps hC hV hr h1
    · simp at h
  | .seq a b, e, st, ge, e', st', hr, h => by
    simp only [run] at h
    split at h
    · rename_i h1
      have hk := run_keeps hC hV n a _ _ _ _ _ hr h1
      exact hk.trans (run_keeps hC hV n b _ _ _ _ _ (by rw [hk.ro]; exact Nat.le_trans hr hk.len) h)
    · exact run_keeps hC hV n a _ _ _ _ _ hr h
  | .cond x a b, e, st, ge, e', st', hr, h => by
    simp only [run] at h
    split at h
    · split at h
      · exact run_keeps hC hV n a _ _ _ _ _ hr h
      · exact run_keeps hC hV n b _ _ _ _ _ hr h
    · simp at h
  | .block id b, e, st, ge, e', st', hr, h => by
    simp only [run] at h
    split at h
    · rename_i h1
      have hk := run_keeps hC hV n b _ _ _ _ _ hr h1
      split at h <;> (simp only [Option.some.injEq, Prod.mk.injEq] at h; rw [← h.2.2]; exact hk)
    · exact run_keeps hC hV n b _ _ _ _ _ hr h
  | .loop keep b, e, st, ge, e', st', hr, h => by
    simp only [run] at h
    exact loopN_keeps (fun e st ge e' st' hr h => run_keeps hC hV n b e st ge e' st' hr h) hr h
  | .exit id, e, st, ge, e', st', _, h => by simp [run] at h; rw [← h.2.2]; exact .refl _
  | .ret, e, st, ge, e', st', _, h => by simp [run] at h; rw [← h.2.2]; exact .refl _
  | .rangeFunc f ps assign body, e, st, ge, e', st', hr, h => by
    simp only [run] at h
    split at h
    · simp at h
    · split at h
      · rename_i s1 hc
        have hk0 : Keeps st (st.new (.loop (e.map fun p => (p.1, cp p.2)) ps assign body fn .ready none)) := .new _ hr
        have hk1 : Keeps (st.new (.loop (e.map fun p => (p.1, cp p.2)) ps assign body fn .ready none)) s1 := by
          unfold callFn at hc
          split at hc
          · exact hC _ _ _ _ _ hc
          · simp at hc
        split at h
        · split at h
          · simp at h
          · split at h
            · rename_i s2 hp
              simp only [Option.some.injEq, Prod.mk.injEq] at h
              rw [← h.2.2]
              exact (hk0.trans hk1).trans (.put hp fun _ _ _ _ => trivial)
            · simp at h
        · simp at h
      · simp at h

theorem runFun_keeps (hC : CKeeps C) (hV : VKeeps V) (funs : Nat → Option GFun) (n : Nat) : CKeeps (runFun funs C V n) := by
  intro f args st v st' h
  unfold runFun at h
  split at h
  · simp at h
  · rename_i g hg
    split at h
    · rename_i hc
      have fin : ∀ {e : Env} {s : St}, Keeps (if g.keepHeap then st else { st with base := st.heap.length }) s → finish g st.heap.length st.base e s = some (v, st') → Keeps st st' := by
        intro e s hk h
        simp only [finish, Option.bind_eq_bind, Option.bind_eq_some_iff] at h
        obtain ⟨vs, _, h⟩ := h
        split at h
        · simp at h
        · split at h
          · rename_i hkeep
            simp only [Option.some.injEq, Prod.mk.injEq] at h
            rw [← h.2]
            rw [if_pos hkeep] at hk; exact hk
          · rename_i hkeep
            rw [if_neg hkeep] at hk
            simp only [Option.bind_eq_some_iff, Option.some.injEq, Prod.mk.injEq] at h
            obtain ⟨v', _, _, rfl⟩ := h
            exact {
              base := rfl
              ro := hk.ro
              len := by
                have h1 := hk.len
                simp only [List.length_take] at h1 ⊢
                omega
              old := fun g hg => by
                simp only [List.getElem?_take]
                split
                · exact hk.old g hg
                · rename_i hq; rw [List.getElem?_eq_none (by omega)]
              low := fun n h1 h2 h3 g' o hg' hgo => by
                simp only [List.getElem?_take] at hgo
                split at hgo
                · exact hk.low n h2 h2 h3 g' o hg' hgo
                · simp at hgo }
      have hr : (if g.keepHeap then st else { st with base := st.heap.length }).ro ≤ (if g.keepHeap then st else { st with base := st.heap.length }).heap.length := by
        split <;> exact hc.2
      split at h
      · rename_i h1; exact fin (run_keeps hC hV n g.body _ _ _ _ _ hr h1) h
      · rename_i h1; exact fin (run_keeps hC hV n g.body _ _ _ _ _ hr h1) h
      · simp at h
    · simp at h

theorem runVal_keeps (hC : CKeeps C) {R : Nat → Nat → GC → Env → St → Option (GE × Env × St)} (hR : ∀ fn l c e st ge e' st', st.ro ≤ st.heap.length → R fn l c e st = some (ge, e', st') → Keeps st st') : VKeeps (runVal C R) := by
  intro f args st v st' h
  unfold runVal at h
  split at h
  · exact hC _ _ _ _ _ h
  · rename_i l a b
    split at h
    · split at h
      · rename_i hc
        split at h
        · rename_i e1 s1 h1
          have k1 := hR _ _ _ _ _ _ _ _ hc.2 h1
          split at h
          · rename_i g1
            split at h
            · rename_i s2 h2
              have k2 : Keeps s1 s2 := .put h2 fun n _ hg hl => by
                have := hl _ _ hg g1
                exact this
              have k12 := k1.trans k2
              split at h
              · rename_i h3
                have k3 := hR _ _ _ _ _ _ _ _ (by rw [k12.ro]; exact Nat.le_trans hc.2 k12.len) h3
                split at h
                · rename_i g3
                  split at h
                  · rename_i s4 h4
                    simp only [Option.some.injEq, Prod.mk.injEq] at h
                    rw [← h.2]
                    exact (k12.trans k3).trans (.put h4 fun n _ hg hl => by
                      have := hl _ _ hg g3
                      exact this)
                  · simp at h
                · simp at h
              · simp at h
            · simp at h
          · simp at h
        · simp at h
      · simp at h
    · simp at h
  · simp at h

theorem ev_keeps (funs : Nat → Option GFun) {orc : Call} (ho : CKeeps orc) : ∀ n, CKeeps (evF funs orc n).1 ∧ VKeeps (evF funs orc n).2
  | 0 => ⟨ho, fun f args st v st' h => by simp [evF] at h⟩
  | n + 1 => by
    obtain ⟨h1, h2⟩ := ev_keeps funs ho n
    refine ⟨fun f args st v st' h => ?_, fun f args st v st' h => ?_⟩
    · simp only [evF] at h
      split at h
      · rename_i r hr
        simp only [Option.some.injEq] at h
        subst h
        exact ho _ _ _ _ _ hr
      · exact runFun_keeps h1 h2 funs n _ _ _ _ _ h
    · simp only [evF] at h
      exact runVal_keeps h1 (fun fn l c e st ge e' st' hr h => run_keeps h1 h2 n c e st ge e' st' hr h) _ _ _ _ _ h
end
end Go.Proofs.YtibhcmacccfakaaGreatDoor
