/- Proved: ProcedureSums returns true at every two int64 and every bool, and its arguments read afterwards as before; the card ties the package-level variables that the row lists to the program's text. Conditions: those of the given card, none other. -/
import Derived.Test.YtibhcmacccfakaaGreatDoorM10
import Derived.Test.YtibhcmacccfakaaGreatDoorCards
import Derived.Test.YtibhcmacccfakaaGreatDoorTie
import Derived.WalkKit
import Derived.ProofKit
import Derived.Handy
import Derived.Lay
import Derived.LaidMore
import Derived.SevenTiedAt
set_option linter.unusedSectionVars false
set_option linter.unusedVariables false
set_option linter.unusedSimpArgs false
namespace Go.Proofs.YtibhcmacccfakaaGreatDoor
open Go.ChangeShapes Go.WideShapes Go.ChangeAt Go.RowKit

section
variable [Sym]
theorem Known.nil {P : Program} {G : Glob} : Known P G [] := fun q hq => by cases hq
theorem Known.cons {P : Program} {G : Glob} {L : List (Nat × List GV × GV)} {f : Nat} {a : List GV} {r : GV} (h : ∀ st, Tri P G f a st r st) (hL : Known P G L) : Known P G ((f, a, r) :: L) := fun q hq => by
  rcases List.mem_cons.1 hq with rfl | h2
  · exact h
  · exact hL q h2
/-- One run more. -/
theorem more {L : List (Nat × List GV × GV)} (hL : Known Tryz.prog G0 L) {n f : Nat} {args : List GV} {r : GV} (h : okRunD nl dl funs L n f args r = true) : ∀ st, Tri Tryz.prog G0 f args st r st :=
  tri_of_runD hfuns hmix hdl hL h
theorem known1 : Known Tryz.prog G0 K1 := .cons (more .nil run_q48) .nil
theorem known2 : Known Tryz.prog G0 K2 := .cons (more known1 run_n43) known1
theorem known3 : Known Tryz.prog G0 K3 := .cons (more known2 run_c14) known2
theorem known4 : Known Tryz.prog G0 K4 := .cons (more known3 run_s12) known3
theorem known5 : Known Tryz.prog G0 K5 := .cons (more known4 run_b8) known4
theorem known6 : Known Tryz.prog G0 K6 := .cons (more known5 run_p14) known5
theorem known7 : Known Tryz.prog G0 K7 := .cons (more known6 run_m14) known6
theorem known8 : Known Tryz.prog G0 K8 := .cons (more known7 run_t10) known7
theorem known9 : Known Tryz.prog G0 K9 := .cons (more known8 run_s12s) known8

theorem true_of {w : World} {e : Ending} {w' : World} (h : (∃ x, e = .returned x ∧ ∃ M K, VRel M K (.bool true) x) ∧ Below w.heap.size w w') : e = .returned (.bool true) ∧ Below w.heap.size w w' := by
  obtain ⟨⟨x, rfl, M, K, hx⟩, hb⟩ := h
  cases hx
  exact ⟨rfl, hb⟩

/-- A run of a region is a call. -/
theorem reg {args : List GV} {xs : Array Value} {w : World} (h : okRunD nl dl funs K9 20 3 args (.bool true) = true) (hargs : ∀ (M : Mem) (K : KMap), LRel M K args xs) : Calls Tryz.prog 3 xs w fun e w' => e = .returned (.bool true) ∧ Below w.heap.size w w' :=
  (calls_of_tri (more known9 h) hargs fun g vs hg => by cases hg).mono fun e w' => true_of

theorem args3 {g0 g1 : GV} {x0 x1 : Value} (d : Bool) {M : Mem} {K : KMap} (h0 : VRel M K g0 x0) (h1 : VRel M K g1 x1) : LRel M K [g0, g1, .bool d] #[x0, x1, .bool d] :=
  LRel.cons h0 (LRel.cons h1 (LRel.cons (.bool d) LRel.nil))
end

theorem law (a b : Int) (d : Bool) (wa : (Lit.int .i64 a).wf = true) (wb : (Lit.int .i64 b).wf = true) (w : World) :
    Calls Tryz.prog 3 #[.int .i64 a, .int .i64 b, .bool d] w fun e w' => e = .returned (.bool true) ∧ Below w.heap.size w w' := by
  have ha : bot ≤ a ∧ a ≤ top := by simpa [Lit.wf, IntKind.min, IntKind.max, IntKind.signed, IntKind.bits] using wa
  have hb : bot ≤ b ∧ b ≤ top := by simpa [Lit.wf, IntKind.min, IntKind.max, IntKind.signed, IntKind.bits] using wb
  rcases (by omega : b = 0 ∨ 0 < b ∨ b < 0) with rfl | hp | hp
  · letI := symAt true true true false false a 1 ha (by decide) (by decide) (fun h => by cases h) (fun h => by cases h)
    cases d
    · exact reg zero_false fun M K => args3 false (.sym 0) (.int _ _)
    · exact reg zero_true fun M K => args3 true (.sym 0) (.int _ _)
  · cases d
    · by_cases hA : a ≤ top - b
      · letI := symAt true true true true false a b ha hb hp (fun _ => by simp [hA]) (fun h => by cases h)
        exact reg add_true_true fun M K => args3 false (.sym 0) (.sym 1)
      · letI := symAt true false true true false a b ha hb hp (fun _ => by simp [hA]) (fun h => by cases h)
        exact reg add_true_false fun M K => args3 false (.sym 0) (.sym 1)
    · by_cases hA : a ≤ top - b
      · by_cases hS : bot + b ≤ a
        · letI := symAt true true true true true a b ha hb hp (fun _ => by simp [hA]) (fun _ => by simp [hS])
          exact reg sub_true_true_true fun M K => args3 true (.sym 0) (.sym 1)
        · letI := symAt true true false true true a b ha hb hp (fun _ => by simp [hA]) (fun _ => by simp [hS])
          exact reg sub_true_true_false fun M K => args3 true (.sym 0) (.sym 1)
      · by_cases hS : bot + b ≤ a
        · letI := symAt true false true true true a b ha hb hp (fun _ => by simp [hA]) (fun _ => by simp [hS])
          exact reg sub_true_false_true fun M K => args3 true (.sym 0) (.sym 1)
        · exfalso
          simp only [top, bot] at hA hS ha hb
          omega
  · cases d
    · by_cases hA : bot - b ≤ a
      · letI := symAt false true true true false a b ha hb hp (fun _ => by simp [hA]) (fun h => by cases h)
        exact reg add_false_true fun M K => args3 false (.sym 0) (.sym 1)
      · letI := symAt false false true true false a b ha hb hp (fun _ => by simp [hA]) (fun h => by cases h)
        exact reg add_false_false fun M K => args3 false (.sym 0) (.sym 1)
    · by_cases hA : bot - b ≤ a
      · by_cases hS : a ≤ top + b
        · letI := symAt false true true true true a b ha hb hp (fun _ => by simp [hA]) (fun _ => by simp [hS])
          exact reg sub_false_true_true fun M K => args3 true (.sym 0) (.sym 1)
        · letI := symAt false true false true true a b ha hb hp (fun _ => by simp [hA]) (fun _ => by simp [hS])
          exact reg sub_false_true_false fun M K => args3 true (.sym 0) (.sym 1)
      · by_cases hS : a ≤ top + b
        · letI := symAt false false true true true a b ha hb hp (fun _ => by simp [hA]) (fun _ => by simp [hS])
          exact reg sub_false_false_true fun M K => args3 true (.sym 0) (.sym 1)
        · exfalso
          simp only [top, bot] at hA hS ha hb
          omega
end Go.Proofs.YtibhcmacccfakaaGreatDoor
namespace Go.Proofs.YtibhcmacccfakaaGreatDoor
open Go.ChangeShapes Go.WideShapes Go.ChangeAt Go.RowKit
theorem own : ownKnob Tryz.prog.godebug = none := by kernel_rfl
set_option maxRecDepth 100000 in
theorem lifted (os : Os) (started : os.Started) (H : Type) (enc : TypeId × Value → H) :
    ReturnsInHanded {} Tryz.checked os 3 .any (fun w args => (Rows.procedureSumsSpec.pre enc Tryz.prog Tryz.f3 Rows.procedureSumsRow.domain false w args ∧ laidMetH Tryz.prog Rows.procedureSumsRow.laid w) ∧ sizedMet enc Tryz.prog Tryz.f3 (OpenSpec.ofChange Rows.procedureSumsSpec) false w args)
      (Rows.procedureSumsSpec.post enc Tryz.prog Tryz.f3 false true false false) := by
  refine returnsInHanded_of_change_and (C := Tryz.checked) (X := fun w _ => laidMetH Tryz.prog Rows.procedureSumsRow.laid w) (fun _ _ _ hh h => h.of_heap hh) own started (by kernel_rfl) Tryz.func3
    (ChangeSpec.witness_shaped (enc := enc) (C := Tryz.checked) (os := os) (X := fun w _ => laidMetH Tryz.prog Rows.procedureSumsRow.laid w) false (World.laidAll Tryz.prog os Rows.procedureSumsRow.laid) #[.int .i64 0, .int .i64 0, .bool false] 12 (World.laidAll_os _ _ _)
      (World.shaped_of_ZipB (by kernel_rfl) (by kernel_rfl)) (by kernel_rfl) (by kernel_rfl) (by kernel_rfl)
      (by rw [MakeChecks.laidMetH_plain _ _ _ (by kernel_rfl)]; exact laidMet_laidAll _ (by kernel_rfl) (by kernel_rfl))) ?_
  intro W base args ds gs before hval0 hW _ _ hL _
  have hval : ∀ (j : Nat) t v, Tryz.f3.params[j]? = some t → args[j]? = some v → Value.okWide Tryz.prog W .any base t v := hval0
  have hW' := hW
  obtain ⟨p, q, hA0, hV, rfl, _, _⟩ := hW
  have hA : DataW.TrodAll enc Tryz.prog W 0 (fun _ => true) true Tryz.f3.params.toList args.toList ds p := hA0
  rw [Tryz.params3] at hA hval
  obtain ⟨v0, vs0, d0, ds0, p0, q0, hargs, rfl, rfl, h0, r0⟩ := trodAll_cons hA
  obtain ⟨v1, vs1, d1, ds1, p1, q1, rfl, rfl, rfl, h1, r1⟩ := trodAll_cons r0
  obtain ⟨v2, vs2, d2, ds2, p2, q2, rfl, rfl, rfl, h2, r2⟩ := trodAll_cons r1
  obtain ⟨rfl, rfl, rfl⟩ := trodAll_nil r2
  obtain rfl : args = #[v0, v1, v2] := by cases args; simp_all
  obtain ⟨rfl, rfl⟩ := trodVars_none hV
  obtain ⟨a0, rfl, rfl, rfl, w0⟩ := open_int Tryz.underlying2 (hval 0 2 v0 rfl rfl) h0
  obtain ⟨a1, rfl, rfl, rfl, w1⟩ := open_int Tryz.underlying2 (hval 1 2 v1 rfl rfl) h1
  obtain ⟨a2, rfl, rfl, rfl⟩ := open_bool Tryz.underlying4 (hval 2 4 v2 rfl rfl) h2
  clear hA0 hval0
  simp only [List.append_nil] at hW'
  refine (law a0 a1 a2 w0 w1 W).mono fun e W' ⟨he, hb⟩ => ?_
  subst he
  exact ⟨_, rfl, _, _, _, [], [], [], hW', trodAll_mk1 (shut_bool Tryz.underlying4 _), trodAll_cons_mk (shut_int Tryz.underlying2 w0) (trodAll_cons_mk (shut_int Tryz.underlying2 w1) (trodAll_cons_mk (shut_bool Tryz.underlying4 _) trodAll_mk0)), rfl, hb.frame _, fun h => by cases h⟩
theorem holds : Rows.ProcedureSumsSaid :=
  OpenClaim.holds_of_wide 3 Tryz.f3 rfl rfl rfl rfl rfl rfl rfl ⟨rfl, rfl, rfl, rfl, rfl⟩ rfl rfl rfl rfl rfl (by kernel_rfl) Tryz.func3 (by kernel_rfl)
    (of_decide_eq_true (by kernel_rfl)) (by unfold Func.isWrapper; first | (rw [if_pos (by decide +kernel)]; kernel_rfl) | (rw [if_neg (by decide +kernel)]; exact ⟨rfl, rfl⟩))
    (fun os started H enc _ => lifted os started H enc)
theorem card_holds : Rows.ProcedureSumsCardSaid :=
  Claim7.holds_tied_plain_at .later [] [.data, .data, .data, .data] true (true, "b4565480f5e6e5abd8bd1153d012a1dbf0a68cb06ee0380875122d8986896da2") true holds (fun _ h => by cases h) (by kernel_rfl) (fun _ h => by cases h) procedureSums_row_tie rfl ⟨rfl, rfl⟩ (by kernel_rfl) rfl
    (fun f fn hf hfn => by
      obtain rfl : f = 3 := Option.some.inj ((show Tryz.prog.funcNamed "partsync/partsynclaw26.ProcedureSums" = some 3 by kernel_rfl).symm.trans hf) |>.symm
      obtain rfl : fn = Tryz.f3 := (Option.some.inj (Tryz.func3.symm.trans hfn)).symm
      exact ⟨by kernel_rfl, fun j t ht => by
        rw [Tryz.params3] at ht
        have hm : t ∈ [2, 4] := by simpa using Array.mem_of_getElem? ht
        have hall : ([2, 4].all fun u => !Tryz.prog.wantsStandIn u) = true := by kernel_rfl
        exact (show Tryz.prog.wantsStandIn t = false by simpa using List.all_eq_true.1 hall t hm)⟩)
    (by kernel_rfl)
#print axioms card_holds
end Go.Proofs.YtibhcmacccfakaaGreatDoor
