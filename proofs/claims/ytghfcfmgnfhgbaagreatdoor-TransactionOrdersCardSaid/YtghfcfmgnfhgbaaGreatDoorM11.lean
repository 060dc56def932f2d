/- Proved: TransactionOrders returns true at every int64 and every bool, and its arguments read afterwards as before; the card ties the package-level variables that the row lists to the program's text. Conditions: those of the given card, none other. -/
import Derived.Test.YtghfcfmgnfhgbaaGreatDoorM10
import Derived.Test.YtghfcfmgnfhgbaaGreatDoorRows
import Derived.WalkKit
import Derived.ProofKit
import Derived.OpenShut
import Derived.LaidMore
import Derived.Test.YtghfcfmgnfhgbaaGreatDoorCards
import Derived.Test.YtghfcfmgnfhgbaaGreatDoorTie
import Derived.Handy
import Derived.Lay
import Derived.SevenTiedAt
set_option linter.unusedSectionVars false
set_option linter.unusedVariables false
set_option linter.unusedSimpArgs false
namespace Go.Proofs.YtghfcfmgnfhgbaaGreatDoor
open Go.ChangeShapes Go.WideShapes Go.ChangeAt Go.RowKit

def zs : List Int := [1, 2, 3, 4, 5, 6]
theorem order_cell {W : World} (h : laidMetH Tryz.prog Rows.transactionOrdersRow.laid W) (r : Nat) (hr : r < 6) : W.cell? ⟨0, r, none⟩ = some (.int .i64 (zs.getD r 0)) := by
  rw [MakeChecks.laidMetH_plain _ _ _ (by kernel_rfl)] at h
  obtain ⟨ps, ⟨g1, t1, cs1, fuel1, p1, q1, _, _, _, _, ⟨g2, t2, cs2, fuel2, p2, q2, _, _, _, _, ⟨g3, t3, cs3, fuel3, p3, q3, _, _, _, _, ⟨g, t, cs, fuel, p, q, hg, ht, hv, hd, _, _⟩, _⟩, _⟩, _⟩, _, _⟩ := h
  obtain rfl := Option.some.inj ((show Tryz.prog.globalNamed "partsync/predicate.order" = some 0 by kernel_rfl).symm.trans hg)
  obtain rfl := Option.some.inj ((show (Tryz.prog.globals[0]?).map (·.type) = some 220 by kernel_rfl).symm.trans ht)
  obtain ⟨xs, m, _, ex, _, hl, hel⟩ := DataW.trod_array Tryz.underlying220 hd
  have c5 : Tryz.prog.cellsOf 3 = 1 := by kernel_rfl
  have hE := hel r hr
  rw [c5, Nat.mul_one, List.getElem?_eq_getElem (by omega)] at hE
  obtain ⟨z, e1, e2, _⟩ := DataW.trod_int Tryz.underlying3 hE
  have hlen : zs.length = 6 := rfl
  have e3 : (xs.map (·.1)) = zs.map fun n => .lit (.int .i64 n) := (DataW.agg.inj (Prod.mk.inj ex).1).symm
  have e4 : (xs.map (·.1))[r]? = (zs.map fun n => (DataW.lit (.int .i64 n) : DataW Unit))[r]? := by rw [e3]
  rw [List.getElem?_map, List.getElem?_map, List.getElem?_eq_getElem (by omega : r < xs.length), List.getElem?_eq_getElem (by omega : r < zs.length), e2] at e4
  have hz : z = zs.getD r 0 := by
    simp only [Option.map_some, Option.some.injEq, DataW.lit.injEq, Lit.int.injEq, true_and] at e4
    rw [e4, List.getD, List.getElem?_eq_getElem (by omega : r < zs.length)]; rfl
  rw [World.var?_cell hg hv r, ← hz]
  have : cs.toList[r]? = some (.int .i64 z) := by
    have h0 : ((cs.toList.drop r).take 1)[0]? = some (.int .i64 z) := by rw [e1]; rfl
    simpa using h0
  simpa using this

theorem glob_met {W : World} (h : laidMetH Tryz.prog Rows.transactionOrdersRow.laid W) : ∀ g vs, G0 g = some vs → ∀ (i : Nat) (v : Value), vs[i]? = some v → W.cell? ⟨g, i, none⟩ = some v := by
  intro g vs hg i v hi
  unfold G0 at hg
  split at hg
  · rename_i h0
    subst h0
    simp only [Option.some.injEq] at hg
    subst hg
    have hlt : i < 6 := by
      have := (List.getElem?_eq_some_iff.1 hi).1
      simpa using this
    rw [order_cell h i hlt]
    match i, hlt with
    | 0, _ => simpa [zs] using hi
    | 1, _ => simpa [zs] using hi
    | 2, _ => simpa [zs] using hi
    | 3, _ => simpa [zs] using hi
    | 4, _ => simpa [zs] using hi
    | 5, _ => simpa [zs] using hi
  · simp at hg

theorem true_of [Sym] {w : World} {e : Ending} {w' : World} (h : (∃ x, e = .returned x ∧ ∃ M K, VRel M K (.bool true) x) ∧ Below w.heap.size w w') : e = .returned (.bool true) ∧ Below w.heap.size w w' := by
  obtain ⟨⟨x, rfl, M, K, hx⟩, hb⟩ := h
  cases hx
  exact ⟨rfl, hb⟩

theorem args_sym (lo hi id : Int) (h1 : lo < id) (h2 : id < hi) (hr : IntKind.i64.wrap id = id) (d : Bool) (M : Mem) (K : KMap) : @LRel (symAt lo hi id h1 h2 hr) M K [.sym 0, .bool d] #[.int .i64 id, .bool d] := by
  letI := symAt lo hi id h1 h2 hr
  refine ⟨rfl, fun i c v e1 e2 => ?_⟩
  match i with
  | 0 => simp only [List.getElem?_cons_zero, Option.some.injEq] at e1; simp at e2; subst e1; subst e2; exact VRel.sym 0
  | 1 => simp at e1 e2; subst e1; subst e2; exact VRel.bool d
  | i + 2 => simp at e1
theorem args_int [Sym] (id : Int) (d : Bool) (M : Mem) (K : KMap) : LRel M K [.int .i64 id, .bool d] #[.int .i64 id, .bool d] := by
  refine ⟨rfl, fun i c v e1 e2 => ?_⟩
  match i with
  | 0 => simp at e1 e2; subst e1; subst e2; exact VRel.int _ _
  | 1 => simp at e1 e2; subst e1; subst e2; exact VRel.bool d
  | i + 2 => simp at e1
theorem law (id : Int) (d : Bool) (wf : (Lit.int .i64 id).wf = true) (w : World) (hL : laidMetH Tryz.prog Rows.transactionOrdersRow.laid w) :
    Calls Tryz.prog 3 #[.int .i64 id, .bool d] w fun e w' => e = .returned (.bool true) ∧ Below w.heap.size w w' := by
  have hb : -9223372036854775808 ≤ id ∧ id ≤ 9223372036854775807 := by simpa [Lit.wf, IntKind.min, IntKind.max, IntKind.signed, IntKind.bits] using wf
  have hr : IntKind.i64.wrap id = id := IntWalk.i64_in (by omega) (by omega)
  have hg := glob_met hL
  rcases (by omega : id < 1 ∨ id = 1 ∨ (1 < id ∧ id < 7) ∨ id = 7 ∨ 7 < id) with h | rfl | ⟨h, h'⟩ | rfl | h
  · letI := symAt (-9223372036854775809) 1 id (by omega) h hr
    cases d
    · exact (calls_of_tri (o0tri6 id (by omega) h hr) (args_sym _ _ _ _ _ _ _) hg).mono fun e w' => true_of
    · exact (calls_of_tri (o1tri2 id (by omega) h hr) (args_sym _ _ _ _ _ _ _) hg).mono fun e w' => true_of
  · letI := symAt 0 2 1 (by omega) (by omega) hr
    cases d
    · exact (calls_of_tri o6tri6 (args_int _ _) hg).mono fun e w' => true_of
    · exact (calls_of_tri o7tri2 (args_int _ _) hg).mono fun e w' => true_of
  · letI := symAt 1 7 id h h' hr
    cases d
    · exact (calls_of_tri (o2tri6 id h h' hr) (args_sym _ _ _ _ _ _ _) hg).mono fun e w' => true_of
    · exact (calls_of_tri (o3tri2 id h h' hr) (args_sym _ _ _ _ _ _ _) hg).mono fun e w' => true_of
  · letI := symAt 0 9 7 (by omega) (by omega) hr
    cases d
    · exact (calls_of_tri o8tri1 (args_int _ _) hg).mono fun e w' => true_of
    · exact (calls_of_tri o9tri1 (args_int _ _) hg).mono fun e w' => true_of
  · letI := symAt 7 9223372036854775808 id h (by omega) hr
    cases d
    · exact (calls_of_tri (o4tri6 id h (by omega) hr) (args_sym _ _ _ _ _ _ _) hg).mono fun e w' => true_of
    · exact (calls_of_tri (o5tri2 id h (by omega) hr) (args_sym _ _ _ _ _ _ _) hg).mono fun e w' => true_of
end Go.Proofs.YtghfcfmgnfhgbaaGreatDoor
namespace Go.Proofs.YtghfcfmgnfhgbaaGreatDoor
open Go.ChangeShapes Go.WideShapes Go.ChangeAt Go.RowKit
theorem own : ownKnob Tryz.prog.godebug = none := by kernel_rfl
set_option maxRecDepth 100000 in
theorem lifted (os : Os) (started : os.Started) (H : Type) (enc : TypeId × Value → H) :
    ReturnsInHanded {} Tryz.checked os 3 .any (fun w args => (Rows.transactionOrdersSpec.pre enc Tryz.prog Tryz.f3 Rows.transactionOrdersRow.domain false w args ∧ laidMetH Tryz.prog Rows.transactionOrdersRow.laid w) ∧ sizedMet enc Tryz.prog Tryz.f3 (OpenSpec.ofChange Rows.transactionOrdersSpec) false w args)
      (Rows.transactionOrdersSpec.post enc Tryz.prog Tryz.f3 false true false false) := by
  refine returnsInHanded_of_change_and (C := Tryz.checked) (X := fun w _ => laidMetH Tryz.prog Rows.transactionOrdersRow.laid w) (fun _ _ _ hh h => h.of_heap hh) own started (by kernel_rfl) Tryz.func3
    (ChangeSpec.witness_shaped (enc := enc) (C := Tryz.checked) (os := os) (X := fun w _ => laidMetH Tryz.prog Rows.transactionOrdersRow.laid w) false (World.laidAll Tryz.prog os Rows.transactionOrdersRow.laid) #[.int .i64 0, .bool false] 8 (World.laidAll_os _ _ _)
      (World.shaped_of_ZipB (by kernel_rfl) (by kernel_rfl)) (by kernel_rfl) (by kernel_rfl) (by kernel_rfl)
      (by rw [MakeChecks.laidMetH_plain _ _ _ (by kernel_rfl)]; exact laidMet_laidAll _ (by kernel_rfl) (by kernel_rfl))) ?_
  intro W base args ds gs before hval0 hW _ _ hL _
  have hval : ∀ (j : Nat) t v, Tryz.f3.params[j]? = some t → args[j]? = some v → Value.okWide Tryz.prog W .any base t v := hval0
  have hW' := hW
  obtain ⟨p, q, hA0, hV, rfl, _, _⟩ := hW
  have hA : DataW.TrodAll enc Tryz.prog W 0 (fun _ => true) true Tryz.f3.params.toList args.toList ds p := hA0
  rw [Tryz.params3] at hA hval
  obtain ⟨v0, vs0, d0, ds0, p0, q0, hargs, rfl, rfl, h0, r0⟩ := trodAll_cons hA
  obtain ⟨v1, vs1, d1, ds1, p1, q1, rfl, rfl, rfl, h1, r1⟩ := trodAll_cons r0
  obtain ⟨rfl, rfl, rfl⟩ := trodAll_nil r1
  obtain rfl : args = #[v0, v1] := by cases args; simp_all
  obtain ⟨rfl, rfl⟩ := trodVars_none hV
  obtain ⟨a0, rfl, rfl, rfl, w0⟩ := open_int Tryz.underlying2 (hval 0 2 v0 rfl rfl) h0
  obtain ⟨a1, rfl, rfl, rfl⟩ := open_bool Tryz.underlying4 (hval 1 4 v1 rfl rfl) h1
  clear hA0 hval0
  simp only [List.append_nil] at hW'
  refine (law a0 a1 w0 W hL).mono fun e W' ⟨he, hb⟩ => ?_
  subst he
  exact ⟨_, rfl, _, _, _, [], [], [], hW', trodAll_mk1 (shut_bool Tryz.underlying4 _), trodAll_cons_mk (shut_int Tryz.underlying2 w0) (trodAll_cons_mk (shut_bool Tryz.underlying4 _) trodAll_mk0), rfl, hb.frame _, fun h => by cases h⟩
theorem holds : Rows.TransactionOrdersSaid :=
  OpenClaim.holds_of_wide 3 Tryz.f3 rfl rfl rfl rfl rfl rfl rfl ⟨rfl, rfl, rfl, rfl, rfl⟩ rfl rfl rfl rfl rfl (by kernel_rfl) Tryz.func3 (by kernel_rfl)
    (of_decide_eq_true (by kernel_rfl)) (by unfold Func.isWrapper; first | (rw [if_pos (by decide +kernel)]; kernel_rfl) | (rw [if_neg (by decide +kernel)]; exact ⟨rfl, rfl⟩))
    (fun os started H enc _ => lifted os started H enc)
theorem card_holds : Rows.TransactionOrdersCardSaid :=
  Claim7.holds_tied_plain_at .later [] [.data, .data, .data, .data] true (true, "4648b44f72a68febf39b5f845ca9786857c5cecdd0880b5b38737a3b3fde5b1d") true holds (fun _ h => by cases h) (by kernel_rfl) (fun _ h => by cases h) transactionOrders_row_tie rfl ⟨rfl, rfl⟩ (by kernel_rfl) rfl
    (fun f fn hf hfn => by
      obtain rfl : f = 3 := Option.some.inj ((show Tryz.prog.funcNamed "partsync/partsynclaw27.TransactionOrders" = some 3 by kernel_rfl).symm.trans hf) |>.symm
      obtain rfl : fn = Tryz.f3 := (Option.some.inj (Tryz.func3.symm.trans hfn)).symm
      exact ⟨by kernel_rfl, fun j t ht => by
        rw [Tryz.params3] at ht
        have hm : t ∈ [2, 4] := by simpa using Array.mem_of_getElem? ht
        have hall : ([2, 4].all fun u => !Tryz.prog.wantsStandIn u) = true := by kernel_rfl
        exact (show Tryz.prog.wantsStandIn t = false by simpa using List.all_eq_true.1 hall t hm)⟩)
    (by kernel_rfl)
#print axioms card_holds
end Go.Proofs.YtghfcfmgnfhgbaaGreatDoor
