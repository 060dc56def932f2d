/- The evaluator's code is the program's: each function, by the kernel. -/
import Derived.Test.YtibhcmacccfakaaGreatDoorProg
import Derived.Test.YtibhcmacccfakaaGreatDoorM2
import Derived.Test.YtibhcmacccfakaaGreatDoorM8
import Derived.KernelRfl
set_option linter.unusedSectionVars false
set_option linter.unusedVariables false
set_option linter.unusedSimpArgs false
namespace Go.Proofs.YtibhcmacccfakaaGreatDoor
set_option maxRecDepth 100000

/-- What the package-level variables hold that are read: none is read. -/
def G0 : Glob := fun _ => none

theorem ok3 : okFun Tryz.prog G0 Tryz.f3 g3 = true := by kernel_rfl
theorem ok4 : okFun Tryz.prog G0 Tryz.f4 g4 = true := by kernel_rfl
theorem ok5 : okFun Tryz.prog G0 Tryz.f5 g5 = true := by kernel_rfl
theorem ok6 : okFun Tryz.prog G0 Tryz.f6 g6 = true := by kernel_rfl
theorem ok7 : okFun Tryz.prog G0 Tryz.f7 g7 = true := by kernel_rfl
theorem ok8 : okFun Tryz.prog G0 Tryz.f8 g8 = true := by kernel_rfl
theorem ok9 : okFun Tryz.prog G0 Tryz.f9 g9 = true := by kernel_rfl
theorem ok10 : okFun Tryz.prog G0 Tryz.f10 g10 = true := by kernel_rfl
theorem ok11 : okFun Tryz.prog G0 Tryz.f11 g11 = true := by kernel_rfl
theorem ok12 : okFun Tryz.prog G0 Tryz.f12 g12 = true := by kernel_rfl
theorem ok13 : okFun Tryz.prog G0 Tryz.f13 g13 = true := by kernel_rfl
theorem ok14 : okFun Tryz.prog G0 Tryz.f14 g14 = true := by kernel_rfl
theorem ok15 : okFun Tryz.prog G0 Tryz.f15 g15 = true := by kernel_rfl
theorem ok16 : okFun Tryz.prog G0 Tryz.f16 g16 = true := by kernel_rfl
theorem ok17 : okFun Tryz.prog G0 Tryz.f17 g17 = true := by kernel_rfl
theorem ok18 : okFun Tryz.prog G0 Tryz.f18 g18 = true := by kernel_rfl
theorem ok21 : okFun Tryz.prog G0 Tryz.f21 g21 = true := by kernel_rfl
theorem ok22 : okFun Tryz.prog G0 Tryz.f22 g22 = true := by kernel_rfl
theorem ok23 : okFun Tryz.prog G0 Tryz.f23 g23 = true := by kernel_rfl
theorem ok26 : okFun Tryz.prog G0 Tryz.f26 g26 = true := by kernel_rfl
theorem ok27 : okFun Tryz.prog G0 Tryz.f27 g27 = true := by kernel_rfl
theorem ok29 : okFun Tryz.prog G0 Tryz.f29 g29 = true := by kernel_rfl
theorem ok30 : okFun Tryz.prog G0 Tryz.f30 g30 = true := by kernel_rfl
theorem ok34 : okFun Tryz.prog G0 Tryz.f34 g34 = true := by kernel_rfl
theorem ok35 : okFun Tryz.prog G0 Tryz.f35 g35 = true := by kernel_rfl
theorem ok36 : okFun Tryz.prog G0 Tryz.f36 g36 = true := by kernel_rfl
theorem ok37 : okFun Tryz.prog G0 Tryz.f37 g37 = true := by kernel_rfl
theorem ok38 : okFun Tryz.prog G0 Tryz.f38 g38 = true := by kernel_rfl
theorem ok39 : okFun Tryz.prog G0 Tryz.f39 g39 = true := by kernel_rfl
theorem ok40 : okFun Tryz.prog G0 Tryz.f40 g40 = true := by kernel_rfl
theorem ok41 : okFun Tryz.prog G0 Tryz.f41 g41 = true := by kernel_rfl
theorem ok43 : okFun Tryz.prog G0 Tryz.f43 g43 = true := by kernel_rfl
theorem ok44 : okFun Tryz.prog G0 Tryz.f44 g44 = true := by kernel_rfl
theorem ok45 : okFun Tryz.prog G0 Tryz.f45 g45 = true := by kernel_rfl
theorem ok46 : okFun Tryz.prog G0 Tryz.f46 g46 = true := by kernel_rfl
theorem ok47 : okFun Tryz.prog G0 Tryz.f47 g47 = true := by kernel_rfl
theorem ok48 : okFun Tryz.prog G0 Tryz.f48 g48 = true := by kernel_rfl
theorem ok49 : okFun Tryz.prog G0 Tryz.f49 g49 = true := by kernel_rfl
theorem ok50 : okFun Tryz.prog G0 Tryz.f50 g50 = true := by kernel_rfl
theorem ok51 : okFun Tryz.prog G0 Tryz.f51 g51 = true := by kernel_rfl
theorem ok52 : okFun Tryz.prog G0 Tryz.f52 g52 = true := by kernel_rfl
theorem ok53 : okFun Tryz.prog G0 Tryz.f53 g53 = true := by kernel_rfl
theorem ok54 : okFun Tryz.prog G0 Tryz.f54 g54 = true := by kernel_rfl
theorem ok55 : okFun Tryz.prog G0 Tryz.f55 g55 = true := by kernel_rfl
theorem ok56 : okFun Tryz.prog G0 Tryz.f56 g56 = true := by kernel_rfl
theorem ok57 : okFun Tryz.prog G0 Tryz.f57 g57 = true := by kernel_rfl
theorem ok58 : okFun Tryz.prog G0 Tryz.f58 g58 = true := by kernel_rfl
theorem ok59 : okFun Tryz.prog G0 Tryz.f59 g59 = true := by kernel_rfl
theorem ok60 : okFun Tryz.prog G0 Tryz.f60 g60 = true := by kernel_rfl
theorem ok61 : okFun Tryz.prog G0 Tryz.f61 g61 = true := by kernel_rfl
theorem ok62 : okFun Tryz.prog G0 Tryz.f62 g62 = true := by kernel_rfl
theorem ok63 : okFun Tryz.prog G0 Tryz.f63 g63 = true := by kernel_rfl
theorem ok64 : okFun Tryz.prog G0 Tryz.f64 g64 = true := by kernel_rfl
theorem ok65 : okFun Tryz.prog G0 Tryz.f65 g65 = true := by kernel_rfl
theorem ok66 : okFun Tryz.prog G0 Tryz.f66 g66 = true := by kernel_rfl
theorem ok67 : okFun Tryz.prog G0 Tryz.f67 g67 = true := by kernel_rfl
theorem ok68 : okFun Tryz.prog G0 Tryz.f68 g68 = true := by kernel_rfl
theorem ok69 : okFun Tryz.prog G0 Tryz.f69 g69 = true := by kernel_rfl
theorem ok70 : okFun Tryz.prog G0 Tryz.f70 g70 = true := by kernel_rfl
theorem ok71 : okFun Tryz.prog G0 Tryz.f71 g71 = true := by kernel_rfl
theorem ok72 : okFun Tryz.prog G0 Tryz.f72 g72 = true := by kernel_rfl
theorem ok73 : okFun Tryz.prog G0 Tryz.f73 g73 = true := by kernel_rfl
theorem ok74 : okFun Tryz.prog G0 Tryz.f74 g74 = true := by kernel_rfl
theorem ok75 : okFun Tryz.prog G0 Tryz.f75 g75 = true := by kernel_rfl
theorem ok76 : okFun Tryz.prog G0 Tryz.f76 g76 = true := by kernel_rfl
theorem ok77 : okFun Tryz.prog G0 Tryz.f77 g77 = true := by kernel_rfl
theorem ok78 : okFun Tryz.prog G0 Tryz.f78 g78 = true := by kernel_rfl
theorem ok79 : okFun Tryz.prog G0 Tryz.f79 g79 = true := by kernel_rfl
theorem ok80 : okFun Tryz.prog G0 Tryz.f80 g80 = true := by kernel_rfl
theorem ok81 : okFun Tryz.prog G0 Tryz.f81 g81 = true := by kernel_rfl
theorem ok82 : okFun Tryz.prog G0 Tryz.f82 g82 = true := by kernel_rfl
theorem ok91 : okFun Tryz.prog G0 Tryz.f91 g91 = true := by kernel_rfl
theorem ok92 : okFun Tryz.prog G0 Tryz.f92 g92 = true := by kernel_rfl
theorem ok94 : okFun Tryz.prog G0 Tryz.f94 g94 = true := by kernel_rfl
theorem ok96 : okFun Tryz.prog G0 Tryz.f96 g96 = true := by kernel_rfl
theorem ok97 : okFun Tryz.prog G0 Tryz.f97 g97 = true := by kernel_rfl
theorem ok98 : okFun Tryz.prog G0 Tryz.f98 g98 = true := by kernel_rfl
theorem ok99 : okFun Tryz.prog G0 Tryz.f99 g99 = true := by kernel_rfl
theorem ok102 : okFun Tryz.prog G0 Tryz.f102 g102 = true := by kernel_rfl
theorem ok103 : okFun Tryz.prog G0 Tryz.f103 g103 = true := by kernel_rfl
theorem ok104 : okFun Tryz.prog G0 Tryz.f104 g104 = true := by kernel_rfl
theorem ok105 : okFun Tryz.prog G0 Tryz.f105 g105 = true := by kernel_rfl
theorem ok110 : okFun Tryz.prog G0 Tryz.f110 g110 = true := by kernel_rfl
theorem ok111 : okFun Tryz.prog G0 Tryz.f111 g111 = true := by kernel_rfl
theorem ok117 : okFun Tryz.prog G0 Tryz.f117 g117 = true := by kernel_rfl
theorem ok118 : okFun Tryz.prog G0 Tryz.f118 g118 = true := by kernel_rfl
theorem ok121 : okFun Tryz.prog G0 Tryz.f121 g121 = true := by kernel_rfl
theorem ok129 : okFun Tryz.prog G0 Tryz.f129 g129 = true := by kernel_rfl
theorem ok140 : okFun Tryz.prog G0 Tryz.f140 g140 = true := by kernel_rfl
theorem ok146 : okFun Tryz.prog G0 Tryz.f146 g146 = true := by kernel_rfl
theorem ok152 : okFun Tryz.prog G0 Tryz.f152 g152 = true := by kernel_rfl
theorem ok173 : okFun Tryz.prog G0 Tryz.f173 g173 = true := by kernel_rfl
theorem ok180 : okFun Tryz.prog G0 Tryz.f180 g180 = true := by kernel_rfl

def FunOk (p : Nat × GFun) : Prop := ∃ fn, Tryz.prog.funcs[p.1]? = some fn ∧ okFun Tryz.prog G0 fn p.2 = true
theorem funTab_ok : ∀ p, p ∈ funTab → FunOk p := by
  unfold funTab
  refine List.forall_mem_cons.2 ⟨⟨_, Tryz.func3, ok3⟩, ?_⟩
  refine List.forall_mem_cons.2 ⟨⟨_, Tryz.func4, ok4⟩, ?_⟩
  refine List.forall_mem_cons.2 ⟨⟨_, Tryz.func5, ok5⟩, ?_⟩
  refine List.forall_mem_cons.2 ⟨⟨_, Tryz.func6, ok6⟩, ?_⟩
  refine List.forall_mem_cons.2 ⟨⟨_, Tryz.func7, ok7⟩, ?_⟩
  refine List.forall_mem_cons.2 ⟨⟨_, Tryz.func8, ok8⟩, ?_⟩
  refine List.forall_mem_cons.2 ⟨⟨_, Tryz.func9, ok9⟩, ?_⟩
  refine List.forall_mem_cons.2 ⟨⟨_, Tryz.func10, ok10⟩, ?_⟩
  refine List.forall_mem_cons.2 ⟨⟨_, Tryz.func11, ok11⟩, ?_⟩
  refine List.forall_mem_cons.2 ⟨⟨_, Tryz.func12, ok12⟩, ?_⟩
  refine List.forall_mem_cons.2 ⟨⟨_, Tryz.func13, ok13⟩, ?_⟩
  refine List.forall_mem_cons.2 ⟨⟨_, Tryz.func14, ok14⟩, ?_⟩
  refine List.forall_mem_cons.2 ⟨⟨_, Tryz.func15, ok15⟩, ?_⟩
  refine List.forall_mem_cons.2 ⟨⟨_, Tryz.func16, ok16⟩, ?_⟩
  refine List.forall_mem_cons.2 ⟨⟨_, Tryz.func17, ok17⟩, ?_⟩
  refine List.forall_mem_cons.2 ⟨⟨_, Tryz.func18, ok18⟩, ?_⟩
  refine List.forall_mem_cons.2 ⟨⟨_, Tryz.func21, ok21⟩, ?_⟩
  refine List.forall_mem_cons.2 ⟨⟨_, Tryz.func22, ok22⟩, ?_⟩
  refine List.forall_mem_cons.2 ⟨⟨_, Tryz.func23, ok23⟩, ?_⟩
  refine List.forall_mem_cons.2 ⟨⟨_, Tryz.func26, ok26⟩, ?_⟩
  refine List.forall_mem_cons.2 ⟨⟨_, Tryz.func27, ok27⟩, ?_⟩
  refine List.forall_mem_cons.2 ⟨⟨_, Tryz.func29, ok29⟩, ?_⟩
  refine List.forall_mem_cons.2 ⟨⟨_, Tryz.func30, ok30⟩, ?_⟩
  refine List.forall_mem_cons.2 ⟨⟨_, Tryz.func34, ok34⟩, ?_⟩
  refine List.forall_mem_cons.2 ⟨⟨_, Tryz.func35, ok35⟩, ?_⟩
  refine List.forall_mem_cons.2 ⟨⟨_, Tryz.func36, ok36⟩, ?_⟩
  refine List.forall_mem_cons.2 ⟨⟨_, Tryz.func37, ok37⟩, ?_⟩
  refine List.forall_mem_cons.2 ⟨⟨_, Tryz.func38, ok38⟩, ?_⟩
  refine List.forall_mem_cons.2 ⟨⟨_, Tryz.func39, ok39⟩, ?_⟩
  refine List.forall_mem_cons.2 ⟨⟨_, Tryz.func40, ok40⟩, ?_⟩
  refine List.forall_mem_cons.2 ⟨⟨_, Tryz.func41, ok41⟩, ?_⟩
  refine List.forall_mem_cons.2 ⟨⟨_, Tryz.func43, ok43⟩, ?_⟩
  refine List.forall_mem_cons.2 ⟨⟨_, Tryz.func44, ok44⟩, ?_⟩
  refine List.forall_mem_cons.2 ⟨⟨_, Tryz.func45, ok45⟩, ?_⟩
  refine List.forall_mem_cons.2 ⟨⟨_, Tryz.func46, ok46⟩, ?_⟩
  refine List.forall_mem_cons.2 ⟨⟨_, Tryz.func47, ok47⟩, ?_⟩
  refine List.forall_mem_cons.2 ⟨⟨_, Tryz.func48, ok48⟩, ?_⟩
  refine List.forall_mem_cons.2 ⟨⟨_, Tryz.func49, ok49⟩, ?_⟩
  refine List.forall_mem_cons.2 ⟨⟨_, Tryz.func50, ok50⟩, ?_⟩
  refine List.forall_mem_cons.2 ⟨⟨_, Tryz.func51, ok51⟩, ?_⟩
  refine List.forall_mem_cons.2 ⟨⟨_, Tryz.func52, ok52⟩, ?_⟩
  refine List.forall_mem_cons.2 ⟨⟨_, Tryz.func53, ok53⟩, ?_⟩
  refine List.forall_mem_cons.2 ⟨⟨_, Tryz.func54, ok54⟩, ?_⟩
  refine List.forall_mem_cons.2 ⟨⟨_, Tryz.func55, ok55⟩, ?_⟩
  refine List.forall_mem_cons.2 ⟨⟨_, Tryz.func56, ok56⟩, ?_⟩
  refine List.forall_mem_cons.2 ⟨⟨_, Tryz.func57, ok57⟩, ?_⟩
  refine List.forall_mem_cons.2 ⟨⟨_, Tryz.func58, ok58⟩, ?_⟩
  refine List.forall_mem_cons.2 ⟨⟨_, Tryz.func59, ok59⟩, ?_⟩
  refine List.forall_mem_cons.2 ⟨⟨_, Tryz.func60, ok60⟩, ?_⟩
  refine List.forall_mem_cons.2 ⟨⟨_, Tryz.func61, ok61⟩, ?_⟩
  refine List.forall_mem_cons.2 ⟨⟨_, Tryz.func62, ok62⟩, ?_⟩
  refine List.forall_mem_cons.2 ⟨⟨_, Tryz.func63, ok63⟩, ?_⟩
  refine List.forall_mem_cons.2 ⟨⟨_, Tryz.func64, ok64⟩, ?_⟩
  refine List.forall_mem_cons.2 ⟨⟨_, Tryz.func65, ok65⟩, ?_⟩
  refine List.forall_mem_cons.2 ⟨⟨_, Tryz.func66, ok66⟩, ?_⟩
  refine List.forall_mem_cons.2 ⟨⟨_, Tryz.func67, ok67⟩, ?_⟩
  refine List.forall_mem_cons.2 ⟨⟨_, Tryz.func68, ok68⟩, ?_⟩
  refine List.forall_mem_cons.2 ⟨⟨_, Tryz.func69, ok69⟩, ?_⟩
  refine List.forall_mem_cons.2 ⟨⟨_, Tryz.func70, ok70⟩, ?_⟩
  refine List.forall_mem_cons.2 ⟨⟨_, Tryz.func71, ok71⟩, ?_⟩
  refine List.forall_mem_cons.2 ⟨⟨_, Tryz.func72, ok72⟩, ?_⟩
  refine List.forall_mem_cons.2 ⟨⟨_, Tryz.func73, ok73⟩, ?_⟩
  refine List.forall_mem_cons.2 ⟨⟨_, Tryz.func74, ok74⟩, ?_⟩
  refine List.forall_mem_cons.2 ⟨⟨_, Tryz.func75, ok75⟩, ?_⟩
  refine List.forall_mem_cons.2 ⟨⟨_, Tryz.func76, ok76⟩, ?_⟩
  refine List.forall_mem_cons.2 ⟨⟨_, Tryz.func77, ok77⟩, ?_⟩
  refine List.forall_mem_cons.2 ⟨⟨_, Tryz.func78, ok78⟩, ?_⟩
  refine List.forall_mem_cons.2 ⟨⟨_, Tryz.func79, ok79⟩, ?_⟩
  refine List.forall_mem_cons.2 ⟨⟨_, Tryz.func80, ok80⟩, ?_⟩
  refine List.forall_mem_cons.2 ⟨⟨_, Tryz.func81, ok81⟩, ?_⟩
  refine List.forall_mem_cons.2 ⟨⟨_, Tryz.func82, ok82⟩, ?_⟩
  refine List.forall_mem_cons.2 ⟨⟨_, Tryz.func91, ok91⟩, ?_⟩
  refine List.forall_mem_cons.2 ⟨⟨_, Tryz.func92, ok92⟩, ?_⟩
  refine List.forall_mem_cons.2 ⟨⟨_, Tryz.func94, ok94⟩, ?_⟩
  refine List.forall_mem_cons.2 ⟨⟨_, Tryz.func96, ok96⟩, ?_⟩
  refine List.forall_mem_cons.2 ⟨⟨_, Tryz.func97, ok97⟩, ?_⟩
  refine List.forall_mem_cons.2 ⟨⟨_, Tryz.func98, ok98⟩, ?_⟩
  refine List.forall_mem_cons.2 ⟨⟨_, Tryz.func99, ok99⟩, ?_⟩
  refine List.forall_mem_cons.2 ⟨⟨_, Tryz.func102, ok102⟩, ?_⟩
  refine List.forall_mem_cons.2 ⟨⟨_, Tryz.func103, ok103⟩, ?_⟩
  refine List.forall_mem_cons.2 ⟨⟨_, Tryz.func104, ok104⟩, ?_⟩
  refine List.forall_mem_cons.2 ⟨⟨_, Tryz.func105, ok105⟩, ?_⟩
  refine List.forall_mem_cons.2 ⟨⟨_, Tryz.func110, ok110⟩, ?_⟩
  refine List.forall_mem_cons.2 ⟨⟨_, Tryz.func111, ok111⟩, ?_⟩
  refine List.forall_mem_cons.2 ⟨⟨_, Tryz.func117, ok117⟩, ?_⟩
  refine List.forall_mem_cons.2 ⟨⟨_, Tryz.func118, ok118⟩, ?_⟩
  refine List.forall_mem_cons.2 ⟨⟨_, Tryz.func121, ok121⟩, ?_⟩
  refine List.forall_mem_cons.2 ⟨⟨_, Tryz.func129, ok129⟩, ?_⟩
  refine List.forall_mem_cons.2 ⟨⟨_, Tryz.func140, ok140⟩, ?_⟩
  refine List.forall_mem_cons.2 ⟨⟨_, Tryz.func146, ok146⟩, ?_⟩
  refine List.forall_mem_cons.2 ⟨⟨_, Tryz.func152, ok152⟩, ?_⟩
  refine List.forall_mem_cons.2 ⟨⟨_, Tryz.func173, ok173⟩, ?_⟩
  refine List.forall_mem_cons.2 ⟨⟨_, Tryz.func180, ok180⟩, ?_⟩
  exact fun p hp => by simp at hp

theorem hfuns : ∀ k g, funs k = some g → ∃ fn, Tryz.prog.funcs[k]? = some fn ∧ okFun Tryz.prog G0 fn g = true := by
  intro k g h
  unfold funs at h
  split at h
  · rename_i p hp
    simp only [Option.some.injEq] at h
    subst h
    have h1 := List.find?_some hp
    simp only [beq_iff_eq] at h1
    subst h1
    exact funTab_ok p (List.mem_of_find?_eq_some hp)
  · simp at h
theorem hmix : Tryz.prog.follows .mixedOrders = true := by kernel_rfl
def dl : List (Nat × Nat) := [(13, 23)]
theorem dl13 : okDefer Tryz.prog 13 23 = true := by kernel_rfl
theorem hdl : ∀ p, p ∈ dl → okDefer Tryz.prog p.1 p.2 = true := by
  unfold dl
  refine List.forall_mem_cons.2 ⟨dl13, ?_⟩
  exact fun p hp => by simp at hp
end Go.Proofs.YtibhcmacccfakaaGreatDoor
