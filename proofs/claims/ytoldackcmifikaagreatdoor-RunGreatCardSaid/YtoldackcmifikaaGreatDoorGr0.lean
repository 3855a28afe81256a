/- The pieces of RunGreat: awake is true; what stands ahead of the call of Prog, for every number. -/
import Derived.Test.YtoldackcmifikaaGreatDoorProg
import Derived.Test.YtoldackcmifikaaGreatDoorEng3
import Derived.KernelRfl
namespace Go.Proofs.YtoldackcmifikaaGreatDoor
open Go Go.Eng
set_option maxRecDepth 100000

theorem noNum : ∀ (g : FuncId) (fn : Func), Tryz.prog.funcs[g]? = some fn → (fn.name == "runtime.NumGoroutine") = false := by
  have h : Tryz.prog.funcs.toList.all (fun fn => !(fn.name == "runtime.NumGoroutine")) = true := by kernel_rfl
  intro g fn hg
  rw [List.all_eq_true] at h
  have := h fn (by rw [← Array.getElem?_toList] at hg; exact List.mem_of_getElem? hg)
  simpa using this

/-- 'awake' is true. -/
theorem awake_says : saysTrue ((runF Tryz.prog noNat noDNat 3000).call 9 [] ⟨0, .leaf⟩) = true := by kernel_rfl
theorem awake_closed : Closed Tryz.prog 9 (.bool true) := by
  obtain ⟨σ, h⟩ := saysTrue_ok awake_says
  exact closed_bool noNum (noNat_ok _) (noDNat_ok _) (runF_call h)

noncomputable def nat9 : Nat1 := fun f => if f = 9 then some (constNat (.bool true)) else none
theorem nat9_ok : NatOk Tryz.prog nat9 := by
  intro f g h args σ e σ' hg
  unfold nat9 at h
  split at h
  · rename_i hf
    subst hf
    cases h
    exact constNat_ok ⟨Tryz.f9, Tryz.func9, by kernel_rfl⟩ (fun L => .bool true) awake_closed hg
  · cases h

noncomputable def body : Code := Tryz.f3.body.getD .skip
/-- What stands behind the number's rest. -/
noncomputable def tail : Code := sq2 (sq2 body)

/-- The temporaries there, the number's own forgotten. -/
noncomputable def at3 (k : Nat) : Row := rset (rset (rset (rset (rset (rset .leaf 0 .any) 2 (.bool false)) 9 .any) 10 .any) 11 .any) 3 (.int .i64 (.ofNat k))

noncomputable def tailEnds (k : Nat) : Bool := retTrue 2 ((runF Tryz.prog nat9 noDNat 3000).code 73 none tail (at3 k) [] ⟨0, .leaf⟩)

theorem first (a0 : Int) : (runF Tryz.prog nat9 noDNat 3000).code 73 none (sq1 body) (rowFrom [.int .u8 a0]) [] ⟨0, .leaf⟩ = .norm (rset (rset .leaf 0 (.int .u8 a0)) 2 (.bool false)) [] ⟨0, .leaf⟩ := by kernel_rfl
theorem second (a0 : Int) : (runF Tryz.prog nat9 noDNat 3000).code 73 none (sq1 (sq2 body)) (rset (rset .leaf 0 (.int .u8 a0)) 2 (.bool false)) [] ⟨0, .leaf⟩ =
    .norm (rset (rset (rset (rset (rset (rset .leaf 0 (.int .u8 a0)) 2 (.bool false)) 9 (.int .u8 a0)) 10 (.int .i64 (wrapQ .i64 a0))) 11 (.int .i64 ((wrapQ .i64 a0).tmod 16))) 3 (.int .i64 ((wrapQ .i64 a0).tmod 16))) [] ⟨0, .leaf⟩ := by kernel_rfl
end Go.Proofs.YtoldackcmifikaaGreatDoor
