/-
  Writing changes just the bytes that are named; new bytes are 0; memory never gets shorter.
  No condition: the statement as given, for every input.
-/
import Derived.Test.YtpkjbeebhdgleaaLj
import Derived.Test.YtpkjbeebhdgleaaOb
import Derived.Test.YtpkjbeebhdgleaaRows
import Derived.WalkKit
import Derived.ProofKit
import Derived.OpenShut
import Derived.ShutString
import Derived.ChangeOld
import Derived.Below
set_option linter.unusedVariables false
namespace Go.Proofs.Ytpkjbeebhdgleaa.Xj
open Go Go.Fw Go.ChangeShapes Go.WideShapes Go.ChangeAt Go.RowKit
theorem own : ownKnob Try.prog.godebug = none := by kernel_rfl
theorem laidOut : laidOutB Try.prog = true := by kernel_rfl
theorem wordT25 : WordT Try.prog 25 23 := ⟨Try.underlying25, Try.underlying23, by kernel_rfl, by kernel_rfl⟩
theorem opT52 : OpT Try.prog 52 3 4 25 23 22 5 := ⟨by kernel_rfl, by kernel_rfl, Try.underlying3, by kernel_rfl, Try.underlying4, by kernel_rfl, wordT25, Try.underlying22, by kernel_rfl, Try.underlying5, by kernel_rfl⟩

set_option maxRecDepth 100000 in
theorem lifted (os : Os) (started : os.Started) (H : Type) (enc : TypeId × Value → H) :
    ReturnsInHanded {} Try.checked os 9 .any (Rows.machKeepsSpec.pre6 enc Try.prog Try.f9 Rows.machKeepsRow.domain false) (Rows.machKeepsSpec.post enc Try.prog Try.f9 false true false false) := by
  refine returnsInHanded_of_change (C := Try.checked) own started (by kernel_rfl) Try.func9
    (ChangeSpec.witness6 (enc := enc) (C := Try.checked) false ⟨#[], #[.slice none 0 0], []⟩ 8 (by kernel_rfl) (by kernel_rfl) (by kernel_rfl) (by kernel_rfl)) ?_
  intro W base args ds gs before hval0 hW hcnd _
  have hval : ∀ (j : Nat) t v, Try.f9.params[j]? = some t → args[j]? = some v → Value.okWide Try.prog W .any base t v := hval0
  have hW' := hW
  obtain ⟨p, q, hA0, hV, rfl, hfz, hnd⟩ := hW
  have hA : DataW.TrodAll enc Try.prog W 0 (fun _ => true) true Try.f9.params.toList args.toList ds p := hA0
  rw [Try.params9] at hA hval
  obtain ⟨v0, vs0, d0, ds0, p0, q0, hargs, rfl, rfl, h0, r0⟩ := trodAll_cons hA
  obtain ⟨rfl, rfl, rfl⟩ := trodAll_nil r0
  obtain rfl : args = #[v0] := by cases args; simp_all
  obtain ⟨rfl, rfl⟩ := trodVars_none hV
  have k0 := h0
  have lt0 : ∀ x ∈ p0, x.block < W.heap.size := by obtain ⟨m, hm⟩ := k0; exact DataW.trod_lt m _ _ _ hm
  obtain ⟨A0, c0, os0, rfl, hc0, hok0, hk0, hm0⟩ := open_opsN Try.underlying50 opT52 (hval 0 50 v0 rfl rfl) h0
  have hb0 : os0.length ≤ 9223372036854775807 := by simp only [maxLen] at hm0; omega
  clear hA0 hval0
  refine (Lj.MachKeeps W A0 c0 os0 hc0 hok0 hb0).mono fun e W' ⟨he, bel0⟩ => ?_
  subst he
  have bel := bel0.below
  exact ⟨_, rfl, _, _, _, [], _, [], hW', trodAll_mk1 (shut_bool Try.underlying4 _), (trodAll_cons_mk (Below.trod laidOut (by kernel_rfl) (of_decide_eq_true (by kernel_rfl)) k0 bel lt0) trodAll_mk0), rfl, bel.frame _, fun h => by cases h⟩

theorem over : Rows.machKeepsRow.holds Try.pinned (OpenSpec.ofChange Rows.machKeepsSpec) :=
  OpenClaim.holds_of_wide 9 Try.f9 rfl rfl rfl rfl rfl rfl rfl ⟨rfl, rfl, rfl, rfl, rfl⟩ rfl rfl rfl rfl rfl (by kernel_rfl) Try.func9 (by kernel_rfl)
    (of_decide_eq_true (by kernel_rfl)) (by unfold Func.isWrapper; first | (rw [if_pos (by decide +kernel)]; kernel_rfl) | (rw [if_neg (by decide +kernel)]; exact ⟨rfl, rfl⟩))
    (fun os started H enc _ => lifted os started H enc)

theorem proved : Rows.MachKeepsSaid := over
end Go.Proofs.Ytpkjbeebhdgleaa.Xj
