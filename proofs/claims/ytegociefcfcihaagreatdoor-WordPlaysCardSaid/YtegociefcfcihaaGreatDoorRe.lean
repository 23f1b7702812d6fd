/-
  Walks, printed by gen.py: what each function hands back, said of numbers.
  Conditions: those that each theorem bears.
-/
import Derived.Test.YtegociefcfcihaaGreatDoorChecked
import Derived.Test.YtegociefcfcihaaGreatDoorFn
import Derived.Test.YtegociefcfcihaaGreatDoorPy
import Derived.Test.YtegociefcfcihaaGreatDoorRa
set_option linter.unusedVariables false
set_option maxRecDepth 20000
namespace Go.Proofs.YtegociefcfcihaaGreatDoor.Re
open Go Go.Fw

theorem zero256 : ZeroT Tryz.prog 60 (.agg (rowN .i64 (List.replicate 256 0)).toArray) := (by unfold ZeroT; kernel_rfl)
theorem sz60 : SizeT Tryz.prog 60 256 := (by unfold SizeT; kernel_rfl)
theorem fok100 : FnOk Tryz.prog 100 := FnOk.mk' Tryz.func100 (by kernel_rfl) rfl

theorem bit (w : World) (A0 : Option Addr) (c0 : Nat) (xs0 : List Nat) (i : Nat) (hc0 : Cs w A0 (rowN .i64 xs0)) (hx0 : Dg xs0) (hb0 : xs0.length ≤ 4294967296) (hi : i ≤ 1099511627776) :
    Calls Tryz.prog 69 [.slice A0 xs0.length c0, .int .i64 (i : Int)].toArray w fun e w' => e = .returned (.int .i64 ((vl xs0 / 2 ^ i % 2 : Nat) : Int)) ∧ WS w [] [] w' := by
  have hd := hx0.getD (i / 8)
  have hg := vl_get hx0 (i / 8)
  refine calls_of_T [] 21 [] Tryz.func69 rfl Tryz.ntmps69 (by simp) (WS.refl _ _) ?_
  refine T.seq ?_
  refine T.text [.l] rfl ?_
  refine J.assign rfl rfl ?_
  refine J.end ?_
  refine X.then ?_
  refine T.seq ?_
  refine T.text [.l, .l, .l, .l, .l] rfl ?_
  refine J.move rfl rfl ?_
  refine J.move rfl rfl ?_
  refine J.quo rfl rfl rfl (by omega) (by first | exact quo_nat _ 8 (by omega) | exact i64_quo_ok _ _ (by omega) | exact rfl) ?_
  refine J.call0 (k := .l) trivial fok100 rfl rfl (fun w hw => Ra.digit w _ _ _ _ (hc0.ws hw (off_nil _))) ?_
  refine J.assign rfl rfl ?_
  refine J.as 5 (.int .i64 (((xs0.getD (i / 8) 0) / 2 ^ 0 : Nat) : Int)) rfl (by rw [Nat.pow_zero, Nat.div_one]) ?_
  refine J.end ?_
  refine X.then ?_
  refine T.seq ?_
  refine T.seq ?_
  refine T.text [.l] rfl ?_
  refine J.assign rfl rfl ?_
  refine J.end ?_
  refine X.then ?_
  refine T.block ?_
  refine T.loop (ι := Nat) (fun (k : Nat) => k ≤ i % 8) (fun (k : Nat) => [(0, .slice A0 xs0.length c0), (1, .int .i64 (i : Int)), (4, .int .i64 0), (7, .slice A0 xs0.length c0), (8, .int .i64 (i : Int)), (5, .int .i64 (((xs0.getD (i / 8) 0) / 2 ^ k : Nat) : Int)), (6, .int .i64 (k : Int))]) (fun (k : Nat) => []) (fun (k : Nat) => 8 - k) 0 (Nat.zero_le _) (by repeat (first | exact Sub.nil _ | refine Sub.cons (by first | rfl | (rw [dgs_zero]; rfl) | (rw [List.drop_length]; rfl) | (simp; done) | (congr 2; omega) | (congr 3; omega)) ?_)) (by repeat (first | exact Sub.nil _ | refine Sub.cons (by first | rfl | (rw [dgs_zero]; rfl) | (rw [List.drop_length]; rfl) | (simp; done) | (congr 2; omega) | (congr 3; omega)) ?_)) ?_
  rintro k hk
  have hlk : (xs0.getD (i / 8) 0) / 2 ^ k ≤ (xs0.getD (i / 8) 0) := Nat.div_le_self _ _
  refine T.seq ?_
  refine T.seq ?_
  refine T.text [.l, .l, .l, .l] rfl ?_
  refine J.move rfl rfl ?_
  refine J.move rfl rfl ?_
  refine J.rem rfl rfl rfl (by omega) (by first | exact rem_nat _ 8 | exact rem_ok _ _ (by omega) | exact rfl) ?_
  refine J.lss rfl rfl rfl rfl ?_
  refine J.end ?_
  refine X.then ?_
  refine T.cond_dec rfl (fun h1 => ?_) (fun h1 => ?_)
  · skip
    refine T.skip ?_
    refine X.then ?_
    refine T.seq ?_
    refine T.block ?_
    refine T.text [.l, .l, .l] rfl ?_
    refine J.move rfl rfl ?_
    refine J.quo rfl rfl rfl (by omega) (by first | exact quo_nat _ 2 (by omega) | exact i64_quo_ok _ _ (by omega) | exact rfl) ?_
    refine J.assign rfl rfl ?_
    refine J.as 5 (.int .i64 (((xs0.getD (i / 8) 0) / 2 ^ (k + 1) : Nat) : Int)) rfl (by rw [Nat.pow_succ, Nat.div_div_eq_div_mul]) ?_
    refine J.end ?_
    refine X.inBlock (X.then ?_)
    refine T.text [.l, .l, .l] rfl ?_
    refine J.move rfl rfl ?_
    refine J.add rfl rfl rfl (by first | exact add_nat _ 1 (by omega) | exact i64_ok _ (by omega) | exact rfl) ?_
    refine J.assign rfl rfl ?_
    refine J.end ?_
    exact X.round (k + 1) (by omega) (by first | omega | (dsimp only; omega)) (by repeat (first | exact Sub.nil _ | refine Sub.cons (by first | rfl | (rw [dgs_zero]; rfl) | (rw [List.drop_length]; rfl) | (simp; done) | (congr 2; omega) | (congr 3; omega)) ?_)) (by repeat (first | exact Sub.nil _ | refine Sub.cons (by first | rfl | (rw [dgs_zero]; rfl) | (rw [List.drop_length]; rfl) | (simp; done) | (congr 2; omega) | (congr 3; omega)) ?_))
  · obtain rfl : k = i % 8 := by omega
    refine T.exit ?_
    refine X.then_exit (X.then_exit (X.inBlock_eq (X.then ?_)))
    refine T.seq ?_
    refine T.text [.l, .l, .l] rfl ?_
    refine J.move rfl rfl ?_
    refine J.rem rfl rfl rfl (by omega) (by first | exact rem_nat _ 2 | exact rem_ok _ _ (by omega) | exact rfl) ?_
    refine J.assign rfl rfl ?_
    refine J.end ?_
    refine X.then ?_
    refine T.ret ?_
    exact X.ret1 rfl (RV.tmp rfl) (fun w' hw' => ⟨by rw [hg, bit_digit], hw'.sub (Sub.nil _)⟩)
end Go.Proofs.YtegociefcfcihaaGreatDoor.Re
