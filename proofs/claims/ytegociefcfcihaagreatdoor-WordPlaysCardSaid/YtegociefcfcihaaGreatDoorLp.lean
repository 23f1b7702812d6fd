/-
  Walks, printed by gen.py: what each function hands back, said of numbers.
  Conditions: those that each theorem bears.
-/
import Derived.Test.YtegociefcfcihaaGreatDoorChecked
import Derived.Test.YtegociefcfcihaaGreatDoorFn
import Derived.Test.YtegociefcfcihaaGreatDoorPv
import Derived.Test.YtegociefcfcihaaGreatDoorWa
import Derived.Test.YtegociefcfcihaaGreatDoorWb
import Derived.Test.YtegociefcfcihaaGreatDoorWe
import Derived.Test.YtegociefcfcihaaGreatDoorWg
import Derived.Test.YtegociefcfcihaaGreatDoorWh
import Derived.Test.YtegociefcfcihaaGreatDoorWk
import Derived.Test.YtegociefcfcihaaGreatDoorRo
set_option linter.unusedVariables false
set_option maxRecDepth 20000
namespace Go.Proofs.YtegociefcfcihaaGreatDoor.Lp
open Go Go.Fw

theorem sz73 : SizeT Tryz.prog 73 32 := (by unfold SizeT; kernel_rfl)
theorem zero8 : ZeroT Tryz.prog 68 (.agg (rowN .u64 (lg 0)).toArray) := (by unfold ZeroT; kernel_rfl)
theorem one37 : OneT Tryz.prog 37 := ⟨⟨_, Tryz.underlying37, rfl⟩, by kernel_rfl⟩
theorem one41 : OneT Tryz.prog 41 := ⟨⟨_, Tryz.underlying41, rfl⟩, by kernel_rfl⟩
theorem fok24 : FnOk Tryz.prog 24 := FnOk.mk' Tryz.func24 (by kernel_rfl) rfl
theorem fok21 : FnOk Tryz.prog 21 := FnOk.mk' Tryz.func21 (by kernel_rfl) rfl
theorem fok28 : FnOk Tryz.prog 28 := FnOk.mk' Tryz.func28 (by kernel_rfl) rfl
theorem fok29 : FnOk Tryz.prog 29 := FnOk.mk' Tryz.func29 (by kernel_rfl) rfl
theorem fok30 : FnOk Tryz.prog 30 := FnOk.mk' Tryz.func30 (by kernel_rfl) rfl
theorem fok31 : FnOk Tryz.prog 31 := FnOk.mk' Tryz.func31 (by kernel_rfl) rfl
theorem fok32 : FnOk Tryz.prog 32 := FnOk.mk' Tryz.func32 (by kernel_rfl) rfl
theorem fok33 : FnOk Tryz.prog 33 := FnOk.mk' Tryz.func33 (by kernel_rfl) rfl
theorem fok34 : FnOk Tryz.prog 34 := FnOk.mk' Tryz.func34 (by kernel_rfl) rfl
theorem fok35 : FnOk Tryz.prog 35 := FnOk.mk' Tryz.func35 (by kernel_rfl) rfl
theorem fok36 : FnOk Tryz.prog 36 := FnOk.mk' Tryz.func36 (by kernel_rfl) rfl
theorem fok37 : FnOk Tryz.prog 37 := FnOk.mk' Tryz.func37 (by kernel_rfl) rfl
theorem fok26 : FnOk Tryz.prog 26 := FnOk.mk' Tryz.func26 (by kernel_rfl) rfl
theorem fok38 : FnOk Tryz.prog 38 := FnOk.mk' Tryz.func38 (by kernel_rfl) rfl
theorem fok39 : FnOk Tryz.prog 39 := FnOk.mk' Tryz.func39 (by kernel_rfl) rfl
theorem fok40 : FnOk Tryz.prog 40 := FnOk.mk' Tryz.func40 (by kernel_rfl) rfl
theorem fok41 : FnOk Tryz.prog 41 := FnOk.mk' Tryz.func41 (by kernel_rfl) rfl
theorem fok42 : FnOk Tryz.prog 42 := FnOk.mk' Tryz.func42 (by kernel_rfl) rfl
theorem fok43 : FnOk Tryz.prog 43 := FnOk.mk' Tryz.func43 (by kernel_rfl) rfl
theorem fok45 : FnOk Tryz.prog 45 := FnOk.mk' Tryz.func45 (by kernel_rfl) rfl
theorem fok46 : FnOk Tryz.prog 46 := FnOk.mk' Tryz.func46 (by kernel_rfl) rfl
theorem fok47 : FnOk Tryz.prog 47 := FnOk.mk' Tryz.func47 (by kernel_rfl) rfl
theorem fok48 : FnOk Tryz.prog 48 := FnOk.mk' Tryz.func48 (by kernel_rfl) rfl
theorem fok50 : FnOk Tryz.prog 50 := FnOk.mk' Tryz.func50 (by kernel_rfl) rfl
theorem fok51 : FnOk Tryz.prog 51 := FnOk.mk' Tryz.func51 (by kernel_rfl) rfl
theorem fok52 : FnOk Tryz.prog 52 := FnOk.mk' Tryz.func52 (by kernel_rfl) rfl
theorem fok53 : FnOk Tryz.prog 53 := FnOk.mk' Tryz.func53 (by kernel_rfl) rfl
theorem fok54 : FnOk Tryz.prog 54 := FnOk.mk' Tryz.func54 (by kernel_rfl) rfl
theorem func34T : FuncT Tryz.prog 34 := ⟨_, _, _, Tryz.underlying34⟩
theorem fok8 : FnOk Tryz.prog 8 := FnOk.mk' Tryz.func8 (by kernel_rfl) rfl
theorem zero256 : ZeroT Tryz.prog 60 (.agg (rowN .i64 (List.replicate 256 0)).toArray) := (by unfold ZeroT; kernel_rfl)
theorem sz60 : SizeT Tryz.prog 60 256 := (by unfold SizeT; kernel_rfl)
theorem sz31 : SizeT Tryz.prog 31 13 := (by unfold SizeT; kernel_rfl)
theorem sl29 : SlT Tryz.prog 29 31 13 := ⟨Tryz.underlying29, sz31⟩
theorem agg31 : AggT Tryz.prog 31 13 := ⟨⟨_, Tryz.underlying31, rfl⟩, by kernel_rfl⟩
theorem zero31 : ZeroT Tryz.prog 31 (.agg ([.int .i64 0, .int .u64 0, .int .u64 0, .int .u64 0, .int .u64 0, .int .u64 0, .int .u64 0, .int .u64 0, .int .u64 0, .int .u64 0, .int .u64 0, .int .u64 0, .int .u64 0]).toArray) := (by unfold ZeroT; kernel_rfl)
theorem sz3 : SizeT Tryz.prog 3 1 := (by unfold SizeT; kernel_rfl)
theorem fld31_0 : FldT Tryz.prog 31 0 3 0 0 := ⟨by kernel_rfl, sz3⟩
theorem one3 : OneT Tryz.prog 3 := ⟨⟨_, Tryz.underlying3, rfl⟩, by kernel_rfl⟩
theorem sz24 : SizeT Tryz.prog 24 4 := (by unfold SizeT; kernel_rfl)
theorem fld31_1 : FldT Tryz.prog 31 1 24 1 3 := ⟨by kernel_rfl, sz24⟩
theorem agg24 : AggT Tryz.prog 24 4 := ⟨⟨_, Tryz.underlying24, rfl⟩, by kernel_rfl⟩
theorem fld31_2 : FldT Tryz.prog 31 2 24 5 3 := ⟨by kernel_rfl, sz24⟩
theorem fld31_3 : FldT Tryz.prog 31 3 24 9 3 := ⟨by kernel_rfl, sz24⟩
theorem fok5 : FnOk Tryz.prog 5 := FnOk.mk' Tryz.func5 (by kernel_rfl) rfl
theorem zero24 : ZeroT Tryz.prog 24 (.agg ([.int .u64 0, .int .u64 0, .int .u64 0, .int .u64 0]).toArray) := (by unfold ZeroT; kernel_rfl)
theorem fok6 : FnOk Tryz.prog 6 := FnOk.mk' Tryz.func6 (by kernel_rfl) rfl
theorem sz22 : SizeT Tryz.prog 22 1 := (by unfold SizeT; kernel_rfl)
theorem arr24 : ArrT Tryz.prog 24 4 22 1 := ⟨Tryz.underlying24, sz22⟩
theorem one22 : OneT Tryz.prog 22 := ⟨⟨_, Tryz.underlying22, rfl⟩, by kernel_rfl⟩
theorem eqw24 : EqT Tryz.prog 24 := ⟨⟨22, arr24, one22, Tryz.underlying22⟩, by kernel_rfl⟩
theorem fok7 : FnOk Tryz.prog 7 := FnOk.mk' Tryz.func7 (by kernel_rfl) rfl

theorem Do (w : World) (n : Int) (x0 x1 x2 : Nat) : Calls Tryz.prog 5 [.int .i64 n, W x0, W x1, W x2].toArray w fun e w' => e = .returned (.tuple #[W (doW n x0 x1 x2), .bool (doO n).isSome]) ∧ WS w [] [] w' := by
  by_cases h : n < 0 ∨ 31 ≤ n
  · rw [doW_none (by omega), doO_none (by omega)]; exact Wh.DoOut w n x0 x1 x2 h
  · obtain ⟨k, rfl⟩ : ∃ k : Nat, n = (k : Int) := ⟨n.toNat, by omega⟩
    have hk : k < doS.length := by show k < 31; omega
    cases hS : doS[k] with
    | none => rw [doW_at, doO_at, List.getElem?_eq_getElem hk, hS]; exact Wh.DoNil w k x0 x1 x2 (by rw [List.getElem?_eq_getElem hk, hS])
    | some S => rw [doW_at, doO_at, List.getElem?_eq_getElem hk, hS]; exact Wh.DoYes w k x0 x1 x2 S (by rw [List.getElem?_eq_getElem hk, hS])
set_option maxHeartbeats 1000000 in
theorem WordPlays (w : World) (A0 : Option Addr) (c0 : Nat) (os0 : List PlD) (hc0 : Cs w A0 (rowP os0)) (hb0 : os0.length ≤ 9223372036854775807) :
    Calls Tryz.prog 4 [.slice A0 os0.length c0].toArray w fun e w' => e = .returned (.bool true) ∧ WS w [] [] w' := by
  refine calls_of_T [] 81 [] Tryz.func4 rfl Tryz.ntmps4 (by simp) (WS.refl _ _) ?_
  refine T.seq ?_
  refine T.text [.l] rfl ?_
  refine J.assign rfl rfl ?_
  refine J.end ?_
  refine X.then ?_
  refine T.seq ?_
  refine T.seq ?_
  refine T.text [.l] rfl ?_
  refine J.assign rfl rfl ?_
  refine J.end ?_
  refine X.then ?_
  refine T.block ?_
  refine T.loop (ι := Nat) (fun (q : Nat) => q ≤ 2) (fun (q : Nat) => [(0, .slice A0 os0.length c0), (3, .int .i64 (q : Int))]) (fun (q : Nat) => []) (fun (q : Nat) => 2 - q) 0 (Nat.zero_le _) (by repeat (first | exact Sub.nil _ | refine Sub.cons (by first | rfl | (rw [dgs_zero]; rfl) | (rw [List.drop_length]; rfl) | (simp; done) | (congr 2; omega) | (congr 3; omega)) ?_)) (by repeat (first | exact Sub.nil _ | refine Sub.cons (by first | rfl | (rw [dgs_zero]; rfl) | (rw [List.drop_length]; rfl) | (simp; done) | (congr 2; omega) | (congr 3; omega)) ?_)) ?_
  rintro q hq
  refine T.seq ?_
  refine T.seq ?_
  refine T.text [.l, .l] rfl ?_
  refine J.move rfl rfl ?_
  refine J.lss rfl rfl rfl rfl ?_
  refine J.end ?_
  refine X.then ?_
  refine T.cond_dec rfl (fun h1 => ?_) (fun h1 => ?_)
  · skip
    refine T.skip ?_
    refine X.then ?_
    refine T.seq ?_
    refine T.block ?_
    refine T.seq ?_
    refine T.text [.l] rfl ?_
    refine J.assign rfl rfl ?_
    refine J.end ?_
    refine X.then ?_
    refine T.block ?_
    refine T.loop (ι := Nat) (fun (i : Nat) => i ≤ os0.length) (fun (i : Nat) => [(0, .slice A0 os0.length c0), (3, .int .i64 (q : Int)), (4, .int .i64 (i : Int))]) (fun (i : Nat) => []) (fun (i : Nat) => os0.length - i) 0 (Nat.zero_le _) (by repeat (first | exact Sub.nil _ | refine Sub.cons (by first | rfl | (rw [dgs_zero]; rfl) | (rw [List.drop_length]; rfl) | (simp; done) | (congr 2; omega) | (congr 3; omega)) ?_)) (by repeat (first | exact Sub.nil _ | refine Sub.cons (by first | rfl | (rw [dgs_zero]; rfl) | (rw [List.drop_length]; rfl) | (simp; done) | (congr 2; omega) | (congr 3; omega)) ?_)) ?_
    rintro i hi
    refine T.seq ?_
    refine T.seq ?_
    refine T.text [.l, .l, .l, .l] rfl ?_
    refine J.move rfl rfl ?_
    refine J.move rfl rfl ?_
    refine J.lenSl Tryz.underlying29 rfl rfl ?_
    refine J.lss rfl rfl rfl rfl ?_
    refine J.end ?_
    refine X.then ?_
    refine T.cond_dec rfl (fun h2 => ?_) (fun h2 => ?_)
    · skip
      refine T.skip ?_
      refine X.then ?_
      refine T.seq ?_
      refine T.block ?_
      refine T.seq ?_
      refine T.text [.l, .l, .l, .l, .l, .l] rfl ?_
      refine J.move rfl rfl ?_
      refine J.move rfl rfl ?_
      refine J.indexSlI sl29 rfl (hc0.isSome (by rw [rowP_length]; omega)) rfl (by omega) (by omega) (by first | exact Int.toNat_natCast _ | rfl) rfl ?_
      refine J.loadIN (k := .l) trivial hc0 (off_nil _) rfl agg31 (os0.getD i PlD.zero).cs (by rw [plc_length]) (by exact rowP_seg _ _ (by omega)) rfl ?_
      refine J.alloc 5 rfl zero31 [.int .i64 0, .int .u64 0, .int .u64 0, .int .u64 0, .int .u64 0, .int .u64 0, .int .u64 0, .int .u64 0, .int .u64 0, .int .u64 0, .int .u64 0, .int .u64 0, .int .u64 0] rfl rfl (fun g5 hg5 => ?_)
      refine J.store 5 rfl rfl rfl rfl (os0.getD i PlD.zero).cs rfl (by rw [plc_length]; exact sz31) (by rw [plc_length]; exact Nat.le_refl 13) (by intro u hu; exact plc_one _ u hu) (by rw [plc_length]; decide) trivial (os0.getD i PlD.zero).cs rfl ?_
      refine J.end ?_
      refine X.then ?_
      refine T.seq ?_
      refine T.text [.l, .l, .l, .l, .l, .l, .l, .l, .l, .l, .l, .l, .l, .l, .l] rfl ?_
      refine J.fieldAddr fld31_0 rfl rfl ?_
      refine J.load1 (k := .l) trivial 5 rfl rfl one3 rfl rfl ?_
      refine J.fieldAddr fld31_1 rfl rfl ?_
      refine J.loadN (k := .l) trivial 5 rfl rfl agg24 (wc (os0.getD i PlD.zero).x) rfl rfl rfl ?_
      refine J.fieldAddr fld31_2 rfl rfl ?_
      refine J.loadN (k := .l) trivial 5 rfl rfl agg24 (wc (os0.getD i PlD.zero).y) rfl rfl rfl ?_
      refine J.fieldAddr fld31_3 rfl rfl ?_
      refine J.loadN (k := .l) trivial 5 rfl rfl agg24 (wc (os0.getD i PlD.zero).z) rfl rfl rfl ?_
      refine J.call0 (k := .l) trivial fok5 rfl rfl (fun w hw => Do w (os0.getD i PlD.zero).k (os0.getD i PlD.zero).x (os0.getD i PlD.zero).y (os0.getD i PlD.zero).z) ?_
      refine J.move rfl rfl ?_
      refine J.extract rfl rfl rfl ?_
      refine J.extract rfl rfl rfl ?_
      refine J.alloc 6 rfl zero24 [.int .u64 0, .int .u64 0, .int .u64 0, .int .u64 0] rfl rfl (fun g6 hg6 => ?_)
      refine J.store 6 rfl rfl rfl rfl (wc (doW (os0.getD i PlD.zero).k (os0.getD i PlD.zero).x (os0.getD i PlD.zero).y (os0.getD i PlD.zero).z)) rfl sz24 (by first | decide | exact Nat.le_refl _ | exact Nat.le_of_ble_eq_true rfl | (simp [rowN]; done) | (simp [rowN]; omega)) (by first | exact rowN_one _ _ | (simp; done) | (intro u hu; simp at hu; subst hu; rfl) | (intro u hu; simp at hu; rcases hu with rfl | rfl <;> rfl)) (by first | decide | exact Nat.zero_lt_succ _ | simp) trivial (wc (doW (os0.getD i PlD.zero).k (os0.getD i PlD.zero).x (os0.getD i PlD.zero).y (os0.getD i PlD.zero).z)) rfl ?_
      refine J.assign rfl rfl ?_
      refine J.end ?_
      refine X.then ?_
      refine T.seq ?_
      refine T.text [.l, .l, .l, .l, .l, .l, .l, .l, .l, .l, .l, .l, .l, .l, .l] rfl ?_
      refine J.fieldAddr fld31_0 rfl rfl ?_
      refine J.load1 (k := .l) trivial 5 rfl rfl one3 rfl rfl ?_
      refine J.fieldAddr fld31_1 rfl rfl ?_
      refine J.loadN (k := .l) trivial 5 rfl rfl agg24 (wc (os0.getD i PlD.zero).x) rfl rfl rfl ?_
      refine J.fieldAddr fld31_2 rfl rfl ?_
      refine J.loadN (k := .l) trivial 5 rfl rfl agg24 (wc (os0.getD i PlD.zero).y) rfl rfl rfl ?_
      refine J.fieldAddr fld31_3 rfl rfl ?_
      refine J.loadN (k := .l) trivial 5 rfl rfl agg24 (wc (os0.getD i PlD.zero).z) rfl rfl rfl ?_
      refine J.call0 (k := .l) trivial fok6 rfl rfl (fun w hw => Ro.Do w (os0.getD i PlD.zero).k (os0.getD i PlD.zero).x (os0.getD i PlD.zero).y (os0.getD i PlD.zero).z) ?_
      refine J.move rfl rfl ?_
      refine J.extract rfl rfl rfl ?_
      refine J.extract rfl rfl rfl ?_
      refine J.alloc 8 rfl zero24 [.int .u64 0, .int .u64 0, .int .u64 0, .int .u64 0] rfl rfl (fun g8 hg8 => ?_)
      refine J.store 8 rfl rfl rfl rfl (wc (doW (os0.getD i PlD.zero).k (os0.getD i PlD.zero).x (os0.getD i PlD.zero).y (os0.getD i PlD.zero).z)) rfl sz24 (by first | decide | exact Nat.le_refl _ | exact Nat.le_of_ble_eq_true rfl | (simp [rowN]; done) | (simp [rowN]; omega)) (by first | exact rowN_one _ _ | (simp; done) | (intro u hu; simp at hu; subst hu; rfl) | (intro u hu; simp at hu; rcases hu with rfl | rfl <;> rfl)) (by first | decide | exact Nat.zero_lt_succ _ | simp) trivial (wc (doW (os0.getD i PlD.zero).k (os0.getD i PlD.zero).x (os0.getD i PlD.zero).y (os0.getD i PlD.zero).z)) rfl ?_
      refine J.assign rfl rfl ?_
      refine J.end ?_
      refine X.then ?_
      refine T.seq ?_
      refine T.text [.l, .l, .l, .l, .l, .l, .l, .l, .l, .l, .l, .l, .l, .l, .l] rfl ?_
      refine J.fieldAddr fld31_0 rfl rfl ?_
      refine J.load1 (k := .l) trivial 5 rfl rfl one3 rfl rfl ?_
      refine J.fieldAddr fld31_1 rfl rfl ?_
      refine J.loadN (k := .l) trivial 5 rfl rfl agg24 (wc (os0.getD i PlD.zero).x) rfl rfl rfl ?_
      refine J.fieldAddr fld31_2 rfl rfl ?_
      refine J.loadN (k := .l) trivial 5 rfl rfl agg24 (wc (os0.getD i PlD.zero).y) rfl rfl rfl ?_
      refine J.fieldAddr fld31_3 rfl rfl ?_
      refine J.loadN (k := .l) trivial 5 rfl rfl agg24 (wc (os0.getD i PlD.zero).z) rfl rfl rfl ?_
      refine J.call0 (k := .l) trivial fok5 rfl rfl (fun w hw => Do w (os0.getD i PlD.zero).k (os0.getD i PlD.zero).x (os0.getD i PlD.zero).y (os0.getD i PlD.zero).z) ?_
      refine J.move rfl rfl ?_
      refine J.extract rfl rfl rfl ?_
      refine J.extract rfl rfl rfl ?_
      refine J.alloc 10 rfl zero24 [.int .u64 0, .int .u64 0, .int .u64 0, .int .u64 0] rfl rfl (fun g10 hg10 => ?_)
      refine J.store 10 rfl rfl rfl rfl (wc (doW (os0.getD i PlD.zero).k (os0.getD i PlD.zero).x (os0.getD i PlD.zero).y (os0.getD i PlD.zero).z)) rfl sz24 (by first | decide | exact Nat.le_refl _ | exact Nat.le_of_ble_eq_true rfl | (simp [rowN]; done) | (simp [rowN]; omega)) (by first | exact rowN_one _ _ | (simp; done) | (intro u hu; simp at hu; subst hu; rfl) | (intro u hu; simp at hu; rcases hu with rfl | rfl <;> rfl)) (by first | decide | exact Nat.zero_lt_succ _ | simp) trivial (wc (doW (os0.getD i PlD.zero).k (os0.getD i PlD.zero).x (os0.getD i PlD.zero).y (os0.getD i PlD.zero).z)) rfl ?_
      refine J.assign rfl rfl ?_
      refine J.end ?_
      refine X.then ?_
      refine T.seq ?_
      refine T.text [.l, .l, .l, .l, .l, .l, .l, .l, .l, .l, .l, .l, .l, .l, .l, .l, .l, .l] rfl ?_
      refine J.loadN (k := .l) trivial 6 rfl rfl agg24 (wc (doW (os0.getD i PlD.zero).k (os0.getD i PlD.zero).x (os0.getD i PlD.zero).y (os0.getD i PlD.zero).z)) rfl rfl rfl ?_
      refine J.loadN (k := .l) trivial 8 rfl rfl agg24 (wc (doW (os0.getD i PlD.zero).k (os0.getD i PlD.zero).x (os0.getD i PlD.zero).y (os0.getD i PlD.zero).z)) rfl rfl rfl ?_
      refine J.neqW eqw24 rfl rfl rfl ?_
      refine J.as 64 (.bool false) rfl (by rw [decide_eq_false (not_not_intro rfl)]) ?_
      refine J.move rfl rfl ?_
      refine J.yes rfl rfl ?_
      refine J.move rfl rfl ?_
      refine J.yes rfl rfl ?_
      refine J.move rfl rfl ?_
      refine J.yes rfl rfl ?_
      refine J.neqB Tryz.underlying4 rfl rfl rfl (by exact congrArg not (beq_self_eq_true _)) ?_
      refine J.pick_f rfl rfl rfl ?_
      refine J.move rfl rfl ?_
      refine J.yes rfl rfl ?_
      refine J.loadN (k := .l) trivial 10 rfl rfl agg24 (wc (doW (os0.getD i PlD.zero).k (os0.getD i PlD.zero).x (os0.getD i PlD.zero).y (os0.getD i PlD.zero).z)) rfl rfl rfl ?_
      refine J.yes rfl rfl ?_
      refine J.loadN (k := .l) trivial 6 rfl rfl agg24 (wc (doW (os0.getD i PlD.zero).k (os0.getD i PlD.zero).x (os0.getD i PlD.zero).y (os0.getD i PlD.zero).z)) rfl rfl rfl ?_
      refine J.yes rfl rfl ?_
      refine J.neqW eqw24 rfl rfl rfl ?_
      refine J.as 73 (.bool false) rfl (by rw [decide_eq_false (not_not_intro rfl)]) ?_
      refine J.pick_f rfl rfl rfl ?_
      refine J.move rfl rfl ?_
      refine J.yes rfl rfl ?_
      refine J.move rfl rfl ?_
      refine J.yes rfl rfl ?_
      refine J.move rfl rfl ?_
      refine J.yes rfl rfl ?_
      refine J.neqB Tryz.underlying4 rfl rfl rfl (by exact congrArg not (beq_self_eq_true _)) ?_
      refine J.pick_f rfl rfl rfl ?_
      refine J.end ?_
      refine X.then ?_
      refine T.cond_false rfl ?_
      refine T.skip ?_
      refine X.inBlock (X.then ?_)
      refine T.text [.l, .l, .l] rfl ?_
      refine J.move rfl rfl ?_
      refine J.add rfl rfl rfl (by first | exact add_nat _ 1 (by omega) | exact i64_ok _ (by omega) | exact rfl) ?_
      refine J.assign rfl rfl ?_
      refine J.end ?_
      exact X.round (i + 1) (by omega) (by first | omega | (dsimp only; omega)) (by repeat (first | exact Sub.nil _ | refine Sub.cons (by first | rfl | (rw [dgs_zero]; rfl) | (rw [List.drop_length]; rfl) | (simp; done) | (congr 2; omega) | (congr 3; omega)) ?_)) (by repeat (first | exact Sub.nil _ | refine Sub.cons (by first | rfl | (rw [dgs_zero]; rfl) | (rw [List.drop_length]; rfl) | (simp; done) | (congr 2; omega) | (congr 3; omega)) ?_))
    · skip
      refine T.exit ?_
      refine X.then_exit (X.then_exit (X.inBlock_eq (X.inBlock (X.then ?_))))
      refine T.text [.l, .l, .l] rfl ?_
      refine J.move rfl rfl ?_
      refine J.add rfl rfl rfl (by first | exact add_nat _ 1 (by omega) | exact i64_ok _ (by omega) | exact rfl) ?_
      refine J.assign rfl rfl ?_
      refine J.end ?_
      exact X.round (q + 1) (by omega) (by first | omega | (dsimp only; omega)) (by repeat (first | exact Sub.nil _ | refine Sub.cons (by first | rfl | (rw [dgs_zero]; rfl) | (rw [List.drop_length]; rfl) | (simp; done) | (congr 2; omega) | (congr 3; omega)) ?_)) (by repeat (first | exact Sub.nil _ | refine Sub.cons (by first | rfl | (rw [dgs_zero]; rfl) | (rw [List.drop_length]; rfl) | (simp; done) | (congr 2; omega) | (congr 3; omega)) ?_))
  · skip
    refine T.exit ?_
    refine X.then_exit (X.then_exit (X.inBlock_eq (X.then ?_)))
    refine T.seq ?_
    refine T.text [.l, .l] rfl ?_
    refine J.call0 (k := .l) trivial fok7 rfl rfl (fun w hw => Wk.awake w) ?_
    refine J.assign rfl rfl ?_
    refine J.end ?_
    refine X.then ?_
    refine T.ret ?_
    exact X.ret1 rfl (RV.tmp rfl) (fun w' hw' => ⟨rfl, hw'.sub (Sub.nil _)⟩)
end Go.Proofs.YtegociefcfcihaaGreatDoor.Lp
