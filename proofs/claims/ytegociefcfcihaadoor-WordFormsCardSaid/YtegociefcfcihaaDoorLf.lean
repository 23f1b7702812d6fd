/-
  Walks, printed by gen.py: what each function hands back, said of numbers.
  Conditions: those that each theorem bears.
-/
import Derived.Test.YtegociefcfcihaaDoorChecked
import Derived.Test.YtegociefcfcihaaDoorFn
import Derived.Test.YtegociefcfcihaaDoorPs
import Derived.Test.YtegociefcfcihaaDoorWa
import Derived.Test.YtegociefcfcihaaDoorWb
import Derived.Test.YtegociefcfcihaaDoorWe
import Derived.Test.YtegociefcfcihaaDoorWh
import Derived.Test.YtegociefcfcihaaDoorWk
import Derived.Test.YtegociefcfcihaaDoorWn
import Derived.Test.YtegociefcfcihaaDoorRa
import Derived.Test.YtegociefcfcihaaDoorRb
import Derived.Test.YtegociefcfcihaaDoorRp
set_option linter.unusedVariables false
set_option maxRecDepth 20000
namespace Go.Proofs.YtegociefcfcihaaDoor.Lf
open Go Go.Fw

theorem sz39 : SizeT Tryd.prog 39 32 := (by unfold SizeT; kernel_rfl)
theorem zero8 : ZeroT Tryd.prog 67 (.agg (rowN .u64 (lg 0)).toArray) := (by unfold ZeroT; kernel_rfl)
theorem one25 : OneT Tryd.prog 25 := ⟨⟨_, Tryd.underlying25, rfl⟩, by kernel_rfl⟩
theorem one27 : OneT Tryd.prog 27 := ⟨⟨_, Tryd.underlying27, rfl⟩, by kernel_rfl⟩
theorem fok153 : FnOk Tryd.prog 153 := FnOk.mk' Tryd.func153 (by kernel_rfl) rfl
theorem fok23 : FnOk Tryd.prog 23 := FnOk.mk' Tryd.func23 (by kernel_rfl) rfl
theorem fok27 : FnOk Tryd.prog 27 := FnOk.mk' Tryd.func27 (by kernel_rfl) rfl
theorem fok25 : FnOk Tryd.prog 25 := FnOk.mk' Tryd.func25 (by kernel_rfl) rfl
theorem fok29 : FnOk Tryd.prog 29 := FnOk.mk' Tryd.func29 (by kernel_rfl) rfl
theorem fok34 : FnOk Tryd.prog 34 := FnOk.mk' Tryd.func34 (by kernel_rfl) rfl
theorem fok31 : FnOk Tryd.prog 31 := FnOk.mk' Tryd.func31 (by kernel_rfl) rfl
theorem fok36 : FnOk Tryd.prog 36 := FnOk.mk' Tryd.func36 (by kernel_rfl) rfl
theorem fok46 : FnOk Tryd.prog 46 := FnOk.mk' Tryd.func46 (by kernel_rfl) rfl
theorem fok48 : FnOk Tryd.prog 48 := FnOk.mk' Tryd.func48 (by kernel_rfl) rfl
theorem fok50 : FnOk Tryd.prog 50 := FnOk.mk' Tryd.func50 (by kernel_rfl) rfl
theorem fok44 : FnOk Tryd.prog 44 := FnOk.mk' Tryd.func44 (by kernel_rfl) rfl
theorem fok155 : FnOk Tryd.prog 155 := FnOk.mk' Tryd.func155 (by kernel_rfl) rfl
theorem fok54 : FnOk Tryd.prog 54 := FnOk.mk' Tryd.func54 (by kernel_rfl) rfl
theorem fok55 : FnOk Tryd.prog 55 := FnOk.mk' Tryd.func55 (by kernel_rfl) rfl
theorem fok38 : FnOk Tryd.prog 38 := FnOk.mk' Tryd.func38 (by kernel_rfl) rfl
theorem fok40 : FnOk Tryd.prog 40 := FnOk.mk' Tryd.func40 (by kernel_rfl) rfl
theorem fok79 : FnOk Tryd.prog 79 := FnOk.mk' Tryd.func79 (by kernel_rfl) rfl
theorem fok157 : FnOk Tryd.prog 157 := FnOk.mk' Tryd.func157 (by kernel_rfl) rfl
theorem fok62 : FnOk Tryd.prog 62 := FnOk.mk' Tryd.func62 (by kernel_rfl) rfl
theorem fok64 : FnOk Tryd.prog 64 := FnOk.mk' Tryd.func64 (by kernel_rfl) rfl
theorem fok66 : FnOk Tryd.prog 66 := FnOk.mk' Tryd.func66 (by kernel_rfl) rfl
theorem fok158 : FnOk Tryd.prog 158 := FnOk.mk' Tryd.func158 (by kernel_rfl) rfl
theorem fok69 : FnOk Tryd.prog 69 := FnOk.mk' Tryd.func69 (by kernel_rfl) rfl
theorem fok59 : FnOk Tryd.prog 59 := FnOk.mk' Tryd.func59 (by kernel_rfl) rfl
theorem fok60 : FnOk Tryd.prog 60 := FnOk.mk' Tryd.func60 (by kernel_rfl) rfl
theorem fok42 : FnOk Tryd.prog 42 := FnOk.mk' Tryd.func42 (by kernel_rfl) rfl
theorem fok159 : FnOk Tryd.prog 159 := FnOk.mk' Tryd.func159 (by kernel_rfl) rfl
theorem func98T : FuncT Tryd.prog 98 := ⟨_, _, _, Tryd.underlying98⟩
theorem fok148 : FnOk Tryd.prog 148 := FnOk.mk' Tryd.func148 (by kernel_rfl) rfl
theorem zero256 : ZeroT Tryd.prog 78 (.agg (rowN .i64 (List.replicate 256 0)).toArray) := (by unfold ZeroT; kernel_rfl)
theorem sz78 : SizeT Tryd.prog 78 256 := (by unfold SizeT; kernel_rfl)
theorem zero20 : ZeroT Tryd.prog 48 (.agg (rowN .u8 (List.replicate 20 0)).toArray) := (by unfold ZeroT; kernel_rfl)
theorem sz48 : SizeT Tryd.prog 48 20 := (by unfold SizeT; kernel_rfl)
theorem sz5 : SizeT Tryd.prog 5 1 := (by unfold SizeT; kernel_rfl)
theorem arr48 : ArrT Tryd.prog 48 20 5 1 := ⟨Tryd.underlying48, sz5⟩
theorem one5 : OneT Tryd.prog 5 := ⟨⟨_, Tryd.underlying5, rfl⟩, by kernel_rfl⟩
theorem eqA48 : EqA Tryd.prog 48 20 := ⟨⟨5, arr48, one5, Tryd.underlying5⟩, by kernel_rfl⟩
theorem arr39 : ArrT Tryd.prog 39 32 5 1 := ⟨Tryd.underlying39, sz5⟩
theorem eqA39 : EqA Tryd.prog 39 32 := ⟨⟨5, arr39, one5, Tryd.underlying5⟩, by kernel_rfl⟩
theorem el5 : ElT Tryd.prog 5 1 1 (.int .u8 0) := ⟨by kernel_rfl, rfl, by decide, by decide⟩
theorem sl45 : SlT Tryd.prog 45 5 1 := ⟨Tryd.underlying45, sz5⟩
theorem fok90 : FnOk Tryd.prog 90 := FnOk.mk' Tryd.func90 (by kernel_rfl) rfl
theorem zero24 : ZeroT Tryd.prog 24 (.agg ([.int .u64 0, .int .u64 0, .int .u64 0, .int .u64 0]).toArray) := (by unfold ZeroT; kernel_rfl)
theorem sz24 : SizeT Tryd.prog 24 4 := (by unfold SizeT; kernel_rfl)
theorem fok92 : FnOk Tryd.prog 92 := FnOk.mk' Tryd.func92 (by kernel_rfl) rfl
theorem agg24 : AggT Tryd.prog 24 4 := ⟨⟨_, Tryd.underlying24, rfl⟩, by kernel_rfl⟩
theorem sz22 : SizeT Tryd.prog 22 1 := (by unfold SizeT; kernel_rfl)
theorem arr24 : ArrT Tryd.prog 24 4 22 1 := ⟨Tryd.underlying24, sz22⟩
theorem one22 : OneT Tryd.prog 22 := ⟨⟨_, Tryd.underlying22, rfl⟩, by kernel_rfl⟩
theorem eqw24 : EqT Tryd.prog 24 := ⟨⟨22, arr24, one22, Tryd.underlying22⟩, by kernel_rfl⟩
theorem fok93 : FnOk Tryd.prog 93 := FnOk.mk' Tryd.func93 (by kernel_rfl) rfl
theorem fok94 : FnOk Tryd.prog 94 := FnOk.mk' Tryd.func94 (by kernel_rfl) rfl
theorem fok95 : FnOk Tryd.prog 95 := FnOk.mk' Tryd.func95 (by kernel_rfl) rfl
theorem fok96 : FnOk Tryd.prog 96 := FnOk.mk' Tryd.func96 (by kernel_rfl) rfl
theorem agg48 : AggT Tryd.prog 48 20 := ⟨⟨_, Tryd.underlying48, rfl⟩, by kernel_rfl⟩
theorem fok33 : FnOk Tryd.prog 33 := FnOk.mk' Tryd.func33 (by kernel_rfl) rfl
theorem fok88 : FnOk Tryd.prog 88 := FnOk.mk' Tryd.func88 (by kernel_rfl) rfl
theorem fok97 : FnOk Tryd.prog 97 := FnOk.mk' Tryd.func97 (by kernel_rfl) rfl
theorem fok89 : FnOk Tryd.prog 89 := FnOk.mk' Tryd.func89 (by kernel_rfl) rfl
theorem fok98 : FnOk Tryd.prog 98 := FnOk.mk' Tryd.func98 (by kernel_rfl) rfl
theorem fok99 : FnOk Tryd.prog 99 := FnOk.mk' Tryd.func99 (by kernel_rfl) rfl
theorem fok100 : FnOk Tryd.prog 100 := FnOk.mk' Tryd.func100 (by kernel_rfl) rfl

set_option maxHeartbeats 2000000 in
theorem WordForms (w : World) (A0 : Option Addr) (c0 : Nat) (xs0 : List Nat) (hc0 : Cs w A0 (rowN .u8 xs0)) (hx0 : Dg xs0) (hb0 : xs0.length ≤ 9223372036854775807) (x1 n2 : Nat) (hn2 : n2 < 18446744073709551616) (bs3 : List Nat) (hl3 : bs3.length = 20) (hd3 : Dg bs3) :
    Calls Tryd.prog 20 [.slice A0 xs0.length c0, W x1, .int .u64 (n2 : Int), .agg (rowN .u8 bs3).toArray].toArray w fun e w' => e = .returned (.bool true) ∧ WS w [] [] w' := by
  refine calls_of_T [] 183 [] Tryd.func20 rfl Tryd.ntmps20 (by simp) (WS.refl _ _) ?_
  refine T.seq ?_
  refine T.text [.l, .l, .l] rfl ?_
  refine J.box 5 rfl rfl (wc x1) rfl rfl (fun g5 hg5 => ?_)
  refine J.box 7 rfl rfl (rowN .u8 bs3) rfl rfl (fun g7 hg7 => ?_)
  refine J.assign rfl rfl ?_
  refine J.end ?_
  refine X.then ?_
  refine T.seq ?_
  refine T.seq ?_
  refine T.text [.l, .l, .l] rfl ?_
  refine J.move rfl rfl ?_
  refine J.lenSl Tryd.underlying45 rfl rfl ?_
  refine J.gtr rfl rfl rfl rfl ?_
  refine J.end ?_
  refine X.then ?_
  refine T.cond_dec rfl (fun h1 => ?_) (fun h1 => ?_)
  · skip
    refine T.seq ?_
    refine T.text [.l] rfl ?_
    refine J.assign rfl rfl ?_
    refine J.end ?_
    refine X.then ?_
    refine T.ret ?_
    refine X.then_ret ?_
    exact X.ret1 rfl (RV.tmp rfl) (fun w' hw' => ⟨rfl, hw'.sub (Sub.nil _)⟩)
  · have hle : xs0.length ≤ 1048576 := by omega
    have hzl : (xs0 ++ [91, 92, 93, 94, 95, 96, 97, 98, 99]).length = xs0.length + 9 := by rw [List.length_append]; rfl
    have hzd : Dg (xs0 ++ [91, 92, 93, 94, 95, 96, 97, 98, 99]) := fun u hu => (List.mem_append.1 hu).elim (hx0 u) (fun h => by simp at h; omega)
    refine T.skip ?_
    refine X.then ?_
    refine T.seq ?_
    refine T.text [.l, .l, .l, .l] rfl ?_
    refine J.buildSlice 31 rfl (e := 5) rfl rfl [] (fun w => by kernel_rfl) (fun g31 hg31 => ?_)
    refine J.move rfl rfl ?_
    refine J.append (i := ⟨some g31, 0, []⟩) (cs := []) 31 rfl Tryd.underlying45 el5 rfl (RowIx.blk_ok' g31 0 1 (Nat.zero_le _)) rfl rfl rfl (by rw [rowN_length, Nat.mul_one]) (fun w hw => hc0.ws hw (off_nil _)) (rowN_one _ _) (by omega) (by unfold maxLen; omega) rfl xs0.length (Nat.zero_add _) (rowN .u8 xs0) (List.nil_append _) (fun r33 hr33 => ?_)
    refine J.assign rfl rfl ?_
    refine J.end ?_
    refine X.then ?_
    refine T.seq ?_
    refine T.text [.l, .l, .l, .l] rfl ?_
    refine J.move rfl rfl ?_
    refine J.buildSlice 35 rfl (e := 5) rfl rfl (rowN .u8 [91, 92, 93, 94, 95, 96, 97, 98, 99]) (fun w => by kernel_rfl) (fun g35 hg35 => ?_)
    refine J.append 31 rfl Tryd.underlying45 el5 rfl hr33 (by rw [rowN_length, Nat.mul_one]) rfl rfl rfl (fun w hw => (hw.blkCs (k := 35) rfl)) (rowN_one _ _) (by omega) (by unfold maxLen; omega) rfl (xs0 ++ [91, 92, 93, 94, 95, 96, 97, 98, 99]).length (by rw [hzl]) (rowN .u8 (xs0 ++ [91, 92, 93, 94, 95, 96, 97, 98, 99])) (by rw [rowN_append]) (fun r36 hr36 => ?_)
    have hcap := hr36.le
    refine J.assign rfl rfl ?_
    refine J.end ?_
    refine X.mv 31 9 rfl ?_
    refine X.then ?_
    refine T.seq ?_
    refine T.text [.l, .l, .l, .l, .l, .l, .l, .l, .l, .l, .l] rfl ?_
    refine J.move rfl rfl ?_
    refine J.move rfl rfl ?_
    refine J.lenSl Tryd.underlying45 rfl rfl ?_
    refine J.sliceSl sl45 rfl optInt.none (optInt.some rfl (by omega) (by first | exact Int.toNat_natCast _ | rfl)) optInt.none (by simp) (by omega) (by omega) (by omega) rfl (slice_front _ _ _ _) ?_
    refine J.as 41 (.slice (hdOf r36.id) (xs0).length r36.cap) rfl (by first | rfl | (congr 1; rw [List.length_take]; omega)) ?_
    refine J.call0 (k := .l) trivial fok90 rfl rfl (fun w hw => Wa.FromBytes w _ _ xs0 (cs_frontN (hw.rowCs (k := 9) rfl)) hx0 (by omega)) ?_
    refine J.move rfl rfl ?_
    refine J.extract rfl rfl rfl ?_
    refine J.extract rfl rfl rfl ?_
    refine J.alloc 10 rfl zero24 [.int .u64 0, .int .u64 0, .int .u64 0, .int .u64 0] rfl rfl (fun g10 hg10 => ?_)
    refine J.store 10 rfl rfl rfl rfl (wc (if (xs0).length ≤ 32 then vl (xs0).reverse else 0)) rfl sz24 (by first | decide | exact Nat.le_refl _ | exact Nat.le_of_ble_eq_true rfl | (simp [rowN]; done) | (simp [rowN]; omega)) (by first | exact rowN_one _ _ | (simp; done) | (intro u hu; simp at hu; subst hu; rfl) | (intro u hu; simp at hu; rcases hu with rfl | rfl <;> rfl)) (by first | decide | exact Nat.zero_lt_succ _ | simp) trivial (wc (if (xs0).length ≤ 32 then vl (xs0).reverse else 0)) rfl ?_
    refine J.assign rfl rfl ?_
    refine J.end ?_
    refine X.then ?_
    refine T.seq ?_
    refine T.text [.l, .l, .l, .l, .l, .l, .l, .l] rfl ?_
    refine J.move rfl rfl ?_
    refine J.call0 (k := .l) trivial fok92 rfl rfl (fun w hw => Rb.FromBytes w _ _ xs0 (hc0.ws hw (off_nil _)) hx0 (by omega)) ?_
    refine J.move rfl rfl ?_
    refine J.extract rfl rfl rfl ?_
    refine J.extract rfl rfl rfl ?_
    refine J.alloc 12 rfl zero24 [.int .u64 0, .int .u64 0, .int .u64 0, .int .u64 0] rfl rfl (fun g12 hg12 => ?_)
    refine J.store 12 rfl rfl rfl rfl (wc (if (xs0).length ≤ 32 then vl (xs0).reverse else 0)) rfl sz24 (by first | decide | exact Nat.le_refl _ | exact Nat.le_of_ble_eq_true rfl | (simp [rowN]; done) | (simp [rowN]; omega)) (by first | exact rowN_one _ _ | (simp; done) | (intro u hu; simp at hu; subst hu; rfl) | (intro u hu; simp at hu; rcases hu with rfl | rfl <;> rfl)) (by first | decide | exact Nat.zero_lt_succ _ | simp) trivial (wc (if (xs0).length ≤ 32 then vl (xs0).reverse else 0)) rfl ?_
    refine J.assign rfl rfl ?_
    refine J.end ?_
    refine X.then ?_
    refine T.seq ?_
    refine T.seq ?_
    refine T.draw [(9, r36.ent 5 (rowN .u8 (xs0 ++ [91, 92, 93, 94, 95, 96, 97, 98, 99])))] [(0, .q), (1, .q), (2, .g), (3, .g), (4, .g), (5, .g), (6, .g), (7, .g), (8, .g), (9, .g), (10, .g), (11, .g), (12, .g), (13, .q), (14, .g), (15, .q), (16, .g), (17, .g), (18, .g), (19, .g), (20, .g), (21, .g), (22, .g), (23, .s), (24, .l), (25, .q), (26, .g), (27, .g)] (by kernel_rfl) (by kernel_rfl) ?_ (by repeat (first | exact Sub.nil _ | refine Sub.cons (by first | rfl | (rw [dgs_zero]; rfl) | (rw [List.drop_length]; rfl) | (simp; done) | (congr 2; omega) | (congr 3; omega)) ?_))
    refine J.loadN (k := .q) trivial 10 rfl rfl agg24 (wc (if (xs0).length ≤ 32 then vl (xs0).reverse else 0)) rfl rfl rfl ?_
    refine J.loadN (k := .q) trivial 12 rfl rfl agg24 (wc (if (xs0).length ≤ 32 then vl (xs0).reverse else 0)) rfl rfl rfl ?_
    refine J.neqW eqw24 rfl rfl rfl ?_
    refine J.as 52 (.bool false) rfl (by rw [decide_eq_false (by refine not_not_intro ?_; rfl)]) ?_
    refine J.move rfl rfl ?_
    refine J.yes rfl rfl ?_
    refine J.move rfl rfl ?_
    refine J.yes rfl rfl ?_
    refine J.move rfl rfl ?_
    refine J.yes rfl rfl ?_
    refine J.neq rfl rfl rfl rfl ?_
    refine J.as 56 (.bool false) rfl (by rw [decide_eq_false (by refine not_not_intro ?_; rfl)]) ?_
    refine J.pick_f rfl rfl rfl ?_
    refine J.move rfl rfl ?_
    refine J.yes rfl rfl ?_
    refine J.move rfl rfl ?_
    refine J.yes rfl rfl ?_
    refine J.move rfl rfl ?_
    refine J.yes rfl rfl ?_
    refine J.lenSl Tryd.underlying45 rfl rfl ?_
    refine J.yes rfl rfl ?_
    refine J.sliceSl sl45 rfl optInt.none (optInt.some rfl (by omega) (by first | exact Int.toNat_natCast _ | rfl)) optInt.none (by simp) (by omega) (by omega) (by omega) rfl (slice_front _ _ _ _) ?_
    refine J.as 62 (.slice (hdOf r36.id) (xs0).length r36.cap) rfl (by first | rfl | (congr 1; rw [List.length_take]; omega)) ?_
    refine J.yes rfl rfl ?_
    refine J.convBS (k := .q) trivial Tryd.underlying45 Tryd.underlying5 Tryd.underlying9 rfl (xs0) rfl (fun w hw => cs_frontN (hw.rowCs (k := 9) rfl)) rfl ?_
    refine J.yes rfl rfl ?_
    refine J.move rfl rfl ?_
    refine J.yes rfl rfl ?_
    refine J.convBS (k := .q) trivial Tryd.underlying45 Tryd.underlying5 Tryd.underlying9 rfl (xs0) rfl (fun w hw => (hc0.ws hw (off_nil _))) rfl ?_
    refine J.yes rfl rfl ?_
    refine J.neqStr (xs := xs0) (ys := xs0) rfl rfl rfl hx0 hx0 ?_
    refine J.as 66 (.bool false) rfl (by rw [decide_eq_false (by refine not_not_intro ?_; rfl)]) ?_
    refine J.pick_f rfl rfl rfl ?_
    refine J.move rfl rfl ?_
    refine J.yes rfl rfl ?_
    refine J.move rfl rfl ?_
    refine J.yes rfl rfl ?_
    refine J.move rfl rfl ?_
    refine J.yes rfl rfl ?_
    refine J.lenSl Tryd.underlying45 rfl rfl ?_
    refine J.yes rfl rfl ?_
    refine J.sliceSl sl45 rfl (optInt.some rfl (by omega) (by first | exact Int.toNat_natCast _ | rfl)) optInt.none optInt.none (by simp) (by omega) (by omega) (by omega) rfl rfl ?_
    refine J.as 72 (.slice ((hdOf r36.id).map (·.add (xs0.length * 1))) ([91, 92, 93, 94, 95, 96, 97, 98, 99] : List Nat).length (r36.cap - xs0.length)) rfl (by rw [if_neg (by omega), hzl, Nat.add_sub_cancel_left]; rfl) ?_
    refine J.yes rfl rfl ?_
    refine J.convBSs Tryd.underlying45 Tryd.underlying5 Tryd.underlying9 rfl ([91, 92, 93, 94, 95, 96, 97, 98, 99]) rfl (fun w hw => cs_behindN (hw.rowCs (k := 9) rfl)) rfl ?_
    refine J.yes rfl rfl ?_
    refine J.buildSlice 74 rfl (e := 5) rfl rfl (rowN .u8 [91, 92, 93, 94, 95, 96, 97, 98, 99]) (fun w => by kernel_rfl) (fun g74 hg74 => ?_)
    refine J.yes rfl rfl ?_
    refine J.convBS (k := .q) trivial Tryd.underlying45 Tryd.underlying5 Tryd.underlying9 rfl ([91, 92, 93, 94, 95, 96, 97, 98, 99]) rfl (fun w hw => (hw.blkCs (k := 74) rfl)) rfl ?_
    refine J.yes rfl rfl ?_
    refine J.neqStr (xs := [91, 92, 93, 94, 95, 96, 97, 98, 99]) (ys := [91, 92, 93, 94, 95, 96, 97, 98, 99]) rfl rfl rfl (by intro u hu; simp at hu; omega) (by intro u hu; simp at hu; omega) ?_
    refine J.as 76 (.bool false) rfl (by rw [decide_eq_false (by refine not_not_intro ?_; rfl)]) ?_
    refine J.pick_f rfl rfl rfl ?_
    refine J.end ?_
    refine X.then ?_
    refine T.cond_false rfl ?_
    refine T.skip ?_
    refine X.then ?_
    refine T.seq ?_
    refine T.seq ?_
    refine T.text [.l] rfl ?_
    refine J.assign rfl rfl ?_
    refine J.end ?_
    refine X.then ?_
    refine T.block ?_
    refine T.loop (ι := Nat × List Nat) (fun ((i, ys) : Nat × List Nat) => i ≤ xs0.length ∧ ys.length = xs0.length + 9 ∧ Dg ys) (fun ((i, ys) : Nat × List Nat) => [(0, .slice A0 xs0.length c0), (1, W x1), (2, .int .u64 (n2 : Int)), (3, .agg (rowN .u8 bs3).toArray), (5, .pointer (some ⟨g5, 0, none⟩)), (7, .pointer (some ⟨g7, 0, none⟩)), (8, .bool false), (28, .slice A0 xs0.length c0), (29, .int .i64 ((xs0.length : Nat) : Int)), (31, .slice (some ⟨g31, 0, none⟩) 0 0), (32, .slice A0 xs0.length c0), (33, r33.val xs0.length), (9, r36.val ys.length), (34, r33.val xs0.length), (35, .slice (some ⟨g35, 0, none⟩) 9 9), (36, r36.val (xs0 ++ [91, 92, 93, 94, 95, 96, 97, 98, 99]).length), (38, r36.val (xs0 ++ [91, 92, 93, 94, 95, 96, 97, 98, 99]).length), (39, .slice A0 xs0.length c0), (40, .int .i64 ((xs0.length : Nat) : Int)), (41, .slice (hdOf r36.id) (xs0).length r36.cap), (43, W (if (xs0).length ≤ 32 then vl (xs0).reverse else 0)), (44, .int .i64 ((if (xs0).length ≤ 32 then 0 else 2 : Nat) : Int)), (10, .pointer (some ⟨g10, 0, none⟩)), (11, .int .i64 ((if (xs0).length ≤ 32 then 0 else 2 : Nat) : Int)), (46, .slice A0 xs0.length c0), (48, W (if (xs0).length ≤ 32 then vl (xs0).reverse else 0)), (49, .int .i64 ((if (xs0).length ≤ 32 then 0 else 2 : Nat) : Int)), (12, .pointer (some ⟨g12, 0, none⟩)), (13, .int .i64 ((if (xs0).length ≤ 32 then 0 else 2 : Nat) : Int)), (50, W (if (xs0).length ≤ 32 then vl (xs0).reverse else 0)), (51, W (if (xs0).length ≤ 32 then vl (xs0).reverse else 0)), (52, .bool false), (53, .bool false), (54, .int .i64 ((if (xs0).length ≤ 32 then 0 else 2 : Nat) : Int)), (55, .int .i64 ((if (xs0).length ≤ 32 then 0 else 2 : Nat) : Int)), (56, .bool false), (57, .bool false), (58, .bool false), (59, r36.val (xs0 ++ [91, 92, 93, 94, 95, 96, 97, 98, 99]).length), (60, .slice A0 xs0.length c0), (61, .int .i64 ((xs0.length : Nat) : Int)), (62, .slice (hdOf r36.id) (xs0).length r36.cap), (64, .slice A0 xs0.length c0), (66, .bool false), (67, .bool false), (68, .bool false), (69, r36.val (xs0 ++ [91, 92, 93, 94, 95, 96, 97, 98, 99]).length), (70, .slice A0 xs0.length c0), (71, .int .i64 ((xs0.length : Nat) : Int)), (74, .slice (some ⟨g74, 0, none⟩) 9 9), (76, .bool false), (77, .bool false), (14, .int .i64 (i : Int))]) (fun ((i, ys) : Nat × List Nat) => [(5, ⟨some g5, 24, (wc x1)⟩), (7, ⟨some g7, 48, (rowN .u8 bs3)⟩), (35, ⟨some g35, 5, (rowN .u8 [91, 92, 93, 94, 95, 96, 97, 98, 99])⟩), (10, ⟨some g10, 24, (wc (if (xs0).length ≤ 32 then vl (xs0).reverse else 0))⟩), (12, ⟨some g12, 24, (wc (if (xs0).length ≤ 32 then vl (xs0).reverse else 0))⟩), (74, ⟨some g74, 5, (rowN .u8 [91, 92, 93, 94, 95, 96, 97, 98, 99])⟩), (9, r36.ent 5 (rowN .u8 ys))]) (fun ((i, ys) : Nat × List Nat) => xs0.length - i) ⟨0, (xs0 ++ [91, 92, 93, 94, 95, 96, 97, 98, 99])⟩ ⟨Nat.zero_le _, hzl, hzd⟩ (by repeat (first | exact Sub.nil _ | refine Sub.cons (by first | rfl | (rw [dgs_zero]; rfl) | (rw [List.drop_length]; rfl) | (simp; done) | (congr 2; omega) | (congr 3; omega)) ?_)) (by repeat (first | exact Sub.nil _ | refine Sub.cons (by first | rfl | (rw [dgs_zero]; rfl) | (rw [List.drop_length]; rfl) | (simp; done) | (congr 2; omega) | (congr 3; omega)) ?_)) ?_
    rintro ⟨i, ys⟩ ⟨hi, hyl, hyd⟩
    try dsimp only at *
    refine T.seq ?_
    refine T.seq ?_
    refine T.text [.l, .l, .l, .l] rfl ?_
    refine J.move rfl rfl ?_
    refine J.move rfl rfl ?_
    refine J.lenSl Tryd.underlying45 rfl rfl ?_
    refine J.lss rfl rfl rfl rfl ?_
    refine J.end ?_
    refine X.then ?_
    refine T.cond_dec rfl (fun h2 => ?_) (fun h2 => ?_)
    · have hxi := hx0.getD i
      have hm8 := Nat.mod_lt (85 + i) (show 256 > 0 by omega)
      refine T.skip ?_
      refine X.then ?_
      refine T.seq ?_
      refine T.block ?_
      refine T.text [.l, .l, .l, .l, .l, .l, .l, .l, .l, .l, .l, .l] rfl ?_
      refine J.move rfl rfl ?_
      refine J.move rfl rfl ?_
      refine J.move rfl rfl ?_
      refine J.move rfl rfl ?_
      refine J.indexSlI sl45 rfl (Cs.isSomeN hc0 (by omega)) rfl (by omega) (by omega) (by first | exact Int.toNat_natCast _ | rfl) rfl ?_
      refine J.loadI1 (k := .l) trivial hc0 (off_nil _) rfl one5 (by first | rfl | with_reducible exact rowN_get1 _ _ _ (by omega) | exact rowN_get1 _ _ _ (by omega)) rfl ?_
      refine J.move rfl rfl ?_
      refine J.add rfl rfl rfl (by exact add_nat 85 _ (by omega)) ?_
      refine J.conv (by rw [Tryd.underlying3]; rfl) Tryd.underlying5 rfl rfl (by exact wrap8_nat _) ?_
      refine J.bxor rfl rfl rfl (by exact xor_nat8 _ _ (by omega)) ?_
      refine J.indexRow sl45 rfl (hr36.some (by omega)) rfl (by omega) (by omega) (by first | exact Int.toNat_natCast _ | rfl) rfl ?_
      refine J.store 9 rfl rfl rfl rfl [.int .u8 ((xs0.getD i 0 ^^^ ((85 + i) % 256) : Nat) : Int)] rfl sz5 (by show _ ≤ (rowN .u8 ys ++ r36.sp).length; rw [List.length_append, rowN_length]; show _ + 1 ≤ _; omega) (by first | exact rowN_one _ _ | (simp; done) | (intro u hu; simp at hu; subst hu; rfl) | (intro u hu; simp at hu; rcases hu with rfl | rfl <;> rfl)) (by first | decide | exact Nat.zero_lt_succ _ | simp) trivial (rowN .u8 (ys.set i (xs0.getD i 0 ^^^ ((85 + i) % 256))) ++ r36.sp) (by exact putNs _ _ _ _ _ (by omega)) ?_
      refine J.end ?_
      refine X.inBlock (X.then ?_)
      refine T.text [.l, .l, .l] rfl ?_
      refine J.move rfl rfl ?_
      refine J.add rfl rfl rfl (by first | exact add_nat _ 1 (by omega) | exact i64_ok _ (by omega) | exact rfl) ?_
      refine J.assign rfl rfl ?_
      refine J.end ?_
      exact X.round ⟨(i + 1), (ys.set i (xs0.getD i 0 ^^^ ((85 + i) % 256)))⟩ ⟨by omega, by simp [hyl], hyd.setx i _ _ hxi (Nat.mod_lt _ (by omega))⟩ (by first | omega | (dsimp only; omega)) (by repeat (first | exact Sub.nil _ | refine Sub.cons (by first | rfl | (simp only [List.length_set]; rfl)) ?_)) (by repeat (first | exact Sub.nil _ | refine Sub.cons (by first | rfl | (rw [dgs_zero]; rfl) | (rw [List.drop_length]; rfl) | (simp; done) | (congr 2; omega) | (congr 3; omega)) ?_))
    · obtain rfl : i = xs0.length := by omega
      have hyt : (ys.take xs0.length).length = xs0.length := by rw [List.length_take]; omega
      have hytd : Dg (ys.take xs0.length) := hyd.take _
      refine T.exit ?_
      refine X.then_exit (X.then_exit (X.inBlock_eq (X.then ?_)))
      refine T.seq ?_
      refine T.text [.l, .l, .l, .l, .l, .l, .l] rfl ?_
      refine J.buildSlice 95 rfl (e := 5) rfl rfl [] (fun w => by kernel_rfl) (fun g95 hg95 => ?_)
      refine J.move rfl rfl ?_
      refine J.move rfl rfl ?_
      refine J.lenSl Tryd.underlying45 rfl rfl ?_
      refine J.sliceSl sl45 rfl optInt.none (optInt.some rfl (by omega) (by first | exact Int.toNat_natCast _ | rfl)) optInt.none (by simp) (by omega) (by omega) (by omega) rfl (slice_front _ _ _ _) ?_
      refine J.as 99 (.slice (hdOf r36.id) ((ys.take xs0.length)).length r36.cap) rfl (by first | rfl | (congr 1; rw [List.length_take]; omega)) ?_
      refine J.append (i := ⟨some g95, 0, []⟩) (cs := []) 95 rfl Tryd.underlying45 el5 rfl (RowIx.blk_ok' g95 0 1 (Nat.zero_le _)) rfl rfl rfl (by rw [rowN_length, Nat.mul_one]) (fun w hw => cs_takeN (hw.rowCs (k := 9) rfl) _) (rowN_one _ _) (by omega) (by unfold maxLen; omega) rfl (ys.take xs0.length).length (Nat.zero_add _) (rowN .u8 (ys.take xs0.length)) (List.nil_append _) (fun r100 hr100 => ?_)
      refine J.assign rfl rfl ?_
      refine J.end ?_
      refine X.then ?_
      refine T.seq ?_
      refine T.text [.l, .l, .l, .l, .l, .l, .l, .l, .l, .l, .l] rfl ?_
      refine J.move rfl rfl ?_
      refine J.move rfl rfl ?_
      refine J.lenSl Tryd.underlying45 rfl rfl ?_
      refine J.sliceSl sl45 rfl optInt.none (optInt.some rfl (by omega) (by first | exact Int.toNat_natCast _ | rfl)) optInt.none (by simp) (by omega) (by omega) (by omega) rfl (slice_front _ _ _ _) ?_
      refine J.as 105 (.slice (hdOf r36.id) ((ys.take xs0.length)).length r36.cap) rfl (by first | rfl | (congr 1; rw [List.length_take]; omega)) ?_
      refine J.call0 (k := .l) trivial fok90 rfl rfl (fun w hw => Wa.FromBytes w _ _ (ys.take xs0.length) (cs_takeN (hw.rowCs (k := 9) rfl) _) hytd (by omega)) ?_
      refine J.move rfl rfl ?_
      refine J.extract rfl rfl rfl ?_
      refine J.extract rfl rfl rfl ?_
      refine J.alloc 16 rfl zero24 [.int .u64 0, .int .u64 0, .int .u64 0, .int .u64 0] rfl rfl (fun g16 hg16 => ?_)
      refine J.store 16 rfl rfl rfl rfl (wc (if ((ys.take xs0.length)).length ≤ 32 then vl ((ys.take xs0.length)).reverse else 0)) rfl sz24 (by first | decide | exact Nat.le_refl _ | exact Nat.le_of_ble_eq_true rfl | (simp [rowN]; done) | (simp [rowN]; omega)) (by first | exact rowN_one _ _ | (simp; done) | (intro u hu; simp at hu; subst hu; rfl) | (intro u hu; simp at hu; rcases hu with rfl | rfl <;> rfl)) (by first | decide | exact Nat.zero_lt_succ _ | simp) trivial (wc (if ((ys.take xs0.length)).length ≤ 32 then vl ((ys.take xs0.length)).reverse else 0)) rfl ?_
      refine J.assign rfl rfl ?_
      refine J.end ?_
      refine X.then ?_
      refine T.seq ?_
      refine T.text [.l, .l, .l, .l, .l, .l, .l, .l] rfl ?_
      refine J.move rfl rfl ?_
      refine J.call0 (k := .l) trivial fok92 rfl rfl (fun w hw => Rb.FromBytes w _ _ (ys.take xs0.length) (hw.rowCs (k := 95) rfl) hytd (by omega)) ?_
      refine J.move rfl rfl ?_
      refine J.extract rfl rfl rfl ?_
      refine J.extract rfl rfl rfl ?_
      refine J.alloc 18 rfl zero24 [.int .u64 0, .int .u64 0, .int .u64 0, .int .u64 0] rfl rfl (fun g18 hg18 => ?_)
      refine J.store 18 rfl rfl rfl rfl (wc (if ((ys.take xs0.length)).length ≤ 32 then vl ((ys.take xs0.length)).reverse else 0)) rfl sz24 (by first | decide | exact Nat.le_refl _ | exact Nat.le_of_ble_eq_true rfl | (simp [rowN]; done) | (simp [rowN]; omega)) (by first | exact rowN_one _ _ | (simp; done) | (intro u hu; simp at hu; subst hu; rfl) | (intro u hu; simp at hu; rcases hu with rfl | rfl <;> rfl)) (by first | decide | exact Nat.zero_lt_succ _ | simp) trivial (wc (if ((ys.take xs0.length)).length ≤ 32 then vl ((ys.take xs0.length)).reverse else 0)) rfl ?_
      refine J.assign rfl rfl ?_
      refine J.end ?_
      refine X.then ?_
      refine T.seq ?_
      refine T.seq ?_
      refine T.text [.l, .l, .l, .l, .l, .l, .l, .l] rfl ?_
      refine J.loadN (k := .l) trivial 16 rfl rfl agg24 (wc (if ((ys.take xs0.length)).length ≤ 32 then vl ((ys.take xs0.length)).reverse else 0)) rfl rfl rfl ?_
      refine J.loadN (k := .l) trivial 18 rfl rfl agg24 (wc (if ((ys.take xs0.length)).length ≤ 32 then vl ((ys.take xs0.length)).reverse else 0)) rfl rfl rfl ?_
      refine J.neqW eqw24 rfl rfl rfl ?_
      refine J.as 116 (.bool false) rfl (by rw [decide_eq_false (by refine not_not_intro ?_; rfl)]) ?_
      refine J.move rfl rfl ?_
      refine J.yes rfl rfl ?_
      refine J.move rfl rfl ?_
      refine J.yes rfl rfl ?_
      refine J.move rfl rfl ?_
      refine J.yes rfl rfl ?_
      refine J.neq rfl rfl rfl rfl ?_
      refine J.as 120 (.bool false) rfl (by rw [decide_eq_false (by refine not_not_intro ?_; rfl)]) ?_
      refine J.pick_f rfl rfl rfl ?_
      refine J.end ?_
      refine X.then ?_
      refine T.cond_false rfl ?_
      refine T.skip ?_
      refine X.then ?_
      refine T.seq ?_
      refine T.text [.l, .l, .l, .l, .l, .l, .l] rfl ?_
      refine J.loadN (k := .l) trivial 5 rfl rfl agg24 (wc x1) rfl rfl rfl ?_
      refine J.call0 (k := .l) trivial fok93 rfl rfl (fun w hw => Wa.Uint w _) ?_
      refine J.move rfl rfl ?_
      refine J.extract rfl rfl rfl ?_
      refine J.extract rfl rfl rfl ?_
      refine J.assign rfl rfl ?_
      refine J.assign rfl rfl ?_
      refine J.end ?_
      refine X.then ?_
      refine T.seq ?_
      refine T.text [.l, .l, .l, .l, .l, .l, .l] rfl ?_
      refine J.loadN (k := .l) trivial 5 rfl rfl agg24 (wc x1) rfl rfl rfl ?_
      refine J.call0 (k := .l) trivial fok94 rfl rfl (fun w hw => Ra.Uint w _) ?_
      refine J.move rfl rfl ?_
      refine J.extract rfl rfl rfl ?_
      refine J.extract rfl rfl rfl ?_
      refine J.assign rfl rfl ?_
      refine J.assign rfl rfl ?_
      refine J.end ?_
      refine X.then ?_
      refine T.seq ?_
      refine T.text [.l, .l, .l, .l, .l, .l, .l, .l] rfl ?_
      refine J.loadN (k := .l) trivial 5 rfl rfl agg24 (wc x1) rfl rfl rfl ?_
      refine J.call0 (k := .l) trivial fok95 rfl rfl (fun w hw => Rp.ToAddress w _) ?_
      refine J.move rfl rfl ?_
      refine J.extract rfl rfl rfl ?_
      refine J.extract rfl rfl rfl ?_
      refine J.alloc 24 rfl zero20 (rowN .u8 (List.replicate 20 0)) rfl rfl (fun g24 hg24 => ?_)
      refine J.store 24 rfl rfl rfl rfl (rowN .u8 (addrN x1)) rfl (by rw [rowN_length, addrN_length]; exact sz48) (by rw [rowN_length, addrN_length]; exact Nat.le_refl _) (by first | exact rowN_one _ _ | (simp; done) | (intro u hu; simp at hu; subst hu; rfl) | (intro u hu; simp at hu; rcases hu with rfl | rfl <;> rfl)) (by rw [rowN_length, addrN_length]; decide) trivial (rowN .u8 (addrN x1)) (put_all _ _ (by simp [rowN, addrN_length])) ?_
      refine J.assign rfl rfl ?_
      refine J.end ?_
      refine X.then ?_
      refine T.seq ?_
      refine T.text [.l, .l, .l, .l, .l, .l, .l, .l] rfl ?_
      refine J.loadN (k := .l) trivial 5 rfl rfl agg24 (wc x1) rfl rfl rfl ?_
      refine J.call0 (k := .l) trivial fok96 rfl rfl (fun w hw => Rp.ToAddressR w _) ?_
      refine J.move rfl rfl ?_
      refine J.extract rfl rfl rfl ?_
      refine J.extract rfl rfl rfl ?_
      refine J.alloc 26 rfl zero20 (rowN .u8 (List.replicate 20 0)) rfl rfl (fun g26 hg26 => ?_)
      refine J.store 26 rfl rfl rfl rfl (rowN .u8 (addrN x1)) rfl (by rw [rowN_length, addrN_length]; exact sz48) (by rw [rowN_length, addrN_length]; exact Nat.le_refl _) (by first | exact rowN_one _ _ | (simp; done) | (intro u hu; simp at hu; subst hu; rfl) | (intro u hu; simp at hu; rcases hu with rfl | rfl <;> rfl)) (by rw [rowN_length, addrN_length]; decide) trivial (rowN .u8 (addrN x1)) (put_all _ _ (by simp [rowN, addrN_length])) ?_
      refine J.assign rfl rfl ?_
      refine J.end ?_
      refine X.then ?_
      refine T.seq ?_
      refine T.seq ?_
      refine T.text [.l, .l, .l, .l, .l, .l, .l, .l, .l, .l, .l, .l, .l, .l, .l, .l, .l, .l, .l, .l, .l, .l] rfl ?_
      refine J.move rfl rfl ?_
      refine J.move rfl rfl ?_
      refine J.neq rfl rfl rfl rfl ?_
      refine J.as 144 (.bool false) rfl (by rw [decide_eq_false (by refine not_not_intro ?_; rfl)]) ?_
      refine J.move rfl rfl ?_
      refine J.yes rfl rfl ?_
      refine J.move rfl rfl ?_
      refine J.yes rfl rfl ?_
      refine J.move rfl rfl ?_
      refine J.yes rfl rfl ?_
      refine J.neqB Tryd.underlying4 rfl rfl rfl (by exact neqB_same (by exact Iff.rfl)) ?_
      refine J.pick_f rfl rfl rfl ?_
      refine J.move rfl rfl ?_
      refine J.yes rfl rfl ?_
      refine J.loadN (k := .l) trivial 24 rfl rfl agg48 (rowN .u8 (addrN x1)) (by rw [rowN_length, addrN_length]) (by rw [List.drop_zero]; exact List.take_of_length_le (by rw [rowN_length, addrN_length]; exact Nat.le_refl _)) rfl ?_
      refine J.yes rfl rfl ?_
      refine J.loadN (k := .l) trivial 26 rfl rfl agg48 (rowN .u8 (addrN x1)) (by rw [rowN_length, addrN_length]) (by rw [List.drop_zero]; exact List.take_of_length_le (by rw [rowN_length, addrN_length]; exact Nat.le_refl _)) rfl ?_
      refine J.yes rfl rfl ?_
      refine J.neqA eqA48 rfl rfl (addrN_length _) (addrN_length _) rfl ?_
      refine J.as 153 (.bool false) rfl (by rw [decide_eq_false (by refine not_not_intro ?_; rfl)]) ?_
      refine J.pick_f rfl rfl rfl ?_
      refine J.move rfl rfl ?_
      refine J.yes rfl rfl ?_
      refine J.move rfl rfl ?_
      refine J.yes rfl rfl ?_
      refine J.move rfl rfl ?_
      refine J.yes rfl rfl ?_
      refine J.neqB Tryd.underlying4 rfl rfl rfl (by exact neqB_same (by exact Iff.rfl)) ?_
      refine J.pick_f rfl rfl rfl ?_
      refine J.move rfl rfl ?_
      refine J.yes rfl rfl ?_
      refine J.call0 (k := .l) trivial fok33 rfl rfl (fun w hw => Wk.awake w) ?_
      refine J.yes rfl rfl ?_
      refine J.not rfl rfl rfl ?_
      refine J.pick_f rfl rfl rfl ?_
      refine J.end ?_
      refine X.then ?_
      refine T.cond_false rfl ?_
      refine T.skip ?_
      refine X.then ?_
      refine T.seq ?_
      refine T.draw [] [(0, .q), (1, .q), (2, .q), (3, .q), (4, .g), (5, .g), (6, .g), (7, .q), (8, .g), (9, .q), (10, .g), (11, .g), (12, .g), (13, .q), (14, .q), (15, .q), (16, .q), (17, .g), (18, .g), (19, .g)] (by kernel_rfl) (by kernel_rfl) ?_ (by repeat (first | exact Sub.nil _ | refine Sub.cons (by first | rfl | (rw [dgs_zero]; rfl) | (rw [List.drop_length]; rfl) | (simp; done) | (congr 2; omega) | (congr 3; omega)) ?_))
      refine J.loadN (k := .q) trivial 5 rfl rfl agg24 (wc x1) rfl rfl rfl ?_
      refine J.call0 (k := .q) trivial fok88 rfl rfl (fun w hw => Wa.Bytes w _) ?_
      refine J.loadN (k := .q) trivial 5 rfl rfl agg24 (wc x1) rfl rfl rfl ?_
      refine J.call0 (k := .q) trivial fok97 rfl rfl (fun w hw => Rb.Bytes w _) ?_
      refine J.eqA eqA39 rfl rfl (bytesN_length _) (bytesN_length _) rfl ?_
      refine J.as 168 (.bool true) rfl (by rw [decide_eq_true (by rfl)]) ?_
      refine J.move rfl rfl ?_
      refine J.yes rfl rfl ?_
      refine J.move rfl rfl ?_
      refine J.yes rfl rfl ?_
      refine J.call0 (k := .q) trivial fok89 rfl rfl (fun w hw => Wn.FromUint w n2 hn2) ?_
      refine J.yes rfl rfl ?_
      refine J.move rfl rfl ?_
      refine J.yes rfl rfl ?_
      refine J.call0 (k := .q) trivial fok98 rfl rfl (fun w hw => Rp.FromUintR w n2 hn2) ?_
      refine J.yes rfl rfl ?_
      refine J.eqW eqw24 rfl rfl rfl ?_
      refine J.as 174 (.bool true) rfl (by rw [decide_eq_true (by rfl)]) ?_
      refine J.pick_t rfl rfl rfl ?_
      refine J.move rfl rfl ?_
      refine J.yes rfl rfl ?_
      refine J.loadN (k := .q) trivial 7 rfl rfl agg48 (rowN .u8 bs3) (by rw [rowN_length, hl3]) (by rw [List.drop_zero]; exact List.take_of_length_le (by rw [rowN_length, hl3]; exact Nat.le_refl _)) rfl ?_
      refine J.yes rfl rfl ?_
      refine J.call0 (k := .q) trivial fok99 rfl rfl (fun w hw => Rp.FromAddress w bs3 hl3 hd3) ?_
      refine J.yes rfl rfl ?_
      refine J.loadN (k := .q) trivial 7 rfl rfl agg48 (rowN .u8 bs3) (by rw [rowN_length, hl3]) (by rw [List.drop_zero]; exact List.take_of_length_le (by rw [rowN_length, hl3]; exact Nat.le_refl _)) rfl ?_
      refine J.yes rfl rfl ?_
      refine J.call0 (k := .q) trivial fok100 rfl rfl (fun w hw => Rp.FromAddressR w bs3 hl3 hd3) ?_
      refine J.yes rfl rfl ?_
      refine J.eqW eqw24 rfl rfl rfl ?_
      refine J.as 181 (.bool true) rfl (by rw [decide_eq_true (by rfl)]) ?_
      refine J.pick_t rfl rfl rfl ?_
      refine J.assign rfl rfl ?_
      refine J.end ?_
      refine X.then ?_
      refine T.ret ?_
      exact X.ret1 rfl (RV.tmp rfl) (fun w' hw' => ⟨rfl, hw'.sub (Sub.nil _)⟩)
end Go.Proofs.YtegociefcfcihaaDoor.Lf
