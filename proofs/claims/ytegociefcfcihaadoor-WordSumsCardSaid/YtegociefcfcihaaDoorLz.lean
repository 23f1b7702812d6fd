/-
  Walks, printed by gen.py: what each function hands back, said of numbers.
  Conditions: those that each theorem bears.
-/
import Derived.Test.YtegociefcfcihaaDoorChecked
import Derived.Test.YtegociefcfcihaaDoorFn
import Derived.Test.YtegociefcfcihaaDoorPr
import Derived.Test.YtegociefcfcihaaDoorWa
import Derived.Test.YtegociefcfcihaaDoorWb
import Derived.Test.YtegociefcfcihaaDoorWe
import Derived.Test.YtegociefcfcihaaDoorWh
import Derived.Test.YtegociefcfcihaaDoorWk
import Derived.Test.YtegociefcfcihaaDoorWn
import Derived.Test.YtegociefcfcihaaDoorRb
set_option linter.unusedVariables false
set_option maxRecDepth 20000
namespace Go.Proofs.YtegociefcfcihaaDoor.Lz
open Go Go.Fw

theorem sz39 : SizeT Tryd.prog 39 32 := (by unfold SizeT; kernel_rfl)
theorem zero8 : ZeroT Tryd.prog 67 (.agg (rowN .u64 (lg 0)).toArray) := (by unfold ZeroT; kernel_rfl)
theorem one25 : OneT Tryd.prog 25 := ⟨⟨_, Tryd.underlying25, rfl⟩, by kernel_rfl⟩
theorem one27 : OneT Tryd.prog 27 := ⟨⟨_, Tryd.underlying27, rfl⟩, by kernel_rfl⟩
theorem fok153 : FnOk Tryd.prog 153 := FnOk.mk' Tryd.func153 (by kernel_rfl) rfl
theorem fok23 : FnOk Tryd.prog 23 := FnOk.mk' Tryd.func23 (by kernel_rfl) rfl
theorem fok27 : FnOk Tryd.prog 27 := FnOk.mk' Tryd.func27 (by kernel_rfl) rfl
theorem fok25 : FnOk Tryd.prog 25 := FnOk.mk' Tryd.func25 (by kernel_rfl) rfl
theorem fok29 : FnOk Tryd.prog 29 := FnOk.mk' Tryd.func29 (by kernel_rfl) rfl
theorem fok34 : FnOk Tryd.prog 34 := FnOk.mk' Tryd.func34 (by kernel_rfl) rfl
theorem fok31 : FnOk Tryd.prog 31 := FnOk.mk' Tryd.func31 (by kernel_rfl) rfl
theorem fok36 : FnOk Tryd.prog 36 := FnOk.mk' Tryd.func36 (by kernel_rfl) rfl
theorem fok46 : FnOk Tryd.prog 46 := FnOk.mk' Tryd.func46 (by kernel_rfl) rfl
theorem fok48 : FnOk Tryd.prog 48 := FnOk.mk' Tryd.func48 (by kernel_rfl) rfl
theorem fok50 : FnOk Tryd.prog 50 := FnOk.mk' Tryd.func50 (by kernel_rfl) rfl
theorem fok44 : FnOk Tryd.prog 44 := FnOk.mk' Tryd.func44 (by kernel_rfl) rfl
theorem fok155 : FnOk Tryd.prog 155 := FnOk.mk' Tryd.func155 (by kernel_rfl) rfl
theorem fok54 : FnOk Tryd.prog 54 := FnOk.mk' Tryd.func54 (by kernel_rfl) rfl
theorem fok55 : FnOk Tryd.prog 55 := FnOk.mk' Tryd.func55 (by kernel_rfl) rfl
theorem fok38 : FnOk Tryd.prog 38 := FnOk.mk' Tryd.func38 (by kernel_rfl) rfl
theorem fok40 : FnOk Tryd.prog 40 := FnOk.mk' Tryd.func40 (by kernel_rfl) rfl
theorem fok79 : FnOk Tryd.prog 79 := FnOk.mk' Tryd.func79 (by kernel_rfl) rfl
theorem fok157 : FnOk Tryd.prog 157 := FnOk.mk' Tryd.func157 (by kernel_rfl) rfl
theorem fok62 : FnOk Tryd.prog 62 := FnOk.mk' Tryd.func62 (by kernel_rfl) rfl
theorem fok64 : FnOk Tryd.prog 64 := FnOk.mk' Tryd.func64 (by kernel_rfl) rfl
theorem fok66 : FnOk Tryd.prog 66 := FnOk.mk' Tryd.func66 (by kernel_rfl) rfl
theorem fok158 : FnOk Tryd.prog 158 := FnOk.mk' Tryd.func158 (by kernel_rfl) rfl
theorem fok69 : FnOk Tryd.prog 69 := FnOk.mk' Tryd.func69 (by kernel_rfl) rfl
theorem fok59 : FnOk Tryd.prog 59 := FnOk.mk' Tryd.func59 (by kernel_rfl) rfl
theorem fok60 : FnOk Tryd.prog 60 := FnOk.mk' Tryd.func60 (by kernel_rfl) rfl
theorem fok42 : FnOk Tryd.prog 42 := FnOk.mk' Tryd.func42 (by kernel_rfl) rfl
theorem fok159 : FnOk Tryd.prog 159 := FnOk.mk' Tryd.func159 (by kernel_rfl) rfl
theorem func98T : FuncT Tryd.prog 98 := ⟨_, _, _, Tryd.underlying98⟩
theorem fok148 : FnOk Tryd.prog 148 := FnOk.mk' Tryd.func148 (by kernel_rfl) rfl
theorem zero256 : ZeroT Tryd.prog 78 (.agg (rowN .i64 (List.replicate 256 0)).toArray) := (by unfold ZeroT; kernel_rfl)
theorem sz78 : SizeT Tryd.prog 78 256 := (by unfold SizeT; kernel_rfl)
theorem el24 : ElT Tryd.prog 24 4 32 (.agg ([.int .u64 0, .int .u64 0, .int .u64 0, .int .u64 0]).toArray) := ⟨by kernel_rfl, rfl, by decide, by decide⟩
theorem sz24 : SizeT Tryd.prog 24 4 := (by unfold SizeT; kernel_rfl)
theorem sl35 : SlT Tryd.prog 35 24 4 := ⟨Tryd.underlying35, sz24⟩
theorem fok86 : FnOk Tryd.prog 86 := FnOk.mk' Tryd.func86 (by kernel_rfl) rfl
theorem zero24 : ZeroT Tryd.prog 24 (.agg ([.int .u64 0, .int .u64 0, .int .u64 0, .int .u64 0]).toArray) := (by unfold ZeroT; kernel_rfl)
theorem fok87 : FnOk Tryd.prog 87 := FnOk.mk' Tryd.func87 (by kernel_rfl) rfl
theorem agg24 : AggT Tryd.prog 24 4 := ⟨⟨_, Tryd.underlying24, rfl⟩, by kernel_rfl⟩
theorem sz22 : SizeT Tryd.prog 22 1 := (by unfold SizeT; kernel_rfl)
theorem arr24 : ArrT Tryd.prog 24 4 22 1 := ⟨Tryd.underlying24, sz22⟩
theorem one22 : OneT Tryd.prog 22 := ⟨⟨_, Tryd.underlying22, rfl⟩, by kernel_rfl⟩
theorem eqw24 : EqT Tryd.prog 24 := ⟨⟨22, arr24, one22, Tryd.underlying22⟩, by kernel_rfl⟩
theorem fok33 : FnOk Tryd.prog 33 := FnOk.mk' Tryd.func33 (by kernel_rfl) rfl
theorem fok61 : FnOk Tryd.prog 61 := FnOk.mk' Tryd.func61 (by kernel_rfl) rfl

set_option maxHeartbeats 2000000 in
theorem WordSums (w : World) (A0 : Option Addr) (c0 : Nat) (xs0 : List Nat) (hc0 : Cs w A0 (rowW xs0)) (hb0 : xs0.length ≤ 9223372036854775807) :
    Calls Tryd.prog 17 [.slice A0 xs0.length c0].toArray w fun e w' => e = .returned (.bool true) ∧ WS w [] [] w' := by
  refine calls_of_T [] 129 [] Tryd.func17 rfl Tryd.ntmps17 (by simp) (WS.refl _ _) ?_
  refine T.seq ?_
  refine T.text [.l] rfl ?_
  refine J.assign rfl rfl ?_
  refine J.end ?_
  refine X.then ?_
  refine T.seq ?_
  refine T.seq ?_
  refine T.text [.l, .l, .l] rfl ?_
  refine J.move rfl rfl ?_
  refine J.lenSl Tryd.underlying35 rfl rfl ?_
  refine J.gtr rfl rfl rfl rfl ?_
  refine J.end ?_
  refine X.then ?_
  refine T.cond_dec rfl (fun h1 => ?_) (fun h1 => ?_)
  · skip
    refine T.seq ?_
    refine T.text [.l] rfl ?_
    refine J.assign rfl rfl ?_
    refine J.end ?_
    refine X.then ?_
    refine T.ret ?_
    refine X.then_ret ?_
    exact X.ret1 rfl (RV.tmp rfl) (fun w' hw' => ⟨rfl, hw'.sub (Sub.nil _)⟩)
  · have hle : xs0.length ≤ 1048576 := by omega
    refine T.skip ?_
    refine X.then ?_
    refine T.seq ?_
    refine T.text [.l, .l, .l, .l] rfl ?_
    refine J.buildSlice 20 rfl (e := 24) rfl rfl [] (fun w => by kernel_rfl) (fun g20 hg20 => ?_)
    refine J.move rfl rfl ?_
    refine J.append (i := ⟨some g20, 0, []⟩) (cs := []) 20 rfl Tryd.underlying35 el24 rfl (RowIx.blk_ok' g20 0 4 (Nat.zero_le _)) rfl rfl rfl (by rw [rowW_length]) (fun w hw => hc0.ws hw (off_nil _)) (rowW_one _) (by omega) (by unfold maxLen; omega) rfl xs0.length (Nat.zero_add _) (rowW xs0) (List.nil_append _) (fun r22 hr22 => ?_)
    refine J.assign rfl rfl ?_
    refine J.end ?_
    refine X.mv 20 3 rfl ?_
    refine X.then ?_
    refine T.seq ?_
    refine T.seq ?_
    refine T.text [.l] rfl ?_
    refine J.assign rfl rfl ?_
    refine J.end ?_
    refine X.then ?_
    refine T.block ?_
    refine T.loop (ι := Nat × RowIx) (fun ((i, r) : Nat × RowIx) => i ≤ 9 ∧ r.Ok 4 (tailW xs0 i).length) (fun ((i, r) : Nat × RowIx) => [(0, .slice A0 xs0.length c0), (2, .bool false), (17, .slice A0 xs0.length c0), (18, .int .i64 ((xs0.length : Nat) : Int)), (3, r.val (tailW xs0 i).length), (4, .int .i64 (i : Int))]) (fun ((i, r) : Nat × RowIx) => [(3, r.ent 24 (rowW (tailW xs0 i)))]) (fun ((i, r) : Nat × RowIx) => 9 - i) ⟨0, r22⟩ ⟨Nat.zero_le _, by rw [tailW_zero]; exact hr22⟩ (by repeat (first | exact Sub.nil _ | refine Sub.cons (by first | rfl | (rw [tailW_zero]; rfl)| (rw [dgs_zero]; rfl) | (rw [List.drop_length]; rfl) | (simp; done) | (congr 2; omega) | (congr 3; omega)) ?_)) (by repeat (first | exact Sub.nil _ | refine Sub.cons (by first | rfl | (rw [tailW_zero]; rfl)| (rw [dgs_zero]; rfl) | (rw [List.drop_length]; rfl) | (simp; done) | (congr 2; omega) | (congr 3; omega)) ?_)) ?_
    rintro ⟨i, r⟩ ⟨hi, hr⟩
    try dsimp only at *
    have htl := tailW_length xs0 i
    have htm := tailW_length xs0 (i + 1)
    refine T.seq ?_
    refine T.seq ?_
    refine T.text [.l, .l] rfl ?_
    refine J.move rfl rfl ?_
    refine J.lss rfl rfl rfl rfl ?_
    refine J.end ?_
    refine X.then ?_
    refine T.cond_dec rfl (fun h2 => ?_) (fun h2 => ?_)
    · skip
      refine T.skip ?_
      refine X.then ?_
      refine T.seq ?_
      refine T.block ?_
      refine T.text [.l, .l, .l, .l, .l, .l, .l] rfl ?_
      refine J.move rfl rfl ?_
      refine J.move rfl rfl ?_
      refine J.conv (by rw [Tryd.underlying3]; rfl) Tryd.underlying22 rfl rfl (by first | exact wrapu_nat' _ (by omega) | exact wrapu_nat _ | exact u64_wrap _) ?_
      refine J.build rfl rfl (.agg ([.int .u64 ((77 : Nat) : Int), .int .u64 ((0 : Nat) : Int), .int .u64 ((0 : Nat) : Int), .int .u64 ((i : Nat) : Int)] : List Value).toArray) (fun w => by kernel_rfl) ?_
      refine J.as 30 (W (wval (77) (0) (0) (i))) rfl (W_wval (by first | omega | (refine ⟨?_, ?_, ?_, ?_⟩ <;> omega))) ?_
      refine J.lit1 31 rfl Tryd.underlying35 el24 (by decide) rfl (wc (wval (77) (0) (0) (i))) rfl rfl rfl (fun g31 hg31 => ?_)
      refine J.append 3 rfl Tryd.underlying35 el24 rfl hr (by rw [rowW_length]) rfl rfl rfl (fun w hw => (hw.blkCs (k := 31) rfl)) (rowN_one _ _) (by omega) (by unfold maxLen; omega) rfl (tailW xs0 (i + 1)).length (by rw [htl, htm]; omega) (rowW (tailW xs0 (i + 1))) (by rw [tailW_succ, rowW_append, rowW_one']) (fun r32 hr32 => ?_)
      refine J.assign rfl rfl ?_
      refine J.end ?_
      refine X.inBlock (X.then ?_)
      refine T.text [.l, .l, .l] rfl ?_
      refine J.move rfl rfl ?_
      refine J.add rfl rfl rfl (by first | exact add_nat _ 1 (by omega) | exact i64_ok _ (by omega) | exact rfl) ?_
      refine J.assign rfl rfl ?_
      refine J.end ?_
      exact X.round ⟨(i + 1), r32⟩ ⟨by omega, hr32⟩ (by first | omega | (dsimp only; omega)) (by repeat (first | exact Sub.nil _ | refine Sub.cons (by first | rfl | (rw [tailW_zero]; rfl)| (rw [dgs_zero]; rfl) | (rw [List.drop_length]; rfl) | (simp; done) | (congr 2; omega) | (congr 3; omega)) ?_)) (by repeat (first | exact Sub.nil _ | refine Sub.cons (by first | rfl | (rw [tailW_zero]; rfl)| (rw [dgs_zero]; rfl) | (rw [List.drop_length]; rfl) | (simp; done) | (congr 2; omega) | (congr 3; omega)) ?_))
    · obtain rfl : i = 9 := by omega
      refine T.exit ?_
      refine X.then_exit (X.then_exit (X.inBlock_eq (X.then ?_)))
      refine T.seq ?_
      refine T.text [.l, .l, .l, .l, .l, .l, .l, .l, .l, .l, .l] rfl ?_
      refine J.move rfl rfl ?_
      refine J.move rfl rfl ?_
      refine J.lenSl Tryd.underlying35 rfl rfl ?_
      refine J.sliceSl sl35 rfl optInt.none (optInt.some rfl (by omega) (by first | exact Int.toNat_natCast _ | rfl)) optInt.none (by simp) (by omega) (by have := hr.le; omega) (by omega) rfl (slice_front _ _ _ _) ?_
      refine J.as 37 (.slice (hdOf r.id) (xs0).length r.cap) rfl (by first | rfl | (congr 1; rw [List.length_take]; omega)) ?_
      refine J.call0 (k := .l) trivial fok86 rfl rfl (fun w hw => Wa.Sum w _ _ xs0 (by have h := cs_takeW (hw.rowCs (k := 3) rfl) xs0.length; rw [tailW_take] at h; exact h) (by omega)) ?_
      refine J.move rfl rfl ?_
      refine J.extract rfl rfl rfl ?_
      refine J.extract rfl rfl rfl ?_
      refine J.alloc 5 rfl zero24 [.int .u64 0, .int .u64 0, .int .u64 0, .int .u64 0] rfl rfl (fun g5 hg5 => ?_)
      refine J.store 5 rfl rfl rfl rfl (wc (if sumN xs0 < 2 ^ 256 then sumN xs0 else 0)) rfl sz24 (by first | decide | exact Nat.le_refl _ | exact Nat.le_of_ble_eq_true rfl | (simp [rowN]; done) | (simp [rowN]; omega)) (by first | exact rowN_one _ _ | (simp; done) | (intro u hu; simp at hu; subst hu; rfl) | (intro u hu; simp at hu; rcases hu with rfl | rfl <;> rfl)) (by first | decide | exact Nat.zero_lt_succ _ | simp) trivial (wc (if sumN xs0 < 2 ^ 256 then sumN xs0 else 0)) rfl ?_
      refine J.assign rfl rfl ?_
      refine J.end ?_
      refine X.then ?_
      refine T.seq ?_
      refine T.text [.l, .l, .l, .l, .l, .l, .l, .l] rfl ?_
      refine J.move rfl rfl ?_
      refine J.call0 (k := .l) trivial fok87 rfl rfl (fun w hw => Rb.Sum w _ _ xs0 (hc0.ws hw (off_nil _)) (by omega)) ?_
      refine J.move rfl rfl ?_
      refine J.extract rfl rfl rfl ?_
      refine J.extract rfl rfl rfl ?_
      refine J.alloc 7 rfl zero24 [.int .u64 0, .int .u64 0, .int .u64 0, .int .u64 0] rfl rfl (fun g7 hg7 => ?_)
      refine J.store 7 rfl rfl rfl rfl (wc (if sumN xs0 < 2 ^ 256 then sumN xs0 else 0)) rfl sz24 (by first | decide | exact Nat.le_refl _ | exact Nat.le_of_ble_eq_true rfl | (simp [rowN]; done) | (simp [rowN]; omega)) (by first | exact rowN_one _ _ | (simp; done) | (intro u hu; simp at hu; subst hu; rfl) | (intro u hu; simp at hu; rcases hu with rfl | rfl <;> rfl)) (by first | decide | exact Nat.zero_lt_succ _ | simp) trivial (wc (if sumN xs0 < 2 ^ 256 then sumN xs0 else 0)) rfl ?_
      refine J.assign rfl rfl ?_
      refine J.end ?_
      refine X.then ?_
      refine T.seq ?_
      refine T.seq ?_
      refine T.text [.l, .l, .l, .l, .l, .l, .l, .l, .l, .l, .l, .l] rfl ?_
      refine J.loadN (k := .l) trivial 5 rfl rfl agg24 (wc (if sumN xs0 < 2 ^ 256 then sumN xs0 else 0)) rfl rfl rfl ?_
      refine J.loadN (k := .l) trivial 7 rfl rfl agg24 (wc (if sumN xs0 < 2 ^ 256 then sumN xs0 else 0)) rfl rfl rfl ?_
      refine J.neqW eqw24 rfl rfl rfl ?_
      refine J.as 48 (.bool false) rfl (by rw [decide_eq_false (by refine not_not_intro ?_; rfl)]) ?_
      refine J.move rfl rfl ?_
      refine J.yes rfl rfl ?_
      refine J.move rfl rfl ?_
      refine J.yes rfl rfl ?_
      refine J.move rfl rfl ?_
      refine J.yes rfl rfl ?_
      refine J.neqB Tryd.underlying4 rfl rfl rfl (by exact neqB_same (by exact Iff.rfl)) ?_
      refine J.pick_f rfl rfl rfl ?_
      refine J.move rfl rfl ?_
      refine J.yes rfl rfl ?_
      refine J.call0 (k := .l) trivial fok33 rfl rfl (fun w hw => Wk.awake w) ?_
      refine J.yes rfl rfl ?_
      refine J.not rfl rfl rfl ?_
      refine J.pick_f rfl rfl rfl ?_
      refine J.end ?_
      refine X.then ?_
      refine T.cond_false rfl ?_
      refine T.skip ?_
      refine X.then ?_
      refine T.seq ?_
      refine T.seq ?_
      refine T.text [.l] rfl ?_
      refine J.assign rfl rfl ?_
      refine J.end ?_
      refine X.then ?_
      refine T.block ?_
      refine T.loop (ι := Nat) (fun (k : Nat) => k ≤ xs0.length + 9) (fun (k : Nat) => [(0, .slice A0 xs0.length c0), (17, .slice A0 xs0.length c0), (18, .int .i64 ((xs0.length : Nat) : Int)), (3, r.val (tailW xs0 9).length), (4, .int .i64 (9 : Int)), (23, .int .i64 (9 : Int)), (34, r.val (tailW xs0 9).length), (35, .slice A0 xs0.length c0), (36, .int .i64 ((xs0.length : Nat) : Int)), (37, .slice (hdOf r.id) (xs0).length r.cap), (39, W (if sumN xs0 < 2 ^ 256 then sumN xs0 else 0)), (40, .bool (decide (sumN xs0 < 2 ^ 256))), (5, .pointer (some ⟨g5, 0, none⟩)), (6, .bool (decide (sumN xs0 < 2 ^ 256))), (42, .slice A0 xs0.length c0), (44, W (if sumN xs0 < 2 ^ 256 then sumN xs0 else 0)), (45, .bool (decide (sumN xs0 < 2 ^ 256))), (7, .pointer (some ⟨g7, 0, none⟩)), (8, .bool (decide (sumN xs0 < 2 ^ 256))), (46, W (if sumN xs0 < 2 ^ 256 then sumN xs0 else 0)), (47, W (if sumN xs0 < 2 ^ 256 then sumN xs0 else 0)), (48, .bool false), (49, .bool false), (50, .bool (decide (sumN xs0 < 2 ^ 256))), (51, .bool (decide (sumN xs0 < 2 ^ 256))), (52, .bool false), (53, .bool false), (54, .bool false), (55, .bool true), (56, .bool false), (57, .bool false), (9, .int .i64 (k : Int))]) (fun (k : Nat) => [(3, r.ent 24 (rowW (tailW xs0 9))), (5, ⟨some g5, 24, (wc (if sumN xs0 < 2 ^ 256 then sumN xs0 else 0))⟩), (7, ⟨some g7, 24, (wc (if sumN xs0 < 2 ^ 256 then sumN xs0 else 0))⟩)]) (fun (k : Nat) => xs0.length + 9 - k) 0 (Nat.zero_le _) (by repeat (first | exact Sub.nil _ | refine Sub.cons (by first | rfl | (rw [tailW_zero]; rfl)| (rw [dgs_zero]; rfl) | (rw [List.drop_length]; rfl) | (simp; done) | (congr 2; omega) | (congr 3; omega)) ?_)) (by repeat (first | exact Sub.nil _ | refine Sub.cons (by first | rfl | (rw [tailW_zero]; rfl)| (rw [dgs_zero]; rfl) | (rw [List.drop_length]; rfl) | (simp; done) | (congr 2; omega) | (congr 3; omega)) ?_)) ?_
      rintro k hk
      refine T.seq ?_
      refine T.seq ?_
      refine T.text [.l, .l, .l, .l] rfl ?_
      refine J.move rfl rfl ?_
      refine J.move rfl rfl ?_
      refine J.lenSl Tryd.underlying35 rfl rfl ?_
      refine J.lss rfl rfl rfl rfl ?_
      refine J.end ?_
      refine X.then ?_
      refine T.cond_dec rfl (fun h3 => ?_) (fun h3 => ?_)
      · have hk9 : k < xs0.length + 9 := by omega
        refine T.skip ?_
        refine X.then ?_
        refine T.seq ?_
        refine T.block ?_
        refine T.seq ?_
        refine T.text [.l, .l, .l, .l, .l, .l, .l, .l] rfl ?_
        refine J.move rfl rfl ?_
        refine J.move rfl rfl ?_
        refine J.lenSl Tryd.underlying35 rfl rfl ?_
        refine J.sub' rfl rfl rfl (by exact i64_ok _ (by omega)) ?_
        refine J.conv (by rw [Tryd.underlying3]; rfl) Tryd.underlying22 rfl rfl (by exact u64_wrap _) ?_
        refine J.as 68 (.int .u64 ((((k + 18446744073709551616 - xs0.length) % 18446744073709551616) : Nat) : Int)) rfl (by congr 1; omega) ?_
        refine J.build rfl rfl (.agg ([.int .u64 ((77 : Nat) : Int), .int .u64 ((0 : Nat) : Int), .int .u64 ((0 : Nat) : Int), .int .u64 ((((k + 18446744073709551616 - xs0.length) % 18446744073709551616) : Nat) : Int)] : List Value).toArray) (fun w => by kernel_rfl) ?_
        refine J.as 69 (W (wval (77) (0) (0) (((k + 18446744073709551616 - xs0.length) % 18446744073709551616)))) rfl (W_wval (by first | omega | (refine ⟨?_, ?_, ?_, ?_⟩ <;> omega))) ?_
        refine J.alloc 10 rfl zero24 [.int .u64 0, .int .u64 0, .int .u64 0, .int .u64 0] rfl rfl (fun g10 hg10 => ?_)
        refine J.store 10 rfl rfl rfl rfl (wc (wval (77) (0) (0) (((k + 18446744073709551616 - xs0.length) % 18446744073709551616)))) rfl sz24 (by first | decide | exact Nat.le_refl _ | exact Nat.le_of_ble_eq_true rfl | (simp [rowN]; done) | (simp [rowN]; omega)) (by first | exact rowN_one _ _ | (simp; done) | (intro u hu; simp at hu; subst hu; rfl) | (intro u hu; simp at hu; rcases hu with rfl | rfl <;> rfl)) (by first | decide | exact Nat.zero_lt_succ _ | simp) trivial (wc (wval (77) (0) (0) (((k + 18446744073709551616 - xs0.length) % 18446744073709551616)))) rfl ?_
        refine J.end ?_
        refine X.then ?_
        refine T.seq ?_
        refine T.seq ?_
        refine T.text [.l, .l, .l, .l] rfl ?_
        refine J.move rfl rfl ?_
        refine J.move rfl rfl ?_
        refine J.lenSl Tryd.underlying35 rfl rfl ?_
        refine J.lss rfl rfl rfl rfl ?_
        refine J.end ?_
        refine X.then ?_
        refine T.cond_dec rfl (fun h4 => ?_) (fun h4 => ?_)
        · skip
          refine T.text [.l, .l, .l, .l, .l] rfl ?_
          refine J.move rfl rfl ?_
          refine J.move rfl rfl ?_
          refine J.indexSlI sl35 rfl (Cs.isSomeW hc0 (by omega)) rfl (by omega) (by omega) (by first | exact Int.toNat_natCast _ | rfl) rfl ?_
          refine J.loadIW (k := .l) trivial hc0 (off_nil _) rfl agg24 (by first | rfl | with_reducible exact rowW_seg0 _ _ _ (by omega) | with_reducible exact rowW_seg00 _ _ (by omega) | with_reducible exact rowW_segs _ _ _ (by omega) | with_reducible exact rowW_seg _ _ (by omega) | with_reducible exact rowW_segb _ _ _ (by omega) | exact rowW_seg _ _ (by omega) | exact rowW_segs _ _ _ (by omega)) rfl ?_
          refine J.store 10 rfl rfl rfl rfl (wc (xs0.getD k 0)) rfl sz24 (by first | decide | exact Nat.le_refl _ | exact Nat.le_of_ble_eq_true rfl | (simp [rowN]; done) | (simp [rowN]; omega)) (by first | exact rowN_one _ _ | (simp; done) | (intro u hu; simp at hu; subst hu; rfl) | (intro u hu; simp at hu; rcases hu with rfl | rfl <;> rfl)) (by first | decide | exact Nat.zero_lt_succ _ | simp) trivial (wc (xs0.getD k 0)) rfl ?_
          refine J.end ?_
          refine X.then ?_
          refine T.seq ?_
          refine T.draw [] [(0, .g), (1, .g), (2, .g), (3, .q), (4, .q), (5, .g)] (by kernel_rfl) (by kernel_rfl) ?_ (by repeat (first | exact Sub.nil _ | refine Sub.cons (by first | rfl | (rw [tailW_zero]; rfl)| (rw [dgs_zero]; rfl) | (rw [List.drop_length]; rfl) | (simp; done) | (congr 2; omega) | (congr 3; omega)) ?_))
          refine J.move rfl rfl ?_
          refine J.move rfl rfl ?_
          refine J.indexRow sl35 rfl (hr.some (by omega)) rfl (by omega) (by omega) (by first | exact Int.toNat_natCast _ | rfl) rfl ?_
          refine J.loadW (k := .q) trivial 3 rfl rfl agg24 (by first | rfl | with_reducible exact rowW_seg0 _ _ _ (by omega) | with_reducible exact rowW_seg00 _ _ (by omega) | with_reducible exact rowW_segs _ _ _ (by omega) | with_reducible exact rowW_seg _ _ (by omega) | with_reducible exact rowW_segb _ _ _ (by omega) | exact rowW_seg _ _ (by omega) | exact rowW_segs _ _ _ (by omega)) rfl ?_
          refine J.loadN (k := .q) trivial 10 rfl rfl agg24 (wc (xs0.getD k 0)) rfl rfl rfl ?_
          refine J.neqW eqw24 rfl rfl rfl ?_
          refine J.as 83 (.bool false) rfl (by rw [decide_eq_false (by refine not_not_intro ?_; first | rw [tailW_low _ _ _ (by omega)] | rw [tailW_high _ _ _ (by omega) (by omega), show ((k + 18446744073709551616 - xs0.length) % 18446744073709551616) = k - xs0.length by omega])]) ?_
          refine J.end ?_
          refine X.then ?_
          refine T.cond_false rfl ?_
          refine T.skip ?_
          refine X.inBlock (X.then ?_)
          refine T.text [.l, .l, .l] rfl ?_
          refine J.move rfl rfl ?_
          refine J.add rfl rfl rfl (by first | exact add_nat _ 1 (by omega) | exact i64_ok _ (by omega) | exact rfl) ?_
          refine J.assign rfl rfl ?_
          refine J.end ?_
          exact X.round (k + 1) (by omega) (by first | omega | (dsimp only; omega)) (by repeat (first | exact Sub.nil _ | refine Sub.cons (by first | rfl | (rw [tailW_zero]; rfl)| (rw [dgs_zero]; rfl) | (rw [List.drop_length]; rfl) | (simp; done) | (congr 2; omega) | (congr 3; omega)) ?_)) (by repeat (first | exact Sub.nil _ | refine Sub.cons (by first | rfl | (rw [tailW_zero]; rfl)| (rw [dgs_zero]; rfl) | (rw [List.drop_length]; rfl) | (simp; done) | (congr 2; omega) | (congr 3; omega)) ?_))
        · skip
          refine T.skip ?_
          refine X.then ?_
          refine T.seq ?_
          refine T.draw [] [(0, .g), (1, .g), (2, .g), (3, .q), (4, .q), (5, .g)] (by kernel_rfl) (by kernel_rfl) ?_ (by repeat (first | exact Sub.nil _ | refine Sub.cons (by first | rfl | (rw [tailW_zero]; rfl)| (rw [dgs_zero]; rfl) | (rw [List.drop_length]; rfl) | (simp; done) | (congr 2; omega) | (congr 3; omega)) ?_))
          refine J.move rfl rfl ?_
          refine J.move rfl rfl ?_
          refine J.indexRow sl35 rfl (hr.some (by omega)) rfl (by omega) (by omega) (by first | exact Int.toNat_natCast _ | rfl) rfl ?_
          refine J.loadW (k := .q) trivial 3 rfl rfl agg24 (by first | rfl | with_reducible exact rowW_seg0 _ _ _ (by omega) | with_reducible exact rowW_seg00 _ _ (by omega) | with_reducible exact rowW_segs _ _ _ (by omega) | with_reducible exact rowW_seg _ _ (by omega) | with_reducible exact rowW_segb _ _ _ (by omega) | exact rowW_seg _ _ (by omega) | exact rowW_segs _ _ _ (by omega)) rfl ?_
          refine J.loadN (k := .q) trivial 10 rfl rfl agg24 (wc (wval (77) (0) (0) (((k + 18446744073709551616 - xs0.length) % 18446744073709551616)))) rfl rfl rfl ?_
          refine J.neqW eqw24 rfl rfl rfl ?_
          refine J.as 83 (.bool false) rfl (by rw [decide_eq_false (by refine not_not_intro ?_; first | rw [tailW_low _ _ _ (by omega)] | rw [tailW_high _ _ _ (by omega) (by omega), show ((k + 18446744073709551616 - xs0.length) % 18446744073709551616) = k - xs0.length by omega])]) ?_
          refine J.end ?_
          refine X.then ?_
          refine T.cond_false rfl ?_
          refine T.skip ?_
          refine X.inBlock (X.then ?_)
          refine T.text [.l, .l, .l] rfl ?_
          refine J.move rfl rfl ?_
          refine J.add rfl rfl rfl (by first | exact add_nat _ 1 (by omega) | exact i64_ok _ (by omega) | exact rfl) ?_
          refine J.assign rfl rfl ?_
          refine J.end ?_
          exact X.round (k + 1) (by omega) (by first | omega | (dsimp only; omega)) (by repeat (first | exact Sub.nil _ | refine Sub.cons (by first | rfl | (rw [tailW_zero]; rfl)| (rw [dgs_zero]; rfl) | (rw [List.drop_length]; rfl) | (simp; done) | (congr 2; omega) | (congr 3; omega)) ?_)) (by repeat (first | exact Sub.nil _ | refine Sub.cons (by first | rfl | (rw [tailW_zero]; rfl)| (rw [dgs_zero]; rfl) | (rw [List.drop_length]; rfl) | (simp; done) | (congr 2; omega) | (congr 3; omega)) ?_))
      · obtain rfl : k = xs0.length + 9 := by omega
        refine T.exit ?_
        refine X.then_exit (X.then_exit (X.inBlock_eq (X.then ?_)))
        refine T.seq ?_
        refine T.seq ?_
        refine T.text [.l] rfl ?_
        refine J.assign rfl rfl ?_
        refine J.end ?_
        refine X.then ?_
        refine T.block ?_
        refine T.loop (ι := Nat × List Nat) (fun ((i, ys) : Nat × List Nat) => i ≤ xs0.length ∧ ys.length = xs0.length + 9) (fun ((i, ys) : Nat × List Nat) => [(0, .slice A0 xs0.length c0), (17, .slice A0 xs0.length c0), (18, .int .i64 ((xs0.length : Nat) : Int)), (3, r.val ys.length), (4, .int .i64 (9 : Int)), (23, .int .i64 (9 : Int)), (34, r.val (tailW xs0 9).length), (35, .slice A0 xs0.length c0), (36, .int .i64 ((xs0.length : Nat) : Int)), (37, .slice (hdOf r.id) (xs0).length r.cap), (39, W (if sumN xs0 < 2 ^ 256 then sumN xs0 else 0)), (40, .bool (decide (sumN xs0 < 2 ^ 256))), (5, .pointer (some ⟨g5, 0, none⟩)), (6, .bool (decide (sumN xs0 < 2 ^ 256))), (42, .slice A0 xs0.length c0), (44, W (if sumN xs0 < 2 ^ 256 then sumN xs0 else 0)), (45, .bool (decide (sumN xs0 < 2 ^ 256))), (7, .pointer (some ⟨g7, 0, none⟩)), (8, .bool (decide (sumN xs0 < 2 ^ 256))), (46, W (if sumN xs0 < 2 ^ 256 then sumN xs0 else 0)), (47, W (if sumN xs0 < 2 ^ 256 then sumN xs0 else 0)), (48, .bool false), (49, .bool false), (50, .bool (decide (sumN xs0 < 2 ^ 256))), (51, .bool (decide (sumN xs0 < 2 ^ 256))), (52, .bool false), (53, .bool false), (54, .bool false), (55, .bool true), (56, .bool false), (57, .bool false), (9, .int .i64 ((xs0.length + 9) : Int)), (58, .int .i64 ((xs0.length + 9) : Int)), (59, r.val (tailW xs0 9).length), (60, .int .i64 (((tailW xs0 9).length : Nat) : Int)), (11, .int .i64 (i : Int))]) (fun ((i, ys) : Nat × List Nat) => [(5, ⟨some g5, 24, (wc (if sumN xs0 < 2 ^ 256 then sumN xs0 else 0))⟩), (7, ⟨some g7, 24, (wc (if sumN xs0 < 2 ^ 256 then sumN xs0 else 0))⟩), (3, r.ent 24 (rowW ys))]) (fun ((i, ys) : Nat × List Nat) => xs0.length - i) ⟨0, (tailW xs0 9)⟩ ⟨Nat.zero_le _, htl⟩ (by repeat (first | exact Sub.nil _ | refine Sub.cons (by first | rfl | (rw [tailW_zero]; rfl)| (rw [dgs_zero]; rfl) | (rw [List.drop_length]; rfl) | (simp; done) | (congr 2; omega) | (congr 3; omega)) ?_)) (by repeat (first | exact Sub.nil _ | refine Sub.cons (by first | rfl | (rw [tailW_zero]; rfl)| (rw [dgs_zero]; rfl) | (rw [List.drop_length]; rfl) | (simp; done) | (congr 2; omega) | (congr 3; omega)) ?_)) ?_
        rintro ⟨i, ys⟩ ⟨hi, hyl⟩
        try dsimp only at *
        refine T.seq ?_
        refine T.seq ?_
        refine T.text [.l, .l, .l, .l] rfl ?_
        refine J.move rfl rfl ?_
        refine J.move rfl rfl ?_
        refine J.lenSl Tryd.underlying35 rfl rfl ?_
        refine J.lss rfl rfl rfl rfl ?_
        refine J.end ?_
        refine X.then ?_
        refine T.cond_dec rfl (fun h5 => ?_) (fun h5 => ?_)
        · skip
          refine T.skip ?_
          refine X.then ?_
          refine T.seq ?_
          refine T.block ?_
          refine T.text [.l, .l, .l, .l, .l, .l, .l, .l, .l, .l, .l, .l, .l] rfl ?_
          refine J.move rfl rfl ?_
          refine J.move rfl rfl ?_
          refine J.move rfl rfl ?_
          refine J.move rfl rfl ?_
          refine J.lenSl Tryd.underlying35 rfl rfl ?_
          refine J.sub' rfl rfl rfl (by exact sub_nat _ 1 (by omega)) ?_
          refine J.move rfl rfl ?_
          refine J.sub' rfl rfl rfl (by exact sub_nat _ _ (by omega)) ?_
          refine J.indexSlI sl35 rfl (Cs.isSomeW hc0 (by omega)) rfl (by omega) (by omega) (by first | exact Int.toNat_natCast _ | rfl) rfl ?_
          refine J.loadIW (k := .l) trivial hc0 (off_nil _) rfl agg24 (by first | rfl | with_reducible exact rowW_seg0 _ _ _ (by omega) | with_reducible exact rowW_seg00 _ _ (by omega) | with_reducible exact rowW_segs _ _ _ (by omega) | with_reducible exact rowW_seg _ _ (by omega) | with_reducible exact rowW_segb _ _ _ (by omega) | exact rowW_seg _ _ (by omega) | exact rowW_segs _ _ _ (by omega)) rfl ?_
          refine J.call0 (k := .l) trivial fok61 rfl rfl (fun w hw => We.Not w _) ?_
          refine J.indexRow sl35 rfl (hr.some (by omega)) rfl (by omega) (by omega) (by first | exact Int.toNat_natCast _ | rfl) rfl ?_
          refine J.store 3 rfl rfl rfl rfl (wc (notN (xs0.getD (xs0.length - 1 - i) 0))) rfl sz24 (by show _ ≤ (rowW ys ++ r.sp).length; rw [List.length_append, rowW_length, wc_length]; omega) (by first | exact rowN_one _ _ | (simp; done) | (intro u hu; simp at hu; subst hu; rfl) | (intro u hu; simp at hu; rcases hu with rfl | rfl <;> rfl)) (by first | decide | exact Nat.zero_lt_succ _ | simp) trivial (rowW (ys.set i (notN (xs0.getD (xs0.length - 1 - i) 0))) ++ r.sp) (by exact putW _ _ _ _ (by omega)) ?_
          refine J.end ?_
          refine X.inBlock (X.then ?_)
          refine T.text [.l, .l, .l] rfl ?_
          refine J.move rfl rfl ?_
          refine J.add rfl rfl rfl (by first | exact add_nat _ 1 (by omega) | exact i64_ok _ (by omega) | exact rfl) ?_
          refine J.assign rfl rfl ?_
          refine J.end ?_
          exact X.round ⟨(i + 1), (ys.set i (notN (xs0.getD (xs0.length - 1 - i) 0)))⟩ ⟨by omega, by simp [hyl]⟩ (by first | omega | (dsimp only; omega)) (by repeat (first | exact Sub.nil _ | refine Sub.cons (by first | rfl | (simp only [List.length_set]; rfl)) ?_)) (by repeat (first | exact Sub.nil _ | refine Sub.cons (by first | rfl | (rw [tailW_zero]; rfl)| (rw [dgs_zero]; rfl) | (rw [List.drop_length]; rfl) | (simp; done) | (congr 2; omega) | (congr 3; omega)) ?_))
        · obtain rfl : i = xs0.length := by omega
          have hyt : (ys.take xs0.length).length = xs0.length := by rw [List.length_take]; omega
          have hr2 : r.Ok 4 ys.length := by rw [hyl, ← htl]; exact hr
          refine T.exit ?_
          refine X.then_exit (X.then_exit (X.inBlock_eq (X.then ?_)))
          refine T.seq ?_
          refine T.text [.l, .l, .l, .l, .l, .l, .l] rfl ?_
          refine J.buildSlice 102 rfl (e := 24) rfl rfl [] (fun w => by kernel_rfl) (fun g102 hg102 => ?_)
          refine J.move rfl rfl ?_
          refine J.move rfl rfl ?_
          refine J.lenSl Tryd.underlying35 rfl rfl ?_
          refine J.sliceSl sl35 rfl optInt.none (optInt.some rfl (by omega) (by first | exact Int.toNat_natCast _ | rfl)) optInt.none (by simp) (by omega) (by have := hr2.le; omega) (by omega) rfl (slice_front _ _ _ _) ?_
          refine J.as 106 (.slice (hdOf r.id) ((ys.take xs0.length)).length r.cap) rfl (by first | rfl | (congr 1; rw [List.length_take]; omega)) ?_
          refine J.append (i := ⟨some g102, 0, []⟩) (cs := []) 102 rfl Tryd.underlying35 el24 rfl (RowIx.blk_ok' g102 0 4 (Nat.zero_le _)) rfl rfl rfl (by rw [rowW_length]) (fun w hw => cs_takeW (hw.rowCs (k := 3) rfl) _) (rowW_one _) (by omega) (by unfold maxLen; omega) rfl (ys.take xs0.length).length (Nat.zero_add _) (rowW (ys.take xs0.length)) (List.nil_append _) (fun r107 hr107 => ?_)
          refine J.assign rfl rfl ?_
          refine J.end ?_
          refine X.then ?_
          refine T.seq ?_
          refine T.text [.l, .l, .l, .l, .l, .l, .l, .l, .l, .l, .l] rfl ?_
          refine J.move rfl rfl ?_
          refine J.move rfl rfl ?_
          refine J.lenSl Tryd.underlying35 rfl rfl ?_
          refine J.sliceSl sl35 rfl optInt.none (optInt.some rfl (by omega) (by first | exact Int.toNat_natCast _ | rfl)) optInt.none (by simp) (by omega) (by have := hr2.le; omega) (by omega) rfl (slice_front _ _ _ _) ?_
          refine J.as 112 (.slice (hdOf r.id) ((ys.take xs0.length)).length r.cap) rfl (by first | rfl | (congr 1; rw [List.length_take]; omega)) ?_
          refine J.call0 (k := .l) trivial fok86 rfl rfl (fun w hw => Wa.Sum w _ _ (ys.take xs0.length) (cs_takeW (hw.rowCs (k := 3) rfl) _) (by omega)) ?_
          refine J.move rfl rfl ?_
          refine J.extract rfl rfl rfl ?_
          refine J.extract rfl rfl rfl ?_
          refine J.alloc 13 rfl zero24 [.int .u64 0, .int .u64 0, .int .u64 0, .int .u64 0] rfl rfl (fun g13 hg13 => ?_)
          refine J.store 13 rfl rfl rfl rfl (wc (if sumN (ys.take xs0.length) < 2 ^ 256 then sumN (ys.take xs0.length) else 0)) rfl sz24 (by first | decide | exact Nat.le_refl _ | exact Nat.le_of_ble_eq_true rfl | (simp [rowN]; done) | (simp [rowN]; omega)) (by first | exact rowN_one _ _ | (simp; done) | (intro u hu; simp at hu; subst hu; rfl) | (intro u hu; simp at hu; rcases hu with rfl | rfl <;> rfl)) (by first | decide | exact Nat.zero_lt_succ _ | simp) trivial (wc (if sumN (ys.take xs0.length) < 2 ^ 256 then sumN (ys.take xs0.length) else 0)) rfl ?_
          refine J.assign rfl rfl ?_
          refine J.end ?_
          refine X.then ?_
          refine T.seq ?_
          refine T.text [.l, .l, .l, .l, .l, .l, .l, .l] rfl ?_
          refine J.move rfl rfl ?_
          refine J.call0 (k := .l) trivial fok87 rfl rfl (fun w hw => Rb.Sum w _ _ (ys.take xs0.length) (hw.rowCs (k := 102) rfl) (by omega)) ?_
          refine J.move rfl rfl ?_
          refine J.extract rfl rfl rfl ?_
          refine J.extract rfl rfl rfl ?_
          refine J.alloc 15 rfl zero24 [.int .u64 0, .int .u64 0, .int .u64 0, .int .u64 0] rfl rfl (fun g15 hg15 => ?_)
          refine J.store 15 rfl rfl rfl rfl (wc (if sumN (ys.take xs0.length) < 2 ^ 256 then sumN (ys.take xs0.length) else 0)) rfl sz24 (by first | decide | exact Nat.le_refl _ | exact Nat.le_of_ble_eq_true rfl | (simp [rowN]; done) | (simp [rowN]; omega)) (by first | exact rowN_one _ _ | (simp; done) | (intro u hu; simp at hu; subst hu; rfl) | (intro u hu; simp at hu; rcases hu with rfl | rfl <;> rfl)) (by first | decide | exact Nat.zero_lt_succ _ | simp) trivial (wc (if sumN (ys.take xs0.length) < 2 ^ 256 then sumN (ys.take xs0.length) else 0)) rfl ?_
          refine J.assign rfl rfl ?_
          refine J.end ?_
          refine X.then ?_
          refine T.seq ?_
          refine T.text [.l, .l, .l, .l, .l, .l, .l, .l, .l] rfl ?_
          refine J.loadN (k := .l) trivial 13 rfl rfl agg24 (wc (if sumN (ys.take xs0.length) < 2 ^ 256 then sumN (ys.take xs0.length) else 0)) rfl rfl rfl ?_
          refine J.loadN (k := .l) trivial 15 rfl rfl agg24 (wc (if sumN (ys.take xs0.length) < 2 ^ 256 then sumN (ys.take xs0.length) else 0)) rfl rfl rfl ?_
          refine J.eqW eqw24 rfl rfl rfl ?_
          refine J.as 123 (.bool true) rfl (by rw [decide_eq_true (by rfl)]) ?_
          refine J.move rfl rfl ?_
          refine J.yes rfl rfl ?_
          refine J.move rfl rfl ?_
          refine J.yes rfl rfl ?_
          refine J.move rfl rfl ?_
          refine J.yes rfl rfl ?_
          refine J.eqB Tryd.underlying4 rfl rfl rfl (by exact eqB_same (by exact Iff.rfl)) ?_
          refine J.pick_t rfl rfl rfl ?_
          refine J.assign rfl rfl ?_
          refine J.end ?_
          refine X.then ?_
          refine T.ret ?_
          exact X.ret1 rfl (RV.tmp rfl) (fun w' hw' => ⟨rfl, hw'.sub (Sub.nil _)⟩)
end Go.Proofs.YtegociefcfcihaaDoor.Lz
