/-
  Walks, printed by gen.py: what each function hands back, said of numbers.
  Conditions: those that each theorem bears.
-/
import Derived.Test.YtpkjbeebhdgleaaChecked
import Derived.Test.YtpkjbeebhdgleaaPg
import Derived.Test.YtpkjbeebhdgleaaFr
set_option linter.unusedVariables false
set_option maxRecDepth 20000
namespace Go.Proofs.Ytpkjbeebhdgleaa.Lh
open Go Go.Fw

theorem sz67 : SizeT Try.prog 67 32 := (by unfold SizeT; kernel_rfl)
theorem fok40 : FnOk Try.prog 40 := FnOk.mk' Try.func40 (by kernel_rfl) rfl
theorem fok41 : FnOk Try.prog 41 := FnOk.mk' Try.func41 (by kernel_rfl) rfl
theorem fok37 : FnOk Try.prog 37 := FnOk.mk' Try.func37 (by kernel_rfl) rfl
theorem agg25 : AggT Try.prog 25 4 := ⟨⟨_, Try.underlying25, rfl⟩, by kernel_rfl⟩
theorem fok50 : FnOk Try.prog 50 := FnOk.mk' Try.func50 (by kernel_rfl) rfl
theorem el25 : ElT Try.prog 25 4 32 (.agg ([.int .u64 0, .int .u64 0, .int .u64 0, .int .u64 0]).toArray) := ⟨by kernel_rfl, rfl, by decide, by decide⟩
theorem fok51 : FnOk Try.prog 51 := FnOk.mk' Try.func51 (by kernel_rfl) rfl
theorem zero25 : ZeroT Try.prog 25 (.agg ([.int .u64 0, .int .u64 0, .int .u64 0, .int .u64 0]).toArray) := (by unfold ZeroT; kernel_rfl)
theorem sz25 : SizeT Try.prog 25 4 := (by unfold SizeT; kernel_rfl)
theorem sz23 : SizeT Try.prog 23 1 := (by unfold SizeT; kernel_rfl)
theorem arr25 : ArrT Try.prog 25 4 23 1 := ⟨Try.underlying25, sz23⟩
theorem one23 : OneT Try.prog 23 := ⟨⟨_, Try.underlying23, rfl⟩, by kernel_rfl⟩
theorem eqw25 : EqT Try.prog 25 := ⟨⟨23, arr25, one23, Try.underlying23⟩, by kernel_rfl⟩
theorem fok39 : FnOk Try.prog 39 := FnOk.mk' Try.func39 (by kernel_rfl) rfl
theorem fok52 : FnOk Try.prog 52 := FnOk.mk' Try.func52 (by kernel_rfl) rfl

set_option maxRecDepth 100000 in
set_option maxHeartbeats 1000000 in
theorem MachReaches (w : World) (n0 : Int) (hn0 : -9223372036854775808 ≤ n0 ∧ n0 ≤ 9223372036854775807) (x y : Nat) :
    Calls Try.prog 11 [.int .i64 n0, W x, W y].toArray w fun e w' => e = .returned (.bool true) ∧ WS w [] [] w' := by
  refine calls_of_T [] 100 [] Try.func11 rfl Try.ntmps11 (by simp) (WS.refl _ _) ?_
  refine T.seq ?_
  refine T.text [.l, .l, .l] rfl ?_
  refine J.box 4 rfl rfl (wc x) rfl rfl (fun g4 hg4 => ?_)
  refine J.box 5 rfl rfl (wc y) rfl rfl (fun g5 hg5 => ?_)
  refine J.assign rfl rfl ?_
  refine J.end ?_
  refine X.then ?_
  refine T.seq ?_
  refine T.text [.l, .l] rfl ?_
  refine J.callNew 15 rfl (t := 99) (cs := [.slice none 0 0]) fok40 rfl rfl (fun w hw => Me.NewMemory w) (fun g15 hg15 => ?_)
  refine J.assign rfl rfl ?_
  refine J.end ?_
  refine X.addNil 16 5 ?_
  refine X.then ?_
  refine T.seq ?_
  refine T.seq ?_
  refine T.text [.l, .l] rfl ?_
  refine J.move rfl rfl ?_
  refine J.eqNil (by kernel_rfl) rfl rfl rfl rfl ?_
  refine J.end ?_
  refine X.then ?_
  refine T.cond_false rfl ?_
  refine T.skip ?_
  refine X.then ?_
  refine T.seq ?_
  refine T.text [.l, .l, .l, .l] rfl ?_
  refine J.move rfl rfl ?_
  refine J.move rfl rfl ?_
  refine J.band rfl rfl rfl (and65535 _) ?_
  obtain ⟨z, hz⟩ : ∃ z : Nat, n0 % 65536 = (z : Int) := ⟨(n0 % 65536).toNat, by omega⟩
  refine J.as 20 (.int .i64 (z : Int)) rfl (by rw [hz]) ?_
  refine J.callMem 15 16 (by decide) (g := g15) (i := RowIx.nil) (bs := []) (bs' := growB [] (z : Int)) rfl rfl rfl rfl fok41 rfl rfl (fun w hw => Me.Grow w g15 RowIx.nil [] MOk.nil (hw.memAt 15 16 rfl rfl (by decide)) _ (by omega)) (fun i21 hm21 => ?_)
  obtain ⟨bs, hbs⟩ : ∃ bs, growB [] (z : Int) = bs := ⟨_, rfl⟩
  rw [hbs] at hm21 ⊢
  have hle := hm21.le
  have hmul := hm21.mul
  refine J.end ?_
  refine X.then ?_
  refine T.seq ?_
  refine T.text [.l, .l, .l] rfl ?_
  refine J.move rfl rfl ?_
  refine J.call0 (k := .l) trivial fok37 rfl rfl (fun w hw => Me.Len w g15 i21 bs hm21 (hw.memAt 15 16 rfl rfl (by decide))) ?_
  refine J.assign rfl rfl ?_
  refine J.end ?_
  refine X.then ?_
  refine T.seq ?_
  refine T.text [.l, .l, .l, .l, .l, .l, .l, .l, .l] rfl ?_
  refine J.move rfl rfl ?_
  refine J.loadN (k := .l) trivial 4 rfl rfl agg25 (wc x) rfl rfl rfl ?_
  refine J.loadN (k := .l) trivial 5 rfl rfl agg25 (wc y) rfl rfl rfl ?_
  refine J.call0 (k := .l) trivial fok50 rfl rfl (fun w hw => Me.Reach w g15 i21 bs hm21 (hw.memAt 15 16 rfl rfl (by decide)) _ _) ?_
  refine J.move rfl rfl ?_
  refine J.extract rfl rfl rfl ?_
  refine J.extract rfl rfl rfl ?_
  refine J.assign rfl rfl ?_
  refine J.assign rfl rfl ?_
  refine J.end ?_
  refine X.then ?_
  refine T.seq ?_
  refine T.seq ?_
  refine T.text [.l, .l, .l, .l] rfl ?_
  refine J.move rfl rfl ?_
  refine J.call0 (k := .l) trivial fok37 rfl rfl (fun w hw => Me.Len w g15 i21 bs hm21 (hw.memAt 15 16 rfl rfl (by decide))) ?_
  refine J.move rfl rfl ?_
  refine J.neq rfl rfl rfl (decide_eq_false (by first | omega | rfl | assumption | (simp only [*]; done))) ?_
  refine J.end ?_
  refine X.then ?_
  refine T.cond_false rfl ?_
  refine T.skip ?_
  refine X.then ?_
  refine T.seq ?_
  refine T.text [.l, .l, .l, .l, .l, .l, .l, .l, .l, .l] rfl ?_
  refine J.loadN (k := .l) trivial 4 rfl rfl agg25 (wc x) rfl rfl rfl ?_
  refine J.loadN (k := .l) trivial 5 rfl rfl agg25 (wc y) rfl rfl rfl ?_
  have hs2 := sumN_two x y
  have hl2 : [x, y].length = 2 := rfl
  refine J.litWs 38 rfl [x, y] Try.underlying32 el25 (Nat.zero_lt_succ _) rfl (by decide) rfl rfl (fun g38 hg38 => ?_)
  refine J.call0 (k := .l) trivial fok51 rfl rfl (fun w hw => Wa.Sum w (some ⟨g38, 0, none⟩) 2 [x, y] (hw.blkCs (k := 38) rfl) (by omega)) ?_
  refine J.move rfl rfl ?_
  refine J.extract rfl rfl rfl ?_
  refine J.extract rfl rfl rfl ?_
  refine J.alloc 11 rfl zero25 [.int .u64 0, .int .u64 0, .int .u64 0, .int .u64 0] rfl rfl (fun g11 hg11 => ?_)
  refine J.store 11 rfl rfl rfl rfl (wc (if sumN [x, y] < 2 ^ 256 then sumN [x, y] else 0)) rfl sz25 (by first | decide | exact Nat.le_refl _ | exact Nat.le_of_ble_eq_true rfl | (simp [rowN]; done) | (simp [rowN]; omega)) (by first | exact rowN_one _ _ | (simp; done) | (intro u hu; simp at hu; subst hu; rfl) | (intro u hu; simp at hu; rcases hu with rfl | rfl <;> rfl)) (by first | decide | exact Nat.zero_lt_succ _ | simp) trivial (wc (if sumN [x, y] < 2 ^ 256 then sumN [x, y] else 0)) rfl ?_
  refine J.assign rfl rfl ?_
  refine J.end ?_
  refine X.then ?_
  refine T.seq ?_
  refine T.text [.l, .l, .l, .l, .l, .l, .l, .l] rfl ?_
  refine J.move rfl rfl ?_
  refine J.not rfl rfl (by rw [← decide_not]) ?_
  refine J.move rfl rfl ?_
  refine J.split 44 rfl (fun h1 => ?_) (fun h1 => ?_)
  · skip
    refine J.no rfl rfl rfl rfl ?_
    refine J.no rfl rfl rfl rfl ?_
    refine J.no rfl rfl rfl rfl ?_
    refine J.pick_t rfl rfl rfl ?_
    refine J.assign rfl rfl ?_
    refine J.end ?_
    refine X.then ?_
    refine T.seq ?_
    refine T.seq ?_
    refine T.text [.l, .l, .l] rfl ?_
    refine J.loadN (k := .l) trivial 5 rfl rfl agg25 (wc y) rfl rfl rfl ?_
    refine J.build rfl rfl (W 0) (fun w => by kernel_rfl) ?_
    refine J.eqW eqw25 rfl rfl rfl ?_
    refine J.end ?_
    refine X.then ?_
    refine T.cond_dec rfl (fun h2 => ?_) (fun h2 => ?_)
    · skip
      refine T.seq ?_
      refine T.text [.l, .l, .l, .l, .l, .l, .l, .l, .l, .l] rfl ?_
      refine J.move rfl rfl ?_
      refine J.move rfl rfl ?_
      have hr1 := reach_none (L := bs.length) (x := x) (y := y) (by omega)
      have hr2 := hr1.1
      refine J.eql rfl rfl rfl (decide_eq_true (by omega)) ?_
      refine J.move rfl rfl ?_
      refine J.yes rfl rfl ?_
      refine J.move rfl rfl ?_
      refine J.as 56 (.bool true) rfl (by rw [hr1.2]) ?_
      refine J.pick_t rfl rfl rfl ?_
      refine J.move rfl rfl ?_
      refine J.yes rfl rfl ?_
      refine J.call0 (k := .l) trivial fok39 rfl rfl (fun w hw => Pg.wrote w) ?_
      refine J.pick_t rfl rfl rfl ?_
      refine J.assign rfl rfl ?_
      refine J.end ?_
      refine X.then ?_
      refine T.ret ?_
      refine X.then_ret ?_
      exact X.ret1 rfl (RV.tmp rfl) (fun w' hw' => ⟨rfl, hw'.sub (Sub.nil _)⟩)
    · skip
      refine T.skip ?_
      refine X.then ?_
      refine T.seq ?_
      refine T.seq ?_
      refine T.text [.l] rfl ?_
      refine J.move rfl rfl ?_
      refine J.end ?_
      refine X.then ?_
      refine T.cond_true rfl ?_
      refine T.seq ?_
      refine T.text [.l, .l, .l, .l, .l, .l, .l, .l, .l, .l] rfl ?_
      refine J.move rfl rfl ?_
      have hr1 := reach_far (L := bs.length) (x := x) (y := y) (by omega) (by first | omega | (split at * <;> omega))
      have hr2 := hr1.1
      refine J.eql rfl rfl rfl (decide_eq_true (by omega)) ?_
      refine J.move rfl rfl ?_
      refine J.yes rfl rfl ?_
      refine J.move rfl rfl ?_
      refine J.as 65 (.bool false) rfl (by rw [hr1.2]) ?_
      refine J.yes rfl rfl ?_
      refine J.not rfl rfl rfl ?_
      refine J.pick_t rfl rfl rfl ?_
      refine J.move rfl rfl ?_
      refine J.yes rfl rfl ?_
      refine J.call0 (k := .l) trivial fok39 rfl rfl (fun w hw => Pg.wrote w) ?_
      refine J.pick_t rfl rfl rfl ?_
      refine J.assign rfl rfl ?_
      refine J.end ?_
      refine X.then ?_
      refine T.ret ?_
      refine X.then_ret ?_
      exact X.ret1 rfl (RV.tmp rfl) (fun w' hw' => ⟨rfl, hw'.sub (Sub.nil _)⟩)
  · have hlt : sumN [x, y] < 2 ^ 256 := by omega
    rw [if_pos hlt]
    refine J.yes rfl rfl ?_
    refine J.build rfl rfl (W 4194304) (fun w => by kernel_rfl) ?_
    refine J.yes rfl rfl ?_
    refine J.loadN (k := .l) trivial 11 rfl rfl agg25 (wc (sumN [x, y])) rfl rfl rfl ?_
    refine J.yes rfl rfl ?_
    refine J.call0 (k := .l) trivial fok52 rfl rfl (fun w hw => Wa.Lt w _ _) ?_
    refine J.pick_f rfl rfl rfl ?_
    refine J.assign rfl rfl ?_
    refine J.end ?_
    refine X.then ?_
    refine T.seq ?_
    refine T.seq ?_
    refine T.text [.l, .l, .l] rfl ?_
    refine J.loadN (k := .l) trivial 5 rfl rfl agg25 (wc y) rfl rfl rfl ?_
    refine J.build rfl rfl (W 0) (fun w => by kernel_rfl) ?_
    refine J.eqW eqw25 rfl rfl rfl ?_
    refine J.end ?_
    refine X.then ?_
    refine T.cond_dec rfl (fun h3 => ?_) (fun h3 => ?_)
    · skip
      refine T.seq ?_
      refine T.text [.l, .l, .l, .l, .l, .l, .l, .l, .l, .l] rfl ?_
      refine J.move rfl rfl ?_
      refine J.move rfl rfl ?_
      have hr1 := reach_none (L := bs.length) (x := x) (y := y) (by omega)
      have hr2 := hr1.1
      refine J.eql rfl rfl rfl (decide_eq_true (by omega)) ?_
      refine J.move rfl rfl ?_
      refine J.yes rfl rfl ?_
      refine J.move rfl rfl ?_
      refine J.as 56 (.bool true) rfl (by rw [hr1.2]) ?_
      refine J.pick_t rfl rfl rfl ?_
      refine J.move rfl rfl ?_
      refine J.yes rfl rfl ?_
      refine J.call0 (k := .l) trivial fok39 rfl rfl (fun w hw => Pg.wrote w) ?_
      refine J.pick_t rfl rfl rfl ?_
      refine J.assign rfl rfl ?_
      refine J.end ?_
      refine X.then ?_
      refine T.ret ?_
      refine X.then_ret ?_
      exact X.ret1 rfl (RV.tmp rfl) (fun w' hw' => ⟨rfl, hw'.sub (Sub.nil _)⟩)
    · skip
      refine T.skip ?_
      refine X.then ?_
      refine T.seq ?_
      refine T.seq ?_
      refine T.text [.l] rfl ?_
      refine J.move rfl rfl ?_
      refine J.end ?_
      refine X.then ?_
      refine T.cond_dec rfl (fun h4 => ?_) (fun h4 => ?_)
      · skip
        refine T.seq ?_
        refine T.text [.l, .l, .l, .l, .l, .l, .l, .l, .l, .l] rfl ?_
        refine J.move rfl rfl ?_
        have hr1 := reach_far (L := bs.length) (x := x) (y := y) (by omega) (by first | omega | (split at * <;> omega))
        have hr2 := hr1.1
        refine J.eql rfl rfl rfl (decide_eq_true (by omega)) ?_
        refine J.move rfl rfl ?_
        refine J.yes rfl rfl ?_
        refine J.move rfl rfl ?_
        refine J.as 65 (.bool false) rfl (by rw [hr1.2]) ?_
        refine J.yes rfl rfl ?_
        refine J.not rfl rfl rfl ?_
        refine J.pick_t rfl rfl rfl ?_
        refine J.move rfl rfl ?_
        refine J.yes rfl rfl ?_
        refine J.call0 (k := .l) trivial fok39 rfl rfl (fun w hw => Pg.wrote w) ?_
        refine J.pick_t rfl rfl rfl ?_
        refine J.assign rfl rfl ?_
        refine J.end ?_
        refine X.then ?_
        refine T.ret ?_
        refine X.then_ret ?_
        exact X.ret1 rfl (RV.tmp rfl) (fun w' hw' => ⟨rfl, hw'.sub (Sub.nil _)⟩)
      · skip
        refine T.skip ?_
        refine X.then ?_
        refine T.seq ?_
        refine T.text [.l, .l, .l, .l, .l, .l] rfl ?_
        refine J.move rfl rfl ?_
        refine J.indexArr arr25 rfl rfl (by omega) (by omega) (by first | exact Int.toNat_natCast _ | rfl) rfl ?_
        have hr1 := reach_ok (L := bs.length) (x := x) (y := y) (by omega) (by omega)
        have hr2 := hr1.1
        refine J.load1 (k := .l) trivial 11 rfl rfl one23 rfl rfl ?_
        have hl0 : lim (sumN [x, y]) 0 = sumN [x, y] := by rw [lim0]; omega
        refine J.as 73 (.int .u64 ((sumN [x, y] : Nat) : Int)) rfl (by rw [hl0]) ?_
        refine J.conv (by rw [Try.underlying23]; rfl) Try.underlying3 rfl rfl (by first | exact wrap_nat64 _ (by omega) | exact i64_ok _ (by omega) | exact rfl) ?_
        refine J.callMem 15 16 (by decide) (g := g15) (i := i21) (bs := bs) (bs' := growB bs ((sumN [x, y] : Nat) : Int)) rfl rfl rfl rfl fok41 rfl rfl (fun w hw => Me.Grow w g15 i21 bs hm21 (hw.memAt 15 16 rfl rfl (by decide)) _ (by omega)) (fun i75 hm75 => ?_)
        have hgE := growE_ok (u := ((sumN [x, y] : Nat) : Int)) (by omega)
        have hgl := growB_length bs ((sumN [x, y] : Nat) : Int)
        rw [growL_ok (by omega)] at hgl
        have hgm := hm75.mul
        refine J.assign rfl rfl ?_
        refine J.end ?_
        refine X.then ?_
        refine T.seq ?_
        refine T.text [.l, .l, .l, .l, .l, .l, .l, .l, .l, .l, .l, .l, .l, .l, .l, .l, .l, .l, .l, .l, .l, .l, .l, .l, .l] rfl ?_
        refine J.move rfl rfl ?_
        refine J.as 76 (.bool true) rfl (by rw [hr1.2]) ?_
        refine J.move rfl rfl ?_
        refine J.yes rfl rfl ?_
        refine J.move rfl rfl ?_
        refine J.yes rfl rfl ?_
        refine J.eql rfl rfl rfl (decide_eq_true (by first | omega | rfl | assumption | (simp only [*]; done))) ?_
        refine J.pick_t rfl rfl rfl ?_
        refine J.move rfl rfl ?_
        refine J.yes rfl rfl ?_
        refine J.move rfl rfl ?_
        refine J.yes rfl rfl ?_
        refine J.call0 (k := .l) trivial fok37 rfl rfl (fun w hw => Me.Len w g15 i75 (growB bs ((sumN [x, y] : Nat) : Int)) hm75 (hw.memAt 15 16 rfl rfl (by decide))) ?_
        refine J.yes rfl rfl ?_
        refine J.move rfl rfl ?_
        refine J.yes rfl rfl ?_
        refine J.eql rfl rfl rfl (decide_eq_true (by first | omega | rfl | assumption | (simp only [*]; done))) ?_
        refine J.pick_t rfl rfl rfl ?_
        refine J.move rfl rfl ?_
        refine J.yes rfl rfl ?_
        refine J.move rfl rfl ?_
        refine J.yes rfl rfl ?_
        refine J.move rfl rfl ?_
        refine J.yes rfl rfl ?_
        refine J.geq rfl rfl rfl (decide_eq_true (by first | omega | rfl | assumption | (simp only [*]; done))) ?_
        refine J.pick_t rfl rfl rfl ?_
        refine J.move rfl rfl ?_
        refine J.yes rfl rfl ?_
        refine J.move rfl rfl ?_
        refine J.yes rfl rfl ?_
        refine J.rem rfl rfl rfl (by omega) (by first | exact rem_nat _ 32 | exact rem_ok _ _ (by omega) | exact rfl) ?_
        refine J.yes rfl rfl ?_
        refine J.eql rfl rfl rfl (decide_eq_true (by first | omega | rfl | assumption | (simp only [*]; done))) ?_
        refine J.pick_t rfl rfl rfl ?_
        refine J.move rfl rfl ?_
        refine J.yes rfl rfl ?_
        refine J.call0 (k := .l) trivial fok39 rfl rfl (fun w hw => Pg.wrote w) ?_
        refine J.pick_t rfl rfl rfl ?_
        refine J.assign rfl rfl ?_
        refine J.end ?_
        refine X.then ?_
        refine T.ret ?_
        exact X.ret1 rfl (RV.tmp rfl) (fun w' hw' => ⟨rfl, hw'.sub (Sub.nil _)⟩)
end Go.Proofs.Ytpkjbeebhdgleaa.Lh
