/-
  Walks, printed by gen.py: what each function hands back, said of numbers.
  Conditions: those that each theorem bears.
-/
import Derived.Test.YtegociefcfcihaaDoorChecked
import Derived.Test.YtegociefcfcihaaDoorFn
import Derived.Test.YtegociefcfcihaaDoorPt
import Derived.Test.YtegociefcfcihaaDoorWa
import Derived.Test.YtegociefcfcihaaDoorWb
import Derived.Test.YtegociefcfcihaaDoorWe
import Derived.Test.YtegociefcfcihaaDoorWh
import Derived.Test.YtegociefcfcihaaDoorWk
import Derived.Test.YtegociefcfcihaaDoorWn
set_option linter.unusedVariables false
set_option maxRecDepth 20000
namespace Go.Proofs.YtegociefcfcihaaDoor.Lq
open Go Go.Fw

theorem sz39 : SizeT Tryd.prog 39 32 := (by unfold SizeT; kernel_rfl)
theorem zero8 : ZeroT Tryd.prog 67 (.agg (rowN .u64 (lg 0)).toArray) := (by unfold ZeroT; kernel_rfl)
theorem one25 : OneT Tryd.prog 25 := ⟨⟨_, Tryd.underlying25, rfl⟩, by kernel_rfl⟩
theorem one27 : OneT Tryd.prog 27 := ⟨⟨_, Tryd.underlying27, rfl⟩, by kernel_rfl⟩
theorem fok153 : FnOk Tryd.prog 153 := FnOk.mk' Tryd.func153 (by kernel_rfl) rfl
theorem fok23 : FnOk Tryd.prog 23 := FnOk.mk' Tryd.func23 (by kernel_rfl) rfl
theorem fok27 : FnOk Tryd.prog 27 := FnOk.mk' Tryd.func27 (by kernel_rfl) rfl
theorem fok25 : FnOk Tryd.prog 25 := FnOk.mk' Tryd.func25 (by kernel_rfl) rfl
theorem fok29 : FnOk Tryd.prog 29 := FnOk.mk' Tryd.func29 (by kernel_rfl) rfl
theorem fok34 : FnOk Tryd.prog 34 := FnOk.mk' Tryd.func34 (by kernel_rfl) rfl
theorem fok31 : FnOk Tryd.prog 31 := FnOk.mk' Tryd.func31 (by kernel_rfl) rfl
theorem fok36 : FnOk Tryd.prog 36 := FnOk.mk' Tryd.func36 (by kernel_rfl) rfl
theorem fok46 : FnOk Tryd.prog 46 := FnOk.mk' Tryd.func46 (by kernel_rfl) rfl
theorem fok48 : FnOk Tryd.prog 48 := FnOk.mk' Tryd.func48 (by kernel_rfl) rfl
theorem fok50 : FnOk Tryd.prog 50 := FnOk.mk' Tryd.func50 (by kernel_rfl) rfl
theorem fok44 : FnOk Tryd.prog 44 := FnOk.mk' Tryd.func44 (by kernel_rfl) rfl
theorem fok155 : FnOk Tryd.prog 155 := FnOk.mk' Tryd.func155 (by kernel_rfl) rfl
theorem fok54 : FnOk Tryd.prog 54 := FnOk.mk' Tryd.func54 (by kernel_rfl) rfl
theorem fok55 : FnOk Tryd.prog 55 := FnOk.mk' Tryd.func55 (by kernel_rfl) rfl
theorem fok38 : FnOk Tryd.prog 38 := FnOk.mk' Tryd.func38 (by kernel_rfl) rfl
theorem fok40 : FnOk Tryd.prog 40 := FnOk.mk' Tryd.func40 (by kernel_rfl) rfl
theorem fok79 : FnOk Tryd.prog 79 := FnOk.mk' Tryd.func79 (by kernel_rfl) rfl
theorem fok157 : FnOk Tryd.prog 157 := FnOk.mk' Tryd.func157 (by kernel_rfl) rfl
theorem fok62 : FnOk Tryd.prog 62 := FnOk.mk' Tryd.func62 (by kernel_rfl) rfl
theorem fok64 : FnOk Tryd.prog 64 := FnOk.mk' Tryd.func64 (by kernel_rfl) rfl
theorem fok66 : FnOk Tryd.prog 66 := FnOk.mk' Tryd.func66 (by kernel_rfl) rfl
theorem fok158 : FnOk Tryd.prog 158 := FnOk.mk' Tryd.func158 (by kernel_rfl) rfl
theorem fok69 : FnOk Tryd.prog 69 := FnOk.mk' Tryd.func69 (by kernel_rfl) rfl
theorem fok59 : FnOk Tryd.prog 59 := FnOk.mk' Tryd.func59 (by kernel_rfl) rfl
theorem fok60 : FnOk Tryd.prog 60 := FnOk.mk' Tryd.func60 (by kernel_rfl) rfl
theorem fok42 : FnOk Tryd.prog 42 := FnOk.mk' Tryd.func42 (by kernel_rfl) rfl
theorem fok159 : FnOk Tryd.prog 159 := FnOk.mk' Tryd.func159 (by kernel_rfl) rfl
theorem func98T : FuncT Tryd.prog 98 := ⟨_, _, _, Tryd.underlying98⟩
theorem fok148 : FnOk Tryd.prog 148 := FnOk.mk' Tryd.func148 (by kernel_rfl) rfl
theorem zero256 : ZeroT Tryd.prog 78 (.agg (rowN .i64 (List.replicate 256 0)).toArray) := (by unfold ZeroT; kernel_rfl)
theorem sz78 : SizeT Tryd.prog 78 256 := (by unfold SizeT; kernel_rfl)
theorem zero24 : ZeroT Tryd.prog 24 (.agg ([.int .u64 0, .int .u64 0, .int .u64 0, .int .u64 0]).toArray) := (by unfold ZeroT; kernel_rfl)
theorem sz24 : SizeT Tryd.prog 24 4 := (by unfold SizeT; kernel_rfl)
theorem agg24 : AggT Tryd.prog 24 4 := ⟨⟨_, Tryd.underlying24, rfl⟩, by kernel_rfl⟩
theorem sl35 : SlT Tryd.prog 35 24 4 := ⟨Tryd.underlying35, sz24⟩
theorem el24 : ElT Tryd.prog 24 4 32 (.agg ([.int .u64 0, .int .u64 0, .int .u64 0, .int .u64 0]).toArray) := ⟨by kernel_rfl, rfl, by decide, by decide⟩
theorem fok86 : FnOk Tryd.prog 86 := FnOk.mk' Tryd.func86 (by kernel_rfl) rfl
theorem sz22 : SizeT Tryd.prog 22 1 := (by unfold SizeT; kernel_rfl)
theorem arr24 : ArrT Tryd.prog 24 4 22 1 := ⟨Tryd.underlying24, sz22⟩
theorem one22 : OneT Tryd.prog 22 := ⟨⟨_, Tryd.underlying22, rfl⟩, by kernel_rfl⟩
theorem eqw24 : EqT Tryd.prog 24 := ⟨⟨22, arr24, one22, Tryd.underlying22⟩, by kernel_rfl⟩
theorem fok33 : FnOk Tryd.prog 33 := FnOk.mk' Tryd.func33 (by kernel_rfl) rfl

set_option maxHeartbeats 1000000 in
theorem WordPlainSums (w : World) (A0 : Option Addr) (c0 : Nat) (xs0 : List Nat) (hc0 : Cs w A0 (rowW xs0)) (hb0 : xs0.length ≤ 9223372036854775807) :
    Calls Tryd.prog 18 [.slice A0 xs0.length c0].toArray w fun e w' => e = .returned (.bool true) ∧ WS w [] [] w' := by
  refine calls_of_T [] 93 [] Tryd.func18 rfl Tryd.ntmps18 (by simp) (WS.refl _ _) ?_
  refine T.seq ?_
  refine T.text [.l] rfl ?_
  refine J.assign rfl rfl ?_
  refine J.end ?_
  refine X.then ?_
  refine T.seq ?_
  refine T.seq ?_
  refine T.text [.l, .l, .l] rfl ?_
  refine J.move rfl rfl ?_
  refine J.lenSl Tryd.underlying35 rfl rfl ?_
  refine J.gtr rfl rfl rfl rfl ?_
  refine J.end ?_
  refine X.then ?_
  refine T.cond_dec rfl (fun h1 => ?_) (fun h1 => ?_)
  · skip
    refine T.seq ?_
    refine T.text [.l] rfl ?_
    refine J.assign rfl rfl ?_
    refine J.end ?_
    refine X.then ?_
    refine T.ret ?_
    refine X.then_ret ?_
    exact X.ret1 rfl (RV.tmp rfl) (fun w' hw' => ⟨rfl, hw'.sub (Sub.nil _)⟩)
  · have hle : xs0.length ≤ 1048576 := by omega
    refine T.skip ?_
    refine X.then ?_
    refine T.seq ?_
    refine T.text [.l, .l, .l] rfl ?_
    refine J.build rfl rfl (W 0) (fun w => by kernel_rfl) ?_
    refine J.alloc 3 rfl zero24 [.int .u64 0, .int .u64 0, .int .u64 0, .int .u64 0] rfl rfl (fun g3 hg3 => ?_)
    refine J.store 3 rfl rfl rfl rfl (wc 0) rfl sz24 (by first | decide | exact Nat.le_refl _ | exact Nat.le_of_ble_eq_true rfl | (simp [rowN]; done) | (simp [rowN]; omega)) (by first | exact rowN_one _ _ | (simp; done) | (intro u hu; simp at hu; subst hu; rfl) | (intro u hu; simp at hu; rcases hu with rfl | rfl <;> rfl)) (by first | decide | exact Nat.zero_lt_succ _ | simp) trivial (wc 0) rfl ?_
    refine J.end ?_
    refine X.then ?_
    refine T.seq ?_
    refine T.text [.l] rfl ?_
    refine J.assign rfl rfl ?_
    refine J.end ?_
    refine X.then ?_
    refine T.seq ?_
    refine T.seq ?_
    refine T.text [.l] rfl ?_
    refine J.assign rfl rfl ?_
    refine J.end ?_
    refine X.then ?_
    refine T.block ?_
    refine T.as 4 (.bool (decide (2 ^ 256 ≤ sumN (xs0.take 0)))) rfl (by rw [decide_eq_false (by simp [sumN])]) ?_
    refine T.loop (ι := Nat × Nat) (fun ((i, a) : Nat × Nat) => i ≤ xs0.length ∧ a % 2 ^ 256 = sumN (xs0.take i) % 2 ^ 256) (fun ((i, a) : Nat × Nat) => [(0, .slice A0 xs0.length c0), (2, .bool false), (13, .slice A0 xs0.length c0), (14, .int .i64 ((xs0.length : Nat) : Int)), (16, (W 0)), (3, .pointer (some ⟨g3, 0, none⟩)), (5, .int .i64 (i : Int)), (4, .bool (decide (2 ^ 256 ≤ sumN (xs0.take i))))]) (fun ((i, a) : Nat × Nat) => [(3, ⟨some g3, 24, wc a⟩)]) (fun ((i, a) : Nat × Nat) => xs0.length - i) ⟨0, 0⟩ ⟨Nat.zero_le _, by simp [sumN]⟩ (by repeat (first | exact Sub.nil _ | refine Sub.cons (by first | rfl | (rw [dgs_zero]; rfl) | (rw [List.drop_length]; rfl) | (simp; done) | (congr 2; omega) | (congr 3; omega)) ?_)) (by repeat (first | exact Sub.nil _ | refine Sub.cons (by first | rfl | (rw [dgs_zero]; rfl) | (rw [List.drop_length]; rfl) | (simp; done) | (congr 2; omega) | (congr 3; omega)) ?_)) ?_
    rintro ⟨i, a⟩ ⟨hi, ha⟩
    try dsimp only at *
    refine T.seq ?_
    refine T.seq ?_
    refine T.text [.l, .l, .l, .l] rfl ?_
    refine J.move rfl rfl ?_
    refine J.move rfl rfl ?_
    refine J.lenSl Tryd.underlying35 rfl rfl ?_
    refine J.lss rfl rfl rfl rfl ?_
    refine J.end ?_
    refine X.then ?_
    refine T.cond_dec rfl (fun h2 => ?_) (fun h2 => ?_)
    · have hts : sumN (xs0.take (i + 1)) = sumN (xs0.take i) + xs0.getD i 0 % 2 ^ 256 := by rw [take_succ_getD _ _ (by omega), sumN_snoc]
      have hml := Nat.mod_lt (xs0.getD i 0) (show 2 ^ 256 > 0 by decide)
      refine T.skip ?_
      refine X.then ?_
      refine T.seq ?_
      refine T.block ?_
      refine T.seq ?_
      refine T.draw [] [(0, .q), (1, .g), (2, .g), (3, .g), (4, .q), (5, .q), (6, .a 6), (7, .l)] (by kernel_rfl) (by kernel_rfl) ?_ (by repeat (first | exact Sub.nil _ | refine Sub.cons (by first | rfl | (rw [dgs_zero]; rfl) | (rw [List.drop_length]; rfl) | (simp; done) | (congr 2; omega) | (congr 3; omega)) ?_))
      refine J.loadN (k := .q) trivial 3 rfl rfl agg24 (wc a) rfl rfl rfl ?_
      refine J.move rfl rfl ?_
      refine J.move rfl rfl ?_
      refine J.indexSlI sl35 rfl (Cs.isSomeW hc0 (by omega)) rfl (by omega) (by omega) (by first | exact Int.toNat_natCast _ | rfl) rfl ?_
      refine J.loadIW (k := .q) trivial hc0 (off_nil _) rfl agg24 (by first | rfl | with_reducible exact rowW_seg0 _ _ _ (by omega) | with_reducible exact rowW_seg00 _ _ (by omega) | with_reducible exact rowW_segs _ _ _ (by omega) | with_reducible exact rowW_seg _ _ (by omega) | with_reducible exact rowW_segb _ _ _ (by omega) | exact rowW_seg _ _ (by omega) | exact rowW_segs _ _ _ (by omega)) rfl ?_
      refine J.call0 (k := .q) trivial fok23 rfl rfl (fun w hw => Wb.Add w _ _) ?_
      refine J.allocA 6 rfl rfl zero24 [.int .u64 0, .int .u64 0, .int .u64 0, .int .u64 0] rfl rfl (fun g6 hg6 => ?_)
      refine J.store 6 rfl rfl rfl rfl (wc (a + xs0.getD i 0)) rfl sz24 (by first | decide | exact Nat.le_refl _ | exact Nat.le_of_ble_eq_true rfl | (simp [rowN]; done) | (simp [rowN]; omega)) (by first | exact rowN_one _ _ | (simp; done) | (intro u hu; simp at hu; subst hu; rfl) | (intro u hu; simp at hu; rcases hu with rfl | rfl <;> rfl)) (by first | decide | exact Nat.zero_lt_succ _ | simp) trivial (wc (a + xs0.getD i 0)) rfl ?_
      refine J.end ?_
      refine X.then ?_
      refine T.seq ?_
      refine T.text [.l, .l, .l, .l, .l, .l, .l] rfl ?_
      refine J.move rfl rfl ?_
      refine J.move rfl rfl ?_
      refine J.split 30 rfl (fun h3 => ?_) (fun h3 => ?_)
      · skip
        refine J.no rfl rfl rfl rfl ?_
        refine J.no rfl rfl rfl rfl ?_
        refine J.no rfl rfl rfl rfl ?_
        refine J.pick_t rfl rfl rfl ?_
        refine J.assign rfl rfl ?_
        refine J.end ?_
        refine X.then ?_
        refine T.text [.l, .l] rfl ?_
        refine J.loadN (k := .l) trivial 6 rfl rfl agg24 (wc (a + xs0.getD i 0)) rfl rfl rfl ?_
        refine J.store 3 rfl rfl rfl rfl (wc (a + xs0.getD i 0)) rfl sz24 (by first | decide | exact Nat.le_refl _ | exact Nat.le_of_ble_eq_true rfl | (simp [rowN]; done) | (simp [rowN]; omega)) (by first | exact rowN_one _ _ | (simp; done) | (intro u hu; simp at hu; subst hu; rfl) | (intro u hu; simp at hu; rcases hu with rfl | rfl <;> rfl)) (by first | decide | exact Nat.zero_lt_succ _ | simp) trivial (wc (a + xs0.getD i 0)) rfl ?_
        refine J.end ?_
        refine X.inBlock (X.then ?_)
        refine T.text [.l, .l, .l] rfl ?_
        refine J.move rfl rfl ?_
        refine J.add rfl rfl rfl (by first | exact add_nat _ 1 (by omega) | exact i64_ok _ (by omega) | exact rfl) ?_
        refine J.assign rfl rfl ?_
        refine J.end ?_
        refine X.as 4 (.bool (decide (2 ^ 256 ≤ sumN (xs0.take (i + 1))))) rfl (by rw [decide_eq_true (by rw [hts]; omega)]) ?_
        exact X.round ⟨(i + 1), (a + xs0.getD i 0)⟩ ⟨by omega, by rw [hts]; omega⟩ (by first | omega | (dsimp only; omega)) (by repeat (first | exact Sub.nil _ | refine Sub.cons (by first | rfl | (rw [dgs_zero]; rfl) | (rw [List.drop_length]; rfl) | (simp; done) | (congr 2; omega) | (congr 3; omega)) ?_)) (by repeat (first | exact Sub.nil _ | refine Sub.cons (by first | rfl | (rw [dgs_zero]; rfl) | (rw [List.drop_length]; rfl) | (simp; done) | (congr 2; omega) | (congr 3; omega)) ?_))
      · skip
        refine J.yes rfl rfl ?_
        refine J.loadN (k := .l) trivial 6 rfl rfl agg24 (wc (a + xs0.getD i 0)) rfl rfl rfl ?_
        refine J.yes rfl rfl ?_
        refine J.loadN (k := .l) trivial 3 rfl rfl agg24 (wc a) rfl rfl rfl ?_
        refine J.yes rfl rfl ?_
        refine J.call0 (k := .l) trivial fok54 rfl rfl (fun w hw => Wa.Lt w _ _) ?_
        refine J.pick_f rfl rfl rfl ?_
        refine J.assign rfl rfl ?_
        refine J.end ?_
        refine X.then ?_
        refine T.text [.l, .l] rfl ?_
        refine J.loadN (k := .l) trivial 6 rfl rfl agg24 (wc (a + xs0.getD i 0)) rfl rfl rfl ?_
        refine J.store 3 rfl rfl rfl rfl (wc (a + xs0.getD i 0)) rfl sz24 (by first | decide | exact Nat.le_refl _ | exact Nat.le_of_ble_eq_true rfl | (simp [rowN]; done) | (simp [rowN]; omega)) (by first | exact rowN_one _ _ | (simp; done) | (intro u hu; simp at hu; subst hu; rfl) | (intro u hu; simp at hu; rcases hu with rfl | rfl <;> rfl)) (by first | decide | exact Nat.zero_lt_succ _ | simp) trivial (wc (a + xs0.getD i 0)) rfl ?_
        refine J.end ?_
        refine X.inBlock (X.then ?_)
        refine T.text [.l, .l, .l] rfl ?_
        refine J.move rfl rfl ?_
        refine J.add rfl rfl rfl (by first | exact add_nat _ 1 (by omega) | exact i64_ok _ (by omega) | exact rfl) ?_
        refine J.assign rfl rfl ?_
        refine J.end ?_
        refine X.as 4 (.bool (decide (2 ^ 256 ≤ sumN (xs0.take (i + 1))))) rfl (by congr 1; exact decide_eq_decide.2 (by rw [hts]; omega)) ?_
        exact X.round ⟨(i + 1), (a + xs0.getD i 0)⟩ ⟨by omega, by rw [hts]; omega⟩ (by first | omega | (dsimp only; omega)) (by repeat (first | exact Sub.nil _ | refine Sub.cons (by first | rfl | (rw [dgs_zero]; rfl) | (rw [List.drop_length]; rfl) | (simp; done) | (congr 2; omega) | (congr 3; omega)) ?_)) (by repeat (first | exact Sub.nil _ | refine Sub.cons (by first | rfl | (rw [dgs_zero]; rfl) | (rw [List.drop_length]; rfl) | (simp; done) | (congr 2; omega) | (congr 3; omega)) ?_))
    · obtain rfl : i = xs0.length := by omega
      rw [List.take_length] at ha
      refine T.as 4 (.bool (decide (2 ^ 256 ≤ sumN xs0))) rfl (by rw [List.take_length]) ?_
      refine T.exit ?_
      refine X.then_exit (X.then_exit (X.inBlock_eq (X.then ?_)))
      refine T.seq ?_
      refine T.text [.l] rfl ?_
      refine J.assign rfl rfl ?_
      refine J.end ?_
      refine X.then ?_
      refine T.seq ?_
      refine T.seq ?_
      refine T.text [.l, .l, .l, .l] rfl ?_
      refine J.move rfl rfl ?_
      refine J.lenSl Tryd.underlying35 rfl rfl ?_
      refine J.sub' rfl rfl rfl (by exact i64_ok _ (by omega)) ?_
      refine J.assign rfl rfl ?_
      refine J.end ?_
      refine X.then ?_
      refine T.block ?_
      refine T.addNil 7 24 ?_
      refine T.loop (ι := Nat × RowIx) (fun ((j, r) : Nat × RowIx) => j ≤ xs0.length ∧ r.Ok 4 ((xs0.drop j).reverse).length) (fun ((j, r) : Nat × RowIx) => [(0, .slice A0 xs0.length c0), (2, .bool false), (13, .slice A0 xs0.length c0), (14, .int .i64 ((xs0.length : Nat) : Int)), (16, (W 0)), (3, .pointer (some ⟨g3, 0, none⟩)), (5, .int .i64 (xs0.length : Int)), (4, .bool (decide (2 ^ 256 ≤ sumN xs0))), (17, .int .i64 (xs0.length : Int)), (18, .slice A0 xs0.length c0), (19, .int .i64 ((xs0.length : Nat) : Int)), (36, .slice A0 xs0.length c0), (37, .int .i64 ((xs0.length : Nat) : Int)), (7, r.val ((xs0.drop j).reverse).length), (8, .int .i64 ((j : Int) - 1))]) (fun ((j, r) : Nat × RowIx) => [(3, ⟨some g3, 24, wc a⟩), (7, r.ent 24 (rowW ((xs0.drop j).reverse)))]) (fun ((j, r) : Nat × RowIx) => j) ⟨xs0.length, RowIx.nil⟩ ⟨Nat.le_refl _, by rw [List.drop_length]; exact RowIx.nil_ok 4⟩ (by repeat (first | exact Sub.nil _ | refine Sub.cons (by first | rfl | (rw [dgs_zero]; rfl) | (rw [List.drop_length]; rfl) | (simp; done) | (congr 2; omega) | (congr 3; omega)) ?_)) (by repeat (first | exact Sub.nil _ | refine Sub.cons (by first | rfl | (rw [dgs_zero]; rfl) | (rw [List.drop_length]; rfl) | (simp; done) | (congr 2; omega) | (congr 3; omega)) ?_)) ?_
      rintro ⟨j, r⟩ ⟨hj, hr⟩
      try dsimp only at *
      refine T.seq ?_
      refine T.seq ?_
      refine T.text [.l, .l] rfl ?_
      refine J.move rfl rfl ?_
      refine J.geq rfl rfl rfl rfl ?_
      refine J.end ?_
      refine X.then ?_
      refine T.cond_dec rfl (fun h4 => ?_) (fun h4 => ?_)
      · obtain ⟨k, rfl⟩ : ∃ k, j = k + 1 := ⟨j - 1, by omega⟩
        refine T.as 8 (.int .i64 (k : Int)) rfl (by first | rfl | (congr 1; omega)) ?_
        have hll : ((xs0.drop (k + 1)).reverse).length = xs0.length - (k + 1) := (by rw [List.length_reverse, List.length_drop])
        have hdr : ((xs0.drop k).reverse) = ((xs0.drop (k + 1)).reverse) ++ [xs0.getD k 0] := (by rw [drop_getD xs0 k (by omega), List.reverse_cons])
        refine T.skip ?_
        refine X.then ?_
        refine T.seq ?_
        refine T.block ?_
        refine T.text [.l, .l, .l, .l, .l, .l, .l, .l] rfl ?_
        refine J.move rfl rfl ?_
        refine J.move rfl rfl ?_
        refine J.move rfl rfl ?_
        refine J.indexSlI sl35 rfl (Cs.isSomeW hc0 (by omega)) rfl (by omega) (by omega) (by first | exact Int.toNat_natCast _ | rfl) rfl ?_
        refine J.loadIW (k := .l) trivial hc0 (off_nil _) rfl agg24 (by first | rfl | with_reducible exact rowW_seg0 _ _ _ (by omega) | with_reducible exact rowW_seg00 _ _ (by omega) | with_reducible exact rowW_segs _ _ _ (by omega) | with_reducible exact rowW_seg _ _ (by omega) | with_reducible exact rowW_segb _ _ _ (by omega) | exact rowW_seg _ _ (by omega) | exact rowW_segs _ _ _ (by omega)) rfl ?_
        refine J.lit1 48 rfl Tryd.underlying35 el24 (by decide) rfl (wc (xs0.getD k 0)) rfl rfl rfl (fun g48 hg48 => ?_)
        refine J.append 7 rfl Tryd.underlying35 el24 rfl hr (by rw [rowW_length]) rfl rfl rfl (fun w hw => (hw.blkCs (k := 48) rfl)) (rowN_one _ _) (by omega) (by unfold maxLen; omega) rfl ((xs0.drop k).reverse).length (by rw [hdr]; simp) (rowW ((xs0.drop k).reverse)) (by rw [hdr, rowW_append, rowW_one']) (fun r49 hr49 => ?_)
        refine J.assign rfl rfl ?_
        refine J.end ?_
        refine X.inBlock (X.then ?_)
        refine T.text [.l, .l, .l] rfl ?_
        refine J.move rfl rfl ?_
        refine J.sub' rfl rfl rfl (by exact i64_ok _ (by omega)) ?_
        refine J.assign rfl rfl ?_
        refine J.end ?_
        exact X.round ⟨k, r49⟩ ⟨by omega, hr49⟩ (by first | omega | (dsimp only; omega)) (by repeat (first | exact Sub.nil _ | refine Sub.cons (by first | rfl | (rw [dgs_zero]; rfl) | (rw [List.drop_length]; rfl) | (simp; done) | (congr 2; omega) | (congr 3; omega)) ?_)) (by repeat (first | exact Sub.nil _ | refine Sub.cons (by first | rfl | (rw [dgs_zero]; rfl) | (rw [List.drop_length]; rfl) | (simp; done) | (congr 2; omega) | (congr 3; omega)) ?_))
      · obtain rfl : j = 0 := by omega
        have hll : ((xs0.drop 0).reverse).length = xs0.length := (by rw [List.length_reverse, List.length_drop]; omega)
        have hsr : sumN ((xs0.drop 0).reverse) = sumN xs0 := by rw [List.drop_zero, sumN_reverse]
        refine T.exit ?_
        refine X.then_exit (X.then_exit (X.inBlock_eq (X.then ?_)))
        refine T.seq ?_
        refine T.text [.l, .l, .l, .l, .l, .l, .l, .l] rfl ?_
        refine J.move rfl rfl ?_
        refine J.call0 (k := .l) trivial fok86 rfl rfl (fun w hw => Wa.Sum w _ _ xs0 (hc0.ws hw (off_nil _)) (by omega)) ?_
        refine J.move rfl rfl ?_
        refine J.extract rfl rfl rfl ?_
        refine J.extract rfl rfl rfl ?_
        refine J.alloc 9 rfl zero24 [.int .u64 0, .int .u64 0, .int .u64 0, .int .u64 0] rfl rfl (fun g9 hg9 => ?_)
        refine J.store 9 rfl rfl rfl rfl (wc (if sumN xs0 < 2 ^ 256 then sumN xs0 else 0)) rfl sz24 (by first | decide | exact Nat.le_refl _ | exact Nat.le_of_ble_eq_true rfl | (simp [rowN]; done) | (simp [rowN]; omega)) (by first | exact rowN_one _ _ | (simp; done) | (intro u hu; simp at hu; subst hu; rfl) | (intro u hu; simp at hu; rcases hu with rfl | rfl <;> rfl)) (by first | decide | exact Nat.zero_lt_succ _ | simp) trivial (wc (if sumN xs0 < 2 ^ 256 then sumN xs0 else 0)) rfl ?_
        refine J.assign rfl rfl ?_
        refine J.end ?_
        refine X.then ?_
        refine T.seq ?_
        refine T.text [.l, .l, .l, .l, .l, .l, .l, .l] rfl ?_
        refine J.move rfl rfl ?_
        refine J.call0 (k := .l) trivial fok86 rfl rfl (fun w hw => Wa.Sum w _ _ ((xs0.drop 0).reverse) (hw.rowCs (k := 7) rfl) (by omega)) ?_
        refine J.move rfl rfl ?_
        refine J.extract rfl rfl rfl ?_
        refine J.extract rfl rfl rfl ?_
        refine J.alloc 11 rfl zero24 [.int .u64 0, .int .u64 0, .int .u64 0, .int .u64 0] rfl rfl (fun g11 hg11 => ?_)
        refine J.store 11 rfl rfl rfl rfl (wc (if sumN ((xs0.drop 0).reverse) < 2 ^ 256 then sumN ((xs0.drop 0).reverse) else 0)) rfl sz24 (by first | decide | exact Nat.le_refl _ | exact Nat.le_of_ble_eq_true rfl | (simp [rowN]; done) | (simp [rowN]; omega)) (by first | exact rowN_one _ _ | (simp; done) | (intro u hu; simp at hu; subst hu; rfl) | (intro u hu; simp at hu; rcases hu with rfl | rfl <;> rfl)) (by first | decide | exact Nat.zero_lt_succ _ | simp) trivial (wc (if sumN ((xs0.drop 0).reverse) < 2 ^ 256 then sumN ((xs0.drop 0).reverse) else 0)) rfl ?_
        refine J.assign rfl rfl ?_
        refine J.end ?_
        refine X.then ?_
        refine T.seq ?_
        refine T.seq ?_
        refine T.text [.l, .l, .l, .l, .l, .l, .l, .l, .l, .l, .l, .l, .l, .l, .l, .l, .l, .l] rfl ?_
        refine J.move rfl rfl ?_
        refine J.move rfl rfl ?_
        refine J.not rfl rfl (by rw [← decide_not]) ?_
        refine J.neqB Tryd.underlying4 rfl rfl rfl (by exact neqB_same (by omega)) ?_
        refine J.move rfl rfl ?_
        refine J.yes rfl rfl ?_
        refine J.loadN (k := .l) trivial 9 rfl rfl agg24 (wc (if sumN xs0 < 2 ^ 256 then sumN xs0 else 0)) rfl rfl rfl ?_
        refine J.yes rfl rfl ?_
        refine J.loadN (k := .l) trivial 11 rfl rfl agg24 (wc (if sumN ((xs0.drop 0).reverse) < 2 ^ 256 then sumN ((xs0.drop 0).reverse) else 0)) rfl rfl rfl ?_
        refine J.yes rfl rfl ?_
        refine J.neqW eqw24 rfl rfl rfl ?_
        refine J.as 67 (.bool false) rfl (by rw [decide_eq_false (by refine not_not_intro ?_; rw [hsr])]) ?_
        refine J.pick_f rfl rfl rfl ?_
        refine J.move rfl rfl ?_
        refine J.yes rfl rfl ?_
        refine J.move rfl rfl ?_
        refine J.yes rfl rfl ?_
        refine J.move rfl rfl ?_
        refine J.yes rfl rfl ?_
        refine J.neqB Tryd.underlying4 rfl rfl rfl (by exact neqB_same (by rw [hsr])) ?_
        refine J.pick_f rfl rfl rfl ?_
        refine J.move rfl rfl ?_
        refine J.yes rfl rfl ?_
        refine J.call0 (k := .l) trivial fok33 rfl rfl (fun w hw => Wk.awake w) ?_
        refine J.yes rfl rfl ?_
        refine J.not rfl rfl rfl ?_
        refine J.pick_f rfl rfl rfl ?_
        refine J.end ?_
        refine X.then ?_
        refine T.cond_false rfl ?_
        refine T.skip ?_
        refine X.then ?_
        refine T.seq ?_
        refine T.text [.l, .l, .l, .l, .l, .l, .l, .l, .l, .l, .l, .l, .l, .l, .l, .l] rfl ?_
        refine J.move rfl rfl ?_
        refine J.move rfl rfl ?_
        refine J.split 79 rfl (fun h5 => ?_) (fun h5 => ?_)
        · skip
          refine J.yes rfl rfl ?_
          refine J.loadN (k := .l) trivial 9 rfl rfl agg24 (wc (if sumN xs0 < 2 ^ 256 then sumN xs0 else 0)) rfl rfl rfl ?_
          refine J.yes rfl rfl ?_
          refine J.build rfl rfl (W 0) (fun w => by kernel_rfl) ?_
          refine J.yes rfl rfl ?_
          refine J.eqW eqw24 rfl rfl rfl ?_
          refine J.as 82 (.bool true) rfl (by rw [decide_eq_true (by rw [if_neg (by omega)])]) ?_
          refine J.pick_t rfl rfl rfl ?_
          refine J.move rfl rfl ?_
          refine J.no rfl rfl rfl rfl ?_
          refine J.no rfl rfl rfl rfl ?_
          refine J.no rfl rfl rfl rfl ?_
          refine J.noU rfl rfl rfl ?_
          refine J.noU rfl rfl rfl ?_
          refine J.noU rfl rfl rfl ?_
          refine J.no rfl rfl rfl rfl ?_
          refine J.pick_t rfl rfl rfl ?_
          refine J.assign rfl rfl ?_
          refine J.end ?_
          refine X.then ?_
          refine T.ret ?_
          exact X.ret1 rfl (RV.tmp rfl) (fun w' hw' => ⟨rfl, hw'.sub (Sub.nil _)⟩)
        · skip
          refine J.no rfl rfl rfl rfl ?_
          refine J.no rfl rfl rfl rfl ?_
          refine J.no rfl rfl rfl rfl ?_
          refine J.pick_f rfl rfl rfl ?_
          refine J.move rfl rfl ?_
          refine J.yes rfl rfl ?_
          refine J.move rfl rfl ?_
          refine J.yes rfl rfl ?_
          refine J.not rfl rfl (by rw [← decide_not]) ?_
          refine J.yes rfl rfl ?_
          refine J.move rfl rfl ?_
          refine J.split 87 rfl (fun h6 => ?_) (fun h6 => ?_)
          · skip
            refine J.yes rfl rfl ?_
            refine J.loadN (k := .l) trivial 9 rfl rfl agg24 (wc (if sumN xs0 < 2 ^ 256 then sumN xs0 else 0)) rfl rfl rfl ?_
            refine J.yes rfl rfl ?_
            refine J.loadN (k := .l) trivial 3 rfl rfl agg24 (wc a) rfl rfl rfl ?_
            refine J.yes rfl rfl ?_
            refine J.eqW eqw24 rfl rfl rfl ?_
            refine J.as 90 (.bool true) rfl (by rw [decide_eq_true (by rw [if_pos (by omega), ha])]) ?_
            refine J.yes rfl rfl ?_
            refine J.pick_t rfl rfl rfl ?_
            refine J.pick_f rfl rfl rfl ?_
            refine J.assign rfl rfl ?_
            refine J.end ?_
            refine X.then ?_
            refine T.ret ?_
            exact X.ret1 rfl (RV.tmp rfl) (fun w' hw' => ⟨rfl, hw'.sub (Sub.nil _)⟩)
          · omega
end Go.Proofs.YtegociefcfcihaaDoor.Lq
