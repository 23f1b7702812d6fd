/-
  Walks, printed by gen.py: what each function hands back, said of numbers.
  Conditions: those that each theorem bears.
-/
import Derived.Test.YtegociefcfcihaaGreatDoorChecked
import Derived.Test.YtegociefcfcihaaGreatDoorFn
import Derived.Test.YtegociefcfcihaaGreatDoorFs
import Derived.Test.YtegociefcfcihaaGreatDoorPz
import Derived.Test.YtegociefcfcihaaGreatDoorRa
import Derived.Test.YtegociefcfcihaaGreatDoorRc
import Derived.Test.YtegociefcfcihaaGreatDoorRe
set_option linter.unusedVariables false
set_option maxRecDepth 20000
namespace Go.Proofs.YtegociefcfcihaaGreatDoor.Rk
open Go Go.Fw

theorem zero256 : ZeroT Tryz.prog 60 (.agg (rowN .i64 (List.replicate 256 0)).toArray) := (by unfold ZeroT; kernel_rfl)
theorem sz60 : SizeT Tryz.prog 60 256 := (by unfold SizeT; kernel_rfl)
theorem agg24 : AggT Tryz.prog 24 4 := ⟨⟨_, Tryz.underlying24, rfl⟩, by kernel_rfl⟩
theorem fok58 : FnOk Tryz.prog 58 := FnOk.mk' Tryz.func58 (by kernel_rfl) rfl
theorem fok69 : FnOk Tryz.prog 69 := FnOk.mk' Tryz.func69 (by kernel_rfl) rfl
theorem sz3 : SizeT Tryz.prog 3 1 := (by unfold SizeT; kernel_rfl)
theorem arr60 : ArrT Tryz.prog 60 256 3 1 := ⟨Tryz.underlying60, sz3⟩
theorem agg60 : AggT Tryz.prog 60 256 := ⟨⟨_, Tryz.underlying60, rfl⟩, by kernel_rfl⟩
theorem zero24 : ZeroT Tryz.prog 24 (.agg ([.int .u64 0, .int .u64 0, .int .u64 0, .int .u64 0]).toArray) := (by unfold ZeroT; kernel_rfl)
theorem el3 : ElT Tryz.prog 3 1 8 (.int .i64 0) := ⟨by kernel_rfl, rfl, by decide, by decide⟩
theorem sl48 : SlT Tryz.prog 48 3 1 := ⟨Tryz.underlying48, sz3⟩
theorem one3 : OneT Tryz.prog 3 := ⟨⟨_, Tryz.underlying3, rfl⟩, by kernel_rfl⟩
theorem fok56 : FnOk Tryz.prog 56 := FnOk.mk' Tryz.func56 (by kernel_rfl) rfl
theorem sz24 : SizeT Tryz.prog 24 4 := (by unfold SizeT; kernel_rfl)
theorem fok67 : FnOk Tryz.prog 67 := FnOk.mk' Tryz.func67 (by kernel_rfl) rfl
theorem fok102 : FnOk Tryz.prog 102 := FnOk.mk' Tryz.func102 (by kernel_rfl) rfl

theorem bits (w : World) (x0 : Nat) :
    Calls Tryz.prog 71 [W x0].toArray w fun e w' => e = .returned (.agg (rowN .i64 (bitsL x0 256)).toArray) ∧ WS w [] [] w' := by
  refine calls_of_T [] 18 [] Tryz.func71 rfl Tryz.ntmps71 (by simp) (WS.refl _ _) ?_
  refine T.seq ?_
  refine T.text [.l, .l] rfl ?_
  refine J.box 1 rfl rfl (wc x0) rfl rfl (fun g1 hg1 => ?_)
  refine J.alloc 2 rfl zero256 (rowN .i64 (List.replicate 256 0)) rfl rfl (fun g2 hg2 => ?_)
  refine J.end ?_
  refine X.then ?_
  refine T.seq ?_
  refine T.text [.l, .l, .l] rfl ?_
  refine J.loadN (k := .l) trivial 1 rfl rfl agg24 (wc x0) rfl rfl rfl ?_
  refine J.callRow 7 rfl (t := 3) (kd := .i64) fok58 rfl rfl (fun w hw => Ra.of w _) (fun zs7 r7 hz7 hr7 => ?_)
  obtain ⟨hD7, hL7, hV7, hG7⟩ := of_facts hz7
  refine J.assign rfl rfl ?_
  refine J.end ?_
  refine X.then ?_
  refine T.seq ?_
  refine T.text [.l] rfl ?_
  refine J.alloc 4 rfl zero256 (rowN .i64 (List.replicate 256 0)) rfl rfl (fun g4 hg4 => ?_)
  refine J.end ?_
  refine X.then ?_
  refine T.seq ?_
  refine T.seq ?_
  refine T.text [.l] rfl ?_
  refine J.assign rfl rfl ?_
  refine J.end ?_
  refine X.then ?_
  refine T.block ?_
  refine T.loop (ι := Nat × List Nat) (fun ((i, ys) : Nat × List Nat) => i ≤ 256 ∧ ys.length = 256 ∧ ∀ q, q < i → ys.getD q 0 = x0 / 2 ^ q % 2) (fun ((i, ys) : Nat × List Nat) => [(0, W x0), (1, .pointer (some ⟨g1, 0, none⟩)), (2, .pointer (some ⟨g2, 0, none⟩)), (6, W x0), (7, r7.val zs7.length), (3, r7.val zs7.length), (4, .pointer (some ⟨g4, 0, none⟩)), (5, .int .i64 (i : Int))]) (fun ((i, ys) : Nat × List Nat) => [(1, ⟨some g1, 24, (wc x0)⟩), (2, ⟨some g2, 60, (rowN .i64 (List.replicate 256 0))⟩), (7, r7.ent 3 (rowN .i64 zs7)), (4, ⟨some g4, 60, rowN .i64 ys⟩)]) (fun ((i, ys) : Nat × List Nat) => 256 - i) ⟨0, (List.replicate 256 0)⟩ ⟨Nat.zero_le _, List.length_replicate, fun q hq => by omega⟩ (by repeat (first | exact Sub.nil _ | refine Sub.cons (by first | rfl | (rw [dgs_zero]; rfl) | (rw [List.drop_length]; rfl) | (simp; done) | (congr 2; omega) | (congr 3; omega)) ?_)) (by repeat (first | exact Sub.nil _ | refine Sub.cons (by first | rfl | (rw [dgs_zero]; rfl) | (rw [List.drop_length]; rfl) | (simp; done) | (congr 2; omega) | (congr 3; omega)) ?_)) ?_
  rintro ⟨i, ys⟩ ⟨hi, hl, hy⟩
  try dsimp only at *
  refine T.seq ?_
  refine T.seq ?_
  refine T.text [.l, .l] rfl ?_
  refine J.move rfl rfl ?_
  refine J.lss rfl rfl rfl rfl ?_
  refine J.end ?_
  refine X.then ?_
  refine T.cond_dec rfl (fun h1 => ?_) (fun h1 => ?_)
  · have hbt := bit_lt x0 i
    have hbm := bit_mod x0 i (by omega)
    refine T.skip ?_
    refine X.then ?_
    refine T.seq ?_
    refine T.block ?_
    refine T.text [.l, .l, .l, .l, .l, .l] rfl ?_
    refine J.move rfl rfl ?_
    refine J.move rfl rfl ?_
    refine J.move rfl rfl ?_
    refine J.call0 (k := .l) trivial fok69 rfl rfl (fun w hw => Re.bit w _ _ _ _ (hw.rowCs (k := 7) rfl) (by assumption) (by omega) (by omega)) ?_
    refine J.as 15 (.int .i64 ((x0 / 2 ^ i % 2 : Nat) : Int)) rfl (by rw [hV7, hbm]) ?_
    refine J.indexArr arr60 rfl rfl (by omega) (by omega) (by first | exact Int.toNat_natCast _ | rfl) rfl ?_
    refine J.store 4 rfl rfl rfl rfl [.int .i64 ((x0 / 2 ^ i % 2 : Nat) : Int)] rfl sz3 (by rw [rowN_length, hl]; show _ + 1 ≤ 256; omega) (by first | exact rowN_one _ _ | (simp; done) | (intro u hu; simp at hu; subst hu; rfl) | (intro u hu; simp at hu; rcases hu with rfl | rfl <;> rfl)) (by first | decide | exact Nat.zero_lt_succ _ | simp) trivial (rowN .i64 (ys.set i (x0 / 2 ^ i % 2))) (by rw [Nat.zero_add, Nat.mul_one]; exact putN' _ _ _ _ (by omega)) ?_
    refine J.end ?_
    refine X.inBlock (X.then ?_)
    refine T.text [.l, .l, .l] rfl ?_
    refine J.move rfl rfl ?_
    refine J.add rfl rfl rfl (by first | exact add_nat _ 1 (by omega) | exact i64_ok _ (by omega) | exact rfl) ?_
    refine J.assign rfl rfl ?_
    refine J.end ?_
    exact X.round ⟨(i + 1), (ys.set i (x0 / 2 ^ i % 2))⟩ ⟨by omega, by simp [hl], set_bits hl (by omega) hy rfl⟩ (by first | omega | (dsimp only; omega)) (by repeat (first | exact Sub.nil _ | refine Sub.cons (by first | rfl | (rw [dgs_zero]; rfl) | (rw [List.drop_length]; rfl) | (simp; done) | (congr 2; omega) | (congr 3; omega)) ?_)) (by repeat (first | exact Sub.nil _ | refine Sub.cons (by first | rfl | (rw [dgs_zero]; rfl) | (rw [List.drop_length]; rfl) | (simp; done) | (congr 2; omega) | (congr 3; omega)) ?_))
  · obtain rfl : i = 256 := by omega
    obtain rfl : ys = bitsL x0 256 := bitsL_of hl hy
    refine T.exit ?_
    refine X.then_exit (X.then_exit (X.inBlock_eq (X.then ?_)))
    refine T.seq ?_
    refine T.text [.l, .l] rfl ?_
    refine J.loadN (k := .l) trivial 4 rfl rfl agg60 (rowN .i64 (bitsL x0 256)) (by rw [rowN_length, bitsL_length]) (by rw [List.drop_zero]; exact List.take_of_length_le (by rw [rowN_length, bitsL_length]; omega)) rfl ?_
    refine J.store 2 rfl rfl rfl rfl (rowN .i64 (bitsL x0 256)) rfl (by rw [rowN_length, bitsL_length]; exact sz60) (by rw [rowN_length, bitsL_length]; exact Nat.le_refl _) (by first | exact rowN_one _ _ | (simp; done) | (intro u hu; simp at hu; subst hu; rfl) | (intro u hu; simp at hu; rcases hu with rfl | rfl <;> rfl)) (by rw [rowN_length, bitsL_length]; decide) trivial (rowN .i64 (bitsL x0 256)) (put_whole _ _ (by rw [rowN_length, rowN_length, List.length_replicate, bitsL_length])) ?_
    refine J.end ?_
    refine X.then ?_
    refine T.ret ?_
    exact X.ret1 rfl (RV.agg 2 rfl rfl agg60 (rowN .i64 (bitsL x0 256)) (by rw [rowN_length, bitsL_length]) (by rw [List.drop_zero]; exact List.take_of_length_le (by rw [rowN_length, bitsL_length]; exact Nat.le_refl _)) rfl) (fun w' hw' => ⟨rfl, hw'.sub (Sub.nil _)⟩)

theorem joined (w : World) (bs : List Nat) (hb : bs.length = 256) (hd : Dq 2 bs) :
    Calls Tryz.prog 72 [.agg (rowN .i64 bs).toArray].toArray w fun e w' => e = .returned (W (vq 2 bs)) ∧ WS w [] [] w' := by
  refine calls_of_T [] 26 [] Tryz.func72 rfl Tryz.ntmps72 (by simp) (WS.refl _ _) ?_
  refine T.seq ?_
  refine T.text [.l, .l] rfl ?_
  refine J.box 1 rfl rfl (rowN .i64 bs) rfl rfl (fun g1 hg1 => ?_)
  refine J.alloc 2 rfl zero24 [.int .u64 0, .int .u64 0, .int .u64 0, .int .u64 0] rfl rfl (fun g2 hg2 => ?_)
  refine J.end ?_
  refine X.then ?_
  refine T.seq ?_
  refine T.text [.l, .l] rfl ?_
  refine J.makeSlice 5 rfl (q := 32) (c0 := 32) Tryz.underlying48 el3 rfl rfl (by first | rfl | omega) (by first | rfl | omega) (by omega) (by omega) (by unfold maxLen; omega) rfl (fun g5 hg5 => ?_)
  refine J.assign rfl rfl ?_
  refine J.end ?_
  refine X.then ?_
  refine T.seq ?_
  refine T.seq ?_
  refine T.text [.l] rfl ?_
  refine J.assign rfl rfl ?_
  refine J.end ?_
  refine X.then ?_
  refine T.block ?_
  refine T.asE 5 ⟨some g5, 3, rowN .i64 (List.replicate 32 0)⟩ rfl (by rw [zeros_nat]) ?_
  refine T.loop (ι := Nat × List Nat) (fun ((u, ds) : Nat × List Nat) => u ≤ 256 ∧ ds.length = 32 ∧ ∀ q, q < 32 → ds.getD q 0 = digF (vq 2 bs) u q) (fun ((u, ds) : Nat × List Nat) => [(0, .agg (rowN .i64 bs).toArray), (1, .pointer (some ⟨g1, 0, none⟩)), (2, .pointer (some ⟨g2, 0, none⟩)), (5, .slice (hdOf (some g5)) 32 32), (3, .slice (hdOf (some g5)) 32 32), (4, .int .i64 ((u : Int) - 1))]) (fun ((u, ds) : Nat × List Nat) => [(1, ⟨some g1, 60, (rowN .i64 bs)⟩), (2, ⟨some g2, 24, [.int .u64 0, .int .u64 0, .int .u64 0, .int .u64 0]⟩), (5, ⟨some g5, 3, rowN .i64 ds⟩)]) (fun ((u, ds) : Nat × List Nat) => u) ⟨256, (List.replicate 32 0)⟩ ⟨Nat.le_refl _, List.length_replicate, fun q hq => by rw [digF_far _ _ _ (by omega)]; exact getD_replicate0 _ _⟩ (by repeat (first | exact Sub.nil _ | refine Sub.cons (by first | rfl | (rw [dgs_zero]; rfl) | (rw [List.drop_length]; rfl) | (simp; done) | (congr 2; omega) | (congr 3; omega)) ?_)) (by repeat (first | exact Sub.nil _ | refine Sub.cons (by first | rfl | (rw [dgs_zero]; rfl) | (rw [List.drop_length]; rfl) | (simp; done) | (congr 2; omega) | (congr 3; omega)) ?_)) ?_
  rintro ⟨u, ds⟩ ⟨hu, hl, hdg⟩
  try dsimp only at *
  refine T.seq ?_
  refine T.seq ?_
  refine T.text [.l, .l] rfl ?_
  refine J.move rfl rfl ?_
  refine J.geq rfl rfl rfl rfl ?_
  refine J.end ?_
  refine X.then ?_
  refine T.cond_dec rfl (fun h1 => ?_) (fun h1 => ?_)
  · obtain ⟨k, rfl⟩ : ∃ k, u = k + 1 := ⟨u - 1, by omega⟩
    refine T.as 4 (.int .i64 (k : Int)) rfl (by first | rfl | (congr 1; omega)) ?_
    have hk : k < 256 := by omega
    have hbk : bs.getD k 0 = vq 2 bs / 2 ^ k % 2 := vq_get (by omega) hd k
    have hbl := bit_lt (vq 2 bs) k
    have hdl : ds.getD (k / 8) 0 < 128 := by rw [hdg _ (by omega)]; exact digF_lt _ _ _ (by omega)
    refine T.skip ?_
    refine X.then ?_
    refine T.seq ?_
    refine T.block ?_
    refine T.draw [] [(0, .g), (1, .g), (2, .g), (3, .g), (4, .g), (5, .g), (6, .g), (7, .q), (8, .g), (9, .g), (10, .g), (11, .q), (12, .g), (13, .g), (14, .l)] (by kernel_rfl) (by kernel_rfl) ?_ (by repeat (first | exact Sub.nil _ | refine Sub.cons (by first | rfl | (rw [dgs_zero]; rfl) | (rw [List.drop_length]; rfl) | (simp; done) | (congr 2; omega) | (congr 3; omega)) ?_))
    refine J.move rfl rfl ?_
    refine J.move rfl rfl ?_
    refine J.quo rfl rfl rfl (by omega) (by first | exact quo_nat _ 8 (by omega) | exact i64_quo_ok _ _ (by omega) | exact rfl) ?_
    refine J.move rfl rfl ?_
    refine J.move rfl rfl ?_
    refine J.quo rfl rfl rfl (by omega) (by first | exact quo_nat _ 8 (by omega) | exact i64_quo_ok _ _ (by omega) | exact rfl) ?_
    refine J.indexRow sl48 rfl rfl rfl (by omega) (by omega) (by first | exact Int.toNat_natCast _ | rfl) rfl ?_
    refine J.load1 (k := .q) trivial 5 rfl rfl one3 (by first | rfl | with_reducible exact rowN_get0 _ _ _ (by omega) | with_reducible exact rowN_get1 _ _ _ (by omega) | with_reducible exact rowN_get1s _ _ _ _ (by omega) | exact rowN_get1 _ _ _ (by omega) | exact rowN_get1s _ _ _ _ (by omega) | exact rowN_get0 _ _ _ (by omega)) rfl ?_
    refine J.mul rfl rfl rfl (by first | exact mul_nat 2 _ (by omega) | exact i64_ok _ (by omega) | exact rfl) ?_
    refine J.move rfl rfl ?_
    refine J.indexArr arr60 rfl rfl (by omega) (by omega) (by first | exact Int.toNat_natCast _ | rfl) rfl ?_
    refine J.load1 (k := .q) trivial 1 rfl rfl one3 (by exact rowN_get0 _ _ _ (by omega)) rfl ?_
    refine J.add rfl rfl rfl (by first | exact add_nat _ _ (by omega) | exact i64_ok _ (by omega) | exact rfl) ?_
    refine J.indexRow sl48 rfl rfl rfl (by omega) (by omega) (by first | exact Int.toNat_natCast _ | rfl) rfl ?_
    refine J.store 5 rfl rfl rfl rfl [.int .i64 ((2 * ds.getD (k / 8) 0 + bs.getD k 0 : Nat) : Int)] rfl sz3 (by rw [rowN_length, hl]; show _ + 1 ≤ 32; omega) (by first | exact rowN_one _ _ | (simp; done) | (intro u hu; simp at hu; subst hu; rfl) | (intro u hu; simp at hu; rcases hu with rfl | rfl <;> rfl)) (by first | decide | exact Nat.zero_lt_succ _ | simp) trivial (rowN .i64 (ds.set (k / 8) (2 * ds.getD (k / 8) 0 + bs.getD k 0))) (by rw [Nat.mul_one]; exact putN' _ _ _ _ (by omega)) ?_
    refine J.end ?_
    refine X.inBlock (X.then ?_)
    refine T.text [.l, .l, .l] rfl ?_
    refine J.move rfl rfl ?_
    refine J.sub' rfl rfl rfl (by exact i64_ok _ (by omega)) ?_
    refine J.assign rfl rfl ?_
    refine J.end ?_
    exact X.round ⟨k, (ds.set (k / 8) (2 * ds.getD (k / 8) 0 + bs.getD k 0))⟩ ⟨by omega, by simp [hl], dig_step hl hk hdg hbk⟩ (by first | omega | (dsimp only; omega)) (by repeat (first | exact Sub.nil _ | refine Sub.cons (by first | rfl | (rw [dgs_zero]; rfl) | (rw [List.drop_length]; rfl) | (simp; done) | (congr 2; omega) | (congr 3; omega)) ?_)) (by repeat (first | exact Sub.nil _ | refine Sub.cons (by first | rfl | (rw [dgs_zero]; rfl) | (rw [List.drop_length]; rfl) | (simp; done) | (congr 2; omega) | (congr 3; omega)) ?_))
  · obtain rfl : u = 0 := by omega
    obtain rfl : ds = dgs (vq 2 bs) 32 := dgs_of hl hdg
    have hdd := dgs_dg (vq 2 bs) 32
    have hdv := dgs_vl32 (vq 2 bs)
    refine T.exit ?_
    refine X.then_exit (X.then_exit (X.inBlock_eq (X.then ?_)))
    refine T.seq ?_
    refine T.text [.l, .l, .l] rfl ?_
    refine J.move rfl rfl ?_
    refine J.as 24 (.slice (hdOf (some g5)) (dgs (vq 2 bs) 32).length 32) rfl (by rw [dgs_length]) ?_
    refine J.call0 (k := .l) trivial fok56 rfl rfl (fun w hw => Ra.word w _ _ (dgs (vq 2 bs) 32) (hw.csOf (k := 5) rfl 0 (rowN .i64 (dgs (vq 2 bs) 32)) (fun i x hx => by rw [Nat.zero_add]; exact hx)) hdd (by rw [dgs_length]; decide)) ?_
    refine J.store 2 rfl rfl rfl rfl (wc (vl (dgs (vq 2 bs) 32))) rfl sz24 (by first | decide | exact Nat.le_refl _ | exact Nat.le_of_ble_eq_true rfl | (simp [rowN]; done) | (simp [rowN]; omega)) (by first | exact rowN_one _ _ | (simp; done) | (intro u hu; simp at hu; subst hu; rfl) | (intro u hu; simp at hu; rcases hu with rfl | rfl <;> rfl)) (by first | decide | exact Nat.zero_lt_succ _ | simp) trivial (wc (vl (dgs (vq 2 bs) 32))) rfl ?_
    refine J.end ?_
    refine X.then ?_
    refine T.ret ?_
    exact X.ret1 rfl (RV.agg 2 rfl rfl agg24 (wc (vl (dgs (vq 2 bs) 32))) (by rfl) (by rfl) rfl) (fun w' hw' => ⟨retW (by rw [hdv, Nat.mod_mod]), hw'.sub (Sub.nil _)⟩)

theorem upTo (w : World) (x0 m : Nat) (hm : m ≤ 65536) :
    Calls Tryz.prog 70 [W x0, .int .i64 (m : Int)].toArray w fun e w' => e = .returned (.int .i64 ((min m (x0 % 2 ^ 256) : Nat) : Int)) ∧ WS w [] [] w' := by
  refine calls_of_T [] 28 [] Tryz.func70 rfl Tryz.ntmps70 (by simp) (WS.refl _ _) ?_
  refine T.seq ?_
  refine T.text [.l, .l] rfl ?_
  refine J.box 2 rfl rfl (wc x0) rfl rfl (fun g2 hg2 => ?_)
  refine J.assign rfl rfl ?_
  refine J.end ?_
  refine X.then ?_
  refine T.seq ?_
  refine T.text [.l, .l, .l] rfl ?_
  refine J.loadN (k := .l) trivial 2 rfl rfl agg24 (wc x0) rfl rfl rfl ?_
  refine J.callRow 9 rfl (t := 3) (kd := .i64) fok58 rfl rfl (fun w hw => Ra.of w _) (fun zs9 r9 hz9 hr9 => ?_)
  obtain ⟨hD9, hL9, hV9, hG9⟩ := of_facts hz9
  refine J.assign rfl rfl ?_
  refine J.end ?_
  refine X.then ?_
  refine T.seq ?_
  refine T.seq ?_
  refine T.text [.l, .l, .l, .l, .l] rfl ?_
  refine J.move rfl rfl ?_
  refine J.move rfl rfl ?_
  refine J.callRow 12 rfl (t := 3) (kd := .i64) fok67 rfl rfl (fun w hw => Rc.small w _ (by omega)) (fun zs12 r12 hz12 hr12 => ?_)
  obtain ⟨hD12, hL12, hV12⟩ := hz12
  refine J.call0 (k := .l) trivial fok102 rfl rfl (fun w hw => Ra.compare w _ _ _ (hw.rowCs (k := 9) rfl) _ _ _ (hw.rowCs (k := 12) rfl) (by assumption) (by omega) (by assumption) (by omega)) ?_
  refine J.geq rfl rfl rfl rfl ?_
  refine J.end ?_
  refine X.then ?_
  refine T.cond_dec rfl (fun h1 => ?_) (fun h1 => ?_)
  · have hge := cmpN_ge h1
    refine T.seq ?_
    refine T.text [.l, .l] rfl ?_
    refine J.move rfl rfl ?_
    refine J.assign rfl rfl ?_
    refine J.end ?_
    refine X.then ?_
    refine T.ret ?_
    refine X.then_ret ?_
    exact X.ret1 rfl (RV.tmp rfl) (fun w' hw' => ⟨by congr 2; omega, hw'.sub (Sub.nil _)⟩)
  · have hlt := cmpN_nge h1
    have hsm : x0 % 2 ^ 256 < m := by omega
    refine T.skip ?_
    refine X.then ?_
    refine T.seq ?_
    refine T.text [.l] rfl ?_
    refine J.assign rfl rfl ?_
    refine J.end ?_
    refine X.then ?_
    refine T.seq ?_
    refine T.seq ?_
    refine T.text [.l] rfl ?_
    refine J.assign rfl rfl ?_
    refine J.end ?_
    refine X.then ?_
    refine T.block ?_
    refine T.as 6 (.int .i64 ((x0 % 2 ^ 256 / 256 ^ 32 : Nat) : Int)) rfl (by rw [Nat.div_eq_of_lt (Nat.mod_lt _ (by decide))]; rfl) ?_
    refine T.loop (ι := Nat) (fun (u : Nat) => u ≤ 32) (fun (u : Nat) => [(0, W x0), (1, .int .i64 (m : Int)), (2, .pointer (some ⟨g2, 0, none⟩)), (4, .int .i64 0), (8, W x0), (9, r9.val zs9.length), (5, r9.val zs9.length), (10, r9.val zs9.length), (11, .int .i64 (m : Int)), (12, r12.val zs12.length), (7, .int .i64 ((u : Int) - 1)), (6, .int .i64 ((x0 % 2 ^ 256 / 256 ^ u : Nat) : Int))]) (fun (u : Nat) => [(2, ⟨some g2, 24, (wc x0)⟩), (9, r9.ent 3 (rowN .i64 zs9)), (12, r12.ent 3 (rowN .i64 zs12))]) (fun (u : Nat) => u) 32 (Nat.le_refl _) (by repeat (first | exact Sub.nil _ | refine Sub.cons (by first | rfl | (rw [dgs_zero]; rfl) | (rw [List.drop_length]; rfl) | (simp; done) | (congr 2; omega) | (congr 3; omega)) ?_)) (by repeat (first | exact Sub.nil _ | refine Sub.cons (by first | rfl | (rw [dgs_zero]; rfl) | (rw [List.drop_length]; rfl) | (simp; done) | (congr 2; omega) | (congr 3; omega)) ?_)) ?_
    rintro u hu
    have hdl : x0 % 2 ^ 256 / 256 ^ u ≤ x0 % 2 ^ 256 := Nat.div_le_self _ _
    refine T.seq ?_
    refine T.seq ?_
    refine T.text [.l, .l] rfl ?_
    refine J.move rfl rfl ?_
    refine J.geq rfl rfl rfl rfl ?_
    refine J.end ?_
    refine X.then ?_
    refine T.cond_dec rfl (fun h2 => ?_) (fun h2 => ?_)
    · obtain ⟨k, rfl⟩ : ∃ k, u = k + 1 := ⟨u - 1, by omega⟩
      refine T.as 7 (.int .i64 (k : Int)) rfl (by first | rfl | (congr 1; omega)) ?_
      have hk : k < 32 := by omega
      have hts := top_step (x0 % 2 ^ 256) k
      have hdm := dig_mod (x := x0) hk
      have hgk := hG9 k hk
      have hml := Nat.mod_lt (x0 / 256 ^ k) (show 256 > 0 by omega)
      refine T.skip ?_
      refine X.then ?_
      refine T.seq ?_
      refine T.block ?_
      refine T.text [.l, .l, .l, .l, .l, .l, .l, .l] rfl ?_
      refine J.move rfl rfl ?_
      refine J.mul rfl rfl rfl (by first | exact mul_nat 256 _ (by omega) | exact i64_ok _ (by omega) | exact rfl) ?_
      refine J.move rfl rfl ?_
      refine J.move rfl rfl ?_
      refine J.indexRow sl48 rfl (hr9.some (by omega)) rfl (by omega) (by omega) (by first | exact Int.toNat_natCast _ | rfl) rfl ?_
      refine J.load1 (k := .l) trivial 9 rfl rfl one3 (by first | rfl | with_reducible exact rowN_get0 _ _ _ (by omega) | with_reducible exact rowN_get1 _ _ _ (by omega) | with_reducible exact rowN_get1s _ _ _ _ (by omega) | exact rowN_get1 _ _ _ (by omega) | exact rowN_get1s _ _ _ _ (by omega) | exact rowN_get0 _ _ _ (by omega)) rfl ?_
      refine J.as 25 (.int .i64 ((x0 / 256 ^ k % 256 : Nat) : Int)) rfl (by rw [hgk]) ?_
      refine J.add rfl rfl rfl (by first | exact add_nat _ _ (by omega) | exact i64_ok _ (by omega) | exact rfl) ?_
      refine J.as 26 (.int .i64 ((x0 % 2 ^ 256 / 256 ^ k : Nat) : Int)) rfl (by congr 2; omega) ?_
      refine J.assign rfl rfl ?_
      refine J.end ?_
      refine X.inBlock (X.then ?_)
      refine T.text [.l, .l, .l] rfl ?_
      refine J.move rfl rfl ?_
      refine J.sub' rfl rfl rfl (by exact i64_ok _ (by omega)) ?_
      refine J.assign rfl rfl ?_
      refine J.end ?_
      exact X.round k (by omega) (by first | omega | (dsimp only; omega)) (by repeat (first | exact Sub.nil _ | refine Sub.cons (by first | rfl | (rw [dgs_zero]; rfl) | (rw [List.drop_length]; rfl) | (simp; done) | (congr 2; omega) | (congr 3; omega)) ?_)) (by repeat (first | exact Sub.nil _ | refine Sub.cons (by first | rfl | (rw [dgs_zero]; rfl) | (rw [List.drop_length]; rfl) | (simp; done) | (congr 2; omega) | (congr 3; omega)) ?_))
    · obtain rfl : u = 0 := by omega
      refine T.exit ?_
      refine X.then_exit (X.then_exit (X.inBlock_eq (X.then ?_)))
      refine T.seq ?_
      refine T.text [.l, .l] rfl ?_
      refine J.move rfl rfl ?_
      refine J.assign rfl rfl ?_
      refine J.end ?_
      refine X.then ?_
      refine T.ret ?_
      exact X.ret1 rfl (RV.tmp rfl) (fun w' hw' => ⟨by rw [Nat.pow_zero, Nat.div_one]; congr 2; omega, hw'.sub (Sub.nil _)⟩)
end Go.Proofs.YtegociefcfcihaaGreatDoor.Rk
