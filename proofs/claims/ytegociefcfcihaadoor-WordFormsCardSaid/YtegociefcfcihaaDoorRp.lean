/-
  Walks, printed by gen.py: what each function hands back, said of numbers.
  Conditions: those that each theorem bears.
-/
import Derived.Test.YtegociefcfcihaaDoorChecked
import Derived.Test.YtegociefcfcihaaDoorFn
import Derived.Test.YtegociefcfcihaaDoorPq
import Derived.Test.YtegociefcfcihaaDoorWa
import Derived.Test.YtegociefcfcihaaDoorRa
import Derived.Test.YtegociefcfcihaaDoorRc
set_option linter.unusedVariables false
set_option maxRecDepth 20000
namespace Go.Proofs.YtegociefcfcihaaDoor.Rp
open Go Go.Fw

theorem sz39 : SizeT Tryd.prog 39 32 := (by unfold SizeT; kernel_rfl)
theorem zero8 : ZeroT Tryd.prog 67 (.agg (rowN .u64 (lg 0)).toArray) := (by unfold ZeroT; kernel_rfl)
theorem one25 : OneT Tryd.prog 25 := ⟨⟨_, Tryd.underlying25, rfl⟩, by kernel_rfl⟩
theorem one27 : OneT Tryd.prog 27 := ⟨⟨_, Tryd.underlying27, rfl⟩, by kernel_rfl⟩
theorem fok153 : FnOk Tryd.prog 153 := FnOk.mk' Tryd.func153 (by kernel_rfl) rfl
theorem fok23 : FnOk Tryd.prog 23 := FnOk.mk' Tryd.func23 (by kernel_rfl) rfl
theorem fok27 : FnOk Tryd.prog 27 := FnOk.mk' Tryd.func27 (by kernel_rfl) rfl
theorem fok25 : FnOk Tryd.prog 25 := FnOk.mk' Tryd.func25 (by kernel_rfl) rfl
theorem fok29 : FnOk Tryd.prog 29 := FnOk.mk' Tryd.func29 (by kernel_rfl) rfl
theorem fok34 : FnOk Tryd.prog 34 := FnOk.mk' Tryd.func34 (by kernel_rfl) rfl
theorem fok31 : FnOk Tryd.prog 31 := FnOk.mk' Tryd.func31 (by kernel_rfl) rfl
theorem fok36 : FnOk Tryd.prog 36 := FnOk.mk' Tryd.func36 (by kernel_rfl) rfl
theorem fok46 : FnOk Tryd.prog 46 := FnOk.mk' Tryd.func46 (by kernel_rfl) rfl
theorem fok48 : FnOk Tryd.prog 48 := FnOk.mk' Tryd.func48 (by kernel_rfl) rfl
theorem fok50 : FnOk Tryd.prog 50 := FnOk.mk' Tryd.func50 (by kernel_rfl) rfl
theorem fok44 : FnOk Tryd.prog 44 := FnOk.mk' Tryd.func44 (by kernel_rfl) rfl
theorem fok155 : FnOk Tryd.prog 155 := FnOk.mk' Tryd.func155 (by kernel_rfl) rfl
theorem fok54 : FnOk Tryd.prog 54 := FnOk.mk' Tryd.func54 (by kernel_rfl) rfl
theorem fok55 : FnOk Tryd.prog 55 := FnOk.mk' Tryd.func55 (by kernel_rfl) rfl
theorem fok38 : FnOk Tryd.prog 38 := FnOk.mk' Tryd.func38 (by kernel_rfl) rfl
theorem fok40 : FnOk Tryd.prog 40 := FnOk.mk' Tryd.func40 (by kernel_rfl) rfl
theorem fok79 : FnOk Tryd.prog 79 := FnOk.mk' Tryd.func79 (by kernel_rfl) rfl
theorem fok157 : FnOk Tryd.prog 157 := FnOk.mk' Tryd.func157 (by kernel_rfl) rfl
theorem fok62 : FnOk Tryd.prog 62 := FnOk.mk' Tryd.func62 (by kernel_rfl) rfl
theorem fok64 : FnOk Tryd.prog 64 := FnOk.mk' Tryd.func64 (by kernel_rfl) rfl
theorem fok66 : FnOk Tryd.prog 66 := FnOk.mk' Tryd.func66 (by kernel_rfl) rfl
theorem fok158 : FnOk Tryd.prog 158 := FnOk.mk' Tryd.func158 (by kernel_rfl) rfl
theorem fok69 : FnOk Tryd.prog 69 := FnOk.mk' Tryd.func69 (by kernel_rfl) rfl
theorem fok59 : FnOk Tryd.prog 59 := FnOk.mk' Tryd.func59 (by kernel_rfl) rfl
theorem fok60 : FnOk Tryd.prog 60 := FnOk.mk' Tryd.func60 (by kernel_rfl) rfl
theorem fok42 : FnOk Tryd.prog 42 := FnOk.mk' Tryd.func42 (by kernel_rfl) rfl
theorem fok159 : FnOk Tryd.prog 159 := FnOk.mk' Tryd.func159 (by kernel_rfl) rfl
theorem func98T : FuncT Tryd.prog 98 := ⟨_, _, _, Tryd.underlying98⟩
theorem fok148 : FnOk Tryd.prog 148 := FnOk.mk' Tryd.func148 (by kernel_rfl) rfl
theorem zero256 : ZeroT Tryd.prog 78 (.agg (rowN .i64 (List.replicate 256 0)).toArray) := (by unfold ZeroT; kernel_rfl)
theorem sz78 : SizeT Tryd.prog 78 256 := (by unfold SizeT; kernel_rfl)
theorem zero20 : ZeroT Tryd.prog 48 (.agg (rowN .u8 (List.replicate 20 0)).toArray) := (by unfold ZeroT; kernel_rfl)
theorem sz48 : SizeT Tryd.prog 48 20 := (by unfold SizeT; kernel_rfl)
theorem agg24 : AggT Tryd.prog 24 4 := ⟨⟨_, Tryd.underlying24, rfl⟩, by kernel_rfl⟩
theorem fok75 : FnOk Tryd.prog 75 := FnOk.mk' Tryd.func75 (by kernel_rfl) rfl
theorem agg48 : AggT Tryd.prog 48 20 := ⟨⟨_, Tryd.underlying48, rfl⟩, by kernel_rfl⟩
theorem fok88 : FnOk Tryd.prog 88 := FnOk.mk' Tryd.func88 (by kernel_rfl) rfl
theorem zero39 : ZeroT Tryd.prog 39 (.agg ([.int .u8 0, .int .u8 0, .int .u8 0, .int .u8 0, .int .u8 0, .int .u8 0, .int .u8 0, .int .u8 0, .int .u8 0, .int .u8 0, .int .u8 0, .int .u8 0, .int .u8 0, .int .u8 0, .int .u8 0, .int .u8 0, .int .u8 0, .int .u8 0, .int .u8 0, .int .u8 0, .int .u8 0, .int .u8 0, .int .u8 0, .int .u8 0, .int .u8 0, .int .u8 0, .int .u8 0, .int .u8 0, .int .u8 0, .int .u8 0, .int .u8 0, .int .u8 0]).toArray) := (by unfold ZeroT; kernel_rfl)
theorem sz5 : SizeT Tryd.prog 5 1 := (by unfold SizeT; kernel_rfl)
theorem arr39 : ArrT Tryd.prog 39 32 5 1 := ⟨Tryd.underlying39, sz5⟩
theorem fok76 : FnOk Tryd.prog 76 := FnOk.mk' Tryd.func76 (by kernel_rfl) rfl
theorem fok110 : FnOk Tryd.prog 110 := FnOk.mk' Tryd.func110 (by kernel_rfl) rfl
theorem sz3 : SizeT Tryd.prog 3 1 := (by unfold SizeT; kernel_rfl)
theorem sl62 : SlT Tryd.prog 62 3 1 := ⟨Tryd.underlying62, sz3⟩
theorem one3 : OneT Tryd.prog 3 := ⟨⟨_, Tryd.underlying3, rfl⟩, by kernel_rfl⟩
theorem arr48 : ArrT Tryd.prog 48 20 5 1 := ⟨Tryd.underlying48, sz5⟩
theorem zero24 : ZeroT Tryd.prog 24 (.agg ([.int .u64 0, .int .u64 0, .int .u64 0, .int .u64 0]).toArray) := (by unfold ZeroT; kernel_rfl)
theorem fok90 : FnOk Tryd.prog 90 := FnOk.mk' Tryd.func90 (by kernel_rfl) rfl
theorem sz24 : SizeT Tryd.prog 24 4 := (by unfold SizeT; kernel_rfl)
theorem one5 : OneT Tryd.prog 5 := ⟨⟨_, Tryd.underlying5, rfl⟩, by kernel_rfl⟩
theorem el3 : ElT Tryd.prog 3 1 8 (.int .i64 0) := ⟨by kernel_rfl, rfl, by decide, by decide⟩
theorem fok108 : FnOk Tryd.prog 108 := FnOk.mk' Tryd.func108 (by kernel_rfl) rfl

theorem ToAddress (w : World) (x0 : Nat) :
    Calls Tryd.prog 95 [W x0].toArray w fun e w' => e = .returned (.tuple #[.agg (rowN .u8 (addrN x0)).toArray, .bool (decide (¬ sizeN x0 > 20))]) ∧ WS w [] [] w' := by
  refine calls_of_T [] 14 [] Tryd.func95 rfl Tryd.ntmps95 (by simp) (WS.refl _ _) ?_
  refine T.seq ?_
  refine T.text [.l, .l, .l] rfl ?_
  refine J.box 1 rfl rfl (wc x0) rfl rfl (fun g1 hg1 => ?_)
  refine J.alloc 2 rfl zero20 (rowN .u8 (List.replicate 20 0)) rfl rfl (fun g2 hg2 => ?_)
  refine J.assign rfl rfl ?_
  refine J.end ?_
  refine X.then ?_
  refine T.seq ?_
  refine T.seq ?_
  refine T.text [.l, .l, .l] rfl ?_
  refine J.loadN (k := .l) trivial 1 rfl rfl agg24 (wc x0) rfl rfl rfl ?_
  refine J.call0 (k := .l) trivial fok75 rfl rfl (fun w hw => Wa.Size w _) ?_
  refine J.gtr rfl rfl rfl rfl ?_
  refine J.end ?_
  refine X.then ?_
  refine T.cond_dec rfl (fun h1 => ?_) (fun h1 => ?_)
  · skip
    refine T.seq ?_
    refine T.text [.l, .l, .l] rfl ?_
    refine J.build rfl rfl (.agg (rowN .u8 (List.replicate 20 0)).toArray) (fun w => by kernel_rfl) ?_
    refine J.store 2 rfl rfl rfl rfl (rowN .u8 (List.replicate 20 0)) rfl (by rw [rowN_length, List.length_replicate]; exact sz48) (by rw [rowN_length, List.length_replicate]; exact Nat.le_refl _) (by first | exact rowN_one _ _ | (simp; done) | (intro u hu; simp at hu; subst hu; rfl) | (intro u hu; simp at hu; rcases hu with rfl | rfl <;> rfl)) (by rw [rowN_length, List.length_replicate]; decide) trivial (rowN .u8 (List.replicate 20 0)) (put_all _ _ (by simp [rowN])) ?_
    refine J.assign rfl rfl ?_
    refine J.end ?_
    refine X.then ?_
    refine T.ret ?_
    refine X.then_ret ?_
    exact X.ret2 rfl (RV.agg 2 rfl rfl agg48 (rowN .u8 (List.replicate 20 0)) (by rw [rowN_length]; first | exact drop12_length _ | exact List.length_replicate) (by rw [List.drop_zero]; exact List.take_of_length_le (by rw [rowN_length]; first | (rw [drop12_length]; exact Nat.le_refl _) | exact Nat.le_of_eq List.length_replicate)) rfl) (RV.tmp rfl) (fun w' hw' => ⟨by unfold addrN; rw [if_pos (by omega), decide_eq_false (by omega)], hw'.sub (Sub.nil _)⟩)
  · skip
    refine T.skip ?_
    refine X.then ?_
    refine T.seq ?_
    refine T.text [.l, .l, .l, .l] rfl ?_
    refine J.loadN (k := .l) trivial 1 rfl rfl agg24 (wc x0) rfl rfl rfl ?_
    refine J.call0 (k := .l) trivial fok88 rfl rfl (fun w hw => Wa.Bytes w _) ?_
    refine J.alloc 4 rfl zero39 [.int .u8 0, .int .u8 0, .int .u8 0, .int .u8 0, .int .u8 0, .int .u8 0, .int .u8 0, .int .u8 0, .int .u8 0, .int .u8 0, .int .u8 0, .int .u8 0, .int .u8 0, .int .u8 0, .int .u8 0, .int .u8 0, .int .u8 0, .int .u8 0, .int .u8 0, .int .u8 0, .int .u8 0, .int .u8 0, .int .u8 0, .int .u8 0, .int .u8 0, .int .u8 0, .int .u8 0, .int .u8 0, .int .u8 0, .int .u8 0, .int .u8 0, .int .u8 0] rfl rfl (fun g4 hg4 => ?_)
    refine J.store 4 rfl rfl rfl rfl (rowN .u8 (bytesN x0)) rfl (by rw [rowN_length, bytesN_length]; exact sz39) (by rw [rowN_length, bytesN_length]; exact Nat.le_refl _) (by first | exact rowN_one _ _ | (simp; done) | (intro u hu; simp at hu; subst hu; rfl) | (intro u hu; simp at hu; rcases hu with rfl | rfl <;> rfl)) (by rw [rowN_length, bytesN_length]; decide) trivial (rowN .u8 (bytesN x0)) (by unfold put; rw [rowN_length, bytesN_length]; exact List.append_nil _) ?_
    refine J.end ?_
    refine X.then ?_
    refine T.seq ?_
    refine T.text [.l, .l, .l, .l, .l] rfl ?_
    refine J.sliceArr arr39 rfl (optInt.some rfl (by omega) (by rfl)) optInt.none optInt.none (by simp) (by omega) (by omega) (by omega) rfl rfl ?_
    refine J.as 11 (.slice (some ⟨g4, 12, none⟩) 20 20) rfl (by rfl) ?_
    refine J.toArr Tryd.underlying48 rfl (by decide) rfl ?_
    refine J.loadN (k := .l) trivial 4 rfl rfl agg48 (rowN .u8 ((bytesN x0).drop 12)) (by rw [rowN_length, drop12_length]) (drop12_cells _) rfl ?_
    refine J.store 2 rfl rfl rfl rfl (rowN .u8 ((bytesN x0).drop 12)) rfl (by rw [rowN_length, drop12_length]; exact sz48) (by rw [rowN_length, drop12_length]; exact Nat.le_refl _) (by first | exact rowN_one _ _ | (simp; done) | (intro u hu; simp at hu; subst hu; rfl) | (intro u hu; simp at hu; rcases hu with rfl | rfl <;> rfl)) (by rw [rowN_length, drop12_length]; decide) trivial (rowN .u8 ((bytesN x0).drop 12)) (put_all _ _ (by simp [rowN, bytesN_length])) ?_
    refine J.assign rfl rfl ?_
    refine J.end ?_
    refine X.then ?_
    refine T.ret ?_
    exact X.ret2 rfl (RV.agg 2 rfl rfl agg48 (rowN .u8 ((bytesN x0).drop 12)) (by rw [rowN_length]; first | exact drop12_length _ | exact List.length_replicate) (by rw [List.drop_zero]; exact List.take_of_length_le (by rw [rowN_length]; first | (rw [drop12_length]; exact Nat.le_refl _) | exact Nat.le_of_eq List.length_replicate)) rfl) (RV.tmp rfl) (fun w' hw' => ⟨by unfold addrN; rw [if_neg (by omega), decide_eq_true (by omega)], hw'.sub (Sub.nil _)⟩)

theorem ToAddressR (w : World) (x0 : Nat) :
    Calls Tryd.prog 96 [W x0].toArray w fun e w' => e = .returned (.tuple #[.agg (rowN .u8 (addrN x0)).toArray, .bool (decide (¬ sizeN x0 > 20))]) ∧ WS w [] [] w' := by
  refine calls_of_T [] 26 [] Tryd.func96 rfl Tryd.ntmps96 (by simp) (WS.refl _ _) ?_
  refine T.seq ?_
  refine T.text [.l, .l, .l] rfl ?_
  refine J.box 1 rfl rfl (wc x0) rfl rfl (fun g1 hg1 => ?_)
  refine J.alloc 2 rfl zero20 (rowN .u8 (List.replicate 20 0)) rfl rfl (fun g2 hg2 => ?_)
  refine J.assign rfl rfl ?_
  refine J.end ?_
  refine X.then ?_
  refine T.seq ?_
  refine T.text [.l] rfl ?_
  refine J.alloc 4 rfl zero20 (rowN .u8 (List.replicate 20 0)) rfl rfl (fun g4 hg4 => ?_)
  refine J.end ?_
  refine X.then ?_
  refine T.seq ?_
  refine T.seq ?_
  refine T.text [.l, .l, .l] rfl ?_
  refine J.loadN (k := .l) trivial 1 rfl rfl agg24 (wc x0) rfl rfl rfl ?_
  refine J.call0 (k := .l) trivial fok76 rfl rfl (fun w hw => Ra.Size w _) ?_
  refine J.gtr rfl rfl rfl rfl ?_
  refine J.end ?_
  refine X.then ?_
  refine T.cond_dec rfl (fun h1 => ?_) (fun h1 => ?_)
  · skip
    refine T.seq ?_
    refine T.text [.l, .l, .l] rfl ?_
    refine J.loadN (k := .l) trivial 4 rfl rfl agg48 (rowN .u8 (List.replicate 20 0)) (by rw [rowN_length]; exact List.length_replicate) (by rw [List.drop_zero]; exact List.take_of_length_le (by rw [rowN_length]; exact Nat.le_of_eq List.length_replicate)) rfl ?_
    refine J.store 2 rfl rfl rfl rfl (rowN .u8 (List.replicate 20 0)) rfl (by rw [rowN_length, List.length_replicate]; exact sz48) (by rw [rowN_length, List.length_replicate]; exact Nat.le_refl _) (by first | exact rowN_one _ _ | (simp; done) | (intro u hu; simp at hu; subst hu; rfl) | (intro u hu; simp at hu; rcases hu with rfl | rfl <;> rfl)) (by rw [rowN_length, List.length_replicate]; decide) trivial (rowN .u8 (List.replicate 20 0)) (put_all _ _ (by simp [rowN])) ?_
    refine J.assign rfl rfl ?_
    refine J.end ?_
    refine X.then ?_
    refine T.ret ?_
    refine X.then_ret ?_
    exact X.ret2 rfl (RV.agg 2 rfl rfl agg48 (rowN .u8 (List.replicate 20 0)) (by rw [rowN_length]; first | exact drop12_length _ | exact List.length_replicate) (by rw [List.drop_zero]; exact List.take_of_length_le (by rw [rowN_length]; first | (rw [drop12_length]; exact Nat.le_refl _) | exact Nat.le_of_eq List.length_replicate)) rfl) (RV.tmp rfl) (fun w' hw' => ⟨by unfold addrN; rw [if_pos (by omega), decide_eq_false (by omega)], hw'.sub (Sub.nil _)⟩)
  · skip
    refine T.skip ?_
    refine X.then ?_
    refine T.seq ?_
    refine T.text [.l, .l, .l] rfl ?_
    refine J.loadN (k := .l) trivial 1 rfl rfl agg24 (wc x0) rfl rfl rfl ?_
    refine J.callRow 12 rfl (t := 3) (kd := .i64) fok110 rfl rfl (fun w hw => Ra.of w _) (fun zs12 r12 hz12 hr12 => ?_)
    obtain ⟨hD12, hL12, hV12, hG12⟩ := of_facts hz12
    refine J.assign rfl rfl ?_
    refine J.end ?_
    refine X.then ?_
    refine T.seq ?_
    refine T.seq ?_
    refine T.text [.l] rfl ?_
    refine J.assign rfl rfl ?_
    refine J.end ?_
    refine X.then ?_
    refine T.block ?_
    refine T.loop (ι := Nat × List Nat) (fun ((i, ys) : Nat × List Nat) => i ≤ 20 ∧ ys.length = 20 ∧ ∀ q, q < i → ys.getD q 0 = x0 / 256 ^ (19 - q) % 256) (fun ((i, ys) : Nat × List Nat) => [(0, W x0), (1, .pointer (some ⟨g1, 0, none⟩)), (2, .pointer (some ⟨g2, 0, none⟩)), (3, .bool false), (4, .pointer (some ⟨g4, 0, none⟩)), (7, W x0), (11, W x0), (12, r12.val zs12.length), (5, r12.val zs12.length), (6, .int .i64 (i : Int))]) (fun ((i, ys) : Nat × List Nat) => [(1, ⟨some g1, 24, (wc x0)⟩), (2, ⟨some g2, 48, (rowN .u8 (List.replicate 20 0))⟩), (12, r12.ent 3 (rowN .i64 zs12)), (4, ⟨some g4, 48, rowN .u8 ys⟩)]) (fun ((i, ys) : Nat × List Nat) => 20 - i) ⟨0, (List.replicate 20 0)⟩ ⟨Nat.zero_le _, List.length_replicate, fun q hq => by omega⟩ (by repeat (first | exact Sub.nil _ | refine Sub.cons (by first | rfl | (rw [dgs_zero]; rfl) | (rw [List.drop_length]; rfl) | (simp; done) | (congr 2; omega) | (congr 3; omega)) ?_)) (by repeat (first | exact Sub.nil _ | refine Sub.cons (by first | rfl | (rw [dgs_zero]; rfl) | (rw [List.drop_length]; rfl) | (simp; done) | (congr 2; omega) | (congr 3; omega)) ?_)) ?_
    rintro ⟨i, ys⟩ ⟨hi, hl, hy⟩
    try dsimp only at *
    refine T.seq ?_
    refine T.seq ?_
    refine T.text [.l, .l] rfl ?_
    refine J.move rfl rfl ?_
    refine J.lss rfl rfl rfl rfl ?_
    refine J.end ?_
    refine X.then ?_
    refine T.cond_dec rfl (fun h2 => ?_) (fun h2 => ?_)
    · have hg := hG12 (19 - i) (by omega)
      have hml := Nat.mod_lt (x0 / 256 ^ (19 - i)) (show 256 > 0 by omega)
      refine T.skip ?_
      refine X.then ?_
      refine T.seq ?_
      refine T.block ?_
      refine T.text [.l, .l, .l, .l, .l, .l, .l, .l, .l] rfl ?_
      refine J.move rfl rfl ?_
      refine J.move rfl rfl ?_
      refine J.move rfl rfl ?_
      refine J.sub' rfl rfl rfl (by first | exact sub_nat 19 _ (by omega) | exact i64_ok _ (by omega) | exact rfl) ?_
      refine J.indexRow sl62 rfl (hr12.some (by omega)) rfl (by omega) (by omega) (by first | exact Int.toNat_natCast _ | rfl) rfl ?_
      refine J.load1 (k := .l) trivial 12 rfl rfl one3 (by first | rfl | with_reducible exact rowN_get0 _ _ _ (by omega) | with_reducible exact rowN_get1 _ _ _ (by omega) | with_reducible exact rowN_get1s _ _ _ _ (by omega) | exact rowN_get1 _ _ _ (by omega) | exact rowN_get1s _ _ _ _ (by omega) | exact rowN_get0 _ _ _ (by omega)) rfl ?_
      refine J.as 22 (.int .i64 ((x0 / 256 ^ (19 - i) % 256 : Nat) : Int)) rfl (by rw [hg]) ?_
      refine J.conv (by rw [Tryd.underlying3]; rfl) Tryd.underlying5 rfl rfl (by exact wrap8_nat' _ (by omega)) ?_
      refine J.indexArr arr48 rfl rfl (by omega) (by omega) (by first | exact Int.toNat_natCast _ | rfl) rfl ?_
      refine J.store 4 rfl rfl rfl rfl [.int .u8 ((x0 / 256 ^ (19 - i) % 256 : Nat) : Int)] rfl sz5 (by rw [rowN_length, hl]; show _ + 1 ≤ 20; omega) (by first | exact rowN_one _ _ | (simp; done) | (intro u hu; simp at hu; subst hu; rfl) | (intro u hu; simp at hu; rcases hu with rfl | rfl <;> rfl)) (by first | decide | exact Nat.zero_lt_succ _ | simp) trivial (rowN .u8 (ys.set i (x0 / 256 ^ (19 - i) % 256))) (by rw [Nat.zero_add, Nat.mul_one]; exact putN' _ _ _ _ (by omega)) ?_
      refine J.end ?_
      refine X.inBlock (X.then ?_)
      refine T.text [.l, .l, .l] rfl ?_
      refine J.move rfl rfl ?_
      refine J.add rfl rfl rfl (by first | exact add_nat _ 1 (by omega) | exact i64_ok _ (by omega) | exact rfl) ?_
      refine J.assign rfl rfl ?_
      refine J.end ?_
      exact X.round ⟨(i + 1), (ys.set i (x0 / 256 ^ (19 - i) % 256))⟩ ⟨by omega, by simp [hl], set20 hl (by omega) hy rfl⟩ (by first | omega | (dsimp only; omega)) (by repeat (first | exact Sub.nil _ | refine Sub.cons (by first | rfl | (rw [dgs_zero]; rfl) | (rw [List.drop_length]; rfl) | (simp; done) | (congr 2; omega) | (congr 3; omega)) ?_)) (by repeat (first | exact Sub.nil _ | refine Sub.cons (by first | rfl | (rw [dgs_zero]; rfl) | (rw [List.drop_length]; rfl) | (simp; done) | (congr 2; omega) | (congr 3; omega)) ?_))
    · obtain rfl : i = 20 := by omega
      obtain rfl : ys = (bytesN x0).drop 12 := drop12_of hl hy
      refine T.exit ?_
      refine X.then_exit (X.then_exit (X.inBlock_eq (X.then ?_)))
      refine T.seq ?_
      refine T.text [.l, .l, .l] rfl ?_
      refine J.loadN (k := .l) trivial 4 rfl rfl agg48 (rowN .u8 ((bytesN x0).drop 12)) (by rw [rowN_length, drop12_length]) (by rw [List.drop_zero]; exact List.take_of_length_le (by rw [rowN_length, drop12_length]; exact Nat.le_refl _)) rfl ?_
      refine J.store 2 rfl rfl rfl rfl (rowN .u8 ((bytesN x0).drop 12)) rfl (by rw [rowN_length, drop12_length]; exact sz48) (by rw [rowN_length, drop12_length]; exact Nat.le_refl _) (by first | exact rowN_one _ _ | (simp; done) | (intro u hu; simp at hu; subst hu; rfl) | (intro u hu; simp at hu; rcases hu with rfl | rfl <;> rfl)) (by rw [rowN_length, drop12_length]; decide) trivial (rowN .u8 ((bytesN x0).drop 12)) (put_all _ _ (by simp [rowN, bytesN_length])) ?_
      refine J.assign rfl rfl ?_
      refine J.end ?_
      refine X.then ?_
      refine T.ret ?_
      exact X.ret2 rfl (RV.agg 2 rfl rfl agg48 (rowN .u8 ((bytesN x0).drop 12)) (by rw [rowN_length]; first | exact drop12_length _ | exact List.length_replicate) (by rw [List.drop_zero]; exact List.take_of_length_le (by rw [rowN_length]; first | (rw [drop12_length]; exact Nat.le_refl _) | exact Nat.le_of_eq List.length_replicate)) rfl) (RV.tmp rfl) (fun w' hw' => ⟨by unfold addrN; rw [if_neg (by omega), decide_eq_true (by omega)], hw'.sub (Sub.nil _)⟩)

theorem FromAddress (w : World) (bs : List Nat) (hl : bs.length = 20) (hd : Dg bs) :
    Calls Tryd.prog 99 [.agg (rowN .u8 bs).toArray].toArray w fun e w' => e = .returned (W (vl bs.reverse)) ∧ WS w [] [] w' := by
  refine calls_of_T [] 11 [] Tryd.func99 rfl Tryd.ntmps99 (by simp) (WS.refl _ _) ?_
  refine T.seq ?_
  refine T.text [.l, .l] rfl ?_
  refine J.box 1 rfl rfl (rowN .u8 bs) rfl rfl (fun g1 hg1 => ?_)
  refine J.alloc 2 rfl zero24 [.int .u64 0, .int .u64 0, .int .u64 0, .int .u64 0] rfl rfl (fun g2 hg2 => ?_)
  refine J.end ?_
  refine X.then ?_
  refine T.seq ?_
  refine T.text [.l, .l, .l, .l, .l, .l, .l, .l] rfl ?_
  refine J.sliceArr arr48 rfl optInt.none optInt.none optInt.none (by simp) (by omega) (by omega) (by omega) rfl rfl ?_
  refine J.as 6 (.slice (some ⟨g1, 0, none⟩) bs.length 20) rfl (by rw [hl]; rfl) ?_
  refine J.call0 (k := .l) trivial fok90 rfl rfl (fun w hw => Wa.FromBytes w _ _ bs (hw.csOf (k := 1) rfl 0 _ (fun i x hx => by rw [Nat.zero_add]; exact hx)) hd (by omega)) ?_
  refine J.move rfl rfl ?_
  refine J.extract rfl rfl rfl ?_
  refine J.extract rfl rfl rfl ?_
  refine J.alloc 3 rfl zero24 [.int .u64 0, .int .u64 0, .int .u64 0, .int .u64 0] rfl rfl (fun g3 hg3 => ?_)
  refine J.store 3 rfl rfl rfl rfl (wc (if bs.length ≤ 32 then vl bs.reverse else 0)) rfl sz24 (by first | decide | exact Nat.le_refl _ | exact Nat.le_of_ble_eq_true rfl | (simp [rowN]; done) | (simp [rowN]; omega)) (by first | exact rowN_one _ _ | (simp; done) | (intro u hu; simp at hu; subst hu; rfl) | (intro u hu; simp at hu; rcases hu with rfl | rfl <;> rfl)) (by first | decide | exact Nat.zero_lt_succ _ | simp) trivial (wc (if bs.length ≤ 32 then vl bs.reverse else 0)) rfl ?_
  refine J.assign rfl rfl ?_
  refine J.end ?_
  refine X.then ?_
  refine T.seq ?_
  refine T.text [.l, .l] rfl ?_
  refine J.loadN (k := .l) trivial 3 rfl rfl agg24 (wc (if bs.length ≤ 32 then vl bs.reverse else 0)) rfl rfl rfl ?_
  refine J.store 2 rfl rfl rfl rfl (wc (if bs.length ≤ 32 then vl bs.reverse else 0)) rfl sz24 (by first | decide | exact Nat.le_refl _ | exact Nat.le_of_ble_eq_true rfl | (simp [rowN]; done) | (simp [rowN]; omega)) (by first | exact rowN_one _ _ | (simp; done) | (intro u hu; simp at hu; subst hu; rfl) | (intro u hu; simp at hu; rcases hu with rfl | rfl <;> rfl)) (by first | decide | exact Nat.zero_lt_succ _ | simp) trivial (wc (if bs.length ≤ 32 then vl bs.reverse else 0)) rfl ?_
  refine J.end ?_
  refine X.then ?_
  refine T.ret ?_
  exact X.ret1 rfl (RV.agg 2 rfl rfl agg24 (wc (if bs.length ≤ 32 then vl bs.reverse else 0)) (by rfl) (by rfl) rfl) (fun w' hw' => ⟨retW (by rw [if_pos (by omega)]), hw'.sub (Sub.nil _)⟩)

theorem FromAddressR (w : World) (bs : List Nat) (hl : bs.length = 20) (hd : Dg bs) :
    Calls Tryd.prog 100 [.agg (rowN .u8 bs).toArray].toArray w fun e w' => e = .returned (W (vl bs.reverse)) ∧ WS w [] [] w' := by
  refine calls_of_T [] 18 [] Tryd.func100 rfl Tryd.ntmps100 (by simp) (WS.refl _ _) ?_
  refine T.seq ?_
  refine T.text [.l, .l] rfl ?_
  refine J.box 1 rfl rfl (rowN .u8 bs) rfl rfl (fun g1 hg1 => ?_)
  refine J.alloc 2 rfl zero24 [.int .u64 0, .int .u64 0, .int .u64 0, .int .u64 0] rfl rfl (fun g2 hg2 => ?_)
  refine J.end ?_
  refine X.then ?_
  refine T.seq ?_
  refine T.text [.l] rfl ?_
  refine J.assign rfl rfl ?_
  refine J.end ?_
  refine X.then ?_
  refine T.seq ?_
  refine T.seq ?_
  refine T.text [.l] rfl ?_
  refine J.assign rfl rfl ?_
  refine J.end ?_
  refine X.then ?_
  refine T.block ?_
  refine T.addNil 3 3 ?_
  refine T.loop (ι := Nat × RowIx) (fun ((j, r) : Nat × RowIx) => j ≤ 20 ∧ r.Ok 1 ((bs.drop j).reverse).length) (fun ((j, r) : Nat × RowIx) => [(0, .agg (rowN .u8 bs).toArray), (1, .pointer (some ⟨g1, 0, none⟩)), (2, .pointer (some ⟨g2, 0, none⟩)), (3, r.val ((bs.drop j).reverse).length), (4, .int .i64 ((j : Int) - 1))]) (fun ((j, r) : Nat × RowIx) => [(1, ⟨some g1, 48, (rowN .u8 bs)⟩), (2, ⟨some g2, 24, [.int .u64 0, .int .u64 0, .int .u64 0, .int .u64 0]⟩), (3, r.ent 3 (rowN .i64 ((bs.drop j).reverse)))]) (fun ((j, r) : Nat × RowIx) => j) ⟨20, RowIx.nil⟩ ⟨Nat.le_refl _, by rw [List.drop_eq_nil_of_le (by omega)]; exact RowIx.nil_ok 1⟩ (by repeat (first | exact Sub.nil _ | refine Sub.cons (by first | rfl | (rw [List.drop_eq_nil_of_le (by omega)]; rfl)| (rw [dgs_zero]; rfl) | (rw [List.drop_length]; rfl) | (simp; done) | (congr 2; omega) | (congr 3; omega)) ?_)) (by repeat (first | exact Sub.nil _ | refine Sub.cons (by first | rfl | (rw [List.drop_eq_nil_of_le (by omega)]; rfl)| (rw [dgs_zero]; rfl) | (rw [List.drop_length]; rfl) | (simp; done) | (congr 2; omega) | (congr 3; omega)) ?_)) ?_
  rintro ⟨j, r⟩ ⟨hj, hr⟩
  try dsimp only at *
  refine T.seq ?_
  refine T.seq ?_
  refine T.text [.l, .l] rfl ?_
  refine J.move rfl rfl ?_
  refine J.geq rfl rfl rfl rfl ?_
  refine J.end ?_
  refine X.then ?_
  refine T.cond_dec rfl (fun h1 => ?_) (fun h1 => ?_)
  · obtain ⟨k, rfl⟩ : ∃ k, j = k + 1 := ⟨j - 1, by omega⟩
    refine T.as 4 (.int .i64 (k : Int)) rfl (by first | rfl | (congr 1; omega)) ?_
    have hll : ((bs.drop (k + 1)).reverse).length = bs.length - (k + 1) := (by rw [List.length_reverse, List.length_drop])
    have hlb := hd.getD k
    have hdr : ((bs.drop k).reverse) = ((bs.drop (k + 1)).reverse) ++ [bs.getD k 0] := (by rw [drop_getD bs k (by omega), List.reverse_cons])
    refine T.skip ?_
    refine X.then ?_
    refine T.seq ?_
    refine T.block ?_
    refine T.text [.l, .l, .l, .l, .l, .l, .l, .l] rfl ?_
    refine J.move rfl rfl ?_
    refine J.move rfl rfl ?_
    refine J.indexArr arr48 rfl rfl (by omega) (by omega) (by first | exact Int.toNat_natCast _ | rfl) rfl ?_
    refine J.load1 (k := .l) trivial 1 rfl rfl one5 (by exact rowN_get0 _ _ _ (by omega)) rfl ?_
    refine J.conv (by rw [Tryd.underlying5]; rfl) Tryd.underlying3 rfl rfl (by first | exact wrap_nat64 _ (by omega) | exact i64_ok _ (by omega) | exact rfl) ?_
    refine J.lit1 14 rfl Tryd.underlying62 el3 (by decide) rfl [_] rfl rfl rfl (fun g14 hg14 => ?_)
    refine J.append 3 rfl Tryd.underlying62 el3 rfl hr (by rw [rowN_length, Nat.mul_one]) rfl rfl rfl (fun w hw => (hw.blkCs (k := 14) rfl)) (by first | exact rowN_one _ _ | (intro u hu; simp at hu; subst hu; rfl)) (by omega) (by unfold maxLen; omega) rfl ((bs.drop k).reverse).length (by rw [hdr]; simp) (rowN .i64 ((bs.drop k).reverse)) (by rw [hdr, rowN_append]; rfl) (fun r15 hr15 => ?_)
    refine J.assign rfl rfl ?_
    refine J.end ?_
    refine X.inBlock (X.then ?_)
    refine T.text [.l, .l, .l] rfl ?_
    refine J.move rfl rfl ?_
    refine J.sub' rfl rfl rfl (by exact i64_ok _ (by omega)) ?_
    refine J.assign rfl rfl ?_
    refine J.end ?_
    exact X.round ⟨k, r15⟩ ⟨by omega, hr15⟩ (by first | omega | (dsimp only; omega)) (by repeat (first | exact Sub.nil _ | refine Sub.cons (by first | rfl | (rw [List.drop_eq_nil_of_le (by omega)]; rfl)| (rw [dgs_zero]; rfl) | (rw [List.drop_length]; rfl) | (simp; done) | (congr 2; omega) | (congr 3; omega)) ?_)) (by repeat (first | exact Sub.nil _ | refine Sub.cons (by first | rfl | (rw [List.drop_eq_nil_of_le (by omega)]; rfl)| (rw [dgs_zero]; rfl) | (rw [List.drop_length]; rfl) | (simp; done) | (congr 2; omega) | (congr 3; omega)) ?_))
  · obtain rfl : j = 0 := by omega
    have hll : ((bs.drop 0).reverse).length = bs.length := (by rw [List.length_reverse, List.length_drop]; omega)
    have hdd : Dg ((bs.drop 0).reverse) := hd.reverse
    refine T.exit ?_
    refine X.then_exit (X.then_exit (X.inBlock_eq (X.then ?_)))
    refine T.seq ?_
    refine T.text [.l, .l, .l] rfl ?_
    refine J.move rfl rfl ?_
    refine J.call0 (k := .l) trivial fok108 rfl rfl (fun w hw => Ra.word w _ _ _ (hw.rowCs (k := 3) rfl) hdd (by omega)) ?_
    refine J.store 2 rfl rfl rfl rfl (wc (vl ((bs.drop 0).reverse))) rfl sz24 (by first | decide | exact Nat.le_refl _ | exact Nat.le_of_ble_eq_true rfl | (simp [rowN]; done) | (simp [rowN]; omega)) (by first | exact rowN_one _ _ | (simp; done) | (intro u hu; simp at hu; subst hu; rfl) | (intro u hu; simp at hu; rcases hu with rfl | rfl <;> rfl)) (by first | decide | exact Nat.zero_lt_succ _ | simp) trivial (wc (vl ((bs.drop 0).reverse))) rfl ?_
    refine J.end ?_
    refine X.then ?_
    refine T.ret ?_
    exact X.ret1 rfl (RV.agg 2 rfl rfl agg24 (wc (vl ((bs.drop 0).reverse))) (by rfl) (by rfl) rfl) (fun w' hw' => ⟨retW (by rw [List.drop_zero]), hw'.sub (Sub.nil _)⟩)

theorem FromUintR (w : World) (n : Nat) (hn : n < 18446744073709551616) :
    Calls Tryd.prog 98 [.int .u64 (n : Int)].toArray w fun e w' => e = .returned (W n) ∧ WS w [] [] w' := by
  refine calls_of_T [] 5 [] Tryd.func98 rfl Tryd.ntmps98 (by simp) (WS.refl _ _) ?_
  refine T.seq ?_
  refine T.text [.l] rfl ?_
  refine J.alloc 2 rfl zero24 [.int .u64 0, .int .u64 0, .int .u64 0, .int .u64 0] rfl rfl (fun g2 hg2 => ?_)
  refine J.end ?_
  refine X.then ?_
  refine T.seq ?_
  refine T.text [.l, .l, .l] rfl ?_
  refine J.move rfl rfl ?_
  refine J.build rfl rfl (.agg ([.int .u64 ((n : Nat) : Int), .int .u64 0, .int .u64 0, .int .u64 0] : List Value).toArray) (fun w => by kernel_rfl) ?_
  refine J.as 4 (W (n)) rfl (W_small (by first | omega | (refine ⟨?_, ?_, ?_, ?_⟩ <;> omega))) ?_
  refine J.store 2 rfl rfl rfl rfl (wc (n)) rfl sz24 (by first | decide | exact Nat.le_refl _ | exact Nat.le_of_ble_eq_true rfl | (simp [rowN]; done) | (simp [rowN]; omega)) (by first | exact rowN_one _ _ | (simp; done) | (intro u hu; simp at hu; subst hu; rfl) | (intro u hu; simp at hu; rcases hu with rfl | rfl <;> rfl)) (by first | decide | exact Nat.zero_lt_succ _ | simp) trivial (wc (n)) rfl ?_
  refine J.end ?_
  refine X.then ?_
  refine T.ret ?_
  exact X.ret1 rfl (RV.agg 2 rfl rfl agg24 (wc (n)) (by rfl) (by rfl) rfl) (fun w' hw' => ⟨rfl, hw'.sub (Sub.nil _)⟩)
end Go.Proofs.YtegociefcfcihaaDoor.Rp
