/-
  Walks, printed by gen.py: what each function hands back, said of numbers.
  Conditions: those that each theorem bears.
-/
import Derived.Test.YtpkjbeebhdgleaaChecked
import Derived.Test.YtpkjbeebhdgleaaPc
import Derived.Test.YtpkjbeebhdgleaaRa
set_option linter.unusedVariables false
set_option maxRecDepth 20000
namespace Go.Proofs.Ytpkjbeebhdgleaa.Rb
open Go Go.Fw

theorem sz67 : SizeT Try.prog 67 32 := (by unfold SizeT; kernel_rfl)
theorem zero25 : ZeroT Try.prog 25 (.agg ([.int .u64 0, .int .u64 0, .int .u64 0, .int .u64 0]).toArray) := (by unfold ZeroT; kernel_rfl)
theorem sz25 : SizeT Try.prog 25 4 := (by unfold SizeT; kernel_rfl)
theorem sl32 : SlT Try.prog 32 25 4 := ⟨Try.underlying32, sz25⟩
theorem agg25 : AggT Try.prog 25 4 := ⟨⟨_, Try.underlying25, rfl⟩, by kernel_rfl⟩
theorem fok88 : FnOk Try.prog 88 := FnOk.mk' Try.func88 (by kernel_rfl) rfl
theorem fok102 : FnOk Try.prog 102 := FnOk.mk' Try.func102 (by kernel_rfl) rfl
theorem fok103 : FnOk Try.prog 103 := FnOk.mk' Try.func103 (by kernel_rfl) rfl
theorem fok105 : FnOk Try.prog 105 := FnOk.mk' Try.func105 (by kernel_rfl) rfl
theorem fok104 : FnOk Try.prog 104 := FnOk.mk' Try.func104 (by kernel_rfl) rfl
theorem fok106 : FnOk Try.prog 106 := FnOk.mk' Try.func106 (by kernel_rfl) rfl
theorem sz5 : SizeT Try.prog 5 1 := (by unfold SizeT; kernel_rfl)
theorem sl22 : SlT Try.prog 22 5 1 := ⟨Try.underlying22, sz5⟩
theorem one5 : OneT Try.prog 5 := ⟨⟨_, Try.underlying5, rfl⟩, by kernel_rfl⟩
theorem el3 : ElT Try.prog 3 1 8 (.int .i64 0) := ⟨by kernel_rfl, rfl, by decide, by decide⟩
theorem zero67 : ZeroT Try.prog 67 (.agg ([.int .u8 0, .int .u8 0, .int .u8 0, .int .u8 0, .int .u8 0, .int .u8 0, .int .u8 0, .int .u8 0, .int .u8 0, .int .u8 0, .int .u8 0, .int .u8 0, .int .u8 0, .int .u8 0, .int .u8 0, .int .u8 0, .int .u8 0, .int .u8 0, .int .u8 0, .int .u8 0, .int .u8 0, .int .u8 0, .int .u8 0, .int .u8 0, .int .u8 0, .int .u8 0, .int .u8 0, .int .u8 0, .int .u8 0, .int .u8 0, .int .u8 0, .int .u8 0]).toArray) := (by unfold ZeroT; kernel_rfl)
theorem sz3 : SizeT Try.prog 3 1 := (by unfold SizeT; kernel_rfl)
theorem sl114 : SlT Try.prog 114 3 1 := ⟨Try.underlying114, sz3⟩
theorem one3 : OneT Try.prog 3 := ⟨⟨_, Try.underlying3, rfl⟩, by kernel_rfl⟩
theorem arr67 : ArrT Try.prog 67 32 5 1 := ⟨Try.underlying67, sz5⟩
theorem agg67 : AggT Try.prog 67 32 := ⟨⟨_, Try.underlying67, rfl⟩, by kernel_rfl⟩

theorem Sum (w : World) (A0 : Option Addr) (c0 : Nat) (xs0 : List Nat) (hc0 : Cs w A0 (rowW xs0)) (hb0 : xs0.length ≤ 4294967296) :
    Calls Try.prog 79 [.slice A0 xs0.length c0].toArray w fun e w' => e = .returned (.tuple #[W (if sumN xs0 < 2 ^ 256 then sumN xs0 else 0), .bool (decide (sumN xs0 < 2 ^ 256))]) ∧ WS w [] [] w' := by
  refine calls_of_T [] 28 [] Try.func79 rfl Try.ntmps79 (by simp) (WS.refl _ _) ?_
  refine T.seq ?_
  refine T.text [.l, .l] rfl ?_
  refine J.alloc 2 rfl zero25 [.int .u64 0, .int .u64 0, .int .u64 0, .int .u64 0] rfl rfl (fun g2 hg2 => ?_)
  refine J.assign rfl rfl ?_
  refine J.end ?_
  refine X.then ?_
  refine T.seq ?_
  refine T.text [.l] rfl ?_
  refine J.assign rfl rfl ?_
  refine J.end ?_
  refine X.then ?_
  refine T.seq ?_
  refine T.seq ?_
  refine T.text [.l] rfl ?_
  refine J.assign rfl rfl ?_
  refine J.end ?_
  refine X.then ?_
  refine T.block ?_
  refine T.addNil 4 3 ?_
  refine T.loop (ι := Nat × List Nat × RowIx) (fun ((i, zs, r) : Nat × List Nat × RowIx) => i ≤ xs0.length ∧ Dg zs ∧ zs.length ≤ 40 ∧ vl zs = sumN (xs0.take i) ∧ r.Ok 1 zs.length) (fun ((i, zs, r) : Nat × List Nat × RowIx) => [(0, .slice A0 xs0.length c0), (2, .pointer (some ⟨g2, 0, none⟩)), (3, .bool false), (4, r.val zs.length), (5, .int .i64 (i : Int))]) (fun ((i, zs, r) : Nat × List Nat × RowIx) => [(2, ⟨some g2, 25, [.int .u64 0, .int .u64 0, .int .u64 0, .int .u64 0]⟩), (4, r.ent 3 (rowN .i64 zs))]) (fun ((i, zs, r) : Nat × List Nat × RowIx) => xs0.length - i) ⟨0, [], RowIx.nil⟩ ⟨Nat.zero_le _, Dg.nil, Nat.zero_le _, rfl, RowIx.nil_ok 1⟩ (by repeat (first | exact Sub.nil _ | refine Sub.cons (by first | rfl | (rw [dgs_zero]; rfl) | (rw [List.drop_length]; rfl) | (simp; done) | (congr 2; omega) | (congr 3; omega)) ?_)) (by repeat (first | exact Sub.nil _ | refine Sub.cons (by first | rfl | (rw [dgs_zero]; rfl) | (rw [List.drop_length]; rfl) | (simp; done) | (congr 2; omega) | (congr 3; omega)) ?_)) ?_
  rintro ⟨i, zs, r⟩ ⟨hi, hz, hl, hv, hr⟩
  try dsimp only at *
  refine T.seq ?_
  refine T.seq ?_
  refine T.text [.l, .l, .l, .l] rfl ?_
  refine J.move rfl rfl ?_
  refine J.move rfl rfl ?_
  refine J.lenSl Try.underlying32 rfl rfl ?_
  refine J.lss rfl rfl rfl rfl ?_
  refine J.end ?_
  refine X.then ?_
  refine T.cond_dec rfl (fun h1 => ?_) (fun h1 => ?_)
  · skip
    refine T.skip ?_
    refine X.then ?_
    refine T.seq ?_
    refine T.block ?_
    refine T.seq ?_
    refine T.text [.l, .l, .l, .l, .l, .l, .l, .l] rfl ?_
    refine J.move rfl rfl ?_
    refine J.move rfl rfl ?_
    refine J.move rfl rfl ?_
    refine J.indexSlI sl32 rfl (Cs.isSomeW hc0 (by omega)) rfl (by omega) (by omega) (by first | exact Int.toNat_natCast _ | rfl) rfl ?_
    refine J.loadIW (k := .l) trivial hc0 (off_nil _) rfl agg25 (by first | rfl | with_reducible exact rowW_seg0 _ _ _ (by omega) | with_reducible exact rowW_seg00 _ _ (by omega) | with_reducible exact rowW_segs _ _ _ (by omega) | with_reducible exact rowW_seg _ _ (by omega) | with_reducible exact rowW_segb _ _ _ (by omega) | exact rowW_seg _ _ (by omega) | exact rowW_segs _ _ _ (by omega)) rfl ?_
    refine J.callRow 17 rfl (t := 3) (kd := .i64) fok88 rfl rfl (fun w hw => Ra.of w _) (fun zs17 r17 hz17 hr17 => ?_)
    obtain ⟨hD17, hL17, hV17, hG17⟩ := of_facts hz17
    refine J.callRow 18 rfl (t := 3) (kd := .i64) fok102 rfl rfl (fun w hw => Ra.plus w _ _ _ (hw.rowCs (k := 4) rfl) _ _ _ (hw.rowCs (k := 17) rfl) (by assumption) (by omega) (by assumption) (by omega)) (fun zs18 r18 hz18 hr18 => ?_)
    obtain ⟨hD18, hL18, hV18⟩ := hz18
    refine J.assign rfl rfl ?_
    refine J.end ?_
    refine X.then ?_
    refine T.text [.l, .l, .l] rfl ?_
    refine J.move rfl rfl ?_
    refine J.callRow 20 rfl (t := 3) (kd := .i64) fok103 rfl rfl (fun w hw => Ra.cut w _ _ _ (hw.rowCs (k := 18) rfl) _ (by omega)) (fun zs20 r20 hz20 hr20 => ?_)
    subst hz20
    refine J.assign rfl rfl ?_
    refine J.end ?_
    refine X.mv 20 4 rfl ?_
    refine X.inBlock (X.then ?_)
    refine T.text [.l, .l, .l] rfl ?_
    refine J.move rfl rfl ?_
    refine J.add rfl rfl rfl (by first | exact add_nat _ 1 (by omega) | exact i64_ok _ (by omega) | exact rfl) ?_
    refine J.assign rfl rfl ?_
    refine J.end ?_
    exact X.round ⟨(i + 1), (zs18.take 40), r20⟩ ⟨by omega, hD18.take 40, by rw [List.length_take]; omega, by rw [vl_take_mod hD18, hV18, hv, hV17, take_succ_getD _ _ (by omega), sumN_snoc]; exact Nat.mod_eq_of_lt (by have := sumN_lt (xs0.take i); have h5 : (xs0.take i).length ≤ 4294967296 := (by rw [List.length_take]; omega); have h6 := Nat.mul_le_mul_right (2 ^ 256 - 1) h5; omega), hr20⟩ (by first | omega | (dsimp only; omega)) (by repeat (first | exact Sub.nil _ | refine Sub.cons (by first | rfl | (rw [dgs_zero]; rfl) | (rw [List.drop_length]; rfl) | (simp; done) | (congr 2; omega) | (congr 3; omega)) ?_)) (by repeat (first | exact Sub.nil _ | refine Sub.cons (by first | rfl | (rw [dgs_zero]; rfl) | (rw [List.drop_length]; rfl) | (simp; done) | (congr 2; omega) | (congr 3; omega)) ?_))
  · skip
    refine T.exit ?_
    refine X.then_exit (X.then_exit (X.inBlock_eq (X.then ?_)))
    refine T.seq ?_
    refine T.seq ?_
    refine T.text [.l, .l, .l, .l] rfl ?_
    refine J.move rfl rfl ?_
    refine J.callRow 22 rfl (t := 3) (kd := .i64) fok105 rfl rfl (fun w hw => Ra.full w) (fun zs22 r22 hz22 hr22 => ?_)
    obtain ⟨hD22, hL22, hV22⟩ := full_facts hz22
    refine J.call0 (k := .l) trivial fok104 rfl rfl (fun w hw => Ra.compare w _ _ _ (hw.rowCs (k := 4) rfl) _ _ _ (hw.rowCs (k := 22) rfl) (by assumption) (by omega) (by assumption) (by omega)) ?_
    refine J.geq rfl rfl rfl rfl ?_
    refine J.end ?_
    refine X.then ?_
    refine T.cond_dec rfl (fun h2 => ?_) (fun h2 => ?_)
    · obtain rfl : i = xs0.length := by omega
      rw [List.take_length] at hv
      have hcc := cmpN_ge h2
      rw [hv, hV22] at hcc
      refine T.seq ?_
      refine T.text [.l, .l, .l] rfl ?_
      refine J.build rfl rfl (W 0) (fun w => by kernel_rfl) ?_
      refine J.store 2 rfl rfl rfl rfl (wc 0) rfl sz25 (by first | decide | exact Nat.le_refl _ | exact Nat.le_of_ble_eq_true rfl | (simp [rowN]; done) | (simp [rowN]; omega)) (by first | exact rowN_one _ _ | (simp; done) | (intro u hu; simp at hu; subst hu; rfl) | (intro u hu; simp at hu; rcases hu with rfl | rfl <;> rfl)) (by first | decide | exact Nat.zero_lt_succ _ | simp) trivial (wc 0) rfl ?_
      refine J.assign rfl rfl ?_
      refine J.end ?_
      refine X.then ?_
      refine T.ret ?_
      refine X.then_ret ?_
      exact X.ret2 rfl (RV.agg 2 rfl rfl agg25 (wc 0) (by rfl) (by rfl) rfl) (RV.tmp rfl) (fun w' hw' => ⟨by rw [if_neg (by omega), decide_eq_false (by omega)], hw'.sub (Sub.nil _)⟩)
    · obtain rfl : i = xs0.length := by omega
      rw [List.take_length] at hv
      have hcc := cmpN_nge h2
      rw [hv, hV22] at hcc
      refine T.skip ?_
      refine X.then ?_
      refine T.seq ?_
      refine T.text [.l, .l, .l, .l] rfl ?_
      refine J.move rfl rfl ?_
      refine J.call0 (k := .l) trivial fok106 rfl rfl (fun w hw => Ra.word w _ _ _ (hw.rowCs (k := 4) rfl) (by assumption) (by omega)) ?_
      refine J.store 2 rfl rfl rfl rfl (wc (vl zs)) rfl sz25 (by first | decide | exact Nat.le_refl _ | exact Nat.le_of_ble_eq_true rfl | (simp [rowN]; done) | (simp [rowN]; omega)) (by first | exact rowN_one _ _ | (simp; done) | (intro u hu; simp at hu; subst hu; rfl) | (intro u hu; simp at hu; rcases hu with rfl | rfl <;> rfl)) (by first | decide | exact Nat.zero_lt_succ _ | simp) trivial (wc (vl zs)) rfl ?_
      refine J.assign rfl rfl ?_
      refine J.end ?_
      refine X.then ?_
      refine T.ret ?_
      exact X.ret2 rfl (RV.agg 2 rfl rfl agg25 (wc (vl zs)) (by rfl) (by rfl) rfl) (RV.tmp rfl) (fun w' hw' => ⟨by rw [if_pos hcc, decide_eq_true hcc, hv], hw'.sub (Sub.nil _)⟩)

theorem FromBytes (w : World) (A0 : Option Addr) (c0 : Nat) (xs0 : List Nat) (hc0 : Cs w A0 (rowN .u8 xs0)) (hx0 : Dg xs0) (hb0 : xs0.length ≤ 4294967296) :
    Calls Try.prog 83 [.slice A0 xs0.length c0].toArray w fun e w' => e = .returned (.tuple #[W (if xs0.length ≤ 32 then vl xs0.reverse else 0), .int .i64 ((if xs0.length ≤ 32 then 0 else 2 : Nat) : Int)]) ∧ WS w [] [] w' := by
  refine calls_of_T [] 27 [] Try.func83 rfl Try.ntmps83 (by simp) (WS.refl _ _) ?_
  refine T.seq ?_
  refine T.text [.l, .l] rfl ?_
  refine J.alloc 2 rfl zero25 [.int .u64 0, .int .u64 0, .int .u64 0, .int .u64 0] rfl rfl (fun g2 hg2 => ?_)
  refine J.assign rfl rfl ?_
  refine J.end ?_
  refine X.then ?_
  refine T.seq ?_
  refine T.seq ?_
  refine T.text [.l, .l, .l] rfl ?_
  refine J.move rfl rfl ?_
  refine J.lenSl Try.underlying22 rfl rfl ?_
  refine J.gtr rfl rfl rfl rfl ?_
  refine J.end ?_
  refine X.then ?_
  refine T.cond_dec rfl (fun h1 => ?_) (fun h1 => ?_)
  · skip
    refine T.seq ?_
    refine T.text [.l, .l, .l] rfl ?_
    refine J.build rfl rfl (W 0) (fun w => by kernel_rfl) ?_
    refine J.store 2 rfl rfl rfl rfl (wc 0) rfl sz25 (by first | decide | exact Nat.le_refl _ | exact Nat.le_of_ble_eq_true rfl | (simp [rowN]; done) | (simp [rowN]; omega)) (by first | exact rowN_one _ _ | (simp; done) | (intro u hu; simp at hu; subst hu; rfl) | (intro u hu; simp at hu; rcases hu with rfl | rfl <;> rfl)) (by first | decide | exact Nat.zero_lt_succ _ | simp) trivial (wc 0) rfl ?_
    refine J.assign rfl rfl ?_
    refine J.end ?_
    refine X.then ?_
    refine T.ret ?_
    refine X.then_ret ?_
    exact X.ret2 rfl (RV.agg 2 rfl rfl agg25 (wc 0) (by rfl) (by rfl) rfl) (RV.tmp rfl) (fun w' hw' => ⟨by rw [if_neg (by omega), if_neg (by omega)]; rfl, hw'.sub (Sub.nil _)⟩)
  · skip
    refine T.skip ?_
    refine X.then ?_
    refine T.seq ?_
    refine T.text [.l] rfl ?_
    refine J.assign rfl rfl ?_
    refine J.end ?_
    refine X.then ?_
    refine T.seq ?_
    refine T.seq ?_
    refine T.text [.l, .l, .l, .l] rfl ?_
    refine J.move rfl rfl ?_
    refine J.lenSl Try.underlying22 rfl rfl ?_
    refine J.sub' rfl rfl rfl (by first | exact sub_nat _ 1 (by omega) | exact i64_ok _ (by omega) | exact rfl) ?_
    refine J.assign rfl rfl ?_
    refine J.end ?_
    refine X.then ?_
    refine T.block ?_
    refine T.addNil 4 3 ?_
    refine T.loop (ι := Nat × RowIx) (fun ((j, r) : Nat × RowIx) => j ≤ xs0.length ∧ r.Ok 1 (xs0.drop j).reverse.length) (fun ((j, r) : Nat × RowIx) => [(0, .slice A0 xs0.length c0), (2, .pointer (some ⟨g2, 0, none⟩)), (3, .int .i64 0), (6, .slice A0 xs0.length c0), (7, .int .i64 ((xs0.length : Nat) : Int)), (10, .slice A0 xs0.length c0), (11, .int .i64 ((xs0.length : Nat) : Int)), (4, r.val (xs0.drop j).reverse.length), (5, .int .i64 ((j : Int) - 1))]) (fun ((j, r) : Nat × RowIx) => [(2, ⟨some g2, 25, [.int .u64 0, .int .u64 0, .int .u64 0, .int .u64 0]⟩), (4, r.ent 3 (rowN .i64 (xs0.drop j).reverse))]) (fun ((j, r) : Nat × RowIx) => j) ⟨xs0.length, RowIx.nil⟩ ⟨Nat.le_refl _, by rw [List.drop_length]; exact RowIx.nil_ok 1⟩ (by repeat (first | exact Sub.nil _ | refine Sub.cons (by first | rfl | (rw [dgs_zero]; rfl) | (rw [List.drop_length]; rfl) | (simp; done) | (congr 2; omega) | (congr 3; omega)) ?_)) (by repeat (first | exact Sub.nil _ | refine Sub.cons (by first | rfl | (rw [dgs_zero]; rfl) | (rw [List.drop_length]; rfl) | (simp; done) | (congr 2; omega) | (congr 3; omega)) ?_)) ?_
    rintro ⟨j, r⟩ ⟨hj, hr⟩
    try dsimp only at *
    refine T.seq ?_
    refine T.seq ?_
    refine T.text [.l, .l] rfl ?_
    refine J.move rfl rfl ?_
    refine J.geq rfl rfl rfl rfl ?_
    refine J.end ?_
    refine X.then ?_
    refine T.cond_dec rfl (fun h2 => ?_) (fun h2 => ?_)
    · obtain ⟨i, rfl⟩ : ∃ i, j = i + 1 := ⟨j - 1, by omega⟩
      refine T.as 5 (.int .i64 (i : Int)) rfl (by congr 1; omega) ?_
      have hll : (xs0.drop (i + 1)).reverse.length = xs0.length - (i + 1) := (by rw [List.length_reverse, List.length_drop])
      have hlb := hx0.getD i
      have hdr : (xs0.drop i).reverse = (xs0.drop (i + 1)).reverse ++ [xs0.getD i 0] := (by rw [drop_getD xs0 i (by omega), List.reverse_cons])
      refine T.skip ?_
      refine X.then ?_
      refine T.seq ?_
      refine T.block ?_
      refine T.text [.l, .l, .l, .l, .l, .l, .l, .l, .l] rfl ?_
      refine J.move rfl rfl ?_
      refine J.move rfl rfl ?_
      refine J.move rfl rfl ?_
      refine J.indexSlI sl22 rfl (Cs.isSomeN hc0 (by omega)) rfl (by omega) (by omega) (by first | exact Int.toNat_natCast _ | rfl) rfl ?_
      refine J.loadI1 (k := .l) trivial hc0 (off_nil _) rfl one5 (by first | rfl | with_reducible exact rowN_get1 _ _ _ (by omega) | with_reducible exact rowN_get _ _ _ (by omega) | exact rowN_get1 _ _ _ (by omega)) rfl ?_
      refine J.conv (by rw [Try.underlying5]; rfl) Try.underlying3 rfl rfl (by first | exact wrap_nat64 _ (by omega) | exact i64_ok _ (by omega) | exact rfl) ?_
      refine J.lit1 23 rfl Try.underlying114 el3 (by decide) rfl [_] rfl rfl rfl (fun g23 hg23 => ?_)
      refine J.append 4 rfl Try.underlying114 el3 rfl hr (by rw [rowN_length, Nat.mul_one]) rfl rfl rfl (fun w hw => (hw.blkCs (k := 23) rfl)) (by first | exact rowN_one _ _ | (intro u hu; simp at hu; subst hu; rfl)) (by omega) (by unfold maxLen; omega) rfl (xs0.drop i).reverse.length (by rw [hdr]; simp) (rowN .i64 (xs0.drop i).reverse) (by rw [hdr, rowN_append]; rfl) (fun r24 hr24 => ?_)
      refine J.assign rfl rfl ?_
      refine J.end ?_
      refine X.inBlock (X.then ?_)
      refine T.text [.l, .l, .l] rfl ?_
      refine J.move rfl rfl ?_
      refine J.sub' rfl rfl rfl (by first | exact sub_nat _ 1 (by omega) | exact i64_ok _ (by omega) | exact rfl) ?_
      refine J.assign rfl rfl ?_
      refine J.end ?_
      exact X.round ⟨i, r24⟩ ⟨by omega, hr24⟩ (by first | omega | (dsimp only; omega)) (by repeat (first | exact Sub.nil _ | refine Sub.cons (by first | rfl | (rw [dgs_zero]; rfl) | (rw [List.drop_length]; rfl) | (simp; done) | (congr 2; omega) | (congr 3; omega)) ?_)) (by repeat (first | exact Sub.nil _ | refine Sub.cons (by first | rfl | (rw [dgs_zero]; rfl) | (rw [List.drop_length]; rfl) | (simp; done) | (congr 2; omega) | (congr 3; omega)) ?_))
    · obtain rfl : j = 0 := by omega
      have hll : (xs0.drop 0).reverse.length = xs0.length := (by rw [List.length_reverse, List.length_drop]; omega)
      have hdd : Dg (xs0.drop 0).reverse := hx0.reverse
      refine T.exit ?_
      refine X.then_exit (X.then_exit (X.inBlock_eq (X.then ?_)))
      refine T.seq ?_
      refine T.text [.l, .l, .l, .l] rfl ?_
      refine J.move rfl rfl ?_
      refine J.call0 (k := .l) trivial fok106 rfl rfl (fun w hw => Ra.word w _ _ _ (hw.rowCs (k := 4) rfl) (by assumption) (by omega)) ?_
      refine J.store 2 rfl rfl rfl rfl (wc (vl (xs0.drop 0).reverse)) rfl sz25 (by first | decide | exact Nat.le_refl _ | exact Nat.le_of_ble_eq_true rfl | (simp [rowN]; done) | (simp [rowN]; omega)) (by first | exact rowN_one _ _ | (simp; done) | (intro u hu; simp at hu; subst hu; rfl) | (intro u hu; simp at hu; rcases hu with rfl | rfl <;> rfl)) (by first | decide | exact Nat.zero_lt_succ _ | simp) trivial (wc (vl (xs0.drop 0).reverse)) rfl ?_
      refine J.assign rfl rfl ?_
      refine J.end ?_
      refine X.then ?_
      refine T.ret ?_
      exact X.ret2 rfl (RV.agg 2 rfl rfl agg25 (wc (vl (xs0.drop 0).reverse)) (by rfl) (by rfl) rfl) (RV.tmp rfl) (fun w' hw' => ⟨by rw [if_pos (by omega), if_pos (by omega)]; rfl, hw'.sub (Sub.nil _)⟩)

theorem Bytes (w : World) (x0 : Nat) :
    Calls Try.prog 84 [W x0].toArray w fun e w' => e = .returned (.agg (rowN .u8 (bytesN x0)).toArray) ∧ WS w [] [] w' := by
  refine calls_of_T [] 21 [] Try.func84 rfl Try.ntmps84 (by simp) (WS.refl _ _) ?_
  refine T.seq ?_
  refine T.text [.l, .l] rfl ?_
  refine J.box 1 rfl rfl (wc x0) rfl rfl (fun g1 hg1 => ?_)
  refine J.alloc 2 rfl zero67 [.int .u8 0, .int .u8 0, .int .u8 0, .int .u8 0, .int .u8 0, .int .u8 0, .int .u8 0, .int .u8 0, .int .u8 0, .int .u8 0, .int .u8 0, .int .u8 0, .int .u8 0, .int .u8 0, .int .u8 0, .int .u8 0, .int .u8 0, .int .u8 0, .int .u8 0, .int .u8 0, .int .u8 0, .int .u8 0, .int .u8 0, .int .u8 0, .int .u8 0, .int .u8 0, .int .u8 0, .int .u8 0, .int .u8 0, .int .u8 0, .int .u8 0, .int .u8 0] rfl rfl (fun g2 hg2 => ?_)
  refine J.end ?_
  refine X.then ?_
  refine T.seq ?_
  refine T.text [.l, .l, .l] rfl ?_
  refine J.loadN (k := .l) trivial 1 rfl rfl agg25 (wc x0) rfl rfl rfl ?_
  refine J.callRow 7 rfl (t := 3) (kd := .i64) fok88 rfl rfl (fun w hw => Ra.of w _) (fun zs7 r7 hz7 hr7 => ?_)
  obtain ⟨hD7, hL7, hV7, hG7⟩ := of_facts hz7
  refine J.assign rfl rfl ?_
  refine J.end ?_
  refine X.then ?_
  refine T.seq ?_
  refine T.text [.l] rfl ?_
  refine J.alloc 4 rfl zero67 [.int .u8 0, .int .u8 0, .int .u8 0, .int .u8 0, .int .u8 0, .int .u8 0, .int .u8 0, .int .u8 0, .int .u8 0, .int .u8 0, .int .u8 0, .int .u8 0, .int .u8 0, .int .u8 0, .int .u8 0, .int .u8 0, .int .u8 0, .int .u8 0, .int .u8 0, .int .u8 0, .int .u8 0, .int .u8 0, .int .u8 0, .int .u8 0, .int .u8 0, .int .u8 0, .int .u8 0, .int .u8 0, .int .u8 0, .int .u8 0, .int .u8 0, .int .u8 0] rfl rfl (fun g4 hg4 => ?_)
  refine J.end ?_
  refine X.then ?_
  refine T.seq ?_
  refine T.seq ?_
  refine T.text [.l] rfl ?_
  refine J.assign rfl rfl ?_
  refine J.end ?_
  refine X.then ?_
  refine T.block ?_
  refine T.loop (ι := Nat × List Nat) (fun ((i, ys) : Nat × List Nat) => i ≤ 32 ∧ ys.length = 32 ∧ ∀ q, q < i → ys.getD q 0 = x0 / 256 ^ (31 - q) % 256) (fun ((i, ys) : Nat × List Nat) => [(0, W x0), (1, .pointer (some ⟨g1, 0, none⟩)), (2, .pointer (some ⟨g2, 0, none⟩)), (6, W x0), (7, r7.val zs7.length), (3, r7.val zs7.length), (4, .pointer (some ⟨g4, 0, none⟩)), (5, .int .i64 (i : Int))]) (fun ((i, ys) : Nat × List Nat) => [(1, ⟨some g1, 25, (wc x0)⟩), (2, ⟨some g2, 67, [.int .u8 0, .int .u8 0, .int .u8 0, .int .u8 0, .int .u8 0, .int .u8 0, .int .u8 0, .int .u8 0, .int .u8 0, .int .u8 0, .int .u8 0, .int .u8 0, .int .u8 0, .int .u8 0, .int .u8 0, .int .u8 0, .int .u8 0, .int .u8 0, .int .u8 0, .int .u8 0, .int .u8 0, .int .u8 0, .int .u8 0, .int .u8 0, .int .u8 0, .int .u8 0, .int .u8 0, .int .u8 0, .int .u8 0, .int .u8 0, .int .u8 0, .int .u8 0]⟩), (7, r7.ent 3 (rowN .i64 zs7)), (4, ⟨some g4, 67, rowN .u8 ys⟩)]) (fun ((i, ys) : Nat × List Nat) => 32 - i) ⟨0, (List.replicate 32 0)⟩ ⟨Nat.zero_le _, rfl, fun q hq => by omega⟩ (by repeat (first | exact Sub.nil _ | refine Sub.cons (by first | rfl | (rw [dgs_zero]; rfl) | (rw [List.drop_length]; rfl) | (simp; done) | (congr 2; omega) | (congr 3; omega)) ?_)) (by repeat (first | exact Sub.nil _ | refine Sub.cons (by first | rfl | (rw [dgs_zero]; rfl) | (rw [List.drop_length]; rfl) | (simp; done) | (congr 2; omega) | (congr 3; omega)) ?_)) ?_
  rintro ⟨i, ys⟩ ⟨hi, hl, hy⟩
  try dsimp only at *
  refine T.seq ?_
  refine T.seq ?_
  refine T.text [.l, .l] rfl ?_
  refine J.move rfl rfl ?_
  refine J.lss rfl rfl rfl rfl ?_
  refine J.end ?_
  refine X.then ?_
  refine T.cond_dec rfl (fun h1 => ?_) (fun h1 => ?_)
  · have hj : 31 - i < 32 := by omega
    have hg := hG7 (31 - i) hj
    have hml : x0 / 256 ^ (31 - i) % 256 < 256 := Nat.mod_lt _ (by omega)
    refine T.skip ?_
    refine X.then ?_
    refine T.seq ?_
    refine T.block ?_
    refine T.text [.l, .l, .l, .l, .l, .l, .l, .l, .l] rfl ?_
    refine J.move rfl rfl ?_
    refine J.move rfl rfl ?_
    refine J.move rfl rfl ?_
    refine J.sub' rfl rfl rfl (by first | exact sub_nat 31 _ (by omega) | exact i64_ok _ (by omega) | exact rfl) ?_
    refine J.indexRow sl114 rfl (hr7.some (by omega)) rfl (by omega) (by omega) (by first | exact Int.toNat_natCast _ | rfl) rfl ?_
    refine J.load1 (k := .l) trivial 7 rfl rfl one3 (by exact rowN_get1s _ _ _ _ (by omega)) rfl ?_
    refine J.as 17 (.int .i64 ((x0 / 256 ^ (31 - i) % 256 : Nat) : Int)) rfl (by rw [hg]) ?_
    refine J.conv (by rw [Try.underlying3]; rfl) Try.underlying5 rfl rfl (by exact wrap8_nat' _ (by omega)) ?_
    refine J.indexArr arr67 rfl rfl (by omega) (by omega) (by first | exact Int.toNat_natCast _ | rfl) rfl ?_
    refine J.store 4 rfl rfl rfl rfl [.int .u8 ((x0 / 256 ^ (31 - i) % 256 : Nat) : Int)] rfl sz5 (by rw [rowN_length, hl]; show _ + 1 ≤ 32; omega) (by first | exact rowN_one _ _ | (simp; done) | (intro u hu; simp at hu; subst hu; rfl) | (intro u hu; simp at hu; rcases hu with rfl | rfl <;> rfl)) (by first | decide | exact Nat.zero_lt_succ _ | simp) trivial (rowN .u8 (ys.set i (x0 / 256 ^ (31 - i) % 256))) (by rw [Nat.zero_add, Nat.mul_one]; exact putN' _ _ _ _ (by omega)) ?_
    refine J.end ?_
    refine X.inBlock (X.then ?_)
    refine T.text [.l, .l, .l] rfl ?_
    refine J.move rfl rfl ?_
    refine J.add rfl rfl rfl (by first | exact add_nat _ 1 (by omega) | exact i64_ok _ (by omega) | exact rfl) ?_
    refine J.assign rfl rfl ?_
    refine J.end ?_
    exact X.round ⟨(i + 1), (ys.set i (x0 / 256 ^ (31 - i) % 256))⟩ ⟨by omega, by simp [hl], fun q hq => by
          rw [getD_set _ _ _ _ (by omega)]
          split
          · rename_i hiq; subst hiq; rfl
          · exact hy q (by omega)⟩ (by first | omega | (dsimp only; omega)) (by repeat (first | exact Sub.nil _ | refine Sub.cons (by first | rfl | (rw [dgs_zero]; rfl) | (rw [List.drop_length]; rfl) | (simp; done) | (congr 2; omega) | (congr 3; omega)) ?_)) (by repeat (first | exact Sub.nil _ | refine Sub.cons (by first | rfl | (rw [dgs_zero]; rfl) | (rw [List.drop_length]; rfl) | (simp; done) | (congr 2; omega) | (congr 3; omega)) ?_))
  · obtain rfl : i = 32 := by omega
    obtain rfl : ys = bytesN x0 := bytesN_of hl hy
    refine T.exit ?_
    refine X.then_exit (X.then_exit (X.inBlock_eq (X.then ?_)))
    refine T.seq ?_
    refine T.text [.l, .l] rfl ?_
    refine J.loadN (k := .l) trivial 4 rfl rfl agg67 (rowN .u8 (bytesN x0)) (by rw [rowN_length, bytesN_length]) (by rw [List.drop_zero]; exact List.take_of_length_le (by rw [rowN_length, bytesN_length]; omega)) rfl ?_
    refine J.store 2 rfl rfl rfl rfl (rowN .u8 (bytesN x0)) rfl (by rw [rowN_length, bytesN_length]; exact sz67) (by rw [rowN_length, bytesN_length]; exact Nat.le_refl _) (by first | exact rowN_one _ _ | (simp; done) | (intro u hu; simp at hu; subst hu; rfl) | (intro u hu; simp at hu; rcases hu with rfl | rfl <;> rfl)) (by rw [rowN_length, bytesN_length]; decide) trivial (rowN .u8 (bytesN x0)) (by unfold put; rw [rowN_length, bytesN_length]; exact List.append_nil _) ?_
    refine J.end ?_
    refine X.then ?_
    refine T.ret ?_
    exact X.ret1 rfl (RV.agg 2 rfl rfl agg67 (rowN .u8 (bytesN x0)) (by rw [rowN_length, bytesN_length]) (by rw [List.drop_zero]; exact List.take_of_length_le (by rw [rowN_length, bytesN_length]; exact Nat.le_refl _)) rfl) (fun w' hw' => ⟨rfl, hw'.sub (Sub.nil _)⟩)
end Go.Proofs.Ytpkjbeebhdgleaa.Rb
