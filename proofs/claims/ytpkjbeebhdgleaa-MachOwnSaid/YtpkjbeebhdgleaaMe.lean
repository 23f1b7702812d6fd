/-
  Walks, printed by gen.py: what each function hands back, said of numbers.
  Conditions: those that each theorem bears.
-/
import Derived.Test.YtpkjbeebhdgleaaChecked
import Derived.Test.YtpkjbeebhdgleaaFn
import Derived.Test.YtpkjbeebhdgleaaWa
set_option linter.unusedVariables false
set_option maxRecDepth 20000
namespace Go.Proofs.Ytpkjbeebhdgleaa.Me
open Go Go.Fw

theorem sz67 : SizeT Try.prog 67 32 := (by unfold SizeT; kernel_rfl)
theorem sz22 : SizeT Try.prog 22 1 := (by unfold SizeT; kernel_rfl)
theorem fld99_0 : FldT Try.prog 99 0 22 0 0 := ⟨by kernel_rfl, sz22⟩
theorem one22 : OneT Try.prog 22 := ⟨⟨_, Try.underlying22, rfl⟩, by kernel_rfl⟩
theorem fok67 : FnOk Try.prog 67 := FnOk.mk' Try.func67 (by kernel_rfl) rfl
theorem el5 : ElT Try.prog 5 1 1 (.int .u8 0) := ⟨by kernel_rfl, rfl, by decide, by decide⟩
theorem sz5 : SizeT Try.prog 5 1 := (by unfold SizeT; kernel_rfl)
theorem sl22 : SlT Try.prog 22 5 1 := ⟨Try.underlying22, sz5⟩
theorem zero25 : ZeroT Try.prog 25 (.agg ([.int .u64 0, .int .u64 0, .int .u64 0, .int .u64 0]).toArray) := (by unfold ZeroT; kernel_rfl)
theorem fok68 : FnOk Try.prog 68 := FnOk.mk' Try.func68 (by kernel_rfl) rfl
theorem sz25 : SizeT Try.prog 25 4 := (by unfold SizeT; kernel_rfl)
theorem agg25 : AggT Try.prog 25 4 := ⟨⟨_, Try.underlying25, rfl⟩, by kernel_rfl⟩
theorem fok49 : FnOk Try.prog 49 := FnOk.mk' Try.func49 (by kernel_rfl) rfl
theorem fok42 : FnOk Try.prog 42 := FnOk.mk' Try.func42 (by kernel_rfl) rfl
theorem zero67 : ZeroT Try.prog 67 (.agg ([.int .u8 0, .int .u8 0, .int .u8 0, .int .u8 0, .int .u8 0, .int .u8 0, .int .u8 0, .int .u8 0, .int .u8 0, .int .u8 0, .int .u8 0, .int .u8 0, .int .u8 0, .int .u8 0, .int .u8 0, .int .u8 0, .int .u8 0, .int .u8 0, .int .u8 0, .int .u8 0, .int .u8 0, .int .u8 0, .int .u8 0, .int .u8 0, .int .u8 0, .int .u8 0, .int .u8 0, .int .u8 0, .int .u8 0, .int .u8 0, .int .u8 0, .int .u8 0]).toArray) := (by unfold ZeroT; kernel_rfl)
theorem arr67 : ArrT Try.prog 67 32 5 1 := ⟨Try.underlying67, sz5⟩
theorem fok45 : FnOk Try.prog 45 := FnOk.mk' Try.func45 (by kernel_rfl) rfl
theorem fok69 : FnOk Try.prog 69 := FnOk.mk' Try.func69 (by kernel_rfl) rfl
theorem el25 : ElT Try.prog 25 4 32 (.agg ([.int .u64 0, .int .u64 0, .int .u64 0, .int .u64 0]).toArray) := ⟨by kernel_rfl, rfl, by decide, by decide⟩
theorem fok51 : FnOk Try.prog 51 := FnOk.mk' Try.func51 (by kernel_rfl) rfl
theorem fok70 : FnOk Try.prog 70 := FnOk.mk' Try.func70 (by kernel_rfl) rfl
theorem sz23 : SizeT Try.prog 23 1 := (by unfold SizeT; kernel_rfl)
theorem arr25 : ArrT Try.prog 25 4 23 1 := ⟨Try.underlying25, sz23⟩
theorem one23 : OneT Try.prog 23 := ⟨⟨_, Try.underlying23, rfl⟩, by kernel_rfl⟩

theorem NewMemory (w : World) :
    Calls Try.prog 40 [].toArray w fun e w' => NewPost w 99 [.slice none 0 0] e w' := by
  refine calls_of_T [] 3 [] Try.func40 rfl Try.ntmps40 (by simp) (WS.refl _ _) ?_
  refine T.seq ?_
  refine T.text [.l] rfl ?_
  refine J.assign rfl rfl ?_
  refine J.end ?_
  refine X.then ?_
  refine T.seq ?_
  refine T.text [.l, .l, .l] rfl ?_
  refine J.build rfl rfl (.agg [.slice none 0 0].toArray) (fun w => by kernel_rfl) ?_
  refine J.box 2 rfl rfl [.slice none 0 0] rfl rfl (fun g2 hg2 => ?_)
  refine J.assign rfl rfl ?_
  refine J.end ?_
  refine X.then ?_
  refine T.ret ?_
  exact X.ret1 rfl (RV.tmp rfl) (fun w' hw' => ⟨g2, hg2, rfl, hw'.only 2 0 rfl⟩)

theorem Len (w : World) (g : Nat) (i : RowIx) (bs : List Nat) (hm : MOk i bs) (hat : MemAt w 99 5 g i bs) :
    Calls Try.prog 37 [.pointer (some ⟨g, 0, none⟩)].toArray w fun e w' => e = .returned (.int .i64 ((bs.length : Nat) : Int)) ∧ WS w [] [] w' := by
  have hle := hm.le
  have hmul := hm.mul
  refine calls_of_T [] 8 [] Try.func37 rfl Try.ntmps37 (by simp) (WS.refl _ _) ?_
  refine T.seq ?_
  refine T.text [.l] rfl ?_
  refine J.assign rfl rfl ?_
  refine J.end ?_
  refine X.then ?_
  refine T.seq ?_
  refine T.text [.l, .l, .l, .l, .l, .l] rfl ?_
  refine J.move rfl rfl ?_
  refine J.nilCheck rfl rfl ?_
  refine J.fieldAddr fld99_0 rfl rfl ?_
  refine J.loadB1 (k := .l) trivial hat.objCs (off_nil _) rfl one22 rfl rfl ?_
  refine J.lenSl Try.underlying22 rfl rfl ?_
  refine J.assign rfl rfl ?_
  refine J.end ?_
  refine X.then ?_
  refine T.ret ?_
  exact X.ret1 rfl (RV.tmp rfl) (fun w' hw' => ⟨rfl, hw'.sub (Sub.nil _)⟩)

theorem upTo (w : World) (n : Nat) (hn : n ≤ 4611686018427387904) :
    Calls Try.prog 67 [.int .i64 (n : Int)].toArray w fun e w' => e = .returned (.int .i64 (((n + 31) / 32 * 32 : Nat) : Int)) ∧ WS w [] [] w' := by
  refine calls_of_T [] 6 [] Try.func67 rfl Try.ntmps67 (by simp) (WS.refl _ _) ?_
  refine T.seq ?_
  refine T.text [.l] rfl ?_
  refine J.assign rfl rfl ?_
  refine J.end ?_
  refine X.then ?_
  refine T.seq ?_
  refine T.text [.l, .l, .l, .l] rfl ?_
  refine J.move rfl rfl ?_
  refine J.add rfl rfl rfl (by first | exact add_nat _ 31 (by omega) | exact i64_ok _ (by omega) | exact rfl) ?_
  refine J.bandnot rfl rfl rfl (andNot31 _ (by omega)) ?_
  refine J.assign rfl rfl ?_
  refine J.end ?_
  refine X.then ?_
  refine T.ret ?_
  exact X.ret1 rfl (RV.tmp rfl) (fun w' hw' => ⟨rfl, hw'.sub (Sub.nil _)⟩)

theorem Grow (w : World) (g : Nat) (i : RowIx) (bs : List Nat) (hm : MOk i bs) (hat : MemAt w 99 5 g i bs) (u : Int) (hu : -9223372036854775808 ≤ u ∧ u ≤ 9223372036854775807) :
    Calls Try.prog 41 [.pointer (some ⟨g, 0, none⟩), .int .i64 u].toArray w fun e w' => MemPost w 99 5 g i (.int .i64 (growE u : Int)) (growB bs u) e w' := by
  have hle := hm.le
  have hmul := hm.mul
  refine calls_of_T (memM g i) 31 [(0, ⟨some g, 99, [i.val bs.length]⟩), (1, i.ent 5 (rowN .u8 bs))] Try.func41 rfl Try.ntmps41 (by simp) hat.start ?_
  refine T.seq ?_
  refine T.text [.l] rfl ?_
  refine J.assign rfl rfl ?_
  refine J.end ?_
  refine X.then ?_
  refine T.seq ?_
  refine T.block ?_
  refine T.seq ?_
  refine T.text [.l, .l, .l] rfl ?_
  refine J.move rfl rfl ?_
  refine J.lss rfl rfl rfl rfl ?_
  refine J.assign rfl rfl ?_
  refine J.end ?_
  refine X.then ?_
  refine T.cond_dec rfl (fun h1 => ?_) (fun h1 => ?_)
  · skip
    refine T.seq ?_
    refine T.text [.l] rfl ?_
    refine J.assign rfl rfl ?_
    refine J.end ?_
    refine X.then ?_
    refine T.ret ?_
    refine X.inBlock_ret (X.then_ret ?_)
    exact X.ret1 rfl (RV.tmp rfl) (fun w' hw' => by
          exact MemPost.mk' (bs' := growB bs u) i (by rw [grow_no (by omega)]; exact hm) rfl (by unfold growE; split <;> (try split) <;> first | rfl | omega) hw' (by rw [grow_no (by omega)] <;> rfl) (by rw [grow_no (by omega)] <;> rfl))
  · skip
    refine T.seq ?_
    refine T.text [.l, .l, .l] rfl ?_
    refine J.move rfl rfl ?_
    refine J.gtr rfl rfl rfl rfl ?_
    refine J.assign rfl rfl ?_
    refine J.end ?_
    refine X.then ?_
    refine T.cond_dec rfl (fun h2 => ?_) (fun h2 => ?_)
    · skip
      refine T.seq ?_
      refine T.text [.l] rfl ?_
      refine J.assign rfl rfl ?_
      refine J.end ?_
      refine X.then ?_
      refine T.ret ?_
      refine X.inBlock_ret (X.then_ret ?_)
      exact X.ret1 rfl (RV.tmp rfl) (fun w' hw' => by
            exact MemPost.mk' (bs' := growB bs u) i (by rw [grow_no (by omega)]; exact hm) rfl (by unfold growE; split <;> (try split) <;> first | rfl | omega) hw' (by rw [grow_no (by omega)] <;> rfl) (by rw [grow_no (by omega)] <;> rfl))
    · obtain ⟨k, rfl⟩ := Int.eq_ofNat_of_zero_le (show 0 ≤ u by omega)
      refine T.skip ?_
      refine X.inBlock (X.then ?_)
      refine T.seq ?_
      refine T.seq ?_
      refine T.draw [] [(0, .g), (1, .q), (2, .g), (3, .g), (4, .g), (5, .q), (6, .g), (7, .g), (8, .g)] (by kernel_rfl) (by kernel_rfl) ?_ (by repeat (first | exact Sub.nil _ | refine Sub.cons (by first | rfl | (rw [dgs_zero]; rfl) | (rw [List.drop_length]; rfl) | (simp; done) | (congr 2; omega) | (congr 3; omega)) ?_))
      refine J.move rfl rfl ?_
      refine J.call0 (k := .q) trivial fok67 rfl rfl (fun w hw => Me.upTo w _ (by omega)) ?_
      refine J.move rfl rfl ?_
      refine J.nilCheck rfl rfl ?_
      refine J.fieldAddr fld99_0 rfl rfl ?_
      refine J.load1 (k := .q) trivial 0 rfl rfl one22 (by first | rfl | with_reducible exact rowN_get0 _ _ _ (by omega) | with_reducible exact rowN_get1 _ _ _ (by omega) | with_reducible exact rowN_get1s _ _ _ _ (by omega) | exact rowN_get1 _ _ _ (by omega) | exact rowN_get1s _ _ _ _ (by omega) | exact rowN_get0 _ _ _ (by omega)) rfl ?_
      refine J.lenSl Try.underlying22 rfl rfl ?_
      refine J.sub' rfl rfl rfl (by exact i64_ok _ (by omega)) ?_
      refine J.assign rfl rfl ?_
      refine J.end ?_
      refine X.then ?_
      refine T.seq ?_
      refine T.text [.l, .l] rfl ?_
      refine J.move rfl rfl ?_
      refine J.gtr rfl rfl rfl rfl ?_
      refine J.end ?_
      refine X.then ?_
      refine T.cond_dec rfl (fun h3 => ?_) (fun h3 => ?_)
      · obtain ⟨q, hq⟩ : ∃ q : Nat, (((k + 31) / 32 * 32 : Nat) : Int) - (bs.length : Int) = (q : Int) := ⟨_, (Int.toNat_of_nonneg (by omega)).symm⟩
        refine T.as 5 (.int .i64 (q : Int)) rfl (by rw [hq]) ?_
        have hgy := grow_yes (bs := bs) (k := k) (q := q) (by omega) (by omega)
        have hgl := growB_length bs (k : Int)
        have hgl2 : (growB bs (k : Int)).length = bs.length + q := by rw [hgy, List.length_append, List.length_replicate]
        refine T.text [.l, .l, .l, .l, .l, .l, .l, .l, .l, .l] rfl ?_
        refine J.move rfl rfl ?_
        refine J.move rfl rfl ?_
        refine J.nilCheck rfl rfl ?_
        refine J.fieldAddr fld99_0 rfl rfl ?_
        refine J.load1 (k := .l) trivial 0 rfl rfl one22 (by first | rfl | with_reducible exact rowN_get0 _ _ _ (by omega) | with_reducible exact rowN_get1 _ _ _ (by omega) | with_reducible exact rowN_get1s _ _ _ _ (by omega) | exact rowN_get1 _ _ _ (by omega) | exact rowN_get1s _ _ _ _ (by omega) | exact rowN_get0 _ _ _ (by omega)) rfl ?_
        refine J.move rfl rfl ?_
        refine J.appendZ 1 rfl Try.underlying22 Try.underlying3 el5 rfl hm.ok (by rw [rowN_length, Nat.mul_one]) rfl rfl rfl (by omega) (by omega) (by unfold maxLen; omega) rfl (growB bs (k : Int)).length (by omega) (rowN .u8 (growB bs (k : Int))) (by rw [zeros_nat, ← rowN_append, hgy]) (fun r28 hr28 => ?_)
        refine J.nilCheck rfl rfl ?_
        refine J.fieldAddr fld99_0 rfl rfl ?_
        refine J.store 0 rfl rfl rfl rfl [r28.val (growB bs (k : Int)).length] rfl sz22 (by first | decide | exact Nat.le_refl _ | exact Nat.le_of_ble_eq_true rfl | (simp [rowN]; done) | (simp [rowN]; omega)) (by first | exact rowN_one _ _ | (simp; done) | (intro u hu; simp at hu; subst hu; rfl) | (intro u hu; simp at hu; rcases hu with rfl | rfl <;> rfl)) (by first | decide | exact Nat.zero_lt_succ _ | simp) trivial [r28.val (growB bs (k : Int)).length] rfl ?_
        refine J.end ?_
        refine X.then ?_
        refine T.seq ?_
        refine T.text [.l] rfl ?_
        refine J.assign rfl rfl ?_
        refine J.end ?_
        refine X.then ?_
        refine T.ret ?_
        exact X.ret1 rfl (RV.tmp rfl) (fun w' hw' => by
              exact MemPost.mk' (bs' := growB bs (k : Int)) r28 (hm.grow hr28) rfl (by unfold growE; split <;> (try split) <;> first | rfl | omega) hw' rfl rfl)
      · skip
        refine T.skip ?_
        refine X.then ?_
        refine T.seq ?_
        refine T.text [.l] rfl ?_
        refine J.assign rfl rfl ?_
        refine J.end ?_
        refine X.then ?_
        refine T.ret ?_
        exact X.ret1 rfl (RV.tmp rfl) (fun w' hw' => by
              exact MemPost.mk' (bs' := growB bs (k : Int)) i (by rw [grow_no (by omega)]; exact hm) rfl (by unfold growE; split <;> (try split) <;> first | rfl | omega) hw' (by rw [grow_no (by omega)] <;> rfl) (by rw [grow_no (by omega)] <;> rfl))

theorem piece (w : World) (g : Nat) (i : RowIx) (bs : List Nat) (hm : MOk i bs) (hat : MemAt w 99 5 g i bs) (a : Int) (ha : -9223372036854775808 ≤ a ∧ a ≤ 9223372036854775807) (n : Int) (hn : -9223372036854775808 ≤ n ∧ n ≤ 9223372036854775807) :
    Calls Try.prog 68 [.pointer (some ⟨g, 0, none⟩), .int .i64 a, .int .i64 n].toArray w fun e w' => e = .returned (.tuple #[pieceV i bs a n, .int .i64 (pieceE bs.length a n : Int)]) ∧ WS w [] [] w' := by
  have hle := hm.le
  have hmul := hm.mul
  refine calls_of_T [] 49 [] Try.func68 rfl Try.ntmps68 (by simp) (WS.refl _ _) ?_
  refine T.seq ?_
  refine T.text [.l, .l] rfl ?_
  refine J.assign rfl rfl ?_
  refine J.assign rfl rfl ?_
  refine J.end ?_
  refine X.then ?_
  refine T.seq ?_
  refine T.block ?_
  refine T.seq ?_
  refine T.text [.l, .l, .l, .l, .l, .l, .l] rfl ?_
  refine J.move rfl rfl ?_
  refine J.lss rfl rfl rfl rfl ?_
  refine J.move rfl rfl ?_
  refine J.split 11 rfl (fun h1 => ?_) (fun h1 => ?_)
  · skip
    refine J.no rfl rfl rfl rfl ?_
    refine J.no rfl rfl rfl rfl ?_
    refine J.pick_t rfl rfl rfl ?_
    refine J.assign rfl rfl ?_
    refine J.end ?_
    refine X.then ?_
    refine T.cond_true rfl ?_
    refine T.seq ?_
    refine T.text [.l, .l] rfl ?_
    refine J.assign rfl rfl ?_
    refine J.assign rfl rfl ?_
    refine J.end ?_
    refine X.then ?_
    refine T.ret ?_
    refine X.inBlock_ret (X.then_ret ?_)
    exact X.ret2 rfl (RV.tmp rfl) (RV.tmp rfl) (fun w' hw' => ⟨by first | (rw [(piece_bad' (i := i) (bs := bs) (a := a) (n := n) (by omega)).1, (piece_bad' (i := i) (bs := bs) (a := a) (n := n) (by omega)).2] <;> rfl) | (rw [(piece_zero' (i := i) (bs := bs) (a := a) (n := n) (by omega) (by omega)).1, (piece_zero' (i := i) (bs := bs) (a := a) (n := n) (by omega) (by omega)).2] <;> rfl) | (rw [(piece_far' (i := i) (bs := bs) (a := a) (n := n) (by omega) (by omega) (by omega)).1, (piece_far' (i := i) (bs := bs) (a := a) (n := n) (by omega) (by omega) (by omega)).2] <;> rfl), hw'.sub (Sub.nil _)⟩)
  · skip
    refine J.yes rfl rfl ?_
    refine J.move rfl rfl ?_
    refine J.yes rfl rfl ?_
    refine J.lss rfl rfl rfl rfl ?_
    refine J.pick_f rfl rfl rfl ?_
    refine J.assign rfl rfl ?_
    refine J.end ?_
    refine X.then ?_
    refine T.cond_dec rfl (fun h2 => ?_) (fun h2 => ?_)
    · skip
      refine T.seq ?_
      refine T.text [.l, .l] rfl ?_
      refine J.assign rfl rfl ?_
      refine J.assign rfl rfl ?_
      refine J.end ?_
      refine X.then ?_
      refine T.ret ?_
      refine X.inBlock_ret (X.then_ret ?_)
      exact X.ret2 rfl (RV.tmp rfl) (RV.tmp rfl) (fun w' hw' => ⟨by first | (rw [(piece_bad' (i := i) (bs := bs) (a := a) (n := n) (by omega)).1, (piece_bad' (i := i) (bs := bs) (a := a) (n := n) (by omega)).2] <;> rfl) | (rw [(piece_zero' (i := i) (bs := bs) (a := a) (n := n) (by omega) (by omega)).1, (piece_zero' (i := i) (bs := bs) (a := a) (n := n) (by omega) (by omega)).2] <;> rfl) | (rw [(piece_far' (i := i) (bs := bs) (a := a) (n := n) (by omega) (by omega) (by omega)).1, (piece_far' (i := i) (bs := bs) (a := a) (n := n) (by omega) (by omega) (by omega)).2] <;> rfl), hw'.sub (Sub.nil _)⟩)
    · skip
      refine T.seq ?_
      refine T.text [.l, .l, .l] rfl ?_
      refine J.move rfl rfl ?_
      refine J.eql rfl rfl rfl rfl ?_
      refine J.assign rfl rfl ?_
      refine J.end ?_
      refine X.then ?_
      refine T.cond_dec rfl (fun h3 => ?_) (fun h3 => ?_)
      · skip
        refine T.seq ?_
        refine T.text [.l, .l] rfl ?_
        refine J.assign rfl rfl ?_
        refine J.assign rfl rfl ?_
        refine J.end ?_
        refine X.then ?_
        refine T.ret ?_
        refine X.inBlock_ret (X.then_ret ?_)
        exact X.ret2 rfl (RV.tmp rfl) (RV.tmp rfl) (fun w' hw' => ⟨by first | (rw [(piece_bad' (i := i) (bs := bs) (a := a) (n := n) (by omega)).1, (piece_bad' (i := i) (bs := bs) (a := a) (n := n) (by omega)).2] <;> rfl) | (rw [(piece_zero' (i := i) (bs := bs) (a := a) (n := n) (by omega) (by omega)).1, (piece_zero' (i := i) (bs := bs) (a := a) (n := n) (by omega) (by omega)).2] <;> rfl) | (rw [(piece_far' (i := i) (bs := bs) (a := a) (n := n) (by omega) (by omega) (by omega)).1, (piece_far' (i := i) (bs := bs) (a := a) (n := n) (by omega) (by omega) (by omega)).2] <;> rfl), hw'.sub (Sub.nil _)⟩)
      · skip
        refine T.seq ?_
        refine T.text [.l, .l, .l, .l, .l, .l, .l, .l, .l, .l, .l, .l, .l, .l, .l, .l, .l, .l, .l] rfl ?_
        refine J.move rfl rfl ?_
        refine J.move rfl rfl ?_
        refine J.nilCheck rfl rfl ?_
        refine J.fieldAddr fld99_0 rfl rfl ?_
        refine J.loadB1 (k := .l) trivial hat.objCs (off_nil _) rfl one22 rfl rfl ?_
        refine J.lenSl Try.underlying22 rfl rfl ?_
        refine J.gtr rfl rfl rfl rfl ?_
        refine J.move rfl rfl ?_
        refine J.split 26 rfl (fun h4 => ?_) (fun h4 => ?_)
        · skip
          refine J.no rfl rfl rfl rfl ?_
          refine J.no rfl rfl rfl rfl ?_
          refine J.no rfl rfl rfl rfl ?_
          refine J.no rfl rfl rfl rfl ?_
          refine J.no rfl rfl rfl rfl ?_
          refine J.no rfl rfl rfl rfl ?_
          refine J.no rfl rfl rfl rfl ?_
          refine J.no rfl rfl rfl rfl ?_
          refine J.no rfl rfl rfl rfl ?_
          refine J.pick_t rfl rfl rfl ?_
          refine J.assign rfl rfl ?_
          refine J.end ?_
          refine X.then ?_
          refine T.cond_true rfl ?_
          refine T.seq ?_
          refine T.text [.l, .l] rfl ?_
          refine J.assign rfl rfl ?_
          refine J.assign rfl rfl ?_
          refine J.end ?_
          refine X.then ?_
          refine T.ret ?_
          refine X.inBlock_ret (X.then_ret ?_)
          exact X.ret2 rfl (RV.tmp rfl) (RV.tmp rfl) (fun w' hw' => ⟨by first | (rw [(piece_bad' (i := i) (bs := bs) (a := a) (n := n) (by omega)).1, (piece_bad' (i := i) (bs := bs) (a := a) (n := n) (by omega)).2] <;> rfl) | (rw [(piece_zero' (i := i) (bs := bs) (a := a) (n := n) (by omega) (by omega)).1, (piece_zero' (i := i) (bs := bs) (a := a) (n := n) (by omega) (by omega)).2] <;> rfl) | (rw [(piece_far' (i := i) (bs := bs) (a := a) (n := n) (by omega) (by omega) (by omega)).1, (piece_far' (i := i) (bs := bs) (a := a) (n := n) (by omega) (by omega) (by omega)).2] <;> rfl), hw'.sub (Sub.nil _)⟩)
        · skip
          refine J.yes rfl rfl ?_
          refine J.move rfl rfl ?_
          refine J.yes rfl rfl ?_
          refine J.move rfl rfl ?_
          refine J.yes rfl rfl ?_
          refine J.nilCheck rfl rfl ?_
          refine J.yes rfl rfl ?_
          refine J.fieldAddr fld99_0 rfl rfl ?_
          refine J.yes rfl rfl ?_
          refine J.loadB1 (k := .l) trivial hat.objCs (off_nil _) rfl one22 rfl rfl ?_
          refine J.yes rfl rfl ?_
          refine J.lenSl Try.underlying22 rfl rfl ?_
          refine J.yes rfl rfl ?_
          refine J.move rfl rfl ?_
          refine J.yes rfl rfl ?_
          refine J.sub' rfl rfl rfl (by exact i64_ok _ (by omega)) ?_
          refine J.yes rfl rfl ?_
          refine J.gtr rfl rfl rfl rfl ?_
          refine J.pick_f rfl rfl rfl ?_
          refine J.assign rfl rfl ?_
          refine J.end ?_
          refine X.then ?_
          refine T.cond_dec rfl (fun h5 => ?_) (fun h5 => ?_)
          · skip
            refine T.seq ?_
            refine T.text [.l, .l] rfl ?_
            refine J.assign rfl rfl ?_
            refine J.assign rfl rfl ?_
            refine J.end ?_
            refine X.then ?_
            refine T.ret ?_
            refine X.inBlock_ret (X.then_ret ?_)
            exact X.ret2 rfl (RV.tmp rfl) (RV.tmp rfl) (fun w' hw' => ⟨by first | (rw [(piece_bad' (i := i) (bs := bs) (a := a) (n := n) (by omega)).1, (piece_bad' (i := i) (bs := bs) (a := a) (n := n) (by omega)).2] <;> rfl) | (rw [(piece_zero' (i := i) (bs := bs) (a := a) (n := n) (by omega) (by omega)).1, (piece_zero' (i := i) (bs := bs) (a := a) (n := n) (by omega) (by omega)).2] <;> rfl) | (rw [(piece_far' (i := i) (bs := bs) (a := a) (n := n) (by omega) (by omega) (by omega)).1, (piece_far' (i := i) (bs := bs) (a := a) (n := n) (by omega) (by omega) (by omega)).2] <;> rfl), hw'.sub (Sub.nil _)⟩)
          · obtain ⟨p, rfl⟩ := Int.eq_ofNat_of_zero_le (show 0 ≤ a by omega)
            obtain ⟨q, rfl⟩ := Int.eq_ofNat_of_zero_le (show 0 ≤ n by omega)
            have hsp := slice_piece (p := p) (q := q) hm (by omega) (by omega)
            refine T.skip ?_
            refine X.inBlock (X.then ?_)
            refine T.seq ?_
            refine T.text [.l, .l, .l, .l, .l, .l, .l, .l, .l, .l, .l, .l, .l, .l] rfl ?_
            refine J.move rfl rfl ?_
            refine J.nilCheck rfl rfl ?_
            refine J.fieldAddr fld99_0 rfl rfl ?_
            refine J.loadB1 (k := .l) trivial hat.objCs (off_nil _) rfl one22 rfl rfl ?_
            refine J.move rfl rfl ?_
            refine J.move rfl rfl ?_
            refine J.move rfl rfl ?_
            refine J.add rfl rfl rfl (by first | exact add_nat _ _ (by omega) | exact i64_ok _ (by omega) | exact rfl) ?_
            refine J.move rfl rfl ?_
            refine J.move rfl rfl ?_
            refine J.add rfl rfl rfl (by first | exact add_nat _ _ (by omega) | exact i64_ok _ (by omega) | exact rfl) ?_
            refine J.sliceSl sl22 rfl (optInt.some rfl (by omega) (by first | exact Int.toNat_natCast _ | rfl)) (optInt.some rfl (by omega) (by first | exact Int.toNat_natCast _ | rfl)) (optInt.some rfl (by omega) (by first | exact Int.toNat_natCast _ | rfl)) (by simp) (by omega) (by omega) (by have := hm.ok.le; omega) rfl rfl ?_
            refine J.as 48 (pieceV i bs (p : Int) (q : Int)) rfl hsp.1 ?_
            refine J.assign rfl rfl ?_
            refine J.assign rfl rfl ?_
            refine J.end ?_
            refine X.then ?_
            refine T.ret ?_
            exact X.ret2 rfl (RV.tmp rfl) (RV.tmp rfl) (fun w' hw' => ⟨by rw [hsp.2] <;> rfl, hw'.sub (Sub.nil _)⟩)

theorem Load (w : World) (g : Nat) (i : RowIx) (bs : List Nat) (hm : MOk i bs) (hat : MemAt w 99 5 g i bs) (a : Int) (ha : -9223372036854775808 ≤ a ∧ a ≤ 9223372036854775807) :
    Calls Try.prog 48 [.pointer (some ⟨g, 0, none⟩), .int .i64 a].toArray w fun e w' => e = .returned (.tuple #[W (loadX bs a), .int .i64 (pieceE bs.length a 32 : Int)]) ∧ WS w [] [] w' := by
  have hle := hm.le
  have hmul := hm.mul
  have hcl := cutB_le bs a 32
  have hcd := cutB_dg hm.dg a 32
  refine calls_of_T [] 22 [] Try.func48 rfl Try.ntmps48 (by simp) (WS.refl _ _) ?_
  refine T.seq ?_
  refine T.text [.l, .l] rfl ?_
  refine J.alloc 4 rfl zero25 [.int .u64 0, .int .u64 0, .int .u64 0, .int .u64 0] rfl rfl (fun g4 hg4 => ?_)
  refine J.assign rfl rfl ?_
  refine J.end ?_
  refine X.then ?_
  refine T.seq ?_
  refine T.text [.l, .l, .l, .l, .l, .l, .l, .l] rfl ?_
  refine J.move rfl rfl ?_
  refine J.move rfl rfl ?_
  refine J.call0 (k := .l) trivial fok68 rfl rfl (fun w hw => Me.piece w g i bs hm (hat.ws hw) _ (by omega) _ (by omega)) ?_
  refine J.move rfl rfl ?_
  refine J.extract rfl rfl rfl ?_
  refine J.extract rfl rfl rfl ?_
  refine J.assign rfl rfl ?_
  refine J.assign rfl rfl ?_
  refine J.end ?_
  refine X.then ?_
  refine T.seq ?_
  refine T.seq ?_
  refine T.text [.l, .l] rfl ?_
  refine J.move rfl rfl ?_
  refine J.neq rfl rfl rfl rfl ?_
  refine J.end ?_
  refine X.then ?_
  refine T.cond_dec rfl (fun h1 => ?_) (fun h1 => ?_)
  · skip
    refine T.seq ?_
    refine T.text [.l, .l, .l, .l] rfl ?_
    refine J.build rfl rfl (W 0) (fun w => by kernel_rfl) ?_
    refine J.move rfl rfl ?_
    refine J.store 4 rfl rfl rfl rfl (wc 0) rfl sz25 (by first | decide | exact Nat.le_refl _ | exact Nat.le_of_ble_eq_true rfl | (simp [rowN]; done) | (simp [rowN]; omega)) (by first | exact rowN_one _ _ | (simp; done) | (intro u hu; simp at hu; subst hu; rfl) | (intro u hu; simp at hu; rcases hu with rfl | rfl <;> rfl)) (by first | decide | exact Nat.zero_lt_succ _ | simp) trivial (wc 0) rfl ?_
    refine J.assign rfl rfl ?_
    refine J.end ?_
    refine X.then ?_
    refine T.ret ?_
    refine X.then_ret ?_
    exact X.ret2 rfl (RV.agg 4 rfl rfl agg25 (wc 0) (by rfl) (by rfl) rfl) (RV.tmp rfl) (fun w' hw' => ⟨by rw [loadX_no (by omega)] <;> rfl, hw'.sub (Sub.nil _)⟩)
  · skip
    refine T.skip ?_
    refine X.then ?_
    refine T.seq ?_
    refine T.text [.l, .l, .l, .l, .l, .l] rfl ?_
    refine J.move rfl rfl ?_
    refine J.call0 (k := .l) trivial fok49 rfl rfl (fun w hw => Wa.FromBytes w _ _ _ ((cut_cs hat.rowCs a 32).ws hw (off_nil _)) (by first | assumption | omega) (by first | assumption | omega)) ?_
    rw [(loadX_yes (bs := bs) (a := a) (by omega)).1]
    refine J.extract rfl rfl rfl ?_
    refine J.extract rfl rfl rfl ?_
    refine J.store 4 rfl rfl rfl rfl (wc (loadX bs a)) rfl sz25 (by first | decide | exact Nat.le_refl _ | exact Nat.le_of_ble_eq_true rfl | (simp [rowN]; done) | (simp [rowN]; omega)) (by first | exact rowN_one _ _ | (simp; done) | (intro u hu; simp at hu; subst hu; rfl) | (intro u hu; simp at hu; rcases hu with rfl | rfl <;> rfl)) (by first | decide | exact Nat.zero_lt_succ _ | simp) trivial (wc (loadX bs a)) rfl ?_
    refine J.assign rfl rfl ?_
    refine J.end ?_
    refine X.then ?_
    refine T.ret ?_
    exact X.ret2 rfl (RV.agg 4 rfl rfl agg25 (wc (loadX bs a)) (by rfl) (by rfl) rfl) (RV.tmp rfl) (fun w' hw' => ⟨by rw [(loadX_yes (bs := bs) (a := a) (by omega)).2, show pieceE bs.length a 32 = 0 by omega], hw'.sub (Sub.nil _)⟩)

theorem Read (w : World) (g : Nat) (i : RowIx) (bs : List Nat) (hm : MOk i bs) (hat : MemAt w 99 5 g i bs) (a : Int) (ha : -9223372036854775808 ≤ a ∧ a ≤ 9223372036854775807) (n : Int) (hn : -9223372036854775808 ≤ n ∧ n ≤ 9223372036854775807) :
    Calls Try.prog 46 [.pointer (some ⟨g, 0, none⟩), .int .i64 a, .int .i64 n].toArray w fun e w' => RowEPost w 5 .u8 (fun zs n' => zs = cutB bs a n ∧ n' = pieceE bs.length a n) e w' := by
  have hle := hm.le
  have hmul := hm.mul
  have hcl := cutB_le bs a n
  refine calls_of_T [] 26 [] Try.func46 rfl Try.ntmps46 (by simp) (WS.refl _ _) ?_
  refine T.seq ?_
  refine T.text [.l, .l] rfl ?_
  refine J.assign rfl rfl ?_
  refine J.assign rfl rfl ?_
  refine J.end ?_
  refine X.then ?_
  refine T.seq ?_
  refine T.text [.l, .l, .l, .l, .l, .l, .l, .l, .l] rfl ?_
  refine J.move rfl rfl ?_
  refine J.move rfl rfl ?_
  refine J.move rfl rfl ?_
  refine J.call0 (k := .l) trivial fok68 rfl rfl (fun w hw => Me.piece w g i bs hm (hat.ws hw) _ (by omega) _ (by omega)) ?_
  refine J.move rfl rfl ?_
  refine J.extract rfl rfl rfl ?_
  refine J.extract rfl rfl rfl ?_
  refine J.assign rfl rfl ?_
  refine J.assign rfl rfl ?_
  refine J.end ?_
  refine X.then ?_
  refine T.seq ?_
  refine T.text [.l, .l, .l, .l] rfl ?_
  refine J.move rfl rfl ?_
  refine J.lenSl Try.underlying22 rfl rfl ?_
  refine J.makeSlice 20 rfl (q := (cutB bs a n).length) (c0 := (cutB bs a n).length) Try.underlying22 el5 rfl rfl (by first | rfl | omega) (by first | rfl | omega) (by omega) (by omega) (by unfold maxLen; omega) rfl (fun g20 hg20 => ?_)
  rw [zeros_nat]
  refine J.assign rfl rfl ?_
  refine J.end ?_
  refine X.then ?_
  refine T.seq ?_
  refine T.text [.l, .l, .l] rfl ?_
  refine J.move rfl rfl ?_
  refine J.move rfl rfl ?_
  refine J.copy 20 rfl (o := 0) (q := (cutB bs a n).length) (news := (rowN .u8 (cutB bs a n))) sl22 (by decide) rfl rfl rfl (fun _ => rfl) (Nat.min_self _) (by rw [rowN_length, Nat.mul_one]) (fun w hw => ((cut_cs hat.rowCs a n).ws hw (off_nil _))) (rowN_one _ _) (by rw [rowN_length]; show _ ≤ (rowN .u8 (List.replicate _ 0)).length; rw [rowN_length, List.length_replicate]; omega) rfl (rowN .u8 (cutB bs a n)) (put_all _ _ (by rw [rowN_length, rowN_length, List.length_replicate])) ?_
  refine J.end ?_
  refine X.then ?_
  refine T.seq ?_
  refine T.text [.l, .l, .l, .l] rfl ?_
  refine J.move rfl rfl ?_
  refine J.move rfl rfl ?_
  refine J.assign rfl rfl ?_
  refine J.assign rfl rfl ?_
  refine J.end ?_
  refine X.then ?_
  refine T.ret ?_
  exact X.ret2 rfl (RV.tmp rfl) (RV.tmp rfl) (fun w' hw' => RowEPost.mk' (cutB bs a n) (pieceE bs.length a n) ⟨rfl, rfl⟩ ⟨some g20, (cutB bs a n).length, []⟩ (RowIx.blk_ok _ _ (by unfold maxLen; omega)) rfl hw' 20 (by simp [RowIx.ent] <;> rfl))

theorem Write (w : World) (g : Nat) (i : RowIx) (bs : List Nat) (hm : MOk i bs) (hat : MemAt w 99 5 g i bs) (a : Int) (ha : -9223372036854775808 ≤ a ∧ a ≤ 9223372036854775807) (A : Option Addr) (xs : List Nat) (c : Nat) (hc : Cs w A (rowN .u8 xs)) (ho : xs ≠ [] → Off (memM g i) A) (hxd : Dg xs) (hxl : xs.length ≤ 9223372036854775807) :
    Calls Try.prog 45 [.pointer (some ⟨g, 0, none⟩), .int .i64 a, .slice A xs.length c].toArray w fun e w' => MemPost w 99 5 g i (.int .i64 (pieceE bs.length a (xs.length : Nat) : Int)) (writeB bs a xs) e w' := by
  have hle := hm.le
  have hmul := hm.mul
  have hcl := cutB_le bs a (xs.length : Nat)
  refine calls_of_T (memM g i) 21 [(0, ⟨some g, 99, [i.val bs.length]⟩), (1, i.ent 5 (rowN .u8 bs))] Try.func45 rfl Try.ntmps45 (by simp) hat.start ?_
  refine T.seq ?_
  refine T.text [.l] rfl ?_
  refine J.assign rfl rfl ?_
  refine J.end ?_
  refine X.then ?_
  refine T.seq ?_
  refine T.text [.l, .l, .l, .l, .l, .l, .l, .l, .l, .l] rfl ?_
  refine J.move rfl rfl ?_
  refine J.move rfl rfl ?_
  refine J.move rfl rfl ?_
  refine J.lenSl Try.underlying22 rfl rfl ?_
  refine J.call0 (k := .l) trivial fok68 rfl rfl (fun w hw => Me.piece w g i bs hm (hw.memAt 0 1 rfl rfl (by decide)) _ (by omega) _ (by omega)) ?_
  refine J.move rfl rfl ?_
  refine J.extract rfl rfl rfl ?_
  refine J.extract rfl rfl rfl ?_
  refine J.assign rfl rfl ?_
  refine J.assign rfl rfl ?_
  refine J.end ?_
  refine X.then ?_
  refine T.seq ?_
  refine T.text [.l, .l, .l] rfl ?_
  refine J.move rfl rfl ?_
  refine J.move rfl rfl ?_
  refine J.copy 1 rfl (o := (wO bs a xs)) (q := (wN bs a xs).length) (news := (rowN .u8 (wN bs a xs))) sl22 (by decide) rfl rfl rfl (fun h => wN_addr h) (wN_min _ _ _) (by rw [rowN_length, Nat.mul_one]) (fun w hw => (wN_cs (hc.wsN hw ho))) (rowN_one _ _) (by show _ ≤ (rowN .u8 bs ++ i.sp).length; rw [List.length_append, rowN_length, rowN_length]; have := wN_fit bs xs a; omega) rfl (rowN .u8 (writeB bs a xs) ++ i.sp) (wN_put _ _ _ _) ?_
  refine J.end ?_
  refine X.then ?_
  refine T.seq ?_
  refine T.text [.l, .l] rfl ?_
  refine J.move rfl rfl ?_
  refine J.assign rfl rfl ?_
  refine J.end ?_
  refine X.then ?_
  refine T.ret ?_
  exact X.ret1 rfl (RV.tmp rfl) (fun w' hw' => by
        exact MemPost.mk' (bs' := writeB bs a xs) i (hm.write hxd a) rfl (by rfl) hw' (by rw [writeB_length] <;> rfl) rfl)

theorem Store (w : World) (g : Nat) (i : RowIx) (bs : List Nat) (hm : MOk i bs) (hat : MemAt w 99 5 g i bs) (a : Int) (ha : -9223372036854775808 ≤ a ∧ a ≤ 9223372036854775807) (x : Nat) :
    Calls Try.prog 43 [.pointer (some ⟨g, 0, none⟩), .int .i64 a, W x].toArray w fun e w' => MemPost w 99 5 g i (.int .i64 (pieceE bs.length a 32 : Int)) (writeB bs a (bytesN x)) e w' := by
  have hle := hm.le
  have hmul := hm.mul
  have hbl := bytesN_length x
  have hbd := bytesN_dg x
  refine calls_of_T (memM g i) 14 [(0, ⟨some g, 99, [i.val bs.length]⟩), (1, i.ent 5 (rowN .u8 bs))] Try.func43 rfl Try.ntmps43 (by simp) hat.start ?_
  refine T.seq ?_
  refine T.text [.l, .l] rfl ?_
  refine J.box 5 rfl rfl (wc x) rfl rfl (fun g5 hg5 => ?_)
  refine J.assign rfl rfl ?_
  refine J.end ?_
  refine X.then ?_
  refine T.seq ?_
  refine T.text [.l, .l, .l, .l] rfl ?_
  refine J.loadN (k := .l) trivial 5 rfl rfl agg25 (wc x) rfl rfl rfl ?_
  refine J.call0 (k := .l) trivial fok42 rfl rfl (fun w hw => Wa.Bytes w _) ?_
  refine J.alloc 7 rfl zero67 [.int .u8 0, .int .u8 0, .int .u8 0, .int .u8 0, .int .u8 0, .int .u8 0, .int .u8 0, .int .u8 0, .int .u8 0, .int .u8 0, .int .u8 0, .int .u8 0, .int .u8 0, .int .u8 0, .int .u8 0, .int .u8 0, .int .u8 0, .int .u8 0, .int .u8 0, .int .u8 0, .int .u8 0, .int .u8 0, .int .u8 0, .int .u8 0, .int .u8 0, .int .u8 0, .int .u8 0, .int .u8 0, .int .u8 0, .int .u8 0, .int .u8 0, .int .u8 0] rfl rfl (fun g7 hg7 => ?_)
  refine J.store 7 rfl rfl rfl rfl (rowN .u8 (bytesN x)) rfl (by rw [rowN_length, bytesN_length]; exact sz67) (by rw [rowN_length, bytesN_length]; exact Nat.le_refl _) (by first | exact rowN_one _ _ | (simp; done) | (intro u hu; simp at hu; subst hu; rfl) | (intro u hu; simp at hu; rcases hu with rfl | rfl <;> rfl)) (by rw [rowN_length, bytesN_length]; decide) trivial (rowN .u8 (bytesN x)) (by unfold put; rw [rowN_length, bytesN_length]; exact List.append_nil _) ?_
  refine J.end ?_
  refine X.then ?_
  refine T.seq ?_
  refine T.text [.l, .l, .l, .l, .l] rfl ?_
  refine J.move rfl rfl ?_
  refine J.move rfl rfl ?_
  refine J.sliceArr arr67 rfl optInt.none optInt.none optInt.none (by simp) (by omega) (by omega) (by omega) rfl rfl ?_
  refine J.as 12 (.slice (some ⟨g7, 0, none⟩) (bytesN x).length 32) rfl (by rw [bytesN_length] <;> rfl) ?_
  refine J.callMem 0 1 (by decide) (g := g) (i := i) (bs := bs) (bs' := writeB bs a (bytesN x)) rfl rfl rfl rfl fok45 rfl rfl (fun w hw => Me.Write w g i bs hm (hw.memAt 0 1 rfl rfl (by decide)) _ (by omega) _ _ _ (hw.blkCs (k := 7) rfl) (fun _ => hw.offMem 0 1 rfl rfl 7 rfl (by decide) (by decide)) (by first | assumption | omega) (by first | assumption | omega)) (fun i13 hm13 => ?_)
  refine J.assign rfl rfl ?_
  refine J.end ?_
  refine X.then ?_
  refine T.ret ?_
  exact X.ret1 rfl (RV.tmp rfl) (fun w' hw' => by
        exact MemPost.mk' (bs' := writeB bs a (bytesN x)) i13 hm13 rfl (by rw [bytesN_length] <;> rfl) hw' rfl rfl)

theorem Store8 (w : World) (g : Nat) (i : RowIx) (bs : List Nat) (hm : MOk i bs) (hat : MemAt w 99 5 g i bs) (a : Int) (ha : -9223372036854775808 ≤ a ∧ a ≤ 9223372036854775807) (x : Nat) (hx : x < 256) :
    Calls Try.prog 44 [.pointer (some ⟨g, 0, none⟩), .int .i64 a, .int .u8 (x : Int)].toArray w fun e w' => MemPost w 99 5 g i (.int .i64 (pieceE bs.length a 1 : Int)) (writeB bs a [x]) e w' := by
  have hle := hm.le
  have hmul := hm.mul
  have hbd : Dg [x] := Dg.nil.snoc hx
  have hbl : [x].length = 1 := rfl
  refine calls_of_T (memM g i) 12 [(0, ⟨some g, 99, [i.val bs.length]⟩), (1, i.ent 5 (rowN .u8 bs))] Try.func44 rfl Try.ntmps44 (by simp) hat.start ?_
  refine T.seq ?_
  refine T.text [.l] rfl ?_
  refine J.assign rfl rfl ?_
  refine J.end ?_
  refine X.then ?_
  refine T.seq ?_
  refine T.text [.l, .l, .l, .l, .l, .l] rfl ?_
  refine J.move rfl rfl ?_
  refine J.move rfl rfl ?_
  refine J.move rfl rfl ?_
  refine J.lit1 10 rfl Try.underlying22 el5 (by decide) rfl (rowN .u8 [x]) rfl rfl rfl (fun g10 hg10 => ?_)
  refine J.callMem 0 1 (by decide) (g := g) (i := i) (bs := bs) (bs' := writeB bs a [x]) rfl rfl rfl rfl fok45 rfl rfl (fun w hw => Me.Write w g i bs hm (hw.memAt 0 1 rfl rfl (by decide)) _ (by omega) _ _ _ (hw.blkCs (k := 10) rfl) (fun _ => hw.offMem 0 1 rfl rfl 10 rfl (by decide) (by decide)) (by first | assumption | omega) (by first | assumption | omega)) (fun i11 hm11 => ?_)
  refine J.assign rfl rfl ?_
  refine J.end ?_
  refine X.then ?_
  refine T.ret ?_
  exact X.ret1 rfl (RV.tmp rfl) (fun w' hw' => by
        exact MemPost.mk' (bs' := writeB bs a [x]) i11 hm11 rfl (by rfl) hw' rfl rfl)

theorem Move (w : World) (g : Nat) (i : RowIx) (bs : List Nat) (hm : MOk i bs) (hat : MemAt w 99 5 g i bs) (t : Int) (ht : -9223372036854775808 ≤ t ∧ t ≤ 9223372036854775807) (f : Int) (hf : -9223372036854775808 ≤ f ∧ f ≤ 9223372036854775807) (n : Int) (hn : -9223372036854775808 ≤ n ∧ n ≤ 9223372036854775807) :
    Calls Try.prog 47 [.pointer (some ⟨g, 0, none⟩), .int .i64 t, .int .i64 f, .int .i64 n].toArray w fun e w' => MemPost w 99 5 g i (.int .i64 (moveE bs.length t f n : Int)) (moveB bs t f n) e w' := by
  have hle := hm.le
  have hmul := hm.mul
  refine calls_of_T (memM g i) 46 [(0, ⟨some g, 99, [i.val bs.length]⟩), (1, i.ent 5 (rowN .u8 bs))] Try.func47 rfl Try.ntmps47 (by simp) hat.start ?_
  refine T.seq ?_
  refine T.text [.l] rfl ?_
  refine J.assign rfl rfl ?_
  refine J.end ?_
  refine X.then ?_
  refine T.seq ?_
  refine T.seq ?_
  refine T.text [.l, .l, .l, .l, .l, .l, .l, .l, .l, .l] rfl ?_
  refine J.move rfl rfl ?_
  refine J.lss rfl rfl rfl rfl ?_
  refine J.move rfl rfl ?_
  refine J.split 15 rfl (fun h1 => ?_) (fun h1 => ?_)
  · skip
    refine J.no rfl rfl rfl rfl ?_
    refine J.no rfl rfl rfl rfl ?_
    refine J.pick_t rfl rfl rfl ?_
    refine J.move rfl rfl ?_
    refine J.no rfl rfl rfl rfl ?_
    refine J.no rfl rfl rfl rfl ?_
    refine J.pick_t rfl rfl rfl ?_
    refine J.end ?_
    refine X.then ?_
    refine T.cond_true rfl ?_
    refine T.seq ?_
    refine T.text [.l] rfl ?_
    refine J.assign rfl rfl ?_
    refine J.end ?_
    refine X.then ?_
    refine T.ret ?_
    refine X.then_ret ?_
    exact X.ret1 rfl (RV.tmp rfl) (fun w' hw' => by
          exact MemPost.mk' (bs' := moveB bs t f n) i (hm.move _ _ _) rfl (by rw [moveE_bad (by omega)] <;> rfl) hw' (by rw [moveB_length] <;> rfl) (by rw [moveB_no (by rw [moveE_bad (by omega)]; omega)] <;> rfl))
  · skip
    refine J.yes rfl rfl ?_
    refine J.move rfl rfl ?_
    refine J.yes rfl rfl ?_
    refine J.lss rfl rfl rfl rfl ?_
    refine J.pick_f rfl rfl rfl ?_
    refine J.move rfl rfl ?_
    refine J.split 19 rfl (fun h2 => ?_) (fun h2 => ?_)
    · skip
      refine J.no rfl rfl rfl rfl ?_
      refine J.no rfl rfl rfl rfl ?_
      refine J.pick_t rfl rfl rfl ?_
      refine J.end ?_
      refine X.then ?_
      refine T.cond_true rfl ?_
      refine T.seq ?_
      refine T.text [.l] rfl ?_
      refine J.assign rfl rfl ?_
      refine J.end ?_
      refine X.then ?_
      refine T.ret ?_
      refine X.then_ret ?_
      exact X.ret1 rfl (RV.tmp rfl) (fun w' hw' => by
            exact MemPost.mk' (bs' := moveB bs t f n) i (hm.move _ _ _) rfl (by rw [moveE_bad (by omega)] <;> rfl) hw' (by rw [moveB_length] <;> rfl) (by rw [moveB_no (by rw [moveE_bad (by omega)]; omega)] <;> rfl))
    · skip
      refine J.yes rfl rfl ?_
      refine J.move rfl rfl ?_
      refine J.yes rfl rfl ?_
      refine J.lss rfl rfl rfl rfl ?_
      refine J.pick_f rfl rfl rfl ?_
      refine J.end ?_
      refine X.then ?_
      refine T.cond_dec rfl (fun h3 => ?_) (fun h3 => ?_)
      · skip
        refine T.seq ?_
        refine T.text [.l] rfl ?_
        refine J.assign rfl rfl ?_
        refine J.end ?_
        refine X.then ?_
        refine T.ret ?_
        refine X.then_ret ?_
        exact X.ret1 rfl (RV.tmp rfl) (fun w' hw' => by
              exact MemPost.mk' (bs' := moveB bs t f n) i (hm.move _ _ _) rfl (by rw [moveE_bad (by omega)] <;> rfl) hw' (by rw [moveB_length] <;> rfl) (by rw [moveB_no (by rw [moveE_bad (by omega)]; omega)] <;> rfl))
      · have hcd := cutB_dg hm.dg f n
        obtain ⟨q, rfl⟩ := Int.eq_ofNat_of_zero_le (show 0 ≤ n by omega)
        refine T.skip ?_
        refine X.then ?_
        refine T.seq ?_
        refine T.text [.l, .l, .l, .l, .l, .l, .l, .l, .l] rfl ?_
        refine J.move rfl rfl ?_
        refine J.move rfl rfl ?_
        refine J.move rfl rfl ?_
        refine J.call0 (k := .l) trivial fok68 rfl rfl (fun w hw => Me.piece w g i bs hm (hw.memAt 0 1 rfl rfl (by decide)) _ (by omega) _ (by omega)) ?_
        refine J.move rfl rfl ?_
        refine J.extract rfl rfl rfl ?_
        refine J.extract rfl rfl rfl ?_
        refine J.assign rfl rfl ?_
        refine J.assign rfl rfl ?_
        refine J.end ?_
        refine X.then ?_
        refine T.seq ?_
        refine T.text [.l, .l, .l, .l, .l, .l, .l, .l, .l] rfl ?_
        refine J.move rfl rfl ?_
        refine J.move rfl rfl ?_
        refine J.move rfl rfl ?_
        refine J.call0 (k := .l) trivial fok68 rfl rfl (fun w hw => Me.piece w g i bs hm (hw.memAt 0 1 rfl rfl (by decide)) _ (by omega) _ (by omega)) ?_
        refine J.move rfl rfl ?_
        refine J.extract rfl rfl rfl ?_
        refine J.extract rfl rfl rfl ?_
        refine J.assign rfl rfl ?_
        refine J.assign rfl rfl ?_
        refine J.end ?_
        refine X.then ?_
        refine T.seq ?_
        refine T.seq ?_
        refine T.text [.l, .l, .l, .l, .l, .l] rfl ?_
        refine J.move rfl rfl ?_
        refine J.neq rfl rfl rfl rfl ?_
        refine J.move rfl rfl ?_
        refine J.split 39 rfl (fun h4 => ?_) (fun h4 => ?_)
        · skip
          refine J.no rfl rfl rfl rfl ?_
          refine J.no rfl rfl rfl rfl ?_
          refine J.pick_t rfl rfl rfl ?_
          refine J.end ?_
          refine X.then ?_
          refine T.cond_true rfl ?_
          refine T.seq ?_
          refine T.text [.l] rfl ?_
          refine J.assign rfl rfl ?_
          refine J.end ?_
          refine X.then ?_
          refine T.ret ?_
          refine X.then_ret ?_
          exact X.ret1 rfl (RV.tmp rfl) (fun w' hw' => by
                exact MemPost.mk' (bs' := moveB bs t f (q : Int)) i (hm.move _ _ _) rfl (by rw [moveE_far (by omega) (by omega)] <;> rfl) hw' (by rw [moveB_length] <;> rfl) (by rw [moveB_no (by rw [moveE_far (by omega) (by omega)]; omega)] <;> rfl))
        · skip
          refine J.yes rfl rfl ?_
          refine J.move rfl rfl ?_
          refine J.yes rfl rfl ?_
          refine J.neq rfl rfl rfl rfl ?_
          refine J.pick_f rfl rfl rfl ?_
          refine J.end ?_
          refine X.then ?_
          refine T.cond_dec rfl (fun h5 => ?_) (fun h5 => ?_)
          · skip
            refine T.seq ?_
            refine T.text [.l] rfl ?_
            refine J.assign rfl rfl ?_
            refine J.end ?_
            refine X.then ?_
            refine T.ret ?_
            refine X.then_ret ?_
            exact X.ret1 rfl (RV.tmp rfl) (fun w' hw' => by
                  exact MemPost.mk' (bs' := moveB bs t f (q : Int)) i (hm.move _ _ _) rfl (by rw [moveE_far (by omega) (by omega)] <;> rfl) hw' (by rw [moveB_length] <;> rfl) (by rw [moveB_no (by rw [moveE_far (by omega) (by omega)]; omega)] <;> rfl))
          · have hcl := cutB_len (bs := bs) (a := f) (n := (q : Int)) (by omega)
            have hcn : (((cutB bs f (q : Int)).length : Nat) : Int) = (q : Int) := by omega
            have hmE := moveE_ok (L := bs.length) (t := t) (f := f) (n := (q : Int)) (by omega) (by omega) (by omega)
            have hmB := moveB_yes hmE
            refine T.skip ?_
            refine X.then ?_
            refine T.seq ?_
            refine T.text [.l, .l, .l] rfl ?_
            refine J.move rfl rfl ?_
            refine J.move rfl rfl ?_
            refine J.copy 1 rfl (o := (wO bs t (cutB bs f (q : Int)))) (q := (wN bs t (cutB bs f (q : Int))).length) (news := (rowN .u8 (wN bs t (cutB bs f (q : Int))))) sl22 (by decide) rfl rfl rfl (fun h => by have := wN_addr (i := i) h; rw [hcn] at this; exact this) (by have := wN_min bs (cutB bs f (q : Int)) t; rw [hcn] at this; exact this) (by rw [rowN_length, Nat.mul_one]) (fun w hw => (wN_cs (cut_cs (hw.rowCs (k := 1) rfl) f (q : Int)))) (rowN_one _ _) (by show _ ≤ (rowN .u8 bs ++ i.sp).length; rw [List.length_append, rowN_length, rowN_length]; have := wN_fit bs (cutB bs f (q : Int)) t; omega) rfl (rowN .u8 (moveB bs t f (q : Int)) ++ i.sp) (by rw [hmB]; exact wN_put _ _ _ _) ?_
            refine J.end ?_
            refine X.then ?_
            refine T.seq ?_
            refine T.text [.l] rfl ?_
            refine J.assign rfl rfl ?_
            refine J.end ?_
            refine X.then ?_
            refine T.ret ?_
            exact X.ret1 rfl (RV.tmp rfl) (fun w' hw' => by
                  exact MemPost.mk' (bs' := moveB bs t f (q : Int)) i (hm.move _ _ _) rfl (by rw [hmE] <;> rfl) hw' (by rw [moveB_length] <;> rfl) rfl)

set_option maxHeartbeats 1000000 in
theorem Reach (w : World) (g : Nat) (i : RowIx) (bs : List Nat) (hm : MOk i bs) (hat : MemAt w 99 5 g i bs) (x y : Nat) :
    Calls Try.prog 50 [.pointer (some ⟨g, 0, none⟩), W x, W y].toArray w fun e w' => e = .returned (.tuple #[.int .i64 ((reachN bs.length x y : Nat) : Int), .bool (reachB x y)]) ∧ WS w [] [] w' := by
  have hle := hm.le
  have hmul := hm.mul
  have hs2 := sumN_two x y
  have hl2 : [x, y].length = 2 := rfl
  refine calls_of_T [] 41 [] Try.func50 rfl Try.ntmps50 (by simp) (WS.refl _ _) ?_
  refine T.seq ?_
  refine T.text [.l, .l, .l, .l] rfl ?_
  refine J.box 4 rfl rfl (wc x) rfl rfl (fun g4 hg4 => ?_)
  refine J.box 5 rfl rfl (wc y) rfl rfl (fun g5 hg5 => ?_)
  refine J.assign rfl rfl ?_
  refine J.assign rfl rfl ?_
  refine J.end ?_
  refine X.then ?_
  refine T.seq ?_
  refine T.seq ?_
  refine T.text [.l, .l] rfl ?_
  refine J.loadN (k := .l) trivial 5 rfl rfl agg25 (wc y) rfl rfl rfl ?_
  refine J.call0 (k := .l) trivial fok69 rfl rfl (fun w hw => Wa.IsZero w _) ?_
  refine J.end ?_
  refine X.then ?_
  refine T.cond_dec rfl (fun h1 => ?_) (fun h1 => ?_)
  · skip
    refine T.seq ?_
    refine T.text [.l, .l, .l, .l, .l, .l, .l] rfl ?_
    refine J.move rfl rfl ?_
    refine J.nilCheck rfl rfl ?_
    refine J.fieldAddr fld99_0 rfl rfl ?_
    refine J.loadB1 (k := .l) trivial hat.objCs (off_nil _) rfl one22 rfl rfl ?_
    refine J.lenSl Try.underlying22 rfl rfl ?_
    refine J.assign rfl rfl ?_
    refine J.assign rfl rfl ?_
    refine J.end ?_
    refine X.then ?_
    refine T.ret ?_
    refine X.then_ret ?_
    exact X.ret2 rfl (RV.tmp rfl) (RV.tmp rfl) (fun w' hw' => ⟨by first | (rw [(reach_none (L := bs.length) (x := x) (y := y) (by omega)).1, (reach_none (L := bs.length) (x := x) (y := y) (by omega)).2] <;> rfl) | (rw [(reach_far (L := bs.length) (x := x) (y := y) (by omega) (by omega)).1, (reach_far (L := bs.length) (x := x) (y := y) (by omega) (by omega)).2] <;> rfl) | (rw [(reach_ok (L := bs.length) (x := x) (y := y) (by omega) (by omega)).2] <;> rfl), hw'.sub (Sub.nil _)⟩)
  · skip
    refine T.skip ?_
    refine X.then ?_
    refine T.seq ?_
    refine T.text [.l, .l, .l, .l, .l, .l, .l, .l, .l, .l] rfl ?_
    refine J.loadN (k := .l) trivial 4 rfl rfl agg25 (wc x) rfl rfl rfl ?_
    refine J.loadN (k := .l) trivial 5 rfl rfl agg25 (wc y) rfl rfl rfl ?_
    refine J.litWs 20 rfl [x, y] Try.underlying32 el25 (Nat.zero_lt_succ _) rfl (by decide) rfl rfl (fun g20 hg20 => ?_)
    refine J.call0 (k := .l) trivial fok51 rfl rfl (fun w hw => Wa.Sum w (some ⟨g20, 0, none⟩) 2 [x, y] (hw.blkCs (k := 20) rfl) (by omega)) ?_
    refine J.move rfl rfl ?_
    refine J.extract rfl rfl rfl ?_
    refine J.extract rfl rfl rfl ?_
    refine J.alloc 8 rfl zero25 [.int .u64 0, .int .u64 0, .int .u64 0, .int .u64 0] rfl rfl (fun g8 hg8 => ?_)
    refine J.store 8 rfl rfl rfl rfl (wc (if sumN [x, y] < 2 ^ 256 then sumN [x, y] else 0)) rfl sz25 (by first | decide | exact Nat.le_refl _ | exact Nat.le_of_ble_eq_true rfl | (simp [rowN]; done) | (simp [rowN]; omega)) (by first | exact rowN_one _ _ | (simp; done) | (intro u hu; simp at hu; subst hu; rfl) | (intro u hu; simp at hu; rcases hu with rfl | rfl <;> rfl)) (by first | decide | exact Nat.zero_lt_succ _ | simp) trivial (wc (if sumN [x, y] < 2 ^ 256 then sumN [x, y] else 0)) rfl ?_
    refine J.assign rfl rfl ?_
    refine J.end ?_
    refine X.then ?_
    refine T.seq ?_
    refine T.seq ?_
    refine T.text [.l, .l, .l, .l, .l, .l, .l] rfl ?_
    refine J.move rfl rfl ?_
    refine J.not rfl rfl (by rw [← decide_not]) ?_
    refine J.move rfl rfl ?_
    refine J.split 26 rfl (fun h2 => ?_) (fun h2 => ?_)
    · skip
      refine J.no rfl rfl rfl rfl ?_
      refine J.no rfl rfl rfl rfl ?_
      refine J.no rfl rfl rfl rfl ?_
      refine J.pick_t rfl rfl rfl ?_
      refine J.end ?_
      refine X.then ?_
      refine T.cond_true rfl ?_
      refine T.seq ?_
      refine T.text [.l, .l] rfl ?_
      refine J.assign rfl rfl ?_
      refine J.assign rfl rfl ?_
      refine J.end ?_
      refine X.then ?_
      refine T.ret ?_
      refine X.then_ret ?_
      exact X.ret2 rfl (RV.tmp rfl) (RV.tmp rfl) (fun w' hw' => ⟨by first | (rw [(reach_none (L := bs.length) (x := x) (y := y) (by omega)).1, (reach_none (L := bs.length) (x := x) (y := y) (by omega)).2] <;> rfl) | (rw [(reach_far (L := bs.length) (x := x) (y := y) (by omega) (by omega)).1, (reach_far (L := bs.length) (x := x) (y := y) (by omega) (by omega)).2] <;> rfl) | (rw [(reach_ok (L := bs.length) (x := x) (y := y) (by omega) (by omega)).2] <;> rfl), hw'.sub (Sub.nil _)⟩)
    · have hlt : sumN [x, y] < 2 ^ 256 := by omega
      rw [if_pos hlt]
      refine J.yes rfl rfl ?_
      refine J.loadN (k := .l) trivial 8 rfl rfl agg25 (wc (sumN [x, y])) rfl rfl rfl ?_
      refine J.yes rfl rfl ?_
      refine J.build rfl rfl (W 4194304) (fun w => by kernel_rfl) ?_
      refine J.yes rfl rfl ?_
      refine J.call0 (k := .l) trivial fok70 rfl rfl (fun w hw => Wa.Gt w _ _) ?_
      refine J.pick_f rfl rfl rfl ?_
      refine J.end ?_
      refine X.then ?_
      refine T.cond_dec rfl (fun h3 => ?_) (fun h3 => ?_)
      · skip
        refine T.seq ?_
        refine T.text [.l, .l] rfl ?_
        refine J.assign rfl rfl ?_
        refine J.assign rfl rfl ?_
        refine J.end ?_
        refine X.then ?_
        refine T.ret ?_
        refine X.then_ret ?_
        exact X.ret2 rfl (RV.tmp rfl) (RV.tmp rfl) (fun w' hw' => ⟨by first | (rw [(reach_none (L := bs.length) (x := x) (y := y) (by omega)).1, (reach_none (L := bs.length) (x := x) (y := y) (by omega)).2] <;> rfl) | (rw [(reach_far (L := bs.length) (x := x) (y := y) (by omega) (by omega)).1, (reach_far (L := bs.length) (x := x) (y := y) (by omega) (by omega)).2] <;> rfl) | (rw [(reach_ok (L := bs.length) (x := x) (y := y) (by omega) (by omega)).2] <;> rfl), hw'.sub (Sub.nil _)⟩)
      · skip
        refine T.skip ?_
        refine X.then ?_
        refine T.seq ?_
        refine T.draw [] [(0, .g), (1, .g), (2, .g), (3, .q), (4, .g), (5, .g), (6, .q), (7, .g), (8, .q), (9, .g), (10, .g), (11, .g)] (by kernel_rfl) (by kernel_rfl) ?_ (by repeat (first | exact Sub.nil _ | refine Sub.cons (by first | rfl | (rw [dgs_zero]; rfl) | (rw [List.drop_length]; rfl) | (simp; done) | (congr 2; omega) | (congr 3; omega)) ?_))
        refine J.move rfl rfl ?_
        refine J.nilCheck rfl rfl ?_
        refine J.fieldAddr fld99_0 rfl rfl ?_
        refine J.loadB1 (k := .q) trivial hat.objCs (off_nil _) rfl one22 rfl rfl ?_
        refine J.lenSl Try.underlying22 rfl rfl ?_
        refine J.indexArr arr25 rfl rfl (by omega) (by omega) (by rfl) rfl ?_
        refine J.load1 (k := .q) trivial 8 rfl rfl one23 rfl rfl ?_
        have hl0 : lim (sumN [x, y]) 0 = sumN [x, y] := by rw [lim0]; omega
        refine J.as 37 (.int .u64 ((sumN [x, y] : Nat) : Int)) rfl (by rw [hl0]) ?_
        refine J.conv (by rw [Try.underlying23]; rfl) Try.underlying3 rfl rfl (by first | exact wrap_nat64 _ (by omega) | exact i64_ok _ (by omega) | exact rfl) ?_
        refine J.call0 (k := .q) trivial fok67 rfl rfl (fun w hw => Me.upTo w _ (by omega)) ?_
        refine J.max2 rfl rfl rfl rfl ?_
        refine J.as 40 (.int .i64 ((reachN bs.length x y : Nat) : Int)) rfl (by rw [(reach_ok (by omega) (by omega)).1]; congr 1; split <;> omega) ?_
        refine J.assign rfl rfl ?_
        refine J.assign rfl rfl ?_
        refine J.end ?_
        refine X.then ?_
        refine T.ret ?_
        exact X.ret2 rfl (RV.tmp rfl) (RV.tmp rfl) (fun w' hw' => ⟨by first | (rw [(reach_none (L := bs.length) (x := x) (y := y) (by omega)).1, (reach_none (L := bs.length) (x := x) (y := y) (by omega)).2] <;> rfl) | (rw [(reach_far (L := bs.length) (x := x) (y := y) (by omega) (by omega)).1, (reach_far (L := bs.length) (x := x) (y := y) (by omega) (by omega)).2] <;> rfl) | (rw [(reach_ok (L := bs.length) (x := x) (y := y) (by omega) (by omega)).2] <;> rfl), hw'.sub (Sub.nil _)⟩)
end Go.Proofs.Ytpkjbeebhdgleaa.Me
