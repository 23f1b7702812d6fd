/-
  Walks, printed by gen.py: what each function hands back, said of numbers.
  Conditions: those that each theorem bears.
-/
import Derived.Test.YtpkjbeebhdgleaaChecked
import Derived.Test.YtpkjbeebhdgleaaFn
import Derived.Test.YtpkjbeebhdgleaaRa
import Derived.Test.YtpkjbeebhdgleaaRb
set_option linter.unusedVariables false
set_option maxRecDepth 20000
namespace Go.Proofs.Ytpkjbeebhdgleaa.Mf
open Go Go.Fw

theorem sz67 : SizeT Try.prog 67 32 := (by unfold SizeT; kernel_rfl)
theorem sz22 : SizeT Try.prog 22 1 := (by unfold SizeT; kernel_rfl)
theorem fld101_0 : FldT Try.prog 101 0 22 0 0 := ⟨by kernel_rfl, sz22⟩
theorem one22 : OneT Try.prog 22 := ⟨⟨_, Try.underlying22, rfl⟩, by kernel_rfl⟩
theorem fok81 : FnOk Try.prog 81 := FnOk.mk' Try.func81 (by kernel_rfl) rfl
theorem el5 : ElT Try.prog 5 1 1 (.int .u8 0) := ⟨by kernel_rfl, rfl, by decide, by decide⟩
theorem sz5 : SizeT Try.prog 5 1 := (by unfold SizeT; kernel_rfl)
theorem sl22 : SlT Try.prog 22 5 1 := ⟨Try.underlying22, sz5⟩
theorem zero25 : ZeroT Try.prog 25 (.agg ([.int .u64 0, .int .u64 0, .int .u64 0, .int .u64 0]).toArray) := (by unfold ZeroT; kernel_rfl)
theorem fok82 : FnOk Try.prog 82 := FnOk.mk' Try.func82 (by kernel_rfl) rfl
theorem sz25 : SizeT Try.prog 25 4 := (by unfold SizeT; kernel_rfl)
theorem agg25 : AggT Try.prog 25 4 := ⟨⟨_, Try.underlying25, rfl⟩, by kernel_rfl⟩
theorem fok83 : FnOk Try.prog 83 := FnOk.mk' Try.func83 (by kernel_rfl) rfl
theorem one5 : OneT Try.prog 5 := ⟨⟨_, Try.underlying5, rfl⟩, by kernel_rfl⟩
theorem fok84 : FnOk Try.prog 84 := FnOk.mk' Try.func84 (by kernel_rfl) rfl
theorem zero67 : ZeroT Try.prog 67 (.agg ([.int .u8 0, .int .u8 0, .int .u8 0, .int .u8 0, .int .u8 0, .int .u8 0, .int .u8 0, .int .u8 0, .int .u8 0, .int .u8 0, .int .u8 0, .int .u8 0, .int .u8 0, .int .u8 0, .int .u8 0, .int .u8 0, .int .u8 0, .int .u8 0, .int .u8 0, .int .u8 0, .int .u8 0, .int .u8 0, .int .u8 0, .int .u8 0, .int .u8 0, .int .u8 0, .int .u8 0, .int .u8 0, .int .u8 0, .int .u8 0, .int .u8 0, .int .u8 0]).toArray) := (by unfold ZeroT; kernel_rfl)
theorem arr67 : ArrT Try.prog 67 32 5 1 := ⟨Try.underlying67, sz5⟩
theorem fok65 : FnOk Try.prog 65 := FnOk.mk' Try.func65 (by kernel_rfl) rfl
theorem fok64 : FnOk Try.prog 64 := FnOk.mk' Try.func64 (by kernel_rfl) rfl
theorem fok78 : FnOk Try.prog 78 := FnOk.mk' Try.func78 (by kernel_rfl) rfl
theorem el25 : ElT Try.prog 25 4 32 (.agg ([.int .u64 0, .int .u64 0, .int .u64 0, .int .u64 0]).toArray) := ⟨by kernel_rfl, rfl, by decide, by decide⟩
theorem fok79 : FnOk Try.prog 79 := FnOk.mk' Try.func79 (by kernel_rfl) rfl
theorem fok80 : FnOk Try.prog 80 := FnOk.mk' Try.func80 (by kernel_rfl) rfl
theorem sz23 : SizeT Try.prog 23 1 := (by unfold SizeT; kernel_rfl)
theorem arr25 : ArrT Try.prog 25 4 23 1 := ⟨Try.underlying25, sz23⟩
theorem one23 : OneT Try.prog 23 := ⟨⟨_, Try.underlying23, rfl⟩, by kernel_rfl⟩

theorem NewMemory (w : World) :
    Calls Try.prog 58 [].toArray w fun e w' => NewPost w 101 [.slice none 0 0] e w' := by
  refine calls_of_T [] 3 [] Try.func58 rfl Try.ntmps58 (by simp) (WS.refl _ _) ?_
  refine T.seq ?_
  refine T.text [.l] rfl ?_
  refine J.assign rfl rfl ?_
  refine J.end ?_
  refine X.then ?_
  refine T.seq ?_
  refine T.text [.l, .l, .l] rfl ?_
  refine J.build rfl rfl (.agg [.slice none 0 0].toArray) (fun w => by kernel_rfl) ?_
  refine J.box 2 rfl rfl [.slice none 0 0] rfl rfl (fun g2 hg2 => ?_)
  refine J.assign rfl rfl ?_
  refine J.end ?_
  refine X.then ?_
  refine T.ret ?_
  exact X.ret1 rfl (RV.tmp rfl) (fun w' hw' => ⟨g2, hg2, rfl, hw'.only 2 0 rfl⟩)

theorem Len (w : World) (g : Nat) (i : RowIx) (bs : List Nat) (hm : MOk i bs) (hat : MemAt w 101 5 g i bs) :
    Calls Try.prog 38 [.pointer (some ⟨g, 0, none⟩)].toArray w fun e w' => e = .returned (.int .i64 ((bs.length : Nat) : Int)) ∧ WS w [] [] w' := by
  have hle := hm.le
  have hmul := hm.mul
  refine calls_of_T [] 8 [] Try.func38 rfl Try.ntmps38 (by simp) (WS.refl _ _) ?_
  refine T.seq ?_
  refine T.text [.l] rfl ?_
  refine J.assign rfl rfl ?_
  refine J.end ?_
  refine X.then ?_
  refine T.seq ?_
  refine T.text [.l, .l, .l, .l, .l, .l] rfl ?_
  refine J.move rfl rfl ?_
  refine J.nilCheck rfl rfl ?_
  refine J.fieldAddr fld101_0 rfl rfl ?_
  refine J.loadB1 (k := .l) trivial hat.objCs (off_nil _) rfl one22 rfl rfl ?_
  refine J.lenSl Try.underlying22 rfl rfl ?_
  refine J.assign rfl rfl ?_
  refine J.end ?_
  refine X.then ?_
  refine T.ret ?_
  exact X.ret1 rfl (RV.tmp rfl) (fun w' hw' => ⟨rfl, hw'.sub (Sub.nil _)⟩)

theorem upTo (w : World) (n : Nat) (hn : n ≤ 4611686018427387904) :
    Calls Try.prog 81 [.int .i64 (n : Int)].toArray w fun e w' => e = .returned (.int .i64 (((n + 31) / 32 * 32 : Nat) : Int)) ∧ WS w [] [] w' := by
  refine calls_of_T [] 7 [] Try.func81 rfl Try.ntmps81 (by simp) (WS.refl _ _) ?_
  refine T.seq ?_
  refine T.text [.l] rfl ?_
  refine J.assign rfl rfl ?_
  refine J.end ?_
  refine X.then ?_
  refine T.seq ?_
  refine T.text [.l, .l, .l, .l, .l] rfl ?_
  refine J.move rfl rfl ?_
  refine J.add rfl rfl rfl (by first | exact add_nat _ 31 (by omega) | exact i64_ok _ (by omega) | exact rfl) ?_
  refine J.quo rfl rfl rfl (by omega) (by first | exact quo_nat _ 32 (by omega) | exact i64_quo_ok _ _ (by omega) | exact rfl) ?_
  refine J.mul rfl rfl rfl (by first | exact mul_nat _ 32 (by omega) | exact i64_ok _ (by omega) | exact rfl) ?_
  refine J.assign rfl rfl ?_
  refine J.end ?_
  refine X.then ?_
  refine T.ret ?_
  exact X.ret1 rfl (RV.tmp rfl) (fun w' hw' => ⟨rfl, hw'.sub (Sub.nil _)⟩)

theorem Grow (w : World) (g : Nat) (i : RowIx) (bs : List Nat) (hm : MOk i bs) (hat : MemAt w 101 5 g i bs) (u : Int) (hu : -9223372036854775808 ≤ u ∧ u ≤ 9223372036854775807) :
    Calls Try.prog 60 [.pointer (some ⟨g, 0, none⟩), .int .i64 u].toArray w fun e w' => MemPost w 101 5 g i (.int .i64 (growE u : Int)) (growB bs u) e w' := by
  have hle := hm.le
  have hmul := hm.mul
  refine calls_of_T (memM g i) 32 [(0, ⟨some g, 101, [i.val bs.length]⟩), (1, i.ent 5 (rowN .u8 bs))] Try.func60 rfl Try.ntmps60 (by simp) hat.start ?_
  refine T.seq ?_
  refine T.text [.l] rfl ?_
  refine J.assign rfl rfl ?_
  refine J.end ?_
  refine X.then ?_
  refine T.seq ?_
  refine T.seq ?_
  refine T.text [.l, .l] rfl ?_
  refine J.move rfl rfl ?_
  refine J.lss rfl rfl rfl rfl ?_
  refine J.end ?_
  refine X.then ?_
  refine T.cond_dec rfl (fun h1 => ?_) (fun h1 => ?_)
  · skip
    refine T.seq ?_
    refine T.text [.l] rfl ?_
    refine J.assign rfl rfl ?_
    refine J.end ?_
    refine X.then ?_
    refine T.ret ?_
    refine X.then_ret ?_
    exact X.ret1 rfl (RV.tmp rfl) (fun w' hw' => by
          exact MemPost.mk' (bs' := growB bs u) i (by rw [grow_no (by omega)]; exact hm) rfl (by unfold growE; split <;> (try split) <;> first | rfl | omega) hw' (by rw [grow_no (by omega)] <;> rfl) (by rw [grow_no (by omega)] <;> rfl))
  · skip
    refine T.skip ?_
    refine X.then ?_
    refine T.seq ?_
    refine T.seq ?_
    refine T.text [.l, .l] rfl ?_
    refine J.move rfl rfl ?_
    refine J.gtr rfl rfl rfl rfl ?_
    refine J.end ?_
    refine X.then ?_
    refine T.cond_dec rfl (fun h2 => ?_) (fun h2 => ?_)
    · skip
      refine T.seq ?_
      refine T.text [.l] rfl ?_
      refine J.assign rfl rfl ?_
      refine J.end ?_
      refine X.then ?_
      refine T.ret ?_
      refine X.then_ret ?_
      exact X.ret1 rfl (RV.tmp rfl) (fun w' hw' => by
            exact MemPost.mk' (bs' := growB bs u) i (by rw [grow_no (by omega)]; exact hm) rfl (by unfold growE; split <;> (try split) <;> first | rfl | omega) hw' (by rw [grow_no (by omega)] <;> rfl) (by rw [grow_no (by omega)] <;> rfl))
    · obtain ⟨k, rfl⟩ := Int.eq_ofNat_of_zero_le (show 0 ≤ u by omega)
      refine T.skip ?_
      refine X.then ?_
      refine T.seq ?_
      refine T.text [.l, .l, .l] rfl ?_
      refine J.move rfl rfl ?_
      refine J.call0 (k := .l) trivial fok81 rfl rfl (fun w hw => Mf.upTo w _ (by omega)) ?_
      refine J.assign rfl rfl ?_
      refine J.end ?_
      refine X.then ?_
      refine T.seq ?_
      refine T.seq ?_
      refine T.text [.l, .l, .l, .l, .l, .l, .l] rfl ?_
      refine J.move rfl rfl ?_
      refine J.move rfl rfl ?_
      refine J.nilCheck rfl rfl ?_
      refine J.fieldAddr fld101_0 rfl rfl ?_
      refine J.load1 (k := .l) trivial 0 rfl rfl one22 (by first | rfl | with_reducible exact rowN_get0 _ _ _ (by omega) | with_reducible exact rowN_get1 _ _ _ (by omega) | with_reducible exact rowN_get1s _ _ _ _ (by omega) | exact rowN_get1 _ _ _ (by omega) | exact rowN_get1s _ _ _ _ (by omega) | exact rowN_get0 _ _ _ (by omega)) rfl ?_
      refine J.lenSl Try.underlying22 rfl rfl ?_
      refine J.gtr rfl rfl rfl rfl ?_
      refine J.end ?_
      refine X.then ?_
      refine T.cond_dec rfl (fun h3 => ?_) (fun h3 => ?_)
      · have hgy := grow_yes (bs := bs) (k := k) (q := ((k + 31) / 32 * 32) - bs.length) (by omega) (by omega)
        have hgl : (growB bs (k : Int)).length = ((k + 31) / 32 * 32) := by rw [hgy, List.length_append, List.length_replicate]; omega
        refine T.seq ?_
        refine T.text [.l, .l, .l] rfl ?_
        refine J.move rfl rfl ?_
        refine J.makeSlice 21 rfl (q := ((k + 31) / 32 * 32)) (c0 := ((k + 31) / 32 * 32)) Try.underlying22 el5 rfl rfl (by first | rfl | omega) (by first | rfl | omega) (by omega) (by omega) (by unfold maxLen; omega) rfl (fun g21 hg21 => ?_)
        rw [zeros_nat]
        refine J.assign rfl rfl ?_
        refine J.end ?_
        refine X.then ?_
        refine T.seq ?_
        refine T.text [.l, .l, .l, .l, .l, .l] rfl ?_
        refine J.move rfl rfl ?_
        refine J.move rfl rfl ?_
        refine J.nilCheck rfl rfl ?_
        refine J.fieldAddr fld101_0 rfl rfl ?_
        refine J.load1 (k := .l) trivial 0 rfl rfl one22 (by first | rfl | with_reducible exact rowN_get0 _ _ _ (by omega) | with_reducible exact rowN_get1 _ _ _ (by omega) | with_reducible exact rowN_get1s _ _ _ _ (by omega) | exact rowN_get1 _ _ _ (by omega) | exact rowN_get1s _ _ _ _ (by omega) | exact rowN_get0 _ _ _ (by omega)) rfl ?_
        refine J.copy 21 rfl (o := 0) (q := bs.length) (news := (rowN .u8 bs)) sl22 (by decide) rfl rfl rfl (fun _ => rfl) (by omega) (by rw [rowN_length, Nat.mul_one]) (fun w hw => (hw.rowCs (k := 1) rfl)) (rowN_one _ _) (by rw [rowN_length]; show _ ≤ (rowN .u8 (List.replicate _ 0)).length; rw [rowN_length, List.length_replicate]; omega) rfl (rowN .u8 (growB bs (k : Int))) ((put_zero .u8 _ _ (by omega)).trans (by rw [hgy])) ?_
        refine J.end ?_
        refine X.then ?_
        refine T.text [.l, .l, .l, .l, .l] rfl ?_
        refine J.move rfl rfl ?_
        refine J.move rfl rfl ?_
        refine J.nilCheck rfl rfl ?_
        refine J.fieldAddr fld101_0 rfl rfl ?_
        refine J.store 0 rfl rfl rfl rfl [.slice (hdOf (some g21)) ((k + 31) / 32 * 32) ((k + 31) / 32 * 32)] rfl sz22 (by first | decide | exact Nat.le_refl _ | exact Nat.le_of_ble_eq_true rfl | (simp [rowN]; done) | (simp [rowN]; omega)) (by first | exact rowN_one _ _ | (simp; done) | (intro u hu; simp at hu; subst hu; rfl) | (intro u hu; simp at hu; rcases hu with rfl | rfl <;> rfl)) (by first | decide | exact Nat.zero_lt_succ _ | simp) trivial [.slice (hdOf (some g21)) ((k + 31) / 32 * 32) ((k + 31) / 32 * 32)] rfl ?_
        refine J.end ?_
        refine X.then ?_
        refine T.seq ?_
        refine T.text [.l] rfl ?_
        refine J.assign rfl rfl ?_
        refine J.end ?_
        refine X.then ?_
        refine T.ret ?_
        exact X.ret1 rfl (RV.tmp rfl) (fun w' hw' => ⟨⟨some g21, ((k + 31) / 32 * 32), []⟩, hm.grow (by rw [hgl]; exact RowIx.blk_ok _ _ (by unfold maxLen; omega)), by rw [show growE (k : Int) = 0 by unfold growE; rw [if_neg (by omega), if_neg (by omega)]] <;> rfl, hw'.pairOf 0 21 (by rw [hgl] <;> rfl) (by simp [RowIx.ent] <;> rfl) (by decide) 0 1 (by decide)⟩)
      · skip
        refine T.skip ?_
        refine X.then ?_
        refine T.seq ?_
        refine T.text [.l] rfl ?_
        refine J.assign rfl rfl ?_
        refine J.end ?_
        refine X.then ?_
        refine T.ret ?_
        exact X.ret1 rfl (RV.tmp rfl) (fun w' hw' => by
              exact MemPost.mk' (bs' := growB bs (k : Int)) i (by rw [grow_no (by omega)]; exact hm) rfl (by unfold growE; split <;> (try split) <;> first | rfl | omega) hw' (by rw [grow_no (by omega)] <;> rfl) (by rw [grow_no (by omega)] <;> rfl))

theorem lies (w : World) (g : Nat) (i : RowIx) (bs : List Nat) (hm : MOk i bs) (hat : MemAt w 101 5 g i bs) (a : Int) (ha : -9223372036854775808 ≤ a ∧ a ≤ 9223372036854775807) (n : Int) (hn : -9223372036854775808 ≤ n ∧ n ≤ 9223372036854775807) :
    Calls Try.prog 82 [.pointer (some ⟨g, 0, none⟩), .int .i64 a, .int .i64 n].toArray w fun e w' => e = .returned (.int .i64 (pieceE bs.length a n : Int)) ∧ WS w [] [] w' := by
  have hle := hm.le
  have hmul := hm.mul
  refine calls_of_T [] 35 [] Try.func82 rfl Try.ntmps82 (by simp) (WS.refl _ _) ?_
  refine T.seq ?_
  refine T.text [.l] rfl ?_
  refine J.assign rfl rfl ?_
  refine J.end ?_
  refine X.then ?_
  refine T.seq ?_
  refine T.seq ?_
  refine T.text [.l, .l, .l, .l, .l, .l] rfl ?_
  refine J.move rfl rfl ?_
  refine J.lss rfl rfl rfl rfl ?_
  refine J.move rfl rfl ?_
  refine J.split 9 rfl (fun h1 => ?_) (fun h1 => ?_)
  · skip
    refine J.no rfl rfl rfl rfl ?_
    refine J.no rfl rfl rfl rfl ?_
    refine J.pick_t rfl rfl rfl ?_
    refine J.end ?_
    refine X.then ?_
    refine T.cond_true rfl ?_
    refine T.seq ?_
    refine T.text [.l] rfl ?_
    refine J.assign rfl rfl ?_
    refine J.end ?_
    refine X.then ?_
    refine T.ret ?_
    refine X.then_ret ?_
    exact X.ret1 rfl (RV.tmp rfl) (fun w' hw' => ⟨by first | (rw [pieceE_bad (by omega)] <;> rfl) | (rw [pieceE_far (by omega) (by omega) (by omega)] <;> rfl) | (rw [pieceE_iff.2 (by omega)] <;> rfl), hw'.sub (Sub.nil _)⟩)
  · skip
    refine J.yes rfl rfl ?_
    refine J.move rfl rfl ?_
    refine J.yes rfl rfl ?_
    refine J.lss rfl rfl rfl rfl ?_
    refine J.pick_f rfl rfl rfl ?_
    refine J.end ?_
    refine X.then ?_
    refine T.cond_dec rfl (fun h2 => ?_) (fun h2 => ?_)
    · skip
      refine T.seq ?_
      refine T.text [.l] rfl ?_
      refine J.assign rfl rfl ?_
      refine J.end ?_
      refine X.then ?_
      refine T.ret ?_
      refine X.then_ret ?_
      exact X.ret1 rfl (RV.tmp rfl) (fun w' hw' => ⟨by first | (rw [pieceE_bad (by omega)] <;> rfl) | (rw [pieceE_far (by omega) (by omega) (by omega)] <;> rfl) | (rw [pieceE_iff.2 (by omega)] <;> rfl), hw'.sub (Sub.nil _)⟩)
    · skip
      refine T.skip ?_
      refine X.then ?_
      refine T.seq ?_
      refine T.seq ?_
      refine T.text [.l, .l, .l, .l, .l, .l, .l, .l, .l, .l, .l, .l, .l, .l, .l, .l, .l, .l, .l, .l, .l, .l] rfl ?_
      refine J.move rfl rfl ?_
      refine J.gtr rfl rfl rfl rfl ?_
      refine J.move rfl rfl ?_
      refine J.split 15 rfl (fun h3 => ?_) (fun h3 => ?_)
      · skip
        refine J.yes rfl rfl ?_
        refine J.move rfl rfl ?_
        refine J.yes rfl rfl ?_
        refine J.move rfl rfl ?_
        refine J.yes rfl rfl ?_
        refine J.nilCheck rfl rfl ?_
        refine J.yes rfl rfl ?_
        refine J.fieldAddr fld101_0 rfl rfl ?_
        refine J.yes rfl rfl ?_
        refine J.loadB1 (k := .l) trivial hat.objCs (off_nil _) rfl one22 rfl rfl ?_
        refine J.yes rfl rfl ?_
        refine J.lenSl Try.underlying22 rfl rfl ?_
        refine J.yes rfl rfl ?_
        refine J.gtr rfl rfl rfl rfl ?_
        refine J.yes rfl rfl ?_
        refine J.move rfl rfl ?_
        refine J.split 23 rfl (fun h4 => ?_) (fun h4 => ?_)
        · skip
          refine J.no rfl rfl rfl rfl ?_
          refine J.no rfl rfl rfl rfl ?_
          refine J.no rfl rfl rfl rfl ?_
          refine J.no rfl rfl rfl rfl ?_
          refine J.no rfl rfl rfl rfl ?_
          refine J.no rfl rfl rfl rfl ?_
          refine J.no rfl rfl rfl rfl ?_
          refine J.no rfl rfl rfl rfl ?_
          refine J.no rfl rfl rfl rfl ?_
          refine J.yes rfl rfl ?_
          refine J.pick_t rfl rfl rfl ?_
          refine J.pick_t rfl rfl rfl ?_
          refine J.end ?_
          refine X.then ?_
          refine T.cond_true rfl ?_
          refine T.seq ?_
          refine T.text [.l] rfl ?_
          refine J.assign rfl rfl ?_
          refine J.end ?_
          refine X.then ?_
          refine T.ret ?_
          refine X.then_ret ?_
          exact X.ret1 rfl (RV.tmp rfl) (fun w' hw' => ⟨by first | (rw [pieceE_bad (by omega)] <;> rfl) | (rw [pieceE_far (by omega) (by omega) (by omega)] <;> rfl) | (rw [pieceE_iff.2 (by omega)] <;> rfl), hw'.sub (Sub.nil _)⟩)
        · skip
          refine J.yes rfl rfl ?_
          refine J.move rfl rfl ?_
          refine J.yes rfl rfl ?_
          refine J.move rfl rfl ?_
          refine J.yes rfl rfl ?_
          refine J.nilCheck rfl rfl ?_
          refine J.yes rfl rfl ?_
          refine J.fieldAddr fld101_0 rfl rfl ?_
          refine J.yes rfl rfl ?_
          refine J.loadB1 (k := .l) trivial hat.objCs (off_nil _) rfl one22 rfl rfl ?_
          refine J.yes rfl rfl ?_
          refine J.lenSl Try.underlying22 rfl rfl ?_
          refine J.yes rfl rfl ?_
          refine J.move rfl rfl ?_
          refine J.yes rfl rfl ?_
          refine J.sub' rfl rfl rfl (by exact i64_ok _ (by omega)) ?_
          refine J.yes rfl rfl ?_
          refine J.gtr rfl rfl rfl rfl ?_
          refine J.yes rfl rfl ?_
          refine J.pick_f rfl rfl rfl ?_
          refine J.pick_t rfl rfl rfl ?_
          refine J.end ?_
          refine X.then ?_
          refine T.cond_dec rfl (fun h5 => ?_) (fun h5 => ?_)
          · skip
            refine T.seq ?_
            refine T.text [.l] rfl ?_
            refine J.assign rfl rfl ?_
            refine J.end ?_
            refine X.then ?_
            refine T.ret ?_
            refine X.then_ret ?_
            exact X.ret1 rfl (RV.tmp rfl) (fun w' hw' => ⟨by first | (rw [pieceE_bad (by omega)] <;> rfl) | (rw [pieceE_far (by omega) (by omega) (by omega)] <;> rfl) | (rw [pieceE_iff.2 (by omega)] <;> rfl), hw'.sub (Sub.nil _)⟩)
          · skip
            refine T.skip ?_
            refine X.then ?_
            refine T.seq ?_
            refine T.text [.l] rfl ?_
            refine J.assign rfl rfl ?_
            refine J.end ?_
            refine X.then ?_
            refine T.ret ?_
            exact X.ret1 rfl (RV.tmp rfl) (fun w' hw' => ⟨by first | (rw [pieceE_bad (by omega)] <;> rfl) | (rw [pieceE_far (by omega) (by omega) (by omega)] <;> rfl) | (rw [pieceE_iff.2 (by omega)] <;> rfl), hw'.sub (Sub.nil _)⟩)
      · skip
        refine J.no rfl rfl rfl rfl ?_
        refine J.no rfl rfl rfl rfl ?_
        refine J.no rfl rfl rfl rfl ?_
        refine J.no rfl rfl rfl rfl ?_
        refine J.no rfl rfl rfl rfl ?_
        refine J.no rfl rfl rfl rfl ?_
        refine J.no rfl rfl rfl rfl ?_
        refine J.no rfl rfl rfl rfl ?_
        refine J.noU rfl rfl rfl ?_
        refine J.noU rfl rfl rfl ?_
        refine J.noU rfl rfl rfl ?_
        refine J.noU rfl rfl rfl ?_
        refine J.noU rfl rfl rfl ?_
        refine J.noU rfl rfl rfl ?_
        refine J.noU rfl rfl rfl ?_
        refine J.noU rfl rfl rfl ?_
        refine J.noU rfl rfl rfl ?_
        refine J.no rfl rfl rfl rfl ?_
        refine J.pick_f rfl rfl rfl ?_
        refine J.end ?_
        refine X.then ?_
        refine T.cond_false rfl ?_
        refine T.skip ?_
        refine X.then ?_
        refine T.seq ?_
        refine T.text [.l] rfl ?_
        refine J.assign rfl rfl ?_
        refine J.end ?_
        refine X.then ?_
        refine T.ret ?_
        exact X.ret1 rfl (RV.tmp rfl) (fun w' hw' => ⟨by first | (rw [pieceE_bad (by omega)] <;> rfl) | (rw [pieceE_far (by omega) (by omega) (by omega)] <;> rfl) | (rw [pieceE_iff.2 (by omega)] <;> rfl), hw'.sub (Sub.nil _)⟩)

theorem Load (w : World) (g : Nat) (i : RowIx) (bs : List Nat) (hm : MOk i bs) (hat : MemAt w 101 5 g i bs) (a : Int) (ha : -9223372036854775808 ≤ a ∧ a ≤ 9223372036854775807) :
    Calls Try.prog 61 [.pointer (some ⟨g, 0, none⟩), .int .i64 a].toArray w fun e w' => e = .returned (.tuple #[W (loadX bs a), .int .i64 (pieceE bs.length a 32 : Int)]) ∧ WS w [] [] w' := by
  have hle := hm.le
  have hmul := hm.mul
  have hcl := cutB_le bs a 32
  have hcd := cutB_dg hm.dg a 32
  refine calls_of_T [] 29 [] Try.func61 rfl Try.ntmps61 (by simp) (WS.refl _ _) ?_
  refine T.seq ?_
  refine T.text [.l, .l] rfl ?_
  refine J.alloc 4 rfl zero25 [.int .u64 0, .int .u64 0, .int .u64 0, .int .u64 0] rfl rfl (fun g4 hg4 => ?_)
  refine J.assign rfl rfl ?_
  refine J.end ?_
  refine X.then ?_
  refine T.seq ?_
  refine T.text [.l, .l, .l, .l] rfl ?_
  refine J.move rfl rfl ?_
  refine J.move rfl rfl ?_
  refine J.call0 (k := .l) trivial fok82 rfl rfl (fun w hw => Mf.lies w g i bs hm (hat.ws hw) _ (by omega) _ (by omega)) ?_
  refine J.assign rfl rfl ?_
  refine J.end ?_
  refine X.then ?_
  refine T.seq ?_
  refine T.seq ?_
  refine T.text [.l, .l] rfl ?_
  refine J.move rfl rfl ?_
  refine J.neq rfl rfl rfl rfl ?_
  refine J.end ?_
  refine X.then ?_
  refine T.cond_dec rfl (fun h1 => ?_) (fun h1 => ?_)
  · skip
    refine T.seq ?_
    refine T.text [.l, .l, .l, .l] rfl ?_
    refine J.build rfl rfl (W 0) (fun w => by kernel_rfl) ?_
    refine J.move rfl rfl ?_
    refine J.store 4 rfl rfl rfl rfl (wc 0) rfl sz25 (by first | decide | exact Nat.le_refl _ | exact Nat.le_of_ble_eq_true rfl | (simp [rowN]; done) | (simp [rowN]; omega)) (by first | exact rowN_one _ _ | (simp; done) | (intro u hu; simp at hu; subst hu; rfl) | (intro u hu; simp at hu; rcases hu with rfl | rfl <;> rfl)) (by first | decide | exact Nat.zero_lt_succ _ | simp) trivial (wc 0) rfl ?_
    refine J.assign rfl rfl ?_
    refine J.end ?_
    refine X.then ?_
    refine T.ret ?_
    refine X.then_ret ?_
    exact X.ret2 rfl (RV.agg 4 rfl rfl agg25 (wc 0) (by rfl) (by rfl) rfl) (RV.tmp rfl) (fun w' hw' => ⟨by rw [loadX_no (by omega)] <;> rfl, hw'.sub (Sub.nil _)⟩)
  · have hE : pieceE bs.length a 32 = 0 := by omega
    have hI := pieceE_iff.1 hE
    obtain ⟨p, rfl⟩ := Int.eq_ofNat_of_zero_le (show 0 ≤ a by omega)
    have hsp := (slice_piece (p := p) (q := 32) hm (by omega) (by omega)).1
    rw [show ((32 : Nat) : Int) = 32 from rfl] at hsp
    have hcc := cutB_len hE
    refine T.skip ?_
    refine X.then ?_
    refine T.seq ?_
    refine T.text [.l, .l, .l, .l, .l, .l, .l, .l, .l, .l, .l, .l, .l, .l, .l] rfl ?_
    refine J.move rfl rfl ?_
    refine J.nilCheck rfl rfl ?_
    refine J.fieldAddr fld101_0 rfl rfl ?_
    refine J.loadB1 (k := .l) trivial hat.objCs (off_nil _) rfl one22 rfl rfl ?_
    refine J.move rfl rfl ?_
    refine J.move rfl rfl ?_
    refine J.add rfl rfl rfl (by first | exact add_nat _ 32 (by omega) | exact i64_ok _ (by omega) | exact rfl) ?_
    refine J.sliceSl sl22 rfl (optInt.some rfl (by omega) (by first | exact Int.toNat_natCast _ | rfl)) (optInt.some rfl (by omega) (by first | exact Int.toNat_natCast _ | rfl)) optInt.none (by simp) (by omega) (by have := hm.ok.le; omega) (by have := hm.ok.le; omega) rfl rfl ?_
    refine J.as 24 (.slice (pieceA i bs (p : Int) 32) (cutB bs (p : Int) 32).length (i.cap - p)) rfl (by have h1 := hsp; simp only [pieceV, Value.slice.injEq] at h1; rw [hcc, ← h1.1, if_neg (by have := hm.ok.le; omega), if_neg (by omega)]; congr 1; simp) ?_
    refine J.call0 (k := .l) trivial fok83 rfl rfl (fun w hw => Rb.FromBytes w _ _ _ ((cut_cs hat.rowCs (p : Int) 32).ws hw (off_nil _)) (by first | assumption | omega) (by first | assumption | omega)) ?_
    rw [(loadX_yes (bs := bs) (a := (p : Int)) (by omega)).1]
    refine J.move rfl rfl ?_
    refine J.extract rfl rfl rfl ?_
    refine J.extract rfl rfl rfl ?_
    refine J.alloc 7 rfl zero25 [.int .u64 0, .int .u64 0, .int .u64 0, .int .u64 0] rfl rfl (fun g7 hg7 => ?_)
    refine J.store 7 rfl rfl rfl rfl (wc (loadX bs (p : Int))) rfl sz25 (by first | decide | exact Nat.le_refl _ | exact Nat.le_of_ble_eq_true rfl | (simp [rowN]; done) | (simp [rowN]; omega)) (by first | exact rowN_one _ _ | (simp; done) | (intro u hu; simp at hu; subst hu; rfl) | (intro u hu; simp at hu; rcases hu with rfl | rfl <;> rfl)) (by first | decide | exact Nat.zero_lt_succ _ | simp) trivial (wc (loadX bs (p : Int))) rfl ?_
    refine J.assign rfl rfl ?_
    refine J.end ?_
    refine X.then ?_
    refine T.seq ?_
    refine T.text [.l, .l, .l] rfl ?_
    refine J.loadN (k := .l) trivial 7 rfl rfl agg25 (wc (loadX bs (p : Int))) rfl rfl rfl ?_
    refine J.store 4 rfl rfl rfl rfl (wc (loadX bs (p : Int))) rfl sz25 (by first | decide | exact Nat.le_refl _ | exact Nat.le_of_ble_eq_true rfl | (simp [rowN]; done) | (simp [rowN]; omega)) (by first | exact rowN_one _ _ | (simp; done) | (intro u hu; simp at hu; subst hu; rfl) | (intro u hu; simp at hu; rcases hu with rfl | rfl <;> rfl)) (by first | decide | exact Nat.zero_lt_succ _ | simp) trivial (wc (loadX bs (p : Int))) rfl ?_
    refine J.assign rfl rfl ?_
    refine J.end ?_
    refine X.then ?_
    refine T.ret ?_
    exact X.ret2 rfl (RV.agg 4 rfl rfl agg25 (wc (loadX bs (p : Int))) (by rfl) (by rfl) rfl) (RV.tmp rfl) (fun w' hw' => ⟨by rw [show pieceE bs.length (p : Int) 32 = 0 by omega] <;> rfl, hw'.sub (Sub.nil _)⟩)

theorem Read (w : World) (g : Nat) (i : RowIx) (bs : List Nat) (hm : MOk i bs) (hat : MemAt w 101 5 g i bs) (a : Int) (ha : -9223372036854775808 ≤ a ∧ a ≤ 9223372036854775807) (n : Int) (hn : -9223372036854775808 ≤ n ∧ n ≤ 9223372036854775807) :
    Calls Try.prog 64 [.pointer (some ⟨g, 0, none⟩), .int .i64 a, .int .i64 n].toArray w fun e w' => RowEPost w 5 .u8 (fun zs n' => zs = cutB bs a n ∧ n' = pieceE bs.length a n) e w' := by
  have hle := hm.le
  have hmul := hm.mul
  have hcl := cutB_le bs a n
  refine calls_of_T [] 32 [] Try.func64 rfl Try.ntmps64 (by simp) (WS.refl _ _) ?_
  refine T.seq ?_
  refine T.text [.l, .l] rfl ?_
  refine J.assign rfl rfl ?_
  refine J.assign rfl rfl ?_
  refine J.end ?_
  refine X.then ?_
  refine T.seq ?_
  refine T.text [.l, .l, .l, .l, .l] rfl ?_
  refine J.move rfl rfl ?_
  refine J.move rfl rfl ?_
  refine J.move rfl rfl ?_
  refine J.call0 (k := .l) trivial fok82 rfl rfl (fun w hw => Mf.lies w g i bs hm (hat.ws hw) _ (by omega) _ (by omega)) ?_
  refine J.assign rfl rfl ?_
  refine J.end ?_
  refine X.then ?_
  refine T.seq ?_
  refine T.seq ?_
  refine T.text [.l, .l, .l, .l, .l, .l] rfl ?_
  refine J.move rfl rfl ?_
  refine J.neq rfl rfl rfl rfl ?_
  refine J.move rfl rfl ?_
  refine J.split 16 rfl (fun h1 => ?_) (fun h1 => ?_)
  · skip
    refine J.no rfl rfl rfl rfl ?_
    refine J.no rfl rfl rfl rfl ?_
    refine J.pick_t rfl rfl rfl ?_
    refine J.end ?_
    refine X.then ?_
    refine T.cond_true rfl ?_
    refine T.seq ?_
    refine T.text [.l, .l, .l] rfl ?_
    refine J.move rfl rfl ?_
    refine J.assign rfl rfl ?_
    refine J.assign rfl rfl ?_
    refine J.end ?_
    refine X.then ?_
    refine T.ret ?_
    refine X.then_ret ?_
    exact X.ret2 rfl (RV.tmp rfl) (RV.tmp rfl) (fun w' hw' => RowEPost.nil (pieceE bs.length a n) ⟨by first | (rw [cutB_no (by omega)]; done) | (rw [cutB_zero _ _ _ (by omega)]), rfl⟩ rfl hw')
  · skip
    refine J.yes rfl rfl ?_
    refine J.move rfl rfl ?_
    refine J.yes rfl rfl ?_
    refine J.eql rfl rfl rfl rfl ?_
    refine J.pick_f rfl rfl rfl ?_
    refine J.end ?_
    refine X.then ?_
    refine T.cond_dec rfl (fun h2 => ?_) (fun h2 => ?_)
    · skip
      refine T.seq ?_
      refine T.text [.l, .l, .l] rfl ?_
      refine J.move rfl rfl ?_
      refine J.assign rfl rfl ?_
      refine J.assign rfl rfl ?_
      refine J.end ?_
      refine X.then ?_
      refine T.ret ?_
      refine X.then_ret ?_
      exact X.ret2 rfl (RV.tmp rfl) (RV.tmp rfl) (fun w' hw' => RowEPost.nil (pieceE bs.length a n) ⟨by first | (rw [cutB_no (by omega)]; done) | (rw [cutB_zero _ _ _ (by omega)]), rfl⟩ rfl hw')
    · have hE : pieceE bs.length a n = 0 := by omega
      have hI := pieceE_iff.1 hE
      obtain ⟨p, rfl⟩ := Int.eq_ofNat_of_zero_le (show 0 ≤ a by omega)
      obtain ⟨q, rfl⟩ := Int.eq_ofNat_of_zero_le (show 0 ≤ n by omega)
      have hsp := slice_piece (p := p) (q := q) hm (by omega) (by omega)
      have hcc := cutB_len hE
      refine T.skip ?_
      refine X.then ?_
      refine T.seq ?_
      refine T.text [.l] rfl ?_
      refine J.assign rfl rfl ?_
      refine J.end ?_
      refine X.then ?_
      refine T.seq ?_
      refine T.addNil 9 5 ?_
      refine T.text [.l, .l, .l, .l, .l, .l, .l, .l, .l, .l, .l, .l, .l] rfl ?_
      refine J.move rfl rfl ?_
      refine J.move rfl rfl ?_
      refine J.nilCheck rfl rfl ?_
      refine J.fieldAddr fld101_0 rfl rfl ?_
      refine J.loadB1 (k := .l) trivial hat.objCs (off_nil _) rfl one22 rfl rfl ?_
      refine J.move rfl rfl ?_
      refine J.move rfl rfl ?_
      refine J.move rfl rfl ?_
      refine J.add rfl rfl rfl (by first | exact add_nat _ _ (by omega) | exact i64_ok _ (by omega) | exact rfl) ?_
      refine J.sliceSl sl22 rfl (optInt.some rfl (by omega) (by first | exact Int.toNat_natCast _ | rfl)) (optInt.some rfl (by omega) (by first | exact Int.toNat_natCast _ | rfl)) optInt.none (by simp) (by omega) (by have := hm.ok.le; omega) (by have := hm.ok.le; omega) rfl rfl ?_
      refine J.as 30 (.slice (pieceA i bs (p : Int) (q : Int)) (cutB bs (p : Int) (q : Int)).length (i.cap - p)) rfl (by have h1 := hsp.1; simp only [pieceV, Value.slice.injEq] at h1; rw [hcc, ← h1.1, if_neg (by have := hm.ok.le; omega), if_neg (by omega)]; congr 1; simp) ?_
      refine J.append (i := RowIx.nil) (cs := []) 9 rfl Try.underlying22 el5 rfl (RowIx.nil_ok 1) rfl rfl rfl (by rw [rowN_length, Nat.mul_one]) (fun w hw => ((cut_cs hat.rowCs (p : Int) (q : Int)).ws hw (off_nil _))) (by first | exact rowN_one _ _ | (intro u hu; simp at hu; subst hu; rfl)) (by omega) (by unfold maxLen; omega) rfl (cutB bs (p : Int) (q : Int)).length (by simp) (rowN .u8 (cutB bs (p : Int) (q : Int))) rfl (fun r31 hr31 => ?_)
      refine J.assign rfl rfl ?_
      refine J.assign rfl rfl ?_
      refine J.end ?_
      refine X.then ?_
      refine T.ret ?_
      exact X.ret2 rfl (RV.tmp rfl) (RV.tmp rfl) (fun w' hw' => RowEPost.mk' (cutB bs (p : Int) (q : Int)) 0 ⟨rfl, hE.symm⟩ r31 hr31 rfl hw' 9 rfl)

theorem Write (w : World) (g : Nat) (i : RowIx) (bs : List Nat) (hm : MOk i bs) (hat : MemAt w 101 5 g i bs) (a : Int) (ha : -9223372036854775808 ≤ a ∧ a ≤ 9223372036854775807) (A : Option Addr) (xs : List Nat) (c : Nat) (hc : Cs w A (rowN .u8 xs)) (ho : xs ≠ [] → Off (memM g i) A) (hxd : Dg xs) (hxl : xs.length ≤ 9223372036854775807) :
    Calls Try.prog 65 [.pointer (some ⟨g, 0, none⟩), .int .i64 a, .slice A xs.length c].toArray w fun e w' => MemPost w 101 5 g i (.int .i64 (pieceE bs.length a (xs.length : Nat) : Int)) (writeB bs a xs) e w' := by
  have hle := hm.le
  have hmul := hm.mul
  have hcl := cutB_le bs a (xs.length : Nat)
  refine calls_of_T (memM g i) 35 [(0, ⟨some g, 101, [i.val bs.length]⟩), (1, i.ent 5 (rowN .u8 bs))] Try.func65 rfl Try.ntmps65 (by simp) hat.start ?_
  refine T.seq ?_
  refine T.text [.l] rfl ?_
  refine J.assign rfl rfl ?_
  refine J.end ?_
  refine X.then ?_
  refine T.seq ?_
  refine T.text [.l, .l, .l, .l, .l, .l] rfl ?_
  refine J.move rfl rfl ?_
  refine J.move rfl rfl ?_
  refine J.move rfl rfl ?_
  refine J.lenSl Try.underlying22 rfl rfl ?_
  refine J.call0 (k := .l) trivial fok82 rfl rfl (fun w hw => Mf.lies w g i bs hm (hw.memAt 0 1 rfl rfl (by decide)) _ (by omega) _ (by omega)) ?_
  refine J.assign rfl rfl ?_
  refine J.end ?_
  refine X.then ?_
  refine T.seq ?_
  refine T.seq ?_
  refine T.text [.l, .l] rfl ?_
  refine J.move rfl rfl ?_
  refine J.neq rfl rfl rfl rfl ?_
  refine J.end ?_
  refine X.then ?_
  refine T.cond_dec rfl (fun h1 => ?_) (fun h1 => ?_)
  · skip
    refine T.seq ?_
    refine T.text [.l, .l] rfl ?_
    refine J.move rfl rfl ?_
    refine J.assign rfl rfl ?_
    refine J.end ?_
    refine X.then ?_
    refine T.ret ?_
    refine X.then_ret ?_
    exact X.ret1 rfl (RV.tmp rfl) (fun w' hw' => by
          exact MemPost.mk' (bs' := writeB bs a xs) i (hm.write hxd a) rfl (by rfl) hw' (by rw [writeB_length] <;> rfl) (by rw [writeB_no (by omega)] <;> rfl))
  · have hE : pieceE bs.length a (xs.length : Nat) = 0 := by omega
    have hI := pieceE_iff.1 hE
    obtain ⟨p, rfl⟩ := Int.eq_ofNat_of_zero_le (show 0 ≤ a by omega)
    refine T.skip ?_
    refine X.then ?_
    refine T.seq ?_
    refine T.seq ?_
    refine T.text [.l] rfl ?_
    refine J.assign rfl rfl ?_
    refine J.end ?_
    refine X.then ?_
    refine T.block ?_
    refine T.asE 1 (i.ent 5 (rowN .u8 (putB bs p (xs.take 0)))) rfl (by rw [List.take_zero, putB_nil]) ?_
    refine T.loop (ι := Nat) (fun (k : Nat) => k ≤ xs.length) (fun (k : Nat) => [(0, .pointer (some ⟨g, 0, none⟩)), (1, .int .i64 (p : Int)), (2, .slice A xs.length c), (6, .int .i64 0), (9, .pointer (some ⟨g, 0, none⟩)), (10, .int .i64 (p : Int)), (11, .slice A xs.length c), (12, .int .i64 ((xs.length : Nat) : Int)), (8, .int .i64 (k : Int))]) (fun (k : Nat) => [(0, ⟨some g, 101, [i.val bs.length]⟩), (1, i.ent 5 (rowN .u8 (putB bs p (xs.take k))))]) (fun (k : Nat) => xs.length - k) 0 (Nat.zero_le _) (by repeat (first | exact Sub.nil _ | refine Sub.cons (by first | rfl | (rw [dgs_zero]; rfl) | (rw [List.drop_length]; rfl) | (simp; done) | (congr 2; omega) | (congr 3; omega)) ?_)) (by repeat (first | exact Sub.nil _ | refine Sub.cons (by first | rfl | (rw [dgs_zero]; rfl) | (rw [List.drop_length]; rfl) | (simp; done) | (congr 2; omega) | (congr 3; omega)) ?_)) ?_
    rintro k hk
    refine T.seq ?_
    refine T.seq ?_
    refine T.text [.l, .l, .l, .l] rfl ?_
    refine J.move rfl rfl ?_
    refine J.move rfl rfl ?_
    refine J.lenSl Try.underlying22 rfl rfl ?_
    refine J.lss rfl rfl rfl rfl ?_
    refine J.end ?_
    refine X.then ?_
    refine T.cond_dec rfl (fun h2 => ?_) (fun h2 => ?_)
    · have hkl : (xs.take k).length = k := by rw [List.length_take]; omega
      have hpl := putB_length (bs := bs) (o := p) (xs := xs.take k) (by omega)
      have hps := putB_step (bs := bs) (xs := xs) (p := p) (k := k) (by omega) (by omega)
      refine T.skip ?_
      refine X.then ?_
      refine T.seq ?_
      refine T.block ?_
      refine T.draw [] [(0, .g), (1, .g), (2, .g), (3, .q), (4, .g), (5, .g), (6, .g), (7, .g), (8, .g), (9, .g), (10, .q), (11, .g), (12, .l)] (by kernel_rfl) (by kernel_rfl) ?_ (by repeat (first | exact Sub.nil _ | refine Sub.cons (by first | rfl | (rw [dgs_zero]; rfl) | (rw [List.drop_length]; rfl) | (simp; done) | (congr 2; omega) | (congr 3; omega)) ?_))
      refine J.move rfl rfl ?_
      refine J.nilCheck rfl rfl ?_
      refine J.fieldAddr fld101_0 rfl rfl ?_
      refine J.load1 (k := .q) trivial 0 rfl rfl one22 (by first | rfl | with_reducible exact rowN_get0 _ _ _ (by omega) | with_reducible exact rowN_get1 _ _ _ (by omega) | with_reducible exact rowN_get1s _ _ _ _ (by omega) | exact rowN_get1 _ _ _ (by omega) | exact rowN_get1s _ _ _ _ (by omega) | exact rowN_get0 _ _ _ (by omega)) rfl ?_
      refine J.move rfl rfl ?_
      refine J.move rfl rfl ?_
      refine J.add rfl rfl rfl (by first | exact add_nat _ _ (by omega) | exact i64_ok _ (by omega) | exact rfl) ?_
      refine J.move rfl rfl ?_
      refine J.move rfl rfl ?_
      refine J.indexSlI sl22 rfl (Cs.isSomeN hc (by omega)) rfl (by omega) (by omega) (by first | exact Int.toNat_natCast _ | rfl) rfl ?_
      refine J.loadI1 (k := .q) trivial hc (ho (List.ne_nil_of_length_pos (by omega))) rfl one5 (by first | rfl | with_reducible exact rowN_get1 _ _ _ (by omega) | with_reducible exact rowN_get _ _ _ (by omega) | exact rowN_get1 _ _ _ (by omega)) rfl ?_
      refine J.indexRow sl22 rfl (hm.ok.some (by omega)) rfl (by omega) (by omega) (by first | exact Int.toNat_natCast _ | rfl) rfl ?_
      refine J.store 1 rfl rfl rfl rfl [.int .u8 ((xs.getD k 0 : Nat) : Int)] rfl sz5 (by show _ ≤ (rowN .u8 _ ++ i.sp).length; rw [List.length_append, rowN_length]; show _ + 1 ≤ _; omega) (by first | exact rowN_one _ _ | (simp; done) | (intro u hu; simp at hu; subst hu; rfl) | (intro u hu; simp at hu; rcases hu with rfl | rfl <;> rfl)) (by first | decide | exact Nat.zero_lt_succ _ | simp) trivial (rowN .u8 (putB bs p (xs.take (k + 1))) ++ i.sp) (by rw [Nat.mul_one, ← hps]; exact putN _ _ _ _ _ (by omega)) ?_
      refine J.end ?_
      refine X.inBlock (X.then ?_)
      refine T.text [.l, .l, .l] rfl ?_
      refine J.move rfl rfl ?_
      refine J.add rfl rfl rfl (by first | exact add_nat _ 1 (by omega) | exact i64_ok _ (by omega) | exact rfl) ?_
      refine J.assign rfl rfl ?_
      refine J.end ?_
      exact X.round (k + 1) (by omega) (by first | omega | (dsimp only; omega)) (by repeat (first | exact Sub.nil _ | refine Sub.cons (by first | rfl | (rw [dgs_zero]; rfl) | (rw [List.drop_length]; rfl) | (simp; done) | (congr 2; omega) | (congr 3; omega)) ?_)) (by repeat (first | exact Sub.nil _ | refine Sub.cons (by first | rfl | (rw [dgs_zero]; rfl) | (rw [List.drop_length]; rfl) | (simp; done) | (congr 2; omega) | (congr 3; omega)) ?_))
    · obtain rfl : k = xs.length := by omega
      rw [List.take_length]
      refine T.exit ?_
      refine X.then_exit (X.then_exit (X.inBlock_eq (X.then ?_)))
      refine T.seq ?_
      refine T.text [.l] rfl ?_
      refine J.assign rfl rfl ?_
      refine J.end ?_
      refine X.then ?_
      refine T.ret ?_
      exact X.ret1 rfl (RV.tmp rfl) (fun w' hw' => by
            exact MemPost.mk' (bs' := writeB bs (p : Int) xs) i (hm.write hxd _) rfl (by rw [hE] <;> rfl) hw' (by rw [writeB_length] <;> rfl) (by rw [writeB_yes hE] <;> rfl))

theorem Store (w : World) (g : Nat) (i : RowIx) (bs : List Nat) (hm : MOk i bs) (hat : MemAt w 101 5 g i bs) (a : Int) (ha : -9223372036854775808 ≤ a ∧ a ≤ 9223372036854775807) (x : Nat) :
    Calls Try.prog 62 [.pointer (some ⟨g, 0, none⟩), .int .i64 a, W x].toArray w fun e w' => MemPost w 101 5 g i (.int .i64 (pieceE bs.length a 32 : Int)) (writeB bs a (bytesN x)) e w' := by
  have hle := hm.le
  have hmul := hm.mul
  have hbl := bytesN_length x
  have hbd := bytesN_dg x
  refine calls_of_T (memM g i) 14 [(0, ⟨some g, 101, [i.val bs.length]⟩), (1, i.ent 5 (rowN .u8 bs))] Try.func62 rfl Try.ntmps62 (by simp) hat.start ?_
  refine T.seq ?_
  refine T.text [.l, .l] rfl ?_
  refine J.box 5 rfl rfl (wc x) rfl rfl (fun g5 hg5 => ?_)
  refine J.assign rfl rfl ?_
  refine J.end ?_
  refine X.then ?_
  refine T.seq ?_
  refine T.text [.l, .l, .l, .l] rfl ?_
  refine J.loadN (k := .l) trivial 5 rfl rfl agg25 (wc x) rfl rfl rfl ?_
  refine J.call0 (k := .l) trivial fok84 rfl rfl (fun w hw => Rb.Bytes w _) ?_
  refine J.alloc 7 rfl zero67 [.int .u8 0, .int .u8 0, .int .u8 0, .int .u8 0, .int .u8 0, .int .u8 0, .int .u8 0, .int .u8 0, .int .u8 0, .int .u8 0, .int .u8 0, .int .u8 0, .int .u8 0, .int .u8 0, .int .u8 0, .int .u8 0, .int .u8 0, .int .u8 0, .int .u8 0, .int .u8 0, .int .u8 0, .int .u8 0, .int .u8 0, .int .u8 0, .int .u8 0, .int .u8 0, .int .u8 0, .int .u8 0, .int .u8 0, .int .u8 0, .int .u8 0, .int .u8 0] rfl rfl (fun g7 hg7 => ?_)
  refine J.store 7 rfl rfl rfl rfl (rowN .u8 (bytesN x)) rfl (by rw [rowN_length, bytesN_length]; exact sz67) (by rw [rowN_length, bytesN_length]; exact Nat.le_refl _) (by first | exact rowN_one _ _ | (simp; done) | (intro u hu; simp at hu; subst hu; rfl) | (intro u hu; simp at hu; rcases hu with rfl | rfl <;> rfl)) (by rw [rowN_length, bytesN_length]; decide) trivial (rowN .u8 (bytesN x)) (by unfold put; rw [rowN_length, bytesN_length]; exact List.append_nil _) ?_
  refine J.end ?_
  refine X.then ?_
  refine T.seq ?_
  refine T.text [.l, .l, .l, .l, .l] rfl ?_
  refine J.move rfl rfl ?_
  refine J.move rfl rfl ?_
  refine J.sliceArr arr67 rfl optInt.none optInt.none optInt.none (by simp) (by omega) (by omega) (by omega) rfl rfl ?_
  refine J.as 12 (.slice (some ⟨g7, 0, none⟩) (bytesN x).length 32) rfl (by rw [bytesN_length] <;> rfl) ?_
  refine J.callMem 0 1 (by decide) (g := g) (i := i) (bs := bs) (bs' := writeB bs a (bytesN x)) rfl rfl rfl rfl fok65 rfl rfl (fun w hw => Mf.Write w g i bs hm (hw.memAt 0 1 rfl rfl (by decide)) _ (by omega) _ _ _ (hw.blkCs (k := 7) rfl) (fun _ => hw.offMem 0 1 rfl rfl 7 rfl (by decide) (by decide)) (by first | assumption | omega) (by first | assumption | omega)) (fun i13 hm13 => ?_)
  refine J.assign rfl rfl ?_
  refine J.end ?_
  refine X.then ?_
  refine T.ret ?_
  exact X.ret1 rfl (RV.tmp rfl) (fun w' hw' => by
        exact MemPost.mk' (bs' := writeB bs a (bytesN x)) i13 hm13 rfl (by rw [bytesN_length] <;> rfl) hw' rfl rfl)

theorem Store8 (w : World) (g : Nat) (i : RowIx) (bs : List Nat) (hm : MOk i bs) (hat : MemAt w 101 5 g i bs) (a : Int) (ha : -9223372036854775808 ≤ a ∧ a ≤ 9223372036854775807) (x : Nat) (hx : x < 256) :
    Calls Try.prog 63 [.pointer (some ⟨g, 0, none⟩), .int .i64 a, .int .u8 (x : Int)].toArray w fun e w' => MemPost w 101 5 g i (.int .i64 (pieceE bs.length a 1 : Int)) (writeB bs a [x]) e w' := by
  have hle := hm.le
  have hmul := hm.mul
  have hbd : Dg [x] := Dg.nil.snoc hx
  have hbl : [x].length = 1 := rfl
  refine calls_of_T (memM g i) 12 [(0, ⟨some g, 101, [i.val bs.length]⟩), (1, i.ent 5 (rowN .u8 bs))] Try.func63 rfl Try.ntmps63 (by simp) hat.start ?_
  refine T.seq ?_
  refine T.text [.l] rfl ?_
  refine J.assign rfl rfl ?_
  refine J.end ?_
  refine X.then ?_
  refine T.seq ?_
  refine T.text [.l, .l, .l, .l, .l, .l] rfl ?_
  refine J.move rfl rfl ?_
  refine J.move rfl rfl ?_
  refine J.move rfl rfl ?_
  refine J.lit1 10 rfl Try.underlying22 el5 (by decide) rfl (rowN .u8 [x]) rfl rfl rfl (fun g10 hg10 => ?_)
  refine J.callMem 0 1 (by decide) (g := g) (i := i) (bs := bs) (bs' := writeB bs a [x]) rfl rfl rfl rfl fok65 rfl rfl (fun w hw => Mf.Write w g i bs hm (hw.memAt 0 1 rfl rfl (by decide)) _ (by omega) _ _ _ (hw.blkCs (k := 10) rfl) (fun _ => hw.offMem 0 1 rfl rfl 10 rfl (by decide) (by decide)) (by first | assumption | omega) (by first | assumption | omega)) (fun i11 hm11 => ?_)
  refine J.assign rfl rfl ?_
  refine J.end ?_
  refine X.then ?_
  refine T.ret ?_
  exact X.ret1 rfl (RV.tmp rfl) (fun w' hw' => by
        exact MemPost.mk' (bs' := writeB bs a [x]) i11 hm11 rfl (by rfl) hw' rfl rfl)

theorem Move (w : World) (g : Nat) (i : RowIx) (bs : List Nat) (hm : MOk i bs) (hat : MemAt w 101 5 g i bs) (t : Int) (ht : -9223372036854775808 ≤ t ∧ t ≤ 9223372036854775807) (f : Int) (hf : -9223372036854775808 ≤ f ∧ f ≤ 9223372036854775807) (n : Int) (hn : -9223372036854775808 ≤ n ∧ n ≤ 9223372036854775807) :
    Calls Try.prog 66 [.pointer (some ⟨g, 0, none⟩), .int .i64 t, .int .i64 f, .int .i64 n].toArray w fun e w' => MemPost w 101 5 g i (.int .i64 (moveE bs.length t f n : Int)) (moveB bs t f n) e w' := by
  have hle := hm.le
  have hmul := hm.mul
  refine calls_of_T (memM g i) 43 [(0, ⟨some g, 101, [i.val bs.length]⟩), (1, i.ent 5 (rowN .u8 bs))] Try.func66 rfl Try.ntmps66 (by simp) hat.start ?_
  refine T.seq ?_
  refine T.text [.l] rfl ?_
  refine J.assign rfl rfl ?_
  refine J.end ?_
  refine X.then ?_
  refine T.seq ?_
  refine T.seq ?_
  refine T.text [.l, .l, .l, .l, .l, .l, .l, .l, .l, .l] rfl ?_
  refine J.move rfl rfl ?_
  refine J.lss rfl rfl rfl rfl ?_
  refine J.move rfl rfl ?_
  refine J.split 14 rfl (fun h1 => ?_) (fun h1 => ?_)
  · skip
    refine J.no rfl rfl rfl rfl ?_
    refine J.no rfl rfl rfl rfl ?_
    refine J.pick_t rfl rfl rfl ?_
    refine J.move rfl rfl ?_
    refine J.no rfl rfl rfl rfl ?_
    refine J.no rfl rfl rfl rfl ?_
    refine J.pick_t rfl rfl rfl ?_
    refine J.end ?_
    refine X.then ?_
    refine T.cond_true rfl ?_
    refine T.seq ?_
    refine T.text [.l] rfl ?_
    refine J.assign rfl rfl ?_
    refine J.end ?_
    refine X.then ?_
    refine T.ret ?_
    refine X.then_ret ?_
    exact X.ret1 rfl (RV.tmp rfl) (fun w' hw' => by
          exact MemPost.mk' (bs' := moveB bs t f n) i (hm.move _ _ _) rfl (by rw [moveE_bad (by omega)] <;> rfl) hw' (by rw [moveB_length] <;> rfl) (by rw [moveB_no (by rw [moveE_bad (by omega)]; omega)] <;> rfl))
  · skip
    refine J.yes rfl rfl ?_
    refine J.move rfl rfl ?_
    refine J.yes rfl rfl ?_
    refine J.lss rfl rfl rfl rfl ?_
    refine J.pick_f rfl rfl rfl ?_
    refine J.move rfl rfl ?_
    refine J.split 18 rfl (fun h2 => ?_) (fun h2 => ?_)
    · skip
      refine J.no rfl rfl rfl rfl ?_
      refine J.no rfl rfl rfl rfl ?_
      refine J.pick_t rfl rfl rfl ?_
      refine J.end ?_
      refine X.then ?_
      refine T.cond_true rfl ?_
      refine T.seq ?_
      refine T.text [.l] rfl ?_
      refine J.assign rfl rfl ?_
      refine J.end ?_
      refine X.then ?_
      refine T.ret ?_
      refine X.then_ret ?_
      exact X.ret1 rfl (RV.tmp rfl) (fun w' hw' => by
            exact MemPost.mk' (bs' := moveB bs t f n) i (hm.move _ _ _) rfl (by rw [moveE_bad (by omega)] <;> rfl) hw' (by rw [moveB_length] <;> rfl) (by rw [moveB_no (by rw [moveE_bad (by omega)]; omega)] <;> rfl))
    · skip
      refine J.yes rfl rfl ?_
      refine J.move rfl rfl ?_
      refine J.yes rfl rfl ?_
      refine J.lss rfl rfl rfl rfl ?_
      refine J.pick_f rfl rfl rfl ?_
      refine J.end ?_
      refine X.then ?_
      refine T.cond_dec rfl (fun h3 => ?_) (fun h3 => ?_)
      · skip
        refine T.seq ?_
        refine T.text [.l] rfl ?_
        refine J.assign rfl rfl ?_
        refine J.end ?_
        refine X.then ?_
        refine T.ret ?_
        refine X.then_ret ?_
        exact X.ret1 rfl (RV.tmp rfl) (fun w' hw' => by
              exact MemPost.mk' (bs' := moveB bs t f n) i (hm.move _ _ _) rfl (by rw [moveE_bad (by omega)] <;> rfl) hw' (by rw [moveB_length] <;> rfl) (by rw [moveB_no (by rw [moveE_bad (by omega)]; omega)] <;> rfl))
      · skip
        refine T.skip ?_
        refine X.then ?_
        refine T.seq ?_
        refine T.text [.l, .l, .l, .l, .l, .l, .l, .l, .l] rfl ?_
        refine J.move rfl rfl ?_
        refine J.move rfl rfl ?_
        refine J.move rfl rfl ?_
        refine J.callRowE 26 rfl (t := 5) (kd := .u8) fok64 rfl rfl (fun w hw => Mf.Read w g i bs hm (hw.memAt 0 1 rfl rfl (by decide)) _ (by omega) _ (by omega)) (fun zs26 n26 r26 hz26 hr26 => ?_)
        obtain ⟨hz26, he26⟩ := hz26
        subst hz26
        subst he26
        refine J.move rfl rfl ?_
        refine J.extract rfl rfl rfl ?_
        refine J.extract rfl rfl rfl ?_
        refine J.assign rfl rfl ?_
        refine J.assign rfl rfl ?_
        refine J.end ?_
        refine X.then ?_
        refine T.seq ?_
        refine T.text [.l, .l, .l, .l, .l] rfl ?_
        refine J.move rfl rfl ?_
        refine J.move rfl rfl ?_
        refine J.move rfl rfl ?_
        refine J.call0 (k := .l) trivial fok82 rfl rfl (fun w hw => Mf.lies w g i bs hm (hw.memAt 0 1 rfl rfl (by decide)) _ (by omega) _ (by omega)) ?_
        refine J.assign rfl rfl ?_
        refine J.end ?_
        refine X.then ?_
        refine T.seq ?_
        refine T.seq ?_
        refine T.text [.l, .l] rfl ?_
        refine J.move rfl rfl ?_
        refine J.neq rfl rfl rfl rfl ?_
        refine J.end ?_
        refine X.then ?_
        refine T.cond_dec rfl (fun h4 => ?_) (fun h4 => ?_)
        · skip
          refine T.seq ?_
          refine T.text [.l, .l] rfl ?_
          refine J.move rfl rfl ?_
          refine J.assign rfl rfl ?_
          refine J.end ?_
          refine X.then ?_
          refine T.ret ?_
          refine X.then_ret ?_
          exact X.ret1 rfl (RV.tmp rfl) (fun w' hw' => by
                exact MemPost.mk' (bs' := moveB bs t f n) i (hm.move _ _ _) rfl (by first | (rw [show pieceE bs.length f n = 92 from move_pos (t := t) (f := f) (by omega) (by omega), moveE_far (by omega) (by omega)] <;> rfl) | (rw [show pieceE bs.length t n = 92 from move_pos (t := t) (f := t) (by omega) (by omega), moveE_far (by omega) (by omega)] <;> rfl)) hw' (by rw [moveB_length] <;> rfl) (by rw [moveB_no (by rw [moveE_far (by omega) (by omega)]; omega)] <;> rfl))
        · skip
          refine T.skip ?_
          refine X.then ?_
          refine T.seq ?_
          refine T.seq ?_
          refine T.text [.l, .l] rfl ?_
          refine J.move rfl rfl ?_
          refine J.neq rfl rfl rfl rfl ?_
          refine J.end ?_
          refine X.then ?_
          refine T.cond_dec rfl (fun h5 => ?_) (fun h5 => ?_)
          · skip
            refine T.seq ?_
            refine T.text [.l, .l] rfl ?_
            refine J.move rfl rfl ?_
            refine J.assign rfl rfl ?_
            refine J.end ?_
            refine X.then ?_
            refine T.ret ?_
            refine X.then_ret ?_
            exact X.ret1 rfl (RV.tmp rfl) (fun w' hw' => by
                  exact MemPost.mk' (bs' := moveB bs t f n) i (hm.move _ _ _) rfl (by first | (rw [show pieceE bs.length f n = 92 from move_pos (t := t) (f := f) (by omega) (by omega), moveE_far (by omega) (by omega)] <;> rfl) | (rw [show pieceE bs.length t n = 92 from move_pos (t := t) (f := t) (by omega) (by omega), moveE_far (by omega) (by omega)] <;> rfl)) hw' (by rw [moveB_length] <;> rfl) (by rw [moveB_no (by rw [moveE_far (by omega) (by omega)]; omega)] <;> rfl))
          · have hcl := cutB_len (bs := bs) (a := f) (n := n) (by omega)
            have hmE := moveE_ok (L := bs.length) (t := t) (f := f) (n := n) (by omega) (by omega) (by omega)
            have hmB := moveB_yes hmE
            have hcd := cutB_dg hm.dg f n
            refine T.skip ?_
            refine X.then ?_
            refine T.seq ?_
            refine T.text [.l, .l, .l, .l, .l] rfl ?_
            refine J.move rfl rfl ?_
            refine J.move rfl rfl ?_
            refine J.move rfl rfl ?_
            refine J.callMem 0 1 (by decide) (g := g) (i := i) (bs := bs) (bs' := writeB bs t (cutB bs f n)) rfl rfl rfl rfl fok65 rfl rfl (fun w hw => Mf.Write w g i bs hm (hw.memAt 0 1 rfl rfl (by decide)) _ (by omega) _ _ _ (hw.rowCs (k := 26) rfl) (fun _ => hw.offMem 0 1 rfl rfl 26 rfl (by decide) (by decide)) (by first | assumption | omega) (by first | assumption | omega)) (fun i42 hm42 => ?_)
            rw [← hmB] at hm42 ⊢
            refine J.assign rfl rfl ?_
            refine J.end ?_
            refine X.then ?_
            refine T.ret ?_
            exact X.ret1 rfl (RV.tmp rfl) (fun w' hw' => by
                  exact MemPost.mk' (bs' := moveB bs t f n) i42 hm42 rfl (by rw [hmE, hcl]; rw [show ((n.toNat : Nat) : Int) = n by omega]; congr 1; omega) hw' rfl rfl)

set_option maxHeartbeats 1000000 in
theorem Reach (w : World) (g : Nat) (i : RowIx) (bs : List Nat) (hm : MOk i bs) (hat : MemAt w 101 5 g i bs) (x y : Nat) :
    Calls Try.prog 59 [.pointer (some ⟨g, 0, none⟩), W x, W y].toArray w fun e w' => e = .returned (.tuple #[.int .i64 ((reachN bs.length x y : Nat) : Int), .bool (reachB x y)]) ∧ WS w [] [] w' := by
  have hle := hm.le
  have hmul := hm.mul
  have hs2 := sumN_two x y
  have hl2 : [x, y].length = 2 := rfl
  refine calls_of_T [] 51 [] Try.func59 rfl Try.ntmps59 (by simp) (WS.refl _ _) ?_
  refine T.seq ?_
  refine T.text [.l, .l, .l, .l] rfl ?_
  refine J.box 4 rfl rfl (wc x) rfl rfl (fun g4 hg4 => ?_)
  refine J.box 5 rfl rfl (wc y) rfl rfl (fun g5 hg5 => ?_)
  refine J.assign rfl rfl ?_
  refine J.assign rfl rfl ?_
  refine J.end ?_
  refine X.then ?_
  refine T.seq ?_
  refine T.text [.l, .l, .l] rfl ?_
  refine J.loadN (k := .l) trivial 5 rfl rfl agg25 (wc y) rfl rfl rfl ?_
  refine J.call0 (k := .l) trivial fok78 rfl rfl (fun w hw => Ra.IsZero w _) ?_
  refine J.assign rfl rfl ?_
  refine J.end ?_
  refine X.then ?_
  refine T.seq ?_
  refine T.seq ?_
  refine T.text [.l] rfl ?_
  refine J.move rfl rfl ?_
  refine J.end ?_
  refine X.then ?_
  refine T.cond_dec rfl (fun h1 => ?_) (fun h1 => ?_)
  · skip
    refine T.seq ?_
    refine T.text [.l, .l, .l, .l, .l, .l, .l] rfl ?_
    refine J.move rfl rfl ?_
    refine J.nilCheck rfl rfl ?_
    refine J.fieldAddr fld101_0 rfl rfl ?_
    refine J.loadB1 (k := .l) trivial hat.objCs (off_nil _) rfl one22 rfl rfl ?_
    refine J.lenSl Try.underlying22 rfl rfl ?_
    refine J.assign rfl rfl ?_
    refine J.assign rfl rfl ?_
    refine J.end ?_
    refine X.then ?_
    refine T.ret ?_
    refine X.then_ret ?_
    exact X.ret2 rfl (RV.tmp rfl) (RV.tmp rfl) (fun w' hw' => ⟨by first | (rw [(reach_none (L := bs.length) (x := x) (y := y) (by omega)).1, (reach_none (L := bs.length) (x := x) (y := y) (by omega)).2] <;> rfl) | (rw [(reach_far (L := bs.length) (x := x) (y := y) (by omega) (by omega)).1, (reach_far (L := bs.length) (x := x) (y := y) (by omega) (by omega)).2] <;> rfl) | (rw [(reach_ok (L := bs.length) (x := x) (y := y) (by omega) (by omega)).2] <;> rfl), hw'.sub (Sub.nil _)⟩)
  · skip
    refine T.skip ?_
    refine X.then ?_
    refine T.seq ?_
    refine T.text [.l, .l, .l, .l, .l, .l, .l, .l, .l, .l] rfl ?_
    refine J.loadN (k := .l) trivial 4 rfl rfl agg25 (wc x) rfl rfl rfl ?_
    refine J.loadN (k := .l) trivial 5 rfl rfl agg25 (wc y) rfl rfl rfl ?_
    refine J.litWs 23 rfl [x, y] Try.underlying32 el25 (Nat.zero_lt_succ _) rfl (by decide) rfl rfl (fun g23 hg23 => ?_)
    refine J.call0 (k := .l) trivial fok79 rfl rfl (fun w hw => Rb.Sum w (some ⟨g23, 0, none⟩) 2 [x, y] (hw.blkCs (k := 23) rfl) (by omega)) ?_
    refine J.move rfl rfl ?_
    refine J.extract rfl rfl rfl ?_
    refine J.extract rfl rfl rfl ?_
    refine J.alloc 9 rfl zero25 [.int .u64 0, .int .u64 0, .int .u64 0, .int .u64 0] rfl rfl (fun g9 hg9 => ?_)
    refine J.store 9 rfl rfl rfl rfl (wc (if sumN [x, y] < 2 ^ 256 then sumN [x, y] else 0)) rfl sz25 (by first | decide | exact Nat.le_refl _ | exact Nat.le_of_ble_eq_true rfl | (simp [rowN]; done) | (simp [rowN]; omega)) (by first | exact rowN_one _ _ | (simp; done) | (intro u hu; simp at hu; subst hu; rfl) | (intro u hu; simp at hu; rcases hu with rfl | rfl <;> rfl)) (by first | decide | exact Nat.zero_lt_succ _ | simp) trivial (wc (if sumN [x, y] < 2 ^ 256 then sumN [x, y] else 0)) rfl ?_
    refine J.assign rfl rfl ?_
    refine J.end ?_
    refine X.then ?_
    refine T.seq ?_
    refine T.seq ?_
    refine T.text [.l, .l, .l, .l, .l, .l, .l] rfl ?_
    refine J.move rfl rfl ?_
    refine J.not rfl rfl (by rw [← decide_not]) ?_
    refine J.move rfl rfl ?_
    refine J.split 29 rfl (fun h2 => ?_) (fun h2 => ?_)
    · skip
      refine J.no rfl rfl rfl rfl ?_
      refine J.no rfl rfl rfl rfl ?_
      refine J.no rfl rfl rfl rfl ?_
      refine J.pick_t rfl rfl rfl ?_
      refine J.end ?_
      refine X.then ?_
      refine T.cond_true rfl ?_
      refine T.seq ?_
      refine T.text [.l, .l] rfl ?_
      refine J.assign rfl rfl ?_
      refine J.assign rfl rfl ?_
      refine J.end ?_
      refine X.then ?_
      refine T.ret ?_
      refine X.then_ret ?_
      exact X.ret2 rfl (RV.tmp rfl) (RV.tmp rfl) (fun w' hw' => ⟨by first | (rw [(reach_none (L := bs.length) (x := x) (y := y) (by omega)).1, (reach_none (L := bs.length) (x := x) (y := y) (by omega)).2] <;> rfl) | (rw [(reach_far (L := bs.length) (x := x) (y := y) (by omega) (by omega)).1, (reach_far (L := bs.length) (x := x) (y := y) (by omega) (by omega)).2] <;> rfl) | (rw [(reach_ok (L := bs.length) (x := x) (y := y) (by omega) (by omega)).2] <;> rfl), hw'.sub (Sub.nil _)⟩)
    · have hlt : sumN [x, y] < 2 ^ 256 := by omega
      rw [if_pos hlt]
      refine J.yes rfl rfl ?_
      refine J.loadN (k := .l) trivial 9 rfl rfl agg25 (wc (sumN [x, y])) rfl rfl rfl ?_
      refine J.yes rfl rfl ?_
      refine J.build rfl rfl (W 4194304) (fun w => by kernel_rfl) ?_
      refine J.yes rfl rfl ?_
      refine J.call0 (k := .l) trivial fok80 rfl rfl (fun w hw => Ra.Gt w _ _) ?_
      refine J.pick_f rfl rfl rfl ?_
      refine J.end ?_
      refine X.then ?_
      refine T.cond_dec rfl (fun h3 => ?_) (fun h3 => ?_)
      · skip
        refine T.seq ?_
        refine T.text [.l, .l] rfl ?_
        refine J.assign rfl rfl ?_
        refine J.assign rfl rfl ?_
        refine J.end ?_
        refine X.then ?_
        refine T.ret ?_
        refine X.then_ret ?_
        exact X.ret2 rfl (RV.tmp rfl) (RV.tmp rfl) (fun w' hw' => ⟨by first | (rw [(reach_none (L := bs.length) (x := x) (y := y) (by omega)).1, (reach_none (L := bs.length) (x := x) (y := y) (by omega)).2] <;> rfl) | (rw [(reach_far (L := bs.length) (x := x) (y := y) (by omega) (by omega)).1, (reach_far (L := bs.length) (x := x) (y := y) (by omega) (by omega)).2] <;> rfl) | (rw [(reach_ok (L := bs.length) (x := x) (y := y) (by omega) (by omega)).2] <;> rfl), hw'.sub (Sub.nil _)⟩)
      · skip
        refine T.skip ?_
        refine X.then ?_
        refine T.seq ?_
        refine T.text [.l, .l, .l, .l, .l] rfl ?_
        refine J.indexArr arr25 rfl rfl (by omega) (by omega) (by rfl) rfl ?_
        refine J.load1 (k := .l) trivial 9 rfl rfl one23 rfl rfl ?_
        have hl0 : lim (sumN [x, y]) 0 = sumN [x, y] := by rw [lim0]; omega
        refine J.as 35 (.int .u64 ((sumN [x, y] : Nat) : Int)) rfl (by rw [hl0]) ?_
        refine J.conv (by rw [Try.underlying23]; rfl) Try.underlying3 rfl rfl (by first | exact wrap_nat64 _ (by omega) | exact i64_ok _ (by omega) | exact rfl) ?_
        refine J.call0 (k := .l) trivial fok81 rfl rfl (fun w hw => Mf.upTo w _ (by omega)) ?_
        refine J.assign rfl rfl ?_
        refine J.end ?_
        refine X.then ?_
        refine T.seq ?_
        refine T.seq ?_
        refine T.text [.l, .l, .l, .l, .l, .l, .l] rfl ?_
        refine J.move rfl rfl ?_
        refine J.move rfl rfl ?_
        refine J.nilCheck rfl rfl ?_
        refine J.fieldAddr fld101_0 rfl rfl ?_
        refine J.loadB1 (k := .l) trivial hat.objCs (off_nil _) rfl one22 rfl rfl ?_
        refine J.lenSl Try.underlying22 rfl rfl ?_
        refine J.lss rfl rfl rfl rfl ?_
        refine J.end ?_
        refine X.then ?_
        refine T.cond_dec rfl (fun h4 => ?_) (fun h4 => ?_)
        · skip
          refine T.text [.l, .l, .l, .l, .l, .l] rfl ?_
          refine J.move rfl rfl ?_
          refine J.nilCheck rfl rfl ?_
          refine J.fieldAddr fld101_0 rfl rfl ?_
          refine J.loadB1 (k := .l) trivial hat.objCs (off_nil _) rfl one22 rfl rfl ?_
          refine J.lenSl Try.underlying22 rfl rfl ?_
          refine J.assign rfl rfl ?_
          refine J.end ?_
          refine X.then ?_
          refine T.seq ?_
          refine T.text [.l, .l, .l] rfl ?_
          refine J.move rfl rfl ?_
          refine J.as 50 (.int .i64 ((reachN bs.length x y : Nat) : Int)) rfl (by rw [(reach_ok (by omega) (by omega)).1]; congr 1; omega) ?_
          refine J.assign rfl rfl ?_
          refine J.assign rfl rfl ?_
          refine J.end ?_
          refine X.then ?_
          refine T.ret ?_
          exact X.ret2 rfl (RV.tmp rfl) (RV.tmp rfl) (fun w' hw' => ⟨by first | (rw [(reach_none (L := bs.length) (x := x) (y := y) (by omega)).1, (reach_none (L := bs.length) (x := x) (y := y) (by omega)).2] <;> rfl) | (rw [(reach_far (L := bs.length) (x := x) (y := y) (by omega) (by omega)).1, (reach_far (L := bs.length) (x := x) (y := y) (by omega) (by omega)).2] <;> rfl) | (rw [(reach_ok (L := bs.length) (x := x) (y := y) (by omega) (by omega)).2] <;> rfl), hw'.sub (Sub.nil _)⟩)
        · skip
          refine T.skip ?_
          refine X.then ?_
          refine T.seq ?_
          refine T.text [.l, .l, .l] rfl ?_
          refine J.move rfl rfl ?_
          refine J.as 50 (.int .i64 ((reachN bs.length x y : Nat) : Int)) rfl (by rw [(reach_ok (by omega) (by omega)).1]; congr 1; omega) ?_
          refine J.assign rfl rfl ?_
          refine J.assign rfl rfl ?_
          refine J.end ?_
          refine X.then ?_
          refine T.ret ?_
          exact X.ret2 rfl (RV.tmp rfl) (RV.tmp rfl) (fun w' hw' => ⟨by first | (rw [(reach_none (L := bs.length) (x := x) (y := y) (by omega)).1, (reach_none (L := bs.length) (x := x) (y := y) (by omega)).2] <;> rfl) | (rw [(reach_far (L := bs.length) (x := x) (y := y) (by omega) (by omega)).1, (reach_far (L := bs.length) (x := x) (y := y) (by omega) (by omega)).2] <;> rfl) | (rw [(reach_ok (L := bs.length) (x := x) (y := y) (by omega) (by omega)).2] <;> rfl), hw'.sub (Sub.nil _)⟩)
end Go.Proofs.Ytpkjbeebhdgleaa.Mf
