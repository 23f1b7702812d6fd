/-
  Walks, printed by gen.py: what each function hands back, said of numbers.
  Conditions: those that each theorem bears.
-/
import Derived.Test.YtpkjbeebhdgleaaChecked
import Derived.Test.YtpkjbeebhdgleaaFq
import Derived.Test.YtpkjbeebhdgleaaMe
import Derived.Test.YtpkjbeebhdgleaaMf
import Derived.Test.YtpkjbeebhdgleaaMa
set_option linter.unusedVariables false
set_option maxRecDepth 20000
namespace Go.Proofs.Ytpkjbeebhdgleaa.Pg
open Go Go.Fw

theorem sz67 : SizeT Try.prog 67 32 := (by unfold SizeT; kernel_rfl)
theorem zero63 : ZeroT Try.prog 63 (.agg ([.pointer none, .pointer none]).toArray) := (by unfold ZeroT; kernel_rfl)
theorem fok40 : FnOk Try.prog 40 := FnOk.mk' Try.func40 (by kernel_rfl) rfl
theorem fok58 : FnOk Try.prog 58 := FnOk.mk' Try.func58 (by kernel_rfl) rfl
theorem sz63 : SizeT Try.prog 63 2 := (by unfold SizeT; kernel_rfl)
theorem agg63 : AggT Try.prog 63 2 := ⟨⟨_, Try.underlying63, rfl⟩, by kernel_rfl⟩
theorem sz3 : SizeT Try.prog 3 1 := (by unfold SizeT; kernel_rfl)
theorem fld52_0 : FldT Try.prog 52 0 3 0 0 := ⟨by kernel_rfl, sz3⟩
theorem one3 : OneT Try.prog 3 := ⟨⟨_, Try.underlying3, rfl⟩, by kernel_rfl⟩
theorem sz60 : SizeT Try.prog 60 1 := (by unfold SizeT; kernel_rfl)
theorem fld63_0 : FldT Try.prog 63 0 60 0 0 := ⟨by kernel_rfl, sz60⟩
theorem one60 : OneT Try.prog 60 := ⟨⟨_, Try.underlying60, rfl⟩, by kernel_rfl⟩
theorem fok37 : FnOk Try.prog 37 := FnOk.mk' Try.func37 (by kernel_rfl) rfl
theorem sz61 : SizeT Try.prog 61 1 := (by unfold SizeT; kernel_rfl)
theorem fld63_1 : FldT Try.prog 63 1 61 1 0 := ⟨by kernel_rfl, sz61⟩
theorem one61 : OneT Try.prog 61 := ⟨⟨_, Try.underlying61, rfl⟩, by kernel_rfl⟩
theorem fok38 : FnOk Try.prog 38 := FnOk.mk' Try.func38 (by kernel_rfl) rfl
theorem sz25 : SizeT Try.prog 25 4 := (by unfold SizeT; kernel_rfl)
theorem fld52_5 : FldT Try.prog 52 5 25 5 3 := ⟨by kernel_rfl, sz25⟩
theorem agg25 : AggT Try.prog 25 4 := ⟨⟨_, Try.underlying25, rfl⟩, by kernel_rfl⟩
theorem fld52_6 : FldT Try.prog 52 6 25 9 3 := ⟨by kernel_rfl, sz25⟩
theorem fok50 : FnOk Try.prog 50 := FnOk.mk' Try.func50 (by kernel_rfl) rfl
theorem fok59 : FnOk Try.prog 59 := FnOk.mk' Try.func59 (by kernel_rfl) rfl
theorem fld52_2 : FldT Try.prog 52 2 3 2 0 := ⟨by kernel_rfl, sz3⟩
theorem fok41 : FnOk Try.prog 41 := FnOk.mk' Try.func41 (by kernel_rfl) rfl
theorem fok60 : FnOk Try.prog 60 := FnOk.mk' Try.func60 (by kernel_rfl) rfl
theorem fok48 : FnOk Try.prog 48 := FnOk.mk' Try.func48 (by kernel_rfl) rfl
theorem zero25 : ZeroT Try.prog 25 (.agg ([.int .u64 0, .int .u64 0, .int .u64 0, .int .u64 0]).toArray) := (by unfold ZeroT; kernel_rfl)
theorem fok61 : FnOk Try.prog 61 := FnOk.mk' Try.func61 (by kernel_rfl) rfl
theorem sz23 : SizeT Try.prog 23 1 := (by unfold SizeT; kernel_rfl)
theorem arr25 : ArrT Try.prog 25 4 23 1 := ⟨Try.underlying25, sz23⟩
theorem one23 : OneT Try.prog 23 := ⟨⟨_, Try.underlying23, rfl⟩, by kernel_rfl⟩
theorem eqw25 : EqT Try.prog 25 := ⟨⟨23, arr25, one23, Try.underlying23⟩, by kernel_rfl⟩
theorem fok43 : FnOk Try.prog 43 := FnOk.mk' Try.func43 (by kernel_rfl) rfl
theorem fok62 : FnOk Try.prog 62 := FnOk.mk' Try.func62 (by kernel_rfl) rfl
theorem fld52_3 : FldT Try.prog 52 3 3 3 0 := ⟨by kernel_rfl, sz3⟩
theorem fok44 : FnOk Try.prog 44 := FnOk.mk' Try.func44 (by kernel_rfl) rfl
theorem fok63 : FnOk Try.prog 63 := FnOk.mk' Try.func63 (by kernel_rfl) rfl
theorem fok46 : FnOk Try.prog 46 := FnOk.mk' Try.func46 (by kernel_rfl) rfl
theorem fok64 : FnOk Try.prog 64 := FnOk.mk' Try.func64 (by kernel_rfl) rfl
theorem sz5 : SizeT Try.prog 5 1 := (by unfold SizeT; kernel_rfl)
theorem sl22 : SlT Try.prog 22 5 1 := ⟨Try.underlying22, sz5⟩
theorem one5 : OneT Try.prog 5 := ⟨⟨_, Try.underlying5, rfl⟩, by kernel_rfl⟩
theorem sz22 : SizeT Try.prog 22 1 := (by unfold SizeT; kernel_rfl)
theorem fld52_7 : FldT Try.prog 52 7 22 13 0 := ⟨by kernel_rfl, sz22⟩
theorem one22 : OneT Try.prog 22 := ⟨⟨_, Try.underlying22, rfl⟩, by kernel_rfl⟩
theorem fok14 : FnOk Try.prog 14 := FnOk.mk' Try.func14 (by kernel_rfl) rfl
theorem fok45 : FnOk Try.prog 45 := FnOk.mk' Try.func45 (by kernel_rfl) rfl
theorem fok17 : FnOk Try.prog 17 := FnOk.mk' Try.func17 (by kernel_rfl) rfl
theorem el5 : ElT Try.prog 5 1 1 (.int .u8 0) := ⟨by kernel_rfl, rfl, by decide, by decide⟩
theorem fok65 : FnOk Try.prog 65 := FnOk.mk' Try.func65 (by kernel_rfl) rfl
theorem fld52_4 : FldT Try.prog 52 4 3 4 0 := ⟨by kernel_rfl, sz3⟩
theorem fok47 : FnOk Try.prog 47 := FnOk.mk' Try.func47 (by kernel_rfl) rfl
theorem fok66 : FnOk Try.prog 66 := FnOk.mk' Try.func66 (by kernel_rfl) rfl
theorem fok35 : FnOk Try.prog 35 := FnOk.mk' Try.func35 (by kernel_rfl) rfl
theorem zero102 : ZeroT Try.prog 102 (.agg (([(.int .i64 0 : Value)] ++ [(.bool false : Value)] ++ List.replicate 3 (.int .i64 0 : Value) ++ List.replicate 8 (.int .u64 0 : Value) ++ [(.slice none 0 0 : Value)] ++ [(.int .i64 0 : Value)] ++ [(.bool false : Value)] ++ List.replicate 3 (.int .i64 0 : Value) ++ List.replicate 8 (.int .u64 0 : Value) ++ [(.slice none 0 0 : Value)] ++ [(.int .i64 0 : Value)] ++ [(.bool false : Value)] ++ List.replicate 3 (.int .i64 0 : Value) ++ List.replicate 8 (.int .u64 0 : Value) ++ [(.slice none 0 0 : Value)] ++ [(.int .i64 0 : Value)] ++ [(.bool false : Value)] ++ List.replicate 3 (.int .i64 0 : Value) ++ List.replicate 8 (.int .u64 0 : Value) ++ [(.slice none 0 0 : Value)] ++ [(.int .i64 0 : Value)] ++ [(.bool false : Value)] ++ List.replicate 3 (.int .i64 0 : Value) ++ List.replicate 8 (.int .u64 0 : Value) ++ [(.slice none 0 0 : Value)] ++ [(.int .i64 0 : Value)] ++ [(.bool false : Value)] ++ List.replicate 3 (.int .i64 0 : Value) ++ List.replicate 8 (.int .u64 0 : Value) ++ [(.slice none 0 0 : Value)])).toArray) := (by unfold ZeroT; kernel_rfl)
theorem sz102 : SizeT Try.prog 102 84 := (by unfold SizeT; kernel_rfl)
theorem sz52 : SizeT Try.prog 52 14 := (by unfold SizeT; kernel_rfl)
theorem arr102 : ArrT Try.prog 102 6 52 14 := ⟨Try.underlying102, sz52⟩
theorem agg52 : AggT Try.prog 52 14 := ⟨⟨_, Try.underlying52, rfl⟩, by kernel_rfl⟩
theorem fok36 : FnOk Try.prog 36 := FnOk.mk' Try.func36 (by kernel_rfl) rfl

theorem blank (w : World) :
    Calls Try.prog 35 [].toArray w fun e w' => PairPost w 99 101 [.slice none 0 0] [.slice none 0 0] e w' := by
  refine calls_of_T [] 4 [] Try.func35 rfl Try.ntmps35 (by simp) (WS.refl _ _) ?_
  refine T.seq ?_
  refine T.text [.l] rfl ?_
  refine J.alloc 0 rfl zero63 [.pointer none, .pointer none] rfl rfl (fun g0 hg0 => ?_)
  refine J.end ?_
  refine X.then ?_
  refine T.seq ?_
  refine T.text [.l, .l, .l, .l] rfl ?_
  refine J.callNew 1 rfl (t := 99) (cs := [.slice none 0 0]) fok40 rfl rfl (fun w hw => Me.NewMemory w) (fun g1 hg1 => ?_)
  refine J.callNew 2 rfl (t := 101) (cs := [.slice none 0 0]) fok58 rfl rfl (fun w hw => Mf.NewMemory w) (fun g2 hg2 => ?_)
  refine J.build rfl rfl (.agg [.pointer (some ⟨g1, 0, none⟩), .pointer (some ⟨g2, 0, none⟩)].toArray) (fun w => by kernel_rfl) ?_
  refine J.store 0 rfl rfl rfl rfl [.pointer (some ⟨g1, 0, none⟩), .pointer (some ⟨g2, 0, none⟩)] rfl sz63 (by first | decide | exact Nat.le_refl _ | exact Nat.le_of_ble_eq_true rfl | (simp [rowN]; done) | (simp [rowN]; omega)) (by first | exact rowN_one _ _ | (simp; done) | (intro u hu; simp at hu; subst hu; rfl) | (intro u hu; simp at hu; rcases hu with rfl | rfl <;> rfl)) (by first | decide | exact Nat.zero_lt_succ _ | simp) trivial [.pointer (some ⟨g1, 0, none⟩), .pointer (some ⟨g2, 0, none⟩)] rfl ?_
  refine J.end ?_
  refine X.then ?_
  refine T.ret ?_
  exact X.ret1 rfl (RV.agg 0 rfl rfl agg63 [.pointer (some ⟨g1, 0, none⟩), .pointer (some ⟨g2, 0, none⟩)] (by rfl) (by rfl) rfl) (fun w' hw' => ⟨g1, g2, hg1, hg2, rfl, hw'.pairOf 1 2 rfl rfl (by decide) 0 1 (by decide)⟩)

set_option maxRecDepth 100000 in
set_option maxHeartbeats 2000000 in
theorem paged (w : World) (a b : Nat) (i j : RowIx) (bs : List Nat) (hi0 : MOk i bs) (hm2 : MOk j bs) (hat : PageAt w 99 101 5 a b i j bs) (k : Int) (t : Bool) (n m p : Int) (x y : Nat) (A : Option Addr) (xs : List Nat) (c : Nat) (hn : -9223372036854775808 ≤ n ∧ n ≤ 9223372036854775807) (hm : -9223372036854775808 ≤ m ∧ m ≤ 9223372036854775807) (hp : -9223372036854775808 ≤ p ∧ p ≤ 9223372036854775807) (hc : Cs w A (rowN .u8 xs)) (hx : Dg xs) (hxl : xs.length ≤ c) (hcl : c ≤ maxLen) (ho : xs ≠ [] → Off (pageM a b i j) A) :
    Calls Try.prog 36 [.agg [.pointer (some ⟨a, 0, none⟩), .pointer (some ⟨b, 0, none⟩)].toArray, .agg (opc k t n m p x y (.slice A xs.length c)).toArray].toArray w fun e w' => PagePost w 99 101 5 a b i j (pageL k n bs.length) e w' := by
  have hle := hi0.le
  refine calls_of_T (pageM a b i j) 249 [(900, ⟨some a, 99, [i.val bs.length]⟩), (901, i.ent 5 (rowN .u8 bs)), (902, ⟨some b, 101, [j.val bs.length]⟩), (903, j.ent 5 (rowN .u8 bs))] Try.func36 rfl Try.ntmps36 (by simp) (hat.fourOf 0 900 four_0 four_1 four_2 four_3) ?_
  refine T.seq ?_
  refine T.text [.l, .l, .l] rfl ?_
  refine J.box 2 rfl rfl [.pointer (some ⟨a, 0, none⟩), .pointer (some ⟨b, 0, none⟩)] rfl rfl (fun g2 hg2 => ?_)
  refine J.box 3 rfl rfl (opc k t n m p x y (.slice A xs.length c)) rfl rfl (fun g3 hg3 => ?_)
  refine J.assign rfl rfl ?_
  refine J.end ?_
  refine X.then ?_
  refine T.seq ?_
  refine T.seq ?_
  refine T.text [.l, .l] rfl ?_
  refine J.fieldAddr fld52_0 rfl rfl ?_
  refine J.load1 (k := .l) trivial 3 rfl rfl one3 (by first | rfl | with_reducible exact rowN_get0 _ _ _ (by omega) | with_reducible exact rowN_get1 _ _ _ (by omega) | with_reducible exact rowN_get1s _ _ _ _ (by omega) | exact rowN_get1 _ _ _ (by omega) | exact rowN_get1s _ _ _ _ (by omega) | exact rowN_get0 _ _ _ (by omega)) rfl ?_
  refine J.end ?_
  refine X.then ?_
  refine T.block ?_
  refine T.seq ?_
  refine T.text [.l, .l] rfl ?_
  refine J.eql rfl rfl rfl rfl ?_
  refine J.assign rfl rfl ?_
  refine J.end ?_
  refine X.then ?_
  refine T.cond_dec rfl (fun h1 => ?_) (fun h1 => ?_)
  · skip
    refine T.seq ?_
    refine T.draw [] [(0, .g), (1, .q), (2, .q), (3, .g), (4, .q), (5, .q), (6, .g), (7, .g)] (by kernel_rfl) (by kernel_rfl) ?_ (by repeat (first | exact Sub.nil _ | refine Sub.cons (by first | rfl | (rw [dgs_zero]; rfl) | (rw [List.drop_length]; rfl) | (simp; done) | (congr 2; omega) | (congr 3; omega)) ?_))
    refine J.fieldAddr fld63_0 rfl rfl ?_
    refine J.load1 (k := .q) trivial 2 rfl rfl one60 (by first | rfl | with_reducible exact rowN_get0 _ _ _ (by omega) | with_reducible exact rowN_get1 _ _ _ (by omega) | with_reducible exact rowN_get1s _ _ _ _ (by omega) | exact rowN_get1 _ _ _ (by omega) | exact rowN_get1s _ _ _ _ (by omega) | exact rowN_get0 _ _ _ (by omega)) rfl ?_
    refine J.call0 (k := .q) trivial fok37 rfl rfl (fun w hw => Me.Len w a i bs hi0 (hw.memAt 900 901 rfl rfl (by decide))) ?_
    refine J.fieldAddr fld63_1 rfl rfl ?_
    refine J.load1 (k := .q) trivial 2 rfl rfl one61 (by first | rfl | with_reducible exact rowN_get0 _ _ _ (by omega) | with_reducible exact rowN_get1 _ _ _ (by omega) | with_reducible exact rowN_get1s _ _ _ _ (by omega) | exact rowN_get1 _ _ _ (by omega) | exact rowN_get1s _ _ _ _ (by omega) | exact rowN_get0 _ _ _ (by omega)) rfl ?_
    refine J.call0 (k := .q) trivial fok38 rfl rfl (fun w hw => Mf.Len w b j bs hm2 (hw.memAt 902 903 rfl rfl (by decide))) ?_
    refine J.eql rfl rfl rfl (decide_eq_true rfl) ?_
    refine J.assign rfl rfl ?_
    refine J.end ?_
    refine X.then ?_
    refine T.ret ?_
    refine X.inBlock_ret (X.then_ret ?_)
    exact X.ret1 rfl (RV.tmp rfl) (fun w' hw' => PagePost.mk' 900 i j bs hi0 hm2 (by first | (rw [growB_length]; unfold pageL; rw [if_pos (by omega)]) | (unfold pageL; rw [if_neg (by omega)] <;> first | rfl | exact writeB_length _ _ _ | exact moveB_length _ _ _ _)) rfl hw' rfl rfl rfl rfl)
  · skip
    refine T.seq ?_
    refine T.text [.l, .l] rfl ?_
    refine J.eql rfl rfl rfl rfl ?_
    refine J.assign rfl rfl ?_
    refine J.end ?_
    refine X.then ?_
    refine T.cond_dec rfl (fun h2 => ?_) (fun h2 => ?_)
    · skip
      refine T.seq ?_
      refine T.text [.l, .l, .l, .l, .l, .l, .l, .l, .l, .l, .l, .l] rfl ?_
      refine J.fieldAddr fld63_0 rfl rfl ?_
      refine J.load1 (k := .l) trivial 2 rfl rfl one60 (by first | rfl | with_reducible exact rowN_get0 _ _ _ (by omega) | with_reducible exact rowN_get1 _ _ _ (by omega) | with_reducible exact rowN_get1s _ _ _ _ (by omega) | exact rowN_get1 _ _ _ (by omega) | exact rowN_get1s _ _ _ _ (by omega) | exact rowN_get0 _ _ _ (by omega)) rfl ?_
      refine J.fieldAddr fld52_5 rfl rfl ?_
      refine J.loadN (k := .l) trivial 3 rfl rfl agg25 (wc x) rfl rfl rfl ?_
      refine J.fieldAddr fld52_6 rfl rfl ?_
      refine J.loadN (k := .l) trivial 3 rfl rfl agg25 (wc y) rfl rfl rfl ?_
      refine J.call0 (k := .l) trivial fok50 rfl rfl (fun w hw => Me.Reach w a i bs hi0 (hw.memAt 900 901 rfl rfl (by decide)) _ _) ?_
      refine J.move rfl rfl ?_
      refine J.extract rfl rfl rfl ?_
      refine J.extract rfl rfl rfl ?_
      refine J.assign rfl rfl ?_
      refine J.assign rfl rfl ?_
      refine J.end ?_
      refine X.then ?_
      refine T.seq ?_
      refine T.text [.l, .l, .l, .l, .l, .l, .l, .l, .l, .l, .l, .l] rfl ?_
      refine J.fieldAddr fld63_1 rfl rfl ?_
      refine J.load1 (k := .l) trivial 2 rfl rfl one61 (by first | rfl | with_reducible exact rowN_get0 _ _ _ (by omega) | with_reducible exact rowN_get1 _ _ _ (by omega) | with_reducible exact rowN_get1s _ _ _ _ (by omega) | exact rowN_get1 _ _ _ (by omega) | exact rowN_get1s _ _ _ _ (by omega) | exact rowN_get0 _ _ _ (by omega)) rfl ?_
      refine J.fieldAddr fld52_5 rfl rfl ?_
      refine J.loadN (k := .l) trivial 3 rfl rfl agg25 (wc x) rfl rfl rfl ?_
      refine J.fieldAddr fld52_6 rfl rfl ?_
      refine J.loadN (k := .l) trivial 3 rfl rfl agg25 (wc y) rfl rfl rfl ?_
      refine J.call0 (k := .l) trivial fok59 rfl rfl (fun w hw => Mf.Reach w b j bs hm2 (hw.memAt 902 903 rfl rfl (by decide)) _ _) ?_
      refine J.move rfl rfl ?_
      refine J.extract rfl rfl rfl ?_
      refine J.extract rfl rfl rfl ?_
      refine J.assign rfl rfl ?_
      refine J.assign rfl rfl ?_
      refine J.end ?_
      refine X.then ?_
      refine T.seq ?_
      refine T.text [.l, .l, .l, .l, .l, .l, .l, .l, .l] rfl ?_
      refine J.move rfl rfl ?_
      refine J.move rfl rfl ?_
      refine J.eql rfl rfl rfl (decide_eq_true rfl) ?_
      refine J.move rfl rfl ?_
      refine J.yes rfl rfl ?_
      refine J.move rfl rfl ?_
      refine J.yes rfl rfl ?_
      refine J.move rfl rfl ?_
      refine J.yes rfl rfl ?_
      refine J.eqB Try.underlying4 rfl rfl rfl (show _ = true by exact beq_self_eq_true _) ?_
      refine J.pick_t rfl rfl rfl ?_
      refine J.assign rfl rfl ?_
      refine J.end ?_
      refine X.then ?_
      refine T.ret ?_
      refine X.inBlock_ret (X.then_ret ?_)
      exact X.ret1 rfl (RV.tmp rfl) (fun w' hw' => PagePost.mk' 900 i j bs hi0 hm2 (by first | (rw [growB_length]; unfold pageL; rw [if_pos (by omega)]) | (unfold pageL; rw [if_neg (by omega)] <;> first | rfl | exact writeB_length _ _ _ | exact moveB_length _ _ _ _)) rfl hw' rfl rfl rfl rfl)
    · skip
      refine T.seq ?_
      refine T.text [.l, .l] rfl ?_
      refine J.eql rfl rfl rfl rfl ?_
      refine J.assign rfl rfl ?_
      refine J.end ?_
      refine X.then ?_
      refine T.cond_dec rfl (fun h3 => ?_) (fun h3 => ?_)
      · skip
        refine T.seq ?_
        refine T.draw [(2, ⟨some g2, 63, [.pointer (some ⟨a, 0, none⟩), .pointer (some ⟨b, 0, none⟩)]⟩), (3, ⟨some g3, 52, (opc k t n m p x y (.slice A xs.length c))⟩)] [(0, .g), (1, .q), (2, .g), (3, .q), (5, .g), (6, .s), (7, .g), (8, .s), (4, .l), (9, .l), (10, .g), (11, .g)] (by kernel_rfl) (by kernel_rfl) ?_ (by repeat (first | exact Sub.nil _ | refine Sub.cons (by first | rfl | (rw [dgs_zero]; rfl) | (rw [List.drop_length]; rfl) | (simp; done) | (congr 2; omega) | (congr 3; omega)) ?_))
        refine J.fieldAddr fld63_0 rfl rfl ?_
        refine J.load1 (k := .q) trivial 2 rfl rfl one60 (by first | rfl | with_reducible exact rowN_get0 _ _ _ (by omega) | with_reducible exact rowN_get1 _ _ _ (by omega) | with_reducible exact rowN_get1s _ _ _ _ (by omega) | exact rowN_get1 _ _ _ (by omega) | exact rowN_get1s _ _ _ _ (by omega) | exact rowN_get0 _ _ _ (by omega)) rfl ?_
        refine J.fieldAddr fld52_2 rfl rfl ?_
        refine J.load1 (k := .q) trivial 3 rfl rfl one3 (by first | rfl | with_reducible exact rowN_get0 _ _ _ (by omega) | with_reducible exact rowN_get1 _ _ _ (by omega) | with_reducible exact rowN_get1s _ _ _ _ (by omega) | exact rowN_get1 _ _ _ (by omega) | exact rowN_get1s _ _ _ _ (by omega) | exact rowN_get0 _ _ _ (by omega)) rfl ?_
        refine J.fieldAddr fld63_1 rfl rfl ?_
        refine J.load1s 2 rfl rfl one61 (by first | rfl | with_reducible exact rowN_get0 _ _ _ (by omega) | with_reducible exact rowN_get1 _ _ _ (by omega) | with_reducible exact rowN_get1s _ _ _ _ (by omega) | exact rowN_get1 _ _ _ (by omega) | exact rowN_get1s _ _ _ _ (by omega) | exact rowN_get0 _ _ _ (by omega)) rfl ?_
        refine J.fieldAddr fld52_2 rfl rfl ?_
        refine J.load1s 3 rfl rfl one3 (by first | rfl | with_reducible exact rowN_get0 _ _ _ (by omega) | with_reducible exact rowN_get1 _ _ _ (by omega) | with_reducible exact rowN_get1s _ _ _ _ (by omega) | exact rowN_get1 _ _ _ (by omega) | exact rowN_get1s _ _ _ _ (by omega) | exact rowN_get0 _ _ _ (by omega)) rfl ?_
        refine J.callMem 900 901 (by decide) (g := a) (i := i) (bs := bs) (bs' := growB bs n) rfl rfl rfl rfl fok41 rfl rfl (fun w hw => Me.Grow w a i bs hi0 (hw.memAt 900 901 rfl rfl (by decide)) _ (by omega)) (fun i70 hm70 => ?_)
        refine J.callMem 902 903 (by decide) (g := b) (i := j) (bs := bs) (bs' := growB bs n) rfl rfl rfl rfl fok60 rfl rfl (fun w hw => Mf.Grow w b j bs hm2 (hw.memAt 902 903 rfl rfl (by decide)) _ (by omega)) (fun i75 hm75 => ?_)
        refine J.eql rfl rfl rfl (decide_eq_true rfl) ?_
        refine J.assign rfl rfl ?_
        refine J.end ?_
        refine X.then ?_
        refine T.ret ?_
        refine X.inBlock_ret (X.then_ret ?_)
        exact X.ret1 rfl (RV.tmp rfl) (fun w' hw' => PagePost.mk' 900 i70 i75 (growB bs n) hm70 hm75 (by first | (rw [growB_length]; unfold pageL; rw [if_pos (by omega)]) | (unfold pageL; rw [if_neg (by omega)] <;> first | rfl | exact writeB_length _ _ _ | exact moveB_length _ _ _ _)) rfl hw' rfl rfl rfl rfl)
      · skip
        refine T.seq ?_
        refine T.text [.l, .l] rfl ?_
        refine J.eql rfl rfl rfl rfl ?_
        refine J.assign rfl rfl ?_
        refine J.end ?_
        refine X.then ?_
        refine T.cond_dec rfl (fun h4 => ?_) (fun h4 => ?_)
        · skip
          refine T.seq ?_
          refine T.text [.l, .l, .l, .l, .l, .l, .l, .l, .l, .l, .l] rfl ?_
          refine J.fieldAddr fld63_0 rfl rfl ?_
          refine J.load1 (k := .l) trivial 2 rfl rfl one60 (by first | rfl | with_reducible exact rowN_get0 _ _ _ (by omega) | with_reducible exact rowN_get1 _ _ _ (by omega) | with_reducible exact rowN_get1s _ _ _ _ (by omega) | exact rowN_get1 _ _ _ (by omega) | exact rowN_get1s _ _ _ _ (by omega) | exact rowN_get0 _ _ _ (by omega)) rfl ?_
          refine J.fieldAddr fld52_2 rfl rfl ?_
          refine J.load1 (k := .l) trivial 3 rfl rfl one3 (by first | rfl | with_reducible exact rowN_get0 _ _ _ (by omega) | with_reducible exact rowN_get1 _ _ _ (by omega) | with_reducible exact rowN_get1s _ _ _ _ (by omega) | exact rowN_get1 _ _ _ (by omega) | exact rowN_get1s _ _ _ _ (by omega) | exact rowN_get0 _ _ _ (by omega)) rfl ?_
          refine J.call0 (k := .l) trivial fok48 rfl rfl (fun w hw => Me.Load w a i bs hi0 (hw.memAt 900 901 rfl rfl (by decide)) _ (by omega)) ?_
          refine J.move rfl rfl ?_
          refine J.extract rfl rfl rfl ?_
          refine J.extract rfl rfl rfl ?_
          refine J.alloc 9 rfl zero25 [.int .u64 0, .int .u64 0, .int .u64 0, .int .u64 0] rfl rfl (fun g9 hg9 => ?_)
          refine J.store 9 rfl rfl rfl rfl (wc (loadX bs n)) rfl sz25 (by first | decide | exact Nat.le_refl _ | exact Nat.le_of_ble_eq_true rfl | (simp [rowN]; done) | (simp [rowN]; omega)) (by first | exact rowN_one _ _ | (simp; done) | (intro u hu; simp at hu; subst hu; rfl) | (intro u hu; simp at hu; rcases hu with rfl | rfl <;> rfl)) (by first | decide | exact Nat.zero_lt_succ _ | simp) trivial (wc (loadX bs n)) rfl ?_
          refine J.assign rfl rfl ?_
          refine J.end ?_
          refine X.then ?_
          refine T.seq ?_
          refine T.text [.l, .l, .l, .l, .l, .l, .l, .l, .l, .l, .l] rfl ?_
          refine J.fieldAddr fld63_1 rfl rfl ?_
          refine J.load1 (k := .l) trivial 2 rfl rfl one61 (by first | rfl | with_reducible exact rowN_get0 _ _ _ (by omega) | with_reducible exact rowN_get1 _ _ _ (by omega) | with_reducible exact rowN_get1s _ _ _ _ (by omega) | exact rowN_get1 _ _ _ (by omega) | exact rowN_get1s _ _ _ _ (by omega) | exact rowN_get0 _ _ _ (by omega)) rfl ?_
          refine J.fieldAddr fld52_2 rfl rfl ?_
          refine J.load1 (k := .l) trivial 3 rfl rfl one3 (by first | rfl | with_reducible exact rowN_get0 _ _ _ (by omega) | with_reducible exact rowN_get1 _ _ _ (by omega) | with_reducible exact rowN_get1s _ _ _ _ (by omega) | exact rowN_get1 _ _ _ (by omega) | exact rowN_get1s _ _ _ _ (by omega) | exact rowN_get0 _ _ _ (by omega)) rfl ?_
          refine J.call0 (k := .l) trivial fok61 rfl rfl (fun w hw => Mf.Load w b j bs hm2 (hw.memAt 902 903 rfl rfl (by decide)) _ (by omega)) ?_
          refine J.move rfl rfl ?_
          refine J.extract rfl rfl rfl ?_
          refine J.extract rfl rfl rfl ?_
          refine J.alloc 11 rfl zero25 [.int .u64 0, .int .u64 0, .int .u64 0, .int .u64 0] rfl rfl (fun g11 hg11 => ?_)
          refine J.store 11 rfl rfl rfl rfl (wc (loadX bs n)) rfl sz25 (by first | decide | exact Nat.le_refl _ | exact Nat.le_of_ble_eq_true rfl | (simp [rowN]; done) | (simp [rowN]; omega)) (by first | exact rowN_one _ _ | (simp; done) | (intro u hu; simp at hu; subst hu; rfl) | (intro u hu; simp at hu; rcases hu with rfl | rfl <;> rfl)) (by first | decide | exact Nat.zero_lt_succ _ | simp) trivial (wc (loadX bs n)) rfl ?_
          refine J.assign rfl rfl ?_
          refine J.end ?_
          refine X.then ?_
          refine T.seq ?_
          refine T.text [.l, .l, .l, .l, .l, .l, .l, .l, .l] rfl ?_
          refine J.loadN (k := .l) trivial 9 rfl rfl agg25 (wc (loadX bs n)) rfl rfl rfl ?_
          refine J.loadN (k := .l) trivial 11 rfl rfl agg25 (wc (loadX bs n)) rfl rfl rfl ?_
          refine J.eqW eqw25 rfl rfl rfl ?_
          refine J.as 97 (.bool true) rfl (by rw [decide_eq_true rfl]) ?_
          refine J.move rfl rfl ?_
          refine J.yes rfl rfl ?_
          refine J.move rfl rfl ?_
          refine J.yes rfl rfl ?_
          refine J.move rfl rfl ?_
          refine J.yes rfl rfl ?_
          refine J.eql rfl rfl rfl (decide_eq_true rfl) ?_
          refine J.pick_t rfl rfl rfl ?_
          refine J.assign rfl rfl ?_
          refine J.end ?_
          refine X.then ?_
          refine T.ret ?_
          refine X.inBlock_ret (X.then_ret ?_)
          exact X.ret1 rfl (RV.tmp rfl) (fun w' hw' => PagePost.mk' 900 i j bs hi0 hm2 (by first | (rw [growB_length]; unfold pageL; rw [if_pos (by omega)]) | (unfold pageL; rw [if_neg (by omega)] <;> first | rfl | exact writeB_length _ _ _ | exact moveB_length _ _ _ _)) rfl hw' rfl rfl rfl rfl)
        · skip
          refine T.seq ?_
          refine T.text [.l, .l] rfl ?_
          refine J.eql rfl rfl rfl rfl ?_
          refine J.assign rfl rfl ?_
          refine J.end ?_
          refine X.then ?_
          refine T.cond_dec rfl (fun h5 => ?_) (fun h5 => ?_)
          · skip
            refine T.seq ?_
            refine T.draw [(2, ⟨some g2, 63, [.pointer (some ⟨a, 0, none⟩), .pointer (some ⟨b, 0, none⟩)]⟩), (3, ⟨some g3, 52, (opc k t n m p x y (.slice A xs.length c))⟩)] [(0, .g), (1, .q), (2, .g), (3, .q), (4, .g), (5, .q), (7, .g), (8, .s), (9, .g), (10, .s), (11, .g), (12, .s), (6, .l), (13, .l), (14, .g), (15, .g)] (by kernel_rfl) (by kernel_rfl) ?_ (by repeat (first | exact Sub.nil _ | refine Sub.cons (by first | rfl | (rw [dgs_zero]; rfl) | (rw [List.drop_length]; rfl) | (simp; done) | (congr 2; omega) | (congr 3; omega)) ?_))
            refine J.fieldAddr fld63_0 rfl rfl ?_
            refine J.load1 (k := .q) trivial 2 rfl rfl one60 (by first | rfl | with_reducible exact rowN_get0 _ _ _ (by omega) | with_reducible exact rowN_get1 _ _ _ (by omega) | with_reducible exact rowN_get1s _ _ _ _ (by omega) | exact rowN_get1 _ _ _ (by omega) | exact rowN_get1s _ _ _ _ (by omega) | exact rowN_get0 _ _ _ (by omega)) rfl ?_
            refine J.fieldAddr fld52_2 rfl rfl ?_
            refine J.load1 (k := .q) trivial 3 rfl rfl one3 (by first | rfl | with_reducible exact rowN_get0 _ _ _ (by omega) | with_reducible exact rowN_get1 _ _ _ (by omega) | with_reducible exact rowN_get1s _ _ _ _ (by omega) | exact rowN_get1 _ _ _ (by omega) | exact rowN_get1s _ _ _ _ (by omega) | exact rowN_get0 _ _ _ (by omega)) rfl ?_
            refine J.fieldAddr fld52_5 rfl rfl ?_
            refine J.loadN (k := .q) trivial 3 rfl rfl agg25 (wc x) rfl rfl rfl ?_
            refine J.fieldAddr fld63_1 rfl rfl ?_
            refine J.load1s 2 rfl rfl one61 (by first | rfl | with_reducible exact rowN_get0 _ _ _ (by omega) | with_reducible exact rowN_get1 _ _ _ (by omega) | with_reducible exact rowN_get1s _ _ _ _ (by omega) | exact rowN_get1 _ _ _ (by omega) | exact rowN_get1s _ _ _ _ (by omega) | exact rowN_get0 _ _ _ (by omega)) rfl ?_
            refine J.fieldAddr fld52_2 rfl rfl ?_
            refine J.load1s 3 rfl rfl one3 (by first | rfl | with_reducible exact rowN_get0 _ _ _ (by omega) | with_reducible exact rowN_get1 _ _ _ (by omega) | with_reducible exact rowN_get1s _ _ _ _ (by omega) | exact rowN_get1 _ _ _ (by omega) | exact rowN_get1s _ _ _ _ (by omega) | exact rowN_get0 _ _ _ (by omega)) rfl ?_
            refine J.fieldAddr fld52_5 rfl rfl ?_
            refine J.loadNs 3 rfl rfl agg25 (wc x) rfl rfl rfl ?_
            refine J.callMem 900 901 (by decide) (g := a) (i := i) (bs := bs) (bs' := writeB bs n (bytesN x)) rfl rfl rfl rfl fok43 rfl rfl (fun w hw => Me.Store w a i bs hi0 (hw.memAt 900 901 rfl rfl (by decide)) _ (by omega) _) (fun i111 hm111 => ?_)
            refine J.callMem 902 903 (by decide) (g := b) (i := j) (bs := bs) (bs' := writeB bs n (bytesN x)) rfl rfl rfl rfl fok62 rfl rfl (fun w hw => Mf.Store w b j bs hm2 (hw.memAt 902 903 rfl rfl (by decide)) _ (by omega) _) (fun i118 hm118 => ?_)
            refine J.eql rfl rfl rfl (decide_eq_true rfl) ?_
            refine J.assign rfl rfl ?_
            refine J.end ?_
            refine X.then ?_
            refine T.ret ?_
            refine X.inBlock_ret (X.then_ret ?_)
            exact X.ret1 rfl (RV.tmp rfl) (fun w' hw' => PagePost.mk' 900 i111 i118 (writeB bs n (bytesN x)) hm111 hm118 (by first | (rw [growB_length]; unfold pageL; rw [if_pos (by omega)]) | (unfold pageL; rw [if_neg (by omega)] <;> first | rfl | exact writeB_length _ _ _ | exact moveB_length _ _ _ _)) rfl hw' rfl rfl rfl rfl)
          · skip
            refine T.seq ?_
            refine T.text [.l, .l] rfl ?_
            refine J.eql rfl rfl rfl rfl ?_
            refine J.assign rfl rfl ?_
            refine J.end ?_
            refine X.then ?_
            refine T.cond_dec rfl (fun h6 => ?_) (fun h6 => ?_)
            · skip
              refine T.seq ?_
              refine T.draw [(2, ⟨some g2, 63, [.pointer (some ⟨a, 0, none⟩), .pointer (some ⟨b, 0, none⟩)]⟩), (3, ⟨some g3, 52, (opc k t n m p x y (.slice A xs.length c))⟩)] [(0, .g), (1, .q), (2, .g), (3, .q), (4, .g), (5, .q), (6, .g), (8, .g), (9, .s), (10, .g), (11, .s), (12, .g), (13, .s), (14, .g), (7, .l), (15, .l), (16, .g), (17, .g)] (by kernel_rfl) (by kernel_rfl) ?_ (by repeat (first | exact Sub.nil _ | refine Sub.cons (by first | rfl | (rw [dgs_zero]; rfl) | (rw [List.drop_length]; rfl) | (simp; done) | (congr 2; omega) | (congr 3; omega)) ?_))
              refine J.fieldAddr fld63_0 rfl rfl ?_
              refine J.load1 (k := .q) trivial 2 rfl rfl one60 (by first | rfl | with_reducible exact rowN_get0 _ _ _ (by omega) | with_reducible exact rowN_get1 _ _ _ (by omega) | with_reducible exact rowN_get1s _ _ _ _ (by omega) | exact rowN_get1 _ _ _ (by omega) | exact rowN_get1s _ _ _ _ (by omega) | exact rowN_get0 _ _ _ (by omega)) rfl ?_
              refine J.fieldAddr fld52_2 rfl rfl ?_
              refine J.load1 (k := .q) trivial 3 rfl rfl one3 (by first | rfl | with_reducible exact rowN_get0 _ _ _ (by omega) | with_reducible exact rowN_get1 _ _ _ (by omega) | with_reducible exact rowN_get1s _ _ _ _ (by omega) | exact rowN_get1 _ _ _ (by omega) | exact rowN_get1s _ _ _ _ (by omega) | exact rowN_get0 _ _ _ (by omega)) rfl ?_
              refine J.fieldAddr fld52_3 rfl rfl ?_
              refine J.load1 (k := .q) trivial 3 rfl rfl one3 (by first | rfl | with_reducible exact rowN_get0 _ _ _ (by omega) | with_reducible exact rowN_get1 _ _ _ (by omega) | with_reducible exact rowN_get1s _ _ _ _ (by omega) | exact rowN_get1 _ _ _ (by omega) | exact rowN_get1s _ _ _ _ (by omega) | exact rowN_get0 _ _ _ (by omega)) rfl ?_
              refine J.conv (by rw [Try.underlying3]; rfl) Try.underlying5 rfl rfl (by first | exact wrap8_nat' _ (by omega) | exact wrap8_nat _ | exact u8_ok _ (by omega) | exact u8_wrap _) ?_
              obtain ⟨u, hu⟩ : ∃ u : Nat, m % 256 = (u : Int) := ⟨(m % 256).toNat, by omega⟩
              refine J.as 128 (.int .u8 (u : Int)) rfl (by rw [hu]) ?_
              refine J.fieldAddr fld63_1 rfl rfl ?_
              refine J.load1s 2 rfl rfl one61 (by first | rfl | with_reducible exact rowN_get0 _ _ _ (by omega) | with_reducible exact rowN_get1 _ _ _ (by omega) | with_reducible exact rowN_get1s _ _ _ _ (by omega) | exact rowN_get1 _ _ _ (by omega) | exact rowN_get1s _ _ _ _ (by omega) | exact rowN_get0 _ _ _ (by omega)) rfl ?_
              refine J.fieldAddr fld52_2 rfl rfl ?_
              refine J.load1s 3 rfl rfl one3 (by first | rfl | with_reducible exact rowN_get0 _ _ _ (by omega) | with_reducible exact rowN_get1 _ _ _ (by omega) | with_reducible exact rowN_get1s _ _ _ _ (by omega) | exact rowN_get1 _ _ _ (by omega) | exact rowN_get1s _ _ _ _ (by omega) | exact rowN_get0 _ _ _ (by omega)) rfl ?_
              refine J.fieldAddr fld52_3 rfl rfl ?_
              refine J.load1s 3 rfl rfl one3 (by first | rfl | with_reducible exact rowN_get0 _ _ _ (by omega) | with_reducible exact rowN_get1 _ _ _ (by omega) | with_reducible exact rowN_get1s _ _ _ _ (by omega) | exact rowN_get1 _ _ _ (by omega) | exact rowN_get1s _ _ _ _ (by omega) | exact rowN_get0 _ _ _ (by omega)) rfl ?_
              refine J.conv (by rw [Try.underlying3]; rfl) Try.underlying5 rfl rfl (by first | exact wrap8_nat' _ (by omega) | exact wrap8_nat _ | exact u8_ok _ (by omega) | exact u8_wrap _) ?_
              refine J.as 136 (.int .u8 (u : Int)) rfl (by rw [hu]) ?_
              refine J.callMem 900 901 (by decide) (g := a) (i := i) (bs := bs) (bs' := writeB bs n [u]) rfl rfl rfl rfl fok44 rfl rfl (fun w hw => Me.Store8 w a i bs hi0 (hw.memAt 900 901 rfl rfl (by decide)) _ (by omega) _ (by omega)) (fun i129 hm129 => ?_)
              refine J.callMem 902 903 (by decide) (g := b) (i := j) (bs := bs) (bs' := writeB bs n [u]) rfl rfl rfl rfl fok63 rfl rfl (fun w hw => Mf.Store8 w b j bs hm2 (hw.memAt 902 903 rfl rfl (by decide)) _ (by omega) _ (by omega)) (fun i137 hm137 => ?_)
              refine J.eql rfl rfl rfl (decide_eq_true rfl) ?_
              refine J.assign rfl rfl ?_
              refine J.end ?_
              refine X.then ?_
              refine T.ret ?_
              refine X.inBlock_ret (X.then_ret ?_)
              exact X.ret1 rfl (RV.tmp rfl) (fun w' hw' => PagePost.mk' 900 i129 i137 (writeB bs n [u]) hm129 hm137 (by first | (rw [growB_length]; unfold pageL; rw [if_pos (by omega)]) | (unfold pageL; rw [if_neg (by omega)] <;> first | rfl | exact writeB_length _ _ _ | exact moveB_length _ _ _ _)) rfl hw' rfl rfl rfl rfl)
            · skip
              refine T.seq ?_
              refine T.text [.l, .l] rfl ?_
              refine J.eql rfl rfl rfl rfl ?_
              refine J.assign rfl rfl ?_
              refine J.end ?_
              refine X.then ?_
              refine T.cond_dec rfl (fun h7 => ?_) (fun h7 => ?_)
              · skip
                refine T.seq ?_
                refine T.text [.l, .l, .l, .l, .l, .l, .l, .l, .l, .l, .l, .l] rfl ?_
                refine J.fieldAddr fld63_0 rfl rfl ?_
                refine J.load1 (k := .l) trivial 2 rfl rfl one60 (by first | rfl | with_reducible exact rowN_get0 _ _ _ (by omega) | with_reducible exact rowN_get1 _ _ _ (by omega) | with_reducible exact rowN_get1s _ _ _ _ (by omega) | exact rowN_get1 _ _ _ (by omega) | exact rowN_get1s _ _ _ _ (by omega) | exact rowN_get0 _ _ _ (by omega)) rfl ?_
                refine J.fieldAddr fld52_2 rfl rfl ?_
                refine J.load1 (k := .l) trivial 3 rfl rfl one3 (by first | rfl | with_reducible exact rowN_get0 _ _ _ (by omega) | with_reducible exact rowN_get1 _ _ _ (by omega) | with_reducible exact rowN_get1s _ _ _ _ (by omega) | exact rowN_get1 _ _ _ (by omega) | exact rowN_get1s _ _ _ _ (by omega) | exact rowN_get0 _ _ _ (by omega)) rfl ?_
                refine J.fieldAddr fld52_3 rfl rfl ?_
                refine J.load1 (k := .l) trivial 3 rfl rfl one3 (by first | rfl | with_reducible exact rowN_get0 _ _ _ (by omega) | with_reducible exact rowN_get1 _ _ _ (by omega) | with_reducible exact rowN_get1s _ _ _ _ (by omega) | exact rowN_get1 _ _ _ (by omega) | exact rowN_get1s _ _ _ _ (by omega) | exact rowN_get0 _ _ _ (by omega)) rfl ?_
                refine J.callRowE 148 rfl (t := 5) (kd := .u8) fok46 rfl rfl (fun w hw => Me.Read w a i bs hi0 (hw.memAt 900 901 rfl rfl (by decide)) _ (by omega) _ (by omega)) (fun zs148 n148 r148 hz148 hr148 => ?_)
                obtain ⟨hz148, he148⟩ := hz148
                refine J.move rfl rfl ?_
                refine J.extract rfl rfl rfl ?_
                refine J.extract rfl rfl rfl ?_
                refine J.assign rfl rfl ?_
                refine J.assign rfl rfl ?_
                refine J.end ?_
                refine X.then ?_
                refine T.seq ?_
                refine T.text [.l, .l, .l, .l, .l, .l, .l, .l, .l, .l, .l, .l] rfl ?_
                refine J.fieldAddr fld63_1 rfl rfl ?_
                refine J.load1 (k := .l) trivial 2 rfl rfl one61 (by first | rfl | with_reducible exact rowN_get0 _ _ _ (by omega) | with_reducible exact rowN_get1 _ _ _ (by omega) | with_reducible exact rowN_get1s _ _ _ _ (by omega) | exact rowN_get1 _ _ _ (by omega) | exact rowN_get1s _ _ _ _ (by omega) | exact rowN_get0 _ _ _ (by omega)) rfl ?_
                refine J.fieldAddr fld52_2 rfl rfl ?_
                refine J.load1 (k := .l) trivial 3 rfl rfl one3 (by first | rfl | with_reducible exact rowN_get0 _ _ _ (by omega) | with_reducible exact rowN_get1 _ _ _ (by omega) | with_reducible exact rowN_get1s _ _ _ _ (by omega) | exact rowN_get1 _ _ _ (by omega) | exact rowN_get1s _ _ _ _ (by omega) | exact rowN_get0 _ _ _ (by omega)) rfl ?_
                refine J.fieldAddr fld52_3 rfl rfl ?_
                refine J.load1 (k := .l) trivial 3 rfl rfl one3 (by first | rfl | with_reducible exact rowN_get0 _ _ _ (by omega) | with_reducible exact rowN_get1 _ _ _ (by omega) | with_reducible exact rowN_get1s _ _ _ _ (by omega) | exact rowN_get1 _ _ _ (by omega) | exact rowN_get1s _ _ _ _ (by omega) | exact rowN_get0 _ _ _ (by omega)) rfl ?_
                refine J.callRowE 158 rfl (t := 5) (kd := .u8) fok64 rfl rfl (fun w hw => Mf.Read w b j bs hm2 (hw.memAt 902 903 rfl rfl (by decide)) _ (by omega) _ (by omega)) (fun zs158 n158 r158 hz158 hr158 => ?_)
                obtain ⟨hz158, he158⟩ := hz158
                subst hz148
                subst hz158
                subst he148
                subst he158
                have hcd := cutB_dg hi0.dg n m
                have hcl2 := cutB_le bs n m
                refine J.move rfl rfl ?_
                refine J.extract rfl rfl rfl ?_
                refine J.extract rfl rfl rfl ?_
                refine J.assign rfl rfl ?_
                refine J.assign rfl rfl ?_
                refine J.end ?_
                refine X.then ?_
                refine T.seq ?_
                refine T.text [.l, .l, .l, .l, .l, .l, .l, .l, .l, .l, .l] rfl ?_
                refine J.move rfl rfl ?_
                refine J.convBS (k := .l) trivial Try.underlying22 Try.underlying5 Try.underlying9 rfl (_) (by first | rfl | omega) (fun w hw => (hw.rowCs (k := 148) rfl)) rfl ?_
                refine J.move rfl rfl ?_
                refine J.convBS (k := .l) trivial Try.underlying22 Try.underlying5 Try.underlying9 rfl (_) (by first | rfl | omega) (fun w hw => (hw.rowCs (k := 158) rfl)) rfl ?_
                refine J.eqStr rfl rfl rfl (by assumption) (by assumption) ?_
                refine J.as 165 (.bool true) rfl (by rw [decide_eq_true rfl]) ?_
                refine J.move rfl rfl ?_
                refine J.yes rfl rfl ?_
                refine J.move rfl rfl ?_
                refine J.yes rfl rfl ?_
                refine J.move rfl rfl ?_
                refine J.yes rfl rfl ?_
                refine J.eql rfl rfl rfl (decide_eq_true rfl) ?_
                refine J.pick_t rfl rfl rfl ?_
                refine J.assign rfl rfl ?_
                refine J.end ?_
                refine X.then ?_
                refine T.seq ?_
                refine T.seq ?_
                refine T.text [.l] rfl ?_
                refine J.assign rfl rfl ?_
                refine J.end ?_
                refine X.then ?_
                refine T.block ?_
                refine T.loop (ι := Nat × List Nat) (fun ((q, ys) : Nat × List Nat) => q ≤ (cutB bs n m).length ∧ ys.length = (cutB bs n m).length ∧ Dg ys) (fun ((q, ys) : Nat × List Nat) => [(0, .agg [.pointer (some ⟨a, 0, none⟩), .pointer (some ⟨b, 0, none⟩)].toArray), (1, .agg (opc k t n m p x y (.slice A xs.length c)).toArray), (2, .pointer (some ⟨g2, 0, none⟩)), (3, .pointer (some ⟨g3, 0, none⟩)), (4, .bool false), (149, r148.val (cutB bs n m).length), (150, .int .i64 (pieceE bs.length n m : Int)), (13, r148.val (cutB bs n m).length), (14, .int .i64 (pieceE bs.length n m : Int)), (159, r158.val (cutB bs n m).length), (160, .int .i64 (pieceE bs.length n m : Int)), (15, r158.val (cutB bs n m).length), (16, .int .i64 (pieceE bs.length n m : Int)), (161, r148.val (cutB bs n m).length), (163, r158.val (cutB bs n m).length), (165, .bool true), (166, .bool true), (167, .int .i64 (pieceE bs.length n m : Int)), (168, .int .i64 (pieceE bs.length n m : Int)), (169, .bool true), (170, .bool true), (17, .bool true), (18, .int .i64 (q : Int))]) (fun ((q, ys) : Nat × List Nat) => [(900, ⟨some a, 99, [i.val bs.length]⟩), (901, i.ent 5 (rowN .u8 bs)), (902, ⟨some b, 101, [j.val bs.length]⟩), (903, j.ent 5 (rowN .u8 bs)), (2, ⟨some g2, 63, [.pointer (some ⟨a, 0, none⟩), .pointer (some ⟨b, 0, none⟩)]⟩), (3, ⟨some g3, 52, (opc k t n m p x y (.slice A xs.length c))⟩), (158, r158.ent 5 (rowN .u8 (cutB bs n m))), (148, r148.ent 5 (rowN .u8 ys))]) (fun ((q, ys) : Nat × List Nat) => (cutB bs n m).length - q) ⟨0, (cutB bs n m)⟩ ⟨Nat.zero_le _, rfl, hcd⟩ (by repeat (first | exact Sub.nil _ | refine Sub.cons (by first | rfl | (rw [dgs_zero]; rfl) | (rw [List.drop_length]; rfl) | (simp; done) | (congr 2; omega) | (congr 3; omega)) ?_)) (by repeat (first | exact Sub.nil _ | refine Sub.cons (by first | rfl | (rw [dgs_zero]; rfl) | (rw [List.drop_length]; rfl) | (simp; done) | (congr 2; omega) | (congr 3; omega)) ?_)) ?_
                rintro ⟨q, ys⟩ ⟨hq, hyl, hy⟩
                try dsimp only at *
                refine T.seq ?_
                refine T.seq ?_
                refine T.text [.l, .l, .l, .l] rfl ?_
                refine J.move rfl rfl ?_
                refine J.move rfl rfl ?_
                refine J.lenSl Try.underlying22 rfl rfl ?_
                refine J.lss rfl rfl rfl rfl ?_
                refine J.end ?_
                refine X.then ?_
                refine T.cond_dec rfl (fun h8 => ?_) (fun h8 => ?_)
                · skip
                  refine T.skip ?_
                  refine X.then ?_
                  refine T.seq ?_
                  refine T.block ?_
                  refine T.text [.l, .l, .l, .l, .l, .l, .l, .l, .l] rfl ?_
                  refine J.move rfl rfl ?_
                  refine J.move rfl rfl ?_
                  refine J.move rfl rfl ?_
                  refine J.move rfl rfl ?_
                  refine J.indexRow sl22 rfl (hr148.some (by omega)) rfl (by omega) (by omega) (by first | exact Int.toNat_natCast _ | rfl) rfl ?_
                  refine J.load1 (k := .l) trivial 148 rfl rfl one5 (rowN_get1s _ _ _ _ (by omega)) rfl ?_
                  refine J.sub' rfl rfl rfl (show _ = ((255 - ys.getD q 0 : Nat) : Int) by have := hy.getD q; rw [u8_ok _ (by omega)]; omega) ?_
                  refine J.indexRow sl22 rfl (hr148.some (by omega)) rfl (by omega) (by omega) (by first | exact Int.toNat_natCast _ | rfl) rfl ?_
                  refine J.store 148 rfl rfl rfl rfl [.int .u8 ((255 - ys.getD q 0 : Nat) : Int)] rfl sz5 (by show _ ≤ (rowN .u8 _ ++ r148.sp).length; rw [List.length_append, rowN_length]; show _ + 1 ≤ _; omega) (by first | exact rowN_one _ _ | (simp; done) | (intro u hu; simp at hu; subst hu; rfl) | (intro u hu; simp at hu; rcases hu with rfl | rfl <;> rfl)) (by first | decide | exact Nat.zero_lt_succ _ | simp) trivial (rowN .u8 (ys.set q (255 - ys.getD q 0)) ++ r148.sp) (by rw [Nat.mul_one]; exact putN _ _ _ _ _ (by omega)) ?_
                  refine J.end ?_
                  refine X.inBlock (X.then ?_)
                  refine T.text [.l, .l, .l] rfl ?_
                  refine J.move rfl rfl ?_
                  refine J.add rfl rfl rfl (by first | exact add_nat _ 1 (by omega) | exact i64_ok _ (by omega) | exact rfl) ?_
                  refine J.assign rfl rfl ?_
                  refine J.end ?_
                  exact X.round ⟨(q + 1), (ys.set q (255 - ys.getD q 0))⟩ ⟨by omega, by rw [List.length_set]; exact hyl, hy.set q (by omega)⟩ (by first | omega | (dsimp only; omega)) (by repeat (first | exact Sub.nil _ | refine Sub.cons (by first | rfl | (rw [dgs_zero]; rfl) | (rw [List.drop_length]; rfl) | (simp; done) | (congr 2; omega) | (congr 3; omega)) ?_)) (by repeat (first | exact Sub.nil _ | refine Sub.cons (by first | rfl | (rw [dgs_zero]; rfl) | (rw [List.drop_length]; rfl) | (simp; done) | (congr 2; omega) | (congr 3; omega)) ?_))
                · skip
                  refine T.exit ?_
                  refine X.then_exit (X.then_exit (X.inBlock_eq (X.then ?_)))
                  refine T.seq ?_
                  refine T.text [.l, .l] rfl ?_
                  refine J.move rfl rfl ?_
                  refine J.assign rfl rfl ?_
                  refine J.end ?_
                  refine X.then ?_
                  refine T.ret ?_
                  refine X.inBlock_ret (X.then_ret ?_)
                  exact X.ret1 rfl (RV.tmp rfl) (fun w' hw' => PagePost.mk' 900 i j bs hi0 hm2 (by first | (rw [growB_length]; unfold pageL; rw [if_pos (by omega)]) | (unfold pageL; rw [if_neg (by omega)] <;> first | rfl | exact writeB_length _ _ _ | exact moveB_length _ _ _ _)) rfl hw' rfl rfl rfl rfl)
              · skip
                refine T.seq ?_
                refine T.text [.l, .l] rfl ?_
                refine J.eql rfl rfl rfl rfl ?_
                refine J.assign rfl rfl ?_
                refine J.end ?_
                refine X.then ?_
                refine T.cond_dec rfl (fun h9 => ?_) (fun h9 => ?_)
                · skip
                  refine T.seq ?_
                  refine T.text [.l, .l, .l, .l] rfl ?_
                  refine J.fieldAddr fld52_7 rfl rfl ?_
                  refine J.load1 (k := .l) trivial 3 rfl rfl one22 (by first | rfl | with_reducible exact rowN_get0 _ _ _ (by omega) | with_reducible exact rowN_get1 _ _ _ (by omega) | with_reducible exact rowN_get1s _ _ _ _ (by omega) | exact rowN_get1 _ _ _ (by omega) | exact rowN_get1s _ _ _ _ (by omega) | exact rowN_get0 _ _ _ (by omega)) rfl ?_
                  refine J.callLaid 190 rfl (t := 5) fok14 rfl rfl (fun w hw => Ma.laid w _ _ _ (hc.wsN hw ho) (by unfold maxLen at hcl; omega)) (fun r190 hr190 => ?_)
                  have hkd : Dg (xs.take 70000) := hx.take _
                  have hkl : (xs.take 70000).length ≤ 70000 := by rw [List.length_take]; omega
                  refine J.assign rfl rfl ?_
                  refine J.end ?_
                  refine X.then ?_
                  refine T.seq ?_
                  refine T.text [.l, .l, .l, .l, .l, .l, .l] rfl ?_
                  refine J.fieldAddr fld63_0 rfl rfl ?_
                  refine J.load1 (k := .l) trivial 2 rfl rfl one60 (by first | rfl | with_reducible exact rowN_get0 _ _ _ (by omega) | with_reducible exact rowN_get1 _ _ _ (by omega) | with_reducible exact rowN_get1s _ _ _ _ (by omega) | exact rowN_get1 _ _ _ (by omega) | exact rowN_get1s _ _ _ _ (by omega) | exact rowN_get0 _ _ _ (by omega)) rfl ?_
                  refine J.fieldAddr fld52_2 rfl rfl ?_
                  refine J.load1 (k := .l) trivial 3 rfl rfl one3 (by first | rfl | with_reducible exact rowN_get0 _ _ _ (by omega) | with_reducible exact rowN_get1 _ _ _ (by omega) | with_reducible exact rowN_get1s _ _ _ _ (by omega) | exact rowN_get1 _ _ _ (by omega) | exact rowN_get1s _ _ _ _ (by omega) | exact rowN_get0 _ _ _ (by omega)) rfl ?_
                  refine J.move rfl rfl ?_
                  refine J.callMem 900 901 (by decide) (g := a) (i := i) (bs := bs) (bs' := writeB bs n (xs.take 70000)) rfl rfl rfl rfl fok45 rfl rfl (fun w hw => Me.Write w a i bs hi0 (hw.memAt 900 901 rfl rfl (by decide)) _ (by omega) _ (xs.take 70000) _ (hw.laidCs (k := 190) rfl) (fun _ => hw.offMem 900 901 rfl rfl 190 rfl (by decide) (by decide)) hkd (by omega)) (fun i196 hm196 => ?_)
                  refine J.assign rfl rfl ?_
                  refine J.end ?_
                  refine X.then ?_
                  refine T.seq ?_
                  refine T.draw [(2, ⟨some g2, 63, [.pointer (some ⟨a, 0, none⟩), .pointer (some ⟨b, 0, none⟩)]⟩), (3, ⟨some g3, 52, (opc k t n m p x y (.slice A xs.length c))⟩)] [(0, .g), (1, .g), (2, .q), (3, .q), (4, .g), (5, .g), (6, .g), (7, .s), (8, .g), (9, .s), (11, .g), (10, .l), (12, .l), (13, .l), (14, .g), (15, .g), (16, .g)] (by kernel_rfl) (by kernel_rfl) ?_ (by repeat (first | exact Sub.nil _ | refine Sub.cons (by first | rfl | (rw [dgs_zero]; rfl) | (rw [List.drop_length]; rfl) | (simp; done) | (congr 2; omega) | (congr 3; omega)) ?_))
                  refine J.move rfl rfl ?_
                  refine J.fieldAddr fld52_7 rfl rfl ?_
                  refine J.load1 (k := .q) trivial 3 rfl rfl one22 (by first | rfl | with_reducible exact rowN_get0 _ _ _ (by omega) | with_reducible exact rowN_get1 _ _ _ (by omega) | with_reducible exact rowN_get1s _ _ _ _ (by omega) | exact rowN_get1 _ _ _ (by omega) | exact rowN_get1s _ _ _ _ (by omega) | exact rowN_get0 _ _ _ (by omega)) rfl ?_
                  refine J.call0 (k := .q) trivial fok17 rfl rfl (fun w hw => Ma.stands w _ _ _ (hw.rowCs (k := 190) rfl) _ _ _ (hc.wsN hw ho) rfl (by have := hr190.le; omega)) ?_
                  refine J.move rfl rfl ?_
                  refine J.yes rfl rfl ?_
                  refine J.move rfl rfl ?_
                  refine J.yes rfl rfl ?_
                  refine J.fieldAddr fld63_1 rfl rfl ?_
                  refine J.yes rfl rfl ?_
                  refine J.load1s 2 rfl rfl one61 (by first | rfl | with_reducible exact rowN_get0 _ _ _ (by omega) | with_reducible exact rowN_get1 _ _ _ (by omega) | with_reducible exact rowN_get1s _ _ _ _ (by omega) | exact rowN_get1 _ _ _ (by omega) | exact rowN_get1s _ _ _ _ (by omega) | exact rowN_get0 _ _ _ (by omega)) rfl ?_
                  refine J.yes rfl rfl ?_
                  refine J.fieldAddr fld52_2 rfl rfl ?_
                  refine J.yes rfl rfl ?_
                  refine J.load1s 3 rfl rfl one3 (by first | rfl | with_reducible exact rowN_get0 _ _ _ (by omega) | with_reducible exact rowN_get1 _ _ _ (by omega) | with_reducible exact rowN_get1s _ _ _ _ (by omega) | exact rowN_get1 _ _ _ (by omega) | exact rowN_get1s _ _ _ _ (by omega) | exact rowN_get0 _ _ _ (by omega)) rfl ?_
                  refine J.yes rfl rfl ?_
                  refine J.move rfl rfl ?_
                  refine J.yes rfl rfl ?_
                  refine J.buildSlice 207 rfl (e := 5) rfl rfl [] (fun w => by kernel_rfl) (fun g207 hg207 => ?_)
                  refine J.yes rfl rfl ?_
                  refine J.append (i := ⟨some g207, 0, []⟩) (cs := []) 207 rfl Try.underlying22 el5 rfl (RowIx.blk_ok' g207 0 1 (Nat.zero_le _)) rfl rfl rfl (by rw [rowN_length, Nat.mul_one]) (fun w hw => (hw.laidCs (k := 190) rfl)) (by first | exact rowN_one _ _ | (intro u hu; simp at hu; subst hu; rfl)) (by omega) (by unfold maxLen; omega) rfl (xs.take 70000).length (by simp) (rowN .u8 (xs.take 70000)) rfl (fun r209 hr209 => ?_)
                  refine J.yes rfl rfl ?_
                  refine J.callMem 902 903 (by decide) (g := b) (i := j) (bs := bs) (bs' := writeB bs n (xs.take 70000)) rfl rfl rfl rfl fok65 rfl rfl (fun w hw => Mf.Write w b j bs hm2 (hw.memAt 902 903 rfl rfl (by decide)) _ (by omega) _ (xs.take 70000) _ (hw.rowCs (k := 207) rfl) (fun _ => hw.offMem 902 903 rfl rfl 207 rfl (by decide) (by decide)) hkd (by omega)) (fun i210 hm210 => ?_)
                  refine J.yes rfl rfl ?_
                  refine J.eql rfl rfl rfl (decide_eq_true rfl) ?_
                  refine J.pick_t rfl rfl rfl ?_
                  refine J.assign rfl rfl ?_
                  refine J.end ?_
                  refine X.then ?_
                  refine T.seq ?_
                  refine T.seq ?_
                  refine T.text [.l] rfl ?_
                  refine J.assign rfl rfl ?_
                  refine J.end ?_
                  refine X.then ?_
                  refine T.block ?_
                  refine T.loop (ι := Nat × List Nat) (fun ((q, ys) : Nat × List Nat) => q ≤ (xs.take 70000).length ∧ ys.length = (xs.take 70000).length + 75 ∧ Dg ys) (fun ((q, ys) : Nat × List Nat) => [(0, .agg [.pointer (some ⟨a, 0, none⟩), .pointer (some ⟨b, 0, none⟩)].toArray), (1, .agg (opc k t n m p x y (.slice A xs.length c)).toArray), (2, .pointer (some ⟨g2, 0, none⟩)), (3, .pointer (some ⟨g3, 0, none⟩)), (4, .bool false), (189, .slice A xs.length c), (190, .slice (hdOf r190.id) (xs.take 70000).length r190.cap), (19, .slice (hdOf r190.id) (xs.take 70000).length r190.cap), (195, .slice (hdOf r190.id) (xs.take 70000).length r190.cap), (197, .slice (hdOf r190.id) (xs.take 70000).length r190.cap), (199, .slice A xs.length c), (200, .bool true), (201, .bool true), (208, .slice (hdOf r190.id) (xs.take 70000).length r190.cap), (207, .slice (some ⟨g207, 0, none⟩) 0 0), (209, r209.val (xs.take 70000).length), (211, .bool true), (212, .bool true), (21, .bool true), (22, .int .i64 (q : Int))]) (fun ((q, ys) : Nat × List Nat) => [(900, ⟨some a, 99, [i196.val (writeB bs n (xs.take 70000)).length]⟩), (901, i196.ent 5 (rowN .u8 (writeB bs n (xs.take 70000)))), (902, ⟨some b, 101, [i210.val (writeB bs n (xs.take 70000)).length]⟩), (903, i210.ent 5 (rowN .u8 (writeB bs n (xs.take 70000)))), (2, ⟨some g2, 63, [.pointer (some ⟨a, 0, none⟩), .pointer (some ⟨b, 0, none⟩)]⟩), (3, ⟨some g3, 52, (opc k t n m p x y (.slice A xs.length c))⟩), (207, r209.ent 5 (rowN .u8 (xs.take 70000))), (190, r190.ent 5 (rowN .u8 ys))]) (fun ((q, ys) : Nat × List Nat) => (xs.take 70000).length - q) ⟨0, ((xs.take 70000) ++ marks 75)⟩ ⟨Nat.zero_le _, by rw [List.length_append, marks_length], hkd.append (marks_dg 75)⟩ (by repeat (first | exact Sub.nil _ | refine Sub.cons (by first | rfl | (rw [dgs_zero]; rfl) | (rw [List.drop_length]; rfl) | (simp; done) | (congr 2; omega) | (congr 3; omega)) ?_)) (by repeat (first | exact Sub.nil _ | refine Sub.cons (by first | rfl | (rw [dgs_zero]; rfl) | (rw [List.drop_length]; rfl) | (simp; done) | (congr 2; omega) | (congr 3; omega)) ?_)) ?_
                  rintro ⟨q, ys⟩ ⟨hq, hyl, hy⟩
                  try dsimp only at *
                  refine T.seq ?_
                  refine T.seq ?_
                  refine T.text [.l, .l, .l, .l] rfl ?_
                  refine J.move rfl rfl ?_
                  refine J.move rfl rfl ?_
                  refine J.lenSl Try.underlying22 rfl rfl ?_
                  refine J.lss rfl rfl rfl rfl ?_
                  refine J.end ?_
                  refine X.then ?_
                  refine T.cond_dec rfl (fun h10 => ?_) (fun h10 => ?_)
                  · skip
                    refine T.skip ?_
                    refine X.then ?_
                    refine T.seq ?_
                    refine T.block ?_
                    refine T.text [.l, .l, .l, .l, .l, .l, .l, .l, .l] rfl ?_
                    refine J.move rfl rfl ?_
                    refine J.move rfl rfl ?_
                    refine J.move rfl rfl ?_
                    refine J.move rfl rfl ?_
                    refine J.indexRow sl22 rfl (hr190.some (by omega)) rfl (by omega) (by omega) (by first | exact Int.toNat_natCast _ | rfl) rfl ?_
                    refine J.load1 (k := .l) trivial 190 rfl rfl one5 (rowN_get1s _ _ _ _ (by omega)) rfl ?_
                    refine J.sub' rfl rfl rfl (show _ = ((255 - ys.getD q 0 : Nat) : Int) by have := hy.getD q; rw [u8_ok _ (by omega)]; omega) ?_
                    refine J.indexRow sl22 rfl (hr190.some (by omega)) rfl (by omega) (by omega) (by first | exact Int.toNat_natCast _ | rfl) rfl ?_
                    refine J.store 190 rfl rfl rfl rfl [.int .u8 ((255 - ys.getD q 0 : Nat) : Int)] rfl sz5 (by show _ ≤ (rowN .u8 _ ++ r190.sp).length; rw [List.length_append, rowN_length]; show _ + 1 ≤ _; omega) (by first | exact rowN_one _ _ | (simp; done) | (intro u hu; simp at hu; subst hu; rfl) | (intro u hu; simp at hu; rcases hu with rfl | rfl <;> rfl)) (by first | decide | exact Nat.zero_lt_succ _ | simp) trivial (rowN .u8 (ys.set q (255 - ys.getD q 0)) ++ r190.sp) (by rw [Nat.mul_one]; exact putN _ _ _ _ _ (by omega)) ?_
                    refine J.end ?_
                    refine X.inBlock (X.then ?_)
                    refine T.text [.l, .l, .l] rfl ?_
                    refine J.move rfl rfl ?_
                    refine J.add rfl rfl rfl (by first | exact add_nat _ 1 (by omega) | exact i64_ok _ (by omega) | exact rfl) ?_
                    refine J.assign rfl rfl ?_
                    refine J.end ?_
                    exact X.round ⟨(q + 1), (ys.set q (255 - ys.getD q 0))⟩ ⟨by omega, by rw [List.length_set]; exact hyl, hy.set q (by omega)⟩ (by first | omega | (dsimp only; omega)) (by repeat (first | exact Sub.nil _ | refine Sub.cons (by first | rfl | (rw [dgs_zero]; rfl) | (rw [List.drop_length]; rfl) | (simp; done) | (congr 2; omega) | (congr 3; omega)) ?_)) (by repeat (first | exact Sub.nil _ | refine Sub.cons (by first | rfl | (rw [dgs_zero]; rfl) | (rw [List.drop_length]; rfl) | (simp; done) | (congr 2; omega) | (congr 3; omega)) ?_))
                  · skip
                    refine T.exit ?_
                    refine X.then_exit (X.then_exit (X.inBlock_eq (X.then ?_)))
                    refine T.seq ?_
                    refine T.text [.l, .l] rfl ?_
                    refine J.move rfl rfl ?_
                    refine J.assign rfl rfl ?_
                    refine J.end ?_
                    refine X.then ?_
                    refine T.ret ?_
                    refine X.inBlock_ret (X.then_ret ?_)
                    exact X.ret1 rfl (RV.tmp rfl) (fun w' hw' => PagePost.mk' 900 i196 i210 (writeB bs n (xs.take 70000)) hm196 hm210 (by first | (rw [growB_length]; unfold pageL; rw [if_pos (by omega)]) | (unfold pageL; rw [if_neg (by omega)] <;> first | rfl | exact writeB_length _ _ _ | exact moveB_length _ _ _ _)) rfl hw' rfl rfl rfl rfl)
                · skip
                  refine T.seq ?_
                  refine T.text [.l, .l] rfl ?_
                  refine J.eql rfl rfl rfl rfl ?_
                  refine J.assign rfl rfl ?_
                  refine J.end ?_
                  refine X.then ?_
                  refine T.cond_dec rfl (fun h11 => ?_) (fun h11 => ?_)
                  · skip
                    refine T.seq ?_
                    refine T.draw [(2, ⟨some g2, 63, [.pointer (some ⟨a, 0, none⟩), .pointer (some ⟨b, 0, none⟩)]⟩), (3, ⟨some g3, 52, (opc k t n m p x y (.slice A xs.length c))⟩)] [(0, .g), (1, .q), (2, .g), (3, .q), (4, .g), (5, .q), (6, .g), (7, .q), (9, .g), (10, .s), (11, .g), (12, .s), (13, .g), (14, .s), (15, .g), (16, .s), (8, .l), (17, .l), (18, .g), (19, .g)] (by kernel_rfl) (by kernel_rfl) ?_ (by repeat (first | exact Sub.nil _ | refine Sub.cons (by first | rfl | (rw [dgs_zero]; rfl) | (rw [List.drop_length]; rfl) | (simp; done) | (congr 2; omega) | (congr 3; omega)) ?_))
                    refine J.fieldAddr fld63_0 rfl rfl ?_
                    refine J.load1 (k := .q) trivial 2 rfl rfl one60 (by first | rfl | with_reducible exact rowN_get0 _ _ _ (by omega) | with_reducible exact rowN_get1 _ _ _ (by omega) | with_reducible exact rowN_get1s _ _ _ _ (by omega) | exact rowN_get1 _ _ _ (by omega) | exact rowN_get1s _ _ _ _ (by omega) | exact rowN_get0 _ _ _ (by omega)) rfl ?_
                    refine J.fieldAddr fld52_2 rfl rfl ?_
                    refine J.load1 (k := .q) trivial 3 rfl rfl one3 (by first | rfl | with_reducible exact rowN_get0 _ _ _ (by omega) | with_reducible exact rowN_get1 _ _ _ (by omega) | with_reducible exact rowN_get1s _ _ _ _ (by omega) | exact rowN_get1 _ _ _ (by omega) | exact rowN_get1s _ _ _ _ (by omega) | exact rowN_get0 _ _ _ (by omega)) rfl ?_
                    refine J.fieldAddr fld52_3 rfl rfl ?_
                    refine J.load1 (k := .q) trivial 3 rfl rfl one3 (by first | rfl | with_reducible exact rowN_get0 _ _ _ (by omega) | with_reducible exact rowN_get1 _ _ _ (by omega) | with_reducible exact rowN_get1s _ _ _ _ (by omega) | exact rowN_get1 _ _ _ (by omega) | exact rowN_get1s _ _ _ _ (by omega) | exact rowN_get0 _ _ _ (by omega)) rfl ?_
                    refine J.fieldAddr fld52_4 rfl rfl ?_
                    refine J.load1 (k := .q) trivial 3 rfl rfl one3 (by first | rfl | with_reducible exact rowN_get0 _ _ _ (by omega) | with_reducible exact rowN_get1 _ _ _ (by omega) | with_reducible exact rowN_get1s _ _ _ _ (by omega) | exact rowN_get1 _ _ _ (by omega) | exact rowN_get1s _ _ _ _ (by omega) | exact rowN_get0 _ _ _ (by omega)) rfl ?_
                    refine J.fieldAddr fld63_1 rfl rfl ?_
                    refine J.load1s 2 rfl rfl one61 (by first | rfl | with_reducible exact rowN_get0 _ _ _ (by omega) | with_reducible exact rowN_get1 _ _ _ (by omega) | with_reducible exact rowN_get1s _ _ _ _ (by omega) | exact rowN_get1 _ _ _ (by omega) | exact rowN_get1s _ _ _ _ (by omega) | exact rowN_get0 _ _ _ (by omega)) rfl ?_
                    refine J.fieldAddr fld52_2 rfl rfl ?_
                    refine J.load1s 3 rfl rfl one3 (by first | rfl | with_reducible exact rowN_get0 _ _ _ (by omega) | with_reducible exact rowN_get1 _ _ _ (by omega) | with_reducible exact rowN_get1s _ _ _ _ (by omega) | exact rowN_get1 _ _ _ (by omega) | exact rowN_get1s _ _ _ _ (by omega) | exact rowN_get0 _ _ _ (by omega)) rfl ?_
                    refine J.fieldAddr fld52_3 rfl rfl ?_
                    refine J.load1s 3 rfl rfl one3 (by first | rfl | with_reducible exact rowN_get0 _ _ _ (by omega) | with_reducible exact rowN_get1 _ _ _ (by omega) | with_reducible exact rowN_get1s _ _ _ _ (by omega) | exact rowN_get1 _ _ _ (by omega) | exact rowN_get1s _ _ _ _ (by omega) | exact rowN_get0 _ _ _ (by omega)) rfl ?_
                    refine J.fieldAddr fld52_4 rfl rfl ?_
                    refine J.load1s 3 rfl rfl one3 (by first | rfl | with_reducible exact rowN_get0 _ _ _ (by omega) | with_reducible exact rowN_get1 _ _ _ (by omega) | with_reducible exact rowN_get1s _ _ _ _ (by omega) | exact rowN_get1 _ _ _ (by omega) | exact rowN_get1s _ _ _ _ (by omega) | exact rowN_get0 _ _ _ (by omega)) rfl ?_
                    refine J.callMem 900 901 (by decide) (g := a) (i := i) (bs := bs) (bs' := moveB bs n m p) rfl rfl rfl rfl fok47 rfl rfl (fun w hw => Me.Move w a i bs hi0 (hw.memAt 900 901 rfl rfl (by decide)) _ (by omega) _ (by omega) _ (by omega)) (fun i238 hm238 => ?_)
                    refine J.callMem 902 903 (by decide) (g := b) (i := j) (bs := bs) (bs' := moveB bs n m p) rfl rfl rfl rfl fok66 rfl rfl (fun w hw => Mf.Move w b j bs hm2 (hw.memAt 902 903 rfl rfl (by decide)) _ (by omega) _ (by omega) _ (by omega)) (fun i247 hm247 => ?_)
                    refine J.eql rfl rfl rfl (decide_eq_true rfl) ?_
                    refine J.assign rfl rfl ?_
                    refine J.end ?_
                    refine X.then ?_
                    refine T.ret ?_
                    refine X.inBlock_ret (X.then_ret ?_)
                    exact X.ret1 rfl (RV.tmp rfl) (fun w' hw' => PagePost.mk' 900 i238 i247 (moveB bs n m p) hm238 hm247 (by first | (rw [growB_length]; unfold pageL; rw [if_pos (by omega)]) | (unfold pageL; rw [if_neg (by omega)] <;> first | rfl | exact writeB_length _ _ _ | exact moveB_length _ _ _ _)) rfl hw' rfl rfl rfl rfl)
                  · skip
                    refine T.skip ?_
                    refine X.inBlock (X.then ?_)
                    refine T.seq ?_
                    refine T.text [.l] rfl ?_
                    refine J.assign rfl rfl ?_
                    refine J.end ?_
                    refine X.then ?_
                    refine T.ret ?_
                    exact X.ret1 rfl (RV.tmp rfl) (fun w' hw' => PagePost.mk' 900 i j bs hi0 hm2 (by first | (rw [growB_length]; unfold pageL; rw [if_pos (by omega)]) | (unfold pageL; rw [if_neg (by omega)] <;> first | rfl | exact writeB_length _ _ _ | exact moveB_length _ _ _ _)) rfl hw' rfl rfl rfl rfl)

set_option maxRecDepth 100000 in
set_option maxHeartbeats 2000000 in
theorem wrote (w : World) :
    Calls Try.prog 39 [].toArray w fun e w' => e = .returned (.bool true) ∧ WS w [] [] w' := by
  refine calls_of_T [] 30 [] Try.func39 rfl Try.ntmps39 (by simp) (WS.refl _ _) ?_
  refine T.seq ?_
  refine T.text [.l] rfl ?_
  refine J.assign rfl rfl ?_
  refine J.end ?_
  refine X.then ?_
  refine T.seq ?_
  refine T.text [.l, .l, .l] rfl ?_
  refine J.callPair 100 102 (by decide) rfl rfl fok35 rfl rfl (fun w hw => Pg.blank w) (fun a4 b4 ha4 hb4 => ?_)
  refine J.alloc 1 rfl zero63 [.pointer none, .pointer none] rfl rfl (fun g1 hg1 => ?_)
  refine J.store 1 rfl rfl rfl rfl [.pointer (some ⟨a4, 0, none⟩), .pointer (some ⟨b4, 0, none⟩)] rfl sz63 (by first | decide | exact Nat.le_refl _ | exact Nat.le_of_ble_eq_true rfl | (simp [rowN]; done) | (simp [rowN]; omega)) (by first | exact rowN_one _ _ | (simp; done) | (intro u hu; simp at hu; subst hu; rfl) | (intro u hu; simp at hu; rcases hu with rfl | rfl <;> rfl)) (by first | decide | exact Nat.zero_lt_succ _ | simp) trivial [.pointer (some ⟨a4, 0, none⟩), .pointer (some ⟨b4, 0, none⟩)] rfl ?_
  refine J.end ?_
  refine X.addNil 101 5 ?_
  refine X.addNil 103 5 ?_
  refine X.then ?_
  refine T.seq ?_
  refine T.seq ?_
  refine T.text [.l, .l, .l] rfl ?_
  refine J.fieldAddr fld63_0 rfl rfl ?_
  refine J.load1 (k := .l) trivial 1 rfl rfl one60 (by first | rfl | with_reducible exact rowN_get0 _ _ _ (by omega) | with_reducible exact rowN_get1 _ _ _ (by omega) | with_reducible exact rowN_get1s _ _ _ _ (by omega) | exact rowN_get1 _ _ _ (by omega) | exact rowN_get1s _ _ _ _ (by omega) | exact rowN_get0 _ _ _ (by omega)) rfl ?_
  refine J.eqNil (by kernel_rfl) rfl rfl rfl rfl ?_
  refine J.end ?_
  refine X.then ?_
  refine T.cond_false rfl ?_
  refine T.skip ?_
  refine X.then ?_
  refine T.seq ?_
  refine T.text [.l, .l, .l, .l, .l, .l, .l, .l, .l, .l] rfl ?_
  refine J.build rfl rfl (.agg (opw (3, 1, 0, 0, 0)).toArray) (fun w => by kernel_rfl) ?_
  refine J.build rfl rfl (W 258) (fun w => by kernel_rfl) ?_
  refine J.build rfl rfl (.agg (opw (5, 0, 0, 0, 258)).toArray) (fun w => by kernel_rfl) ?_
  refine J.build rfl rfl (.agg (opw (9, 1, 30, 2, 0)).toArray) (fun w => by kernel_rfl) ?_
  refine J.build rfl rfl (.agg (opw (4, 0, 0, 0, 0)).toArray) (fun w => by kernel_rfl) ?_
  refine J.build rfl rfl (.agg (opw (7, 1, 2, 0, 0)).toArray) (fun w => by kernel_rfl) ?_
  refine J.build rfl rfl (.agg (opw (1, 0, 0, 0, 0)).toArray) (fun w => by kernel_rfl) ?_
  refine J.build rfl rfl (.agg wrkc.toArray) (fun w => by kernel_rfl) ?_
  refine J.alloc 2 rfl zero102 ([(.int .i64 0 : Value)] ++ [(.bool false : Value)] ++ List.replicate 3 (.int .i64 0 : Value) ++ List.replicate 8 (.int .u64 0 : Value) ++ [(.slice none 0 0 : Value)] ++ [(.int .i64 0 : Value)] ++ [(.bool false : Value)] ++ List.replicate 3 (.int .i64 0 : Value) ++ List.replicate 8 (.int .u64 0 : Value) ++ [(.slice none 0 0 : Value)] ++ [(.int .i64 0 : Value)] ++ [(.bool false : Value)] ++ List.replicate 3 (.int .i64 0 : Value) ++ List.replicate 8 (.int .u64 0 : Value) ++ [(.slice none 0 0 : Value)] ++ [(.int .i64 0 : Value)] ++ [(.bool false : Value)] ++ List.replicate 3 (.int .i64 0 : Value) ++ List.replicate 8 (.int .u64 0 : Value) ++ [(.slice none 0 0 : Value)] ++ [(.int .i64 0 : Value)] ++ [(.bool false : Value)] ++ List.replicate 3 (.int .i64 0 : Value) ++ List.replicate 8 (.int .u64 0 : Value) ++ [(.slice none 0 0 : Value)] ++ [(.int .i64 0 : Value)] ++ [(.bool false : Value)] ++ List.replicate 3 (.int .i64 0 : Value) ++ List.replicate 8 (.int .u64 0 : Value) ++ [(.slice none 0 0 : Value)]) rfl rfl (fun g2 hg2 => ?_)
  refine J.store 2 rfl rfl rfl rfl wrkc rfl sz102 (Nat.le_of_ble_eq_true rfl) (by decide +kernel) (Nat.le_of_ble_eq_true rfl) trivial wrkc (put_all _ _ rfl) ?_
  refine J.end ?_
  refine X.then ?_
  refine T.seq ?_
  refine T.seq ?_
  refine T.text [.l] rfl ?_
  refine J.assign rfl rfl ?_
  refine J.end ?_
  refine X.then ?_
  refine T.block ?_
  refine T.loop (ι := Nat × List Nat × RowIx × RowIx) (fun ((i, bs, i1, j1) : Nat × List Nat × RowIx × RowIx) => i ≤ 6 ∧ bs.length = wrL i ∧ MOk i1 bs ∧ MOk j1 bs) (fun ((i, bs, i1, j1) : Nat × List Nat × RowIx × RowIx) => [(1, .pointer (some ⟨g1, 0, none⟩)), (2, .pointer (some ⟨g2, 0, none⟩)), (3, .int .i64 (i : Int))]) (fun ((i, bs, i1, j1) : Nat × List Nat × RowIx × RowIx) => [(1, ⟨some g1, 63, [.pointer (some ⟨a4, 0, none⟩), .pointer (some ⟨b4, 0, none⟩)]⟩), (2, ⟨some g2, 102, wrkc⟩), (100, ⟨some a4, 99, [i1.val bs.length]⟩), (101, i1.ent 5 (rowN .u8 bs)), (102, ⟨some b4, 101, [j1.val bs.length]⟩), (103, j1.ent 5 (rowN .u8 bs))]) (fun ((i, bs, i1, j1) : Nat × List Nat × RowIx × RowIx) => 6 - i) ⟨0, [], RowIx.nil, RowIx.nil⟩ ⟨Nat.zero_le _, rfl, MOk.nil, MOk.nil⟩ (by repeat (first | exact Sub.nil _ | refine Sub.cons (by first | rfl | (rw [dgs_zero]; rfl) | (rw [List.drop_length]; rfl) | (simp; done) | (congr 2; omega) | (congr 3; omega)) ?_)) (by repeat (first | exact Sub.nil _ | refine Sub.cons (by first | rfl | (rw [dgs_zero]; rfl) | (rw [List.drop_length]; rfl) | (simp; done) | (congr 2; omega) | (congr 3; omega)) ?_)) ?_
  rintro ⟨i, bs, i1, j1⟩ ⟨hi, hbl, hm1, hm2⟩
  try dsimp only at *
  refine T.seq ?_
  refine T.seq ?_
  refine T.text [.l, .l] rfl ?_
  refine J.move rfl rfl ?_
  refine J.lss rfl rfl rfl rfl ?_
  refine J.end ?_
  refine X.then ?_
  refine T.cond_dec rfl (fun h1 => ?_) (fun h1 => ?_)
  · have hi6 : i < 6 := by omega
    have hwq := wrk_all ⟨i, hi6⟩
    dsimp only at hwq
    refine T.skip ?_
    refine X.then ?_
    refine T.seq ?_
    refine T.block ?_
    refine T.seq ?_
    refine T.draw [] [(0, .q), (1, .g), (2, .g), (3, .q), (4, .l), (5, .g)] (by kernel_rfl) (by kernel_rfl) ?_ (by repeat (first | exact Sub.nil _ | refine Sub.cons (by first | rfl | (rw [dgs_zero]; rfl) | (rw [List.drop_length]; rfl) | (simp; done) | (congr 2; omega) | (congr 3; omega)) ?_))
    refine J.loadN (k := .q) trivial 1 rfl rfl agg63 [.pointer (some ⟨a4, 0, none⟩), .pointer (some ⟨b4, 0, none⟩)] rfl rfl rfl ?_
    refine J.move rfl rfl ?_
    refine J.indexArr arr102 rfl rfl (by omega) (by omega) (by first | exact Int.toNat_natCast _ | rfl) rfl ?_
    refine J.loadN (k := .q) trivial 2 rfl rfl agg52 (opw (wrq i)) rfl (by rw [Nat.zero_add]; exact wrk_seg i hi6) rfl ?_
    refine J.callPage 100 (K := wrL (i + 1)) (i := i1) (j := j1) (bs := bs) rfl rfl rfl rfl rfl rfl rfl rfl fok36 rfl rfl (fun w hw => by rw [← hwq.2.2.2, ← hbl]; exact Pg.paged w a4 b4 i1 j1 bs hm1 hm2 (hw.pageAt 100 rfl rfl rfl rfl) _ _ _ _ _ _ _ none [] 0 (by omega) (by omega) (by omega) (Cs.nil _ _) Dg.nil (Nat.zero_le _) (Nat.zero_le _) (fun e => absurd rfl e)) (fun i24 j24 bs24 hm24 hk24 hl24 => ?_)
    refine J.not rfl rfl rfl ?_
    refine J.end ?_
    refine X.then ?_
    refine T.cond_false rfl ?_
    refine T.skip ?_
    refine X.inBlock (X.then ?_)
    refine T.text [.l, .l, .l] rfl ?_
    refine J.move rfl rfl ?_
    refine J.add rfl rfl rfl (by first | exact add_nat _ 1 (by omega) | exact i64_ok _ (by omega) | exact rfl) ?_
    refine J.assign rfl rfl ?_
    refine J.end ?_
    exact X.round ⟨(i + 1), bs24, i24, j24⟩ ⟨by omega, hl24, hm24, hk24⟩ (by first | omega | (dsimp only; omega)) (by repeat (first | exact Sub.nil _ | refine Sub.cons (by first | rfl | (rw [dgs_zero]; rfl) | (rw [List.drop_length]; rfl) | (simp; done) | (congr 2; omega) | (congr 3; omega)) ?_)) (by repeat (first | exact Sub.nil _ | refine Sub.cons (by first | rfl | (rw [dgs_zero]; rfl) | (rw [List.drop_length]; rfl) | (simp; done) | (congr 2; omega) | (congr 3; omega)) ?_))
  · obtain rfl : i = 6 := by omega
    refine T.exit ?_
    refine X.then_exit (X.then_exit (X.inBlock_eq (X.then ?_)))
    refine T.seq ?_
    refine T.text [.l, .l, .l, .l, .l] rfl ?_
    refine J.fieldAddr fld63_1 rfl rfl ?_
    refine J.load1 (k := .l) trivial 1 rfl rfl one61 (by first | rfl | with_reducible exact rowN_get0 _ _ _ (by omega) | with_reducible exact rowN_get1 _ _ _ (by omega) | with_reducible exact rowN_get1s _ _ _ _ (by omega) | exact rowN_get1 _ _ _ (by omega) | exact rowN_get1s _ _ _ _ (by omega) | exact rowN_get0 _ _ _ (by omega)) rfl ?_
    refine J.call0 (k := .l) trivial fok38 rfl rfl (fun w hw => Mf.Len w b4 j1 bs hm2 (hw.memAt 102 103 rfl rfl (by decide))) ?_
    refine J.eql rfl rfl rfl (decide_eq_true (by rw [hbl]; rfl)) ?_
    refine J.assign rfl rfl ?_
    refine J.end ?_
    refine X.then ?_
    refine T.ret ?_
    exact X.ret1 rfl (RV.tmp rfl) (fun w' hw' => ⟨rfl, hw'.sub (Sub.nil _)⟩)
end Go.Proofs.Ytpkjbeebhdgleaa.Pg
