/-
  Walks, printed by gen.py: what each function hands back, said of numbers.
  Conditions: those that each theorem bears.
-/
import Derived.Test.YtpkjbeebhdgleaaChecked
import Derived.Test.YtpkjbeebhdgleaaFm
import Derived.Test.YtpkjbeebhdgleaaAw
set_option linter.unusedVariables false
set_option maxRecDepth 20000
namespace Go.Proofs.Ytpkjbeebhdgleaa.Le
open Go Go.Fw

theorem zero58w : ZeroT Try.prog 58 (.agg (rowW zstk).toArray) := (by unfold ZeroT; kernel_rfl)
theorem fok18 : FnOk Try.prog 18 := FnOk.mk' Try.func18 (by kernel_rfl) rfl
theorem fok32 : FnOk Try.prog 32 := FnOk.mk' Try.func32 (by kernel_rfl) rfl
theorem sz23 : SizeT Try.prog 23 1 := (by unfold SizeT; kernel_rfl)
theorem arr25 : ArrT Try.prog 25 4 23 1 := ⟨Try.underlying25, sz23⟩
theorem one23 : OneT Try.prog 23 := ⟨⟨_, Try.underlying23, rfl⟩, by kernel_rfl⟩
theorem eqw25 : EqT Try.prog 25 := ⟨⟨23, arr25, one23, Try.underlying23⟩, by kernel_rfl⟩
theorem sz25 : SizeT Try.prog 25 4 := (by unfold SizeT; kernel_rfl)
theorem sl32 : SlT Try.prog 32 25 4 := ⟨Try.underlying32, sz25⟩
theorem agg25 : AggT Try.prog 25 4 := ⟨⟨_, Try.underlying25, rfl⟩, by kernel_rfl⟩
theorem fok31 : FnOk Try.prog 31 := FnOk.mk' Try.func31 (by kernel_rfl) rfl
theorem arr58 : ArrT Try.prog 58 1024 25 4 := ⟨Try.underlying58, sz25⟩
theorem fok20 : FnOk Try.prog 20 := FnOk.mk' Try.func20 (by kernel_rfl) rfl
theorem fok33 : FnOk Try.prog 33 := FnOk.mk' Try.func33 (by kernel_rfl) rfl
theorem fok23 : FnOk Try.prog 23 := FnOk.mk' Try.func23 (by kernel_rfl) rfl
theorem zero25 : ZeroT Try.prog 25 (.agg ([.int .u64 0, .int .u64 0, .int .u64 0, .int .u64 0]).toArray) := (by unfold ZeroT; kernel_rfl)
theorem fok28 : FnOk Try.prog 28 := FnOk.mk' Try.func28 (by kernel_rfl) rfl
theorem fok34 : FnOk Try.prog 34 := FnOk.mk' Try.func34 (by kernel_rfl) rfl
theorem fok19 : FnOk Try.prog 19 := FnOk.mk' Try.func19 (by kernel_rfl) rfl
theorem fok25 : FnOk Try.prog 25 := FnOk.mk' Try.func25 (by kernel_rfl) rfl

set_option maxRecDepth 100000 in
set_option maxHeartbeats 400000 in
theorem MachRing (w : World) (A0 : Option Addr) (c0 : Nat) (xs0 : List Nat) (hc0 : Cs w A0 (rowW xs0)) (hb0 : xs0.length ≤ 9223372036854775807) (n1 n m : Int) (hn1 : -9223372036854775808 ≤ n1 ∧ n1 ≤ 9223372036854775807) (hn : -9223372036854775808 ≤ n ∧ n ≤ 9223372036854775807) (hm : -9223372036854775808 ≤ m ∧ m ≤ 9223372036854775807) (x4 : Nat) :
    Calls Try.prog 7 [.slice A0 xs0.length c0, .int .i64 n1, .int .i64 n, .int .i64 m, W x4].toArray w fun e w' => e = .returned (.bool true) ∧ WS w [] [] w' := by
  refine calls_of_T [] 217 [] Try.func7 rfl Try.ntmps7 (by simp) (WS.refl _ _) ?_
  refine T.seq ?_
  refine T.text [.l, .l] rfl ?_
  refine J.box 9 rfl rfl (wc x4) rfl rfl (fun g9 hg9 => ?_)
  refine J.assign rfl rfl ?_
  refine J.end ?_
  refine X.then ?_
  refine T.seq ?_
  refine T.text [.l, .l] rfl ?_
  refine J.callNew 23 rfl (t := 89) (cs := (stkM zstk 0)) fok18 rfl rfl (fun w hw => Sa.NewStack w) (fun g23 hg23 => ?_)
  refine J.assign rfl rfl ?_
  refine J.end ?_
  refine X.then ?_
  refine T.seq ?_
  refine T.seq ?_
  refine T.text [.l, .l] rfl ?_
  refine J.move rfl rfl ?_
  refine J.eqNil (by kernel_rfl) rfl rfl rfl rfl ?_
  refine J.end ?_
  refine X.then ?_
  refine T.cond_false rfl ?_
  refine T.skip ?_
  refine X.then ?_
  refine T.seq ?_
  refine T.text [.l, .l, .l] rfl ?_
  refine J.move rfl rfl ?_
  refine J.band rfl rfl rfl (and2047 _) ?_
  obtain ⟨d, hd⟩ : ∃ d : Nat, n1 % 2048 = (d : Int) := ⟨(n1 % 2048).toNat, by omega⟩
  refine J.as 27 (.int .i64 (d : Int)) rfl (by rw [hd]) ?_
  refine J.assign rfl rfl ?_
  refine J.end ?_
  refine X.then ?_
  refine T.seq ?_
  refine T.seq ?_
  refine T.text [.l] rfl ?_
  refine J.assign rfl rfl ?_
  refine J.end ?_
  refine X.then ?_
  refine T.block ?_
  refine T.loop (ι := Nat) (fun (i : Nat) => i ≤ d) (fun (i : Nat) => [(0, .slice A0 xs0.length c0), (1, .int .i64 (d : Int)), (2, .int .i64 n), (3, .int .i64 m), (4, W x4), (9, .pointer (some ⟨g9, 0, none⟩)), (11, .pointer (some ⟨g23, 0, none⟩)), (12, .int .i64 (i : Int))]) (fun (i : Nat) => [(9, ⟨some g9, 25, (wc x4)⟩), (23, ⟨some g23, 89, stkM (zstk) (-(i : Int))⟩)]) (fun (i : Nat) => d - i) 0 (Nat.zero_le _) (by repeat (first | exact Sub.nil _ | refine Sub.cons (by first | rfl | (rw [dgs_zero]; rfl) | (rw [List.drop_length]; rfl) | (simp; done) | (congr 2; omega) | (congr 3; omega)) ?_)) (by repeat (first | exact Sub.nil _ | refine Sub.cons (by first | rfl | (rw [dgs_zero]; rfl) | (rw [List.drop_length]; rfl) | (simp; done) | (congr 2; omega) | (congr 3; omega)) ?_)) ?_
  rintro i hi
  refine T.seq ?_
  refine T.seq ?_
  refine T.text [.l, .l, .l] rfl ?_
  refine J.move rfl rfl ?_
  refine J.move rfl rfl ?_
  refine J.lss rfl rfl rfl rfl ?_
  refine J.end ?_
  refine X.then ?_
  refine T.cond_dec rfl (fun h1 => ?_) (fun h1 => ?_)
  · skip
    refine T.skip ?_
    refine X.then ?_
    refine T.seq ?_
    refine T.block ?_
    refine T.seq ?_
    refine T.text [.l, .l, .l, .l] rfl ?_
    refine J.move rfl rfl ?_
    refine J.callMut 23 rfl rfl fok32 rfl rfl (fun w hw => Sa.Take w g23 zstk (-(i : Int)) zstk_length (by omega) (hw.live 23 _ rfl)) ?_
    refine J.build rfl rfl (W 0) (fun w => by kernel_rfl) ?_
    refine J.neqW eqw25 rfl rfl rfl ?_
    refine J.as 36 (.bool false) rfl (by rw [decide_eq_false (fun h => h (by rw [zstk_get]))]) ?_
    refine J.end ?_
    refine X.then ?_
    refine T.cond_false rfl ?_
    refine T.skip ?_
    refine X.inBlock (X.then ?_)
    refine T.text [.l, .l, .l] rfl ?_
    refine J.move rfl rfl ?_
    refine J.add rfl rfl rfl (by first | exact add_nat _ 1 (by omega) | exact i64_ok _ (by omega) | exact rfl) ?_
    refine J.assign rfl rfl ?_
    refine J.end ?_
    refine X.asE 23 ⟨some g23, 89, stkM (zstk) (-((i + 1 : Nat) : Int))⟩ rfl (by congr 3; omega) ?_
    exact X.round (i + 1) (by omega) (by first | omega | (dsimp only; omega)) (by repeat (first | exact Sub.nil _ | refine Sub.cons (by first | rfl | (rw [dgs_zero]; rfl) | (rw [List.drop_length]; rfl) | (simp; done) | (congr 2; omega) | (congr 3; omega)) ?_)) (by repeat (first | exact Sub.nil _ | refine Sub.cons (by first | rfl | (rw [dgs_zero]; rfl) | (rw [List.drop_length]; rfl) | (simp; done) | (congr 2; omega) | (congr 3; omega)) ?_))
  · obtain rfl : d = i := by omega
    refine T.exit ?_
    refine X.then_exit (X.then_exit (X.inBlock_eq (X.then ?_)))
    refine T.seq ?_
    refine T.text [.l] rfl ?_
    refine J.alloc 13 rfl zero58w (rowW zstk) rfl rfl (fun g13 hg13 => ?_)
    refine J.end ?_
    refine X.then ?_
    refine T.seq ?_
    refine T.text [.l, .l, .l] rfl ?_
    refine J.move rfl rfl ?_
    refine J.neg rfl rfl (by exact i64_ok _ (by omega)) ?_
    refine J.assign rfl rfl ?_
    refine J.end ?_
    refine X.then ?_
    refine T.seq ?_
    refine T.seq ?_
    refine T.text [.l] rfl ?_
    refine J.assign rfl rfl ?_
    refine J.end ?_
    refine X.then ?_
    refine T.block ?_
    refine T.as 14 (.int .i64 (((0 : Nat) : Int) - (d : Int))) rfl (by first | (congr 1; done) | (congr 1; omega)) ?_
    refine T.asE 23 ⟨some g23, 89, stkM (zstk) (((0 : Nat) : Int) - (d : Int))⟩ rfl (by congr 3; omega) ?_
    refine T.loop (ι := Nat × List Nat) (fun ((i, S) : Nat × List Nat) => i ≤ xs0.length ∧ i ≤ 2500 ∧ S.length = 1024) (fun ((i, S) : Nat × List Nat) => [(0, .slice A0 xs0.length c0), (1, .int .i64 (d : Int)), (2, .int .i64 n), (3, .int .i64 m), (4, W x4), (9, .pointer (some ⟨g9, 0, none⟩)), (11, .pointer (some ⟨g23, 0, none⟩)), (12, .int .i64 (d : Int)), (13, .pointer (some ⟨g13, 0, none⟩)), (14, .int .i64 ((i : Int) - (d : Int))), (15, .int .i64 (i : Int))]) (fun ((i, S) : Nat × List Nat) => [(9, ⟨some g9, 25, (wc x4)⟩), (23, ⟨some g23, 89, stkM (S) (((i : Int) - (d : Int)))⟩), (13, ⟨some g13, 58, rowW (S)⟩)]) (fun ((i, S) : Nat × List Nat) => 2500 - i) ⟨0, zstk⟩ ⟨Nat.zero_le _, Nat.zero_le _, zstk_length⟩ (by repeat (first | exact Sub.nil _ | refine Sub.cons (by first | rfl | (rw [dgs_zero]; rfl) | (rw [List.drop_length]; rfl) | (simp; done) | (congr 2; omega) | (congr 3; omega)) ?_)) (by repeat (first | exact Sub.nil _ | refine Sub.cons (by first | rfl | (rw [dgs_zero]; rfl) | (rw [List.drop_length]; rfl) | (simp; done) | (congr 2; omega) | (congr 3; omega)) ?_)) ?_
    rintro ⟨i, S⟩ ⟨hi, hi2, hS⟩
    try dsimp only at *
    refine T.seq ?_
    refine T.seq ?_
    refine T.text [.l, .l, .l, .l, .l, .l, .l, .l] rfl ?_
    refine J.move rfl rfl ?_
    refine J.move rfl rfl ?_
    refine J.lenSl Try.underlying32 rfl rfl ?_
    refine J.lss rfl rfl rfl rfl ?_
    refine J.move rfl rfl ?_
    refine J.split 43 rfl (fun h2 => ?_) (fun h2 => ?_)
    · skip
      refine J.yes rfl rfl ?_
      refine J.move rfl rfl ?_
      refine J.yes rfl rfl ?_
      refine J.lss rfl rfl rfl rfl ?_
      refine J.pick_t rfl rfl rfl ?_
      refine J.end ?_
      refine X.then ?_
      refine T.cond_dec rfl (fun h3 => ?_) (fun h3 => ?_)
      · skip
        refine T.skip ?_
        refine X.then ?_
        refine T.seq ?_
        refine T.block ?_
        refine T.seq ?_
        refine T.text [.l, .l, .l, .l, .l, .l] rfl ?_
        refine J.move rfl rfl ?_
        refine J.move rfl rfl ?_
        refine J.move rfl rfl ?_
        refine J.indexSlI sl32 rfl (Cs.isSomeW hc0 (by omega)) rfl (by omega) (by omega) (by first | exact Int.toNat_natCast _ | rfl) rfl ?_
        refine J.loadIW (k := .l) trivial hc0 (off_nil _) rfl agg25 (by first | rfl | with_reducible exact rowW_seg0 _ _ _ (by omega) | with_reducible exact rowW_seg00 _ _ (by omega) | with_reducible exact rowW_segs _ _ _ (by omega) | with_reducible exact rowW_seg _ _ (by omega) | with_reducible exact rowW_segb _ _ _ (by omega) | exact rowW_seg _ _ (by omega) | exact rowW_segs _ _ _ (by omega)) rfl ?_
        refine J.callMut 23 rfl rfl fok31 rfl rfl (fun w hw => Sa.Put w g23 S ((i : Int) - (d : Int)) hS (by omega) (hw.live 23 _ rfl) (xs0.getD i 0)) ?_
        refine J.end ?_
        refine X.then ?_
        refine T.seq ?_
        refine T.text [.l, .l, .l, .l, .l, .l, .l, .l, .l] rfl ?_
        refine J.move rfl rfl ?_
        refine J.add rfl rfl rfl (by exact i64_ok _ (by omega)) ?_
        refine J.rem rfl rfl rfl (by omega) (by exact rem_ok _ _ (by omega)) ?_
        refine J.as 57 (.int .i64 ((ix (((i : Int) - (d : Int))) : Nat) : Int)) rfl (by congr 1; rw [ix_cast]; omega) ?_
        have hil := ix_lt (((i : Int) - (d : Int)))
        refine J.move rfl rfl ?_
        refine J.move rfl rfl ?_
        refine J.indexSlI sl32 rfl (Cs.isSomeW hc0 (by omega)) rfl (by omega) (by omega) (by first | exact Int.toNat_natCast _ | rfl) rfl ?_
        refine J.loadIW (k := .l) trivial hc0 (off_nil _) rfl agg25 (by first | rfl | with_reducible exact rowW_seg0 _ _ _ (by omega) | with_reducible exact rowW_seg00 _ _ (by omega) | with_reducible exact rowW_segs _ _ _ (by omega) | with_reducible exact rowW_seg _ _ (by omega) | with_reducible exact rowW_segb _ _ _ (by omega) | exact rowW_seg _ _ (by omega) | exact rowW_segs _ _ _ (by omega)) rfl ?_
        refine J.indexArr arr58 rfl rfl (by omega) (by omega) (by first | exact Int.toNat_natCast _ | rfl) rfl ?_
        refine J.store 13 rfl rfl rfl rfl (wc (xs0.getD i 0)) rfl sz25 (by show 0 + ix (((i : Int) - (d : Int))) * 4 + 4 ≤ (rowW S).length; rw [rowW_length, hS]; omega) (rowN_one _ _) (by show 0 < 4; omega) trivial (rowW (S.set (ix ((i : Int) - (d : Int))) (xs0.getD i 0))) (by rw [Nat.zero_add]; exact putW' _ _ _ (by rw [hS]; exact ix_lt _)) ?_
        refine J.end ?_
        refine X.then ?_
        refine T.text [.l, .l, .l] rfl ?_
        refine J.move rfl rfl ?_
        refine J.add rfl rfl rfl (by exact i64_ok _ (by omega)) ?_
        refine J.assign rfl rfl ?_
        refine J.end ?_
        refine X.inBlock (X.then ?_)
        refine T.text [.l, .l, .l] rfl ?_
        refine J.move rfl rfl ?_
        refine J.add rfl rfl rfl (by first | exact add_nat _ 1 (by omega) | exact i64_ok _ (by omega) | exact rfl) ?_
        refine J.assign rfl rfl ?_
        refine J.end ?_
        refine X.asE 23 ⟨some g23, 89, stkM (S.set (ix ((i : Int) - (d : Int))) (xs0.getD i 0)) (((i + 1 : Nat) : Int) - (d : Int))⟩ rfl (by rw [show ((i + 1 : Nat) : Int) - (d : Int) = (i : Int) - (d : Int) + 1 by omega]) ?_
        refine X.as 14 (.int .i64 (((i + 1 : Nat) : Int) - (d : Int))) rfl (by congr 1; omega) ?_
        exact X.round ⟨(i + 1), (S.set (ix ((i : Int) - (d : Int))) (xs0.getD i 0))⟩ ⟨by omega, by omega, by rw [List.length_set]; exact hS⟩ (by first | omega | (dsimp only; omega)) (by repeat (first | exact Sub.nil _ | refine Sub.cons (by first | rfl | (rw [dgs_zero]; rfl) | (rw [List.drop_length]; rfl) | (simp; done) | (congr 2; omega) | (congr 3; omega)) ?_)) (by repeat (first | exact Sub.nil _ | refine Sub.cons (by first | rfl | (rw [dgs_zero]; rfl) | (rw [List.drop_length]; rfl) | (simp; done) | (congr 2; omega) | (congr 3; omega)) ?_))
      · skip
        refine T.exit ?_
        refine X.then_exit (X.then_exit (X.inBlock_eq (X.then ?_)))
        refine T.seq ?_
        refine T.seq ?_
        refine T.text [.l, .l, .l, .l] rfl ?_
        obtain ⟨a, ha⟩ : ∃ a : Int, (i : Int) - (d : Int) = a := ⟨_, rfl⟩
        rw [ha]
        refine J.move rfl rfl ?_
        refine J.call0 (k := .l) trivial fok20 rfl rfl (fun w hw => Sa.Len w g23 (S) (a) hS (by omega) (hw.blkCs (k := 23) rfl)) ?_
        refine J.move rfl rfl ?_
        refine J.neq rfl rfl rfl (decide_eq_false (fun h => h (by rfl))) ?_
        refine J.end ?_
        refine X.then ?_
        refine T.cond_false rfl ?_
        refine T.skip ?_
        refine X.then ?_
        refine T.seq ?_
        refine T.seq ?_
        refine T.text [.l] rfl ?_
        refine J.assign rfl rfl ?_
        refine J.end ?_
        refine X.then ?_
        refine T.block ?_
        refine T.loop (ι := Nat) (fun (q : Nat) => q ≤ 1024) (fun (q : Nat) => [(0, .slice A0 xs0.length c0), (1, .int .i64 (d : Int)), (2, .int .i64 n), (3, .int .i64 m), (4, W x4), (9, .pointer (some ⟨g9, 0, none⟩)), (11, .pointer (some ⟨g23, 0, none⟩)), (12, .int .i64 (d : Int)), (13, .pointer (some ⟨g13, 0, none⟩)), (14, .int .i64 a), (15, .int .i64 (i : Int)), (16, .int .i64 (q : Int))]) (fun (q : Nat) => [(9, ⟨some g9, 25, (wc x4)⟩), (23, ⟨some g23, 89, stkM (S) (a)⟩), (13, ⟨some g13, 58, rowW (S)⟩)]) (fun (q : Nat) => 1024 - q) 0 (Nat.zero_le _) (by repeat (first | exact Sub.nil _ | refine Sub.cons (by first | rfl | (rw [dgs_zero]; rfl) | (rw [List.drop_length]; rfl) | (simp; done) | (congr 2; omega) | (congr 3; omega)) ?_)) (by repeat (first | exact Sub.nil _ | refine Sub.cons (by first | rfl | (rw [dgs_zero]; rfl) | (rw [List.drop_length]; rfl) | (simp; done) | (congr 2; omega) | (congr 3; omega)) ?_)) ?_
        rintro q hq
        refine T.seq ?_
        refine T.seq ?_
        refine T.text [.l, .l] rfl ?_
        refine J.move rfl rfl ?_
        refine J.lss rfl rfl rfl rfl ?_
        refine J.end ?_
        refine X.then ?_
        refine T.cond_dec rfl (fun h4 => ?_) (fun h4 => ?_)
        · skip
          refine T.skip ?_
          refine X.then ?_
          refine T.seq ?_
          refine T.block ?_
          refine T.seq ?_
          refine T.draw [] [(0, .g), (1, .g), (2, .q), (3, .g), (4, .g), (5, .g), (6, .g), (7, .g), (8, .g), (9, .q), (10, .g), (11, .g), (12, .g), (13, .g), (14, .g), (15, .q), (16, .g), (17, .g), (18, .q), (19, .g), (20, .g), (21, .g), (22, .g), (23, .g), (24, .g), (25, .q), (26, .g), (27, .g), (28, .q), (29, .g), (30, .g)] (by kernel_rfl) (by kernel_rfl) ?_ rfl (by repeat (first | exact Sub.nil _ | refine Sub.cons (by first | rfl | (rw [dgs_zero]; rfl) | (rw [List.drop_length]; rfl) | (simp; done) | (congr 2; omega) | (congr 3; omega)) ?_))
          refine J.move rfl rfl ?_
          refine J.move rfl rfl ?_
          refine J.call0 (k := .q) trivial fok33 rfl rfl (fun w hw => Sa.Peek w g23 (S) (a) hS (by omega) (hw.blkCs (k := 23) rfl) _) ?_
          refine J.move rfl rfl ?_
          refine J.add rfl rfl rfl (by exact i64_ok _ (by omega)) ?_
          refine J.move rfl rfl ?_
          refine J.sub' rfl rfl rfl (by exact i64_ok _ (by omega)) ?_
          refine J.rem rfl rfl rfl (by omega) (by exact rem_ok _ _ (by omega)) ?_
          refine J.as 80 (.int .i64 ((ix (a - (q : Int)) : Nat) : Int)) rfl (by congr 1; rw [ix_cast]; omega) ?_
          have hil := ix_lt (a - (q : Int))
          refine J.indexArr arr58 rfl rfl (by omega) (by omega) (by first | exact Int.toNat_natCast _ | rfl) rfl ?_
          refine J.loadW (k := .q) trivial 13 rfl rfl agg25 (by first | rfl | with_reducible exact rowW_seg0 _ _ _ (by omega) | with_reducible exact rowW_seg00 _ _ (by omega) | with_reducible exact rowW_segs _ _ _ (by omega) | with_reducible exact rowW_seg _ _ (by omega) | with_reducible exact rowW_segb _ _ _ (by omega) | exact rowW_seg _ _ (by omega) | exact rowW_segs _ _ _ (by omega)) rfl ?_
          refine J.neqW eqw25 rfl rfl rfl ?_
          refine J.as 83 (.bool false) rfl (by rw [decide_eq_false (fun h => h (by rfl))]) ?_
          refine J.move rfl rfl ?_
          refine J.yes rfl rfl ?_
          refine J.move rfl rfl ?_
          refine J.yes rfl rfl ?_
          refine J.move rfl rfl ?_
          refine J.yes rfl rfl ?_
          refine J.add rfl rfl rfl (by first | exact add_nat _ 1024 (by omega) | exact i64_ok _ (by omega) | exact rfl) ?_
          refine J.yes rfl rfl ?_
          refine J.call0 (k := .q) trivial fok33 rfl rfl (fun w hw => Sa.Peek w g23 (S) (a) hS (by omega) (hw.blkCs (k := 23) rfl) _) ?_
          refine J.as 88 (W (S.getD (ix (a - (q : Int))) 0)) rfl (by rw [ix_eq (a := a - _) (b := a - (q : Int)) (by omega)]) ?_
          refine J.yes rfl rfl ?_
          refine J.move rfl rfl ?_
          refine J.yes rfl rfl ?_
          refine J.move rfl rfl ?_
          refine J.yes rfl rfl ?_
          refine J.call0 (k := .q) trivial fok33 rfl rfl (fun w hw => Sa.Peek w g23 (S) (a) hS (by omega) (hw.blkCs (k := 23) rfl) _) ?_
          refine J.yes rfl rfl ?_
          refine J.neqW eqw25 rfl rfl rfl ?_
          refine J.as 92 (.bool false) rfl (by rw [decide_eq_false (fun h => h (by rfl))]) ?_
          refine J.pick_f rfl rfl rfl ?_
          refine J.move rfl rfl ?_
          refine J.yes rfl rfl ?_
          refine J.move rfl rfl ?_
          refine J.yes rfl rfl ?_
          refine J.move rfl rfl ?_
          refine J.yes rfl rfl ?_
          refine J.sub' rfl rfl rfl (by exact i64_ok _ (by omega)) ?_
          refine J.yes rfl rfl ?_
          refine J.call0 (k := .q) trivial fok33 rfl rfl (fun w hw => Sa.Peek w g23 (S) (a) hS (by omega) (hw.blkCs (k := 23) rfl) _) ?_
          refine J.as 98 (W (S.getD (ix (a - (q : Int))) 0)) rfl (by rw [ix_eq (a := a - _) (b := a - (q : Int)) (by omega)]) ?_
          refine J.yes rfl rfl ?_
          refine J.move rfl rfl ?_
          refine J.yes rfl rfl ?_
          refine J.move rfl rfl ?_
          refine J.yes rfl rfl ?_
          refine J.call0 (k := .q) trivial fok33 rfl rfl (fun w hw => Sa.Peek w g23 (S) (a) hS (by omega) (hw.blkCs (k := 23) rfl) _) ?_
          refine J.yes rfl rfl ?_
          refine J.neqW eqw25 rfl rfl rfl ?_
          refine J.as 102 (.bool false) rfl (by rw [decide_eq_false (fun h => h (by rfl))]) ?_
          refine J.pick_f rfl rfl rfl ?_
          refine J.end ?_
          refine X.then ?_
          refine T.cond_false rfl ?_
          refine T.skip ?_
          refine X.inBlock (X.then ?_)
          refine T.text [.l, .l, .l] rfl ?_
          refine J.move rfl rfl ?_
          refine J.add rfl rfl rfl (by first | exact add_nat _ 1 (by omega) | exact i64_ok _ (by omega) | exact rfl) ?_
          refine J.assign rfl rfl ?_
          refine J.end ?_
          exact X.round (q + 1) (by omega) (by first | omega | (dsimp only; omega)) (by repeat (first | exact Sub.nil _ | refine Sub.cons (by first | rfl | (rw [dgs_zero]; rfl) | (rw [List.drop_length]; rfl) | (simp; done) | (congr 2; omega) | (congr 3; omega)) ?_)) (by repeat (first | exact Sub.nil _ | refine Sub.cons (by first | rfl | (rw [dgs_zero]; rfl) | (rw [List.drop_length]; rfl) | (simp; done) | (congr 2; omega) | (congr 3; omega)) ?_))
        · skip
          refine T.exit ?_
          refine X.then_exit (X.then_exit (X.inBlock_eq (X.then ?_)))
          refine T.seq ?_
          refine T.text [.l, .l, .l] rfl ?_
          refine J.move rfl rfl ?_
          refine J.callRowW 105 rfl (t := 25) fok23 rfl rfl (fun w hw => Sa.Words w g23 S a hS (by omega) (hw.blkCs (k := 23) rfl)) (fun zs105 r105 hz105 hr105 => ?_)
          have hwl : zs105.length = (min (max a 0) 1024).toNat := by rw [hz105, wordsS_length]
          refine J.assign rfl rfl ?_
          refine J.end ?_
          refine X.then ?_
          refine T.seq ?_
          refine T.text [.l, .l, .l, .l] rfl ?_
          refine J.move rfl rfl ?_
          refine J.max2 rfl rfl rfl rfl ?_
          refine J.min2 rfl rfl rfl rfl ?_
          have hcc : (((min (max a 0) 1024).toNat : Nat) : Int) = min (max a 0) 1024 := by omega
          refine J.as 108 (.int .i64 (((min (max a 0) 1024).toNat : Nat) : Int)) rfl (by congr 1; split <;> split <;> omega) ?_
          refine J.assign rfl rfl ?_
          refine J.end ?_
          refine X.then ?_
          refine T.seq ?_
          refine T.seq ?_
          refine T.text [.l, .l, .l, .l] rfl ?_
          refine J.move rfl rfl ?_
          refine J.lenSl Try.underlying32 rfl rfl ?_
          refine J.move rfl rfl ?_
          refine J.neq rfl rfl rfl (decide_eq_false (fun h => h (by rw [hz105, wordsS_length]))) ?_
          refine J.end ?_
          refine X.then ?_
          refine T.cond_false rfl ?_
          refine T.skip ?_
          refine X.then ?_
          refine T.seq ?_
          refine T.seq ?_
          refine T.text [.l] rfl ?_
          refine J.assign rfl rfl ?_
          refine J.end ?_
          refine X.then ?_
          refine T.block ?_
          refine T.loop (ι := Nat) (fun (u : Nat) => u ≤ (min (max a 0) 1024).toNat) (fun (u : Nat) => [(0, .slice A0 xs0.length c0), (1, .int .i64 (d : Int)), (2, .int .i64 n), (3, .int .i64 m), (4, W x4), (9, .pointer (some ⟨g9, 0, none⟩)), (11, .pointer (some ⟨g23, 0, none⟩)), (12, .int .i64 (d : Int)), (13, .pointer (some ⟨g13, 0, none⟩)), (14, .int .i64 a), (15, .int .i64 (i : Int)), (16, .int .i64 (q : Int)), (17, r105.val zs105.length), (18, .int .i64 (((min (max a 0) 1024).toNat : Nat) : Int)), (19, .int .i64 (u : Int))]) (fun (u : Nat) => [(9, ⟨some g9, 25, (wc x4)⟩), (23, ⟨some g23, 89, stkM (S) (a)⟩), (13, ⟨some g13, 58, rowW (S)⟩), (105, r105.ent 25 (rowW zs105))]) (fun (u : Nat) => (min (max a 0) 1024).toNat - u) 0 (Nat.zero_le _) (by repeat (first | exact Sub.nil _ | refine Sub.cons (by first | rfl | (rw [dgs_zero]; rfl) | (rw [List.drop_length]; rfl) | (simp; done) | (congr 2; omega) | (congr 3; omega)) ?_)) (by repeat (first | exact Sub.nil _ | refine Sub.cons (by first | rfl | (rw [dgs_zero]; rfl) | (rw [List.drop_length]; rfl) | (simp; done) | (congr 2; omega) | (congr 3; omega)) ?_)) ?_
          rintro u hu
          refine T.seq ?_
          refine T.seq ?_
          refine T.text [.l, .l, .l] rfl ?_
          refine J.move rfl rfl ?_
          refine J.move rfl rfl ?_
          refine J.lss rfl rfl rfl rfl ?_
          refine J.end ?_
          refine X.then ?_
          refine T.cond_dec rfl (fun h5 => ?_) (fun h5 => ?_)
          · skip
            refine T.skip ?_
            refine X.then ?_
            refine T.seq ?_
            refine T.block ?_
            refine T.seq ?_
            refine T.draw [] [(0, .g), (1, .g), (2, .g), (3, .g), (4, .g), (5, .g), (6, .q), (7, .g), (8, .g), (9, .g), (10, .q), (11, .g)] (by kernel_rfl) (by kernel_rfl) ?_ rfl (by repeat (first | exact Sub.nil _ | refine Sub.cons (by first | rfl | (rw [dgs_zero]; rfl) | (rw [List.drop_length]; rfl) | (simp; done) | (congr 2; omega) | (congr 3; omega)) ?_))
            refine J.move rfl rfl ?_
            refine J.move rfl rfl ?_
            refine J.sub' rfl rfl rfl (by exact i64_ok _ (by omega)) ?_
            refine J.move rfl rfl ?_
            refine J.sub' rfl rfl rfl (by exact i64_ok _ (by omega)) ?_
            refine J.as 122 (.int .i64 (((min (max a 0) 1024).toNat - 1 - u : Nat) : Int)) rfl (by congr 1; omega) ?_
            refine J.indexRow sl32 rfl (hr105.some (by omega)) rfl (by omega) (by omega) (by first | exact Int.toNat_natCast _ | rfl) rfl ?_
            refine J.loadW (k := .q) trivial 105 rfl rfl agg25 (by first | rfl | with_reducible exact rowW_seg0 _ _ _ (by omega) | with_reducible exact rowW_seg00 _ _ (by omega) | with_reducible exact rowW_segs _ _ _ (by omega) | with_reducible exact rowW_seg _ _ (by omega) | with_reducible exact rowW_segb _ _ _ (by omega) | exact rowW_seg _ _ (by omega) | exact rowW_segs _ _ _ (by omega)) rfl ?_
            refine J.as 124 (W (S.getD (ix (a - ((u : Int) + 1))) 0)) rfl (by rw [hz105, ring_words (by omega)]) ?_
            refine J.move rfl rfl ?_
            refine J.move rfl rfl ?_
            refine J.add rfl rfl rfl (by first | exact add_nat _ 1 (by omega) | exact i64_ok _ (by omega) | exact rfl) ?_
            refine J.call0 (k := .q) trivial fok33 rfl rfl (fun w hw => Sa.Peek w g23 (S) (a) hS (by omega) (hw.blkCs (k := 23) rfl) _) ?_
            refine J.neqW eqw25 rfl rfl rfl ?_
            refine J.as 129 (.bool false) rfl (by rw [decide_eq_false (fun h => h (by rfl))]) ?_
            refine J.end ?_
            refine X.then ?_
            refine T.cond_false rfl ?_
            refine T.skip ?_
            refine X.inBlock (X.then ?_)
            refine T.text [.l, .l, .l] rfl ?_
            refine J.move rfl rfl ?_
            refine J.add rfl rfl rfl (by first | exact add_nat _ 1 (by omega) | exact i64_ok _ (by omega) | exact rfl) ?_
            refine J.assign rfl rfl ?_
            refine J.end ?_
            exact X.round (u + 1) (by omega) (by first | omega | (dsimp only; omega)) (by repeat (first | exact Sub.nil _ | refine Sub.cons (by first | rfl | (rw [dgs_zero]; rfl) | (rw [List.drop_length]; rfl) | (simp; done) | (congr 2; omega) | (congr 3; omega)) ?_)) (by repeat (first | exact Sub.nil _ | refine Sub.cons (by first | rfl | (rw [dgs_zero]; rfl) | (rw [List.drop_length]; rfl) | (simp; done) | (congr 2; omega) | (congr 3; omega)) ?_))
          · skip
            refine T.exit ?_
            refine X.then_exit (X.then_exit (X.inBlock_eq (X.then ?_)))
            refine T.seq ?_
            refine T.text [.l, .l, .l, .l, .l] rfl ?_
            refine J.move rfl rfl ?_
            refine J.move rfl rfl ?_
            refine J.call0 (k := .l) trivial fok33 rfl rfl (fun w hw => Sa.Peek w g23 (S) (a) hS (by omega) (hw.blkCs (k := 23) rfl) _) ?_
            refine J.alloc 20 rfl zero25 [.int .u64 0, .int .u64 0, .int .u64 0, .int .u64 0] rfl rfl (fun g20 hg20 => ?_)
            refine J.store 20 rfl rfl rfl rfl (wc (S.getD (ix (a - n)) 0)) rfl sz25 (by first | decide | exact Nat.le_refl _ | exact Nat.le_of_ble_eq_true rfl | (simp [rowN]; done) | (simp [rowN]; omega)) (by first | exact rowN_one _ _ | (simp; done) | (intro u hu; simp at hu; subst hu; rfl) | (intro u hu; simp at hu; rcases hu with rfl | rfl <;> rfl)) (by first | decide | exact Nat.zero_lt_succ _ | simp) trivial (wc (S.getD (ix (a - n)) 0)) rfl ?_
            refine J.end ?_
            refine X.then ?_
            refine T.seq ?_
            refine T.text [.l, .l, .l, .l, .l] rfl ?_
            refine J.move rfl rfl ?_
            refine J.move rfl rfl ?_
            refine J.call0 (k := .l) trivial fok33 rfl rfl (fun w hw => Sa.Peek w g23 (S) (a) hS (by omega) (hw.blkCs (k := 23) rfl) _) ?_
            refine J.alloc 21 rfl zero25 [.int .u64 0, .int .u64 0, .int .u64 0, .int .u64 0] rfl rfl (fun g21 hg21 => ?_)
            refine J.store 21 rfl rfl rfl rfl (wc (S.getD (ix (a - m)) 0)) rfl sz25 (by first | decide | exact Nat.le_refl _ | exact Nat.le_of_ble_eq_true rfl | (simp [rowN]; done) | (simp [rowN]; omega)) (by first | exact rowN_one _ _ | (simp; done) | (intro u hu; simp at hu; subst hu; rfl) | (intro u hu; simp at hu; rcases hu with rfl | rfl <;> rfl)) (by first | decide | exact Nat.zero_lt_succ _ | simp) trivial (wc (S.getD (ix (a - m)) 0)) rfl ?_
            refine J.end ?_
            refine X.then ?_
            refine T.seq ?_
            refine T.text [.l, .l, .l, .l] rfl ?_
            refine J.move rfl rfl ?_
            refine J.move rfl rfl ?_
            refine J.move rfl rfl ?_
            refine J.callMut 23 rfl rfl fok28 rfl rfl (fun w hw => Sa.Turn w g23 S a hS (by omega) (hw.live 23 _ rfl) n m) ?_
            refine J.end ?_
            refine X.then ?_
            refine T.seq ?_
            refine T.seq ?_
            refine T.draw [] [(0, .g), (1, .g), (2, .q), (3, .q), (4, .g), (5, .g), (6, .g), (7, .g), (8, .q), (9, .q), (10, .g), (11, .g), (12, .g), (13, .g), (14, .q), (15, .g), (16, .g), (17, .g)] (by kernel_rfl) (by kernel_rfl) ?_ rfl (by repeat (first | exact Sub.nil _ | refine Sub.cons (by first | rfl | (rw [dgs_zero]; rfl) | (rw [List.drop_length]; rfl) | (simp; done) | (congr 2; omega) | (congr 3; omega)) ?_))
            refine J.move rfl rfl ?_
            refine J.move rfl rfl ?_
            refine J.call0 (k := .q) trivial fok33 rfl rfl (fun w hw => Sa.Peek w g23 (swp S (ix (a - n)) (ix (a - m))) (a) (by rw [swp_length]; exact hS) (by omega) (hw.blkCs (k := 23) rfl) _) ?_
            refine J.as 142 (W (S.getD (ix (a - m)) 0)) rfl (by rw [swp_i (by rw [hS]; exact ix_lt _) (by rw [hS]; exact ix_lt _)]) ?_
            refine J.loadN (k := .q) trivial 21 rfl rfl agg25 (wc (S.getD (ix (a - m)) 0)) rfl rfl rfl ?_
            refine J.neqW eqw25 rfl rfl rfl ?_
            refine J.as 144 (.bool false) rfl (by rw [decide_eq_false (fun h => h (by rfl))]) ?_
            refine J.move rfl rfl ?_
            refine J.yes rfl rfl ?_
            refine J.move rfl rfl ?_
            refine J.yes rfl rfl ?_
            refine J.move rfl rfl ?_
            refine J.yes rfl rfl ?_
            refine J.call0 (k := .q) trivial fok33 rfl rfl (fun w hw => Sa.Peek w g23 (swp S (ix (a - n)) (ix (a - m))) (a) (by rw [swp_length]; exact hS) (by omega) (hw.blkCs (k := 23) rfl) _) ?_
            refine J.as 148 (W (S.getD (ix (a - n)) 0)) rfl (by rw [swp_j (by rw [hS]; exact ix_lt _)]) ?_
            refine J.yes rfl rfl ?_
            refine J.loadN (k := .q) trivial 20 rfl rfl agg25 (wc (S.getD (ix (a - n)) 0)) rfl rfl rfl ?_
            refine J.yes rfl rfl ?_
            refine J.neqW eqw25 rfl rfl rfl ?_
            refine J.as 150 (.bool false) rfl (by rw [decide_eq_false (fun h => h (by rfl))]) ?_
            refine J.pick_f rfl rfl rfl ?_
            refine J.move rfl rfl ?_
            refine J.yes rfl rfl ?_
            refine J.move rfl rfl ?_
            refine J.yes rfl rfl ?_
            refine J.call0 (k := .q) trivial fok20 rfl rfl (fun w hw => Sa.Len w g23 (swp S (ix (a - n)) (ix (a - m))) (a) (by rw [swp_length]; exact hS) (by omega) (hw.blkCs (k := 23) rfl)) ?_
            refine J.yes rfl rfl ?_
            refine J.move rfl rfl ?_
            refine J.yes rfl rfl ?_
            refine J.neq rfl rfl rfl (decide_eq_false (fun h => h (by rfl))) ?_
            refine J.pick_f rfl rfl rfl ?_
            refine J.end ?_
            refine X.then ?_
            refine T.cond_false rfl ?_
            refine T.skip ?_
            refine X.then ?_
            refine T.seq ?_
            refine T.text [.l, .l, .l, .l] rfl ?_
            refine J.move rfl rfl ?_
            refine J.move rfl rfl ?_
            refine J.move rfl rfl ?_
            refine J.callMut 23 rfl rfl fok28 rfl rfl (fun w hw => Sa.Turn w g23 (swp S (ix (a - n)) (ix (a - m))) a (by rw [swp_length]; exact hS) (by omega) (hw.live 23 _ rfl) m n) ?_
            rw [swp_back (by rw [hS]; exact ix_lt _) (by rw [hS]; exact ix_lt _)]
            refine J.end ?_
            refine X.then ?_
            refine T.seq ?_
            refine T.text [.l, .l, .l] rfl ?_
            refine J.move rfl rfl ?_
            refine J.move rfl rfl ?_
            refine J.callMut 23 rfl rfl fok34 rfl rfl (fun w hw => Sa.Again w g23 S a hS (by omega) (hw.live 23 _ rfl) n) ?_
            refine J.end ?_
            refine X.then ?_
            refine T.seq ?_
            refine T.seq ?_
            refine T.draw [(20, ⟨some g20, 25, (wc (S.getD (ix (a - n)) 0))⟩)] [(0, .g), (2, .s), (1, .l), (3, .g), (4, .g), (5, .g), (6, .q), (7, .g), (8, .g), (9, .g)] (by kernel_rfl) (by kernel_rfl) ?_ rfl (by repeat (first | exact Sub.nil _ | refine Sub.cons (by first | rfl | (rw [dgs_zero]; rfl) | (rw [List.drop_length]; rfl) | (simp; done) | (congr 2; omega) | (congr 3; omega)) ?_))
            refine J.move rfl rfl ?_
            refine J.loadNs 20 rfl rfl agg25 (wc (S.getD (ix (a - n)) 0)) rfl rfl rfl ?_
            refine J.callMut 23 rfl rfl fok32 rfl rfl (fun w hw => Sa.Take w g23 (S.set (ix a) (S.getD (ix (a - n)) 0)) (a + 1) (by rw [List.length_set]; exact hS) (by omega) (hw.live 23 _ rfl)) ?_
            refine J.as 166 (W (S.getD (ix (a - n)) 0)) rfl (by rw [Int.add_sub_cancel, getD_set _ _ _ _ (by rw [hS]; exact ix_lt _), if_pos rfl]) ?_
            rw [Int.add_sub_cancel]
            refine J.neqW eqw25 rfl rfl rfl ?_
            refine J.as 168 (.bool false) rfl (by rw [decide_eq_false (fun h => h (by rfl))]) ?_
            refine J.move rfl rfl ?_
            refine J.yes rfl rfl ?_
            refine J.move rfl rfl ?_
            refine J.yes rfl rfl ?_
            refine J.call0 (k := .q) trivial fok20 rfl rfl (fun w hw => Sa.Len w g23 (S.set (ix a) (S.getD (ix (a - n)) 0)) (a) (by rw [List.length_set]; exact hS) (by omega) (hw.blkCs (k := 23) rfl)) ?_
            refine J.yes rfl rfl ?_
            refine J.move rfl rfl ?_
            refine J.yes rfl rfl ?_
            refine J.neq rfl rfl rfl (decide_eq_false (fun h => h (by rfl))) ?_
            refine J.pick_f rfl rfl rfl ?_
            refine J.end ?_
            refine X.then ?_
            refine T.cond_false rfl ?_
            refine T.skip ?_
            refine X.then ?_
            refine T.seq ?_
            refine T.text [.l, .l, .l] rfl ?_
            refine J.move rfl rfl ?_
            refine J.loadN (k := .l) trivial 9 rfl rfl agg25 (wc x4) rfl rfl rfl ?_
            refine J.callMut 23 rfl rfl fok31 rfl rfl (fun w hw => Sa.Put w g23 (S.set (ix a) (S.getD (ix (a - n)) 0)) a (by rw [List.length_set]; exact hS) (by omega) (hw.live 23 _ rfl) x4) ?_
            refine J.end ?_
            refine X.then ?_
            refine T.seq ?_
            refine T.seq ?_
            refine T.draw [(9, ⟨some g9, 25, (wc x4)⟩)] [(0, .g), (2, .s), (1, .l), (3, .g), (4, .g), (5, .g), (6, .q), (7, .g), (8, .g), (9, .g), (10, .g), (11, .g), (12, .q), (13, .g), (14, .g), (15, .g), (16, .g), (17, .q), (18, .g), (19, .g)] (by kernel_rfl) (by kernel_rfl) ?_ rfl (by repeat (first | exact Sub.nil _ | refine Sub.cons (by first | rfl | (rw [dgs_zero]; rfl) | (rw [List.drop_length]; rfl) | (simp; done) | (congr 2; omega) | (congr 3; omega)) ?_))
            refine J.move rfl rfl ?_
            refine J.loadNs 9 rfl rfl agg25 (wc x4) rfl rfl rfl ?_
            refine J.callMut 23 rfl rfl fok32 rfl rfl (fun w hw => Sa.Take w g23 ((S.set (ix a) (S.getD (ix (a - n)) 0)).set (ix a) x4) (a + 1) (by rw [List.length_set, List.length_set]; exact hS) (by omega) (hw.live 23 _ rfl)) ?_
            refine J.as 179 (W x4) rfl (by rw [Int.add_sub_cancel, getD_set _ _ _ _ (by rw [List.length_set, hS]; exact ix_lt _), if_pos rfl]) ?_
            rw [Int.add_sub_cancel]
            refine J.neqW eqw25 rfl rfl rfl ?_
            refine J.as 181 (.bool false) rfl (by rw [decide_eq_false (fun h => h (by rfl))]) ?_
            refine J.move rfl rfl ?_
            refine J.yes rfl rfl ?_
            refine J.move rfl rfl ?_
            refine J.yes rfl rfl ?_
            refine J.call0 (k := .q) trivial fok20 rfl rfl (fun w hw => Sa.Len w g23 ((S.set (ix a) (S.getD (ix (a - n)) 0)).set (ix a) x4) (a) (by rw [List.length_set, List.length_set]; exact hS) (by omega) (hw.blkCs (k := 23) rfl)) ?_
            refine J.yes rfl rfl ?_
            refine J.move rfl rfl ?_
            refine J.yes rfl rfl ?_
            refine J.neq rfl rfl rfl (decide_eq_false (fun h => h (by rfl))) ?_
            refine J.pick_f rfl rfl rfl ?_
            refine J.move rfl rfl ?_
            refine J.yes rfl rfl ?_
            refine J.move rfl rfl ?_
            refine J.yes rfl rfl ?_
            refine J.call0 (k := .q) trivial fok33 rfl rfl (fun w hw => Sa.Peek w g23 ((S.set (ix a) (S.getD (ix (a - n)) 0)).set (ix a) x4) a (by rw [List.length_set, List.length_set]; exact hS) (by omega) (hw.blkCs (k := 23) rfl) 1) ?_
            refine J.as 190 (W (S.getD (ix (a - 1)) 0)) rfl (by rw [getD_set _ _ _ _ (by rw [List.length_set, hS]; exact ix_lt _), if_neg (by unfold ix; omega), getD_set _ _ _ _ (by rw [hS]; exact ix_lt _), if_neg (by unfold ix; omega)]) ?_
            refine J.yes rfl rfl ?_
            refine J.move rfl rfl ?_
            refine J.yes rfl rfl ?_
            refine J.add rfl rfl rfl (by exact i64_ok _ (by omega)) ?_
            refine J.yes rfl rfl ?_
            refine J.rem rfl rfl rfl (by omega) (by exact rem_ok _ _ (by omega)) ?_
            refine J.as 193 (.int .i64 ((ix (a - 1) : Nat) : Int)) rfl (by congr 1; rw [ix_cast]; omega) ?_
            have hil := ix_lt (a - 1)
            refine J.yes rfl rfl ?_
            refine J.indexArr arr58 rfl rfl (by omega) (by omega) (by first | exact Int.toNat_natCast _ | rfl) rfl ?_
            refine J.yes rfl rfl ?_
            refine J.loadW (k := .q) trivial 13 rfl rfl agg25 (by first | rfl | with_reducible exact rowW_seg0 _ _ _ (by omega) | with_reducible exact rowW_seg00 _ _ (by omega) | with_reducible exact rowW_segs _ _ _ (by omega) | with_reducible exact rowW_seg _ _ (by omega) | with_reducible exact rowW_segb _ _ _ (by omega) | exact rowW_seg _ _ (by omega) | exact rowW_segs _ _ _ (by omega)) rfl ?_
            refine J.yes rfl rfl ?_
            refine J.neqW eqw25 rfl rfl rfl ?_
            refine J.as 196 (.bool false) rfl (by rw [decide_eq_false (fun h => h (by rfl))]) ?_
            refine J.pick_f rfl rfl rfl ?_
            refine J.end ?_
            refine X.then ?_
            refine T.cond_false rfl ?_
            refine T.skip ?_
            refine X.then ?_
            refine T.seq ?_
            refine T.text [.l, .l, .l, .l] rfl ?_
            refine J.move rfl rfl ?_
            refine J.loadN (k := .l) trivial 9 rfl rfl agg25 (wc x4) rfl rfl rfl ?_
            refine J.callMut 23 rfl rfl fok19 rfl rfl (fun w hw => Sa.Push w g23 ((S.set (ix a) (S.getD (ix (a - n)) 0)).set (ix a) x4) a (by rw [List.length_set, List.length_set]; exact hS) (by omega) (hw.live 23 _ rfl) x4) ?_
            have hP := pushE_iff a
            have hP2 := pushE_or a
            refine J.assign rfl rfl ?_
            refine J.end ?_
            refine X.then ?_
            refine T.seq ?_
            refine T.text [.l, .l, .l, .l, .l, .l, .l, .l, .l, .l, .l, .l, .l, .l, .l, .l, .l] rfl ?_
            refine J.move rfl rfl ?_
            refine J.eql rfl rfl rfl rfl ?_
            refine J.move rfl rfl ?_
            refine J.lss rfl rfl rfl rfl ?_
            refine J.eqB Try.underlying4 rfl rfl rfl (show _ = true by rw [show decide (((pushE a : Nat) : Int) = 0) = decide (a < 1024) from decide_eq_decide.2 hP]; exact beq_self_eq_true _) ?_
            refine J.move rfl rfl ?_
            refine J.yes rfl rfl ?_
            refine J.move rfl rfl ?_
            refine J.yes rfl rfl ?_
            refine J.eql rfl rfl rfl rfl ?_
            refine J.yes rfl rfl ?_
            refine J.move rfl rfl ?_
            refine J.split 209 rfl (fun h6 => ?_) (fun h6 => ?_)
            · skip
              refine J.no rfl rfl rfl rfl ?_
              refine J.no rfl rfl rfl rfl ?_
              refine J.yes rfl rfl ?_
              refine J.pick_t rfl rfl rfl ?_
              refine J.pick_t rfl rfl rfl ?_
              refine J.move rfl rfl ?_
              refine J.yes rfl rfl ?_
              refine J.call0 (k := .l) trivial fok25 rfl rfl (fun w hw => Aw.awake w) ?_
              refine J.pick_t rfl rfl rfl ?_
              refine J.assign rfl rfl ?_
              refine J.end ?_
              refine X.then ?_
              refine T.ret ?_
              exact X.ret1 rfl (RV.tmp rfl) (fun w' hw' => ⟨rfl, hw'.sub (Sub.nil _)⟩)
            · skip
              refine J.yes rfl rfl ?_
              refine J.move rfl rfl ?_
              refine J.yes rfl rfl ?_
              refine J.eql rfl rfl rfl (decide_eq_true (by omega)) ?_
              refine J.yes rfl rfl ?_
              refine J.pick_f rfl rfl rfl ?_
              refine J.pick_t rfl rfl rfl ?_
              refine J.move rfl rfl ?_
              refine J.yes rfl rfl ?_
              refine J.call0 (k := .l) trivial fok25 rfl rfl (fun w hw => Aw.awake w) ?_
              refine J.pick_t rfl rfl rfl ?_
              refine J.assign rfl rfl ?_
              refine J.end ?_
              refine X.then ?_
              refine T.ret ?_
              exact X.ret1 rfl (RV.tmp rfl) (fun w' hw' => ⟨rfl, hw'.sub (Sub.nil _)⟩)
    · skip
      refine J.no rfl rfl rfl rfl ?_
      refine J.no rfl rfl rfl rfl ?_
      refine J.pick_f rfl rfl rfl ?_
      refine J.end ?_
      refine X.then ?_
      refine T.cond_false rfl ?_
      refine T.exit ?_
      refine X.then_exit (X.then_exit (X.inBlock_eq (X.then ?_)))
      refine T.seq ?_
      refine T.seq ?_
      refine T.text [.l, .l, .l, .l] rfl ?_
      obtain ⟨a, ha⟩ : ∃ a : Int, (i : Int) - (d : Int) = a := ⟨_, rfl⟩
      rw [ha]
      refine J.move rfl rfl ?_
      refine J.call0 (k := .l) trivial fok20 rfl rfl (fun w hw => Sa.Len w g23 (S) (a) hS (by omega) (hw.blkCs (k := 23) rfl)) ?_
      refine J.move rfl rfl ?_
      refine J.neq rfl rfl rfl (decide_eq_false (fun h => h (by rfl))) ?_
      refine J.end ?_
      refine X.then ?_
      refine T.cond_false rfl ?_
      refine T.skip ?_
      refine X.then ?_
      refine T.seq ?_
      refine T.seq ?_
      refine T.text [.l] rfl ?_
      refine J.assign rfl rfl ?_
      refine J.end ?_
      refine X.then ?_
      refine T.block ?_
      refine T.loop (ι := Nat) (fun (q : Nat) => q ≤ 1024) (fun (q : Nat) => [(0, .slice A0 xs0.length c0), (1, .int .i64 (d : Int)), (2, .int .i64 n), (3, .int .i64 m), (4, W x4), (9, .pointer (some ⟨g9, 0, none⟩)), (11, .pointer (some ⟨g23, 0, none⟩)), (12, .int .i64 (d : Int)), (13, .pointer (some ⟨g13, 0, none⟩)), (14, .int .i64 a), (15, .int .i64 (i : Int)), (16, .int .i64 (q : Int))]) (fun (q : Nat) => [(9, ⟨some g9, 25, (wc x4)⟩), (23, ⟨some g23, 89, stkM (S) (a)⟩), (13, ⟨some g13, 58, rowW (S)⟩)]) (fun (q : Nat) => 1024 - q) 0 (Nat.zero_le _) (by repeat (first | exact Sub.nil _ | refine Sub.cons (by first | rfl | (rw [dgs_zero]; rfl) | (rw [List.drop_length]; rfl) | (simp; done) | (congr 2; omega) | (congr 3; omega)) ?_)) (by repeat (first | exact Sub.nil _ | refine Sub.cons (by first | rfl | (rw [dgs_zero]; rfl) | (rw [List.drop_length]; rfl) | (simp; done) | (congr 2; omega) | (congr 3; omega)) ?_)) ?_
      rintro q hq
      refine T.seq ?_
      refine T.seq ?_
      refine T.text [.l, .l] rfl ?_
      refine J.move rfl rfl ?_
      refine J.lss rfl rfl rfl rfl ?_
      refine J.end ?_
      refine X.then ?_
      refine T.cond_dec rfl (fun h7 => ?_) (fun h7 => ?_)
      · skip
        refine T.skip ?_
        refine X.then ?_
        refine T.seq ?_
        refine T.block ?_
        refine T.seq ?_
        refine T.draw [] [(0, .g), (1, .g), (2, .q), (3, .g), (4, .g), (5, .g), (6, .g), (7, .g), (8, .g), (9, .q), (10, .g), (11, .g), (12, .g), (13, .g), (14, .g), (15, .q), (16, .g), (17, .g), (18, .q), (19, .g), (20, .g), (21, .g), (22, .g), (23, .g), (24, .g), (25, .q), (26, .g), (27, .g), (28, .q), (29, .g), (30, .g)] (by kernel_rfl) (by kernel_rfl) ?_ rfl (by repeat (first | exact Sub.nil _ | refine Sub.cons (by first | rfl | (rw [dgs_zero]; rfl) | (rw [List.drop_length]; rfl) | (simp; done) | (congr 2; omega) | (congr 3; omega)) ?_))
        refine J.move rfl rfl ?_
        refine J.move rfl rfl ?_
        refine J.call0 (k := .q) trivial fok33 rfl rfl (fun w hw => Sa.Peek w g23 (S) (a) hS (by omega) (hw.blkCs (k := 23) rfl) _) ?_
        refine J.move rfl rfl ?_
        refine J.add rfl rfl rfl (by exact i64_ok _ (by omega)) ?_
        refine J.move rfl rfl ?_
        refine J.sub' rfl rfl rfl (by exact i64_ok _ (by omega)) ?_
        refine J.rem rfl rfl rfl (by omega) (by exact rem_ok _ _ (by omega)) ?_
        refine J.as 80 (.int .i64 ((ix (a - (q : Int)) : Nat) : Int)) rfl (by congr 1; rw [ix_cast]; omega) ?_
        have hil := ix_lt (a - (q : Int))
        refine J.indexArr arr58 rfl rfl (by omega) (by omega) (by first | exact Int.toNat_natCast _ | rfl) rfl ?_
        refine J.loadW (k := .q) trivial 13 rfl rfl agg25 (by first | rfl | with_reducible exact rowW_seg0 _ _ _ (by omega) | with_reducible exact rowW_seg00 _ _ (by omega) | with_reducible exact rowW_segs _ _ _ (by omega) | with_reducible exact rowW_seg _ _ (by omega) | with_reducible exact rowW_segb _ _ _ (by omega) | exact rowW_seg _ _ (by omega) | exact rowW_segs _ _ _ (by omega)) rfl ?_
        refine J.neqW eqw25 rfl rfl rfl ?_
        refine J.as 83 (.bool false) rfl (by rw [decide_eq_false (fun h => h (by rfl))]) ?_
        refine J.move rfl rfl ?_
        refine J.yes rfl rfl ?_
        refine J.move rfl rfl ?_
        refine J.yes rfl rfl ?_
        refine J.move rfl rfl ?_
        refine J.yes rfl rfl ?_
        refine J.add rfl rfl rfl (by first | exact add_nat _ 1024 (by omega) | exact i64_ok _ (by omega) | exact rfl) ?_
        refine J.yes rfl rfl ?_
        refine J.call0 (k := .q) trivial fok33 rfl rfl (fun w hw => Sa.Peek w g23 (S) (a) hS (by omega) (hw.blkCs (k := 23) rfl) _) ?_
        refine J.as 88 (W (S.getD (ix (a - (q : Int))) 0)) rfl (by rw [ix_eq (a := a - _) (b := a - (q : Int)) (by omega)]) ?_
        refine J.yes rfl rfl ?_
        refine J.move rfl rfl ?_
        refine J.yes rfl rfl ?_
        refine J.move rfl rfl ?_
        refine J.yes rfl rfl ?_
        refine J.call0 (k := .q) trivial fok33 rfl rfl (fun w hw => Sa.Peek w g23 (S) (a) hS (by omega) (hw.blkCs (k := 23) rfl) _) ?_
        refine J.yes rfl rfl ?_
        refine J.neqW eqw25 rfl rfl rfl ?_
        refine J.as 92 (.bool false) rfl (by rw [decide_eq_false (fun h => h (by rfl))]) ?_
        refine J.pick_f rfl rfl rfl ?_
        refine J.move rfl rfl ?_
        refine J.yes rfl rfl ?_
        refine J.move rfl rfl ?_
        refine J.yes rfl rfl ?_
        refine J.move rfl rfl ?_
        refine J.yes rfl rfl ?_
        refine J.sub' rfl rfl rfl (by exact i64_ok _ (by omega)) ?_
        refine J.yes rfl rfl ?_
        refine J.call0 (k := .q) trivial fok33 rfl rfl (fun w hw => Sa.Peek w g23 (S) (a) hS (by omega) (hw.blkCs (k := 23) rfl) _) ?_
        refine J.as 98 (W (S.getD (ix (a - (q : Int))) 0)) rfl (by rw [ix_eq (a := a - _) (b := a - (q : Int)) (by omega)]) ?_
        refine J.yes rfl rfl ?_
        refine J.move rfl rfl ?_
        refine J.yes rfl rfl ?_
        refine J.move rfl rfl ?_
        refine J.yes rfl rfl ?_
        refine J.call0 (k := .q) trivial fok33 rfl rfl (fun w hw => Sa.Peek w g23 (S) (a) hS (by omega) (hw.blkCs (k := 23) rfl) _) ?_
        refine J.yes rfl rfl ?_
        refine J.neqW eqw25 rfl rfl rfl ?_
        refine J.as 102 (.bool false) rfl (by rw [decide_eq_false (fun h => h (by rfl))]) ?_
        refine J.pick_f rfl rfl rfl ?_
        refine J.end ?_
        refine X.then ?_
        refine T.cond_false rfl ?_
        refine T.skip ?_
        refine X.inBlock (X.then ?_)
        refine T.text [.l, .l, .l] rfl ?_
        refine J.move rfl rfl ?_
        refine J.add rfl rfl rfl (by first | exact add_nat _ 1 (by omega) | exact i64_ok _ (by omega) | exact rfl) ?_
        refine J.assign rfl rfl ?_
        refine J.end ?_
        exact X.round (q + 1) (by omega) (by first | omega | (dsimp only; omega)) (by repeat (first | exact Sub.nil _ | refine Sub.cons (by first | rfl | (rw [dgs_zero]; rfl) | (rw [List.drop_length]; rfl) | (simp; done) | (congr 2; omega) | (congr 3; omega)) ?_)) (by repeat (first | exact Sub.nil _ | refine Sub.cons (by first | rfl | (rw [dgs_zero]; rfl) | (rw [List.drop_length]; rfl) | (simp; done) | (congr 2; omega) | (congr 3; omega)) ?_))
      · skip
        refine T.exit ?_
        refine X.then_exit (X.then_exit (X.inBlock_eq (X.then ?_)))
        refine T.seq ?_
        refine T.text [.l, .l, .l] rfl ?_
        refine J.move rfl rfl ?_
        refine J.callRowW 105 rfl (t := 25) fok23 rfl rfl (fun w hw => Sa.Words w g23 S a hS (by omega) (hw.blkCs (k := 23) rfl)) (fun zs105 r105 hz105 hr105 => ?_)
        have hwl : zs105.length = (min (max a 0) 1024).toNat := by rw [hz105, wordsS_length]
        refine J.assign rfl rfl ?_
        refine J.end ?_
        refine X.then ?_
        refine T.seq ?_
        refine T.text [.l, .l, .l, .l] rfl ?_
        refine J.move rfl rfl ?_
        refine J.max2 rfl rfl rfl rfl ?_
        refine J.min2 rfl rfl rfl rfl ?_
        have hcc : (((min (max a 0) 1024).toNat : Nat) : Int) = min (max a 0) 1024 := by omega
        refine J.as 108 (.int .i64 (((min (max a 0) 1024).toNat : Nat) : Int)) rfl (by congr 1; split <;> split <;> omega) ?_
        refine J.assign rfl rfl ?_
        refine J.end ?_
        refine X.then ?_
        refine T.seq ?_
        refine T.seq ?_
        refine T.text [.l, .l, .l, .l] rfl ?_
        refine J.move rfl rfl ?_
        refine J.lenSl Try.underlying32 rfl rfl ?_
        refine J.move rfl rfl ?_
        refine J.neq rfl rfl rfl (decide_eq_false (fun h => h (by rw [hz105, wordsS_length]))) ?_
        refine J.end ?_
        refine X.then ?_
        refine T.cond_false rfl ?_
        refine T.skip ?_
        refine X.then ?_
        refine T.seq ?_
        refine T.seq ?_
        refine T.text [.l] rfl ?_
        refine J.assign rfl rfl ?_
        refine J.end ?_
        refine X.then ?_
        refine T.block ?_
        refine T.loop (ι := Nat) (fun (u : Nat) => u ≤ (min (max a 0) 1024).toNat) (fun (u : Nat) => [(0, .slice A0 xs0.length c0), (1, .int .i64 (d : Int)), (2, .int .i64 n), (3, .int .i64 m), (4, W x4), (9, .pointer (some ⟨g9, 0, none⟩)), (11, .pointer (some ⟨g23, 0, none⟩)), (12, .int .i64 (d : Int)), (13, .pointer (some ⟨g13, 0, none⟩)), (14, .int .i64 a), (15, .int .i64 (i : Int)), (16, .int .i64 (q : Int)), (17, r105.val zs105.length), (18, .int .i64 (((min (max a 0) 1024).toNat : Nat) : Int)), (19, .int .i64 (u : Int))]) (fun (u : Nat) => [(9, ⟨some g9, 25, (wc x4)⟩), (23, ⟨some g23, 89, stkM (S) (a)⟩), (13, ⟨some g13, 58, rowW (S)⟩), (105, r105.ent 25 (rowW zs105))]) (fun (u : Nat) => (min (max a 0) 1024).toNat - u) 0 (Nat.zero_le _) (by repeat (first | exact Sub.nil _ | refine Sub.cons (by first | rfl | (rw [dgs_zero]; rfl) | (rw [List.drop_length]; rfl) | (simp; done) | (congr 2; omega) | (congr 3; omega)) ?_)) (by repeat (first | exact Sub.nil _ | refine Sub.cons (by first | rfl | (rw [dgs_zero]; rfl) | (rw [List.drop_length]; rfl) | (simp; done) | (congr 2; omega) | (congr 3; omega)) ?_)) ?_
        rintro u hu
        refine T.seq ?_
        refine T.seq ?_
        refine T.text [.l, .l, .l] rfl ?_
        refine J.move rfl rfl ?_
        refine J.move rfl rfl ?_
        refine J.lss rfl rfl rfl rfl ?_
        refine J.end ?_
        refine X.then ?_
        refine T.cond_dec rfl (fun h8 => ?_) (fun h8 => ?_)
        · skip
          refine T.skip ?_
          refine X.then ?_
          refine T.seq ?_
          refine T.block ?_
          refine T.seq ?_
          refine T.draw [] [(0, .g), (1, .g), (2, .g), (3, .g), (4, .g), (5, .g), (6, .q), (7, .g), (8, .g), (9, .g), (10, .q), (11, .g)] (by kernel_rfl) (by kernel_rfl) ?_ rfl (by repeat (first | exact Sub.nil _ | refine Sub.cons (by first | rfl | (rw [dgs_zero]; rfl) | (rw [List.drop_length]; rfl) | (simp; done) | (congr 2; omega) | (congr 3; omega)) ?_))
          refine J.move rfl rfl ?_
          refine J.move rfl rfl ?_
          refine J.sub' rfl rfl rfl (by exact i64_ok _ (by omega)) ?_
          refine J.move rfl rfl ?_
          refine J.sub' rfl rfl rfl (by exact i64_ok _ (by omega)) ?_
          refine J.as 122 (.int .i64 (((min (max a 0) 1024).toNat - 1 - u : Nat) : Int)) rfl (by congr 1; omega) ?_
          refine J.indexRow sl32 rfl (hr105.some (by omega)) rfl (by omega) (by omega) (by first | exact Int.toNat_natCast _ | rfl) rfl ?_
          refine J.loadW (k := .q) trivial 105 rfl rfl agg25 (by first | rfl | with_reducible exact rowW_seg0 _ _ _ (by omega) | with_reducible exact rowW_seg00 _ _ (by omega) | with_reducible exact rowW_segs _ _ _ (by omega) | with_reducible exact rowW_seg _ _ (by omega) | with_reducible exact rowW_segb _ _ _ (by omega) | exact rowW_seg _ _ (by omega) | exact rowW_segs _ _ _ (by omega)) rfl ?_
          refine J.as 124 (W (S.getD (ix (a - ((u : Int) + 1))) 0)) rfl (by rw [hz105, ring_words (by omega)]) ?_
          refine J.move rfl rfl ?_
          refine J.move rfl rfl ?_
          refine J.add rfl rfl rfl (by first | exact add_nat _ 1 (by omega) | exact i64_ok _ (by omega) | exact rfl) ?_
          refine J.call0 (k := .q) trivial fok33 rfl rfl (fun w hw => Sa.Peek w g23 (S) (a) hS (by omega) (hw.blkCs (k := 23) rfl) _) ?_
          refine J.neqW eqw25 rfl rfl rfl ?_
          refine J.as 129 (.bool false) rfl (by rw [decide_eq_false (fun h => h (by rfl))]) ?_
          refine J.end ?_
          refine X.then ?_
          refine T.cond_false rfl ?_
          refine T.skip ?_
          refine X.inBlock (X.then ?_)
          refine T.text [.l, .l, .l] rfl ?_
          refine J.move rfl rfl ?_
          refine J.add rfl rfl rfl (by first | exact add_nat _ 1 (by omega) | exact i64_ok _ (by omega) | exact rfl) ?_
          refine J.assign rfl rfl ?_
          refine J.end ?_
          exact X.round (u + 1) (by omega) (by first | omega | (dsimp only; omega)) (by repeat (first | exact Sub.nil _ | refine Sub.cons (by first | rfl | (rw [dgs_zero]; rfl) | (rw [List.drop_length]; rfl) | (simp; done) | (congr 2; omega) | (congr 3; omega)) ?_)) (by repeat (first | exact Sub.nil _ | refine Sub.cons (by first | rfl | (rw [dgs_zero]; rfl) | (rw [List.drop_length]; rfl) | (simp; done) | (congr 2; omega) | (congr 3; omega)) ?_))
        · skip
          refine T.exit ?_
          refine X.then_exit (X.then_exit (X.inBlock_eq (X.then ?_)))
          refine T.seq ?_
          refine T.text [.l, .l, .l, .l, .l] rfl ?_
          refine J.move rfl rfl ?_
          refine J.move rfl rfl ?_
          refine J.call0 (k := .l) trivial fok33 rfl rfl (fun w hw => Sa.Peek w g23 (S) (a) hS (by omega) (hw.blkCs (k := 23) rfl) _) ?_
          refine J.alloc 20 rfl zero25 [.int .u64 0, .int .u64 0, .int .u64 0, .int .u64 0] rfl rfl (fun g20 hg20 => ?_)
          refine J.store 20 rfl rfl rfl rfl (wc (S.getD (ix (a - n)) 0)) rfl sz25 (by first | decide | exact Nat.le_refl _ | exact Nat.le_of_ble_eq_true rfl | (simp [rowN]; done) | (simp [rowN]; omega)) (by first | exact rowN_one _ _ | (simp; done) | (intro u hu; simp at hu; subst hu; rfl) | (intro u hu; simp at hu; rcases hu with rfl | rfl <;> rfl)) (by first | decide | exact Nat.zero_lt_succ _ | simp) trivial (wc (S.getD (ix (a - n)) 0)) rfl ?_
          refine J.end ?_
          refine X.then ?_
          refine T.seq ?_
          refine T.text [.l, .l, .l, .l, .l] rfl ?_
          refine J.move rfl rfl ?_
          refine J.move rfl rfl ?_
          refine J.call0 (k := .l) trivial fok33 rfl rfl (fun w hw => Sa.Peek w g23 (S) (a) hS (by omega) (hw.blkCs (k := 23) rfl) _) ?_
          refine J.alloc 21 rfl zero25 [.int .u64 0, .int .u64 0, .int .u64 0, .int .u64 0] rfl rfl (fun g21 hg21 => ?_)
          refine J.store 21 rfl rfl rfl rfl (wc (S.getD (ix (a - m)) 0)) rfl sz25 (by first | decide | exact Nat.le_refl _ | exact Nat.le_of_ble_eq_true rfl | (simp [rowN]; done) | (simp [rowN]; omega)) (by first | exact rowN_one _ _ | (simp; done) | (intro u hu; simp at hu; subst hu; rfl) | (intro u hu; simp at hu; rcases hu with rfl | rfl <;> rfl)) (by first | decide | exact Nat.zero_lt_succ _ | simp) trivial (wc (S.getD (ix (a - m)) 0)) rfl ?_
          refine J.end ?_
          refine X.then ?_
          refine T.seq ?_
          refine T.text [.l, .l, .l, .l] rfl ?_
          refine J.move rfl rfl ?_
          refine J.move rfl rfl ?_
          refine J.move rfl rfl ?_
          refine J.callMut 23 rfl rfl fok28 rfl rfl (fun w hw => Sa.Turn w g23 S a hS (by omega) (hw.live 23 _ rfl) n m) ?_
          refine J.end ?_
          refine X.then ?_
          refine T.seq ?_
          refine T.seq ?_
          refine T.draw [] [(0, .g), (1, .g), (2, .q), (3, .q), (4, .g), (5, .g), (6, .g), (7, .g), (8, .q), (9, .q), (10, .g), (11, .g), (12, .g), (13, .g), (14, .q), (15, .g), (16, .g), (17, .g)] (by kernel_rfl) (by kernel_rfl) ?_ rfl (by repeat (first | exact Sub.nil _ | refine Sub.cons (by first | rfl | (rw [dgs_zero]; rfl) | (rw [List.drop_length]; rfl) | (simp; done) | (congr 2; omega) | (congr 3; omega)) ?_))
          refine J.move rfl rfl ?_
          refine J.move rfl rfl ?_
          refine J.call0 (k := .q) trivial fok33 rfl rfl (fun w hw => Sa.Peek w g23 (swp S (ix (a - n)) (ix (a - m))) (a) (by rw [swp_length]; exact hS) (by omega) (hw.blkCs (k := 23) rfl) _) ?_
          refine J.as 142 (W (S.getD (ix (a - m)) 0)) rfl (by rw [swp_i (by rw [hS]; exact ix_lt _) (by rw [hS]; exact ix_lt _)]) ?_
          refine J.loadN (k := .q) trivial 21 rfl rfl agg25 (wc (S.getD (ix (a - m)) 0)) rfl rfl rfl ?_
          refine J.neqW eqw25 rfl rfl rfl ?_
          refine J.as 144 (.bool false) rfl (by rw [decide_eq_false (fun h => h (by rfl))]) ?_
          refine J.move rfl rfl ?_
          refine J.yes rfl rfl ?_
          refine J.move rfl rfl ?_
          refine J.yes rfl rfl ?_
          refine J.move rfl rfl ?_
          refine J.yes rfl rfl ?_
          refine J.call0 (k := .q) trivial fok33 rfl rfl (fun w hw => Sa.Peek w g23 (swp S (ix (a - n)) (ix (a - m))) (a) (by rw [swp_length]; exact hS) (by omega) (hw.blkCs (k := 23) rfl) _) ?_
          refine J.as 148 (W (S.getD (ix (a - n)) 0)) rfl (by rw [swp_j (by rw [hS]; exact ix_lt _)]) ?_
          refine J.yes rfl rfl ?_
          refine J.loadN (k := .q) trivial 20 rfl rfl agg25 (wc (S.getD (ix (a - n)) 0)) rfl rfl rfl ?_
          refine J.yes rfl rfl ?_
          refine J.neqW eqw25 rfl rfl rfl ?_
          refine J.as 150 (.bool false) rfl (by rw [decide_eq_false (fun h => h (by rfl))]) ?_
          refine J.pick_f rfl rfl rfl ?_
          refine J.move rfl rfl ?_
          refine J.yes rfl rfl ?_
          refine J.move rfl rfl ?_
          refine J.yes rfl rfl ?_
          refine J.call0 (k := .q) trivial fok20 rfl rfl (fun w hw => Sa.Len w g23 (swp S (ix (a - n)) (ix (a - m))) (a) (by rw [swp_length]; exact hS) (by omega) (hw.blkCs (k := 23) rfl)) ?_
          refine J.yes rfl rfl ?_
          refine J.move rfl rfl ?_
          refine J.yes rfl rfl ?_
          refine J.neq rfl rfl rfl (decide_eq_false (fun h => h (by rfl))) ?_
          refine J.pick_f rfl rfl rfl ?_
          refine J.end ?_
          refine X.then ?_
          refine T.cond_false rfl ?_
          refine T.skip ?_
          refine X.then ?_
          refine T.seq ?_
          refine T.text [.l, .l, .l, .l] rfl ?_
          refine J.move rfl rfl ?_
          refine J.move rfl rfl ?_
          refine J.move rfl rfl ?_
          refine J.callMut 23 rfl rfl fok28 rfl rfl (fun w hw => Sa.Turn w g23 (swp S (ix (a - n)) (ix (a - m))) a (by rw [swp_length]; exact hS) (by omega) (hw.live 23 _ rfl) m n) ?_
          rw [swp_back (by rw [hS]; exact ix_lt _) (by rw [hS]; exact ix_lt _)]
          refine J.end ?_
          refine X.then ?_
          refine T.seq ?_
          refine T.text [.l, .l, .l] rfl ?_
          refine J.move rfl rfl ?_
          refine J.move rfl rfl ?_
          refine J.callMut 23 rfl rfl fok34 rfl rfl (fun w hw => Sa.Again w g23 S a hS (by omega) (hw.live 23 _ rfl) n) ?_
          refine J.end ?_
          refine X.then ?_
          refine T.seq ?_
          refine T.seq ?_
          refine T.draw [(20, ⟨some g20, 25, (wc (S.getD (ix (a - n)) 0))⟩)] [(0, .g), (2, .s), (1, .l), (3, .g), (4, .g), (5, .g), (6, .q), (7, .g), (8, .g), (9, .g)] (by kernel_rfl) (by kernel_rfl) ?_ rfl (by repeat (first | exact Sub.nil _ | refine Sub.cons (by first | rfl | (rw [dgs_zero]; rfl) | (rw [List.drop_length]; rfl) | (simp; done) | (congr 2; omega) | (congr 3; omega)) ?_))
          refine J.move rfl rfl ?_
          refine J.loadNs 20 rfl rfl agg25 (wc (S.getD (ix (a - n)) 0)) rfl rfl rfl ?_
          refine J.callMut 23 rfl rfl fok32 rfl rfl (fun w hw => Sa.Take w g23 (S.set (ix a) (S.getD (ix (a - n)) 0)) (a + 1) (by rw [List.length_set]; exact hS) (by omega) (hw.live 23 _ rfl)) ?_
          refine J.as 166 (W (S.getD (ix (a - n)) 0)) rfl (by rw [Int.add_sub_cancel, getD_set _ _ _ _ (by rw [hS]; exact ix_lt _), if_pos rfl]) ?_
          rw [Int.add_sub_cancel]
          refine J.neqW eqw25 rfl rfl rfl ?_
          refine J.as 168 (.bool false) rfl (by rw [decide_eq_false (fun h => h (by rfl))]) ?_
          refine J.move rfl rfl ?_
          refine J.yes rfl rfl ?_
          refine J.move rfl rfl ?_
          refine J.yes rfl rfl ?_
          refine J.call0 (k := .q) trivial fok20 rfl rfl (fun w hw => Sa.Len w g23 (S.set (ix a) (S.getD (ix (a - n)) 0)) (a) (by rw [List.length_set]; exact hS) (by omega) (hw.blkCs (k := 23) rfl)) ?_
          refine J.yes rfl rfl ?_
          refine J.move rfl rfl ?_
          refine J.yes rfl rfl ?_
          refine J.neq rfl rfl rfl (decide_eq_false (fun h => h (by rfl))) ?_
          refine J.pick_f rfl rfl rfl ?_
          refine J.end ?_
          refine X.then ?_
          refine T.cond_false rfl ?_
          refine T.skip ?_
          refine X.then ?_
          refine T.seq ?_
          refine T.text [.l, .l, .l] rfl ?_
          refine J.move rfl rfl ?_
          refine J.loadN (k := .l) trivial 9 rfl rfl agg25 (wc x4) rfl rfl rfl ?_
          refine J.callMut 23 rfl rfl fok31 rfl rfl (fun w hw => Sa.Put w g23 (S.set (ix a) (S.getD (ix (a - n)) 0)) a (by rw [List.length_set]; exact hS) (by omega) (hw.live 23 _ rfl) x4) ?_
          refine J.end ?_
          refine X.then ?_
          refine T.seq ?_
          refine T.seq ?_
          refine T.draw [(9, ⟨some g9, 25, (wc x4)⟩)] [(0, .g), (2, .s), (1, .l), (3, .g), (4, .g), (5, .g), (6, .q), (7, .g), (8, .g), (9, .g), (10, .g), (11, .g), (12, .q), (13, .g), (14, .g), (15, .g), (16, .g), (17, .q), (18, .g), (19, .g)] (by kernel_rfl) (by kernel_rfl) ?_ rfl (by repeat (first | exact Sub.nil _ | refine Sub.cons (by first | rfl | (rw [dgs_zero]; rfl) | (rw [List.drop_length]; rfl) | (simp; done) | (congr 2; omega) | (congr 3; omega)) ?_))
          refine J.move rfl rfl ?_
          refine J.loadNs 9 rfl rfl agg25 (wc x4) rfl rfl rfl ?_
          refine J.callMut 23 rfl rfl fok32 rfl rfl (fun w hw => Sa.Take w g23 ((S.set (ix a) (S.getD (ix (a - n)) 0)).set (ix a) x4) (a + 1) (by rw [List.length_set, List.length_set]; exact hS) (by omega) (hw.live 23 _ rfl)) ?_
          refine J.as 179 (W x4) rfl (by rw [Int.add_sub_cancel, getD_set _ _ _ _ (by rw [List.length_set, hS]; exact ix_lt _), if_pos rfl]) ?_
          rw [Int.add_sub_cancel]
          refine J.neqW eqw25 rfl rfl rfl ?_
          refine J.as 181 (.bool false) rfl (by rw [decide_eq_false (fun h => h (by rfl))]) ?_
          refine J.move rfl rfl ?_
          refine J.yes rfl rfl ?_
          refine J.move rfl rfl ?_
          refine J.yes rfl rfl ?_
          refine J.call0 (k := .q) trivial fok20 rfl rfl (fun w hw => Sa.Len w g23 ((S.set (ix a) (S.getD (ix (a - n)) 0)).set (ix a) x4) (a) (by rw [List.length_set, List.length_set]; exact hS) (by omega) (hw.blkCs (k := 23) rfl)) ?_
          refine J.yes rfl rfl ?_
          refine J.move rfl rfl ?_
          refine J.yes rfl rfl ?_
          refine J.neq rfl rfl rfl (decide_eq_false (fun h => h (by rfl))) ?_
          refine J.pick_f rfl rfl rfl ?_
          refine J.move rfl rfl ?_
          refine J.yes rfl rfl ?_
          refine J.move rfl rfl ?_
          refine J.yes rfl rfl ?_
          refine J.call0 (k := .q) trivial fok33 rfl rfl (fun w hw => Sa.Peek w g23 ((S.set (ix a) (S.getD (ix (a - n)) 0)).set (ix a) x4) a (by rw [List.length_set, List.length_set]; exact hS) (by omega) (hw.blkCs (k := 23) rfl) 1) ?_
          refine J.as 190 (W (S.getD (ix (a - 1)) 0)) rfl (by rw [getD_set _ _ _ _ (by rw [List.length_set, hS]; exact ix_lt _), if_neg (by unfold ix; omega), getD_set _ _ _ _ (by rw [hS]; exact ix_lt _), if_neg (by unfold ix; omega)]) ?_
          refine J.yes rfl rfl ?_
          refine J.move rfl rfl ?_
          refine J.yes rfl rfl ?_
          refine J.add rfl rfl rfl (by exact i64_ok _ (by omega)) ?_
          refine J.yes rfl rfl ?_
          refine J.rem rfl rfl rfl (by omega) (by exact rem_ok _ _ (by omega)) ?_
          refine J.as 193 (.int .i64 ((ix (a - 1) : Nat) : Int)) rfl (by congr 1; rw [ix_cast]; omega) ?_
          have hil := ix_lt (a - 1)
          refine J.yes rfl rfl ?_
          refine J.indexArr arr58 rfl rfl (by omega) (by omega) (by first | exact Int.toNat_natCast _ | rfl) rfl ?_
          refine J.yes rfl rfl ?_
          refine J.loadW (k := .q) trivial 13 rfl rfl agg25 (by first | rfl | with_reducible exact rowW_seg0 _ _ _ (by omega) | with_reducible exact rowW_seg00 _ _ (by omega) | with_reducible exact rowW_segs _ _ _ (by omega) | with_reducible exact rowW_seg _ _ (by omega) | with_reducible exact rowW_segb _ _ _ (by omega) | exact rowW_seg _ _ (by omega) | exact rowW_segs _ _ _ (by omega)) rfl ?_
          refine J.yes rfl rfl ?_
          refine J.neqW eqw25 rfl rfl rfl ?_
          refine J.as 196 (.bool false) rfl (by rw [decide_eq_false (fun h => h (by rfl))]) ?_
          refine J.pick_f rfl rfl rfl ?_
          refine J.end ?_
          refine X.then ?_
          refine T.cond_false rfl ?_
          refine T.skip ?_
          refine X.then ?_
          refine T.seq ?_
          refine T.text [.l, .l, .l, .l] rfl ?_
          refine J.move rfl rfl ?_
          refine J.loadN (k := .l) trivial 9 rfl rfl agg25 (wc x4) rfl rfl rfl ?_
          refine J.callMut 23 rfl rfl fok19 rfl rfl (fun w hw => Sa.Push w g23 ((S.set (ix a) (S.getD (ix (a - n)) 0)).set (ix a) x4) a (by rw [List.length_set, List.length_set]; exact hS) (by omega) (hw.live 23 _ rfl) x4) ?_
          have hP := pushE_iff a
          have hP2 := pushE_or a
          refine J.assign rfl rfl ?_
          refine J.end ?_
          refine X.then ?_
          refine T.seq ?_
          refine T.text [.l, .l, .l, .l, .l, .l, .l, .l, .l, .l, .l, .l, .l, .l, .l, .l, .l] rfl ?_
          refine J.move rfl rfl ?_
          refine J.eql rfl rfl rfl rfl ?_
          refine J.move rfl rfl ?_
          refine J.lss rfl rfl rfl rfl ?_
          refine J.eqB Try.underlying4 rfl rfl rfl (show _ = true by rw [show decide (((pushE a : Nat) : Int) = 0) = decide (a < 1024) from decide_eq_decide.2 hP]; exact beq_self_eq_true _) ?_
          refine J.move rfl rfl ?_
          refine J.yes rfl rfl ?_
          refine J.move rfl rfl ?_
          refine J.yes rfl rfl ?_
          refine J.eql rfl rfl rfl rfl ?_
          refine J.yes rfl rfl ?_
          refine J.move rfl rfl ?_
          refine J.split 209 rfl (fun h9 => ?_) (fun h9 => ?_)
          · skip
            refine J.no rfl rfl rfl rfl ?_
            refine J.no rfl rfl rfl rfl ?_
            refine J.yes rfl rfl ?_
            refine J.pick_t rfl rfl rfl ?_
            refine J.pick_t rfl rfl rfl ?_
            refine J.move rfl rfl ?_
            refine J.yes rfl rfl ?_
            refine J.call0 (k := .l) trivial fok25 rfl rfl (fun w hw => Aw.awake w) ?_
            refine J.pick_t rfl rfl rfl ?_
            refine J.assign rfl rfl ?_
            refine J.end ?_
            refine X.then ?_
            refine T.ret ?_
            exact X.ret1 rfl (RV.tmp rfl) (fun w' hw' => ⟨rfl, hw'.sub (Sub.nil _)⟩)
          · skip
            refine J.yes rfl rfl ?_
            refine J.move rfl rfl ?_
            refine J.yes rfl rfl ?_
            refine J.eql rfl rfl rfl (decide_eq_true (by omega)) ?_
            refine J.yes rfl rfl ?_
            refine J.pick_f rfl rfl rfl ?_
            refine J.pick_t rfl rfl rfl ?_
            refine J.move rfl rfl ?_
            refine J.yes rfl rfl ?_
            refine J.call0 (k := .l) trivial fok25 rfl rfl (fun w hw => Aw.awake w) ?_
            refine J.pick_t rfl rfl rfl ?_
            refine J.assign rfl rfl ?_
            refine J.end ?_
            refine X.then ?_
            refine T.ret ?_
            exact X.ret1 rfl (RV.tmp rfl) (fun w' hw' => ⟨rfl, hw'.sub (Sub.nil _)⟩)
end Go.Proofs.Ytpkjbeebhdgleaa.Le
