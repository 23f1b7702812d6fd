/-
  Walks, printed by gen.py: what each function hands back, said of numbers.
  Conditions: those that each theorem bears.
-/
import Derived.Test.YtpkjbeebhdgleaaChecked
import Derived.Test.YtpkjbeebhdgleaaPg
import Derived.Test.YtpkjbeebhdgleaaFr
set_option linter.unusedVariables false
set_option maxRecDepth 20000
namespace Go.Proofs.Ytpkjbeebhdgleaa.Li
open Go Go.Fw

theorem sz67 : SizeT Try.prog 67 32 := (by unfold SizeT; kernel_rfl)
theorem fok14 : FnOk Try.prog 14 := FnOk.mk' Try.func14 (by kernel_rfl) rfl
theorem fok15 : FnOk Try.prog 15 := FnOk.mk' Try.func15 (by kernel_rfl) rfl
theorem sz5 : SizeT Try.prog 5 1 := (by unfold SizeT; kernel_rfl)
theorem sl22 : SlT Try.prog 22 5 1 := ⟨Try.underlying22, sz5⟩
theorem one5 : OneT Try.prog 5 := ⟨⟨_, Try.underlying5, rfl⟩, by kernel_rfl⟩
theorem fok39 : FnOk Try.prog 39 := FnOk.mk' Try.func39 (by kernel_rfl) rfl

set_option maxRecDepth 100000 in
set_option maxHeartbeats 1000000 in
theorem MachRowed (w : World) (A0 : Option Addr) (c0 : Nat) (xs0 : List Nat) (hc0 : Cs w A0 (rowN .u8 xs0)) (hx0 : Dg xs0) (hb0 : xs0.length ≤ 9223372036854775807) (a : Int) (ha : -9223372036854775808 ≤ a ∧ a ≤ 9223372036854775807) (n0 : Int) (hn0 : -9223372036854775808 ≤ n0 ∧ n0 ≤ 9223372036854775807) :
    Calls Try.prog 12 [.slice A0 xs0.length c0, .int .i64 a, .int .i64 n0].toArray w fun e w' => e = .returned (.bool true) ∧ WS w [] [] w' := by
  refine calls_of_T [] 125 [] Try.func12 rfl Try.ntmps12 (by simp) (WS.refl _ _) ?_
  refine T.seq ?_
  refine T.text [.l] rfl ?_
  refine J.assign rfl rfl ?_
  refine J.end ?_
  refine X.then ?_
  refine T.seq ?_
  refine T.text [.l, .l, .l] rfl ?_
  refine J.move rfl rfl ?_
  refine J.band rfl rfl rfl (and4095 _) ?_
  obtain ⟨z, hz⟩ : ∃ z : Nat, n0 % 4096 = (z : Int) := ⟨(n0 % 4096).toNat, by omega⟩
  refine J.as 20 (.int .i64 (z : Int)) rfl (by rw [hz]) ?_
  refine J.assign rfl rfl ?_
  refine J.end ?_
  refine X.then ?_
  refine T.seq ?_
  refine T.text [.l, .l, .l] rfl ?_
  refine J.move rfl rfl ?_
  refine J.callLaid 22 rfl (t := 5) fok14 rfl rfl (fun w hw => Ma.laid w _ _ _ (hc0.ws hw (off_nil _)) (by first | assumption | omega)) (fun r22 hr22 => ?_)
  have hkd : Dg (xs0.take 70000) := hx0.take _
  have hkl : (xs0.take 70000).length ≤ 70000 := by rw [List.length_take]; omega
  have hcap := hr22.le
  have hcm := hr22.max
  unfold maxLen at hcm
  refine J.assign rfl rfl ?_
  refine J.end ?_
  refine X.then ?_
  refine T.seq ?_
  refine T.text [.l, .l] rfl ?_
  refine J.move rfl rfl ?_
  refine J.assign rfl rfl ?_
  refine J.end ?_
  refine X.then ?_
  refine T.meet (ι := Nat) (fun (k : Nat) => k ≤ 9223372036854775807) (fun (k : Nat) => [(0, .slice A0 xs0.length c0), (1, .int .i64 a), (2, .int .i64 (z : Int)), (6, .bool false), (19, .int .i64 n0), (20, .int .i64 (z : Int)), (21, .slice A0 xs0.length c0), (22, .slice (hdOf r22.id) (xs0.take 70000).length r22.cap), (7, .slice (hdOf r22.id) (xs0.take 70000).length r22.cap), (8, .int .i64 (k : Int))]) (fun (k : Nat) => [(22, r22.ent 5 (rowN .u8 ((xs0.take 70000) ++ marks 75)))]) ?_ ?_
  · -- up to where the ways meet
    refine T.seq ?_
    refine T.text [.l, .l] rfl ?_
    refine J.move rfl rfl ?_
    refine J.lss rfl rfl rfl rfl ?_
    refine J.end ?_
    refine X.then ?_
    refine T.cond_dec rfl (fun h1 => ?_) (fun h1 => ?_)
    · skip
      refine T.text [.l, .l, .l, .l] rfl ?_
      refine J.move rfl rfl ?_
      refine J.add rfl rfl rfl (by exact i64_ok _ (by omega)) ?_
      refine J.neg rfl rfl (by exact i64_ok _ (by omega)) ?_
      refine J.assign rfl rfl ?_
      refine J.end ?_
      obtain ⟨q, hq⟩ : ∃ q : Nat, (if a < 0 then 0 - (a + 1) else a) = (q : Int) := ⟨(if a < 0 then 0 - (a + 1) else a).toNat, by split <;> omega⟩
      refine X.as 8 (.int .i64 (q : Int)) rfl (by rw [← hq]; first | rw [if_pos (by assumption)] | rw [if_neg (by assumption)]) ?_
      have hq2 : q ≤ 9223372036854775807 := by split at hq <;> omega
      exact X.at q (by omega) (by repeat (first | exact Sub.nil _ | refine Sub.cons (by first | rfl | (rw [dgs_zero]; rfl) | (rw [List.drop_length]; rfl) | (simp; done) | (congr 2; omega) | (congr 3; omega)) ?_)) (by repeat (first | exact Sub.nil _ | refine Sub.cons (by first | rfl | (rw [dgs_zero]; rfl) | (rw [List.drop_length]; rfl) | (simp; done) | (congr 2; omega) | (congr 3; omega)) ?_))
    · skip
      refine T.skip ?_
      obtain ⟨q, hq⟩ : ∃ q : Nat, (if a < 0 then 0 - (a + 1) else a) = (q : Int) := ⟨(if a < 0 then 0 - (a + 1) else a).toNat, by split <;> omega⟩
      refine X.as 8 (.int .i64 (q : Int)) rfl (by rw [← hq]; first | rw [if_pos (by assumption)] | rw [if_neg (by assumption)]) ?_
      have hq2 : q ≤ 9223372036854775807 := by split at hq <;> omega
      exact X.at q (by omega) (by repeat (first | exact Sub.nil _ | refine Sub.cons (by first | rfl | (rw [dgs_zero]; rfl) | (rw [List.drop_length]; rfl) | (simp; done) | (congr 2; omega) | (congr 3; omega)) ?_)) (by repeat (first | exact Sub.nil _ | refine Sub.cons (by first | rfl | (rw [dgs_zero]; rfl) | (rw [List.drop_length]; rfl) | (simp; done) | (congr 2; omega) | (congr 3; omega)) ?_))
  · rintro k hk
    refine T.seq ?_
    refine T.text [.l, .l, .l, .l, .l, .l, .l, .l, .l, .l, .l] rfl ?_
    refine J.move rfl rfl ?_
    refine J.move rfl rfl ?_
    refine J.conv (by rw [Try.underlying3]; rfl) Try.underlying23 rfl rfl (by first | exact wrapu_nat' _ (by omega) | exact wrapu_nat _ | exact u64_wrap _) ?_
    refine J.build rfl rfl (.agg ([.int .u64 ((k : Nat) : Int), .int .u64 ((0 : Nat) : Int), .int .u64 ((0 : Nat) : Int), .int .u64 ((0 : Nat) : Int)] : List Value).toArray) (fun w => by kernel_rfl) ?_
    refine J.as 33 (W (wval k 0 0 0)) rfl (by rw [W_wval (by omega)]) ?_
    refine J.move rfl rfl ?_
    refine J.callRowE 35 rfl (t := 5) (kd := .u8) fok15 rfl rfl (fun w hw => Ma.Row w _ _ _ (hw.laidCs (k := 22) rfl) hkd (by omega) (by omega) _ _ (by omega)) (fun zs35 n35 r35 hz35 hr35 => ?_)
    obtain ⟨hz35, he35⟩ := hz35
    have hze35 := hz35
    rw [show rowR (xs0.take 70000) (wval k 0 0 0) ((z : Nat) : Int) = rowB (xs0.take 70000) (wval k 0 0 0) z by unfold rowR; rw [if_neg (by omega)]; rfl] at hze35
    rw [show rowRe ((z : Nat) : Int) = 0 by unfold rowRe; rw [if_neg (by omega)]] at he35
    have hzl35 : zs35.length = z := by rw [hze35, rowB_length]
    refine J.move rfl rfl ?_
    refine J.extract rfl rfl rfl ?_
    refine J.extract rfl rfl rfl ?_
    refine J.assign rfl rfl ?_
    refine J.assign rfl rfl ?_
    refine J.end ?_
    refine X.then ?_
    refine T.seq ?_
    refine T.text [.l, .l, .l, .l, .l, .l, .l, .l, .l, .l, .l] rfl ?_
    refine J.move rfl rfl ?_
    refine J.move rfl rfl ?_
    refine J.conv (by rw [Try.underlying3]; rfl) Try.underlying23 rfl rfl (by first | exact wrapu_nat' _ (by omega) | exact wrapu_nat _ | exact u64_wrap _) ?_
    refine J.build rfl rfl (.agg ([.int .u64 ((k : Nat) : Int), .int .u64 ((1 : Nat) : Int), .int .u64 ((0 : Nat) : Int), .int .u64 ((0 : Nat) : Int)] : List Value).toArray) (fun w => by kernel_rfl) ?_
    refine J.as 42 (W (wval k 1 0 0)) rfl (by rw [W_wval (by omega)]) ?_
    have hw0 : (wval k 0 0 0) = k := by unfold wval; omega
    have hw1 : (wval k 1 0 0) = k + 18446744073709551616 := by unfold wval; omega
    refine J.move rfl rfl ?_
    refine J.callRowE 44 rfl (t := 5) (kd := .u8) fok15 rfl rfl (fun w hw => Ma.Row w _ _ _ (hw.laidCs (k := 22) rfl) hkd (by omega) (by omega) _ _ (by omega)) (fun zs44 n44 r44 hz44 hr44 => ?_)
    obtain ⟨hz44, he44⟩ := hz44
    have hze44 := hz44
    rw [show rowR (xs0.take 70000) (wval k 1 0 0) ((z : Nat) : Int) = rowB (xs0.take 70000) (wval k 1 0 0) z by unfold rowR; rw [if_neg (by omega)]; rfl] at hze44
    rw [show rowRe ((z : Nat) : Int) = 0 by unfold rowRe; rw [if_neg (by omega)]] at he44
    have hzl44 : zs44.length = z := by rw [hze44, rowB_length]
    refine J.move rfl rfl ?_
    refine J.extract rfl rfl rfl ?_
    refine J.extract rfl rfl rfl ?_
    refine J.assign rfl rfl ?_
    refine J.assign rfl rfl ?_
    refine J.end ?_
    refine X.then ?_
    refine T.seq ?_
    refine T.seq ?_
    refine T.text [.l, .l, .l, .l, .l, .l, .l, .l, .l, .l, .l, .l, .l, .l, .l, .l, .l, .l] rfl ?_
    refine J.move rfl rfl ?_
    refine J.neq rfl rfl rfl (decide_eq_false (by first | omega | rfl | assumption | (simp only [*]; done))) ?_
    refine J.move rfl rfl ?_
    refine J.yes rfl rfl ?_
    refine J.move rfl rfl ?_
    refine J.yes rfl rfl ?_
    refine J.neq rfl rfl rfl (decide_eq_false (by first | omega | rfl | assumption | (simp only [*]; done))) ?_
    refine J.pick_f rfl rfl rfl ?_
    refine J.move rfl rfl ?_
    refine J.yes rfl rfl ?_
    refine J.move rfl rfl ?_
    refine J.yes rfl rfl ?_
    refine J.lenSl Try.underlying22 rfl rfl ?_
    refine J.yes rfl rfl ?_
    refine J.move rfl rfl ?_
    refine J.yes rfl rfl ?_
    refine J.neq rfl rfl rfl (decide_eq_false (by first | omega | rfl | assumption | (simp only [*]; done))) ?_
    refine J.pick_f rfl rfl rfl ?_
    refine J.move rfl rfl ?_
    refine J.yes rfl rfl ?_
    refine J.move rfl rfl ?_
    refine J.yes rfl rfl ?_
    refine J.lenSl Try.underlying22 rfl rfl ?_
    refine J.yes rfl rfl ?_
    refine J.move rfl rfl ?_
    refine J.yes rfl rfl ?_
    refine J.neq rfl rfl rfl (decide_eq_false (by first | omega | rfl | assumption | (simp only [*]; done))) ?_
    refine J.pick_f rfl rfl rfl ?_
    refine J.end ?_
    refine X.then ?_
    refine T.cond_false rfl ?_
    refine T.skip ?_
    refine X.then ?_
    refine T.seq ?_
    refine T.seq ?_
    refine T.text [.l] rfl ?_
    refine J.assign rfl rfl ?_
    refine J.end ?_
    refine X.then ?_
    refine T.block ?_
    refine T.loop (ι := Nat) (fun (i : Nat) => i ≤ z) (fun (i : Nat) => [(0, .slice A0 xs0.length c0), (1, .int .i64 a), (2, .int .i64 (z : Int)), (19, .int .i64 n0), (20, .int .i64 (z : Int)), (21, .slice A0 xs0.length c0), (22, .slice (hdOf r22.id) (xs0.take 70000).length r22.cap), (7, .slice (hdOf r22.id) (xs0.take 70000).length r22.cap), (8, .int .i64 (k : Int)), (30, .slice (hdOf r22.id) (xs0.take 70000).length r22.cap), (31, .int .i64 (k : Int)), (33, W (wval k 0 0 0)), (34, .int .i64 (z : Int)), (36, r35.val zs35.length), (37, .int .i64 (n35 : Int)), (9, r35.val zs35.length), (10, .int .i64 (n35 : Int)), (39, .slice (hdOf r22.id) (xs0.take 70000).length r22.cap), (40, .int .i64 (k : Int)), (42, W (wval k 1 0 0)), (43, .int .i64 (z : Int)), (45, r44.val zs44.length), (46, .int .i64 (n44 : Int)), (11, r44.val zs44.length), (12, .int .i64 (n44 : Int)), (47, .int .i64 (n35 : Int)), (48, .bool false), (49, .bool false), (50, .int .i64 (n44 : Int)), (51, .bool false), (52, .bool false), (53, .bool false), (54, r35.val zs35.length), (55, .int .i64 ((zs35.length : Nat) : Int)), (56, .int .i64 (z : Int)), (57, .bool false), (58, .bool false), (59, .bool false), (60, r44.val zs44.length), (61, .int .i64 ((zs44.length : Nat) : Int)), (62, .int .i64 (z : Int)), (63, .bool false), (64, .bool false), (13, .int .i64 (i : Int))]) (fun (i : Nat) => [(22, r22.ent 5 (rowN .u8 ((xs0.take 70000) ++ marks 75))), (35, r35.ent 5 (rowN .u8 zs35)), (44, r44.ent 5 (rowN .u8 zs44))]) (fun (i : Nat) => z - i) 0 (Nat.zero_le _) (by repeat (first | exact Sub.nil _ | refine Sub.cons (by first | rfl | (rw [dgs_zero]; rfl) | (rw [List.drop_length]; rfl) | (simp; done) | (congr 2; omega) | (congr 3; omega)) ?_)) (by repeat (first | exact Sub.nil _ | refine Sub.cons (by first | rfl | (rw [dgs_zero]; rfl) | (rw [List.drop_length]; rfl) | (simp; done) | (congr 2; omega) | (congr 3; omega)) ?_)) ?_
    rintro i hi
    refine T.seq ?_
    refine T.seq ?_
    refine T.text [.l, .l, .l] rfl ?_
    refine J.move rfl rfl ?_
    refine J.move rfl rfl ?_
    refine J.lss rfl rfl rfl rfl ?_
    refine J.end ?_
    refine X.then ?_
    refine T.cond_dec rfl (fun h2 => ?_) (fun h2 => ?_)
    · skip
      refine T.skip ?_
      refine X.then ?_
      refine T.seq ?_
      refine T.block ?_
      refine T.seq ?_
      refine T.text [.l] rfl ?_
      refine J.assign rfl rfl ?_
      refine J.end ?_
      refine X.then ?_
      refine T.meet (ι := Unit) (fun (_ : Unit) => True) (fun (_ : Unit) => [(0, .slice A0 xs0.length c0), (1, .int .i64 a), (2, .int .i64 (z : Int)), (19, .int .i64 n0), (20, .int .i64 (z : Int)), (21, .slice A0 xs0.length c0), (22, .slice (hdOf r22.id) (xs0.take 70000).length r22.cap), (7, .slice (hdOf r22.id) (xs0.take 70000).length r22.cap), (8, .int .i64 (k : Int)), (30, .slice (hdOf r22.id) (xs0.take 70000).length r22.cap), (31, .int .i64 (k : Int)), (33, W (wval k 0 0 0)), (34, .int .i64 (z : Int)), (36, r35.val zs35.length), (37, .int .i64 (n35 : Int)), (9, r35.val zs35.length), (10, .int .i64 (n35 : Int)), (39, .slice (hdOf r22.id) (xs0.take 70000).length r22.cap), (40, .int .i64 (k : Int)), (42, W (wval k 1 0 0)), (43, .int .i64 (z : Int)), (45, r44.val zs44.length), (46, .int .i64 (n44 : Int)), (11, r44.val zs44.length), (12, .int .i64 (n44 : Int)), (47, .int .i64 (n35 : Int)), (48, .bool false), (49, .bool false), (50, .int .i64 (n44 : Int)), (51, .bool false), (52, .bool false), (53, .bool false), (54, r35.val zs35.length), (55, .int .i64 ((zs35.length : Nat) : Int)), (56, .int .i64 (z : Int)), (57, .bool false), (58, .bool false), (59, .bool false), (60, r44.val zs44.length), (61, .int .i64 ((zs44.length : Nat) : Int)), (62, .int .i64 (z : Int)), (63, .bool false), (64, .bool false), (13, .int .i64 (i : Int)), (65, .int .i64 (i : Int)), (66, .int .i64 (z : Int)), (14, .int .u8 (((xs0.take 70000).getD (k + i) 0 : Nat) : Int))]) (fun (_ : Unit) => [(22, r22.ent 5 (rowN .u8 ((xs0.take 70000) ++ marks 75))), (35, r35.ent 5 (rowN .u8 zs35)), (44, r44.ent 5 (rowN .u8 zs44))]) ?_ ?_
      · -- up to where the ways meet
        refine T.seq ?_
        refine T.text [.l, .l, .l, .l, .l, .l, .l, .l, .l, .l, .l, .l] rfl ?_
        refine J.move rfl rfl ?_
        refine J.move rfl rfl ?_
        refine J.lenSl Try.underlying22 rfl rfl ?_
        refine J.lss rfl rfl rfl rfl ?_
        refine J.move rfl rfl ?_
        refine J.split 74 rfl (fun h3 => ?_) (fun h3 => ?_)
        · skip
          refine J.yes rfl rfl ?_
          refine J.move rfl rfl ?_
          refine J.yes rfl rfl ?_
          refine J.move rfl rfl ?_
          refine J.yes rfl rfl ?_
          refine J.lenSl Try.underlying22 rfl rfl ?_
          refine J.yes rfl rfl ?_
          refine J.move rfl rfl ?_
          refine J.yes rfl rfl ?_
          refine J.sub' rfl rfl rfl (by exact i64_ok _ (by omega)) ?_
          refine J.yes rfl rfl ?_
          refine J.lss rfl rfl rfl rfl ?_
          refine J.pick_t rfl rfl rfl ?_
          refine J.end ?_
          refine X.then ?_
          refine T.cond_dec rfl (fun h4 => ?_) (fun h4 => ?_)
          · skip
            refine T.text [.l, .l, .l, .l, .l, .l, .l] rfl ?_
            refine J.move rfl rfl ?_
            refine J.move rfl rfl ?_
            refine J.move rfl rfl ?_
            refine J.add rfl rfl rfl (by first | exact add_nat _ _ (by omega) | exact i64_ok _ (by omega) | exact rfl) ?_
            refine J.indexRow sl22 rfl (hr22.some (by omega)) rfl (by omega) (by omega) (by first | exact Int.toNat_natCast _ | rfl) rfl ?_
            refine J.load1 (k := .l) trivial 22 rfl rfl one5 (rowN_get1s _ _ _ _ (by rw [List.length_append]; omega)) rfl ?_
            refine J.as 87 (.int .u8 (((xs0.take 70000).getD (k + i) 0 : Nat) : Int)) rfl (by rw [getD_append_left _ _ _ (by omega)]) ?_
            refine J.assign rfl rfl ?_
            refine J.end ?_
            refine X.as 14 (.int .u8 (((xs0.take 70000).getD (k + i) 0 : Nat) : Int)) rfl (by first | rfl | (rw [getD_far _ _ (by omega)]; rfl)) ?_
            exact X.at () trivial (by repeat (first | exact Sub.nil _ | refine Sub.cons (by first | rfl | (rw [dgs_zero]; rfl) | (rw [List.drop_length]; rfl) | (simp; done) | (congr 2; omega) | (congr 3; omega)) ?_)) (by repeat (first | exact Sub.nil _ | refine Sub.cons (by first | rfl | (rw [dgs_zero]; rfl) | (rw [List.drop_length]; rfl) | (simp; done) | (congr 2; omega) | (congr 3; omega)) ?_))
          · skip
            refine T.skip ?_
            refine X.as 14 (.int .u8 (((xs0.take 70000).getD (k + i) 0 : Nat) : Int)) rfl (by first | rfl | (rw [getD_far _ _ (by omega)]; rfl)) ?_
            exact X.at () trivial (by repeat (first | exact Sub.nil _ | refine Sub.cons (by first | rfl | (rw [dgs_zero]; rfl) | (rw [List.drop_length]; rfl) | (simp; done) | (congr 2; omega) | (congr 3; omega)) ?_)) (by repeat (first | exact Sub.nil _ | refine Sub.cons (by first | rfl | (rw [dgs_zero]; rfl) | (rw [List.drop_length]; rfl) | (simp; done) | (congr 2; omega) | (congr 3; omega)) ?_))
        · skip
          refine J.no rfl rfl rfl rfl ?_
          refine J.no rfl rfl rfl rfl ?_
          refine J.no rfl rfl rfl rfl ?_
          refine J.no rfl rfl rfl rfl ?_
          refine J.no rfl rfl rfl rfl ?_
          refine J.no rfl rfl rfl rfl ?_
          refine J.pick_f rfl rfl rfl ?_
          refine J.end ?_
          refine X.then ?_
          refine T.cond_false rfl ?_
          refine T.skip ?_
          refine X.as 14 (.int .u8 (((xs0.take 70000).getD (k + i) 0 : Nat) : Int)) rfl (by first | rfl | (rw [getD_far _ _ (by omega)]; rfl)) ?_
          exact X.at () trivial (by repeat (first | exact Sub.nil _ | refine Sub.cons (by first | rfl | (rw [dgs_zero]; rfl) | (rw [List.drop_length]; rfl) | (simp; done) | (congr 2; omega) | (congr 3; omega)) ?_)) (by repeat (first | exact Sub.nil _ | refine Sub.cons (by first | rfl | (rw [dgs_zero]; rfl) | (rw [List.drop_length]; rfl) | (simp; done) | (congr 2; omega) | (congr 3; omega)) ?_))
      · rintro _ hφ
        refine T.seq ?_
        refine T.text [.l, .l, .l, .l, .l, .l, .l, .l, .l, .l, .l, .l, .l] rfl ?_
        refine J.move rfl rfl ?_
        refine J.move rfl rfl ?_
        refine J.indexRow sl22 rfl (hr35.some (by omega)) rfl (by omega) (by omega) (by first | exact Int.toNat_natCast _ | rfl) rfl ?_
        refine J.load1 (k := .l) trivial 35 rfl rfl one5 (by first | rfl | with_reducible exact rowN_get0 _ _ _ (by omega) | with_reducible exact rowN_get1 _ _ _ (by omega) | with_reducible exact rowN_get1s _ _ _ _ (by omega) | exact rowN_get1 _ _ _ (by omega) | exact rowN_get1s _ _ _ _ (by omega) | exact rowN_get0 _ _ _ (by omega)) rfl ?_
        refine J.as 91 (.int .u8 (((xs0.take 70000).getD (k + i) 0 : Nat) : Int)) rfl (by rw [hze35, rowB_get _ _ _ _ (by omega), hw0, Nat.mod_eq_of_lt (by omega)]) ?_
        refine J.move rfl rfl ?_
        refine J.neq rfl rfl rfl (decide_eq_false (by first | omega | rfl | assumption | (simp only [*]; done))) ?_
        refine J.move rfl rfl ?_
        refine J.yes rfl rfl ?_
        refine J.move rfl rfl ?_
        refine J.yes rfl rfl ?_
        refine J.move rfl rfl ?_
        refine J.yes rfl rfl ?_
        refine J.indexRow sl22 rfl (hr44.some (by omega)) rfl (by omega) (by omega) (by first | exact Int.toNat_natCast _ | rfl) rfl ?_
        refine J.yes rfl rfl ?_
        refine J.load1 (k := .l) trivial 44 rfl rfl one5 (by first | rfl | with_reducible exact rowN_get0 _ _ _ (by omega) | with_reducible exact rowN_get1 _ _ _ (by omega) | with_reducible exact rowN_get1s _ _ _ _ (by omega) | exact rowN_get1 _ _ _ (by omega) | exact rowN_get1s _ _ _ _ (by omega) | exact rowN_get0 _ _ _ (by omega)) rfl ?_
        refine J.as 98 (.int .u8 0) rfl (by rw [hze44, rowB_get _ _ _ _ (by omega), hw1, Nat.mod_eq_of_lt (by omega), getD_far _ _ (by omega)]; rfl) ?_
        refine J.yes rfl rfl ?_
        refine J.neq rfl rfl rfl (decide_eq_false (by first | omega | rfl | assumption | (simp only [*]; done))) ?_
        refine J.pick_f rfl rfl rfl ?_
        refine J.end ?_
        refine X.then ?_
        refine T.cond_false rfl ?_
        refine T.skip ?_
        refine X.inBlock (X.then ?_)
        refine T.text [.l, .l, .l] rfl ?_
        refine J.move rfl rfl ?_
        refine J.add rfl rfl rfl (by first | exact add_nat _ 1 (by omega) | exact i64_ok _ (by omega) | exact rfl) ?_
        refine J.assign rfl rfl ?_
        refine J.end ?_
        exact X.round (i + 1) (by omega) (by first | omega | (dsimp only; omega)) (by repeat (first | exact Sub.nil _ | refine Sub.cons (by first | rfl | (rw [dgs_zero]; rfl) | (rw [List.drop_length]; rfl) | (simp; done) | (congr 2; omega) | (congr 3; omega)) ?_)) (by repeat (first | exact Sub.nil _ | refine Sub.cons (by first | rfl | (rw [dgs_zero]; rfl) | (rw [List.drop_length]; rfl) | (simp; done) | (congr 2; omega) | (congr 3; omega)) ?_))
    · skip
      refine T.exit ?_
      refine X.then_exit (X.then_exit (X.inBlock_eq (X.then ?_)))
      refine T.seq ?_
      refine T.text [.l, .l, .l, .l, .l, .l, .l, .l, .l, .l] rfl ?_
      refine J.move rfl rfl ?_
      refine J.build rfl rfl (W 0) (fun w => by kernel_rfl) ?_
      refine J.move rfl rfl ?_
      refine J.sub' rfl rfl rfl (by exact i64_ok _ (by omega)) ?_
      refine J.callRowE 106 rfl (t := 5) (kd := .u8) fok15 rfl rfl (fun w hw => Ma.Row w _ _ _ (hw.laidCs (k := 22) rfl) hkd (by omega) (by omega) _ _ (by omega)) (fun zs106 n106 r106 hz106 hr106 => ?_)
      obtain ⟨hz106, he106⟩ := hz106
      rw [show rowRe (-1 - (z : Int)) = 1 by unfold rowRe; rw [if_pos (by omega)]] at he106
      refine J.move rfl rfl ?_
      refine J.extract rfl rfl rfl ?_
      refine J.extract rfl rfl rfl ?_
      refine J.assign rfl rfl ?_
      refine J.assign rfl rfl ?_
      refine J.end ?_
      refine X.then ?_
      refine T.seq ?_
      refine T.text [.l, .l, .l, .l, .l, .l, .l, .l, .l] rfl ?_
      refine J.build rfl rfl (W 0) (fun w => by kernel_rfl) ?_
      refine J.move rfl rfl ?_
      refine J.add rfl rfl rfl (by exact i64_ok _ (by omega)) ?_
      refine J.callRowE 113 rfl (t := 5) (kd := .u8) fok15 rfl rfl (fun w hw => Ma.Row w none 0 [] (Cs.nil _ _) Dg.nil (Nat.zero_le _) (Nat.zero_le _) 0 (4194305 + (z : Int)) (by omega)) (fun zs113 n113 r113 hz113 hr113 => ?_)
      obtain ⟨hz113, he113⟩ := hz113
      rw [show rowRe (4194305 + (z : Int)) = 1 by unfold rowRe; rw [if_pos (by omega)]] at he113
      refine J.move rfl rfl ?_
      refine J.extract rfl rfl rfl ?_
      refine J.extract rfl rfl rfl ?_
      refine J.assign rfl rfl ?_
      refine J.assign rfl rfl ?_
      refine J.end ?_
      refine X.then ?_
      refine T.seq ?_
      refine T.text [.l, .l, .l, .l, .l, .l, .l, .l, .l, .l] rfl ?_
      refine J.move rfl rfl ?_
      refine J.eql rfl rfl rfl (decide_eq_true (by first | omega | rfl | assumption | (simp only [*]; done))) ?_
      refine J.move rfl rfl ?_
      refine J.yes rfl rfl ?_
      refine J.move rfl rfl ?_
      refine J.yes rfl rfl ?_
      refine J.eql rfl rfl rfl (decide_eq_true (by first | omega | rfl | assumption | (simp only [*]; done))) ?_
      refine J.pick_t rfl rfl rfl ?_
      refine J.move rfl rfl ?_
      refine J.yes rfl rfl ?_
      refine J.call0 (k := .l) trivial fok39 rfl rfl (fun w hw => Pg.wrote w) ?_
      refine J.pick_t rfl rfl rfl ?_
      refine J.assign rfl rfl ?_
      refine J.end ?_
      refine X.then ?_
      refine T.ret ?_
      exact X.ret1 rfl (RV.tmp rfl) (fun w' hw' => ⟨rfl, hw'.sub (Sub.nil _)⟩)
end Go.Proofs.Ytpkjbeebhdgleaa.Li
