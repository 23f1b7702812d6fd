/-
  Walks, printed by gen.py: what each function hands back, said of numbers.
  Conditions: those that each theorem bears.
-/
import Derived.Test.YtpkjbeebhdgleaaChecked
import Derived.Test.YtpkjbeebhdgleaaPc
set_option linter.unusedVariables false
set_option maxRecDepth 20000
namespace Go.Proofs.Ytpkjbeebhdgleaa.Wa
open Go Go.Fw

theorem sz67 : SizeT Try.prog 67 32 := (by unfold SizeT; kernel_rfl)
theorem fok113 : FnOk Try.prog 113 := FnOk.mk' Try.func113 (by kernel_rfl) rfl
theorem zero25 : ZeroT Try.prog 25 (.agg ([.int .u64 0, .int .u64 0, .int .u64 0, .int .u64 0]).toArray) := (by unfold ZeroT; kernel_rfl)
theorem sz23 : SizeT Try.prog 23 1 := (by unfold SizeT; kernel_rfl)
theorem arr25 : ArrT Try.prog 25 4 23 1 := ⟨Try.underlying25, sz23⟩
theorem one23 : OneT Try.prog 23 := ⟨⟨_, Try.underlying23, rfl⟩, by kernel_rfl⟩
theorem agg25 : AggT Try.prog 25 4 := ⟨⟨_, Try.underlying25, rfl⟩, by kernel_rfl⟩
theorem sz25 : SizeT Try.prog 25 4 := (by unfold SizeT; kernel_rfl)
theorem fok72 : FnOk Try.prog 72 := FnOk.mk' Try.func72 (by kernel_rfl) rfl
theorem fok52 : FnOk Try.prog 52 := FnOk.mk' Try.func52 (by kernel_rfl) rfl
theorem eqw25 : EqT Try.prog 25 := ⟨⟨23, arr25, one23, Try.underlying23⟩, by kernel_rfl⟩
theorem fok108 : FnOk Try.prog 108 := FnOk.mk' Try.func108 (by kernel_rfl) rfl
theorem fok87 : FnOk Try.prog 87 := FnOk.mk' Try.func87 (by kernel_rfl) rfl
theorem fok73 : FnOk Try.prog 73 := FnOk.mk' Try.func73 (by kernel_rfl) rfl
theorem sl32 : SlT Try.prog 32 25 4 := ⟨Try.underlying32, sz25⟩
theorem fok71 : FnOk Try.prog 71 := FnOk.mk' Try.func71 (by kernel_rfl) rfl
theorem sz5 : SizeT Try.prog 5 1 := (by unfold SizeT; kernel_rfl)
theorem sl22 : SlT Try.prog 22 5 1 := ⟨Try.underlying22, sz5⟩
theorem one5 : OneT Try.prog 5 := ⟨⟨_, Try.underlying5, rfl⟩, by kernel_rfl⟩
theorem zero67 : ZeroT Try.prog 67 (.agg ([.int .u8 0, .int .u8 0, .int .u8 0, .int .u8 0, .int .u8 0, .int .u8 0, .int .u8 0, .int .u8 0, .int .u8 0, .int .u8 0, .int .u8 0, .int .u8 0, .int .u8 0, .int .u8 0, .int .u8 0, .int .u8 0, .int .u8 0, .int .u8 0, .int .u8 0, .int .u8 0, .int .u8 0, .int .u8 0, .int .u8 0, .int .u8 0, .int .u8 0, .int .u8 0, .int .u8 0, .int .u8 0, .int .u8 0, .int .u8 0, .int .u8 0, .int .u8 0]).toArray) := (by unfold ZeroT; kernel_rfl)
theorem arr67 : ArrT Try.prog 67 32 5 1 := ⟨Try.underlying67, sz5⟩
theorem agg67 : AggT Try.prog 67 32 := ⟨⟨_, Try.underlying67, rfl⟩, by kernel_rfl⟩

theorem Len64 (w : World) (x0 : Nat) (hx : x0 < 18446744073709551616) :
    Calls Try.prog 113 [.int .u64 (x0 : Int)].toArray w fun e w' => e = .returned (.int .i64 (bitLen x0 : Int)) ∧ WS w [] [] w' := by
  refine calls_of_T [] 25 [] Try.func113 rfl Try.ntmps113 (by simp) (WS.refl _ _) ?_
  refine T.seq ?_
  refine T.text [.l] rfl ?_
  refine J.assign rfl rfl ?_
  refine J.end ?_
  refine X.then ?_
  refine T.meet (ι := Nat × Nat) (fun ((n1, x1) : Nat × Nat) => bitLen x0 = n1 + bitLen x1 ∧ x1 < 4294967296 ∧ n1 ≤ 32) (fun ((n1, x1) : Nat × Nat) => [(2, .int .i64 (n1 : Int)), (0, .int .u64 (x1 : Int))]) (fun ((n1, x1) : Nat × Nat) => []) ?_ ?_
  · -- up to where the ways meet
    refine T.seq ?_
    refine T.text [.l, .l] rfl ?_
    refine J.move rfl rfl ?_
    refine J.geq rfl rfl rfl rfl ?_
    refine J.end ?_
    refine X.then ?_
    refine T.cond_dec rfl (fun h1 => ?_) (fun h1 => ?_)
    · skip
      refine T.seq ?_
      refine T.text [.l, .l, .l] rfl ?_
      refine J.move rfl rfl ?_
      refine J.shr rfl rfl rfl (by decide) (by exact shr_nat _ 32 (by omega)) ?_
      refine J.assign rfl rfl ?_
      refine J.end ?_
      refine X.then ?_
      refine T.text [.l] rfl ?_
      refine J.assign rfl rfl ?_
      refine J.end ?_
      exact X.at ⟨(0 + 32), (x0 / 2 ^ 32)⟩ ⟨by have := bitLen_shift x0 32; omega, by omega, by omega⟩ (by repeat (first | exact Sub.nil _ | refine Sub.cons (by first | rfl | (rw [dgs_zero]; rfl) | (rw [List.drop_length]; rfl) | (simp; done) | (congr 2; omega) | (congr 3; omega)) ?_)) (by repeat (first | exact Sub.nil _ | refine Sub.cons (by first | rfl | (rw [dgs_zero]; rfl) | (rw [List.drop_length]; rfl) | (simp; done) | (congr 2; omega) | (congr 3; omega)) ?_))
    · skip
      refine T.skip ?_
      exact X.at ⟨0, x0⟩ ⟨by have := bitLen_shift x0 32; omega, by omega, by omega⟩ (by repeat (first | exact Sub.nil _ | refine Sub.cons (by first | rfl | (rw [dgs_zero]; rfl) | (rw [List.drop_length]; rfl) | (simp; done) | (congr 2; omega) | (congr 3; omega)) ?_)) (by repeat (first | exact Sub.nil _ | refine Sub.cons (by first | rfl | (rw [dgs_zero]; rfl) | (rw [List.drop_length]; rfl) | (simp; done) | (congr 2; omega) | (congr 3; omega)) ?_))
  · rintro ⟨n1, x1⟩ ⟨hb1, hx1, hn1⟩
    try dsimp only at *
    refine T.meet (ι := Nat × Nat) (fun ((n2, x2) : Nat × Nat) => bitLen x0 = n2 + bitLen x2 ∧ x2 < 65536 ∧ n2 ≤ 48) (fun ((n2, x2) : Nat × Nat) => [(2, .int .i64 (n2 : Int)), (0, .int .u64 (x2 : Int))]) (fun ((n2, x2) : Nat × Nat) => []) ?_ ?_
    · -- up to where the ways meet
      refine T.seq ?_
      refine T.text [.l, .l] rfl ?_
      refine J.move rfl rfl ?_
      refine J.geq rfl rfl rfl rfl ?_
      refine J.end ?_
      refine X.then ?_
      refine T.cond_dec rfl (fun h2 => ?_) (fun h2 => ?_)
      · skip
        refine T.seq ?_
        refine T.text [.l, .l, .l] rfl ?_
        refine J.move rfl rfl ?_
        refine J.shr rfl rfl rfl (by decide) (by exact shr_nat _ 16 (by omega)) ?_
        refine J.assign rfl rfl ?_
        refine J.end ?_
        refine X.then ?_
        refine T.text [.l, .l, .l] rfl ?_
        refine J.move rfl rfl ?_
        refine J.add rfl rfl rfl (by first | exact add_nat _ 16 (by omega) | exact i64_ok _ (by omega) | exact rfl) ?_
        refine J.assign rfl rfl ?_
        refine J.end ?_
        exact X.at ⟨(n1 + 16), (x1 / 2 ^ 16)⟩ ⟨by have := bitLen_shift x1 16; omega, by omega, by omega⟩ (by repeat (first | exact Sub.nil _ | refine Sub.cons (by first | rfl | (rw [dgs_zero]; rfl) | (rw [List.drop_length]; rfl) | (simp; done) | (congr 2; omega) | (congr 3; omega)) ?_)) (by repeat (first | exact Sub.nil _ | refine Sub.cons (by first | rfl | (rw [dgs_zero]; rfl) | (rw [List.drop_length]; rfl) | (simp; done) | (congr 2; omega) | (congr 3; omega)) ?_))
      · skip
        refine T.skip ?_
        exact X.at ⟨n1, x1⟩ ⟨by have := bitLen_shift x1 16; omega, by omega, by omega⟩ (by repeat (first | exact Sub.nil _ | refine Sub.cons (by first | rfl | (rw [dgs_zero]; rfl) | (rw [List.drop_length]; rfl) | (simp; done) | (congr 2; omega) | (congr 3; omega)) ?_)) (by repeat (first | exact Sub.nil _ | refine Sub.cons (by first | rfl | (rw [dgs_zero]; rfl) | (rw [List.drop_length]; rfl) | (simp; done) | (congr 2; omega) | (congr 3; omega)) ?_))
    · rintro ⟨n2, x2⟩ ⟨hb2, hx2, hn2⟩
      try dsimp only at *
      refine T.meet (ι := Nat × Nat) (fun ((n3, x3) : Nat × Nat) => bitLen x0 = n3 + bitLen x3 ∧ x3 < 256 ∧ n3 ≤ 56) (fun ((n3, x3) : Nat × Nat) => [(2, .int .i64 (n3 : Int)), (0, .int .u64 (x3 : Int))]) (fun ((n3, x3) : Nat × Nat) => []) ?_ ?_
      · -- up to where the ways meet
        refine T.seq ?_
        refine T.text [.l, .l] rfl ?_
        refine J.move rfl rfl ?_
        refine J.geq rfl rfl rfl rfl ?_
        refine J.end ?_
        refine X.then ?_
        refine T.cond_dec rfl (fun h3 => ?_) (fun h3 => ?_)
        · skip
          refine T.seq ?_
          refine T.text [.l, .l, .l] rfl ?_
          refine J.move rfl rfl ?_
          refine J.shr rfl rfl rfl (by decide) (by exact shr_nat _ 8 (by omega)) ?_
          refine J.assign rfl rfl ?_
          refine J.end ?_
          refine X.then ?_
          refine T.text [.l, .l, .l] rfl ?_
          refine J.move rfl rfl ?_
          refine J.add rfl rfl rfl (by first | exact add_nat _ 8 (by omega) | exact i64_ok _ (by omega) | exact rfl) ?_
          refine J.assign rfl rfl ?_
          refine J.end ?_
          exact X.at ⟨(n2 + 8), (x2 / 2 ^ 8)⟩ ⟨by have := bitLen_shift x2 8; omega, by omega, by omega⟩ (by repeat (first | exact Sub.nil _ | refine Sub.cons (by first | rfl | (rw [dgs_zero]; rfl) | (rw [List.drop_length]; rfl) | (simp; done) | (congr 2; omega) | (congr 3; omega)) ?_)) (by repeat (first | exact Sub.nil _ | refine Sub.cons (by first | rfl | (rw [dgs_zero]; rfl) | (rw [List.drop_length]; rfl) | (simp; done) | (congr 2; omega) | (congr 3; omega)) ?_))
        · skip
          refine T.skip ?_
          exact X.at ⟨n2, x2⟩ ⟨by have := bitLen_shift x2 8; omega, by omega, by omega⟩ (by repeat (first | exact Sub.nil _ | refine Sub.cons (by first | rfl | (rw [dgs_zero]; rfl) | (rw [List.drop_length]; rfl) | (simp; done) | (congr 2; omega) | (congr 3; omega)) ?_)) (by repeat (first | exact Sub.nil _ | refine Sub.cons (by first | rfl | (rw [dgs_zero]; rfl) | (rw [List.drop_length]; rfl) | (simp; done) | (congr 2; omega) | (congr 3; omega)) ?_))
      · rintro ⟨n3, x3⟩ ⟨hb3, hx3, hn3⟩
        try dsimp only at *
        refine T.seq ?_
        refine T.text [.l, .l, .l, .l, .l, .l, .l] rfl ?_
        refine J.move rfl rfl ?_
        refine J.move rfl rfl ?_
        refine J.conv (by rw [Try.underlying23]; rfl) Try.underlying5 rfl rfl (by first | exact wrap8_nat' _ (by omega) | exact wrap8_nat _ | exact u8_ok _ (by omega) | exact u8_wrap _) ?_
        refine J.indexTab (f := bitLen) Try.underlying9 rfl (by decide +kernel) rfl (by omega) rfl ?_
        have hb8 := bitLen_le8 x3 hx3
        refine J.conv (by rw [Try.underlying5]; rfl) Try.underlying3 rfl rfl (by first | exact wrap_nat64 _ (by omega) | exact i64_ok _ (by omega) | exact rfl) ?_
        refine J.add rfl rfl rfl (by first | exact add_nat _ _ (by omega) | exact i64_ok _ (by omega) | exact rfl) ?_
        refine J.assign rfl rfl ?_
        refine J.end ?_
        refine X.then ?_
        refine T.ret ?_
        exact X.ret1 rfl (RV.tmp rfl) (fun w' hw' => ⟨by congr 2; omega, hw'.sub (Sub.nil _)⟩)

theorem LeadingZeros64 (w : World) (x0 : Nat) (hx : x0 < 18446744073709551616) :
    Calls Try.prog 108 [.int .u64 (x0 : Int)].toArray w fun e w' => e = .returned (.int .i64 ((64 - bitLen x0 : Nat) : Int)) ∧ WS w [] [] w' := by
  have hb := bitLen_le64 x0 hx
  refine calls_of_T [] 6 [] Try.func108 rfl Try.ntmps108 (by simp) (WS.refl _ _) ?_
  refine T.seq ?_
  refine T.text [.l] rfl ?_
  refine J.assign rfl rfl ?_
  refine J.end ?_
  refine X.then ?_
  refine T.seq ?_
  refine T.text [.l, .l, .l, .l] rfl ?_
  refine J.move rfl rfl ?_
  refine J.call0 (k := .l) trivial fok113 rfl rfl (fun w hw => Wa.Len64 w _ hx) ?_
  refine J.sub' rfl rfl rfl (by first | exact sub_nat 64 _ (by omega) | exact i64_ok _ (by omega) | exact rfl) ?_
  refine J.assign rfl rfl ?_
  refine J.end ?_
  refine X.then ?_
  refine T.ret ?_
  exact X.ret1 rfl (RV.tmp rfl) (fun w' hw' => ⟨rfl, hw'.sub (Sub.nil _)⟩)

theorem plus (w : World) (x0 : Nat) (x1 : Nat) :
    Calls Try.prog 71 [W x0, W x1].toArray w fun e w' => e = .returned (.tuple #[W (x0 + x1), .int .u64 (((x0 % 2 ^ 256 + x1 % 2 ^ 256) / 2 ^ 256 : Nat) : Int)]) ∧ WS w [] [] w' := by
  refine calls_of_T [] 28 [] Try.func71 rfl Try.ntmps71 (by simp) (WS.refl _ _) ?_
  refine T.seq ?_
  refine T.text [.l, .l, .l, .l] rfl ?_
  refine J.box 2 rfl rfl (wc x0) rfl rfl (fun g2 hg2 => ?_)
  refine J.box 3 rfl rfl (wc x1) rfl rfl (fun g3 hg3 => ?_)
  refine J.alloc 4 rfl zero25 [.int .u64 0, .int .u64 0, .int .u64 0, .int .u64 0] rfl rfl (fun g4 hg4 => ?_)
  refine J.assign rfl rfl ?_
  refine J.end ?_
  refine X.then ?_
  refine T.seq ?_
  refine T.text [.l] rfl ?_
  refine J.alloc 6 rfl zero25 [.int .u64 0, .int .u64 0, .int .u64 0, .int .u64 0] rfl rfl (fun g6 hg6 => ?_)
  refine J.end ?_
  refine X.then ?_
  refine T.seq ?_
  refine T.text [.l] rfl ?_
  refine J.assign rfl rfl ?_
  refine J.end ?_
  refine X.then ?_
  refine T.seq ?_
  refine T.seq ?_
  refine T.text [.l] rfl ?_
  refine J.move rfl rfl ?_
  refine J.end ?_
  refine X.then ?_
  refine T.block ?_
  refine T.loop (ι := Nat × Nat × List Nat) (fun ((i, c, ys) : Nat × Nat × List Nat) => i ≤ 4 ∧ c = (x0 % 18446744073709551616 ^ i + x1 % 18446744073709551616 ^ i) / 18446744073709551616 ^ i ∧ ys.length = 4 ∧ ∀ q, q < i → ys.getD q 0 = lim (x0 + x1) q) (fun ((i, c, ys) : Nat × Nat × List Nat) => [(0, W x0), (1, W x1), (2, .pointer (some ⟨g2, 0, none⟩)), (3, .pointer (some ⟨g3, 0, none⟩)), (4, .pointer (some ⟨g4, 0, none⟩)), (5, .int .u64 0), (6, .pointer (some ⟨g6, 0, none⟩)), (7, .int .u64 (c : Int)), (9, .int .i64 (i : Int))]) (fun ((i, c, ys) : Nat × Nat × List Nat) => [(2, ⟨some g2, 25, (wc x0)⟩), (3, ⟨some g3, 25, (wc x1)⟩), (4, ⟨some g4, 25, [.int .u64 0, .int .u64 0, .int .u64 0, .int .u64 0]⟩), (6, ⟨some g6, 25, rowN .u64 ys⟩)]) (fun ((i, c, ys) : Nat × Nat × List Nat) => 4 - i) ⟨0, 0, [0, 0, 0, 0]⟩ ⟨Nat.zero_le _, by simp [Nat.mod_one], rfl, fun q hq => by omega⟩ (by repeat (first | exact Sub.nil _ | refine Sub.cons (by first | rfl | (rw [dgs_zero]; rfl) | (rw [List.drop_length]; rfl) | (simp; done) | (congr 2; omega) | (congr 3; omega)) ?_)) (by repeat (first | exact Sub.nil _ | refine Sub.cons (by first | rfl | (rw [dgs_zero]; rfl) | (rw [List.drop_length]; rfl) | (simp; done) | (congr 2; omega) | (congr 3; omega)) ?_)) ?_
  rintro ⟨i, c, ys⟩ ⟨hi, hc, hl, hy⟩
  try dsimp only at *
  have hcl : c ≤ 1 := by rw [hc]; exact add_carry_le x0 x1 i
  have hl0 := lim_lt x0 i
  have hl1 := lim_lt x1 i
  refine T.seq ?_
  refine T.text [.l] rfl ?_
  refine J.lss rfl rfl rfl rfl ?_
  refine J.end ?_
  refine X.then ?_
  refine T.seq ?_
  refine T.cond_dec rfl (fun h1 => ?_) (fun h1 => ?_)
  · have hi4 : i < 4 := by omega
    have hst := add_step x0 x1 i hi4
    refine T.skip ?_
    refine X.then ?_
    refine T.seq ?_
    refine T.block ?_
    refine T.seq ?_
    refine T.text [.l, .l] rfl ?_
    refine J.move rfl rfl ?_
    refine J.assign rfl rfl ?_
    refine J.end ?_
    refine X.then ?_
    refine T.draw [] [(0, .g), (1, .g), (2, .g), (3, .q), (4, .g), (5, .g), (6, .q), (7, .g), (8, .g), (9, .g), (10, .g), (11, .g), (12, .g), (13, .l), (14, .g)] (by kernel_rfl) (by kernel_rfl) ?_ (by repeat (first | exact Sub.nil _ | refine Sub.cons (by first | rfl | (rw [dgs_zero]; rfl) | (rw [List.drop_length]; rfl) | (simp; done) | (congr 2; omega) | (congr 3; omega)) ?_))
    refine J.move rfl rfl ?_
    refine J.move rfl rfl ?_
    refine J.indexArr arr25 rfl rfl (by omega) (by omega) (by first | exact Int.toNat_natCast _ | rfl) rfl ?_
    refine J.load1 (k := .q) trivial 2 rfl rfl one23 (by exact rowN_get0 _ _ _ (by rw [wl_length]; omega)) rfl ?_
    refine J.as 16 (.int .u64 ((lim x0 i : Nat) : Int)) rfl (by rw [wl_get _ _ (by omega)]) ?_
    refine J.move rfl rfl ?_
    refine J.indexArr arr25 rfl rfl (by omega) (by omega) (by first | exact Int.toNat_natCast _ | rfl) rfl ?_
    refine J.load1 (k := .q) trivial 3 rfl rfl one23 (by exact rowN_get0 _ _ _ (by rw [wl_length]; omega)) rfl ?_
    refine J.as 19 (.int .u64 ((lim x1 i : Nat) : Int)) rfl (by rw [wl_get _ _ (by omega)]) ?_
    refine J.move rfl rfl ?_
    refine J.add64 Try.func85 (by kernel_rfl) (by kernel_rfl) (by kernel_rfl) (by kernel_rfl) rfl rfl rfl (by omega) rfl ?_
    refine J.move rfl rfl ?_
    refine J.extract rfl rfl rfl ?_
    refine J.extract rfl rfl rfl ?_
    refine J.indexArr arr25 rfl rfl (by omega) (by omega) (by first | exact Int.toNat_natCast _ | rfl) rfl ?_
    refine J.store 6 rfl rfl rfl rfl [.int .u64 ((((lim x0 i + lim x1 i + c) % 18446744073709551616 : Nat)) : Int)] rfl sz23 (by rw [rowN_length, hl]; show _ + 1 ≤ 4; omega) (by first | exact rowN_one _ _ | (simp; done) | (intro u hu; simp at hu; subst hu; rfl) | (intro u hu; simp at hu; rcases hu with rfl | rfl <;> rfl)) (by first | decide | exact Nat.zero_lt_succ _ | simp) trivial (rowN .u64 (ys.set i ((lim x0 i + lim x1 i + c) % 18446744073709551616))) (by rw [Nat.zero_add, Nat.mul_one]; exact putN' _ _ _ _ (by omega)) ?_
    refine J.assign rfl rfl ?_
    refine J.end ?_
    refine X.inBlock (X.then ?_)
    refine T.text [.l, .l] rfl ?_
    refine J.add rfl rfl rfl (by first | exact add_nat _ 1 (by omega) | exact i64_ok _ (by omega) | exact rfl) ?_
    refine J.move rfl rfl ?_
    refine J.end ?_
    exact X.round ⟨(i + 1), ((lim x0 i + lim x1 i + c) / 18446744073709551616), (ys.set i ((lim x0 i + lim x1 i + c) % 18446744073709551616))⟩ ⟨by omega, by rw [hc]; exact hst.2, by simp [hl], fun q hq => by
          rw [getD_set _ _ _ _ (by omega)]
          split
          · rename_i hiq; subst hiq; rw [hc]; exact hst.1
          · exact hy q (by omega)⟩ (by first | omega | (dsimp only; omega)) (by repeat (first | exact Sub.nil _ | refine Sub.cons (by first | rfl | (rw [dgs_zero]; rfl) | (rw [List.drop_length]; rfl) | (simp; done) | (congr 2; omega) | (congr 3; omega)) ?_)) (by repeat (first | exact Sub.nil _ | refine Sub.cons (by first | rfl | (rw [dgs_zero]; rfl) | (rw [List.drop_length]; rfl) | (simp; done) | (congr 2; omega) | (congr 3; omega)) ?_))
  · obtain rfl : i = 4 := by omega
    obtain rfl : ys = wl (x0 + x1) := wl_of hl _ hy
    refine T.exit ?_
    refine X.then_exit (X.then_exit (X.inBlock_eq (X.then ?_)))
    refine T.seq ?_
    refine T.text [.l, .l, .l, .l] rfl ?_
    refine J.loadN (k := .l) trivial 6 rfl rfl agg25 (wc (x0 + x1)) rfl rfl rfl ?_
    refine J.move rfl rfl ?_
    refine J.store 4 rfl rfl rfl rfl (wc (x0 + x1)) rfl sz25 (by first | decide | exact Nat.le_refl _ | exact Nat.le_of_ble_eq_true rfl | (simp [rowN]; done) | (simp [rowN]; omega)) (by first | exact rowN_one _ _ | (simp; done) | (intro u hu; simp at hu; subst hu; rfl) | (intro u hu; simp at hu; rcases hu with rfl | rfl <;> rfl)) (by first | decide | exact Nat.zero_lt_succ _ | simp) trivial (wc (x0 + x1)) rfl ?_
    refine J.assign rfl rfl ?_
    refine J.end ?_
    refine X.then ?_
    refine T.ret ?_
    exact X.ret2 rfl (RV.agg 4 rfl rfl agg25 (wc (x0 + x1)) (by rfl) (by rfl) rfl) (RV.tmp rfl) (fun w' hw' => ⟨by first | (rw [hc]; done) | (rw [hc]; rfl), hw'.sub (Sub.nil _)⟩)

theorem minus (w : World) (x0 : Nat) (x1 : Nat) :
    Calls Try.prog 72 [W x0, W x1].toArray w fun e w' => e = .returned (.tuple #[W (dif x0 x1), .int .u64 ((if x0 % 2 ^ 256 < x1 % 2 ^ 256 then 1 else 0 : Nat) : Int)]) ∧ WS w [] [] w' := by
  refine calls_of_T [] 28 [] Try.func72 rfl Try.ntmps72 (by simp) (WS.refl _ _) ?_
  refine T.seq ?_
  refine T.text [.l, .l, .l, .l] rfl ?_
  refine J.box 2 rfl rfl (wc x0) rfl rfl (fun g2 hg2 => ?_)
  refine J.box 3 rfl rfl (wc x1) rfl rfl (fun g3 hg3 => ?_)
  refine J.alloc 4 rfl zero25 [.int .u64 0, .int .u64 0, .int .u64 0, .int .u64 0] rfl rfl (fun g4 hg4 => ?_)
  refine J.assign rfl rfl ?_
  refine J.end ?_
  refine X.then ?_
  refine T.seq ?_
  refine T.text [.l] rfl ?_
  refine J.alloc 6 rfl zero25 [.int .u64 0, .int .u64 0, .int .u64 0, .int .u64 0] rfl rfl (fun g6 hg6 => ?_)
  refine J.end ?_
  refine X.then ?_
  refine T.seq ?_
  refine T.text [.l] rfl ?_
  refine J.assign rfl rfl ?_
  refine J.end ?_
  refine X.then ?_
  refine T.seq ?_
  refine T.seq ?_
  refine T.text [.l] rfl ?_
  refine J.move rfl rfl ?_
  refine J.end ?_
  refine X.then ?_
  refine T.block ?_
  refine T.loop (ι := Nat × Nat × List Nat) (fun ((i, c, ys) : Nat × Nat × List Nat) => i ≤ 4 ∧ c = bor x0 x1 i ∧ ys.length = 4 ∧ ∀ q, q < i → ys.getD q 0 = lim (dif x0 x1) q) (fun ((i, c, ys) : Nat × Nat × List Nat) => [(0, W x0), (1, W x1), (2, .pointer (some ⟨g2, 0, none⟩)), (3, .pointer (some ⟨g3, 0, none⟩)), (4, .pointer (some ⟨g4, 0, none⟩)), (5, .int .u64 0), (6, .pointer (some ⟨g6, 0, none⟩)), (7, .int .u64 (c : Int)), (9, .int .i64 (i : Int))]) (fun ((i, c, ys) : Nat × Nat × List Nat) => [(2, ⟨some g2, 25, (wc x0)⟩), (3, ⟨some g3, 25, (wc x1)⟩), (4, ⟨some g4, 25, [.int .u64 0, .int .u64 0, .int .u64 0, .int .u64 0]⟩), (6, ⟨some g6, 25, rowN .u64 ys⟩)]) (fun ((i, c, ys) : Nat × Nat × List Nat) => 4 - i) ⟨0, 0, [0, 0, 0, 0]⟩ ⟨Nat.zero_le _, (bor_zero x0 x1).symm, rfl, fun q hq => by omega⟩ (by repeat (first | exact Sub.nil _ | refine Sub.cons (by first | rfl | (rw [dgs_zero]; rfl) | (rw [List.drop_length]; rfl) | (simp; done) | (congr 2; omega) | (congr 3; omega)) ?_)) (by repeat (first | exact Sub.nil _ | refine Sub.cons (by first | rfl | (rw [dgs_zero]; rfl) | (rw [List.drop_length]; rfl) | (simp; done) | (congr 2; omega) | (congr 3; omega)) ?_)) ?_
  rintro ⟨i, c, ys⟩ ⟨hi, hc, hl, hy⟩
  try dsimp only at *
  have hcl : c ≤ 1 := by rw [hc]; exact bor_le x0 x1 i
  have hl0 := lim_lt x0 i
  have hl1 := lim_lt x1 i
  refine T.seq ?_
  refine T.text [.l] rfl ?_
  refine J.lss rfl rfl rfl rfl ?_
  refine J.end ?_
  refine X.then ?_
  refine T.seq ?_
  refine T.cond_dec rfl (fun h1 => ?_) (fun h1 => ?_)
  · have hi4 : i < 4 := by omega
    have hst := sub_step x0 x1 i hi4
    refine T.skip ?_
    refine X.then ?_
    refine T.seq ?_
    refine T.block ?_
    refine T.seq ?_
    refine T.text [.l, .l] rfl ?_
    refine J.move rfl rfl ?_
    refine J.assign rfl rfl ?_
    refine J.end ?_
    refine X.then ?_
    refine T.draw [] [(0, .g), (1, .g), (2, .g), (3, .q), (4, .g), (5, .g), (6, .q), (7, .g), (8, .g), (9, .g), (10, .g), (11, .g), (12, .g), (13, .l), (14, .g)] (by kernel_rfl) (by kernel_rfl) ?_ (by repeat (first | exact Sub.nil _ | refine Sub.cons (by first | rfl | (rw [dgs_zero]; rfl) | (rw [List.drop_length]; rfl) | (simp; done) | (congr 2; omega) | (congr 3; omega)) ?_))
    refine J.move rfl rfl ?_
    refine J.move rfl rfl ?_
    refine J.indexArr arr25 rfl rfl (by omega) (by omega) (by first | exact Int.toNat_natCast _ | rfl) rfl ?_
    refine J.load1 (k := .q) trivial 2 rfl rfl one23 (by exact rowN_get0 _ _ _ (by rw [wl_length]; omega)) rfl ?_
    refine J.as 16 (.int .u64 ((lim x0 i : Nat) : Int)) rfl (by rw [wl_get _ _ (by omega)]) ?_
    refine J.move rfl rfl ?_
    refine J.indexArr arr25 rfl rfl (by omega) (by omega) (by first | exact Int.toNat_natCast _ | rfl) rfl ?_
    refine J.load1 (k := .q) trivial 3 rfl rfl one23 (by exact rowN_get0 _ _ _ (by rw [wl_length]; omega)) rfl ?_
    refine J.as 19 (.int .u64 ((lim x1 i : Nat) : Int)) rfl (by rw [wl_get _ _ (by omega)]) ?_
    refine J.move rfl rfl ?_
    refine J.sub64 Try.func86 (by kernel_rfl) (by kernel_rfl) (by kernel_rfl) (by kernel_rfl) rfl rfl rfl (by omega) rfl ?_
    refine J.move rfl rfl ?_
    refine J.extract rfl rfl rfl ?_
    refine J.extract rfl rfl rfl ?_
    refine J.indexArr arr25 rfl rfl (by omega) (by omega) (by first | exact Int.toNat_natCast _ | rfl) rfl ?_
    refine J.store 6 rfl rfl rfl rfl [.int .u64 ((((lim x0 i + 18446744073709551616 - lim x1 i - c) % 18446744073709551616 : Nat)) : Int)] rfl sz23 (by rw [rowN_length, hl]; show _ + 1 ≤ 4; omega) (by first | exact rowN_one _ _ | (simp; done) | (intro u hu; simp at hu; subst hu; rfl) | (intro u hu; simp at hu; rcases hu with rfl | rfl <;> rfl)) (by first | decide | exact Nat.zero_lt_succ _ | simp) trivial (rowN .u64 (ys.set i ((lim x0 i + 18446744073709551616 - lim x1 i - c) % 18446744073709551616))) (by rw [Nat.zero_add, Nat.mul_one]; exact putN' _ _ _ _ (by omega)) ?_
    refine J.assign rfl rfl ?_
    refine J.end ?_
    refine X.inBlock (X.then ?_)
    refine T.text [.l, .l] rfl ?_
    refine J.add rfl rfl rfl (by first | exact add_nat _ 1 (by omega) | exact i64_ok _ (by omega) | exact rfl) ?_
    refine J.move rfl rfl ?_
    refine J.end ?_
    exact X.round ⟨(i + 1), (if lim x0 i < lim x1 i + c then 1 else 0), (ys.set i ((lim x0 i + 18446744073709551616 - lim x1 i - c) % 18446744073709551616))⟩ ⟨by omega, by rw [hc]; exact hst.2, by simp [hl], fun q hq => by
          rw [getD_set _ _ _ _ (by omega)]
          split
          · rename_i hiq; subst hiq; rw [hc]; exact hst.1
          · exact hy q (by omega)⟩ (by first | omega | (dsimp only; omega)) (by repeat (first | exact Sub.nil _ | refine Sub.cons (by first | rfl | (rw [dgs_zero]; rfl) | (rw [List.drop_length]; rfl) | (simp; done) | (congr 2; omega) | (congr 3; omega)) ?_)) (by repeat (first | exact Sub.nil _ | refine Sub.cons (by first | rfl | (rw [dgs_zero]; rfl) | (rw [List.drop_length]; rfl) | (simp; done) | (congr 2; omega) | (congr 3; omega)) ?_))
  · obtain rfl : i = 4 := by omega
    obtain rfl : ys = wl (dif x0 x1) := wl_of hl _ hy
    refine T.exit ?_
    refine X.then_exit (X.then_exit (X.inBlock_eq (X.then ?_)))
    refine T.seq ?_
    refine T.text [.l, .l, .l, .l] rfl ?_
    refine J.loadN (k := .l) trivial 6 rfl rfl agg25 (wc (dif x0 x1)) rfl rfl rfl ?_
    refine J.move rfl rfl ?_
    refine J.store 4 rfl rfl rfl rfl (wc (dif x0 x1)) rfl sz25 (by first | decide | exact Nat.le_refl _ | exact Nat.le_of_ble_eq_true rfl | (simp [rowN]; done) | (simp [rowN]; omega)) (by first | exact rowN_one _ _ | (simp; done) | (intro u hu; simp at hu; subst hu; rfl) | (intro u hu; simp at hu; rcases hu with rfl | rfl <;> rfl)) (by first | decide | exact Nat.zero_lt_succ _ | simp) trivial (wc (dif x0 x1)) rfl ?_
    refine J.assign rfl rfl ?_
    refine J.end ?_
    refine X.then ?_
    refine T.ret ?_
    exact X.ret2 rfl (RV.agg 4 rfl rfl agg25 (wc (dif x0 x1)) (by rfl) (by rfl) rfl) (RV.tmp rfl) (fun w' hw' => ⟨by first | (rw [hc]; done) | (rw [hc]; rfl), hw'.sub (Sub.nil _)⟩)

theorem Lt (w : World) (x0 : Nat) (x1 : Nat) :
    Calls Try.prog 52 [W x0, W x1].toArray w fun e w' => e = .returned (.bool (decide (x0 % 2 ^ 256 < x1 % 2 ^ 256))) ∧ WS w [] [] w' := by
  refine calls_of_T [] 15 [] Try.func52 rfl Try.ntmps52 (by simp) (WS.refl _ _) ?_
  refine T.seq ?_
  refine T.text [.l, .l, .l] rfl ?_
  refine J.box 2 rfl rfl (wc x0) rfl rfl (fun g2 hg2 => ?_)
  refine J.box 3 rfl rfl (wc x1) rfl rfl (fun g3 hg3 => ?_)
  refine J.assign rfl rfl ?_
  refine J.end ?_
  refine X.then ?_
  refine T.seq ?_
  refine T.text [.l, .l, .l, .l, .l, .l, .l, .l, .l] rfl ?_
  refine J.loadN (k := .l) trivial 2 rfl rfl agg25 (wc x0) rfl rfl rfl ?_
  refine J.loadN (k := .l) trivial 3 rfl rfl agg25 (wc x1) rfl rfl rfl ?_
  refine J.call0 (k := .l) trivial fok72 rfl rfl (fun w hw => Wa.minus w _ _) ?_
  refine J.move rfl rfl ?_
  refine J.extract rfl rfl rfl ?_
  refine J.extract rfl rfl rfl ?_
  refine J.alloc 5 rfl zero25 [.int .u64 0, .int .u64 0, .int .u64 0, .int .u64 0] rfl rfl (fun g5 hg5 => ?_)
  refine J.store 5 rfl rfl rfl rfl (wc (dif x0 x1)) rfl sz25 (by first | decide | exact Nat.le_refl _ | exact Nat.le_of_ble_eq_true rfl | (simp [rowN]; done) | (simp [rowN]; omega)) (by first | exact rowN_one _ _ | (simp; done) | (intro u hu; simp at hu; subst hu; rfl) | (intro u hu; simp at hu; rcases hu with rfl | rfl <;> rfl)) (by first | decide | exact Nat.zero_lt_succ _ | simp) trivial (wc (dif x0 x1)) rfl ?_
  refine J.assign rfl rfl ?_
  refine J.end ?_
  refine X.then ?_
  refine T.seq ?_
  refine T.text [.l, .l, .l] rfl ?_
  refine J.move rfl rfl ?_
  refine J.eql rfl rfl rfl rfl ?_
  refine J.assign rfl rfl ?_
  refine J.end ?_
  refine X.then ?_
  refine T.ret ?_
  exact X.ret1 rfl (RV.tmp rfl) (fun w' hw' => ⟨by congr 2; split <;> simp_all, hw'.sub (Sub.nil _)⟩)

theorem Gt (w : World) (x0 : Nat) (x1 : Nat) :
    Calls Try.prog 70 [W x0, W x1].toArray w fun e w' => e = .returned (.bool (decide (x1 % 2 ^ 256 < x0 % 2 ^ 256))) ∧ WS w [] [] w' := by
  refine calls_of_T [] 8 [] Try.func70 rfl Try.ntmps70 (by simp) (WS.refl _ _) ?_
  refine T.seq ?_
  refine T.text [.l, .l, .l] rfl ?_
  refine J.box 2 rfl rfl (wc x0) rfl rfl (fun g2 hg2 => ?_)
  refine J.box 3 rfl rfl (wc x1) rfl rfl (fun g3 hg3 => ?_)
  refine J.assign rfl rfl ?_
  refine J.end ?_
  refine X.then ?_
  refine T.seq ?_
  refine T.text [.l, .l, .l, .l] rfl ?_
  refine J.loadN (k := .l) trivial 3 rfl rfl agg25 (wc x1) rfl rfl rfl ?_
  refine J.loadN (k := .l) trivial 2 rfl rfl agg25 (wc x0) rfl rfl rfl ?_
  refine J.call0 (k := .l) trivial fok52 rfl rfl (fun w hw => Wa.Lt w _ _) ?_
  refine J.assign rfl rfl ?_
  refine J.end ?_
  refine X.then ?_
  refine T.ret ?_
  exact X.ret1 rfl (RV.tmp rfl) (fun w' hw' => ⟨rfl, hw'.sub (Sub.nil _)⟩)

theorem IsZero (w : World) (x0 : Nat) :
    Calls Try.prog 69 [W x0].toArray w fun e w' => e = .returned (.bool (decide (x0 % 2 ^ 256 = 0))) ∧ WS w [] [] w' := by
  refine calls_of_T [] 6 [] Try.func69 rfl Try.ntmps69 (by simp) (WS.refl _ _) ?_
  refine T.seq ?_
  refine T.text [.l, .l] rfl ?_
  refine J.box 1 rfl rfl (wc x0) rfl rfl (fun g1 hg1 => ?_)
  refine J.assign rfl rfl ?_
  refine J.end ?_
  refine X.then ?_
  refine T.seq ?_
  refine T.text [.l, .l, .l, .l] rfl ?_
  refine J.loadN (k := .l) trivial 1 rfl rfl agg25 (wc x0) rfl rfl rfl ?_
  refine J.build rfl rfl (W 0) (fun w => by kernel_rfl) ?_
  refine J.eqW eqw25 rfl rfl rfl ?_
  refine J.assign rfl rfl ?_
  refine J.end ?_
  refine X.then ?_
  refine T.ret ?_
  exact X.ret1 rfl (RV.tmp rfl) (fun w' hw' => ⟨rfl, hw'.sub (Sub.nil _)⟩)

theorem ahead (w : World) (x0 : Nat) :
    Calls Try.prog 87 [W x0].toArray w fun e w' => e = .returned (.int .i64 ((256 - bitLen (x0 % 2 ^ 256) : Nat) : Int)) ∧ WS w [] [] w' := by
  refine calls_of_T [] 20 [] Try.func87 rfl Try.ntmps87 (by simp) (WS.refl _ _) ?_
  refine T.seq ?_
  refine T.text [.l, .l] rfl ?_
  refine J.box 1 rfl rfl (wc x0) rfl rfl (fun g1 hg1 => ?_)
  refine J.assign rfl rfl ?_
  refine J.end ?_
  refine X.then ?_
  refine T.seq ?_
  refine T.text [.l] rfl ?_
  refine J.assign rfl rfl ?_
  refine J.end ?_
  refine X.then ?_
  refine T.seq ?_
  refine T.seq ?_
  refine T.text [.l] rfl ?_
  refine J.assign rfl rfl ?_
  refine J.end ?_
  refine X.then ?_
  refine T.block ?_
  refine T.loop (ι := Nat) (fun (j : Nat) => j ≤ 4 ∧ ∀ q, j ≤ q → q < 4 → lim x0 q = 0) (fun (j : Nat) => [(0, W x0), (1, .pointer (some ⟨g1, 0, none⟩)), (2, .int .i64 0), (3, .int .i64 ((256 - 64 * j : Nat) : Int)), (4, .int .i64 ((j : Int) - 1))]) (fun (j : Nat) => [(1, ⟨some g1, 25, (wc x0)⟩)]) (fun (j : Nat) => j) 4 ⟨Nat.le_refl _, fun q h1 h2 => by omega⟩ (by repeat (first | exact Sub.nil _ | refine Sub.cons (by first | rfl | (rw [dgs_zero]; rfl) | (rw [List.drop_length]; rfl) | (simp; done) | (congr 2; omega) | (congr 3; omega)) ?_)) (by repeat (first | exact Sub.nil _ | refine Sub.cons (by first | rfl | (rw [dgs_zero]; rfl) | (rw [List.drop_length]; rfl) | (simp; done) | (congr 2; omega) | (congr 3; omega)) ?_)) ?_
  rintro j ⟨hj, hz⟩
  refine T.seq ?_
  refine T.seq ?_
  refine T.text [.l, .l] rfl ?_
  refine J.move rfl rfl ?_
  refine J.geq rfl rfl rfl rfl ?_
  refine J.end ?_
  refine X.then ?_
  refine T.cond_dec rfl (fun h1 => ?_) (fun h1 => ?_)
  · obtain ⟨i, rfl⟩ : ∃ i, j = i + 1 := ⟨j - 1, by omega⟩
    refine T.as 4 (.int .i64 (i : Int)) rfl (by congr 1; omega) ?_
    have hll := lim_lt x0 i
    have hbl := bitLen_le64 (lim x0 i) hll
    refine T.skip ?_
    refine X.then ?_
    refine T.seq ?_
    refine T.block ?_
    refine T.seq ?_
    refine T.text [.l, .l, .l, .l, .l] rfl ?_
    refine J.move rfl rfl ?_
    refine J.indexArr arr25 rfl rfl (by omega) (by omega) (by first | exact Int.toNat_natCast _ | rfl) rfl ?_
    refine J.load1 (k := .l) trivial 1 rfl rfl one23 (by exact rowN_get0 _ _ _ (by rw [wl_length]; omega)) rfl ?_
    refine J.as 12 (.int .u64 ((lim x0 i : Nat) : Int)) rfl (by rw [wl_get _ _ (by omega)]) ?_
    refine J.call0 (k := .l) trivial fok108 rfl rfl (fun w hw => Wa.LeadingZeros64 w _ hll) ?_
    refine J.assign rfl rfl ?_
    refine J.end ?_
    refine X.then ?_
    refine T.seq ?_
    refine T.text [.l, .l, .l, .l] rfl ?_
    refine J.move rfl rfl ?_
    refine J.move rfl rfl ?_
    refine J.add rfl rfl rfl (by first | exact add_nat _ _ (by omega) | exact i64_ok _ (by omega) | exact rfl) ?_
    refine J.assign rfl rfl ?_
    refine J.end ?_
    refine X.then ?_
    refine T.seq ?_
    refine T.text [.l, .l] rfl ?_
    refine J.move rfl rfl ?_
    refine J.lss rfl rfl rfl rfl ?_
    refine J.end ?_
    refine X.then ?_
    refine T.cond_dec rfl (fun h2 => ?_) (fun h2 => ?_)
    · have hne : lim x0 i ≠ 0 := fun e => by rw [e, bitLen_zero] at h2; omega
      have hbe := bitLen_limb x0 i (by omega) (fun q h1 h2 => hz q (by omega) h2) hne
      refine T.exit ?_
      refine X.inBlock_ne rfl (X.then_exit (X.then_exit (X.inBlock_eq (X.then ?_))))
      refine T.seq ?_
      refine T.text [.l, .l] rfl ?_
      refine J.move rfl rfl ?_
      refine J.assign rfl rfl ?_
      refine J.end ?_
      refine X.then ?_
      refine T.ret ?_
      exact X.ret1 rfl (RV.tmp rfl) (fun w' hw' => ⟨by congr 2; omega, hw'.sub (Sub.nil _)⟩)
    · refine T.as 3 (.int .i64 ((256 - 64 * i : Nat) : Int)) rfl (by congr 2; omega) ?_
      refine T.skip ?_
      refine X.inBlock (X.then ?_)
      refine T.text [.l, .l, .l] rfl ?_
      refine J.move rfl rfl ?_
      refine J.sub' rfl rfl rfl (by first | exact sub_nat _ 1 (by omega) | exact i64_ok _ (by omega) | exact rfl) ?_
      refine J.assign rfl rfl ?_
      refine J.end ?_
      exact X.round i ⟨by omega, fun q h3 h4 => (Nat.lt_or_ge i q).elim (fun h => hz q h h4) (fun h => by obtain rfl : q = i := (by omega); exact Classical.byContradiction fun hne => by have := bitLen_pos _ hne; omega)⟩ (by first | omega | (dsimp only; omega)) (by repeat (first | exact Sub.nil _ | refine Sub.cons (by first | rfl | (rw [dgs_zero]; rfl) | (rw [List.drop_length]; rfl) | (simp; done) | (congr 2; omega) | (congr 3; omega)) ?_)) (by repeat (first | exact Sub.nil _ | refine Sub.cons (by first | rfl | (rw [dgs_zero]; rfl) | (rw [List.drop_length]; rfl) | (simp; done) | (congr 2; omega) | (congr 3; omega)) ?_))
  · obtain rfl : j = 0 := by omega
    have hbn := bitLen_none x0 (fun q hq => hz q (Nat.zero_le _) hq)
    refine T.exit ?_
    refine X.then_exit (X.then_exit (X.inBlock_eq (X.then ?_)))
    refine T.seq ?_
    refine T.text [.l, .l] rfl ?_
    refine J.move rfl rfl ?_
    refine J.assign rfl rfl ?_
    refine J.end ?_
    refine X.then ?_
    refine T.ret ?_
    exact X.ret1 rfl (RV.tmp rfl) (fun w' hw' => ⟨by congr 2; omega, hw'.sub (Sub.nil _)⟩)

theorem Size (w : World) (x0 : Nat) :
    Calls Try.prog 73 [W x0].toArray w fun e w' => e = .returned (.int .i64 (sizeN x0 : Int)) ∧ WS w [] [] w' := by
  have hb := bitLen_le256 x0
  have hs := sizeN_bitLen x0
  refine calls_of_T [] 7 [] Try.func73 rfl Try.ntmps73 (by simp) (WS.refl _ _) ?_
  refine T.seq ?_
  refine T.text [.l, .l] rfl ?_
  refine J.box 1 rfl rfl (wc x0) rfl rfl (fun g1 hg1 => ?_)
  refine J.assign rfl rfl ?_
  refine J.end ?_
  refine X.then ?_
  refine T.seq ?_
  refine T.text [.l, .l, .l, .l, .l] rfl ?_
  refine J.loadN (k := .l) trivial 1 rfl rfl agg25 (wc x0) rfl rfl rfl ?_
  refine J.call0 (k := .l) trivial fok87 rfl rfl (fun w hw => Wa.ahead w _) ?_
  refine J.sub' rfl rfl rfl (by first | exact sub_nat 263 _ (by omega) | exact i64_ok _ (by omega) | exact rfl) ?_
  refine J.quo rfl rfl rfl (by omega) (by first | exact quo_nat _ 8 (by omega) | exact i64_quo_ok _ _ (by omega) | exact rfl) ?_
  refine J.assign rfl rfl ?_
  refine J.end ?_
  refine X.then ?_
  refine T.ret ?_
  exact X.ret1 rfl (RV.tmp rfl) (fun w' hw' => ⟨by congr 2; omega, hw'.sub (Sub.nil _)⟩)

theorem Uint (w : World) (x0 : Nat) :
    Calls Try.prog 53 [W x0].toArray w fun e w' => e = .returned (.tuple #[.int .u64 ((if sizeN x0 > 8 then 0 else lim x0 0 : Nat) : Int), .bool (decide (¬ sizeN x0 > 8))]) ∧ WS w [] [] w' := by
  refine calls_of_T [] 9 [] Try.func53 rfl Try.ntmps53 (by simp) (WS.refl _ _) ?_
  refine T.seq ?_
  refine T.text [.l, .l, .l] rfl ?_
  refine J.box 1 rfl rfl (wc x0) rfl rfl (fun g1 hg1 => ?_)
  refine J.assign rfl rfl ?_
  refine J.assign rfl rfl ?_
  refine J.end ?_
  refine X.then ?_
  refine T.seq ?_
  refine T.seq ?_
  refine T.text [.l, .l, .l] rfl ?_
  refine J.loadN (k := .l) trivial 1 rfl rfl agg25 (wc x0) rfl rfl rfl ?_
  refine J.call0 (k := .l) trivial fok73 rfl rfl (fun w hw => Wa.Size w _) ?_
  refine J.gtr rfl rfl rfl rfl ?_
  refine J.end ?_
  refine X.then ?_
  refine T.cond_dec rfl (fun h1 => ?_) (fun h1 => ?_)
  · skip
    refine T.seq ?_
    refine T.text [.l, .l] rfl ?_
    refine J.assign rfl rfl ?_
    refine J.assign rfl rfl ?_
    refine J.end ?_
    refine X.then ?_
    refine T.ret ?_
    refine X.then_ret ?_
    exact X.ret2 rfl (RV.tmp rfl) (RV.tmp rfl) (fun w' hw' => ⟨by rw [if_pos (by omega), decide_eq_false (by omega)]; rfl, hw'.sub (Sub.nil _)⟩)
  · skip
    refine T.skip ?_
    refine X.then ?_
    refine T.seq ?_
    refine T.text [.l, .l, .l, .l] rfl ?_
    refine J.indexArr arr25 rfl rfl (by omega) (by omega) (by rfl) rfl ?_
    refine J.load1 (k := .l) trivial 1 rfl rfl one23 rfl rfl ?_
    refine J.assign rfl rfl ?_
    refine J.assign rfl rfl ?_
    refine J.end ?_
    refine X.then ?_
    refine T.ret ?_
    exact X.ret2 rfl (RV.tmp rfl) (RV.tmp rfl) (fun w' hw' => ⟨by rw [if_neg (by omega), decide_eq_true (by omega)], hw'.sub (Sub.nil _)⟩)

theorem Sum (w : World) (A0 : Option Addr) (c0 : Nat) (xs0 : List Nat) (hc0 : Cs w A0 (rowW xs0)) (hb0 : xs0.length ≤ 9223372036854775807) :
    Calls Try.prog 51 [.slice A0 xs0.length c0].toArray w fun e w' => e = .returned (.tuple #[W (if sumN xs0 < 2 ^ 256 then sumN xs0 else 0), .bool (decide (sumN xs0 < 2 ^ 256))]) ∧ WS w [] [] w' := by
  refine calls_of_T [] 25 [] Try.func51 rfl Try.ntmps51 (by simp) (WS.refl _ _) ?_
  refine T.seq ?_
  refine T.text [.l, .l] rfl ?_
  refine J.alloc 2 rfl zero25 [.int .u64 0, .int .u64 0, .int .u64 0, .int .u64 0] rfl rfl (fun g2 hg2 => ?_)
  refine J.assign rfl rfl ?_
  refine J.end ?_
  refine X.then ?_
  refine T.seq ?_
  refine T.text [.l] rfl ?_
  refine J.alloc 4 rfl zero25 [.int .u64 0, .int .u64 0, .int .u64 0, .int .u64 0] rfl rfl (fun g4 hg4 => ?_)
  refine J.end ?_
  refine X.then ?_
  refine T.seq ?_
  refine T.seq ?_
  refine T.text [.l, .l, .l] rfl ?_
  refine J.move rfl rfl ?_
  refine J.lenSl Try.underlying32 rfl rfl ?_
  refine J.move rfl rfl ?_
  refine J.end ?_
  refine X.then ?_
  refine T.block ?_
  refine T.asE 4 ⟨some g4, 25, wc (sumN (xs0.take 0))⟩ rfl (by rw [show sumN (xs0.take 0) = 0 by simp [sumN]]; rfl) ?_
  refine T.loop (ι := Nat) (fun (i : Nat) => i ≤ xs0.length ∧ sumN (xs0.take i) < 2 ^ 256) (fun (i : Nat) => [(0, .slice A0 xs0.length c0), (2, .pointer (some ⟨g2, 0, none⟩)), (4, .pointer (some ⟨g4, 0, none⟩)), (8, .slice A0 xs0.length c0), (9, .int .i64 ((xs0.length : Nat) : Int)), (10, .int .i64 (i : Int))]) (fun (i : Nat) => [(2, ⟨some g2, 25, [.int .u64 0, .int .u64 0, .int .u64 0, .int .u64 0]⟩), (4, ⟨some g4, 25, wc (sumN (xs0.take i))⟩)]) (fun (i : Nat) => xs0.length - i) 0 ⟨Nat.zero_le _, by simp [sumN]⟩ (by repeat (first | exact Sub.nil _ | refine Sub.cons (by first | rfl | (rw [dgs_zero]; rfl) | (rw [List.drop_length]; rfl) | (simp; done) | (congr 2; omega) | (congr 3; omega)) ?_)) (by repeat (first | exact Sub.nil _ | refine Sub.cons (by first | rfl | (rw [dgs_zero]; rfl) | (rw [List.drop_length]; rfl) | (simp; done) | (congr 2; omega) | (congr 3; omega)) ?_)) ?_
  rintro i ⟨hi, hs⟩
  refine T.seq ?_
  refine T.text [.l] rfl ?_
  refine J.lss rfl rfl rfl rfl ?_
  refine J.end ?_
  refine X.then ?_
  refine T.seq ?_
  refine T.cond_dec rfl (fun h1 => ?_) (fun h1 => ?_)
  · skip
    refine T.skip ?_
    refine X.then ?_
    refine T.seq ?_
    refine T.block ?_
    refine T.seq ?_
    refine T.text [.l, .l, .l, .l] rfl ?_
    refine J.indexSlI sl32 rfl (Cs.isSomeW hc0 (by omega)) rfl (by omega) (by omega) (by first | exact Int.toNat_natCast _ | rfl) rfl ?_
    refine J.loadIW (k := .l) trivial hc0 (off_nil _) rfl agg25 (by first | rfl | with_reducible exact rowW_seg0 _ _ _ (by omega) | with_reducible exact rowW_seg00 _ _ (by omega) | with_reducible exact rowW_segs _ _ _ (by omega) | with_reducible exact rowW_seg _ _ (by omega) | with_reducible exact rowW_segb _ _ _ (by omega) | exact rowW_seg _ _ (by omega) | exact rowW_segs _ _ _ (by omega)) rfl ?_
    have hts : sumN (xs0.take (i + 1)) = sumN (xs0.take i) + xs0.getD i 0 % 2 ^ 256 := by rw [take_succ_getD _ _ (by omega), sumN_snoc]
    have hml := Nat.mod_lt (xs0.getD i 0) (show 2 ^ 256 > 0 by decide)
    have hme := Nat.mod_eq_of_lt hs
    refine J.alloc 6 rfl zero25 [.int .u64 0, .int .u64 0, .int .u64 0, .int .u64 0] rfl rfl (fun g6 hg6 => ?_)
    refine J.store 6 rfl rfl rfl rfl (wc (xs0.getD i 0)) rfl sz25 (by first | decide | exact Nat.le_refl _ | exact Nat.le_of_ble_eq_true rfl | (simp [rowN]; done) | (simp [rowN]; omega)) (by first | exact rowN_one _ _ | (simp; done) | (intro u hu; simp at hu; subst hu; rfl) | (intro u hu; simp at hu; rcases hu with rfl | rfl <;> rfl)) (by first | decide | exact Nat.zero_lt_succ _ | simp) trivial (wc (xs0.getD i 0)) rfl ?_
    refine J.end ?_
    refine X.then ?_
    refine T.seq ?_
    refine T.text [.l] rfl ?_
    refine J.assign rfl rfl ?_
    refine J.end ?_
    refine X.then ?_
    refine T.seq ?_
    refine T.text [.l, .l, .l, .l, .l, .l, .l, .l] rfl ?_
    refine J.loadN (k := .l) trivial 4 rfl rfl agg25 (wc (sumN (xs0.take i))) rfl rfl rfl ?_
    refine J.loadN (k := .l) trivial 6 rfl rfl agg25 (wc (xs0.getD i 0)) rfl rfl rfl ?_
    refine J.call0 (k := .l) trivial fok71 rfl rfl (fun w hw => Wa.plus w _ _) ?_
    refine J.move rfl rfl ?_
    refine J.extract rfl rfl rfl ?_
    refine J.as 18 (W (sumN (xs0.take i) + xs0.getD i 0 % 2 ^ 256)) rfl (W_congr (by omega)) ?_
    refine J.extract rfl rfl rfl ?_
    refine J.store 4 rfl rfl rfl rfl (wc (sumN (xs0.take i) + xs0.getD i 0 % 2 ^ 256)) rfl sz25 (by first | decide | exact Nat.le_refl _ | exact Nat.le_of_ble_eq_true rfl | (simp [rowN]; done) | (simp [rowN]; omega)) (by first | exact rowN_one _ _ | (simp; done) | (intro u hu; simp at hu; subst hu; rfl) | (intro u hu; simp at hu; rcases hu with rfl | rfl <;> rfl)) (by first | decide | exact Nat.zero_lt_succ _ | simp) trivial (wc (sumN (xs0.take i) + xs0.getD i 0 % 2 ^ 256)) rfl ?_
    refine J.assign rfl rfl ?_
    refine J.end ?_
    refine X.then ?_
    refine T.seq ?_
    refine T.text [.l, .l] rfl ?_
    refine J.move rfl rfl ?_
    refine J.gtr rfl rfl rfl rfl ?_
    refine J.end ?_
    refine X.then ?_
    refine T.cond_dec rfl (fun h2 => ?_) (fun h2 => ?_)
    · have hle := sumN_take_le xs0 (i + 1)
      rw [hme] at h2
      refine T.seq ?_
      refine T.text [.l, .l, .l] rfl ?_
      refine J.build rfl rfl (W 0) (fun w => by kernel_rfl) ?_
      refine J.store 2 rfl rfl rfl rfl (wc 0) rfl sz25 (by first | decide | exact Nat.le_refl _ | exact Nat.le_of_ble_eq_true rfl | (simp [rowN]; done) | (simp [rowN]; omega)) (by first | exact rowN_one _ _ | (simp; done) | (intro u hu; simp at hu; subst hu; rfl) | (intro u hu; simp at hu; rcases hu with rfl | rfl <;> rfl)) (by first | decide | exact Nat.zero_lt_succ _ | simp) trivial (wc 0) rfl ?_
      refine J.assign rfl rfl ?_
      refine J.end ?_
      refine X.then ?_
      refine T.ret ?_
      refine X.inBlock_ret (X.then_ret (X.then_ret (X.inBlock_ret (X.then_ret ?_))))
      exact X.ret2 rfl (RV.agg 2 rfl rfl agg25 (wc 0) (by rfl) (by rfl) rfl) (RV.tmp rfl) (fun w' hw' => ⟨by rw [if_neg (by omega), decide_eq_false (by omega)], hw'.sub (Sub.nil _)⟩)
    · rw [hme] at h2
      refine T.skip ?_
      refine X.inBlock (X.then ?_)
      refine T.text [.l, .l] rfl ?_
      refine J.add rfl rfl rfl (by first | exact add_nat _ 1 (by omega) | exact i64_ok _ (by omega) | exact rfl) ?_
      refine J.move rfl rfl ?_
      refine J.end ?_
      exact X.round (i + 1) ⟨by omega, by rw [hts]; omega⟩ (by first | omega | (dsimp only; omega)) (by repeat (first | exact Sub.nil _ | refine Sub.cons (by first | rfl | (rw [dgs_zero]; rfl) | (rw [List.drop_length]; rfl) | (simp; done) | (congr 2; omega) | (congr 3; omega)) ?_)) (by repeat (first | exact Sub.nil _ | refine Sub.cons (by first | rfl | (rw [hts]; rfl)) ?_))
  · obtain rfl : i = xs0.length := by omega
    rw [List.take_length] at hs
    rw [List.take_length]
    refine T.exit ?_
    refine X.then_exit (X.then_exit (X.inBlock_eq (X.then ?_)))
    refine T.seq ?_
    refine T.text [.l, .l, .l] rfl ?_
    refine J.loadN (k := .l) trivial 4 rfl rfl agg25 (wc (sumN xs0)) rfl rfl rfl ?_
    refine J.store 2 rfl rfl rfl rfl (wc (sumN xs0)) rfl sz25 (by first | decide | exact Nat.le_refl _ | exact Nat.le_of_ble_eq_true rfl | (simp [rowN]; done) | (simp [rowN]; omega)) (by first | exact rowN_one _ _ | (simp; done) | (intro u hu; simp at hu; subst hu; rfl) | (intro u hu; simp at hu; rcases hu with rfl | rfl <;> rfl)) (by first | decide | exact Nat.zero_lt_succ _ | simp) trivial (wc (sumN xs0)) rfl ?_
    refine J.assign rfl rfl ?_
    refine J.end ?_
    refine X.then ?_
    refine T.ret ?_
    exact X.ret2 rfl (RV.agg 2 rfl rfl agg25 (wc (sumN xs0)) (by rfl) (by rfl) rfl) (RV.tmp rfl) (fun w' hw' => ⟨by rw [if_pos hs, decide_eq_true hs], hw'.sub (Sub.nil _)⟩)

theorem FromBytes (w : World) (A0 : Option Addr) (c0 : Nat) (xs0 : List Nat) (hc0 : Cs w A0 (rowN .u8 xs0)) (hx0 : Dg xs0) (hb0 : xs0.length ≤ 4294967296) :
    Calls Try.prog 49 [.slice A0 xs0.length c0].toArray w fun e w' => e = .returned (.tuple #[W (if xs0.length ≤ 32 then vl xs0.reverse else 0), .int .i64 ((if xs0.length ≤ 32 then 0 else 2 : Nat) : Int)]) ∧ WS w [] [] w' := by
  have hD := hx0.reverse
  have hDl : xs0.reverse.length = xs0.length := List.length_reverse
  have hlt := vl_lt hD
  refine calls_of_T [] 38 [] Try.func49 rfl Try.ntmps49 (by simp) (WS.refl _ _) ?_
  refine T.seq ?_
  refine T.text [.l, .l] rfl ?_
  refine J.alloc 2 rfl zero25 [.int .u64 0, .int .u64 0, .int .u64 0, .int .u64 0] rfl rfl (fun g2 hg2 => ?_)
  refine J.assign rfl rfl ?_
  refine J.end ?_
  refine X.then ?_
  refine T.seq ?_
  refine T.text [.l] rfl ?_
  refine J.alloc 4 rfl zero25 [.int .u64 0, .int .u64 0, .int .u64 0, .int .u64 0] rfl rfl (fun g4 hg4 => ?_)
  refine J.end ?_
  refine X.then ?_
  refine T.seq ?_
  refine T.seq ?_
  refine T.text [.l, .l, .l] rfl ?_
  refine J.move rfl rfl ?_
  refine J.lenSl Try.underlying22 rfl rfl ?_
  refine J.gtr rfl rfl rfl rfl ?_
  refine J.end ?_
  refine X.then ?_
  refine T.cond_dec rfl (fun h1 => ?_) (fun h1 => ?_)
  · skip
    refine T.seq ?_
    refine T.text [.l, .l, .l] rfl ?_
    refine J.loadN (k := .l) trivial 4 rfl rfl agg25 [.int .u64 0, .int .u64 0, .int .u64 0, .int .u64 0] rfl rfl rfl ?_
    refine J.store 2 rfl rfl rfl rfl [.int .u64 0, .int .u64 0, .int .u64 0, .int .u64 0] rfl sz25 (by first | decide | exact Nat.le_refl _ | exact Nat.le_of_ble_eq_true rfl | (simp [rowN]; done) | (simp [rowN]; omega)) (by first | exact rowN_one _ _ | (simp; done) | (intro u hu; simp at hu; subst hu; rfl) | (intro u hu; simp at hu; rcases hu with rfl | rfl <;> rfl)) (by first | decide | exact Nat.zero_lt_succ _ | simp) trivial [.int .u64 0, .int .u64 0, .int .u64 0, .int .u64 0] rfl ?_
    refine J.assign rfl rfl ?_
    refine J.end ?_
    refine X.then ?_
    refine T.ret ?_
    refine X.then_ret ?_
    exact X.ret2 rfl (RV.agg 2 rfl rfl agg25 [.int .u64 0, .int .u64 0, .int .u64 0, .int .u64 0] (by rfl) (by rfl) rfl) (RV.tmp rfl) (fun w' hw' => ⟨by rw [if_neg (by omega), if_neg (by omega)]; rfl, hw'.sub (Sub.nil _)⟩)
  · skip
    refine T.skip ?_
    refine X.then ?_
    refine T.seq ?_
    refine T.seq ?_
    refine T.text [.l, .l, .l] rfl ?_
    refine J.move rfl rfl ?_
    refine J.lenSl Try.underlying22 rfl rfl ?_
    refine J.move rfl rfl ?_
    refine J.end ?_
    refine X.then ?_
    refine T.block ?_
    rw [hDl] at hlt
    have h00 : hi (vl xs0.reverse) (xs0.length - 0) = 0 := hi_big hlt
    refine T.asE 4 ⟨some g4, 25, wc (hi (vl xs0.reverse) (xs0.length - 0))⟩ rfl (by rw [h00]; rfl) ?_
    refine T.loop (ι := Nat) (fun (i : Nat) => i ≤ xs0.length) (fun (i : Nat) => [(0, .slice A0 xs0.length c0), (2, .pointer (some ⟨g2, 0, none⟩)), (3, .int .i64 0), (4, .pointer (some ⟨g4, 0, none⟩)), (8, .slice A0 xs0.length c0), (9, .int .i64 ((xs0.length : Nat) : Int)), (12, .slice A0 xs0.length c0), (13, .int .i64 ((xs0.length : Nat) : Int)), (14, .int .i64 (i : Int))]) (fun (i : Nat) => [(2, ⟨some g2, 25, [.int .u64 0, .int .u64 0, .int .u64 0, .int .u64 0]⟩), (4, ⟨some g4, 25, wc (hi (vl xs0.reverse) (xs0.length - i))⟩)]) (fun (i : Nat) => xs0.length - i) 0 (Nat.zero_le _) (by repeat (first | exact Sub.nil _ | refine Sub.cons (by first | rfl | (rw [dgs_zero]; rfl) | (rw [List.drop_length]; rfl) | (simp; done) | (congr 2; omega) | (congr 3; omega)) ?_)) (by repeat (first | exact Sub.nil _ | refine Sub.cons (by first | rfl | (rw [dgs_zero]; rfl) | (rw [List.drop_length]; rfl) | (simp; done) | (congr 2; omega) | (congr 3; omega)) ?_)) ?_
    rintro i hi'
    refine T.seq ?_
    refine T.text [.l] rfl ?_
    refine J.lss rfl rfl rfl rfl ?_
    refine J.end ?_
    refine X.then ?_
    refine T.seq ?_
    refine T.cond_dec rfl (fun h2 => ?_) (fun h2 => ?_)
    · obtain ⟨k, hk⟩ : ∃ k, xs0.length - i = k + 1 := ⟨xs0.length - i - 1, by omega⟩
      have hk2 : xs0.length - (i + 1) = k := by omega
      have hdig : xs0.getD i 0 = vl xs0.reverse / 256 ^ k % 256 := (by rw [← vl_get hD, List.getD_eq_getElem?_getD, List.getD_eq_getElem?_getD, List.getElem?_reverse (by omega), show xs0.length - 1 - k = i by omega])
      have hdl := hx0.getD i
      have hk8 : k / 8 < 4 := by omega
      refine T.asE 4 ⟨some g4, 25, rowN .u64 (wl (hi (vl xs0.reverse) (k + 1)))⟩ rfl (by rw [hk]) ?_
      have hll := lim_lt (hi (vl xs0.reverse) (k + 1)) (k / 8)
      have hps : 2 ^ (k % 8 * 8) ≤ 72057594037927936 := by rw [pow8]; exact (Nat.pow_le_pow_right (by omega) (show k % 8 ≤ 7 by omega) : 256 ^ (k % 8) ≤ 256 ^ 7)
      have hpm : xs0.getD i 0 * 2 ^ (k % 8 * 8) ≤ 255 * 72057594037927936 := Nat.mul_le_mul (by omega) hps
      refine T.skip ?_
      refine X.then ?_
      refine T.seq ?_
      refine T.block ?_
      refine T.seq ?_
      refine T.text [.l, .l, .l, .l, .l] rfl ?_
      refine J.move rfl rfl ?_
      refine J.indexSlI sl22 rfl (Cs.isSomeN hc0 (by omega)) rfl (by omega) (by omega) (by first | exact Int.toNat_natCast _ | rfl) rfl ?_
      refine J.loadI1 (k := .l) trivial hc0 (off_nil _) rfl one5 (by first | rfl | with_reducible exact rowN_get1 _ _ _ (by omega) | with_reducible exact rowN_get _ _ _ (by omega) | exact rowN_get1 _ _ _ (by omega)) rfl ?_
      refine J.assign rfl rfl ?_
      refine J.assign rfl rfl ?_
      refine J.end ?_
      refine X.then ?_
      refine T.seq ?_
      refine T.text [.l, .l, .l, .l, .l, .l] rfl ?_
      refine J.move rfl rfl ?_
      refine J.lenSl Try.underlying22 rfl rfl ?_
      refine J.sub' rfl rfl rfl (by first | exact sub_nat _ 1 (by omega) | exact i64_ok _ (by omega) | exact rfl) ?_
      refine J.move rfl rfl ?_
      refine J.sub' rfl rfl rfl (by first | exact sub_nat _ _ (by omega) | exact i64_ok _ (by omega) | exact rfl) ?_
      refine J.as 23 (.int .i64 (k : Int)) rfl (by congr 1; omega) ?_
      refine J.assign rfl rfl ?_
      refine J.end ?_
      refine X.then ?_
      refine T.draw [] [(0, .g), (1, .g), (2, .g), (3, .q), (4, .g), (5, .g), (6, .g), (7, .g), (8, .g), (9, .g), (10, .g), (11, .g), (12, .l)] (by kernel_rfl) (by kernel_rfl) ?_ (by repeat (first | exact Sub.nil _ | refine Sub.cons (by first | rfl | (rw [dgs_zero]; rfl) | (rw [List.drop_length]; rfl) | (simp; done) | (congr 2; omega) | (congr 3; omega)) ?_))
      refine J.move rfl rfl ?_
      refine J.quo rfl rfl rfl (by omega) (by first | exact quo_nat _ 8 (by omega) | exact i64_quo_ok _ _ (by omega) | exact rfl) ?_
      refine J.indexArr arr25 rfl rfl (by omega) (by omega) (by first | exact Int.toNat_natCast _ | rfl) rfl ?_
      refine J.load1 (k := .q) trivial 4 rfl rfl one23 (by exact rowN_get0 _ _ _ (by rw [wl_length]; omega)) rfl ?_
      refine J.as 27 (.int .u64 ((lim (hi (vl xs0.reverse) (k + 1)) (k / 8) : Nat) : Int)) rfl (by rw [wl_get _ _ (by omega)]) ?_
      refine J.move rfl rfl ?_
      refine J.conv (by rw [Try.underlying5]; rfl) Try.underlying23 rfl rfl (by first | exact wrapu_nat' _ (by omega) | exact wrapu_nat _ | exact u64_wrap _) ?_
      refine J.move rfl rfl ?_
      refine J.rem rfl rfl rfl (by omega) (by first | exact rem_nat _ 8 | exact rem_ok _ _ (by omega) | exact rfl) ?_
      refine J.mul rfl rfl rfl (by first | exact mul_nat _ 8 (by omega) | exact i64_ok _ (by omega) | exact rfl) ?_
      refine J.shl rfl rfl rfl (by omega) (by exact shl_nat _ (k % 8 * 8) (by omega)) ?_
      refine J.bor rfl rfl rfl (by exact or_nat _ _ (by omega)) ?_
      refine J.as 34 (.int .u64 ((lim (hi (vl xs0.reverse) k) (k / 8) : Nat) : Int)) rfl (by rw [hi_lim, hdig]) ?_
      refine J.indexArr arr25 rfl rfl (by omega) (by omega) (by first | exact Int.toNat_natCast _ | rfl) rfl ?_
      refine J.store 4 rfl rfl rfl rfl [.int .u64 ((lim (hi (vl xs0.reverse) k) (k / 8) : Nat) : Int)] rfl sz23 (by rw [rowN_length, wl_length]; show _ + 1 ≤ 4; omega) (by first | exact rowN_one _ _ | (simp; done) | (intro u hu; simp at hu; subst hu; rfl) | (intro u hu; simp at hu; rcases hu with rfl | rfl <;> rfl)) (by first | decide | exact Nat.zero_lt_succ _ | simp) trivial (wc (hi (vl xs0.reverse) (xs0.length - (i + 1)))) (by rw [Nat.zero_add, Nat.mul_one, hk2]; exact (putN' _ _ _ _ (by rw [wl_length]; omega)).trans (congrArg (rowN .u64) (wl_of (by simp [wl_length]) _ (fun q hq => by
            rw [getD_set _ _ _ _ (by rw [wl_length]; omega)]
            split
            · rename_i h; subst h; rfl
            · rename_i h; rw [wl_get _ _ hq, hi_lim_other _ _ _ hq h])))) ?_
      refine J.end ?_
      refine X.inBlock (X.then ?_)
      refine T.text [.l, .l] rfl ?_
      refine J.add rfl rfl rfl (by first | exact add_nat _ 1 (by omega) | exact i64_ok _ (by omega) | exact rfl) ?_
      refine J.move rfl rfl ?_
      refine J.end ?_
      exact X.round (i + 1) (by omega) (by first | omega | (dsimp only; omega)) (by repeat (first | exact Sub.nil _ | refine Sub.cons (by first | rfl | (rw [dgs_zero]; rfl) | (rw [List.drop_length]; rfl) | (simp; done) | (congr 2; omega) | (congr 3; omega)) ?_)) (by repeat (first | exact Sub.nil _ | refine Sub.cons (by first | rfl | (rw [dgs_zero]; rfl) | (rw [List.drop_length]; rfl) | (simp; done) | (congr 2; omega) | (congr 3; omega)) ?_))
    · obtain rfl : i = xs0.length := by omega
      rw [Nat.sub_self, hi_zero]
      refine T.exit ?_
      refine X.then_exit (X.then_exit (X.inBlock_eq (X.then ?_)))
      refine T.seq ?_
      refine T.text [.l, .l, .l] rfl ?_
      refine J.loadN (k := .l) trivial 4 rfl rfl agg25 (wc (vl xs0.reverse)) rfl rfl rfl ?_
      refine J.store 2 rfl rfl rfl rfl (wc (vl xs0.reverse)) rfl sz25 (by first | decide | exact Nat.le_refl _ | exact Nat.le_of_ble_eq_true rfl | (simp [rowN]; done) | (simp [rowN]; omega)) (by first | exact rowN_one _ _ | (simp; done) | (intro u hu; simp at hu; subst hu; rfl) | (intro u hu; simp at hu; rcases hu with rfl | rfl <;> rfl)) (by first | decide | exact Nat.zero_lt_succ _ | simp) trivial (wc (vl xs0.reverse)) rfl ?_
      refine J.assign rfl rfl ?_
      refine J.end ?_
      refine X.then ?_
      refine T.ret ?_
      exact X.ret2 rfl (RV.agg 2 rfl rfl agg25 (wc (vl xs0.reverse)) (by rfl) (by rfl) rfl) (RV.tmp rfl) (fun w' hw' => ⟨by rw [if_pos (by omega), if_pos (by omega)]; rfl, hw'.sub (Sub.nil _)⟩)

theorem Bytes (w : World) (x0 : Nat) :
    Calls Try.prog 42 [W x0].toArray w fun e w' => e = .returned (.agg (rowN .u8 (bytesN x0)).toArray) ∧ WS w [] [] w' := by
  refine calls_of_T [] 24 [] Try.func42 rfl Try.ntmps42 (by simp) (WS.refl _ _) ?_
  refine T.seq ?_
  refine T.text [.l, .l] rfl ?_
  refine J.box 1 rfl rfl (wc x0) rfl rfl (fun g1 hg1 => ?_)
  refine J.alloc 2 rfl zero67 [.int .u8 0, .int .u8 0, .int .u8 0, .int .u8 0, .int .u8 0, .int .u8 0, .int .u8 0, .int .u8 0, .int .u8 0, .int .u8 0, .int .u8 0, .int .u8 0, .int .u8 0, .int .u8 0, .int .u8 0, .int .u8 0, .int .u8 0, .int .u8 0, .int .u8 0, .int .u8 0, .int .u8 0, .int .u8 0, .int .u8 0, .int .u8 0, .int .u8 0, .int .u8 0, .int .u8 0, .int .u8 0, .int .u8 0, .int .u8 0, .int .u8 0, .int .u8 0] rfl rfl (fun g2 hg2 => ?_)
  refine J.end ?_
  refine X.then ?_
  refine T.seq ?_
  refine T.text [.l] rfl ?_
  refine J.alloc 3 rfl zero67 [.int .u8 0, .int .u8 0, .int .u8 0, .int .u8 0, .int .u8 0, .int .u8 0, .int .u8 0, .int .u8 0, .int .u8 0, .int .u8 0, .int .u8 0, .int .u8 0, .int .u8 0, .int .u8 0, .int .u8 0, .int .u8 0, .int .u8 0, .int .u8 0, .int .u8 0, .int .u8 0, .int .u8 0, .int .u8 0, .int .u8 0, .int .u8 0, .int .u8 0, .int .u8 0, .int .u8 0, .int .u8 0, .int .u8 0, .int .u8 0, .int .u8 0, .int .u8 0] rfl rfl (fun g3 hg3 => ?_)
  refine J.end ?_
  refine X.then ?_
  refine T.seq ?_
  refine T.seq ?_
  refine T.text [.l] rfl ?_
  refine J.move rfl rfl ?_
  refine J.end ?_
  refine X.then ?_
  refine T.block ?_
  refine T.loop (ι := Nat × List Nat) (fun ((i, ys) : Nat × List Nat) => i ≤ 32 ∧ ys.length = 32 ∧ ∀ q, q < i → ys.getD q 0 = x0 / 256 ^ (31 - q) % 256) (fun ((i, ys) : Nat × List Nat) => [(0, W x0), (1, .pointer (some ⟨g1, 0, none⟩)), (2, .pointer (some ⟨g2, 0, none⟩)), (3, .pointer (some ⟨g3, 0, none⟩)), (6, .int .i64 (i : Int))]) (fun ((i, ys) : Nat × List Nat) => [(1, ⟨some g1, 25, (wc x0)⟩), (2, ⟨some g2, 67, [.int .u8 0, .int .u8 0, .int .u8 0, .int .u8 0, .int .u8 0, .int .u8 0, .int .u8 0, .int .u8 0, .int .u8 0, .int .u8 0, .int .u8 0, .int .u8 0, .int .u8 0, .int .u8 0, .int .u8 0, .int .u8 0, .int .u8 0, .int .u8 0, .int .u8 0, .int .u8 0, .int .u8 0, .int .u8 0, .int .u8 0, .int .u8 0, .int .u8 0, .int .u8 0, .int .u8 0, .int .u8 0, .int .u8 0, .int .u8 0, .int .u8 0, .int .u8 0]⟩), (3, ⟨some g3, 67, rowN .u8 ys⟩)]) (fun ((i, ys) : Nat × List Nat) => 32 - i) ⟨0, (List.replicate 32 0)⟩ ⟨Nat.zero_le _, rfl, fun q hq => by omega⟩ (by repeat (first | exact Sub.nil _ | refine Sub.cons (by first | rfl | (rw [dgs_zero]; rfl) | (rw [List.drop_length]; rfl) | (simp; done) | (congr 2; omega) | (congr 3; omega)) ?_)) (by repeat (first | exact Sub.nil _ | refine Sub.cons (by first | rfl | (rw [dgs_zero]; rfl) | (rw [List.drop_length]; rfl) | (simp; done) | (congr 2; omega) | (congr 3; omega)) ?_)) ?_
  rintro ⟨i, ys⟩ ⟨hi, hl, hy⟩
  try dsimp only at *
  refine T.seq ?_
  refine T.text [.l] rfl ?_
  refine J.lss rfl rfl rfl rfl ?_
  refine J.end ?_
  refine X.then ?_
  refine T.seq ?_
  refine T.cond_dec rfl (fun h1 => ?_) (fun h1 => ?_)
  · have hj : 31 - i < 32 := by omega
    have hld := lim_digit x0 (31 - i)
    have hml : x0 / 256 ^ (31 - i) % 256 < 256 := Nat.mod_lt _ (by omega)
    refine T.skip ?_
    refine X.then ?_
    refine T.seq ?_
    refine T.block ?_
    refine T.seq ?_
    refine T.text [.l, .l] rfl ?_
    refine J.move rfl rfl ?_
    refine J.assign rfl rfl ?_
    refine J.end ?_
    refine X.then ?_
    refine T.seq ?_
    refine T.text [.l, .l, .l] rfl ?_
    refine J.move rfl rfl ?_
    refine J.sub' rfl rfl rfl (by first | exact sub_nat 31 _ (by omega) | exact i64_ok _ (by omega) | exact rfl) ?_
    refine J.assign rfl rfl ?_
    refine J.end ?_
    refine X.then ?_
    refine T.text [.l, .l, .l, .l, .l, .l, .l, .l, .l, .l, .l, .l] rfl ?_
    refine J.move rfl rfl ?_
    refine J.move rfl rfl ?_
    refine J.quo rfl rfl rfl (by omega) (by first | exact quo_nat _ 8 (by omega) | exact i64_quo_ok _ _ (by omega) | exact rfl) ?_
    refine J.indexArr arr25 rfl rfl (by omega) (by omega) (by first | exact Int.toNat_natCast _ | rfl) rfl ?_
    refine J.load1 (k := .l) trivial 1 rfl rfl one23 (by exact rowN_get0 _ _ _ (by rw [wl_length]; omega)) rfl ?_
    refine J.as 15 (.int .u64 ((lim x0 ((31 - i) / 8) : Nat) : Int)) rfl (by rw [wl_get _ _ (by omega)]) ?_
    refine J.move rfl rfl ?_
    refine J.rem rfl rfl rfl (by omega) (by first | exact rem_nat _ 8 | exact rem_ok _ _ (by omega) | exact rfl) ?_
    refine J.mul rfl rfl rfl (by first | exact mul_nat _ 8 (by omega) | exact i64_ok _ (by omega) | exact rfl) ?_
    refine J.shr rfl rfl rfl (by omega) (by exact shr_nat _ ((31 - i) % 8 * 8) (by omega)) ?_
    refine J.conv (by rw [Try.underlying23]; rfl) Try.underlying5 rfl rfl (by exact wrap8_nat _) ?_
    refine J.as 20 (.int .u8 ((x0 / 256 ^ (31 - i) % 256 : Nat) : Int)) rfl (by rw [pow8, hld]) ?_
    refine J.indexArr arr67 rfl rfl (by omega) (by omega) (by first | exact Int.toNat_natCast _ | rfl) rfl ?_
    refine J.store 3 rfl rfl rfl rfl [.int .u8 ((x0 / 256 ^ (31 - i) % 256 : Nat) : Int)] rfl sz5 (by rw [rowN_length, hl]; show _ + 1 ≤ 32; omega) (by first | exact rowN_one _ _ | (simp; done) | (intro u hu; simp at hu; subst hu; rfl) | (intro u hu; simp at hu; rcases hu with rfl | rfl <;> rfl)) (by first | decide | exact Nat.zero_lt_succ _ | simp) trivial (rowN .u8 (ys.set i (x0 / 256 ^ (31 - i) % 256))) (by rw [Nat.zero_add, Nat.mul_one]; exact putN' _ _ _ _ (by omega)) ?_
    refine J.end ?_
    refine X.inBlock (X.then ?_)
    refine T.text [.l, .l] rfl ?_
    refine J.add rfl rfl rfl (by first | exact add_nat _ 1 (by omega) | exact i64_ok _ (by omega) | exact rfl) ?_
    refine J.move rfl rfl ?_
    refine J.end ?_
    exact X.round ⟨(i + 1), (ys.set i (x0 / 256 ^ (31 - i) % 256))⟩ ⟨by omega, by simp [hl], fun q hq => by
          rw [getD_set _ _ _ _ (by omega)]
          split
          · rename_i hiq; subst hiq; rfl
          · exact hy q (by omega)⟩ (by first | omega | (dsimp only; omega)) (by repeat (first | exact Sub.nil _ | refine Sub.cons (by first | rfl | (rw [dgs_zero]; rfl) | (rw [List.drop_length]; rfl) | (simp; done) | (congr 2; omega) | (congr 3; omega)) ?_)) (by repeat (first | exact Sub.nil _ | refine Sub.cons (by first | rfl | (rw [dgs_zero]; rfl) | (rw [List.drop_length]; rfl) | (simp; done) | (congr 2; omega) | (congr 3; omega)) ?_))
  · obtain rfl : i = 32 := by omega
    obtain rfl : ys = bytesN x0 := bytesN_of hl hy
    refine T.exit ?_
    refine X.then_exit (X.then_exit (X.inBlock_eq (X.then ?_)))
    refine T.seq ?_
    refine T.text [.l, .l] rfl ?_
    refine J.loadN (k := .l) trivial 3 rfl rfl agg67 (rowN .u8 (bytesN x0)) (by rw [rowN_length, bytesN_length]) (by rw [List.drop_zero]; exact List.take_of_length_le (by rw [rowN_length, bytesN_length]; omega)) rfl ?_
    refine J.store 2 rfl rfl rfl rfl (rowN .u8 (bytesN x0)) rfl (by rw [rowN_length, bytesN_length]; exact sz67) (by rw [rowN_length, bytesN_length]; exact Nat.le_refl _) (by first | exact rowN_one _ _ | (simp; done) | (intro u hu; simp at hu; subst hu; rfl) | (intro u hu; simp at hu; rcases hu with rfl | rfl <;> rfl)) (by rw [rowN_length, bytesN_length]; decide) trivial (rowN .u8 (bytesN x0)) (by unfold put; rw [rowN_length, bytesN_length]; exact List.append_nil _) ?_
    refine J.end ?_
    refine X.then ?_
    refine T.ret ?_
    exact X.ret1 rfl (RV.agg 2 rfl rfl agg67 (rowN .u8 (bytesN x0)) (by rw [rowN_length, bytesN_length]) (by rw [List.drop_zero]; exact List.take_of_length_le (by rw [rowN_length, bytesN_length]; exact Nat.le_refl _)) rfl) (fun w' hw' => ⟨rfl, hw'.sub (Sub.nil _)⟩)
end Go.Proofs.Ytpkjbeebhdgleaa.Wa
