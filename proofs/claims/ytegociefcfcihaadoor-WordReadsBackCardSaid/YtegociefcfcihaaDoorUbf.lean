/-
  Texts that the statement stands on, one behind the other: plain lemmas and walks of functions.
  No condition.
-/
import Derived.Test.YtegociefcfcihaaDoorChecked
import Derived.Test.YtegociefcfcihaaDoorUba
import Derived.Test.YtegociefcfcihaaDoorUbb
import Derived.Test.YtegociefcfcihaaDoorUbc
import Derived.Test.YtegociefcfcihaaDoorUbd
import Derived.Test.YtegociefcfcihaaDoorUbe
set_option linter.unusedVariables false
set_option maxRecDepth 20000
namespace Go.Proofs.YtegociefcfcihaaDoor.Wu
open Go Go.Fw

theorem sz39 : SizeT Tryd.prog 39 32 := (by unfold SizeT; kernel_rfl)
theorem zero8 : ZeroT Tryd.prog 67 (.agg (rowN .u64 (lg 0)).toArray) := (by unfold ZeroT; kernel_rfl)
theorem fok161 : FnOk Tryd.prog 161 := FnOk.mk' Tryd.func161 (by kernel_rfl) rfl
theorem zero107 : ZeroT Tryd.prog 107 (.agg ([.int .u8 0, .int .u8 0, .int .u8 0, .int .u8 0, .int .u8 0, .int .u8 0, .int .u8 0, .int .u8 0, .int .u8 0, .int .u8 0, .int .u8 0, .int .u8 0, .int .u8 0, .int .u8 0, .int .u8 0, .int .u8 0, .int .u8 0, .int .u8 0, .int .u8 0, .int .u8 0, .int .u8 0, .int .u8 0, .int .u8 0, .int .u8 0]).toArray) := (by unfold ZeroT; kernel_rfl)
theorem fok162 : FnOk Tryd.prog 162 := FnOk.mk' Tryd.func162 (by kernel_rfl) rfl
theorem sz5 : SizeT Tryd.prog 5 1 := (by unfold SizeT; kernel_rfl)
theorem arr107 : ArrT Tryd.prog 107 24 5 1 := ⟨Tryd.underlying107, sz5⟩
theorem fok163 : FnOk Tryd.prog 163 := FnOk.mk' Tryd.func163 (by kernel_rfl) rfl
theorem fok151 : FnOk Tryd.prog 151 := FnOk.mk' Tryd.func151 (by kernel_rfl) rfl
theorem agg24 : AggT Tryd.prog 24 4 := ⟨⟨_, Tryd.underlying24, rfl⟩, by kernel_rfl⟩
theorem fok117 : FnOk Tryd.prog 117 := FnOk.mk' Tryd.func117 (by kernel_rfl) rfl
theorem fok116 : FnOk Tryd.prog 116 := FnOk.mk' Tryd.func116 (by kernel_rfl) rfl
theorem zero24 : ZeroT Tryd.prog 24 (.agg ([.int .u64 0, .int .u64 0, .int .u64 0, .int .u64 0]).toArray) := (by unfold ZeroT; kernel_rfl)
theorem sz24 : SizeT Tryd.prog 24 4 := (by unfold SizeT; kernel_rfl)
theorem sz22 : SizeT Tryd.prog 22 1 := (by unfold SizeT; kernel_rfl)
theorem arr24 : ArrT Tryd.prog 24 4 22 1 := ⟨Tryd.underlying24, sz22⟩
theorem one22 : OneT Tryd.prog 22 := ⟨⟨_, Tryd.underlying22, rfl⟩, by kernel_rfl⟩
theorem fok141 : FnOk Tryd.prog 141 := FnOk.mk' Tryd.func141 (by kernel_rfl) rfl
theorem fok81 : FnOk Tryd.prog 81 := FnOk.mk' Tryd.func81 (by kernel_rfl) rfl

theorem fmt (w : World) (u : Nat) (hu : u < 10 ^ 19) (hT : Lib.TabIs Tryd.prog w "internal/strconv.uint64pow10" .u64 Lib.pow10Tab) :
    Calls Tryd.prog 151 [.int .u64 (u : Int), .int .i64 10].toArray w fun e w' => e = .returned (.string (bstr (decN u))) ∧ WS w [] [] w' := by
  have hl := decN_le u hu
  have hp := decN_pos u
  rw [decN_length] at hl hp
  have hz24 : Dg (List.replicate 24 0) := fun x hx => by rw [List.eq_of_mem_replicate hx]; omega
  refine calls_of_T [] 32 [] Tryd.func151 rfl Tryd.ntmps151 (by simp) (WS.refl _ _) ?_
  refine T.seq ?_
  refine T.text [.l] rfl ?_
  refine J.assign rfl rfl ?_
  refine J.as 4 (.string (bstr [])) rfl rfl ?_
  refine J.end ?_
  refine X.then ?_
  refine T.seq ?_
  refine T.seq ?_
  refine T.text [.l, .l] rfl ?_
  refine J.move rfl rfl ?_
  refine J.eql rfl rfl rfl (decide_eq_true (by first | omega | rfl | assumption | (simp only [*]; done))) ?_
  refine J.end ?_
  refine X.then ?_
  refine T.cond_true rfl ?_
  refine T.seq ?_
  refine T.seq ?_
  refine T.text [.l, .l] rfl ?_
  refine J.move rfl rfl ?_
  refine J.lss rfl rfl rfl rfl ?_
  refine J.end ?_
  refine X.then ?_
  refine T.cond_dec rfl (fun h1 => ?_) (fun h1 => ?_)
  · skip
    refine T.seq ?_
    refine T.text [.l, .l, .l, .l] rfl ?_
    refine J.move rfl rfl ?_
    refine J.conv (by rw [Tryd.underlying22]; rfl) Tryd.underlying3 rfl rfl (by exact i64_ok _ (by omega)) ?_
    refine J.call0 (k := .l) trivial fok161 rfl rfl (fun w hw => small_wrap (Go.Proofs.Tryd.internal_strconv_small u (by omega) w)) ?_
    refine J.assign rfl rfl ?_
    refine J.end ?_
    refine X.then ?_
    refine T.ret ?_
    refine X.then_ret (X.then_ret ?_)
    exact X.ret1 rfl (RV.tmp rfl) (fun w' hw' => ⟨rfl, hw'.sub (Sub.nil _)⟩)
  · skip
    refine T.skip ?_
    refine X.then ?_
    refine T.seq ?_
    refine T.text [.l] rfl ?_
    refine J.alloc 5 rfl zero107 (rowN .u8 (List.replicate 24 0)) rfl rfl (fun g5 hg5 => ?_)
    refine J.end ?_
    refine X.then ?_
    refine T.seq ?_
    refine T.text [.l, .l, .l] rfl ?_
    refine J.move rfl rfl ?_
    refine J.call0 (k := .l) trivial fok162 rfl rfl (fun w hw => val_wrap (Go.Proofs.Tryd.internal_strconv_numDigits u (by omega) (by omega) w (tab_ws (g := 0) (by kernel_rfl) hT hw))) ?_
    refine J.assign rfl rfl ?_
    refine J.end ?_
    refine X.then ?_
    refine T.seq ?_
    refine T.text [.l, .l, .l, .l] rfl ?_
    refine J.move rfl rfl ?_
    refine J.sliceArr arr107 rfl optInt.none (optInt.some rfl (by omega) (by first | exact Int.toNat_natCast _ | rfl)) optInt.none (by simp) (by omega) (by omega) (by omega) rfl rfl ?_
    refine J.move rfl rfl ?_
    refine J.callMut 5 rfl rfl fok163 rfl rfl (fun w hw => fmt_wrap (cap := 24) (hw.live 5 _ rfl) hz24 (by rw [List.length_replicate]; omega) (by omega) (by rw [List.length_replicate]; omega) (fun d h1 h2 h3 => Go.Proofs.Tryd.internal_strconv_formatBase10 _ 0 _ u d w h1 h2 (by omega) h3)) ?_
    refine J.end ?_
    refine X.then ?_
    refine T.seq ?_
    refine T.text [.l, .l, .l, .l] rfl ?_
    refine J.move rfl rfl ?_
    refine J.sliceArr arr107 rfl optInt.none (optInt.some rfl (by omega) (by first | exact Int.toNat_natCast _ | rfl)) optInt.none (by simp) (by omega) (by omega) (by omega) rfl rfl ?_
    refine J.convBS (k := .l) trivial Tryd.underlying45 Tryd.underlying5 Tryd.underlying9 rfl ((decN u)) (decN_length u) (fun w hw => (hw.preCs (k := 5) rfl)) rfl ?_
    refine J.assign rfl rfl ?_
    refine J.end ?_
    refine X.then ?_
    refine T.ret ?_
    refine X.then_ret ?_
    exact X.ret1 rfl (RV.tmp rfl) (fun w' hw' => ⟨rfl, hw'.sub (Sub.nil _)⟩)

theorem format (w : World) (u : Nat) (hu : u < 10 ^ 19) (hT : Lib.TabIs Tryd.prog w "internal/strconv.uint64pow10" .u64 Lib.pow10Tab) :
    Calls Tryd.prog 141 [.int .u64 (u : Int), .int .i64 10].toArray w fun e w' => e = .returned (.string (bstr (decN u))) ∧ WS w [] [] w' := by
  refine calls_of_T [] 8 [] Tryd.func141 rfl Tryd.ntmps141 (by simp) (WS.refl _ _) ?_
  refine T.seq ?_
  refine T.text [.l] rfl ?_
  refine J.assign rfl rfl ?_
  refine J.as 4 (.string (bstr [])) rfl rfl ?_
  refine J.end ?_
  refine X.then ?_
  refine T.seq ?_
  refine T.text [.l, .l, .l, .l] rfl ?_
  refine J.move rfl rfl ?_
  refine J.move rfl rfl ?_
  refine J.call0 (k := .l) trivial fok151 rfl rfl (fun w hw => Wu.fmt w u hu (tab_ws (g := 0) (by kernel_rfl) hT hw)) ?_
  refine J.assign rfl rfl ?_
  refine J.end ?_
  refine X.then ?_
  refine T.ret ?_
  exact X.ret1 rfl (RV.tmp rfl) (fun w' hw' => ⟨rfl, hw'.sub (Sub.nil _)⟩)

theorem Text (w : World) (x0 m : Nat) (hm : numd 10 (x0 % 2 ^ 256) m) (hT : Lib.TabIs Tryd.prog w "internal/strconv.uint64pow10" .u64 Lib.pow10Tab) :
    Calls Tryd.prog 105 [W x0].toArray w fun e w' => e = .returned (.string (bstr (txt 10 (x0 % 2 ^ 256) m))) ∧ WS w [] [] w' := by
  have hX : x0 % 2 ^ 256 < 2 ^ 256 := Nat.mod_lt _ (by decide)
  refine calls_of_T [] 31 [] Tryd.func105 rfl Tryd.ntmps105 (by simp) (WS.refl _ _) ?_
  refine T.seq ?_
  refine T.text [.l, .l] rfl ?_
  refine J.box 1 rfl rfl (wc x0) rfl rfl (fun g1 hg1 => ?_)
  refine J.assign rfl rfl ?_
  refine J.as 2 (.string (bstr [])) rfl rfl ?_
  refine J.end ?_
  refine X.then ?_
  refine T.seq ?_
  refine T.text [.l] rfl ?_
  refine J.assign rfl rfl ?_
  refine J.as 3 (.string (bstr [])) rfl rfl ?_
  refine J.end ?_
  refine X.then ?_
  refine T.block ?_
  refine T.asE 1 ⟨some g1, 24, wc (x0 % 2 ^ 256 / 10 ^ (19 * 0))⟩ rfl (by rw [Nat.mul_zero, Nat.pow_zero, Nat.div_one, wc_mod]) ?_
  refine T.loop (ι := Nat) (fun (k : Nat) => (k = 0 ∨ (x0 % 2 ^ 256 / 10 ^ (19 * k)) ≠ 0)) (fun (k : Nat) => [(0, W x0), (1, .pointer (some ⟨g1, 0, none⟩)), (3, .string (bstr (padN (x0 % 2 ^ 256) k)))]) (fun (k : Nat) => [(1, ⟨some g1, 24, wc (x0 % 2 ^ 256 / 10 ^ (19 * k))⟩)]) (fun (k : Nat) => (x0 % 2 ^ 256 / 10 ^ (19 * k))) 0 (.inl rfl) (by repeat (first | exact Sub.nil _ | refine Sub.cons (by first | rfl | (rw [padN_zero]; rfl)| (rw [dgs_zero]; rfl) | (rw [List.drop_length]; rfl) | (simp; done) | (congr 2; omega) | (congr 3; omega)) ?_)) (by repeat (first | exact Sub.nil _ | refine Sub.cons (by first | rfl | (rw [padN_zero]; rfl)| (rw [dgs_zero]; rfl) | (rw [List.drop_length]; rfl) | (simp; done) | (congr 2; omega) | (congr 3; omega)) ?_)) ?_
  rintro k hk
  refine T.block ?_
  refine T.seq ?_
  refine T.text [.l, .l, .l, .l, .l, .l, .l, .l, .l, .l, .l] rfl ?_
  have hk4 := text_k hX hk
  have hQ : (x0 % 2 ^ 256 / 10 ^ (19 * k)) < 2 ^ 256 := Nat.lt_of_le_of_lt (Nat.div_le_self _ _) hX
  have hd19 := decN_le (x0 % 2 ^ 256 / 10 ^ (19 * k) % 10 ^ 19) (Nat.mod_lt _ (by decide))
  refine J.loadN (k := .l) trivial 1 rfl rfl agg24 (wc (x0 % 2 ^ 256 / 10 ^ (19 * k))) rfl rfl rfl ?_
  refine J.call0 (k := .l) trivial fok117 rfl rfl (fun w hw => Wb.wide w _ 0 (by omega)) ?_
  refine J.build rfl rfl (W 10000000000000000000) (fun w => by kernel_rfl) ?_
  refine J.call0 (k := .l) trivial fok116 rfl rfl (fun w hw => Wd.divide w _ _ (by omega) (by omega)) ?_
  refine J.move rfl rfl ?_
  refine J.extract rfl rfl rfl ?_
  refine J.as 12 (W (x0 % 2 ^ 256 / 10 ^ (19 * k) / 10 ^ 19)) rfl (by rw [text_q hQ]) ?_
  refine J.extract rfl rfl rfl ?_
  refine J.as 13 (W (x0 % 2 ^ 256 / 10 ^ (19 * k) % 10 ^ 19)) rfl (by rw [text_r hQ]) ?_
  refine J.alloc 4 rfl zero24 [.int .u64 0, .int .u64 0, .int .u64 0, .int .u64 0] rfl rfl (fun g4 hg4 => ?_)
  refine J.alloc 5 rfl zero24 [.int .u64 0, .int .u64 0, .int .u64 0, .int .u64 0] rfl rfl (fun g5 hg5 => ?_)
  refine J.store 4 rfl rfl rfl rfl (wc (x0 % 2 ^ 256 / 10 ^ (19 * k) / 10 ^ 19)) rfl sz24 (by first | decide | exact Nat.le_refl _ | exact Nat.le_of_ble_eq_true rfl | (simp [rowN]; done) | (simp [rowN]; omega)) (by first | exact rowN_one _ _ | (simp; done) | (intro u hu; simp at hu; subst hu; rfl) | (intro u hu; simp at hu; rcases hu with rfl | rfl <;> rfl)) (by first | decide | exact Nat.zero_lt_succ _ | simp) trivial (wc (x0 % 2 ^ 256 / 10 ^ (19 * k) / 10 ^ 19)) rfl ?_
  refine J.store 5 rfl rfl rfl rfl (wc (x0 % 2 ^ 256 / 10 ^ (19 * k) % 10 ^ 19)) rfl sz24 (by first | decide | exact Nat.le_refl _ | exact Nat.le_of_ble_eq_true rfl | (simp [rowN]; done) | (simp [rowN]; omega)) (by first | exact rowN_one _ _ | (simp; done) | (intro u hu; simp at hu; subst hu; rfl) | (intro u hu; simp at hu; rcases hu with rfl | rfl <;> rfl)) (by first | decide | exact Nat.zero_lt_succ _ | simp) trivial (wc (x0 % 2 ^ 256 / 10 ^ (19 * k) % 10 ^ 19)) rfl ?_
  refine J.end ?_
  refine X.then ?_
  refine T.seq ?_
  refine T.text [.l, .l, .l, .l] rfl ?_
  refine J.indexArr arr24 rfl rfl (by omega) (by omega) (by rfl) rfl ?_
  refine J.load1 (k := .l) trivial 5 rfl rfl one22 (by first | rfl | with_reducible exact rowN_get0 _ _ _ (by omega) | with_reducible exact rowN_get1 _ _ _ (by omega) | with_reducible exact rowN_get1s _ _ _ _ (by omega) | exact rowN_get1 _ _ _ (by omega) | exact rowN_get1s _ _ _ _ (by omega) | exact rowN_get0 _ _ _ (by omega)) rfl ?_
  refine J.as 15 (.int .u64 (((x0 % 2 ^ 256 / 10 ^ (19 * k) % 10 ^ 19) : Nat) : Int)) rfl (by rw [text_lim]) ?_
  refine J.call0 (k := .l) trivial fok141 rfl rfl (fun w hw => Wu.format w _ (Nat.mod_lt _ (by decide)) (tab_ws (g := 0) (by kernel_rfl) hT hw)) ?_
  refine J.assign rfl rfl ?_
  refine J.end ?_
  refine X.then ?_
  refine T.seq ?_
  refine T.seq ?_
  refine T.text [.l, .l] rfl ?_
  refine J.loadN (k := .l) trivial 4 rfl rfl agg24 (wc (x0 % 2 ^ 256 / 10 ^ (19 * k) / 10 ^ 19)) rfl rfl rfl ?_
  refine J.call0 (k := .l) trivial fok81 rfl rfl (fun w hw => Wa.IsZero w _) ?_
  refine J.end ?_
  refine X.then ?_
  refine T.cond_dec rfl (fun h1 => ?_) (fun h1 => ?_)
  · have hq0 : (x0 % 2 ^ 256 / 10 ^ (19 * k) / 10 ^ 19) = 0 := by have h1 := h1; rwa [Nat.mod_eq_of_lt (Nat.lt_of_le_of_lt (Nat.div_le_self _ _) hQ)] at h1
    refine T.seq ?_
    refine T.text [.l, .l, .l, .l] rfl ?_
    refine J.move rfl rfl ?_
    refine J.move rfl rfl ?_
    refine J.addStr (xs := (decN (x0 % 2 ^ 256 / 10 ^ (19 * k) % 10 ^ 19))) (ys := (padN (x0 % 2 ^ 256) k)) rfl rfl rfl (by rw [padN_length]; omega) ?_
    refine J.assign rfl rfl ?_
    refine J.end ?_
    refine X.then ?_
    refine T.ret ?_
    refine X.then_ret (X.inBlock_ret (X.then_ret (X.inBlock_ret ?_)))
    exact X.ret1 rfl (RV.tmp rfl) (fun w' hw' => ⟨by rw [text_done hk hq0 hm], hw'.sub (Sub.nil _)⟩)
  · have hq : (x0 % 2 ^ 256 / 10 ^ (19 * k) / 10 ^ 19) ≠ 0 := by have h1 := h1; rwa [Nat.mod_eq_of_lt (Nat.lt_of_le_of_lt (Nat.div_le_self _ _) hQ)] at h1
    refine T.skip ?_
    refine X.then ?_
    refine T.seq ?_
    refine T.block ?_
    refine T.loop (ι := Nat) (fun (j : Nat) => j + (decN (x0 % 2 ^ 256 / 10 ^ (19 * k) % 10 ^ 19)).length ≤ 19) (fun (j : Nat) => [(0, W x0), (1, .pointer (some ⟨g1, 0, none⟩)), (3, .string (bstr (padN (x0 % 2 ^ 256) k))), (8, W (x0 % 2 ^ 256 / 10 ^ (19 * k))), (10, (W 10000000000000000000)), (12, W (x0 % 2 ^ 256 / 10 ^ (19 * k) / 10 ^ 19)), (13, W (x0 % 2 ^ 256 / 10 ^ (19 * k) % 10 ^ 19)), (4, .pointer (some ⟨g4, 0, none⟩)), (5, .pointer (some ⟨g5, 0, none⟩)), (15, .int .u64 (((x0 % 2 ^ 256 / 10 ^ (19 * k) % 10 ^ 19) : Nat) : Int)), (16, .string (bstr (decN (x0 % 2 ^ 256 / 10 ^ (19 * k) % 10 ^ 19)))), (17, W (x0 % 2 ^ 256 / 10 ^ (19 * k) / 10 ^ 19)), (6, .string (bstr (List.replicate j 48 ++ decN (x0 % 2 ^ 256 / 10 ^ (19 * k) % 10 ^ 19))))]) (fun (j : Nat) => [(1, ⟨some g1, 24, wc (x0 % 2 ^ 256 / 10 ^ (19 * k))⟩), (4, ⟨some g4, 24, (wc (x0 % 2 ^ 256 / 10 ^ (19 * k) / 10 ^ 19))⟩), (5, ⟨some g5, 24, (wc (x0 % 2 ^ 256 / 10 ^ (19 * k) % 10 ^ 19))⟩)]) (fun (j : Nat) => 19 - j) 0 (by rw [Nat.zero_add]; exact hd19) (by repeat (first | exact Sub.nil _ | refine Sub.cons (by first | rfl | (rw [padN_zero]; rfl)| (rw [dgs_zero]; rfl) | (rw [List.drop_length]; rfl) | (simp; done) | (congr 2; omega) | (congr 3; omega)) ?_)) (by repeat (first | exact Sub.nil _ | refine Sub.cons (by first | rfl | (rw [padN_zero]; rfl)| (rw [dgs_zero]; rfl) | (rw [List.drop_length]; rfl) | (simp; done) | (congr 2; omega) | (congr 3; omega)) ?_)) ?_
    rintro j hj
    refine T.seq ?_
    refine T.seq ?_
    refine T.text [.l, .l, .l] rfl ?_
    refine J.move rfl rfl ?_
    refine J.lenStr Tryd.underlying9 rfl rfl ?_
    refine J.as 23 (.int .i64 (((List.replicate j 48 ++ decN (x0 % 2 ^ 256 / 10 ^ (19 * k) % 10 ^ 19)).length : Nat) : Int)) rfl (by rw [bstr_size]) ?_
    refine J.lss rfl rfl rfl rfl ?_
    refine J.end ?_
    refine X.then ?_
    refine T.cond_dec rfl (fun h2 => ?_) (fun h2 => ?_)
    · have hj2 : j + (decN (x0 % 2 ^ 256 / 10 ^ (19 * k) % 10 ^ 19)).length < 19 := by have h1 := h2; rw [List.length_append, List.length_replicate] at h1; omega
      refine T.skip ?_
      refine X.then ?_
      refine T.block ?_
      refine T.text [.l, .l, .l] rfl ?_
      refine J.move rfl rfl ?_
      refine J.addStr (xs := [48]) (ys := (List.replicate j 48 ++ decN (x0 % 2 ^ 256 / 10 ^ (19 * k) % 10 ^ 19))) rfl rfl rfl (by rw [List.length_append, List.length_replicate]; show 1 + _ ≤ _; omega) ?_
      refine J.as 26 (.string (bstr (List.replicate (j + 1) 48 ++ decN (x0 % 2 ^ 256 / 10 ^ (19 * k) % 10 ^ 19)))) rfl (by rfl) ?_
      refine J.assign rfl rfl ?_
      refine J.end ?_
      refine X.inBlock ?_
      exact X.round (j + 1) (by omega) (by first | omega | (dsimp only; omega)) (by repeat (first | exact Sub.nil _ | refine Sub.cons (by first | rfl | (rw [padN_zero]; rfl)| (rw [dgs_zero]; rfl) | (rw [List.drop_length]; rfl) | (simp; done) | (congr 2; omega) | (congr 3; omega)) ?_)) (by repeat (first | exact Sub.nil _ | refine Sub.cons (by first | rfl | (rw [padN_zero]; rfl)| (rw [dgs_zero]; rfl) | (rw [List.drop_length]; rfl) | (simp; done) | (congr 2; omega) | (congr 3; omega)) ?_))
    · have hj19 : j + (decN (x0 % 2 ^ 256 / 10 ^ (19 * k) % 10 ^ 19)).length = 19 := by have h1 := h2; rw [List.length_append, List.length_replicate] at h1; omega
      refine T.exit ?_
      refine X.then_exit (X.then_exit (X.inBlock_eq (X.then ?_)))
      refine T.seq ?_
      refine T.text [.l, .l, .l, .l] rfl ?_
      refine J.move rfl rfl ?_
      refine J.move rfl rfl ?_
      refine J.addStr (xs := (List.replicate j 48 ++ decN (x0 % 2 ^ 256 / 10 ^ (19 * k) % 10 ^ 19))) (ys := (padN (x0 % 2 ^ 256) k)) rfl rfl rfl (by rw [padN_length, List.length_append, List.length_replicate]; omega) ?_
      refine J.assign rfl rfl ?_
      refine J.end ?_
      refine X.then ?_
      refine T.text [.l, .l] rfl ?_
      refine J.loadN (k := .l) trivial 4 rfl rfl agg24 (wc (x0 % 2 ^ 256 / 10 ^ (19 * k) / 10 ^ 19)) rfl rfl rfl ?_
      refine J.store 1 rfl rfl rfl rfl (wc (x0 % 2 ^ 256 / 10 ^ (19 * k) / 10 ^ 19)) rfl sz24 (by first | decide | exact Nat.le_refl _ | exact Nat.le_of_ble_eq_true rfl | (simp [rowN]; done) | (simp [rowN]; omega)) (by first | exact rowN_one _ _ | (simp; done) | (intro u hu; simp at hu; subst hu; rfl) | (intro u hu; simp at hu; rcases hu with rfl | rfl <;> rfl)) (by first | decide | exact Nat.zero_lt_succ _ | simp) trivial (wc (x0 % 2 ^ 256 / 10 ^ (19 * k) / 10 ^ 19)) rfl ?_
      refine J.end ?_
      refine X.inBlock ?_
      refine X.as 3 (.string (bstr (padN (x0 % 2 ^ 256) (k + 1)))) rfl (by rw [filled_dec hj19]) ?_
      refine X.asE 1 ⟨some g1, 24, wc (x0 % 2 ^ 256 / 10 ^ (19 * (k + 1)))⟩ rfl (by rw [text_next]) ?_
      exact X.round (k + 1) (.inr (text_less hq).1) (text_less hq).2 (by repeat (first | exact Sub.nil _ | refine Sub.cons (by first | rfl | (rw [padN_zero]; rfl)| (rw [dgs_zero]; rfl) | (rw [List.drop_length]; rfl) | (simp; done) | (congr 2; omega) | (congr 3; omega)) ?_)) (by repeat (first | exact Sub.nil _ | refine Sub.cons (by first | rfl | (rw [padN_zero]; rfl)| (rw [dgs_zero]; rfl) | (rw [List.drop_length]; rfl) | (simp; done) | (congr 2; omega) | (congr 3; omega)) ?_))
end Go.Proofs.YtegociefcfcihaaDoor.Wu
set_option linter.unusedVariables false
set_option maxRecDepth 20000
namespace Go.Proofs.YtegociefcfcihaaDoor.Ra
open Go Go.Fw

theorem sz3 : SizeT Tryd.prog 3 1 := (by unfold SizeT; kernel_rfl)
theorem sl62 : SlT Tryd.prog 62 3 1 := ⟨Tryd.underlying62, sz3⟩
theorem one3 : OneT Tryd.prog 3 := ⟨⟨_, Tryd.underlying3, rfl⟩, by kernel_rfl⟩
theorem fok144 : FnOk Tryd.prog 144 := FnOk.mk' Tryd.func144 (by kernel_rfl) rfl
theorem fok143 : FnOk Tryd.prog 143 := FnOk.mk' Tryd.func143 (by kernel_rfl) rfl
theorem el3 : ElT Tryd.prog 3 1 8 (.int .i64 0) := ⟨by kernel_rfl, rfl, by decide, by decide⟩
theorem zero24 : ZeroT Tryd.prog 24 (.agg ([.int .u64 0, .int .u64 0, .int .u64 0, .int .u64 0]).toArray) := (by unfold ZeroT; kernel_rfl)
theorem sz22 : SizeT Tryd.prog 22 1 := (by unfold SizeT; kernel_rfl)
theorem arr24 : ArrT Tryd.prog 24 4 22 1 := ⟨Tryd.underlying24, sz22⟩
theorem one22 : OneT Tryd.prog 22 := ⟨⟨_, Tryd.underlying22, rfl⟩, by kernel_rfl⟩
theorem agg24 : AggT Tryd.prog 24 4 := ⟨⟨_, Tryd.underlying24, rfl⟩, by kernel_rfl⟩
theorem sz24 : SizeT Tryd.prog 24 4 := (by unfold SizeT; kernel_rfl)
theorem fok110 : FnOk Tryd.prog 110 := FnOk.mk' Tryd.func110 (by kernel_rfl) rfl
theorem fok136 : FnOk Tryd.prog 136 := FnOk.mk' Tryd.func136 (by kernel_rfl) rfl
theorem fok84 : FnOk Tryd.prog 84 := FnOk.mk' Tryd.func84 (by kernel_rfl) rfl
theorem fok118 : FnOk Tryd.prog 118 := FnOk.mk' Tryd.func118 (by kernel_rfl) rfl
theorem fok76 : FnOk Tryd.prog 76 := FnOk.mk' Tryd.func76 (by kernel_rfl) rfl

theorem digit (w : World) (A0 : Option Addr) (c0 : Nat) (xs0 : List Nat) (i : Nat) (hc0 : Cs w A0 (rowN .i64 xs0)) :
    Calls Tryd.prog 143 [.slice A0 xs0.length c0, .int .i64 (i : Int)].toArray w fun e w' => e = .returned (.int .i64 ((xs0.getD i 0 : Nat) : Int)) ∧ WS w [] [] w' := by
  refine calls_of_T [] 13 [] Tryd.func143 rfl Tryd.ntmps143 (by simp) (WS.refl _ _) ?_
  refine T.seq ?_
  refine T.text [.l] rfl ?_
  refine J.assign rfl rfl ?_
  refine J.end ?_
  refine X.then ?_
  refine T.seq ?_
  refine T.seq ?_
  refine T.text [.l, .l, .l, .l] rfl ?_
  refine J.move rfl rfl ?_
  refine J.move rfl rfl ?_
  refine J.lenSl Tryd.underlying62 rfl rfl ?_
  refine J.lss rfl rfl rfl rfl ?_
  refine J.end ?_
  refine X.then ?_
  refine T.cond_dec rfl (fun h1 => ?_) (fun h1 => ?_)
  · skip
    refine T.seq ?_
    refine T.text [.l, .l, .l, .l, .l] rfl ?_
    refine J.move rfl rfl ?_
    refine J.move rfl rfl ?_
    refine J.indexSlI sl62 rfl (Cs.isSomeN hc0 (by omega)) rfl (by omega) (by omega) (by first | exact Int.toNat_natCast _ | rfl) rfl ?_
    refine J.loadI1 (k := .l) trivial hc0 (off_nil _) rfl one3 (by first | rfl | with_reducible exact rowN_get1 _ _ _ (by omega) | with_reducible exact rowN_get _ _ _ (by omega) | exact rowN_get1 _ _ _ (by omega)) rfl ?_
    refine J.assign rfl rfl ?_
    refine J.end ?_
    refine X.then ?_
    refine T.ret ?_
    refine X.then_ret ?_
    exact X.ret1 rfl (RV.tmp rfl) (fun w' hw' => ⟨rfl, hw'.sub (Sub.nil _)⟩)
  · skip
    refine T.skip ?_
    refine X.then ?_
    refine T.seq ?_
    refine T.text [.l] rfl ?_
    refine J.assign rfl rfl ?_
    refine J.end ?_
    refine X.then ?_
    refine T.ret ?_
    exact X.ret1 rfl (RV.tmp rfl) (fun w' hw' => ⟨by rw [List.getD_eq_getElem?_getD, List.getElem?_eq_none (by omega)]; rfl, hw'.sub (Sub.nil _)⟩)

theorem longer (w : World) (A0 : Option Addr) (c0 : Nat) (xs0 : List Nat) (A1 : Option Addr) (c1 : Nat) (xs1 : List Nat) (hc0 : Cs w A0 (rowN .i64 xs0)) (hc1 : Cs w A1 (rowN .i64 xs1)) :
    Calls Tryd.prog 144 [.slice A0 xs0.length c0, .slice A1 xs1.length c1].toArray w fun e w' => e = .returned (.int .i64 ((max xs0.length xs1.length : Nat) : Int)) ∧ WS w [] [] w' := by
  refine calls_of_T [] 14 [] Tryd.func144 rfl Tryd.ntmps144 (by simp) (WS.refl _ _) ?_
  refine T.seq ?_
  refine T.text [.l] rfl ?_
  refine J.assign rfl rfl ?_
  refine J.end ?_
  refine X.then ?_
  refine T.seq ?_
  refine T.seq ?_
  refine T.text [.l, .l, .l, .l, .l] rfl ?_
  refine J.move rfl rfl ?_
  refine J.lenSl Tryd.underlying62 rfl rfl ?_
  refine J.move rfl rfl ?_
  refine J.lenSl Tryd.underlying62 rfl rfl ?_
  refine J.gtr rfl rfl rfl rfl ?_
  refine J.end ?_
  refine X.then ?_
  refine T.cond_dec rfl (fun h1 => ?_) (fun h1 => ?_)
  · skip
    refine T.seq ?_
    refine T.text [.l, .l, .l] rfl ?_
    refine J.move rfl rfl ?_
    refine J.lenSl Tryd.underlying62 rfl rfl ?_
    refine J.assign rfl rfl ?_
    refine J.end ?_
    refine X.then ?_
    refine T.ret ?_
    refine X.then_ret ?_
    exact X.ret1 rfl (RV.tmp rfl) (fun w' hw' => ⟨by congr 2; omega, hw'.sub (Sub.nil _)⟩)
  · skip
    refine T.skip ?_
    refine X.then ?_
    refine T.seq ?_
    refine T.text [.l, .l, .l] rfl ?_
    refine J.move rfl rfl ?_
    refine J.lenSl Tryd.underlying62 rfl rfl ?_
    refine J.assign rfl rfl ?_
    refine J.end ?_
    refine X.then ?_
    refine T.ret ?_
    exact X.ret1 rfl (RV.tmp rfl) (fun w' hw' => ⟨by congr 2; omega, hw'.sub (Sub.nil _)⟩)

theorem none_ (w : World) (A0 : Option Addr) (c0 : Nat) (xs0 : List Nat) (hc0 : Cs w A0 (rowN .i64 xs0)) (hb0 : xs0.length ≤ 4294967296) :
    Calls Tryd.prog 118 [.slice A0 xs0.length c0].toArray w fun e w' => e = .returned (.bool (decide (vl xs0 = 0))) ∧ WS w [] [] w' := by
  refine calls_of_T [] 15 [] Tryd.func118 rfl Tryd.ntmps118 (by simp) (WS.refl _ _) ?_
  refine T.seq ?_
  refine T.text [.l] rfl ?_
  refine J.assign rfl rfl ?_
  refine J.end ?_
  refine X.then ?_
  refine T.seq ?_
  refine T.seq ?_
  refine T.text [.l] rfl ?_
  refine J.assign rfl rfl ?_
  refine J.end ?_
  refine X.then ?_
  refine T.block ?_
  refine T.loop (ι := Nat) (fun (k : Nat) => k ≤ xs0.length ∧ ∀ t, t < k → xs0.getD t 0 = 0) (fun (k : Nat) => [(0, .slice A0 xs0.length c0), (3, .int .i64 (k : Int))]) (fun (k : Nat) => []) (fun (k : Nat) => xs0.length - k) 0 ⟨Nat.zero_le _, fun t ht => by omega⟩ (by repeat (first | exact Sub.nil _ | refine Sub.cons (by first | rfl | (rw [dgs_zero]; rfl) | (rw [List.drop_length]; rfl) | (simp; done) | (congr 2; omega) | (congr 3; omega)) ?_)) (by repeat (first | exact Sub.nil _ | refine Sub.cons (by first | rfl | (rw [dgs_zero]; rfl) | (rw [List.drop_length]; rfl) | (simp; done) | (congr 2; omega) | (congr 3; omega)) ?_)) ?_
  rintro k ⟨hk, hz⟩
  refine T.seq ?_
  refine T.seq ?_
  refine T.text [.l, .l, .l, .l] rfl ?_
  refine J.move rfl rfl ?_
  refine J.move rfl rfl ?_
  refine J.lenSl Tryd.underlying62 rfl rfl ?_
  refine J.lss rfl rfl rfl rfl ?_
  refine J.end ?_
  refine X.then ?_
  refine T.cond_dec rfl (fun h1 => ?_) (fun h1 => ?_)
  · skip
    refine T.skip ?_
    refine X.then ?_
    refine T.seq ?_
    refine T.block ?_
    refine T.seq ?_
    refine T.text [.l, .l, .l, .l, .l] rfl ?_
    refine J.move rfl rfl ?_
    refine J.move rfl rfl ?_
    refine J.indexSlI sl62 rfl (Cs.isSomeN hc0 (by omega)) rfl (by omega) (by omega) (by first | exact Int.toNat_natCast _ | rfl) rfl ?_
    refine J.loadI1 (k := .l) trivial hc0 (off_nil _) rfl one3 (by first | rfl | with_reducible exact rowN_get1 _ _ _ (by omega) | with_reducible exact rowN_get _ _ _ (by omega) | exact rowN_get1 _ _ _ (by omega)) rfl ?_
    refine J.neq rfl rfl rfl rfl ?_
    refine J.end ?_
    refine X.then ?_
    refine T.cond_dec rfl (fun h2 => ?_) (fun h2 => ?_)
    · skip
      refine T.seq ?_
      refine T.text [.l] rfl ?_
      refine J.assign rfl rfl ?_
      refine J.end ?_
      refine X.then ?_
      refine T.ret ?_
      refine X.inBlock_ret (X.then_ret (X.then_ret (X.inBlock_ret (X.then_ret ?_))))
      exact X.ret1 rfl (RV.tmp rfl) (fun w' hw' => ⟨by rw [decide_eq_false (vl_pos _ k (by omega))], hw'.sub (Sub.nil _)⟩)
    · skip
      refine T.skip ?_
      refine X.inBlock (X.then ?_)
      refine T.text [.l, .l, .l] rfl ?_
      refine J.move rfl rfl ?_
      refine J.add rfl rfl rfl (by first | exact add_nat _ 1 (by omega) | exact i64_ok _ (by omega) | exact rfl) ?_
      refine J.assign rfl rfl ?_
      refine J.end ?_
      exact X.round (k + 1) ⟨by omega, fun t ht => (Nat.lt_or_ge t k).elim (hz t) (fun h => by obtain rfl : t = k := (by omega); omega)⟩ (by first | omega | (dsimp only; omega)) (by repeat (first | exact Sub.nil _ | refine Sub.cons (by first | rfl | (rw [dgs_zero]; rfl) | (rw [List.drop_length]; rfl) | (simp; done) | (congr 2; omega) | (congr 3; omega)) ?_)) (by repeat (first | exact Sub.nil _ | refine Sub.cons (by first | rfl | (rw [dgs_zero]; rfl) | (rw [List.drop_length]; rfl) | (simp; done) | (congr 2; omega) | (congr 3; omega)) ?_))
  · skip
    refine T.exit ?_
    refine X.then_exit (X.then_exit (X.inBlock_eq (X.then ?_)))
    refine T.seq ?_
    refine T.text [.l] rfl ?_
    refine J.assign rfl rfl ?_
    refine J.end ?_
    refine X.then ?_
    refine T.ret ?_
    exact X.ret1 rfl (RV.tmp rfl) (fun w' hw' => ⟨by rw [decide_eq_true (vl_zero fun t => (Nat.lt_or_ge t k).elim (hz t) (fun h => by rw [List.getD_eq_getElem?_getD, List.getElem?_eq_none (by omega)]; rfl))], hw'.sub (Sub.nil _)⟩)

theorem compare (w : World) (A0 : Option Addr) (c0 : Nat) (xs0 : List Nat) (hc0 : Cs w A0 (rowN .i64 xs0)) (A1 : Option Addr) (c1 : Nat) (xs1 : List Nat) (hc1 : Cs w A1 (rowN .i64 xs1)) (hx0 : Dg xs0) (hb0 : xs0.length ≤ 4294967296) (hx1 : Dg xs1) (hb1 : xs1.length ≤ 4294967296) :
    Calls Tryd.prog 136 [.slice A0 xs0.length c0, .slice A1 xs1.length c1].toArray w fun e w' => e = .returned (.int .i64 (cmpN (vl xs0) (vl xs1))) ∧ WS w [] [] w' := by
  refine calls_of_T [] 28 [] Tryd.func136 rfl Tryd.ntmps136 (by simp) (WS.refl _ _) ?_
  refine T.seq ?_
  refine T.text [.l] rfl ?_
  refine J.assign rfl rfl ?_
  refine J.end ?_
  refine X.then ?_
  refine T.seq ?_
  refine T.seq ?_
  refine T.text [.l, .l, .l, .l, .l] rfl ?_
  refine J.move rfl rfl ?_
  refine J.move rfl rfl ?_
  refine J.call0 (k := .l) trivial fok144 rfl rfl (fun w hw => Ra.longer w _ _ _ _ _ _ (hc0.ws hw (off_nil _)) (hc1.ws hw (off_nil _))) ?_
  refine J.sub' rfl rfl rfl (by exact i64_ok _ (by omega)) ?_
  refine J.assign rfl rfl ?_
  refine J.end ?_
  refine X.then ?_
  refine T.block ?_
  refine T.loop (ι := Nat) (fun (j : Nat) => j ≤ max xs0.length xs1.length ∧ ∀ t, j ≤ t → xs0.getD t 0 = xs1.getD t 0) (fun (j : Nat) => [(0, .slice A0 xs0.length c0), (1, .slice A1 xs1.length c1), (8, .slice A0 xs0.length c0), (9, .slice A1 xs1.length c1), (5, .int .i64 ((j : Int) - 1))]) (fun (j : Nat) => []) (fun (j : Nat) => j) (max xs0.length xs1.length) ⟨Nat.le_refl _, fun t ht => by rw [List.getD_eq_getElem?_getD, List.getD_eq_getElem?_getD, List.getElem?_eq_none (by omega), List.getElem?_eq_none (by omega)]⟩ (by repeat (first | exact Sub.nil _ | refine Sub.cons (by first | rfl | (rw [dgs_zero]; rfl) | (rw [List.drop_length]; rfl) | (simp; done) | (congr 2; omega) | (congr 3; omega)) ?_)) (by repeat (first | exact Sub.nil _ | refine Sub.cons (by first | rfl | (rw [dgs_zero]; rfl) | (rw [List.drop_length]; rfl) | (simp; done) | (congr 2; omega) | (congr 3; omega)) ?_)) ?_
  rintro j ⟨hj, hz⟩
  refine T.seq ?_
  refine T.seq ?_
  refine T.text [.l, .l] rfl ?_
  refine J.move rfl rfl ?_
  refine J.geq rfl rfl rfl rfl ?_
  refine J.end ?_
  refine X.then ?_
  refine T.cond_dec rfl (fun h1 => ?_) (fun h1 => ?_)
  · obtain ⟨i, rfl⟩ : ∃ i, j = i + 1 := ⟨j - 1, by omega⟩
    refine T.as 5 (.int .i64 (i : Int)) rfl (by congr 1; omega) ?_
    refine T.skip ?_
    refine X.then ?_
    refine T.seq ?_
    refine T.block ?_
    refine T.seq ?_
    refine T.text [.l, .l, .l, .l] rfl ?_
    refine J.move rfl rfl ?_
    refine J.move rfl rfl ?_
    refine J.call0 (k := .l) trivial fok143 rfl rfl (fun w hw => Ra.digit w _ _ _ _ (hc0.ws hw (off_nil _))) ?_
    refine J.assign rfl rfl ?_
    refine J.end ?_
    refine X.then ?_
    refine T.seq ?_
    refine T.text [.l, .l, .l, .l] rfl ?_
    refine J.move rfl rfl ?_
    refine J.move rfl rfl ?_
    refine J.call0 (k := .l) trivial fok143 rfl rfl (fun w hw => Ra.digit w _ _ _ _ (hc1.ws hw (off_nil _))) ?_
    refine J.assign rfl rfl ?_
    refine J.end ?_
    refine X.then ?_
    refine T.seq ?_
    refine T.seq ?_
    refine T.text [.l, .l, .l] rfl ?_
    refine J.move rfl rfl ?_
    refine J.move rfl rfl ?_
    refine J.lss rfl rfl rfl rfl ?_
    refine J.end ?_
    refine X.then ?_
    refine T.cond_dec rfl (fun h2 => ?_) (fun h2 => ?_)
    · skip
      refine T.seq ?_
      refine T.text [.l] rfl ?_
      refine J.assign rfl rfl ?_
      refine J.end ?_
      refine X.then ?_
      refine T.ret ?_
      refine X.then_ret (X.inBlock_ret (X.then_ret (X.then_ret (X.inBlock_ret (X.then_ret ?_)))))
      exact X.ret1 rfl (RV.tmp rfl) (fun w' hw' => ⟨by rw [cmpN_lt (vl_lt_at i _ _ hx0 hx1 (by omega) (fun t ht => hz t ht))], hw'.sub (Sub.nil _)⟩)
    · skip
      refine T.skip ?_
      refine X.then ?_
      refine T.seq ?_
      refine T.text [.l, .l, .l] rfl ?_
      refine J.move rfl rfl ?_
      refine J.move rfl rfl ?_
      refine J.gtr rfl rfl rfl rfl ?_
      refine J.end ?_
      refine X.then ?_
      refine T.cond_dec rfl (fun h3 => ?_) (fun h3 => ?_)
      · skip
        refine T.seq ?_
        refine T.text [.l] rfl ?_
        refine J.assign rfl rfl ?_
        refine J.end ?_
        refine X.then ?_
        refine T.ret ?_
        refine X.inBlock_ret (X.then_ret (X.then_ret (X.inBlock_ret (X.then_ret ?_))))
        exact X.ret1 rfl (RV.tmp rfl) (fun w' hw' => ⟨by rw [cmpN_gt (vl_lt_at i _ _ hx1 hx0 (by omega) (fun t ht => (hz t ht).symm))], hw'.sub (Sub.nil _)⟩)
      · skip
        refine T.skip ?_
        refine X.inBlock (X.then ?_)
        refine T.text [.l, .l, .l] rfl ?_
        refine J.move rfl rfl ?_
        refine J.sub' rfl rfl rfl (by first | exact sub_nat _ 1 (by omega) | exact i64_ok _ (by omega) | exact rfl) ?_
        refine J.assign rfl rfl ?_
        refine J.end ?_
        exact X.round i ⟨by omega, fun t ht => (Nat.lt_or_ge i t).elim (fun h => hz t h) (fun h => by obtain rfl : t = i := (by omega); omega)⟩ (by first | omega | (dsimp only; omega)) (by repeat (first | exact Sub.nil _ | refine Sub.cons (by first | rfl | (rw [dgs_zero]; rfl) | (rw [List.drop_length]; rfl) | (simp; done) | (congr 2; omega) | (congr 3; omega)) ?_)) (by repeat (first | exact Sub.nil _ | refine Sub.cons (by first | rfl | (rw [dgs_zero]; rfl) | (rw [List.drop_length]; rfl) | (simp; done) | (congr 2; omega) | (congr 3; omega)) ?_))
  · skip
    refine T.exit ?_
    refine X.then_exit (X.then_exit (X.inBlock_eq (X.then ?_)))
    refine T.seq ?_
    refine T.text [.l] rfl ?_
    refine J.assign rfl rfl ?_
    refine J.end ?_
    refine X.then ?_
    refine T.ret ?_
    exact X.ret1 rfl (RV.tmp rfl) (fun w' hw' => ⟨by rw [cmpN_eq (vl_ext _ _ fun t => hz t (by omega))], hw'.sub (Sub.nil _)⟩)

theorem plus (w : World) (A0 : Option Addr) (c0 : Nat) (xs0 : List Nat) (hc0 : Cs w A0 (rowN .i64 xs0)) (A1 : Option Addr) (c1 : Nat) (xs1 : List Nat) (hc1 : Cs w A1 (rowN .i64 xs1)) (hx0 : Dg xs0) (hb0 : xs0.length ≤ 4294967296) (hx1 : Dg xs1) (hb1 : xs1.length ≤ 4294967296) :
    Calls Tryd.prog 109 [.slice A0 xs0.length c0, .slice A1 xs1.length c1].toArray w fun e w' => RowsPost w 3 .i64 (fun zs => Dg zs ∧ zs.length = max xs0.length xs1.length + 1 ∧ vl zs = vl xs0 + vl xs1) e w' := by
  refine calls_of_T [] 33 [] Tryd.func109 rfl Tryd.ntmps109 (by simp) (WS.refl _ _) ?_
  refine T.seq ?_
  refine T.text [.l] rfl ?_
  refine J.assign rfl rfl ?_
  refine J.end ?_
  refine X.then ?_
  refine T.seq ?_
  refine T.text [.l] rfl ?_
  refine J.assign rfl rfl ?_
  refine J.end ?_
  refine X.then ?_
  refine T.seq ?_
  refine T.text [.l] rfl ?_
  refine J.assign rfl rfl ?_
  refine J.end ?_
  refine X.then ?_
  refine T.seq ?_
  refine T.seq ?_
  refine T.text [.l] rfl ?_
  refine J.assign rfl rfl ?_
  refine J.end ?_
  refine X.then ?_
  refine T.block ?_
  refine T.addNil 5 3 ?_
  refine T.loop (ι := Nat × Nat × List Nat × RowIx) (fun ((i, c, zs, r) : Nat × Nat × List Nat × RowIx) => i ≤ max xs0.length xs1.length + 1 ∧ c ≤ 1 ∧ Dg zs ∧ zs.length = i ∧ vl zs + c * 256 ^ i = vl (xs0.take i) + vl (xs1.take i) ∧ r.Ok 1 zs.length) (fun ((i, c, zs, r) : Nat × Nat × List Nat × RowIx) => [(0, .slice A0 xs0.length c0), (1, .slice A1 xs1.length c1), (4, .slice none 0 0), (5, r.val zs.length), (6, .int .i64 (c : Int)), (7, .int .i64 (i : Int))]) (fun ((i, c, zs, r) : Nat × Nat × List Nat × RowIx) => [(5, r.ent 3 (rowN .i64 zs))]) (fun ((i, c, zs, r) : Nat × Nat × List Nat × RowIx) => max xs0.length xs1.length + 1 - i) ⟨0, 0, [], RowIx.nil⟩ ⟨Nat.zero_le _, Nat.zero_le _, Dg.nil, rfl, by simp [vl], RowIx.nil_ok 1⟩ (by repeat (first | exact Sub.nil _ | refine Sub.cons (by first | rfl | (rw [dgs_zero]; rfl) | (rw [List.drop_length]; rfl) | (simp; done) | (congr 2; omega) | (congr 3; omega)) ?_)) (by repeat (first | exact Sub.nil _ | refine Sub.cons (by first | rfl | (rw [dgs_zero]; rfl) | (rw [List.drop_length]; rfl) | (simp; done) | (congr 2; omega) | (congr 3; omega)) ?_)) ?_
  rintro ⟨i, c, zs, r⟩ ⟨hi, hcc, hz, hl, hv, hr⟩
  try dsimp only at *
  have hd0 := hx0.getD i
  have hd1 := hx1.getD i
  have hst := plus_step hx0 hx1 hz hl hcc hv
  refine T.seq ?_
  refine T.seq ?_
  refine T.text [.l, .l, .l, .l, .l] rfl ?_
  refine J.move rfl rfl ?_
  refine J.move rfl rfl ?_
  refine J.move rfl rfl ?_
  refine J.call0 (k := .l) trivial fok144 rfl rfl (fun w hw => Ra.longer w _ _ _ _ _ _ (hc0.ws hw (off_nil _)) (hc1.ws hw (off_nil _))) ?_
  refine J.leq rfl rfl rfl rfl ?_
  refine J.end ?_
  refine X.then ?_
  refine T.cond_dec rfl (fun h1 => ?_) (fun h1 => ?_)
  · skip
    refine T.skip ?_
    refine X.then ?_
    refine T.seq ?_
    refine T.block ?_
    refine T.seq ?_
    refine T.text [.l, .l, .l, .l, .l, .l, .l, .l, .l, .l] rfl ?_
    refine J.move rfl rfl ?_
    refine J.move rfl rfl ?_
    refine J.call0 (k := .l) trivial fok143 rfl rfl (fun w hw => Ra.digit w _ _ _ _ (hc0.ws hw (off_nil _))) ?_
    refine J.move rfl rfl ?_
    refine J.move rfl rfl ?_
    refine J.call0 (k := .l) trivial fok143 rfl rfl (fun w hw => Ra.digit w _ _ _ _ (hc1.ws hw (off_nil _))) ?_
    refine J.add rfl rfl rfl (by first | exact add_nat _ _ (by omega) | exact i64_ok _ (by omega) | exact rfl) ?_
    refine J.move rfl rfl ?_
    refine J.add rfl rfl rfl (by first | exact add_nat _ _ (by omega) | exact i64_ok _ (by omega) | exact rfl) ?_
    refine J.assign rfl rfl ?_
    refine J.end ?_
    refine X.then ?_
    refine T.seq ?_
    refine T.text [.l, .l, .l, .l, .l, .l] rfl ?_
    refine J.move rfl rfl ?_
    refine J.move rfl rfl ?_
    refine J.rem rfl rfl rfl (by omega) (by first | exact rem_nat _ 256 | exact rem_ok _ _ (by omega) | exact rfl) ?_
    refine J.lit1 28 rfl Tryd.underlying62 el3 (by decide) rfl [_] rfl rfl rfl (fun g28 hg28 => ?_)
    refine J.append 5 rfl Tryd.underlying62 el3 rfl hr (by rw [rowN_length, Nat.mul_one]) rfl rfl rfl (fun w hw => (hw.blkCs (k := 28) rfl)) (by first | exact rowN_one _ _ | (intro u hu; simp at hu; subst hu; rfl)) (by omega) (by unfold maxLen; omega) rfl (zs ++ [(xs0.getD i 0 + xs1.getD i 0 + c) % 256]).length (by simp) (rowN .i64 (zs ++ [(xs0.getD i 0 + xs1.getD i 0 + c) % 256])) (by rw [rowN_append]; rfl) (fun r29 hr29 => ?_)
    refine J.assign rfl rfl ?_
    refine J.end ?_
    refine X.then ?_
    refine T.text [.l, .l, .l] rfl ?_
    refine J.move rfl rfl ?_
    refine J.quo rfl rfl rfl (by omega) (by first | exact quo_nat _ 256 (by omega) | exact i64_quo_ok _ _ (by omega) | exact rfl) ?_
    refine J.assign rfl rfl ?_
    refine J.end ?_
    refine X.inBlock (X.then ?_)
    refine T.text [.l, .l, .l] rfl ?_
    refine J.move rfl rfl ?_
    refine J.add rfl rfl rfl (by first | exact add_nat _ 1 (by omega) | exact i64_ok _ (by omega) | exact rfl) ?_
    refine J.assign rfl rfl ?_
    refine J.end ?_
    exact X.round ⟨(i + 1), ((xs0.getD i 0 + xs1.getD i 0 + c) / 256), (zs ++ [(xs0.getD i 0 + xs1.getD i 0 + c) % 256]), r29⟩ ⟨by omega, hst.2.1, hst.1, by simp [hl], hst.2.2, hr29⟩ (by first | omega | (dsimp only; omega)) (by repeat (first | exact Sub.nil _ | refine Sub.cons (by first | rfl | (rw [dgs_zero]; rfl) | (rw [List.drop_length]; rfl) | (simp; done) | (congr 2; omega) | (congr 3; omega)) ?_)) (by repeat (first | exact Sub.nil _ | refine Sub.cons (by first | rfl | (rw [dgs_zero]; rfl) | (rw [List.drop_length]; rfl) | (simp; done) | (congr 2; omega) | (congr 3; omega)) ?_))
  · skip
    refine T.exit ?_
    refine X.then_exit (X.then_exit (X.inBlock_eq (X.then ?_)))
    refine T.seq ?_
    refine T.text [.l, .l] rfl ?_
    refine J.move rfl rfl ?_
    refine J.assign rfl rfl ?_
    refine J.end ?_
    refine X.then ?_
    refine T.ret ?_
    exact X.ret1 rfl (RV.tmp rfl) (fun w' hw' => RowsPost.mk' zs ⟨hz, by omega, by
          obtain rfl : i = max xs0.length xs1.length + 1 := by omega
          rw [vl_take_all _ _ (by omega), vl_take_all _ _ (by omega)] at hv
          have h3 := vl_lt hx0
          have h4 := vl_lt hx1
          have h5 : 256 ^ xs0.length ≤ 256 ^ max xs0.length xs1.length := Nat.pow_le_pow_right (by omega) (by omega)
          have h6 : 256 ^ xs1.length ≤ 256 ^ max xs0.length xs1.length := Nat.pow_le_pow_right (by omega) (by omega)
          rw [Nat.pow_succ] at hv
          rcases Nat.eq_zero_or_pos c with h7 | h7
          · subst h7; omega
          · obtain rfl : c = 1 := by omega
            omega⟩ r hr rfl hw' 5 rfl)

theorem cut (w : World) (A0 : Option Addr) (c0 : Nat) (xs0 : List Nat) (hc0 : Cs w A0 (rowN .i64 xs0)) (n : Nat) (hb0 : xs0.length ≤ 4294967296) :
    Calls Tryd.prog 132 [.slice A0 xs0.length c0, .int .i64 (n : Int)].toArray w fun e w' => RowsPost w 3 .i64 (fun zs => zs = xs0.take n) e w' := by
  refine calls_of_T [] 26 [] Tryd.func132 rfl Tryd.ntmps132 (by simp) (WS.refl _ _) ?_
  refine T.seq ?_
  refine T.text [.l] rfl ?_
  refine J.assign rfl rfl ?_
  refine J.end ?_
  refine X.then ?_
  refine T.seq ?_
  refine T.text [.l] rfl ?_
  refine J.assign rfl rfl ?_
  refine J.end ?_
  refine X.then ?_
  refine T.seq ?_
  refine T.seq ?_
  refine T.text [.l] rfl ?_
  refine J.assign rfl rfl ?_
  refine J.end ?_
  refine X.then ?_
  refine T.block ?_
  refine T.addNil 5 3 ?_
  refine T.loop (ι := Nat × RowIx) (fun ((i, r) : Nat × RowIx) => i ≤ n ∧ i ≤ xs0.length ∧ r.Ok 1 (xs0.take i).length) (fun ((i, r) : Nat × RowIx) => [(0, .slice A0 xs0.length c0), (1, .int .i64 (n : Int)), (4, .slice none 0 0), (5, r.val (xs0.take i).length), (6, .int .i64 (i : Int))]) (fun ((i, r) : Nat × RowIx) => [(5, r.ent 3 (rowN .i64 (xs0.take i)))]) (fun ((i, r) : Nat × RowIx) => n - i) ⟨0, RowIx.nil⟩ ⟨Nat.zero_le _, Nat.zero_le _, RowIx.nil_ok 1⟩ (by repeat (first | exact Sub.nil _ | refine Sub.cons (by first | rfl | (rw [dgs_zero]; rfl) | (rw [List.drop_length]; rfl) | (simp; done) | (congr 2; omega) | (congr 3; omega)) ?_)) (by repeat (first | exact Sub.nil _ | refine Sub.cons (by first | rfl | (rw [dgs_zero]; rfl) | (rw [List.drop_length]; rfl) | (simp; done) | (congr 2; omega) | (congr 3; omega)) ?_)) ?_
  rintro ⟨i, r⟩ ⟨hi, hi2, hr⟩
  try dsimp only at *
  have hlt : (xs0.take i).length = i := by rw [List.length_take]; omega
  refine T.seq ?_
  refine T.seq ?_
  refine T.text [.l, .l, .l, .l, .l, .l, .l, .l, .l] rfl ?_
  refine J.move rfl rfl ?_
  refine J.move rfl rfl ?_
  refine J.lss rfl rfl rfl rfl ?_
  refine J.move rfl rfl ?_
  refine J.split 10 rfl (fun h1 => ?_) (fun h1 => ?_)
  · skip
    refine J.yes rfl rfl ?_
    refine J.move rfl rfl ?_
    refine J.yes rfl rfl ?_
    refine J.move rfl rfl ?_
    refine J.yes rfl rfl ?_
    refine J.lenSl Tryd.underlying62 rfl rfl ?_
    refine J.yes rfl rfl ?_
    refine J.lss rfl rfl rfl rfl ?_
    refine J.pick_t rfl rfl rfl ?_
    refine J.end ?_
    refine X.then ?_
    refine T.cond_dec rfl (fun h2 => ?_) (fun h2 => ?_)
    · skip
      refine T.skip ?_
      refine X.then ?_
      refine T.seq ?_
      refine T.block ?_
      refine T.text [.l, .l, .l, .l, .l, .l, .l, .l] rfl ?_
      refine J.move rfl rfl ?_
      refine J.move rfl rfl ?_
      refine J.move rfl rfl ?_
      refine J.indexSlI sl62 rfl (Cs.isSomeN hc0 (by omega)) rfl (by omega) (by omega) (by first | exact Int.toNat_natCast _ | rfl) rfl ?_
      refine J.loadI1 (k := .l) trivial hc0 (off_nil _) rfl one3 (by first | rfl | with_reducible exact rowN_get1 _ _ _ (by omega) | with_reducible exact rowN_get _ _ _ (by omega) | exact rowN_get1 _ _ _ (by omega)) rfl ?_
      refine J.lit1 23 rfl Tryd.underlying62 el3 (by decide) rfl [_] rfl rfl rfl (fun g23 hg23 => ?_)
      have hts : xs0.take (i + 1) = xs0.take i ++ [xs0.getD i 0] := by rw [List.take_succ_eq_append_getElem (by omega)]; simp [List.getD, show i < xs0.length by omega]
      refine J.append 5 rfl Tryd.underlying62 el3 rfl hr (by rw [rowN_length, Nat.mul_one]) rfl rfl rfl (fun w hw => (hw.blkCs (k := 23) rfl)) (by first | exact rowN_one _ _ | (intro u hu; simp at hu; subst hu; rfl)) (by omega) (by unfold maxLen; omega) rfl (xs0.take (i + 1)).length (by rw [hts]; simp) (rowN .i64 (xs0.take (i + 1))) (by rw [hts, rowN_append]; rfl) (fun r24 hr24 => ?_)
      refine J.assign rfl rfl ?_
      refine J.end ?_
      refine X.inBlock (X.then ?_)
      refine T.text [.l, .l, .l] rfl ?_
      refine J.move rfl rfl ?_
      refine J.add rfl rfl rfl (by first | exact add_nat _ 1 (by omega) | exact i64_ok _ (by omega) | exact rfl) ?_
      refine J.assign rfl rfl ?_
      refine J.end ?_
      exact X.round ⟨(i + 1), r24⟩ ⟨by omega, by omega, hr24⟩ (by first | omega | (dsimp only; omega)) (by repeat (first | exact Sub.nil _ | refine Sub.cons (by first | rfl | (rw [dgs_zero]; rfl) | (rw [List.drop_length]; rfl) | (simp; done) | (congr 2; omega) | (congr 3; omega)) ?_)) (by repeat (first | exact Sub.nil _ | refine Sub.cons (by first | rfl | (rw [dgs_zero]; rfl) | (rw [List.drop_length]; rfl) | (simp; done) | (congr 2; omega) | (congr 3; omega)) ?_))
    · skip
      refine T.exit ?_
      refine X.then_exit (X.then_exit (X.inBlock_eq (X.then ?_)))
      refine T.seq ?_
      refine T.text [.l, .l] rfl ?_
      refine J.move rfl rfl ?_
      refine J.assign rfl rfl ?_
      refine J.end ?_
      refine X.then ?_
      refine T.ret ?_
      exact X.ret1 rfl (RV.tmp rfl) (fun w' hw' => RowsPost.mk' (xs0.take i) (by first | (rw [List.take_of_length_le (by omega), List.take_of_length_le (by omega)]; done) | (congr 1; omega)) r hr rfl hw' 5 rfl)
  · skip
    refine J.no rfl rfl rfl rfl ?_
    refine J.no rfl rfl rfl rfl ?_
    refine J.no rfl rfl rfl rfl ?_
    refine J.no rfl rfl rfl rfl ?_
    refine J.pick_f rfl rfl rfl ?_
    refine J.end ?_
    refine X.then ?_
    refine T.cond_false rfl ?_
    refine T.exit ?_
    refine X.then_exit (X.then_exit (X.inBlock_eq (X.then ?_)))
    refine T.seq ?_
    refine T.text [.l, .l] rfl ?_
    refine J.move rfl rfl ?_
    refine J.assign rfl rfl ?_
    refine J.end ?_
    refine X.then ?_
    refine T.ret ?_
    exact X.ret1 rfl (RV.tmp rfl) (fun w' hw' => RowsPost.mk' (xs0.take i) (by first | (rw [List.take_of_length_le (by omega), List.take_of_length_le (by omega)]; done) | (congr 1; omega)) r hr rfl hw' 5 rfl)

theorem full (w : World) :
    Calls Tryd.prog 113 [].toArray w fun e w' => RowsPost w 3 .i64 (fun zs => zs = List.replicate 32 0 ++ [1]) e w' := by
  refine calls_of_T [] 6 [] Tryd.func113 rfl Tryd.ntmps113 (by simp) (WS.refl _ _) ?_
  refine T.seq ?_
  refine T.text [.l] rfl ?_
  refine J.assign rfl rfl ?_
  refine J.end ?_
  refine X.then ?_
  refine T.seq ?_
  refine T.text [.l, .l] rfl ?_
  refine J.makeSlice 2 rfl (q := 33) (c0 := 33) Tryd.underlying62 el3 rfl rfl (by first | rfl | omega) (by first | rfl | omega) (by omega) (by decide) (by unfold maxLen; omega) rfl (fun g2 hg2 => ?_)
  refine J.assign rfl rfl ?_
  refine J.end ?_
  refine X.then ?_
  refine T.seq ?_
  refine T.text [.l, .l, .l] rfl ?_
  refine J.move rfl rfl ?_
  refine J.indexRow sl62 rfl rfl rfl (by omega) (by omega) (by rfl) rfl ?_
  refine J.store 2 rfl rfl rfl rfl [_] rfl sz3 (by rw [zeros_length]; decide) (by first | exact rowN_one _ _ | (simp; done) | (intro u hu; simp at hu; subst hu; rfl) | (intro u hu; simp at hu; rcases hu with rfl | rfl <;> rfl)) (by first | decide | exact Nat.zero_lt_succ _ | simp) trivial (rowN .i64 (List.replicate 32 0 ++ [1])) rfl ?_
  refine J.end ?_
  refine X.then ?_
  refine T.seq ?_
  refine T.text [.l, .l] rfl ?_
  refine J.move rfl rfl ?_
  refine J.assign rfl rfl ?_
  refine J.end ?_
  refine X.then ?_
  refine T.ret ?_
  exact X.ret1 rfl (RV.tmp rfl) (fun w' hw' => RowsPost.mk' (List.replicate 32 0 ++ [1]) rfl ⟨some g2, 33, []⟩ ⟨by simp, by simp [maxLen], by simp, fun h => by simp at h, fun u hu => by simp at hu⟩ rfl hw' 2 (by simp [RowIx.ent]; rfl))

theorem word (w : World) (A0 : Option Addr) (c0 : Nat) (xs0 : List Nat) (hc0 : Cs w A0 (rowN .i64 xs0)) (hx0 : Dg xs0) (hb0 : xs0.length ≤ 4294967296) :
    Calls Tryd.prog 108 [.slice A0 xs0.length c0].toArray w fun e w' => e = .returned (W (vl xs0)) ∧ WS w [] [] w' := by
  refine calls_of_T [] 23 [] Tryd.func108 rfl Tryd.ntmps108 (by simp) (WS.refl _ _) ?_
  refine T.seq ?_
  refine T.text [.l] rfl ?_
  refine J.alloc 2 rfl zero24 [.int .u64 0, .int .u64 0, .int .u64 0, .int .u64 0] rfl rfl (fun g2 hg2 => ?_)
  refine J.end ?_
  refine X.then ?_
  refine T.seq ?_
  refine T.text [.l] rfl ?_
  refine J.alloc 3 rfl zero24 [.int .u64 0, .int .u64 0, .int .u64 0, .int .u64 0] rfl rfl (fun g3 hg3 => ?_)
  refine J.end ?_
  refine X.then ?_
  refine T.seq ?_
  refine T.seq ?_
  refine T.text [.l] rfl ?_
  refine J.assign rfl rfl ?_
  refine J.end ?_
  refine X.then ?_
  refine T.block ?_
  refine T.loop (ι := Nat × List Nat) (fun ((j, ys) : Nat × List Nat) => j ≤ 32 ∧ ys.length = 4 ∧ ∀ q, q < 4 → ys.getD q 0 = limF (vl xs0) j q) (fun ((j, ys) : Nat × List Nat) => [(0, .slice A0 xs0.length c0), (2, .pointer (some ⟨g2, 0, none⟩)), (3, .pointer (some ⟨g3, 0, none⟩)), (4, .int .i64 ((j : Int) - 1))]) (fun ((j, ys) : Nat × List Nat) => [(2, ⟨some g2, 24, [.int .u64 0, .int .u64 0, .int .u64 0, .int .u64 0]⟩), (3, ⟨some g3, 24, rowN .u64 ys⟩)]) (fun ((j, ys) : Nat × List Nat) => j) ⟨32, [0, 0, 0, 0]⟩ ⟨Nat.le_refl _, rfl, fun q hq => by rw [limF_far _ _ _ (by omega)]; match q, hq with | 0, _ => rfl | 1, _ => rfl | 2, _ => rfl | 3, _ => rfl⟩ (by repeat (first | exact Sub.nil _ | refine Sub.cons (by first | rfl | (rw [dgs_zero]; rfl) | (rw [List.drop_length]; rfl) | (simp; done) | (congr 2; omega) | (congr 3; omega)) ?_)) (by repeat (first | exact Sub.nil _ | refine Sub.cons (by first | rfl | (rw [dgs_zero]; rfl) | (rw [List.drop_length]; rfl) | (simp; done) | (congr 2; omega) | (congr 3; omega)) ?_)) ?_
  rintro ⟨j, ys⟩ ⟨hj, hl, hp⟩
  try dsimp only at *
  refine T.seq ?_
  refine T.seq ?_
  refine T.text [.l, .l] rfl ?_
  refine J.move rfl rfl ?_
  refine J.geq rfl rfl rfl rfl ?_
  refine J.end ?_
  refine X.then ?_
  refine T.cond_dec rfl (fun h1 => ?_) (fun h1 => ?_)
  · obtain ⟨i, rfl⟩ : ∃ i, j = i + 1 := ⟨j - 1, by omega⟩
    refine T.as 4 (.int .i64 (i : Int)) rfl (by congr 1; omega) ?_
    have hq4 : i / 8 < 4 := by omega
    have hlt := limF_lt' (vl xs0) (i + 1) (i / 8) (by omega)
    rw [← hp _ hq4] at hlt
    have hdl := hx0.getD i
    refine T.skip ?_
    refine X.then ?_
    refine T.seq ?_
    refine T.block ?_
    refine T.draw [] [(0, .g), (1, .g), (2, .g), (3, .g), (4, .g), (5, .q), (6, .g), (7, .g), (8, .g), (9, .q), (10, .g), (11, .g), (12, .g), (13, .l)] (by kernel_rfl) (by kernel_rfl) ?_ (by repeat (first | exact Sub.nil _ | refine Sub.cons (by first | rfl | (rw [dgs_zero]; rfl) | (rw [List.drop_length]; rfl) | (simp; done) | (congr 2; omega) | (congr 3; omega)) ?_))
    refine J.move rfl rfl ?_
    refine J.quo rfl rfl rfl (by omega) (by first | exact quo_nat _ 8 (by omega) | exact i64_quo_ok _ _ (by omega) | exact rfl) ?_
    refine J.move rfl rfl ?_
    refine J.quo rfl rfl rfl (by omega) (by first | exact quo_nat _ 8 (by omega) | exact i64_quo_ok _ _ (by omega) | exact rfl) ?_
    refine J.indexArr arr24 rfl rfl (by omega) (by omega) (by first | exact Int.toNat_natCast _ | rfl) rfl ?_
    refine J.load1 (k := .q) trivial 3 rfl rfl one22 (by first | rfl | with_reducible exact rowN_get0 _ _ _ (by omega) | with_reducible exact rowN_get1 _ _ _ (by omega) | with_reducible exact rowN_get1s _ _ _ _ (by omega) | exact rowN_get1 _ _ _ (by omega) | exact rowN_get1s _ _ _ _ (by omega) | exact rowN_get0 _ _ _ (by omega)) rfl ?_
    refine J.mul rfl rfl rfl (by first | exact mulu_nat _ 256 (by omega) | exact u64_ok _ (by omega) | exact u64_wrap _) ?_
    refine J.move rfl rfl ?_
    refine J.move rfl rfl ?_
    refine J.call0 (k := .q) trivial fok143 rfl rfl (fun w hw => Ra.digit w _ _ _ _ (hc0.ws hw (off_nil _))) ?_
    refine J.conv (by rw [Tryd.underlying3]; rfl) Tryd.underlying22 rfl rfl (by first | exact wrapu_nat' _ (by omega) | exact wrapu_nat _ | exact u64_wrap _) ?_
    refine J.add rfl rfl rfl (by first | exact addu_nat _ _ (by omega) | exact u64_ok _ (by omega) | exact u64_wrap _) ?_
    refine J.indexArr arr24 rfl rfl (by omega) (by omega) (by first | exact Int.toNat_natCast _ | rfl) rfl ?_
    refine J.store 3 rfl rfl rfl rfl [.int .u64 ((ys.getD (i / 8) 0 * 256 + xs0.getD i 0 : Nat) : Int)] rfl sz22 (by rw [rowN_length, hl]; show _ + 1 ≤ 4; omega) (by first | exact rowN_one _ _ | (simp; done) | (intro u hu; simp at hu; subst hu; rfl) | (intro u hu; simp at hu; rcases hu with rfl | rfl <;> rfl)) (by first | decide | exact Nat.zero_lt_succ _ | simp) trivial (rowN .u64 (ys.set (i / 8) (ys.getD (i / 8) 0 * 256 + xs0.getD i 0))) (by rw [Nat.zero_add, Nat.mul_one]; exact putN' _ _ _ _ (by omega)) ?_
    refine J.end ?_
    refine X.inBlock (X.then ?_)
    refine T.text [.l, .l, .l] rfl ?_
    refine J.move rfl rfl ?_
    refine J.sub' rfl rfl rfl (by first | exact sub_nat _ 1 (by omega) | exact i64_ok _ (by omega) | exact rfl) ?_
    refine J.assign rfl rfl ?_
    refine J.end ?_
    exact X.round ⟨i, (ys.set (i / 8) (ys.getD (i / 8) 0 * 256 + xs0.getD i 0))⟩ ⟨by omega, by simp [hl], fun q hq => by
          rw [getD_set _ _ _ _ (by omega)]
          split
          · rename_i hiq; subst hiq; rw [limF_step _ _ _ (by omega) (by omega), ← vl_get hx0, ← hp _ hq]
          · rw [limF_other _ _ _ (by omega)]; exact hp q hq⟩ (by first | omega | (dsimp only; omega)) (by repeat (first | exact Sub.nil _ | refine Sub.cons (by first | rfl | (rw [dgs_zero]; rfl) | (rw [List.drop_length]; rfl) | (simp; done) | (congr 2; omega) | (congr 3; omega)) ?_)) (by repeat (first | exact Sub.nil _ | refine Sub.cons (by first | rfl | (rw [dgs_zero]; rfl) | (rw [List.drop_length]; rfl) | (simp; done) | (congr 2; omega) | (congr 3; omega)) ?_))
  · obtain rfl : j = 0 := by omega
    obtain rfl : ys = wl (vl xs0) := wl_of hl _ (fun q hq => by rw [hp q hq, limF_zero])
    refine T.exit ?_
    refine X.then_exit (X.then_exit (X.inBlock_eq (X.then ?_)))
    refine T.seq ?_
    refine T.text [.l, .l] rfl ?_
    refine J.loadN (k := .l) trivial 3 rfl rfl agg24 (wc (vl xs0)) rfl rfl rfl ?_
    refine J.store 2 rfl rfl rfl rfl (wc (vl xs0)) rfl sz24 (by first | decide | exact Nat.le_refl _ | exact Nat.le_of_ble_eq_true rfl | (simp [rowN]; done) | (simp [rowN]; omega)) (by first | exact rowN_one _ _ | (simp; done) | (intro u hu; simp at hu; subst hu; rfl) | (intro u hu; simp at hu; rcases hu with rfl | rfl <;> rfl)) (by first | decide | exact Nat.zero_lt_succ _ | simp) trivial (wc (vl xs0)) rfl ?_
    refine J.end ?_
    refine X.then ?_
    refine T.ret ?_
    exact X.ret1 rfl (RV.agg 2 rfl rfl agg24 (wc (vl xs0)) (by rfl) (by rfl) rfl) (fun w' hw' => ⟨rfl, hw'.sub (Sub.nil _)⟩)

theorem of (w : World) (x0 : Nat) :
    Calls Tryd.prog 110 [W x0].toArray w fun e w' => RowsPost w 3 .i64 (fun zs => zs = dgs x0 32) e w' := by
  refine calls_of_T [] 30 [] Tryd.func110 rfl Tryd.ntmps110 (by simp) (WS.refl _ _) ?_
  refine T.seq ?_
  refine T.text [.l, .l] rfl ?_
  refine J.box 1 rfl rfl (wc x0) rfl rfl (fun g1 hg1 => ?_)
  refine J.assign rfl rfl ?_
  refine J.end ?_
  refine X.then ?_
  refine T.seq ?_
  refine T.text [.l] rfl ?_
  refine J.assign rfl rfl ?_
  refine J.end ?_
  refine X.then ?_
  refine T.seq ?_
  refine T.seq ?_
  refine T.text [.l] rfl ?_
  refine J.assign rfl rfl ?_
  refine J.end ?_
  refine X.then ?_
  refine T.block ?_
  refine T.addNil 3 3 ?_
  refine T.loop (ι := Nat × RowIx) (fun ((i, r) : Nat × RowIx) => i ≤ 32 ∧ r.Ok 1 (dgs x0 i).length) (fun ((i, r) : Nat × RowIx) => [(0, W x0), (1, .pointer (some ⟨g1, 0, none⟩)), (2, .slice none 0 0), (3, r.val (dgs x0 i).length), (4, .int .i64 (i : Int))]) (fun ((i, r) : Nat × RowIx) => [(1, ⟨some g1, 24, (wc x0)⟩), (3, r.ent 3 (rowN .i64 (dgs x0 i)))]) (fun ((i, r) : Nat × RowIx) => 32 - i) ⟨0, RowIx.nil⟩ ⟨Nat.zero_le _, by rw [dgs_zero]; exact RowIx.nil_ok 1⟩ (by repeat (first | exact Sub.nil _ | refine Sub.cons (by first | rfl | (rw [dgs_zero]; rfl) | (rw [List.drop_length]; rfl) | (simp; done) | (congr 2; omega) | (congr 3; omega)) ?_)) (by repeat (first | exact Sub.nil _ | refine Sub.cons (by first | rfl | (rw [dgs_zero]; rfl) | (rw [List.drop_length]; rfl) | (simp; done) | (congr 2; omega) | (congr 3; omega)) ?_)) ?_
  rintro ⟨i, r⟩ ⟨hi, hr⟩
  try dsimp only at *
  have hll := lim_lt x0 (i / 8)
  have hdl := dgs_length x0 i
  refine T.seq ?_
  refine T.seq ?_
  refine T.text [.l, .l] rfl ?_
  refine J.move rfl rfl ?_
  refine J.lss rfl rfl rfl rfl ?_
  refine J.end ?_
  refine X.then ?_
  refine T.cond_dec rfl (fun h1 => ?_) (fun h1 => ?_)
  · skip
    refine T.skip ?_
    refine X.then ?_
    refine T.seq ?_
    refine T.block ?_
    refine T.seq ?_
    refine T.text [.l, .l, .l, .l, .l] rfl ?_
    refine J.move rfl rfl ?_
    refine J.quo rfl rfl rfl (by omega) (by first | exact quo_nat _ 8 (by omega) | exact i64_quo_ok _ _ (by omega) | exact rfl) ?_
    refine J.indexArr arr24 rfl rfl (by omega) (by omega) (by first | exact Int.toNat_natCast _ | rfl) rfl ?_
    refine J.load1 (k := .l) trivial 1 rfl rfl one22 (by exact rowN_get0 _ _ _ (by rw [wl_length]; omega)) rfl ?_
    refine J.as 14 (.int .u64 ((lim x0 (i / 8) : Nat) : Int)) rfl (by rw [wl_get _ _ (by omega)]) ?_
    refine J.assign rfl rfl ?_
    refine J.as 5 (.int .u64 ((lim x0 (i / 8) / 256 ^ 0 : Nat) : Int)) rfl (by rw [Nat.pow_zero, Nat.div_one]) ?_
    refine J.end ?_
    refine X.then ?_
    refine T.seq ?_
    refine T.seq ?_
    refine T.text [.l] rfl ?_
    refine J.assign rfl rfl ?_
    refine J.end ?_
    refine X.then ?_
    refine T.block ?_
    refine T.loop (ι := Nat) (fun (k : Nat) => k ≤ i % 8) (fun (k : Nat) => [(0, W x0), (1, .pointer (some ⟨g1, 0, none⟩)), (2, .slice none 0 0), (3, r.val (dgs x0 i).length), (4, .int .i64 (i : Int)), (7, .int .i64 (i : Int)), (11, .int .i64 (i : Int)), (5, .int .u64 ((lim x0 (i / 8) / 256 ^ k : Nat) : Int)), (6, .int .i64 (k : Int))]) (fun (k : Nat) => [(1, ⟨some g1, 24, (wc x0)⟩), (3, r.ent 3 (rowN .i64 (dgs x0 i)))]) (fun (k : Nat) => 8 - k) 0 (Nat.zero_le _) (by repeat (first | exact Sub.nil _ | refine Sub.cons (by first | rfl | (rw [dgs_zero]; rfl) | (rw [List.drop_length]; rfl) | (simp; done) | (congr 2; omega) | (congr 3; omega)) ?_)) (by repeat (first | exact Sub.nil _ | refine Sub.cons (by first | rfl | (rw [dgs_zero]; rfl) | (rw [List.drop_length]; rfl) | (simp; done) | (congr 2; omega) | (congr 3; omega)) ?_)) ?_
    rintro k hk
    have hlk : lim x0 (i / 8) / 256 ^ k ≤ lim x0 (i / 8) := Nat.div_le_self _ _
    refine T.seq ?_
    refine T.seq ?_
    refine T.text [.l, .l, .l, .l] rfl ?_
    refine J.move rfl rfl ?_
    refine J.move rfl rfl ?_
    refine J.rem rfl rfl rfl (by omega) (by first | exact rem_nat _ 8 | exact rem_ok _ _ (by omega) | exact rfl) ?_
    refine J.lss rfl rfl rfl rfl ?_
    refine J.end ?_
    refine X.then ?_
    refine T.cond_dec rfl (fun h2 => ?_) (fun h2 => ?_)
    · skip
      refine T.skip ?_
      refine X.then ?_
      refine T.seq ?_
      refine T.block ?_
      refine T.text [.l, .l, .l] rfl ?_
      refine J.move rfl rfl ?_
      refine J.quo rfl rfl rfl (by omega) (by first | exact quou_nat _ 256 (by omega) | exact u64_quo_ok _ _ (by omega) | exact rfl) ?_
      refine J.assign rfl rfl ?_
      refine J.as 5 (.int .u64 ((lim x0 (i / 8) / 256 ^ (k + 1) : Nat) : Int)) rfl (by rw [Nat.pow_succ, Nat.div_div_eq_div_mul]) ?_
      refine J.end ?_
      refine X.inBlock (X.then ?_)
      refine T.text [.l, .l, .l] rfl ?_
      refine J.move rfl rfl ?_
      refine J.add rfl rfl rfl (by first | exact add_nat _ 1 (by omega) | exact i64_ok _ (by omega) | exact rfl) ?_
      refine J.assign rfl rfl ?_
      refine J.end ?_
      exact X.round (k + 1) (by omega) (by first | omega | (dsimp only; omega)) (by repeat (first | exact Sub.nil _ | refine Sub.cons (by first | rfl | (rw [dgs_zero]; rfl) | (rw [List.drop_length]; rfl) | (simp; done) | (congr 2; omega) | (congr 3; omega)) ?_)) (by repeat (first | exact Sub.nil _ | refine Sub.cons (by first | rfl | (rw [dgs_zero]; rfl) | (rw [List.drop_length]; rfl) | (simp; done) | (congr 2; omega) | (congr 3; omega)) ?_))
    · obtain rfl : k = i % 8 := by omega
      have hmod : lim x0 (i / 8) / 256 ^ (i % 8) % 256 < 256 := Nat.mod_lt _ (by omega)
      refine T.exit ?_
      refine X.then_exit (X.then_exit (X.inBlock_eq (X.then ?_)))
      refine T.text [.l, .l, .l, .l, .l, .l, .l] rfl ?_
      refine J.move rfl rfl ?_
      refine J.move rfl rfl ?_
      refine J.rem rfl rfl rfl (by omega) (by first | exact rem_nat _ 256 | exact rem_ok _ _ (by omega) | exact rfl) ?_
      refine J.conv (by rw [Tryd.underlying22]; rfl) Tryd.underlying3 rfl rfl (by first | exact wrap_nat64 _ (by omega) | exact i64_ok _ (by omega) | exact rfl) ?_
      refine J.lit1 27 rfl Tryd.underlying62 el3 (by decide) rfl [_] rfl rfl rfl (fun g27 hg27 => ?_)
      refine J.append 3 rfl Tryd.underlying62 el3 rfl hr (by rw [rowN_length, Nat.mul_one]) rfl rfl rfl (fun w hw => (hw.blkCs (k := 27) rfl)) (by first | exact rowN_one _ _ | (intro u hu; simp at hu; subst hu; rfl)) (by omega) (by unfold maxLen; omega) rfl (dgs x0 (i + 1)).length (by rw [dgs_length, dgs_length]) (rowN .i64 (dgs x0 (i + 1))) (by rw [dgs_succ, rowN_append, ← lim_digit x0 i]; rfl) (fun r28 hr28 => ?_)
      refine J.assign rfl rfl ?_
      refine J.end ?_
      refine X.inBlock (X.then ?_)
      refine T.text [.l, .l, .l] rfl ?_
      refine J.move rfl rfl ?_
      refine J.add rfl rfl rfl (by first | exact add_nat _ 1 (by omega) | exact i64_ok _ (by omega) | exact rfl) ?_
      refine J.assign rfl rfl ?_
      refine J.end ?_
      exact X.round ⟨(i + 1), r28⟩ ⟨by omega, hr28⟩ (by first | omega | (dsimp only; omega)) (by repeat (first | exact Sub.nil _ | refine Sub.cons (by first | rfl | (rw [dgs_zero]; rfl) | (rw [List.drop_length]; rfl) | (simp; done) | (congr 2; omega) | (congr 3; omega)) ?_)) (by repeat (first | exact Sub.nil _ | refine Sub.cons (by first | rfl | (rw [dgs_zero]; rfl) | (rw [List.drop_length]; rfl) | (simp; done) | (congr 2; omega) | (congr 3; omega)) ?_))
  · skip
    refine T.exit ?_
    refine X.then_exit (X.then_exit (X.inBlock_eq (X.then ?_)))
    refine T.seq ?_
    refine T.text [.l, .l] rfl ?_
    refine J.move rfl rfl ?_
    refine J.assign rfl rfl ?_
    refine J.end ?_
    refine X.then ?_
    refine T.ret ?_
    exact X.ret1 rfl (RV.tmp rfl) (fun w' hw' => RowsPost.mk' (dgs x0 32) rfl r (by obtain rfl : i = 32 := (by omega); exact hr) (by obtain rfl : i = 32 := (by omega); rfl) hw' 3 (by obtain rfl : i = 32 := (by omega); rfl))

theorem Cmp (w : World) (x0 : Nat) (x1 : Nat) :
    Calls Tryd.prog 84 [W x0, W x1].toArray w fun e w' => e = .returned (.int .i64 (cmpN (x0 % 2 ^ 256) (x1 % 2 ^ 256))) ∧ WS w [] [] w' := by
  refine calls_of_T [] 10 [] Tryd.func84 rfl Tryd.ntmps84 (by simp) (WS.refl _ _) ?_
  refine T.seq ?_
  refine T.text [.l, .l, .l] rfl ?_
  refine J.box 2 rfl rfl (wc x0) rfl rfl (fun g2 hg2 => ?_)
  refine J.box 3 rfl rfl (wc x1) rfl rfl (fun g3 hg3 => ?_)
  refine J.assign rfl rfl ?_
  refine J.end ?_
  refine X.then ?_
  refine T.seq ?_
  refine T.draw [(3, ⟨some g3, 24, (wc x1)⟩)] [(0, .q), (2, .s), (1, .l), (3, .l), (4, .q), (5, .g)] (by kernel_rfl) (by kernel_rfl) ?_ (by repeat (first | exact Sub.nil _ | refine Sub.cons (by first | rfl | (rw [dgs_zero]; rfl) | (rw [List.drop_length]; rfl) | (simp; done) | (congr 2; omega) | (congr 3; omega)) ?_))
  refine J.loadN (k := .q) trivial 2 rfl rfl agg24 (wc x0) rfl rfl rfl ?_
  refine J.loadNs 3 rfl rfl agg24 (wc x1) rfl rfl rfl ?_
  refine J.callRow 6 rfl (t := 3) (kd := .i64) fok110 rfl rfl (fun w hw => Ra.of w _) (fun zs6 r6 hz6 hr6 => ?_)
  obtain ⟨hD6, hL6, hV6, hG6⟩ := of_facts hz6
  refine J.callRow 8 rfl (t := 3) (kd := .i64) fok110 rfl rfl (fun w hw => Ra.of w _) (fun zs8 r8 hz8 hr8 => ?_)
  obtain ⟨hD8, hL8, hV8, hG8⟩ := of_facts hz8
  refine J.call0 (k := .q) trivial fok136 rfl rfl (fun w hw => Ra.compare w _ _ _ (hw.rowCs (k := 6) rfl) _ _ _ (hw.rowCs (k := 8) rfl) (by assumption) (by omega) (by assumption) (by omega)) ?_
  refine J.assign rfl rfl ?_
  refine J.end ?_
  refine X.then ?_
  refine T.ret ?_
  exact X.ret1 rfl (RV.tmp rfl) (fun w' hw' => ⟨by rw [hV6, hV8], hw'.sub (Sub.nil _)⟩)

theorem Lt (w : World) (x0 : Nat) (x1 : Nat) :
    Calls Tryd.prog 77 [W x0, W x1].toArray w fun e w' => e = .returned (.bool (decide (x0 % 2 ^ 256 < x1 % 2 ^ 256))) ∧ WS w [] [] w' := by
  refine calls_of_T [] 9 [] Tryd.func77 rfl Tryd.ntmps77 (by simp) (WS.refl _ _) ?_
  refine T.seq ?_
  refine T.text [.l, .l, .l] rfl ?_
  refine J.box 2 rfl rfl (wc x0) rfl rfl (fun g2 hg2 => ?_)
  refine J.box 3 rfl rfl (wc x1) rfl rfl (fun g3 hg3 => ?_)
  refine J.assign rfl rfl ?_
  refine J.end ?_
  refine X.then ?_
  refine T.seq ?_
  refine T.text [.l, .l, .l, .l, .l] rfl ?_
  refine J.loadN (k := .l) trivial 2 rfl rfl agg24 (wc x0) rfl rfl rfl ?_
  refine J.loadN (k := .l) trivial 3 rfl rfl agg24 (wc x1) rfl rfl rfl ?_
  refine J.call0 (k := .l) trivial fok84 rfl rfl (fun w hw => Ra.Cmp w _ _) ?_
  refine J.lss rfl rfl rfl rfl ?_
  refine J.assign rfl rfl ?_
  refine J.end ?_
  refine X.then ?_
  refine T.ret ?_
  exact X.ret1 rfl (RV.tmp rfl) (fun w' hw' => ⟨by congr 1; rw [cmpN_neg], hw'.sub (Sub.nil _)⟩)

theorem Gt (w : World) (x0 : Nat) (x1 : Nat) :
    Calls Tryd.prog 78 [W x0, W x1].toArray w fun e w' => e = .returned (.bool (decide (x1 % 2 ^ 256 < x0 % 2 ^ 256))) ∧ WS w [] [] w' := by
  refine calls_of_T [] 9 [] Tryd.func78 rfl Tryd.ntmps78 (by simp) (WS.refl _ _) ?_
  refine T.seq ?_
  refine T.text [.l, .l, .l] rfl ?_
  refine J.box 2 rfl rfl (wc x0) rfl rfl (fun g2 hg2 => ?_)
  refine J.box 3 rfl rfl (wc x1) rfl rfl (fun g3 hg3 => ?_)
  refine J.assign rfl rfl ?_
  refine J.end ?_
  refine X.then ?_
  refine T.seq ?_
  refine T.text [.l, .l, .l, .l, .l] rfl ?_
  refine J.loadN (k := .l) trivial 2 rfl rfl agg24 (wc x0) rfl rfl rfl ?_
  refine J.loadN (k := .l) trivial 3 rfl rfl agg24 (wc x1) rfl rfl rfl ?_
  refine J.call0 (k := .l) trivial fok84 rfl rfl (fun w hw => Ra.Cmp w _ _) ?_
  refine J.gtr rfl rfl rfl rfl ?_
  refine J.assign rfl rfl ?_
  refine J.end ?_
  refine X.then ?_
  refine T.ret ?_
  exact X.ret1 rfl (RV.tmp rfl) (fun w' hw' => ⟨by congr 1; rw [cmpN_pos], hw'.sub (Sub.nil _)⟩)

theorem IsZero (w : World) (x0 : Nat) :
    Calls Tryd.prog 82 [W x0].toArray w fun e w' => e = .returned (.bool (decide (x0 % 2 ^ 256 = 0))) ∧ WS w [] [] w' := by
  refine calls_of_T [] 6 [] Tryd.func82 rfl Tryd.ntmps82 (by simp) (WS.refl _ _) ?_
  refine T.seq ?_
  refine T.text [.l, .l] rfl ?_
  refine J.box 1 rfl rfl (wc x0) rfl rfl (fun g1 hg1 => ?_)
  refine J.assign rfl rfl ?_
  refine J.end ?_
  refine X.then ?_
  refine T.seq ?_
  refine T.text [.l, .l, .l, .l] rfl ?_
  refine J.loadN (k := .l) trivial 1 rfl rfl agg24 (wc x0) rfl rfl rfl ?_
  refine J.callRow 4 rfl (t := 3) (kd := .i64) fok110 rfl rfl (fun w hw => Ra.of w _) (fun zs4 r4 hz4 hr4 => ?_)
  obtain ⟨hD4, hL4, hV4, hG4⟩ := of_facts hz4
  refine J.call0 (k := .l) trivial fok118 rfl rfl (fun w hw => Ra.none_ w _ _ _ (hw.rowCs (k := 4) rfl) (by first | assumption | omega)) ?_
  refine J.assign rfl rfl ?_
  refine J.end ?_
  refine X.then ?_
  refine T.ret ?_
  exact X.ret1 rfl (RV.tmp rfl) (fun w' hw' => ⟨by rw [hV4], hw'.sub (Sub.nil _)⟩)

theorem Size (w : World) (x0 : Nat) :
    Calls Tryd.prog 76 [W x0].toArray w fun e w' => e = .returned (.int .i64 (sizeN x0 : Int)) ∧ WS w [] [] w' := by
  refine calls_of_T [] 20 [] Tryd.func76 rfl Tryd.ntmps76 (by simp) (WS.refl _ _) ?_
  refine T.seq ?_
  refine T.text [.l, .l] rfl ?_
  refine J.box 1 rfl rfl (wc x0) rfl rfl (fun g1 hg1 => ?_)
  refine J.assign rfl rfl ?_
  refine J.end ?_
  refine X.then ?_
  refine T.seq ?_
  refine T.text [.l, .l, .l] rfl ?_
  refine J.loadN (k := .l) trivial 1 rfl rfl agg24 (wc x0) rfl rfl rfl ?_
  refine J.callRow 6 rfl (t := 3) (kd := .i64) fok110 rfl rfl (fun w hw => Ra.of w _) (fun zs6 r6 hz6 hr6 => ?_)
  obtain ⟨hD6, hL6, hV6, hG6⟩ := of_facts hz6
  refine J.assign rfl rfl ?_
  refine J.end ?_
  refine X.then ?_
  refine T.seq ?_
  refine T.text [.l] rfl ?_
  refine J.assign rfl rfl ?_
  refine J.end ?_
  refine X.then ?_
  refine T.seq ?_
  refine T.block ?_
  refine T.loop (ι := Nat) (fun (n : Nat) => n ≤ 32 ∧ ∀ t, n ≤ t → t < 32 → x0 / 256 ^ t % 256 = 0) (fun (n : Nat) => [(0, W x0), (1, .pointer (some ⟨g1, 0, none⟩)), (2, .int .i64 0), (5, W x0), (6, r6.val zs6.length), (3, r6.val zs6.length), (4, .int .i64 (n : Int))]) (fun (n : Nat) => [(1, ⟨some g1, 24, (wc x0)⟩), (6, r6.ent 3 (rowN .i64 zs6))]) (fun (n : Nat) => n) 32 ⟨Nat.le_refl _, fun t h1 h2 => by omega⟩ (by repeat (first | exact Sub.nil _ | refine Sub.cons (by first | rfl | (rw [dgs_zero]; rfl) | (rw [List.drop_length]; rfl) | (simp; done) | (congr 2; omega) | (congr 3; omega)) ?_)) (by repeat (first | exact Sub.nil _ | refine Sub.cons (by first | rfl | (rw [dgs_zero]; rfl) | (rw [List.drop_length]; rfl) | (simp; done) | (congr 2; omega) | (congr 3; omega)) ?_)) ?_
  rintro n ⟨hn, hz⟩
  refine T.seq ?_
  refine T.seq ?_
  refine T.text [.l, .l, .l, .l, .l, .l, .l, .l, .l, .l] rfl ?_
  refine J.move rfl rfl ?_
  refine J.gtr rfl rfl rfl rfl ?_
  refine J.move rfl rfl ?_
  refine J.split 9 rfl (fun h1 => ?_) (fun h1 => ?_)
  · obtain ⟨i, rfl⟩ : ∃ i, n = i + 1 := ⟨n - 1, by omega⟩
    refine J.yes rfl rfl ?_
    refine J.move rfl rfl ?_
    refine J.yes rfl rfl ?_
    refine J.move rfl rfl ?_
    refine J.yes rfl rfl ?_
    refine J.sub' rfl rfl rfl (by first | exact sub_nat _ 1 (by omega) | exact i64_ok _ (by omega) | exact rfl) ?_
    refine J.yes rfl rfl ?_
    refine J.indexRow sl62 rfl (hr6.some (by omega)) rfl (by omega) (by omega) (by first | exact Int.toNat_natCast _ | rfl) rfl ?_
    refine J.yes rfl rfl ?_
    refine J.load1 (k := .l) trivial 6 rfl rfl one3 (by first | rfl | with_reducible exact rowN_get0 _ _ _ (by omega) | with_reducible exact rowN_get1 _ _ _ (by omega) | with_reducible exact rowN_get1s _ _ _ _ (by omega) | exact rowN_get1 _ _ _ (by omega) | exact rowN_get1s _ _ _ _ (by omega) | exact rowN_get0 _ _ _ (by omega)) rfl ?_
    refine J.as 14 (.int .i64 ((x0 / 256 ^ i % 256 : Nat) : Int)) rfl (by rw [hG6 _ (by omega)]; rfl) ?_
    refine J.yes rfl rfl ?_
    refine J.eql rfl rfl rfl rfl ?_
    refine J.pick_t rfl rfl rfl ?_
    refine J.end ?_
    refine X.then ?_
    refine T.cond_dec rfl (fun h2 => ?_) (fun h2 => ?_)
    · skip
      refine T.skip ?_
      refine X.then ?_
      refine T.block ?_
      refine T.text [.l, .l, .l] rfl ?_
      refine J.move rfl rfl ?_
      refine J.sub' rfl rfl rfl (by first | exact sub_nat _ 1 (by omega) | exact i64_ok _ (by omega) | exact rfl) ?_
      refine J.assign rfl rfl ?_
      refine J.end ?_
      refine X.inBlock ?_
      exact X.round i ⟨by omega, fun t h3 h4 => (Nat.lt_or_ge i t).elim (fun h => hz t h h4) (fun h => by obtain rfl : t = i := (by omega); omega)⟩ (by first | omega | (dsimp only; omega)) (by repeat (first | exact Sub.nil _ | refine Sub.cons (by first | rfl | (rw [dgs_zero]; rfl) | (rw [List.drop_length]; rfl) | (simp; done) | (congr 2; omega) | (congr 3; omega)) ?_)) (by repeat (first | exact Sub.nil _ | refine Sub.cons (by first | rfl | (rw [dgs_zero]; rfl) | (rw [List.drop_length]; rfl) | (simp; done) | (congr 2; omega) | (congr 3; omega)) ?_))
    · skip
      refine T.exit ?_
      refine X.then_exit (X.then_exit (X.inBlock_eq (X.then ?_)))
      refine T.seq ?_
      refine T.text [.l, .l] rfl ?_
      refine J.move rfl rfl ?_
      refine J.assign rfl rfl ?_
      refine J.end ?_
      refine X.then ?_
      refine T.ret ?_
      exact X.ret1 rfl (RV.tmp rfl) (fun w' hw' => ⟨by rw [sizeN_of hn hz (by first | (intro h; omega) | (intro _; rw [Nat.add_sub_cancel]; omega))], hw'.sub (Sub.nil _)⟩)
  · skip
    refine J.no rfl rfl rfl rfl ?_
    refine J.no rfl rfl rfl rfl ?_
    refine J.no rfl rfl rfl rfl ?_
    refine J.no rfl rfl rfl rfl ?_
    refine J.no rfl rfl rfl rfl ?_
    refine J.no rfl rfl rfl rfl ?_
    refine J.pick_f rfl rfl rfl ?_
    refine J.end ?_
    refine X.then ?_
    refine T.cond_false rfl ?_
    refine T.exit ?_
    refine X.then_exit (X.then_exit (X.inBlock_eq (X.then ?_)))
    refine T.seq ?_
    refine T.text [.l, .l] rfl ?_
    refine J.move rfl rfl ?_
    refine J.assign rfl rfl ?_
    refine J.end ?_
    refine X.then ?_
    refine T.ret ?_
    exact X.ret1 rfl (RV.tmp rfl) (fun w' hw' => ⟨by rw [sizeN_of hn hz (by first | (intro h; omega) | (intro _; rw [Nat.add_sub_cancel]; omega))], hw'.sub (Sub.nil _)⟩)

theorem Uint (w : World) (x0 : Nat) :
    Calls Tryd.prog 94 [W x0].toArray w fun e w' => e = .returned (.tuple #[.int .u64 ((if sizeN x0 > 8 then 0 else lim x0 0 : Nat) : Int), .bool (decide (¬ sizeN x0 > 8))]) ∧ WS w [] [] w' := by
  refine calls_of_T [] 9 [] Tryd.func94 rfl Tryd.ntmps94 (by simp) (WS.refl _ _) ?_
  refine T.seq ?_
  refine T.text [.l, .l, .l] rfl ?_
  refine J.box 1 rfl rfl (wc x0) rfl rfl (fun g1 hg1 => ?_)
  refine J.assign rfl rfl ?_
  refine J.assign rfl rfl ?_
  refine J.end ?_
  refine X.then ?_
  refine T.seq ?_
  refine T.seq ?_
  refine T.text [.l, .l, .l] rfl ?_
  refine J.loadN (k := .l) trivial 1 rfl rfl agg24 (wc x0) rfl rfl rfl ?_
  refine J.call0 (k := .l) trivial fok76 rfl rfl (fun w hw => Ra.Size w _) ?_
  refine J.gtr rfl rfl rfl rfl ?_
  refine J.end ?_
  refine X.then ?_
  refine T.cond_dec rfl (fun h1 => ?_) (fun h1 => ?_)
  · skip
    refine T.seq ?_
    refine T.text [.l, .l] rfl ?_
    refine J.assign rfl rfl ?_
    refine J.assign rfl rfl ?_
    refine J.end ?_
    refine X.then ?_
    refine T.ret ?_
    refine X.then_ret ?_
    exact X.ret2 rfl (RV.tmp rfl) (RV.tmp rfl) (fun w' hw' => ⟨by rw [if_pos (by omega), decide_eq_false (by omega)]; rfl, hw'.sub (Sub.nil _)⟩)
  · skip
    refine T.skip ?_
    refine X.then ?_
    refine T.seq ?_
    refine T.text [.l, .l, .l, .l] rfl ?_
    refine J.indexArr arr24 rfl rfl (by omega) (by omega) (by rfl) rfl ?_
    refine J.load1 (k := .l) trivial 1 rfl rfl one22 rfl rfl ?_
    refine J.assign rfl rfl ?_
    refine J.assign rfl rfl ?_
    refine J.end ?_
    refine X.then ?_
    refine T.ret ?_
    exact X.ret2 rfl (RV.tmp rfl) (RV.tmp rfl) (fun w' hw' => ⟨by rw [if_neg (by omega), decide_eq_true (by omega)], hw'.sub (Sub.nil _)⟩)
end Go.Proofs.YtegociefcfcihaaDoor.Ra
set_option linter.unusedVariables false
set_option maxRecDepth 20000
namespace Go.Proofs.YtegociefcfcihaaDoor.Rc
open Go Go.Fw

theorem zero256 : ZeroT Tryd.prog 78 (.agg (rowN .i64 (List.replicate 256 0)).toArray) := (by unfold ZeroT; kernel_rfl)
theorem sz78 : SizeT Tryd.prog 78 256 := (by unfold SizeT; kernel_rfl)
theorem agg24 : AggT Tryd.prog 24 4 := ⟨⟨_, Tryd.underlying24, rfl⟩, by kernel_rfl⟩
theorem fok84 : FnOk Tryd.prog 84 := FnOk.mk' Tryd.func84 (by kernel_rfl) rfl
theorem el3 : ElT Tryd.prog 3 1 8 (.int .i64 0) := ⟨by kernel_rfl, rfl, by decide, by decide⟩
theorem fok144 : FnOk Tryd.prog 144 := FnOk.mk' Tryd.func144 (by kernel_rfl) rfl
theorem fok143 : FnOk Tryd.prog 143 := FnOk.mk' Tryd.func143 (by kernel_rfl) rfl
theorem sz3 : SizeT Tryd.prog 3 1 := (by unfold SizeT; kernel_rfl)
theorem sl62 : SlT Tryd.prog 62 3 1 := ⟨Tryd.underlying62, sz3⟩
theorem one3 : OneT Tryd.prog 3 := ⟨⟨_, Tryd.underlying3, rfl⟩, by kernel_rfl⟩

theorem Eq (w : World) (x0 : Nat) (x1 : Nat) :
    Calls Tryd.prog 80 [W x0, W x1].toArray w fun e w' => e = .returned (.bool (decide (x0 % 2 ^ 256 = x1 % 2 ^ 256))) ∧ WS w [] [] w' := by
  refine calls_of_T [] 9 [] Tryd.func80 rfl Tryd.ntmps80 (by simp) (WS.refl _ _) ?_
  refine T.seq ?_
  refine T.text [.l, .l, .l] rfl ?_
  refine J.box 2 rfl rfl (wc x0) rfl rfl (fun g2 hg2 => ?_)
  refine J.box 3 rfl rfl (wc x1) rfl rfl (fun g3 hg3 => ?_)
  refine J.assign rfl rfl ?_
  refine J.end ?_
  refine X.then ?_
  refine T.seq ?_
  refine T.text [.l, .l, .l, .l, .l] rfl ?_
  refine J.loadN (k := .l) trivial 2 rfl rfl agg24 (wc x0) rfl rfl rfl ?_
  refine J.loadN (k := .l) trivial 3 rfl rfl agg24 (wc x1) rfl rfl rfl ?_
  refine J.call0 (k := .l) trivial fok84 rfl rfl (fun w hw => Ra.Cmp w _ _) ?_
  refine J.eql rfl rfl rfl rfl ?_
  refine J.assign rfl rfl ?_
  refine J.end ?_
  refine X.then ?_
  refine T.ret ?_
  exact X.ret1 rfl (RV.tmp rfl) (fun w' hw' => ⟨by congr 2; exact decide_eq_decide.2 (cmpN_zero _ _), hw'.sub (Sub.nil _)⟩)

theorem small (w : World) (n : Nat) (hn : n < 9223372036854775808) :
    Calls Tryd.prog 131 [.int .i64 (n : Int)].toArray w fun e w' => RowsPost w 3 .i64 (fun zs => Dg zs ∧ zs.length ≤ 8 ∧ vl zs = n) e w' := by
  refine calls_of_T [] 14 [] Tryd.func131 rfl Tryd.ntmps131 (by simp) (WS.refl _ _) ?_
  refine T.seq ?_
  refine T.text [.l] rfl ?_
  refine J.assign rfl rfl ?_
  refine J.end ?_
  refine X.then ?_
  refine T.seq ?_
  refine T.text [.l] rfl ?_
  refine J.assign rfl rfl ?_
  refine J.end ?_
  refine X.then ?_
  refine T.seq ?_
  refine T.block ?_
  refine T.addNil 3 3 ?_
  refine T.loop (ι := Nat × List Nat × RowIx) (fun ((m, zs, r) : Nat × List Nat × RowIx) => m = n / 256 ^ zs.length ∧ (m = 0 → True) ∧ zs.length ≤ 8 ∧ Dg zs ∧ vl zs = n % 256 ^ zs.length ∧ r.Ok 1 zs.length) (fun ((m, zs, r) : Nat × List Nat × RowIx) => [(2, .slice none 0 0), (3, r.val zs.length), (0, .int .i64 (m : Int))]) (fun ((m, zs, r) : Nat × List Nat × RowIx) => [(3, r.ent 3 (rowN .i64 zs))]) (fun ((m, zs, r) : Nat × List Nat × RowIx) => m) ⟨n, [], RowIx.nil⟩ ⟨by rw [List.length_nil, Nat.pow_zero, Nat.div_one], fun _ => trivial, by simp, Dg.nil, by rw [List.length_nil, Nat.pow_zero, Nat.mod_one]; rfl, RowIx.nil_ok 1⟩ (by repeat (first | exact Sub.nil _ | refine Sub.cons (by first | rfl | (rw [dgs_zero]; rfl) | (rw [List.drop_length]; rfl) | (simp; done) | (congr 2; omega) | (congr 3; omega)) ?_)) (by repeat (first | exact Sub.nil _ | refine Sub.cons (by first | rfl | (rw [dgs_zero]; rfl) | (rw [List.drop_length]; rfl) | (simp; done) | (congr 2; omega) | (congr 3; omega)) ?_)) ?_
  rintro ⟨m, zs, r⟩ ⟨hm, _, hl, hz, hv, hr⟩
  try dsimp only at *
  refine T.seq ?_
  refine T.seq ?_
  refine T.text [.l, .l] rfl ?_
  refine J.move rfl rfl ?_
  refine J.gtr rfl rfl rfl rfl ?_
  refine J.end ?_
  refine X.then ?_
  refine T.cond_dec rfl (fun h1 => ?_) (fun h1 => ?_)
  · have hl8 : zs.length < 8 := small_len hn hl hm (by omega)
    have hml : m ≤ n := by rw [hm]; exact Nat.div_le_self _ _
    refine T.skip ?_
    refine X.then ?_
    refine T.block ?_
    refine T.seq ?_
    refine T.text [.l, .l, .l, .l, .l, .l] rfl ?_
    refine J.move rfl rfl ?_
    refine J.move rfl rfl ?_
    refine J.rem rfl rfl rfl (by omega) (by first | exact rem_nat _ 256 | exact rem_ok _ _ (by omega) | exact rfl) ?_
    refine J.lit1 9 rfl Tryd.underlying62 el3 (by decide) rfl [_] rfl rfl rfl (fun g9 hg9 => ?_)
    refine J.append 3 rfl Tryd.underlying62 el3 rfl hr (by rw [rowN_length, Nat.mul_one]) rfl rfl rfl (fun w hw => (hw.blkCs (k := 9) rfl)) (by first | exact rowN_one _ _ | (intro u hu; simp at hu; subst hu; rfl)) (by omega) (by unfold maxLen; omega) rfl (zs ++ [m % 256]).length (by simp) (rowN .i64 (zs ++ [m % 256])) (by rw [rowN_append]; rfl) (fun r10 hr10 => ?_)
    refine J.assign rfl rfl ?_
    refine J.end ?_
    refine X.then ?_
    refine T.text [.l, .l, .l] rfl ?_
    refine J.move rfl rfl ?_
    refine J.quo rfl rfl rfl (by omega) (by first | exact quo_nat _ 256 (by omega) | exact i64_quo_ok _ _ (by omega) | exact rfl) ?_
    refine J.assign rfl rfl ?_
    refine J.end ?_
    refine X.inBlock ?_
    exact X.round ⟨(m / 256), (zs ++ [m % 256]), r10⟩ ⟨by rw [List.length_append, List.length_singleton, Nat.pow_succ, ← Nat.div_div_eq_div_mul, ← hm], fun _ => trivial, by rw [List.length_append, List.length_singleton]; omega, hz.snoc (Nat.mod_lt _ (by omega)), by rw [vl_snoc, hv, hm, List.length_append, List.length_singleton]; exact small_snoc n _, hr10⟩ (by dsimp only; omega) (by repeat (first | exact Sub.nil _ | refine Sub.cons (by first | rfl | (rw [dgs_zero]; rfl) | (rw [List.drop_length]; rfl) | (simp; done) | (congr 2; omega) | (congr 3; omega)) ?_)) (by repeat (first | exact Sub.nil _ | refine Sub.cons (by first | rfl | (rw [dgs_zero]; rfl) | (rw [List.drop_length]; rfl) | (simp; done) | (congr 2; omega) | (congr 3; omega)) ?_))
  · obtain rfl : m = 0 := by omega
    refine T.exit ?_
    refine X.then_exit (X.then_exit (X.inBlock_eq (X.then ?_)))
    refine T.seq ?_
    refine T.text [.l, .l] rfl ?_
    refine J.move rfl rfl ?_
    refine J.assign rfl rfl ?_
    refine J.end ?_
    refine X.then ?_
    refine T.ret ?_
    exact X.ret1 rfl (RV.tmp rfl) (fun w' hw' => RowsPost.mk' zs ⟨hz, hl, by rw [hv]; exact Nat.mod_eq_of_lt (Nat.lt_of_div_eq_zero (Nat.pow_pos (by omega)) hm.symm)⟩ r hr rfl hw' 3 rfl)

theorem minus (w : World) (A0 : Option Addr) (c0 : Nat) (xs0 : List Nat) (hc0 : Cs w A0 (rowN .i64 xs0)) (A1 : Option Addr) (c1 : Nat) (xs1 : List Nat) (hc1 : Cs w A1 (rowN .i64 xs1)) (hx0 : Dg xs0) (hb0 : xs0.length ≤ 4294967296) (hx1 : Dg xs1) (hb1 : xs1.length ≤ 4294967296) (hle : vl xs1 ≤ vl xs0) :
    Calls Tryd.prog 112 [.slice A0 xs0.length c0, .slice A1 xs1.length c1].toArray w fun e w' => RowsPost w 3 .i64 (fun zs => Dg zs ∧ zs.length = max xs0.length xs1.length ∧ vl zs = vl xs0 - vl xs1) e w' := by
  refine calls_of_T [] 34 [] Tryd.func112 rfl Tryd.ntmps112 (by simp) (WS.refl _ _) ?_
  refine T.seq ?_
  refine T.text [.l] rfl ?_
  refine J.assign rfl rfl ?_
  refine J.end ?_
  refine X.then ?_
  refine T.seq ?_
  refine T.text [.l] rfl ?_
  refine J.assign rfl rfl ?_
  refine J.end ?_
  refine X.then ?_
  refine T.seq ?_
  refine T.text [.l] rfl ?_
  refine J.assign rfl rfl ?_
  refine J.end ?_
  refine X.then ?_
  refine T.seq ?_
  refine T.seq ?_
  refine T.text [.l] rfl ?_
  refine J.assign rfl rfl ?_
  refine J.end ?_
  refine X.then ?_
  refine T.block ?_
  refine T.addNil 5 3 ?_
  refine T.loop (ι := Nat × Nat × List Nat × RowIx) (fun ((i, b, zs, r) : Nat × Nat × List Nat × RowIx) => i ≤ max xs0.length xs1.length ∧ b ≤ 1 ∧ Dg zs ∧ zs.length = i ∧ vl zs + vl (xs1.take i) = vl (xs0.take i) + b * 256 ^ i ∧ r.Ok 1 zs.length) (fun ((i, b, zs, r) : Nat × Nat × List Nat × RowIx) => [(0, .slice A0 xs0.length c0), (1, .slice A1 xs1.length c1), (4, .slice none 0 0), (5, r.val zs.length), (6, .int .i64 (b : Int)), (7, .int .i64 (i : Int))]) (fun ((i, b, zs, r) : Nat × Nat × List Nat × RowIx) => [(5, r.ent 3 (rowN .i64 zs))]) (fun ((i, b, zs, r) : Nat × Nat × List Nat × RowIx) => max xs0.length xs1.length - i) ⟨0, 0, [], RowIx.nil⟩ ⟨Nat.zero_le _, Nat.zero_le _, Dg.nil, rfl, by simp [vl], RowIx.nil_ok 1⟩ (by repeat (first | exact Sub.nil _ | refine Sub.cons (by first | rfl | (rw [dgs_zero]; rfl) | (rw [List.drop_length]; rfl) | (simp; done) | (congr 2; omega) | (congr 3; omega)) ?_)) (by repeat (first | exact Sub.nil _ | refine Sub.cons (by first | rfl | (rw [dgs_zero]; rfl) | (rw [List.drop_length]; rfl) | (simp; done) | (congr 2; omega) | (congr 3; omega)) ?_)) ?_
  rintro ⟨i, b, zs, r⟩ ⟨hi, hbb, hz, hl, hv, hr⟩
  try dsimp only at *
  have hd0 := hx0.getD i
  have hd1 := hx1.getD i
  refine T.seq ?_
  refine T.seq ?_
  refine T.text [.l, .l, .l, .l, .l] rfl ?_
  refine J.move rfl rfl ?_
  refine J.move rfl rfl ?_
  refine J.move rfl rfl ?_
  refine J.call0 (k := .l) trivial fok144 rfl rfl (fun w hw => Ra.longer w _ _ _ _ _ _ (hc0.ws hw (off_nil _)) (hc1.ws hw (off_nil _))) ?_
  refine J.lss rfl rfl rfl rfl ?_
  refine J.end ?_
  refine X.then ?_
  refine T.cond_dec rfl (fun h1 => ?_) (fun h1 => ?_)
  · skip
    refine T.skip ?_
    refine X.then ?_
    refine T.seq ?_
    refine T.block ?_
    refine T.seq ?_
    refine T.text [.l, .l, .l, .l, .l, .l, .l, .l, .l, .l] rfl ?_
    refine J.move rfl rfl ?_
    refine J.move rfl rfl ?_
    refine J.call0 (k := .l) trivial fok143 rfl rfl (fun w hw => Ra.digit w _ _ _ _ (hc0.ws hw (off_nil _))) ?_
    refine J.move rfl rfl ?_
    refine J.move rfl rfl ?_
    refine J.call0 (k := .l) trivial fok143 rfl rfl (fun w hw => Ra.digit w _ _ _ _ (hc1.ws hw (off_nil _))) ?_
    refine J.sub' rfl rfl rfl (by exact i64_ok _ (by omega)) ?_
    refine J.move rfl rfl ?_
    refine J.sub' rfl rfl rfl (by exact i64_ok _ (by omega)) ?_
    refine J.assign rfl rfl ?_
    refine J.end ?_
    refine X.then ?_
    refine T.seq ?_
    refine T.text [.l] rfl ?_
    refine J.assign rfl rfl ?_
    refine J.end ?_
    refine X.then ?_
    refine T.seq ?_
    refine T.seq ?_
    refine T.text [.l, .l] rfl ?_
    refine J.move rfl rfl ?_
    refine J.lss rfl rfl rfl rfl ?_
    refine J.end ?_
    refine X.then ?_
    refine T.cond_dec rfl (fun h2 => ?_) (fun h2 => ?_)
    · skip
      refine T.seq ?_
      refine T.text [.l, .l, .l] rfl ?_
      refine J.move rfl rfl ?_
      refine J.add rfl rfl rfl (by exact i64_ok _ (by omega)) ?_
      refine J.as 28 (.int .i64 ((xs0.getD i 0 + 256 - xs1.getD i 0 - b : Nat) : Int)) rfl (by congr 1; omega) ?_
      refine J.assign rfl rfl ?_
      refine J.end ?_
      refine X.then ?_
      refine T.text [.l] rfl ?_
      refine J.assign rfl rfl ?_
      refine J.end ?_
      refine X.then ?_
      refine T.text [.l, .l, .l, .l, .l] rfl ?_
      refine J.move rfl rfl ?_
      refine J.move rfl rfl ?_
      refine J.lit1 31 rfl Tryd.underlying62 el3 (by decide) rfl [_] rfl rfl rfl (fun g31 hg31 => ?_)
      refine J.append 5 rfl Tryd.underlying62 el3 rfl hr (by rw [rowN_length, Nat.mul_one]) rfl rfl rfl (fun w hw => (hw.blkCs (k := 31) rfl)) (by first | exact rowN_one _ _ | (intro u hu; simp at hu; subst hu; rfl)) (by omega) (by unfold maxLen; omega) rfl (zs ++ [(xs0.getD i 0 + 256 - xs1.getD i 0 - b)]).length (by simp) (rowN .i64 (zs ++ [(xs0.getD i 0 + 256 - xs1.getD i 0 - b)])) (by rw [rowN_append]; rfl) (fun r32 hr32 => ?_)
      refine J.assign rfl rfl ?_
      refine J.end ?_
      refine X.inBlock (X.then ?_)
      refine T.text [.l, .l, .l] rfl ?_
      refine J.move rfl rfl ?_
      refine J.add rfl rfl rfl (by first | exact add_nat _ 1 (by omega) | exact i64_ok _ (by omega) | exact rfl) ?_
      refine J.assign rfl rfl ?_
      refine J.end ?_
      have hdz : (xs0.getD i 0 + 256 - xs1.getD i 0 - b) < 256 := by omega
      have hee : xs0.getD i 0 + 256 * 1 = xs1.getD i 0 + b + (xs0.getD i 0 + 256 - xs1.getD i 0 - b) := by omega
      exact X.round ⟨(i + 1), 1, (zs ++ [(xs0.getD i 0 + 256 - xs1.getD i 0 - b)]), r32⟩ ⟨by omega, by dsimp only; omega, hz.snoc hdz, by simp [hl], minus_step hl hv hee, hr32⟩ (by first | omega | (dsimp only; omega)) (by repeat (first | exact Sub.nil _ | refine Sub.cons (by first | rfl | (rw [dgs_zero]; rfl) | (rw [List.drop_length]; rfl) | (simp; done) | (congr 2; omega) | (congr 3; omega)) ?_)) (by repeat (first | exact Sub.nil _ | refine Sub.cons (by first | rfl | (rw [dgs_zero]; rfl) | (rw [List.drop_length]; rfl) | (simp; done) | (congr 2; omega) | (congr 3; omega)) ?_))
    · refine T.as 8 (.int .i64 ((xs0.getD i 0 - xs1.getD i 0 - b : Nat) : Int)) rfl (by congr 1; omega) ?_
      refine T.skip ?_
      refine X.then ?_
      refine T.text [.l, .l, .l, .l, .l] rfl ?_
      refine J.move rfl rfl ?_
      refine J.move rfl rfl ?_
      refine J.lit1 31 rfl Tryd.underlying62 el3 (by decide) rfl [_] rfl rfl rfl (fun g31 hg31 => ?_)
      refine J.append 5 rfl Tryd.underlying62 el3 rfl hr (by rw [rowN_length, Nat.mul_one]) rfl rfl rfl (fun w hw => (hw.blkCs (k := 31) rfl)) (by first | exact rowN_one _ _ | (intro u hu; simp at hu; subst hu; rfl)) (by omega) (by unfold maxLen; omega) rfl (zs ++ [(xs0.getD i 0 - xs1.getD i 0 - b)]).length (by simp) (rowN .i64 (zs ++ [(xs0.getD i 0 - xs1.getD i 0 - b)])) (by rw [rowN_append]; rfl) (fun r32 hr32 => ?_)
      refine J.assign rfl rfl ?_
      refine J.end ?_
      refine X.inBlock (X.then ?_)
      refine T.text [.l, .l, .l] rfl ?_
      refine J.move rfl rfl ?_
      refine J.add rfl rfl rfl (by first | exact add_nat _ 1 (by omega) | exact i64_ok _ (by omega) | exact rfl) ?_
      refine J.assign rfl rfl ?_
      refine J.end ?_
      have hdz : (xs0.getD i 0 - xs1.getD i 0 - b) < 256 := by omega
      have hee : xs0.getD i 0 + 256 * 0 = xs1.getD i 0 + b + (xs0.getD i 0 - xs1.getD i 0 - b) := by omega
      exact X.round ⟨(i + 1), 0, (zs ++ [(xs0.getD i 0 - xs1.getD i 0 - b)]), r32⟩ ⟨by omega, by dsimp only; omega, hz.snoc hdz, by simp [hl], minus_step hl hv hee, hr32⟩ (by first | omega | (dsimp only; omega)) (by repeat (first | exact Sub.nil _ | refine Sub.cons (by first | rfl | (rw [dgs_zero]; rfl) | (rw [List.drop_length]; rfl) | (simp; done) | (congr 2; omega) | (congr 3; omega)) ?_)) (by repeat (first | exact Sub.nil _ | refine Sub.cons (by first | rfl | (rw [dgs_zero]; rfl) | (rw [List.drop_length]; rfl) | (simp; done) | (congr 2; omega) | (congr 3; omega)) ?_))
  · skip
    refine T.exit ?_
    refine X.then_exit (X.then_exit (X.inBlock_eq (X.then ?_)))
    refine T.seq ?_
    refine T.text [.l, .l] rfl ?_
    refine J.move rfl rfl ?_
    refine J.assign rfl rfl ?_
    refine J.end ?_
    refine X.then ?_
    refine T.ret ?_
    exact X.ret1 rfl (RV.tmp rfl) (fun w' hw' => RowsPost.mk' zs ⟨hz, by omega, by
          obtain rfl : i = max xs0.length xs1.length := by omega
          rw [vl_take_all _ _ (by omega), vl_take_all _ _ (by omega)] at hv
          exact minus_end hz (by rw [hl]; exact hv) hle⟩ r hr rfl hw' 5 rfl)

set_option maxHeartbeats 1000000 in
theorem times (w : World) (A0 : Option Addr) (c0 : Nat) (xs0 : List Nat) (hc0 : Cs w A0 (rowN .i64 xs0)) (A1 : Option Addr) (c1 : Nat) (xs1 : List Nat) (hc1 : Cs w A1 (rowN .i64 xs1)) (hx0 : Dg xs0) (hb0 : xs0.length ≤ 4294967296) (hx1 : Dg xs1) (hb1 : xs1.length ≤ 4294967296) :
    Calls Tryd.prog 115 [.slice A0 xs0.length c0, .slice A1 xs1.length c1].toArray w fun e w' => RowsPost w 3 .i64 (fun zs => Dg zs ∧ zs.length = (xs0.length + xs1.length + 1) ∧ vl zs = vl xs0 * vl xs1) e w' := by
  refine calls_of_T [] 56 [] Tryd.func115 rfl Tryd.ntmps115 (by simp) (WS.refl _ _) ?_
  refine T.seq ?_
  refine T.text [.l] rfl ?_
  refine J.assign rfl rfl ?_
  refine J.end ?_
  refine X.then ?_
  refine T.seq ?_
  refine T.text [.l, .l, .l, .l, .l, .l, .l, .l] rfl ?_
  refine J.move rfl rfl ?_
  refine J.lenSl Tryd.underlying62 rfl rfl ?_
  refine J.move rfl rfl ?_
  refine J.lenSl Tryd.underlying62 rfl rfl ?_
  refine J.add rfl rfl rfl (by first | exact add_nat _ _ (by omega) | exact i64_ok _ (by omega) | exact rfl) ?_
  refine J.add rfl rfl rfl (by first | exact add_nat _ 1 (by omega) | exact i64_ok _ (by omega) | exact rfl) ?_
  refine J.makeSlice 16 rfl (q := (xs0.length + xs1.length + 1)) (c0 := (xs0.length + xs1.length + 1)) Tryd.underlying62 el3 rfl rfl (by first | rfl | omega) (by first | rfl | omega) (by omega) (by omega) (by unfold maxLen; omega) rfl (fun g16 hg16 => ?_)
  refine J.assign rfl rfl ?_
  refine J.end ?_
  refine X.then ?_
  refine T.seq ?_
  refine T.seq ?_
  refine T.text [.l] rfl ?_
  refine J.assign rfl rfl ?_
  refine J.end ?_
  refine X.then ?_
  refine T.block ?_
  refine T.asE 16 ⟨some g16, 3, rowN .i64 (List.replicate (xs0.length + xs1.length + 1) 0)⟩ rfl (by rw [zeros_nat]) ?_
  refine T.loop (ι := Nat × List Nat) (fun ((i, ps) : Nat × List Nat) => i ≤ xs0.length ∧ ps.length = (xs0.length + xs1.length + 1) ∧ Dq 256 ps ∧ vq 256 ps = vl (xs0.take i) * vl xs1 ∧ ∀ q, i + xs1.length ≤ q → ps.getD q 0 = 0) (fun ((i, ps) : Nat × List Nat) => [(0, .slice A0 xs0.length c0), (1, .slice A1 xs1.length c1), (4, .slice none 0 0), (10, .slice A0 xs0.length c0), (11, .int .i64 ((xs0.length : Nat) : Int)), (12, .slice A1 xs1.length c1), (13, .int .i64 ((xs1.length : Nat) : Int)), (16, .slice (hdOf (some g16)) (xs0.length + xs1.length + 1) (xs0.length + xs1.length + 1)), (5, .slice (hdOf (some g16)) (xs0.length + xs1.length + 1) (xs0.length + xs1.length + 1)), (6, .int .i64 (i : Int))]) (fun ((i, ps) : Nat × List Nat) => [(16, ⟨some g16, 3, rowN .i64 ps⟩)]) (fun ((i, ps) : Nat × List Nat) => xs0.length - i) ⟨0, (List.replicate (xs0.length + xs1.length + 1) 0)⟩ ⟨Nat.zero_le _, List.length_replicate, dq_zeros _ (by decide) _, by rw [vq_zeros, List.take_zero]; simp [vl], fun q hq => getD_replicate0 _ _⟩ (by repeat (first | exact Sub.nil _ | refine Sub.cons (by first | rfl | (rw [dgs_zero]; rfl) | (rw [List.drop_length]; rfl) | (simp; done) | (congr 2; omega) | (congr 3; omega)) ?_)) (by repeat (first | exact Sub.nil _ | refine Sub.cons (by first | rfl | (rw [dgs_zero]; rfl) | (rw [List.drop_length]; rfl) | (simp; done) | (congr 2; omega) | (congr 3; omega)) ?_)) ?_
  rintro ⟨i, ps⟩ ⟨hi, hl, hd, hv, hz⟩
  try dsimp only at *
  refine T.seq ?_
  refine T.seq ?_
  refine T.text [.l, .l, .l, .l] rfl ?_
  refine J.move rfl rfl ?_
  refine J.move rfl rfl ?_
  refine J.lenSl Tryd.underlying62 rfl rfl ?_
  refine J.lss rfl rfl rfl rfl ?_
  refine J.end ?_
  refine X.then ?_
  refine T.cond_dec rfl (fun h1 => ?_) (fun h1 => ?_)
  · have hxi := hx0.getD i
    refine T.skip ?_
    refine X.then ?_
    refine T.seq ?_
    refine T.block ?_
    refine T.seq ?_
    refine T.text [.l] rfl ?_
    refine J.assign rfl rfl ?_
    refine J.end ?_
    refine X.then ?_
    refine T.seq ?_
    refine T.text [.l] rfl ?_
    refine J.assign rfl rfl ?_
    refine J.end ?_
    refine X.then ?_
    refine T.block ?_
    refine T.loop (ι := Nat × Nat × List Nat) (fun ((k, c, ps2) : Nat × Nat × List Nat) => k ≤ xs1.length + 1 ∧ c < 256 ∧ ps2.length = (xs0.length + xs1.length + 1) ∧ Dq 256 ps2 ∧ vq 256 ps2 + c * 256 ^ (i + k) = vl (xs0.take i) * vl xs1 + xs0.getD i 0 * vl (xs1.take k) * 256 ^ i ∧ ∀ q, i + xs1.length + (if k ≤ xs1.length then 0 else 1) ≤ q → ps2.getD q 0 = 0) (fun ((k, c, ps2) : Nat × Nat × List Nat) => [(0, .slice A0 xs0.length c0), (1, .slice A1 xs1.length c1), (4, .slice none 0 0), (10, .slice A0 xs0.length c0), (11, .int .i64 ((xs0.length : Nat) : Int)), (12, .slice A1 xs1.length c1), (13, .int .i64 ((xs1.length : Nat) : Int)), (16, .slice (hdOf (some g16)) (xs0.length + xs1.length + 1) (xs0.length + xs1.length + 1)), (5, .slice (hdOf (some g16)) (xs0.length + xs1.length + 1) (xs0.length + xs1.length + 1)), (6, .int .i64 (i : Int)), (17, .int .i64 (i : Int)), (18, .slice A0 xs0.length c0), (19, .int .i64 ((xs0.length : Nat) : Int)), (8, .int .i64 (k : Int)), (7, .int .i64 (c : Int))]) (fun ((k, c, ps2) : Nat × Nat × List Nat) => [(16, ⟨some g16, 3, rowN .i64 ps2⟩)]) (fun ((k, c, ps2) : Nat × Nat × List Nat) => xs1.length + 1 - k) ⟨0, 0, ps⟩ ⟨Nat.zero_le _, by omega, hl, hd, by rw [hv, List.take_zero]; simp [vl], fun q hq => hz q (by rw [if_pos (Nat.zero_le _)] at hq; exact hq)⟩ (by repeat (first | exact Sub.nil _ | refine Sub.cons (by first | rfl | (rw [dgs_zero]; rfl) | (rw [List.drop_length]; rfl) | (simp; done) | (congr 2; omega) | (congr 3; omega)) ?_)) (by repeat (first | exact Sub.nil _ | refine Sub.cons (by first | rfl | (rw [dgs_zero]; rfl) | (rw [List.drop_length]; rfl) | (simp; done) | (congr 2; omega) | (congr 3; omega)) ?_)) ?_
    rintro ⟨k, c, ps2⟩ ⟨hk, hc, hl2, hd2, hv2, hz2⟩
    try dsimp only at *
    refine T.seq ?_
    refine T.seq ?_
    refine T.text [.l, .l, .l, .l] rfl ?_
    refine J.move rfl rfl ?_
    refine J.move rfl rfl ?_
    refine J.lenSl Tryd.underlying62 rfl rfl ?_
    refine J.leq rfl rfl rfl rfl ?_
    refine J.end ?_
    refine X.then ?_
    refine T.cond_dec rfl (fun h2 => ?_) (fun h2 => ?_)
    · have hdk := hx1.getD k
      have hgl : ps2.getD (i + k) 0 < 256 := hd2.getD (by omega) (i + k)
      have hst := mul_step (by omega) hd2 (show i + k < ps2.length by omega) hxi hdk hc
      have hxy : xs0.getD i 0 * xs1.getD k 0 ≤ 255 * 255 := Nat.mul_le_mul (by omega) (by omega)
      have hv4 := times_round (xs1 := xs1) hst.2.2 hv2
      have hz4 := times_zero (v := (ps2.getD (i + k) 0 + xs0.getD i 0 * xs1.getD k 0 + c) % 256) (k := k) hl2 ⟨by omega, by omega⟩ hz2
      refine T.skip ?_
      refine X.then ?_
      refine T.seq ?_
      refine T.block ?_
      refine T.seq ?_
      refine T.draw [] [(0, .g), (1, .g), (2, .g), (3, .g), (4, .g), (5, .q), (6, .g), (7, .g), (8, .g), (9, .q), (10, .g), (11, .g), (12, .q), (13, .g), (14, .g), (15, .g), (16, .g), (17, .g)] (by kernel_rfl) (by kernel_rfl) ?_ (by repeat (first | exact Sub.nil _ | refine Sub.cons (by first | rfl | (rw [dgs_zero]; rfl) | (rw [List.drop_length]; rfl) | (simp; done) | (congr 2; omega) | (congr 3; omega)) ?_))
      refine J.move rfl rfl ?_
      refine J.move rfl rfl ?_
      refine J.move rfl rfl ?_
      refine J.add rfl rfl rfl (by first | exact add_nat _ _ (by omega) | exact i64_ok _ (by omega) | exact rfl) ?_
      refine J.indexRow sl62 rfl rfl rfl (by omega) (by omega) (by first | exact Int.toNat_natCast _ | rfl) rfl ?_
      refine J.load1 (k := .q) trivial 16 rfl rfl one3 (by first | rfl | with_reducible exact rowN_get0 _ _ _ (by omega) | with_reducible exact rowN_get1 _ _ _ (by omega) | with_reducible exact rowN_get1s _ _ _ _ (by omega) | exact rowN_get1 _ _ _ (by omega) | exact rowN_get1s _ _ _ _ (by omega) | exact rowN_get0 _ _ _ (by omega)) rfl ?_
      refine J.move rfl rfl ?_
      refine J.move rfl rfl ?_
      refine J.indexSlI sl62 rfl (Cs.isSomeN hc0 (by omega)) rfl (by omega) (by omega) (by first | exact Int.toNat_natCast _ | rfl) rfl ?_
      refine J.loadI1 (k := .q) trivial hc0 (off_nil _) rfl one3 (by first | rfl | with_reducible exact rowN_get1 _ _ _ (by omega) | with_reducible exact rowN_get _ _ _ (by omega) | exact rowN_get1 _ _ _ (by omega)) rfl ?_
      refine J.move rfl rfl ?_
      refine J.move rfl rfl ?_
      refine J.call0 (k := .q) trivial fok143 rfl rfl (fun w hw => Ra.digit w _ _ _ _ (hc1.ws hw (off_nil _))) ?_
      refine J.mul rfl rfl rfl (by first | exact mul_nat _ _ (by omega) | exact i64_ok _ (by omega) | exact rfl) ?_
      refine J.add rfl rfl rfl (by first | exact add_nat _ _ (by omega) | exact i64_ok _ (by omega) | exact rfl) ?_
      refine J.move rfl rfl ?_
      refine J.add rfl rfl rfl (by first | exact add_nat _ _ (by omega) | exact i64_ok _ (by omega) | exact rfl) ?_
      refine J.assign rfl rfl ?_
      refine J.end ?_
      refine X.then ?_
      refine T.seq ?_
      refine T.text [.l, .l, .l, .l, .l, .l, .l, .l] rfl ?_
      refine J.move rfl rfl ?_
      refine J.move rfl rfl ?_
      refine J.move rfl rfl ?_
      refine J.add rfl rfl rfl (by first | exact add_nat _ _ (by omega) | exact i64_ok _ (by omega) | exact rfl) ?_
      refine J.move rfl rfl ?_
      refine J.rem rfl rfl rfl (by omega) (by first | exact rem_nat _ 256 | exact rem_ok _ _ (by omega) | exact rfl) ?_
      refine J.indexRow sl62 rfl rfl rfl (by omega) (by omega) (by first | exact Int.toNat_natCast _ | rfl) rfl ?_
      refine J.store 16 rfl rfl rfl rfl [.int .i64 (((ps2.getD (i + k) 0 + xs0.getD i 0 * xs1.getD k 0 + c) % 256 : Nat) : Int)] rfl sz3 (by rw [rowN_length, hl2]; show _ + 1 ≤ _; omega) (by first | exact rowN_one _ _ | (simp; done) | (intro u hu; simp at hu; subst hu; rfl) | (intro u hu; simp at hu; rcases hu with rfl | rfl <;> rfl)) (by first | decide | exact Nat.zero_lt_succ _ | simp) trivial (rowN .i64 (ps2.set (i + k) ((ps2.getD (i + k) 0 + xs0.getD i 0 * xs1.getD k 0 + c) % 256))) (by rw [Nat.mul_one]; exact putN' _ _ _ _ (by omega)) ?_
      refine J.end ?_
      refine X.then ?_
      refine T.text [.l, .l, .l] rfl ?_
      refine J.move rfl rfl ?_
      refine J.quo rfl rfl rfl (by omega) (by first | exact quo_nat _ 256 (by omega) | exact i64_quo_ok _ _ (by omega) | exact rfl) ?_
      refine J.assign rfl rfl ?_
      refine J.end ?_
      refine X.inBlock (X.then ?_)
      refine T.text [.l, .l, .l] rfl ?_
      refine J.move rfl rfl ?_
      refine J.add rfl rfl rfl (by first | exact add_nat _ 1 (by omega) | exact i64_ok _ (by omega) | exact rfl) ?_
      refine J.assign rfl rfl ?_
      refine J.end ?_
      exact X.round ⟨(k + 1), ((ps2.getD (i + k) 0 + xs0.getD i 0 * xs1.getD k 0 + c) / 256), (ps2.set (i + k) ((ps2.getD (i + k) 0 + xs0.getD i 0 * xs1.getD k 0 + c) % 256))⟩ ⟨by omega, hst.1, by rw [List.length_set]; exact hl2, hst.2.1, hv4, hz4⟩ (by first | omega | (dsimp only; omega)) (by repeat (first | exact Sub.nil _ | refine Sub.cons (by first | rfl | (rw [dgs_zero]; rfl) | (rw [List.drop_length]; rfl) | (simp; done) | (congr 2; omega) | (congr 3; omega)) ?_)) (by repeat (first | exact Sub.nil _ | refine Sub.cons (by first | rfl | (rw [dgs_zero]; rfl) | (rw [List.drop_length]; rfl) | (simp; done) | (congr 2; omega) | (congr 3; omega)) ?_))
    · obtain rfl : k = xs1.length + 1 := by omega
      have hc0 := times_carry hx0 hx1 hv2
      have hv3 : vq 256 ps2 = vl (xs0.take (i + 1)) * vl xs1 := times_done hv2 hc0
      have hz3 := hz2
      rw [if_neg (by omega)] at hz2
      refine T.exit ?_
      refine X.then_exit (X.then_exit (X.inBlock_eq (X.inBlock (X.then ?_))))
      refine T.text [.l, .l, .l] rfl ?_
      refine J.move rfl rfl ?_
      refine J.add rfl rfl rfl (by first | exact add_nat _ 1 (by omega) | exact i64_ok _ (by omega) | exact rfl) ?_
      refine J.assign rfl rfl ?_
      refine J.end ?_
      exact X.round ⟨(i + 1), ps2⟩ ⟨by omega, hl2, hd2, hv3, fun q hq => hz2 q (by omega)⟩ (by first | omega | (dsimp only; omega)) (by repeat (first | exact Sub.nil _ | refine Sub.cons (by first | rfl | (rw [dgs_zero]; rfl) | (rw [List.drop_length]; rfl) | (simp; done) | (congr 2; omega) | (congr 3; omega)) ?_)) (by repeat (first | exact Sub.nil _ | refine Sub.cons (by first | rfl | (rw [dgs_zero]; rfl) | (rw [List.drop_length]; rfl) | (simp; done) | (congr 2; omega) | (congr 3; omega)) ?_))
  · obtain rfl : i = xs0.length := by omega
    rw [List.take_length, vq_vl] at hv
    refine T.exit ?_
    refine X.then_exit (X.then_exit (X.inBlock_eq (X.then ?_)))
    refine T.seq ?_
    refine T.text [.l, .l] rfl ?_
    refine J.move rfl rfl ?_
    refine J.assign rfl rfl ?_
    refine J.end ?_
    refine X.then ?_
    refine T.ret ?_
    exact X.ret1 rfl (RV.tmp rfl) (fun w' hw' => RowsPost.mk' ps ⟨dg_of hd, hl, hv⟩ ⟨some g16, (xs0.length + xs1.length + 1), []⟩ (by rw [← hl]; exact RowIx.blk_ok' g16 ps.length 1 (by unfold maxLen; omega)) (by rw [hl]; rfl) hw' 16 (by simp [RowIx.ent]; rfl))
end Go.Proofs.YtegociefcfcihaaDoor.Rc
set_option linter.unusedVariables false
set_option maxRecDepth 20000
namespace Go.Proofs.YtegociefcfcihaaDoor.Rq
open Go Go.Fw

theorem zero256 : ZeroT Tryd.prog 78 (.agg (rowN .i64 (List.replicate 256 0)).toArray) := (by unfold ZeroT; kernel_rfl)
theorem sz78 : SizeT Tryd.prog 78 256 := (by unfold SizeT; kernel_rfl)
theorem sz3 : SizeT Tryd.prog 3 1 := (by unfold SizeT; kernel_rfl)
theorem sl62 : SlT Tryd.prog 62 3 1 := ⟨Tryd.underlying62, sz3⟩
theorem one3 : OneT Tryd.prog 3 := ⟨⟨_, Tryd.underlying3, rfl⟩, by kernel_rfl⟩
theorem sl61 : SlT Tryd.prog 61 3 1 := ⟨Tryd.underlying61, sz3⟩
theorem el5 : ElT Tryd.prog 5 1 1 (.int .u8 0) := ⟨by kernel_rfl, rfl, by decide, by decide⟩

theorem worth (w : World) (c : Nat) (hc : c < 256) :
    Calls Tryd.prog 150 [.int .u8 (c : Int)].toArray w fun e w' => e = .returned (.int .i64 (worthZ c)) ∧ WS w [] [] w' := by
  refine calls_of_T [] 35 [] Tryd.func150 rfl Tryd.ntmps150 (by simp) (WS.refl _ _) ?_
  refine T.seq ?_
  refine T.text [.l] rfl ?_
  refine J.assign rfl rfl ?_
  refine J.end ?_
  refine X.then ?_
  refine T.seq ?_
  refine T.block ?_
  refine T.seq ?_
  refine T.text [.l, .l, .l, .l, .l, .l, .l] rfl ?_
  refine J.move rfl rfl ?_
  refine J.geq rfl rfl rfl rfl ?_
  refine J.move rfl rfl ?_
  refine J.split 6 rfl (fun h1 => ?_) (fun h1 => ?_)
  · skip
    refine J.yes rfl rfl ?_
    refine J.move rfl rfl ?_
    refine J.yes rfl rfl ?_
    refine J.leq rfl rfl rfl rfl ?_
    refine J.pick_t rfl rfl rfl ?_
    refine J.assign rfl rfl ?_
    refine J.end ?_
    refine X.then ?_
    refine T.cond_dec rfl (fun h2 => ?_) (fun h2 => ?_)
    · skip
      refine T.seq ?_
      refine T.text [.l, .l, .l, .l] rfl ?_
      refine J.move rfl rfl ?_
      refine J.sub' rfl rfl rfl (by exact u8_ok _ (by omega)) ?_
      refine J.conv (by rw [Tryd.underlying5]; rfl) Tryd.underlying3 rfl rfl (by exact i64_ok _ (by omega)) ?_
      refine J.assign rfl rfl ?_
      refine J.end ?_
      refine X.then ?_
      refine T.ret ?_
      refine X.inBlock_ret (X.then_ret ?_)
      exact X.ret1 rfl (RV.tmp rfl) (fun w' hw' => ⟨by unfold worthZ; first | (rw [if_pos (by omega)]; first | done | (congr 2; omega)) | (rw [if_neg (by omega), if_pos (by omega)]; first | done | (congr 2; omega)) | (rw [if_neg (by omega), if_neg (by omega), if_pos (by omega)]; first | done | (congr 2; omega)) | rw [if_neg (by omega), if_neg (by omega), if_neg (by omega)], hw'.sub (Sub.nil _)⟩)
    · skip
      refine T.seq ?_
      refine T.text [.l, .l, .l, .l, .l, .l, .l] rfl ?_
      refine J.move rfl rfl ?_
      refine J.geq rfl rfl rfl rfl ?_
      refine J.move rfl rfl ?_
      refine J.split 16 rfl (fun h3 => ?_) (fun h3 => ?_)
      · skip
        refine J.yes rfl rfl ?_
        refine J.move rfl rfl ?_
        refine J.yes rfl rfl ?_
        refine J.leq rfl rfl rfl rfl ?_
        refine J.pick_t rfl rfl rfl ?_
        refine J.assign rfl rfl ?_
        refine J.end ?_
        refine X.then ?_
        refine T.cond_dec rfl (fun h4 => ?_) (fun h4 => ?_)
        · skip
          refine T.seq ?_
          refine T.text [.l, .l, .l, .l, .l] rfl ?_
          refine J.move rfl rfl ?_
          refine J.sub' rfl rfl rfl (by exact u8_ok _ (by omega)) ?_
          refine J.conv (by rw [Tryd.underlying5]; rfl) Tryd.underlying3 rfl rfl (by exact i64_ok _ (by omega)) ?_
          refine J.add rfl rfl rfl (by exact i64_ok _ (by omega)) ?_
          refine J.assign rfl rfl ?_
          refine J.end ?_
          refine X.then ?_
          refine T.ret ?_
          refine X.inBlock_ret (X.then_ret ?_)
          exact X.ret1 rfl (RV.tmp rfl) (fun w' hw' => ⟨by unfold worthZ; first | (rw [if_pos (by omega)]; first | done | (congr 2; omega)) | (rw [if_neg (by omega), if_pos (by omega)]; first | done | (congr 2; omega)) | (rw [if_neg (by omega), if_neg (by omega), if_pos (by omega)]; first | done | (congr 2; omega)) | rw [if_neg (by omega), if_neg (by omega), if_neg (by omega)], hw'.sub (Sub.nil _)⟩)
        · skip
          refine T.seq ?_
          refine T.text [.l, .l, .l, .l, .l, .l, .l] rfl ?_
          refine J.move rfl rfl ?_
          refine J.geq rfl rfl rfl rfl ?_
          refine J.move rfl rfl ?_
          refine J.split 27 rfl (fun h5 => ?_) (fun h5 => ?_)
          · skip
            refine J.yes rfl rfl ?_
            refine J.move rfl rfl ?_
            refine J.yes rfl rfl ?_
            refine J.leq rfl rfl rfl rfl ?_
            refine J.pick_t rfl rfl rfl ?_
            refine J.assign rfl rfl ?_
            refine J.end ?_
            refine X.then ?_
            refine T.cond_dec rfl (fun h6 => ?_) (fun h6 => ?_)
            · skip
              refine T.seq ?_
              refine T.text [.l, .l, .l, .l, .l] rfl ?_
              refine J.move rfl rfl ?_
              refine J.sub' rfl rfl rfl (by exact u8_ok _ (by omega)) ?_
              refine J.conv (by rw [Tryd.underlying5]; rfl) Tryd.underlying3 rfl rfl (by exact i64_ok _ (by omega)) ?_
              refine J.add rfl rfl rfl (by exact i64_ok _ (by omega)) ?_
              refine J.assign rfl rfl ?_
              refine J.end ?_
              refine X.then ?_
              refine T.ret ?_
              refine X.inBlock_ret (X.then_ret ?_)
              exact X.ret1 rfl (RV.tmp rfl) (fun w' hw' => ⟨by unfold worthZ; first | (rw [if_pos (by omega)]; first | done | (congr 2; omega)) | (rw [if_neg (by omega), if_pos (by omega)]; first | done | (congr 2; omega)) | (rw [if_neg (by omega), if_neg (by omega), if_pos (by omega)]; first | done | (congr 2; omega)) | rw [if_neg (by omega), if_neg (by omega), if_neg (by omega)], hw'.sub (Sub.nil _)⟩)
            · skip
              refine T.skip ?_
              refine X.inBlock (X.then ?_)
              refine T.seq ?_
              refine T.text [.l] rfl ?_
              refine J.assign rfl rfl ?_
              refine J.end ?_
              refine X.then ?_
              refine T.ret ?_
              exact X.ret1 rfl (RV.tmp rfl) (fun w' hw' => ⟨by unfold worthZ; first | (rw [if_pos (by omega)]; first | done | (congr 2; omega)) | (rw [if_neg (by omega), if_pos (by omega)]; first | done | (congr 2; omega)) | (rw [if_neg (by omega), if_neg (by omega), if_pos (by omega)]; first | done | (congr 2; omega)) | rw [if_neg (by omega), if_neg (by omega), if_neg (by omega)], hw'.sub (Sub.nil _)⟩)
          · skip
            refine J.no rfl rfl rfl rfl ?_
            refine J.no rfl rfl rfl rfl ?_
            refine J.pick_f rfl rfl rfl ?_
            refine J.assign rfl rfl ?_
            refine J.end ?_
            refine X.then ?_
            refine T.cond_false rfl ?_
            refine T.skip ?_
            refine X.inBlock (X.then ?_)
            refine T.seq ?_
            refine T.text [.l] rfl ?_
            refine J.assign rfl rfl ?_
            refine J.end ?_
            refine X.then ?_
            refine T.ret ?_
            exact X.ret1 rfl (RV.tmp rfl) (fun w' hw' => ⟨by unfold worthZ; first | (rw [if_pos (by omega)]; first | done | (congr 2; omega)) | (rw [if_neg (by omega), if_pos (by omega)]; first | done | (congr 2; omega)) | (rw [if_neg (by omega), if_neg (by omega), if_pos (by omega)]; first | done | (congr 2; omega)) | rw [if_neg (by omega), if_neg (by omega), if_neg (by omega)], hw'.sub (Sub.nil _)⟩)
      · skip
        refine J.no rfl rfl rfl rfl ?_
        refine J.no rfl rfl rfl rfl ?_
        refine J.pick_f rfl rfl rfl ?_
        refine J.assign rfl rfl ?_
        refine J.end ?_
        refine X.then ?_
        refine T.cond_false rfl ?_
        refine T.seq ?_
        refine T.text [.l, .l, .l, .l, .l, .l, .l] rfl ?_
        refine J.move rfl rfl ?_
        refine J.geq rfl rfl rfl rfl ?_
        refine J.move rfl rfl ?_
        refine J.split 27 rfl (fun h7 => ?_) (fun h7 => ?_)
        · skip
          refine J.yes rfl rfl ?_
          refine J.move rfl rfl ?_
          refine J.yes rfl rfl ?_
          refine J.leq rfl rfl rfl rfl ?_
          refine J.pick_t rfl rfl rfl ?_
          refine J.assign rfl rfl ?_
          refine J.end ?_
          refine X.then ?_
          refine T.cond_dec rfl (fun h8 => ?_) (fun h8 => ?_)
          · skip
            refine T.seq ?_
            refine T.text [.l, .l, .l, .l, .l] rfl ?_
            refine J.move rfl rfl ?_
            refine J.sub' rfl rfl rfl (by exact u8_ok _ (by omega)) ?_
            refine J.conv (by rw [Tryd.underlying5]; rfl) Tryd.underlying3 rfl rfl (by exact i64_ok _ (by omega)) ?_
            refine J.add rfl rfl rfl (by exact i64_ok _ (by omega)) ?_
            refine J.assign rfl rfl ?_
            refine J.end ?_
            refine X.then ?_
            refine T.ret ?_
            refine X.inBlock_ret (X.then_ret ?_)
            exact X.ret1 rfl (RV.tmp rfl) (fun w' hw' => ⟨by unfold worthZ; first | (rw [if_pos (by omega)]; first | done | (congr 2; omega)) | (rw [if_neg (by omega), if_pos (by omega)]; first | done | (congr 2; omega)) | (rw [if_neg (by omega), if_neg (by omega), if_pos (by omega)]; first | done | (congr 2; omega)) | rw [if_neg (by omega), if_neg (by omega), if_neg (by omega)], hw'.sub (Sub.nil _)⟩)
          · skip
            refine T.skip ?_
            refine X.inBlock (X.then ?_)
            refine T.seq ?_
            refine T.text [.l] rfl ?_
            refine J.assign rfl rfl ?_
            refine J.end ?_
            refine X.then ?_
            refine T.ret ?_
            exact X.ret1 rfl (RV.tmp rfl) (fun w' hw' => ⟨by unfold worthZ; first | (rw [if_pos (by omega)]; first | done | (congr 2; omega)) | (rw [if_neg (by omega), if_pos (by omega)]; first | done | (congr 2; omega)) | (rw [if_neg (by omega), if_neg (by omega), if_pos (by omega)]; first | done | (congr 2; omega)) | rw [if_neg (by omega), if_neg (by omega), if_neg (by omega)], hw'.sub (Sub.nil _)⟩)
        · skip
          refine J.no rfl rfl rfl rfl ?_
          refine J.no rfl rfl rfl rfl ?_
          refine J.pick_f rfl rfl rfl ?_
          refine J.assign rfl rfl ?_
          refine J.end ?_
          refine X.then ?_
          refine T.cond_false rfl ?_
          refine T.skip ?_
          refine X.inBlock (X.then ?_)
          refine T.seq ?_
          refine T.text [.l] rfl ?_
          refine J.assign rfl rfl ?_
          refine J.end ?_
          refine X.then ?_
          refine T.ret ?_
          exact X.ret1 rfl (RV.tmp rfl) (fun w' hw' => ⟨by unfold worthZ; first | (rw [if_pos (by omega)]; first | done | (congr 2; omega)) | (rw [if_neg (by omega), if_pos (by omega)]; first | done | (congr 2; omega)) | (rw [if_neg (by omega), if_neg (by omega), if_pos (by omega)]; first | done | (congr 2; omega)) | rw [if_neg (by omega), if_neg (by omega), if_neg (by omega)], hw'.sub (Sub.nil _)⟩)
  · skip
    refine J.no rfl rfl rfl rfl ?_
    refine J.no rfl rfl rfl rfl ?_
    refine J.pick_f rfl rfl rfl ?_
    refine J.assign rfl rfl ?_
    refine J.end ?_
    refine X.then ?_
    refine T.cond_false rfl ?_
    refine T.seq ?_
    refine T.text [.l, .l, .l, .l, .l, .l, .l] rfl ?_
    refine J.move rfl rfl ?_
    refine J.geq rfl rfl rfl rfl ?_
    refine J.move rfl rfl ?_
    refine J.split 16 rfl (fun h9 => ?_) (fun h9 => ?_)
    · skip
      refine J.yes rfl rfl ?_
      refine J.move rfl rfl ?_
      refine J.yes rfl rfl ?_
      refine J.leq rfl rfl rfl rfl ?_
      refine J.pick_t rfl rfl rfl ?_
      refine J.assign rfl rfl ?_
      refine J.end ?_
      refine X.then ?_
      refine T.cond_dec rfl (fun h10 => ?_) (fun h10 => ?_)
      · skip
        refine T.seq ?_
        refine T.text [.l, .l, .l, .l, .l] rfl ?_
        refine J.move rfl rfl ?_
        refine J.sub' rfl rfl rfl (by exact u8_ok _ (by omega)) ?_
        refine J.conv (by rw [Tryd.underlying5]; rfl) Tryd.underlying3 rfl rfl (by exact i64_ok _ (by omega)) ?_
        refine J.add rfl rfl rfl (by exact i64_ok _ (by omega)) ?_
        refine J.assign rfl rfl ?_
        refine J.end ?_
        refine X.then ?_
        refine T.ret ?_
        refine X.inBlock_ret (X.then_ret ?_)
        exact X.ret1 rfl (RV.tmp rfl) (fun w' hw' => ⟨by unfold worthZ; first | (rw [if_pos (by omega)]; first | done | (congr 2; omega)) | (rw [if_neg (by omega), if_pos (by omega)]; first | done | (congr 2; omega)) | (rw [if_neg (by omega), if_neg (by omega), if_pos (by omega)]; first | done | (congr 2; omega)) | rw [if_neg (by omega), if_neg (by omega), if_neg (by omega)], hw'.sub (Sub.nil _)⟩)
      · skip
        refine T.seq ?_
        refine T.text [.l, .l, .l, .l, .l, .l, .l] rfl ?_
        refine J.move rfl rfl ?_
        refine J.geq rfl rfl rfl rfl ?_
        refine J.move rfl rfl ?_
        refine J.split 27 rfl (fun h11 => ?_) (fun h11 => ?_)
        · skip
          refine J.yes rfl rfl ?_
          refine J.move rfl rfl ?_
          refine J.yes rfl rfl ?_
          refine J.leq rfl rfl rfl rfl ?_
          refine J.pick_t rfl rfl rfl ?_
          refine J.assign rfl rfl ?_
          refine J.end ?_
          refine X.then ?_
          refine T.cond_dec rfl (fun h12 => ?_) (fun h12 => ?_)
          · skip
            refine T.seq ?_
            refine T.text [.l, .l, .l, .l, .l] rfl ?_
            refine J.move rfl rfl ?_
            refine J.sub' rfl rfl rfl (by exact u8_ok _ (by omega)) ?_
            refine J.conv (by rw [Tryd.underlying5]; rfl) Tryd.underlying3 rfl rfl (by exact i64_ok _ (by omega)) ?_
            refine J.add rfl rfl rfl (by exact i64_ok _ (by omega)) ?_
            refine J.assign rfl rfl ?_
            refine J.end ?_
            refine X.then ?_
            refine T.ret ?_
            refine X.inBlock_ret (X.then_ret ?_)
            exact X.ret1 rfl (RV.tmp rfl) (fun w' hw' => ⟨by unfold worthZ; first | (rw [if_pos (by omega)]; first | done | (congr 2; omega)) | (rw [if_neg (by omega), if_pos (by omega)]; first | done | (congr 2; omega)) | (rw [if_neg (by omega), if_neg (by omega), if_pos (by omega)]; first | done | (congr 2; omega)) | rw [if_neg (by omega), if_neg (by omega), if_neg (by omega)], hw'.sub (Sub.nil _)⟩)
          · skip
            refine T.skip ?_
            refine X.inBlock (X.then ?_)
            refine T.seq ?_
            refine T.text [.l] rfl ?_
            refine J.assign rfl rfl ?_
            refine J.end ?_
            refine X.then ?_
            refine T.ret ?_
            exact X.ret1 rfl (RV.tmp rfl) (fun w' hw' => ⟨by unfold worthZ; first | (rw [if_pos (by omega)]; first | done | (congr 2; omega)) | (rw [if_neg (by omega), if_pos (by omega)]; first | done | (congr 2; omega)) | (rw [if_neg (by omega), if_neg (by omega), if_pos (by omega)]; first | done | (congr 2; omega)) | rw [if_neg (by omega), if_neg (by omega), if_neg (by omega)], hw'.sub (Sub.nil _)⟩)
        · skip
          refine J.no rfl rfl rfl rfl ?_
          refine J.no rfl rfl rfl rfl ?_
          refine J.pick_f rfl rfl rfl ?_
          refine J.assign rfl rfl ?_
          refine J.end ?_
          refine X.then ?_
          refine T.cond_false rfl ?_
          refine T.skip ?_
          refine X.inBlock (X.then ?_)
          refine T.seq ?_
          refine T.text [.l] rfl ?_
          refine J.assign rfl rfl ?_
          refine J.end ?_
          refine X.then ?_
          refine T.ret ?_
          exact X.ret1 rfl (RV.tmp rfl) (fun w' hw' => ⟨by unfold worthZ; first | (rw [if_pos (by omega)]; first | done | (congr 2; omega)) | (rw [if_neg (by omega), if_pos (by omega)]; first | done | (congr 2; omega)) | (rw [if_neg (by omega), if_neg (by omega), if_pos (by omega)]; first | done | (congr 2; omega)) | rw [if_neg (by omega), if_neg (by omega), if_neg (by omega)], hw'.sub (Sub.nil _)⟩)
    · skip
      refine J.no rfl rfl rfl rfl ?_
      refine J.no rfl rfl rfl rfl ?_
      refine J.pick_f rfl rfl rfl ?_
      refine J.assign rfl rfl ?_
      refine J.end ?_
      refine X.then ?_
      refine T.cond_false rfl ?_
      refine T.seq ?_
      refine T.text [.l, .l, .l, .l, .l, .l, .l] rfl ?_
      refine J.move rfl rfl ?_
      refine J.geq rfl rfl rfl rfl ?_
      refine J.move rfl rfl ?_
      refine J.split 27 rfl (fun h13 => ?_) (fun h13 => ?_)
      · skip
        refine J.yes rfl rfl ?_
        refine J.move rfl rfl ?_
        refine J.yes rfl rfl ?_
        refine J.leq rfl rfl rfl rfl ?_
        refine J.pick_t rfl rfl rfl ?_
        refine J.assign rfl rfl ?_
        refine J.end ?_
        refine X.then ?_
        refine T.cond_dec rfl (fun h14 => ?_) (fun h14 => ?_)
        · skip
          refine T.seq ?_
          refine T.text [.l, .l, .l, .l, .l] rfl ?_
          refine J.move rfl rfl ?_
          refine J.sub' rfl rfl rfl (by exact u8_ok _ (by omega)) ?_
          refine J.conv (by rw [Tryd.underlying5]; rfl) Tryd.underlying3 rfl rfl (by exact i64_ok _ (by omega)) ?_
          refine J.add rfl rfl rfl (by exact i64_ok _ (by omega)) ?_
          refine J.assign rfl rfl ?_
          refine J.end ?_
          refine X.then ?_
          refine T.ret ?_
          refine X.inBlock_ret (X.then_ret ?_)
          exact X.ret1 rfl (RV.tmp rfl) (fun w' hw' => ⟨by unfold worthZ; first | (rw [if_pos (by omega)]; first | done | (congr 2; omega)) | (rw [if_neg (by omega), if_pos (by omega)]; first | done | (congr 2; omega)) | (rw [if_neg (by omega), if_neg (by omega), if_pos (by omega)]; first | done | (congr 2; omega)) | rw [if_neg (by omega), if_neg (by omega), if_neg (by omega)], hw'.sub (Sub.nil _)⟩)
        · skip
          refine T.skip ?_
          refine X.inBlock (X.then ?_)
          refine T.seq ?_
          refine T.text [.l] rfl ?_
          refine J.assign rfl rfl ?_
          refine J.end ?_
          refine X.then ?_
          refine T.ret ?_
          exact X.ret1 rfl (RV.tmp rfl) (fun w' hw' => ⟨by unfold worthZ; first | (rw [if_pos (by omega)]; first | done | (congr 2; omega)) | (rw [if_neg (by omega), if_pos (by omega)]; first | done | (congr 2; omega)) | (rw [if_neg (by omega), if_neg (by omega), if_pos (by omega)]; first | done | (congr 2; omega)) | rw [if_neg (by omega), if_neg (by omega), if_neg (by omega)], hw'.sub (Sub.nil _)⟩)
      · skip
        refine J.no rfl rfl rfl rfl ?_
        refine J.no rfl rfl rfl rfl ?_
        refine J.pick_f rfl rfl rfl ?_
        refine J.assign rfl rfl ?_
        refine J.end ?_
        refine X.then ?_
        refine T.cond_false rfl ?_
        refine T.skip ?_
        refine X.inBlock (X.then ?_)
        refine T.seq ?_
        refine T.text [.l] rfl ?_
        refine J.assign rfl rfl ?_
        refine J.end ?_
        refine X.then ?_
        refine T.ret ?_
        exact X.ret1 rfl (RV.tmp rfl) (fun w' hw' => ⟨by unfold worthZ; first | (rw [if_pos (by omega)]; first | done | (congr 2; omega)) | (rw [if_neg (by omega), if_pos (by omega)]; first | done | (congr 2; omega)) | (rw [if_neg (by omega), if_neg (by omega), if_pos (by omega)]; first | done | (congr 2; omega)) | rw [if_neg (by omega), if_neg (by omega), if_neg (by omega)], hw'.sub (Sub.nil _)⟩)

theorem told (w : World) (A0 : Option Addr) (c0 : Nat) (xs0 : List Nat) (hc0 : Cs w A0 (rowN .i64 xs0)) (hx0 : ∀ x ∈ xs0, x < 16) (hb0 : xs0.length ≤ 4294967296) :
    Calls Tryd.prog 139 [.slice A0 xs0.length c0].toArray w fun e w' => e = .returned (.string (bstr (xs0.reverse.map chrN))) ∧ WS w [] [] w' := by
  refine calls_of_T [] 22 [] Tryd.func139 rfl Tryd.ntmps139 (by simp) (WS.refl _ _) ?_
  refine T.seq ?_
  refine T.text [.l] rfl ?_
  refine J.assign rfl rfl ?_
  refine J.as 2 (.string (bstr [])) rfl rfl ?_
  refine J.end ?_
  refine X.then ?_
  refine T.seq ?_
  refine T.text [.l] rfl ?_
  refine J.assign rfl rfl ?_
  refine J.end ?_
  refine X.then ?_
  refine T.seq ?_
  refine T.seq ?_
  refine T.text [.l, .l, .l, .l] rfl ?_
  refine J.move rfl rfl ?_
  refine J.lenSl Tryd.underlying61 rfl rfl ?_
  refine J.sub' rfl rfl rfl (by exact i64_ok _ (by omega)) ?_
  refine J.assign rfl rfl ?_
  refine J.end ?_
  refine X.then ?_
  refine T.block ?_
  refine T.addNil 3 5 ?_
  refine T.loop (ι := Nat × RowIx) (fun ((j, r) : Nat × RowIx) => j ≤ xs0.length ∧ r.Ok 1 ((xs0.drop j).reverse.map chrN).length) (fun ((j, r) : Nat × RowIx) => [(0, .slice A0 xs0.length c0), (2, .string (bstr [])), (3, r.val ((xs0.drop j).reverse.map chrN).length), (4, .int .i64 ((j : Int) - 1))]) (fun ((j, r) : Nat × RowIx) => [(3, r.ent 5 (rowN .u8 ((xs0.drop j).reverse.map chrN)))]) (fun ((j, r) : Nat × RowIx) => j) ⟨xs0.length, RowIx.nil⟩ ⟨Nat.le_refl _, by rw [List.drop_length]; exact RowIx.nil_ok 1⟩ (by repeat (first | exact Sub.nil _ | refine Sub.cons (by first | rfl | (rw [dgs_zero]; rfl) | (rw [List.drop_length]; rfl) | (simp; done) | (congr 2; omega) | (congr 3; omega)) ?_)) (by repeat (first | exact Sub.nil _ | refine Sub.cons (by first | rfl | (rw [dgs_zero]; rfl) | (rw [List.drop_length]; rfl) | (simp; done) | (congr 2; omega) | (congr 3; omega)) ?_)) ?_
  rintro ⟨j, r⟩ ⟨hj, hr⟩
  try dsimp only at *
  refine T.seq ?_
  refine T.seq ?_
  refine T.text [.l, .l] rfl ?_
  refine J.move rfl rfl ?_
  refine J.geq rfl rfl rfl rfl ?_
  refine J.end ?_
  refine X.then ?_
  refine T.cond_dec rfl (fun h1 => ?_) (fun h1 => ?_)
  · obtain ⟨k, rfl⟩ : ∃ k, j = k + 1 := ⟨j - 1, by omega⟩
    refine T.as 4 (.int .i64 (k : Int)) rfl (by first | rfl | (congr 1; omega)) ?_
    have hll : ((xs0.drop (k + 1)).reverse.map chrN).length = xs0.length - (k + 1) := (by rw [List.length_map, List.length_reverse, List.length_drop])
    have hsd := small_dig hx0 k
    have hdr : ((xs0.drop k).reverse.map chrN) = ((xs0.drop (k + 1)).reverse.map chrN) ++ [chrN (xs0.getD k 0)] := chrs_snoc _ _ (by omega)
    refine T.skip ?_
    refine X.then ?_
    refine T.seq ?_
    refine T.block ?_
    refine T.text [.l, .l, .l, .l, .l, .l, .l, .l, .l] rfl ?_
    refine J.move rfl rfl ?_
    refine J.move rfl rfl ?_
    refine J.move rfl rfl ?_
    refine J.indexSlI sl61 rfl (Cs.isSomeN hc0 (by omega)) rfl (by omega) (by omega) (by first | exact Int.toNat_natCast _ | rfl) rfl ?_
    refine J.loadI1 (k := .l) trivial hc0 (off_nil _) rfl one3 (by first | rfl | with_reducible exact rowN_get1 _ _ _ (by omega) | with_reducible exact rowN_get _ _ _ (by omega) | exact rowN_get1 _ _ _ (by omega)) rfl ?_
    refine J.indexStr Tryd.underlying9 rfl rfl (by omega) (by first | exact Int.toNat_natCast _ | rfl) (tab16_get _ hsd) rfl ?_
    refine J.as 17 (.int .u8 ((chrN (xs0.getD k 0) : Nat) : Int)) rfl (by rw [chr_nat hsd]) ?_
    refine J.lit1 18 rfl Tryd.underlying45 el5 (by decide) rfl [_] rfl rfl rfl (fun g18 hg18 => ?_)
    refine J.append 3 rfl Tryd.underlying45 el5 rfl hr (by rw [rowN_length, Nat.mul_one]) rfl rfl rfl (fun w hw => (hw.blkCs (k := 18) rfl)) (by first | exact rowN_one _ _ | (intro u hu; simp at hu; subst hu; rfl)) (by omega) (by unfold maxLen; omega) rfl ((xs0.drop k).reverse.map chrN).length (by rw [hdr]; simp) (rowN .u8 ((xs0.drop k).reverse.map chrN)) (by rw [hdr, rowN_append]; rfl) (fun r19 hr19 => ?_)
    refine J.assign rfl rfl ?_
    refine J.end ?_
    refine X.inBlock (X.then ?_)
    refine T.text [.l, .l, .l] rfl ?_
    refine J.move rfl rfl ?_
    refine J.sub' rfl rfl rfl (by exact i64_ok _ (by omega)) ?_
    refine J.assign rfl rfl ?_
    refine J.end ?_
    exact X.round ⟨k, r19⟩ ⟨by omega, hr19⟩ (by first | omega | (dsimp only; omega)) (by repeat (first | exact Sub.nil _ | refine Sub.cons (by first | rfl | (rw [dgs_zero]; rfl) | (rw [List.drop_length]; rfl) | (simp; done) | (congr 2; omega) | (congr 3; omega)) ?_)) (by repeat (first | exact Sub.nil _ | refine Sub.cons (by first | rfl | (rw [dgs_zero]; rfl) | (rw [List.drop_length]; rfl) | (simp; done) | (congr 2; omega) | (congr 3; omega)) ?_))
  · obtain rfl : j = 0 := by omega
    refine T.exit ?_
    refine X.then_exit (X.then_exit (X.inBlock_eq (X.then ?_)))
    refine T.seq ?_
    refine T.text [.l, .l, .l] rfl ?_
    refine J.move rfl rfl ?_
    refine J.convBS (k := .l) trivial Tryd.underlying45 Tryd.underlying5 Tryd.underlying9 rfl (((xs0.drop 0).reverse.map chrN)) (by first | rfl | omega) (fun w hw => (hw.rowCs (k := 3) rfl)) rfl ?_
    refine J.assign rfl rfl ?_
    refine J.end ?_
    refine X.then ?_
    refine T.ret ?_
    exact X.ret1 rfl (RV.tmp rfl) (fun w' hw' => ⟨by rw [List.drop_zero], hw'.sub (Sub.nil _)⟩)
end Go.Proofs.YtegociefcfcihaaDoor.Rq
set_option linter.unusedVariables false
set_option maxRecDepth 20000
namespace Go.Proofs.YtegociefcfcihaaDoor.Rr
open Go Go.Fw

theorem zero256 : ZeroT Tryd.prog 78 (.agg (rowN .i64 (List.replicate 256 0)).toArray) := (by unfold ZeroT; kernel_rfl)
theorem sz78 : SizeT Tryd.prog 78 256 := (by unfold SizeT; kernel_rfl)
theorem sz3 : SizeT Tryd.prog 3 1 := (by unfold SizeT; kernel_rfl)
theorem sl62 : SlT Tryd.prog 62 3 1 := ⟨Tryd.underlying62, sz3⟩
theorem one3 : OneT Tryd.prog 3 := ⟨⟨_, Tryd.underlying3, rfl⟩, by kernel_rfl⟩
theorem el3 : ElT Tryd.prog 3 1 8 (.int .i64 0) := ⟨by kernel_rfl, rfl, by decide, by decide⟩
theorem fok118 : FnOk Tryd.prog 118 := FnOk.mk' Tryd.func118 (by kernel_rfl) rfl

set_option maxHeartbeats 1000000 in
theorem based (w : World) (A0 : Option Addr) (c0 : Nat) (xs0 : List Nat) (b : Nat) (hc0 : Cs w A0 (rowN .i64 xs0)) (hx0 : Dg xs0) (hb0 : xs0.length ≤ 1048576) (hb : 2 ≤ b) (hb2 : b ≤ 16) :
    Calls Tryd.prog 140 [.slice A0 xs0.length c0, .int .i64 (b : Int)].toArray w fun e w' => RowsPost w 3 .i64 (fun zs => ∃ m, zs = digL b (vl xs0) m ∧ numd b (vl xs0) m) e w' := by
  refine calls_of_T [] 50 [] Tryd.func140 rfl Tryd.ntmps140 (by simp) (WS.refl _ _) ?_
  refine T.seq ?_
  refine T.text [.l] rfl ?_
  refine J.assign rfl rfl ?_
  refine J.end ?_
  refine X.then ?_
  refine T.seq ?_
  refine T.text [.l] rfl ?_
  refine J.assign rfl rfl ?_
  refine J.end ?_
  refine X.then ?_
  refine T.seq ?_
  refine T.block ?_
  refine T.addNil 5 3 ?_
  refine T.addNil 70 3 ?_
  refine T.loop (ι := Nat × Option Addr × Nat × List Nat × RowIx × List Nat × RowIx) (fun ((m, A, c, xs, r, zs, s) : Nat × Option Addr × Nat × List Nat × RowIx × List Nat × RowIx) => m ≤ 8 * xs0.length + 1 ∧ xs.length = xs0.length ∧ Dg xs ∧ vl xs = vl xs0 / b ^ m ∧ (1 < m → vl xs0 / b ^ (m - 1) ≠ 0) ∧ Ei w .i64 A xs r zs ∧ s.Ok 1 (digL b (vl xs0) m).length) (fun ((m, A, c, xs, r, zs, s) : Nat × Option Addr × Nat × List Nat × RowIx × List Nat × RowIx) => [(1, .int .i64 (b : Int)), (4, .slice none 0 0), (0, .slice A xs.length c), (5, s.val (digL b (vl xs0) m).length)]) (fun ((m, A, c, xs, r, zs, s) : Nat × Option Addr × Nat × List Nat × RowIx × List Nat × RowIx) => [(5, s.ent 3 (rowN .i64 (digL b (vl xs0) m))), (70, r.ent 3 (rowN .i64 zs))]) (fun ((m, A, c, xs, r, zs, s) : Nat × Option Addr × Nat × List Nat × RowIx × List Nat × RowIx) => 8 * xs0.length + 1 - m) ⟨0, A0, c0, xs0, RowIx.nil, [], RowIx.nil⟩ ⟨Nat.zero_le _, rfl, hx0, by rw [Nat.pow_zero, Nat.div_one], fun h => by omega, .inl hc0, RowIx.nil_ok 1⟩ (by repeat (first | exact Sub.nil _ | refine Sub.cons (by first | rfl | (rw [dgs_zero]; rfl) | (rw [List.drop_length]; rfl) | (simp; done) | (congr 2; omega) | (congr 3; omega)) ?_)) (by repeat (first | exact Sub.nil _ | refine Sub.cons (by first | rfl | (rw [dgs_zero]; rfl) | (rw [List.drop_length]; rfl) | (simp; done) | (congr 2; omega) | (congr 3; omega)) ?_)) ?_
  rintro ⟨m, A, c, xs, r, zs, s⟩ ⟨hm, hxl, hxd, hxv, hnz, hE, hs⟩
  try dsimp only at *
  have hdl := digL_length b (vl xs0) m
  have hdm := digL_length b (vl xs0) (m + 1)
  refine T.seq ?_
  refine T.seq ?_
  refine T.text [.l, .l, .l, .l, .l, .l, .l, .l] rfl ?_
  refine J.move rfl rfl ?_
  refine J.lenSl Tryd.underlying61 rfl rfl ?_
  refine J.eql rfl rfl rfl rfl ?_
  refine J.move rfl rfl ?_
  refine J.split 13 rfl (fun h1 => ?_) (fun h1 => ?_)
  · have hm0 : m = 0 := by omega
    have hne2 : (1 < m + 1 → vl xs0 / b ^ (m + 1 - 1) ≠ 0) := fun h => by omega
    refine J.no rfl rfl rfl rfl ?_
    refine J.no rfl rfl rfl rfl ?_
    refine J.no rfl rfl rfl rfl ?_
    refine J.pick_t rfl rfl rfl ?_
    refine J.end ?_
    refine X.then ?_
    refine T.cond_true rfl ?_
    refine T.skip ?_
    refine X.then ?_
    refine T.block ?_
    refine T.seq ?_
    refine T.text [.l] rfl ?_
    refine J.assign rfl rfl ?_
    refine J.end ?_
    refine X.then ?_
    refine T.seq ?_
    refine T.text [.l, .l, .l, .l] rfl ?_
    refine J.move rfl rfl ?_
    refine J.lenSl Tryd.underlying62 rfl rfl ?_
    refine J.makeSlice 20 rfl (q := xs.length) (c0 := xs.length) Tryd.underlying62 el3 rfl rfl (by first | rfl | omega) (by first | rfl | omega) (by omega) (by omega) (by unfold maxLen; omega) rfl (fun g20 hg20 => ?_)
    refine J.assign rfl rfl ?_
    refine J.end ?_
    refine X.then ?_
    refine T.seq ?_
    refine T.seq ?_
    refine T.text [.l, .l, .l, .l] rfl ?_
    refine J.move rfl rfl ?_
    refine J.lenSl Tryd.underlying62 rfl rfl ?_
    refine J.sub' rfl rfl rfl (by exact i64_ok _ (by omega)) ?_
    refine J.assign rfl rfl ?_
    refine J.end ?_
    refine X.then ?_
    refine T.block ?_
    refine T.asE 20 ⟨some g20, 3, rowN .i64 (List.replicate xs.length 0)⟩ rfl (by rw [zeros_nat]) ?_
    refine T.loop (ι := Nat × Nat × List Nat) (fun ((u, R, qs) : Nat × Nat × List Nat) => u ≤ xs.length ∧ qs.length = xs.length ∧ Dg qs ∧ R = vl (xs.drop u) % b ∧ vl (qs.drop u) = vl (xs.drop u) / b) (fun ((u, R, qs) : Nat × Nat × List Nat) => [(1, .int .i64 (b : Int)), (4, .slice none 0 0), (0, .slice A xs.length c), (5, s.val (digL b (vl xs0) m).length), (10, s.val (digL b (vl xs0) m).length), (11, .int .i64 (((digL b (vl xs0) m).length : Nat) : Int)), (13, .bool true), (14, undef), (15, undef), (16, undef), (17, .bool true), (18, .slice A xs.length c), (19, .int .i64 ((xs.length : Nat) : Int)), (20, .slice (hdOf (some g20)) xs.length xs.length), (7, .slice (hdOf (some g20)) xs.length xs.length), (21, .slice A xs.length c), (22, .int .i64 ((xs.length : Nat) : Int)), (8, .int .i64 ((u : Int) - 1)), (6, .int .i64 (R : Int))]) (fun ((u, R, qs) : Nat × Nat × List Nat) => [(5, s.ent 3 (rowN .i64 (digL b (vl xs0) m))), (70, r.ent 3 (rowN .i64 zs)), (20, ⟨some g20, 3, rowN .i64 qs⟩)]) (fun ((u, R, qs) : Nat × Nat × List Nat) => u) ⟨xs.length, 0, (List.replicate xs.length 0)⟩ ⟨Nat.le_refl _, List.length_replicate, dq_zeros _ (by decide) _, by rw [List.drop_length]; simp [vl], by rw [List.drop_length, List.drop_eq_nil_of_le (by rw [List.length_replicate]; exact Nat.le_refl _)]; simp [vl]⟩ (by repeat (first | exact Sub.nil _ | refine Sub.cons (by first | rfl | (rw [dgs_zero]; rfl) | (rw [List.drop_length]; rfl) | (simp; done) | (congr 2; omega) | (congr 3; omega)) ?_)) (by repeat (first | exact Sub.nil _ | refine Sub.cons (by first | rfl | (rw [dgs_zero]; rfl) | (rw [List.drop_length]; rfl) | (simp; done) | (congr 2; omega) | (congr 3; omega)) ?_)) ?_
    rintro ⟨u, R, qs⟩ ⟨hu, hql, hqd, hR, hQ⟩
    try dsimp only at *
    refine T.seq ?_
    refine T.seq ?_
    refine T.text [.l, .l] rfl ?_
    refine J.move rfl rfl ?_
    refine J.geq rfl rfl rfl rfl ?_
    refine J.end ?_
    refine X.then ?_
    refine T.cond_dec rfl (fun h2 => ?_) (fun h2 => ?_)
    · obtain ⟨k, rfl⟩ : ∃ k, u = k + 1 := ⟨u - 1, by omega⟩
      refine T.as 8 (.int .i64 (k : Int)) rfl (by first | rfl | (congr 1; omega)) ?_
      have hk : k < xs.length := by omega
      have hxk := hxd.getD k
      have hRb : R < b := by rw [hR]; exact Nat.mod_lt _ (by omega)
      have hdd := div_digit (d := xs.getD k 0) (show 0 < b by omega) hRb hxk
      have hqs := quo_step (show 0 < b by omega) hql hk hR hQ
      refine T.skip ?_
      refine X.then ?_
      refine T.seq ?_
      refine T.block ?_
      refine T.seq ?_
      refine T.text [.l, .l, .l, .l, .l, .l, .l, .l] rfl ?_
      refine J.move rfl rfl ?_
      refine J.mul rfl rfl rfl (by first | exact mul_nat 256 _ (by omega) | exact i64_ok _ (by omega) | exact rfl) ?_
      refine J.move rfl rfl ?_
      refine J.move rfl rfl ?_
      refine J.indexSlI sl62 rfl (hE.isSome (by omega)) rfl (by omega) (by omega) (by first | exact Int.toNat_natCast _ | rfl) rfl ?_
      refine J.loadAny (k := .l) trivial (fun w hw => hE.cs hw (j := 70) rfl) rfl one3 (by have := rowN_get1s .i64 xs [] k (by omega); rwa [List.append_nil] at this) rfl ?_
      refine J.add rfl rfl rfl (by first | exact add_nat _ _ (by omega) | exact i64_ok _ (by omega) | exact rfl) ?_
      refine J.assign rfl rfl ?_
      refine J.end ?_
      refine X.then ?_
      refine T.seq ?_
      refine T.text [.l, .l, .l, .l, .l, .l, .l] rfl ?_
      refine J.move rfl rfl ?_
      refine J.move rfl rfl ?_
      refine J.move rfl rfl ?_
      refine J.move rfl rfl ?_
      refine J.quo rfl rfl rfl (by omega) (by first | exact quo_nat _ _ (by omega) | exact i64_quo_ok _ _ (by omega) | exact rfl) ?_
      refine J.indexRow sl62 rfl rfl rfl (by omega) (by omega) (by first | exact Int.toNat_natCast _ | rfl) rfl ?_
      refine J.store 20 rfl rfl rfl rfl [.int .i64 (((256 * R + xs.getD k 0) / b : Nat) : Int)] rfl sz3 (by rw [rowN_length, hql]; show _ + 1 ≤ _; omega) (by first | exact rowN_one _ _ | (simp; done) | (intro u hu; simp at hu; subst hu; rfl) | (intro u hu; simp at hu; rcases hu with rfl | rfl <;> rfl)) (by first | decide | exact Nat.zero_lt_succ _ | simp) trivial (rowN .i64 (qs.set k ((256 * R + xs.getD k 0) / b))) (by rw [Nat.mul_one]; exact putN' _ _ _ _ (by omega)) ?_
      refine J.end ?_
      refine X.then ?_
      refine T.text [.l, .l, .l, .l] rfl ?_
      refine J.move rfl rfl ?_
      refine J.move rfl rfl ?_
      refine J.rem rfl rfl rfl (by omega) (by first | exact rem_nat _ _ | exact rem_ok _ _ (by omega) | exact rfl) ?_
      refine J.assign rfl rfl ?_
      refine J.end ?_
      refine X.inBlock (X.then ?_)
      refine T.text [.l, .l, .l] rfl ?_
      refine J.move rfl rfl ?_
      refine J.sub' rfl rfl rfl (by exact i64_ok _ (by omega)) ?_
      refine J.assign rfl rfl ?_
      refine J.end ?_
      exact X.round ⟨k, ((256 * R + xs.getD k 0) % b), (qs.set k ((256 * R + xs.getD k 0) / b))⟩ ⟨by omega, by simp [hql], hqd.set _ hdd.1, hqs.2, hqs.1⟩ (by first | omega | (dsimp only; omega)) (by repeat (first | exact Sub.nil _ | refine Sub.cons (by first | rfl | (rw [dgs_zero]; rfl) | (rw [List.drop_length]; rfl) | (simp; done) | (congr 2; omega) | (congr 3; omega)) ?_)) (by repeat (first | exact Sub.nil _ | refine Sub.cons (by first | rfl | (rw [dgs_zero]; rfl) | (rw [List.drop_length]; rfl) | (simp; done) | (congr 2; omega) | (congr 3; omega)) ?_))
    · obtain rfl : u = 0 := by omega
      rw [List.drop_zero] at hR hQ
      have hqv : vl qs = vl xs / b := hQ
      refine T.exit ?_
      refine X.then_exit (X.then_exit (X.inBlock_eq (X.then ?_)))
      refine T.seq ?_
      refine T.text [.l, .l, .l, .l, .l] rfl ?_
      refine J.move rfl rfl ?_
      refine J.move rfl rfl ?_
      refine J.lit1 46 rfl Tryd.underlying61 el3 (by decide) rfl [_] rfl rfl rfl (fun g46 hg46 => ?_)
      refine J.append 5 rfl Tryd.underlying61 el3 rfl hs (by rw [rowN_length, Nat.mul_one]) rfl rfl rfl (fun w hw => (hw.blkCs (k := 46) rfl)) (by first | exact rowN_one _ _ | (intro u hu; simp at hu; subst hu; rfl)) (by omega) (by unfold maxLen; omega) rfl (digL b (vl xs0) (m + 1)).length (by rw [hdl, hdm]) (rowN .i64 (digL b (vl xs0) (m + 1))) (by rw [digL_succ, rowN_append, hR, hxv]; rfl) (fun r47 hr47 => ?_)
      refine J.assign rfl rfl ?_
      refine J.end ?_
      refine X.then ?_
      refine T.text [.l, .l] rfl ?_
      refine J.move rfl rfl ?_
      refine J.assign rfl rfl ?_
      refine J.end ?_
      refine X.mv 20 70 rfl ?_
      refine X.inBlock ?_
      exact X.round ⟨(m + 1), (hdOf (some g20)), xs.length, qs, ⟨some g20, qs.length, []⟩, qs, r47⟩ ⟨by omega, by rw [hql, hxl], hqd, by rw [hqv, hxv, Nat.div_div_eq_div_mul, ← Nat.pow_succ], fun h => by dsimp only at h ⊢; exact hne2 h, .inr ⟨rfl, rfl, RowIx.blk_ok' g20 qs.length 1 (by unfold maxLen; omega)⟩, hr47⟩ (by first | omega | (dsimp only; omega)) (by repeat (first | exact Sub.nil _ | refine Sub.cons (by first | rfl | (simp only [hql]; rfl)) ?_)) (by repeat (first | exact Sub.nil _ | refine Sub.cons (by first | rfl | (simp [RowIx.ent]; rfl)) ?_))
  · have hm1 : 1 ≤ m := by omega
    refine J.yes rfl rfl ?_
    refine J.move rfl rfl ?_
    refine J.yes rfl rfl ?_
    refine J.call0 (k := .l) trivial fok118 rfl rfl (fun w hw => Ra.none_ w _ _ xs (hE.cs hw (j := 70) rfl) (by omega)) ?_
    refine J.yes rfl rfl ?_
    refine J.not rfl rfl (by rw [← decide_not]) ?_
    refine J.pick_f rfl rfl rfl ?_
    refine J.end ?_
    refine X.then ?_
    refine T.cond_dec rfl (fun h3 => ?_) (fun h3 => ?_)
    · have hne2 : (1 < m + 1 → vl xs0 / b ^ (m + 1 - 1) ≠ 0) := fun _ => by rw [Nat.add_sub_cancel, ← hxv]; omega
      have hmk := digits_le hb (show vl xs0 / b ^ m ≠ 0 by rw [← hxv]; omega) (bits_small hx0)
      refine T.skip ?_
      refine X.then ?_
      refine T.block ?_
      refine T.seq ?_
      refine T.text [.l] rfl ?_
      refine J.assign rfl rfl ?_
      refine J.end ?_
      refine X.then ?_
      refine T.seq ?_
      refine T.text [.l, .l, .l, .l] rfl ?_
      refine J.move rfl rfl ?_
      refine J.lenSl Tryd.underlying62 rfl rfl ?_
      refine J.makeSlice 20 rfl (q := xs.length) (c0 := xs.length) Tryd.underlying62 el3 rfl rfl (by first | rfl | omega) (by first | rfl | omega) (by omega) (by omega) (by unfold maxLen; omega) rfl (fun g20 hg20 => ?_)
      refine J.assign rfl rfl ?_
      refine J.end ?_
      refine X.then ?_
      refine T.seq ?_
      refine T.seq ?_
      refine T.text [.l, .l, .l, .l] rfl ?_
      refine J.move rfl rfl ?_
      refine J.lenSl Tryd.underlying62 rfl rfl ?_
      refine J.sub' rfl rfl rfl (by exact i64_ok _ (by omega)) ?_
      refine J.assign rfl rfl ?_
      refine J.end ?_
      refine X.then ?_
      refine T.block ?_
      refine T.asE 20 ⟨some g20, 3, rowN .i64 (List.replicate xs.length 0)⟩ rfl (by rw [zeros_nat]) ?_
      refine T.loop (ι := Nat × Nat × List Nat) (fun ((u, R, qs) : Nat × Nat × List Nat) => u ≤ xs.length ∧ qs.length = xs.length ∧ Dg qs ∧ R = vl (xs.drop u) % b ∧ vl (qs.drop u) = vl (xs.drop u) / b) (fun ((u, R, qs) : Nat × Nat × List Nat) => [(1, .int .i64 (b : Int)), (4, .slice none 0 0), (0, .slice A xs.length c), (5, s.val (digL b (vl xs0) m).length), (10, s.val (digL b (vl xs0) m).length), (11, .int .i64 (((digL b (vl xs0) m).length : Nat) : Int)), (13, .bool false), (14, .slice A xs.length c), (18, .slice A xs.length c), (19, .int .i64 ((xs.length : Nat) : Int)), (20, .slice (hdOf (some g20)) xs.length xs.length), (7, .slice (hdOf (some g20)) xs.length xs.length), (21, .slice A xs.length c), (22, .int .i64 ((xs.length : Nat) : Int)), (8, .int .i64 ((u : Int) - 1)), (6, .int .i64 (R : Int))]) (fun ((u, R, qs) : Nat × Nat × List Nat) => [(5, s.ent 3 (rowN .i64 (digL b (vl xs0) m))), (70, r.ent 3 (rowN .i64 zs)), (20, ⟨some g20, 3, rowN .i64 qs⟩)]) (fun ((u, R, qs) : Nat × Nat × List Nat) => u) ⟨xs.length, 0, (List.replicate xs.length 0)⟩ ⟨Nat.le_refl _, List.length_replicate, dq_zeros _ (by decide) _, by rw [List.drop_length]; simp [vl], by rw [List.drop_length, List.drop_eq_nil_of_le (by rw [List.length_replicate]; exact Nat.le_refl _)]; simp [vl]⟩ (by repeat (first | exact Sub.nil _ | refine Sub.cons (by first | rfl | (rw [dgs_zero]; rfl) | (rw [List.drop_length]; rfl) | (simp; done) | (congr 2; omega) | (congr 3; omega)) ?_)) (by repeat (first | exact Sub.nil _ | refine Sub.cons (by first | rfl | (rw [dgs_zero]; rfl) | (rw [List.drop_length]; rfl) | (simp; done) | (congr 2; omega) | (congr 3; omega)) ?_)) ?_
      rintro ⟨u, R, qs⟩ ⟨hu, hql, hqd, hR, hQ⟩
      try dsimp only at *
      refine T.seq ?_
      refine T.seq ?_
      refine T.text [.l, .l] rfl ?_
      refine J.move rfl rfl ?_
      refine J.geq rfl rfl rfl rfl ?_
      refine J.end ?_
      refine X.then ?_
      refine T.cond_dec rfl (fun h4 => ?_) (fun h4 => ?_)
      · obtain ⟨k, rfl⟩ : ∃ k, u = k + 1 := ⟨u - 1, by omega⟩
        refine T.as 8 (.int .i64 (k : Int)) rfl (by first | rfl | (congr 1; omega)) ?_
        have hk : k < xs.length := by omega
        have hxk := hxd.getD k
        have hRb : R < b := by rw [hR]; exact Nat.mod_lt _ (by omega)
        have hdd := div_digit (d := xs.getD k 0) (show 0 < b by omega) hRb hxk
        have hqs := quo_step (show 0 < b by omega) hql hk hR hQ
        refine T.skip ?_
        refine X.then ?_
        refine T.seq ?_
        refine T.block ?_
        refine T.seq ?_
        refine T.text [.l, .l, .l, .l, .l, .l, .l, .l] rfl ?_
        refine J.move rfl rfl ?_
        refine J.mul rfl rfl rfl (by first | exact mul_nat 256 _ (by omega) | exact i64_ok _ (by omega) | exact rfl) ?_
        refine J.move rfl rfl ?_
        refine J.move rfl rfl ?_
        refine J.indexSlI sl62 rfl (hE.isSome (by omega)) rfl (by omega) (by omega) (by first | exact Int.toNat_natCast _ | rfl) rfl ?_
        refine J.loadAny (k := .l) trivial (fun w hw => hE.cs hw (j := 70) rfl) rfl one3 (by have := rowN_get1s .i64 xs [] k (by omega); rwa [List.append_nil] at this) rfl ?_
        refine J.add rfl rfl rfl (by first | exact add_nat _ _ (by omega) | exact i64_ok _ (by omega) | exact rfl) ?_
        refine J.assign rfl rfl ?_
        refine J.end ?_
        refine X.then ?_
        refine T.seq ?_
        refine T.text [.l, .l, .l, .l, .l, .l, .l] rfl ?_
        refine J.move rfl rfl ?_
        refine J.move rfl rfl ?_
        refine J.move rfl rfl ?_
        refine J.move rfl rfl ?_
        refine J.quo rfl rfl rfl (by omega) (by first | exact quo_nat _ _ (by omega) | exact i64_quo_ok _ _ (by omega) | exact rfl) ?_
        refine J.indexRow sl62 rfl rfl rfl (by omega) (by omega) (by first | exact Int.toNat_natCast _ | rfl) rfl ?_
        refine J.store 20 rfl rfl rfl rfl [.int .i64 (((256 * R + xs.getD k 0) / b : Nat) : Int)] rfl sz3 (by rw [rowN_length, hql]; show _ + 1 ≤ _; omega) (by first | exact rowN_one _ _ | (simp; done) | (intro u hu; simp at hu; subst hu; rfl) | (intro u hu; simp at hu; rcases hu with rfl | rfl <;> rfl)) (by first | decide | exact Nat.zero_lt_succ _ | simp) trivial (rowN .i64 (qs.set k ((256 * R + xs.getD k 0) / b))) (by rw [Nat.mul_one]; exact putN' _ _ _ _ (by omega)) ?_
        refine J.end ?_
        refine X.then ?_
        refine T.text [.l, .l, .l, .l] rfl ?_
        refine J.move rfl rfl ?_
        refine J.move rfl rfl ?_
        refine J.rem rfl rfl rfl (by omega) (by first | exact rem_nat _ _ | exact rem_ok _ _ (by omega) | exact rfl) ?_
        refine J.assign rfl rfl ?_
        refine J.end ?_
        refine X.inBlock (X.then ?_)
        refine T.text [.l, .l, .l] rfl ?_
        refine J.move rfl rfl ?_
        refine J.sub' rfl rfl rfl (by exact i64_ok _ (by omega)) ?_
        refine J.assign rfl rfl ?_
        refine J.end ?_
        exact X.round ⟨k, ((256 * R + xs.getD k 0) % b), (qs.set k ((256 * R + xs.getD k 0) / b))⟩ ⟨by omega, by simp [hql], hqd.set _ hdd.1, hqs.2, hqs.1⟩ (by first | omega | (dsimp only; omega)) (by repeat (first | exact Sub.nil _ | refine Sub.cons (by first | rfl | (rw [dgs_zero]; rfl) | (rw [List.drop_length]; rfl) | (simp; done) | (congr 2; omega) | (congr 3; omega)) ?_)) (by repeat (first | exact Sub.nil _ | refine Sub.cons (by first | rfl | (rw [dgs_zero]; rfl) | (rw [List.drop_length]; rfl) | (simp; done) | (congr 2; omega) | (congr 3; omega)) ?_))
      · obtain rfl : u = 0 := by omega
        rw [List.drop_zero] at hR hQ
        have hqv : vl qs = vl xs / b := hQ
        refine T.exit ?_
        refine X.then_exit (X.then_exit (X.inBlock_eq (X.then ?_)))
        refine T.seq ?_
        refine T.text [.l, .l, .l, .l, .l] rfl ?_
        refine J.move rfl rfl ?_
        refine J.move rfl rfl ?_
        refine J.lit1 46 rfl Tryd.underlying61 el3 (by decide) rfl [_] rfl rfl rfl (fun g46 hg46 => ?_)
        refine J.append 5 rfl Tryd.underlying61 el3 rfl hs (by rw [rowN_length, Nat.mul_one]) rfl rfl rfl (fun w hw => (hw.blkCs (k := 46) rfl)) (by first | exact rowN_one _ _ | (intro u hu; simp at hu; subst hu; rfl)) (by omega) (by unfold maxLen; omega) rfl (digL b (vl xs0) (m + 1)).length (by rw [hdl, hdm]) (rowN .i64 (digL b (vl xs0) (m + 1))) (by rw [digL_succ, rowN_append, hR, hxv]; rfl) (fun r47 hr47 => ?_)
        refine J.assign rfl rfl ?_
        refine J.end ?_
        refine X.then ?_
        refine T.text [.l, .l] rfl ?_
        refine J.move rfl rfl ?_
        refine J.assign rfl rfl ?_
        refine J.end ?_
        refine X.mv 20 70 rfl ?_
        refine X.inBlock ?_
        exact X.round ⟨(m + 1), (hdOf (some g20)), xs.length, qs, ⟨some g20, qs.length, []⟩, qs, r47⟩ ⟨by omega, by rw [hql, hxl], hqd, by rw [hqv, hxv, Nat.div_div_eq_div_mul, ← Nat.pow_succ], fun h => by dsimp only at h ⊢; exact hne2 h, .inr ⟨rfl, rfl, RowIx.blk_ok' g20 qs.length 1 (by unfold maxLen; omega)⟩, hr47⟩ (by first | omega | (dsimp only; omega)) (by repeat (first | exact Sub.nil _ | refine Sub.cons (by first | rfl | (simp only [hql]; rfl)) ?_)) (by repeat (first | exact Sub.nil _ | refine Sub.cons (by first | rfl | (simp [RowIx.ent]; rfl)) ?_))
    · have hz0 : vl xs = 0 := by omega
      refine T.exit ?_
      refine X.then_exit (X.then_exit (X.inBlock_eq (X.then ?_)))
      refine T.seq ?_
      refine T.text [.l, .l] rfl ?_
      refine J.move rfl rfl ?_
      refine J.assign rfl rfl ?_
      refine J.end ?_
      refine X.then ?_
      refine T.ret ?_
      exact X.ret1 rfl (RV.tmp rfl) (fun w' hw' => RowsPost.mk' (digL b (vl xs0) m) ⟨m, rfl, hm1, by rw [← hxv]; exact hz0, hnz⟩ s hs rfl hw' 5 rfl)
end Go.Proofs.YtegociefcfcihaaDoor.Rr
set_option linter.unusedVariables false
set_option maxRecDepth 20000
namespace Go.Proofs.YtegociefcfcihaaDoor.Rs
open Go Go.Fw

theorem zero256 : ZeroT Tryd.prog 78 (.agg (rowN .i64 (List.replicate 256 0)).toArray) := (by unfold ZeroT; kernel_rfl)
theorem sz78 : SizeT Tryd.prog 78 256 := (by unfold SizeT; kernel_rfl)
theorem sz3 : SizeT Tryd.prog 3 1 := (by unfold SizeT; kernel_rfl)
theorem sl62 : SlT Tryd.prog 62 3 1 := ⟨Tryd.underlying62, sz3⟩
theorem one3 : OneT Tryd.prog 3 := ⟨⟨_, Tryd.underlying3, rfl⟩, by kernel_rfl⟩
theorem agg24 : AggT Tryd.prog 24 4 := ⟨⟨_, Tryd.underlying24, rfl⟩, by kernel_rfl⟩
theorem fok110 : FnOk Tryd.prog 110 := FnOk.mk' Tryd.func110 (by kernel_rfl) rfl
theorem fok140 : FnOk Tryd.prog 140 := FnOk.mk' Tryd.func140 (by kernel_rfl) rfl
theorem fok139 : FnOk Tryd.prog 139 := FnOk.mk' Tryd.func139 (by kernel_rfl) rfl

theorem Hex (w : World) (x0 m : Nat) (hm : numd 16 (x0 % 2 ^ 256) m) :
    Calls Tryd.prog 104 [W x0].toArray w fun e w' => e = .returned (.string (bstr ([48, 120] ++ txt 16 (x0 % 2 ^ 256) m))) ∧ WS w [] [] w' := by
  refine calls_of_T [] 8 [] Tryd.func104 rfl Tryd.ntmps104 (by simp) (WS.refl _ _) ?_
  refine T.seq ?_
  refine T.text [.l, .l] rfl ?_
  refine J.box 1 rfl rfl (wc x0) rfl rfl (fun g1 hg1 => ?_)
  refine J.assign rfl rfl ?_
  refine J.as 2 (.string (bstr [])) rfl rfl ?_
  refine J.end ?_
  refine X.then ?_
  refine T.seq ?_
  refine T.text [.l, .l, .l, .l, .l, .l] rfl ?_
  refine J.loadN (k := .l) trivial 1 rfl rfl agg24 (wc x0) rfl rfl rfl ?_
  refine J.callRow 4 rfl (t := 3) (kd := .i64) fok110 rfl rfl (fun w hw => Ra.of w _) (fun zs4 r4 hz4 hr4 => ?_)
  obtain ⟨hD4, hL4, hV4, hG4⟩ := of_facts hz4
  refine J.callRow 5 rfl (t := 3) (kd := .i64) fok140 rfl rfl (fun w hw => Rr.based w _ _ _ 16 (hw.rowCs (k := 4) rfl) (by assumption) (by omega) (by decide) (by decide)) (fun zs5 r5 hz5 hr5 => ?_)
  obtain ⟨q, rfl, hq⟩ := hz5
  rw [hV4] at hq
  obtain rfl : q = m := numd_unique (by decide) hq hm
  have hml := numd_le (by decide) hm (Nat.mod_lt x0 (show 2 ^ 256 > 0 by decide))
  have hdl := digL_length 16 (vl zs4) q
  refine J.call0 (k := .l) trivial fok139 rfl rfl (fun w hw => Rq.told w _ _ _ (hw.rowCs (k := 5) rfl) (fun x hx => Nat.lt_of_lt_of_le (digL_lt (by decide) hx) (by decide)) (by omega)) ?_
  refine J.as 6 (.string (bstr (txt 16 (x0 % 2 ^ 256) q))) rfl (by rw [hV4]; rfl) ?_
  refine J.addStr (xs := [48, 120]) (ys := (txt 16 (x0 % 2 ^ 256) q)) rfl rfl rfl (by rw [txt_length]; show 2 + q ≤ _; omega) ?_
  refine J.assign rfl rfl ?_
  refine J.end ?_
  refine X.then ?_
  refine T.ret ?_
  exact X.ret1 rfl (RV.tmp rfl) (fun w' hw' => ⟨rfl, hw'.sub (Sub.nil _)⟩)

theorem Text (w : World) (x0 m : Nat) (hm : numd 10 (x0 % 2 ^ 256) m) :
    Calls Tryd.prog 106 [W x0].toArray w fun e w' => e = .returned (.string (bstr (txt 10 (x0 % 2 ^ 256) m))) ∧ WS w [] [] w' := by
  refine calls_of_T [] 7 [] Tryd.func106 rfl Tryd.ntmps106 (by simp) (WS.refl _ _) ?_
  refine T.seq ?_
  refine T.text [.l, .l] rfl ?_
  refine J.box 1 rfl rfl (wc x0) rfl rfl (fun g1 hg1 => ?_)
  refine J.assign rfl rfl ?_
  refine J.as 2 (.string (bstr [])) rfl rfl ?_
  refine J.end ?_
  refine X.then ?_
  refine T.seq ?_
  refine T.text [.l, .l, .l, .l, .l] rfl ?_
  refine J.loadN (k := .l) trivial 1 rfl rfl agg24 (wc x0) rfl rfl rfl ?_
  refine J.callRow 4 rfl (t := 3) (kd := .i64) fok110 rfl rfl (fun w hw => Ra.of w _) (fun zs4 r4 hz4 hr4 => ?_)
  obtain ⟨hD4, hL4, hV4, hG4⟩ := of_facts hz4
  refine J.callRow 5 rfl (t := 3) (kd := .i64) fok140 rfl rfl (fun w hw => Rr.based w _ _ _ 10 (hw.rowCs (k := 4) rfl) (by assumption) (by omega) (by decide) (by decide)) (fun zs5 r5 hz5 hr5 => ?_)
  obtain ⟨q, rfl, hq⟩ := hz5
  rw [hV4] at hq
  obtain rfl : q = m := numd_unique (by decide) hq hm
  have hml := numd_le (by decide) hm (Nat.mod_lt x0 (show 2 ^ 256 > 0 by decide))
  have hdl := digL_length 10 (vl zs4) q
  refine J.call0 (k := .l) trivial fok139 rfl rfl (fun w hw => Rq.told w _ _ _ (hw.rowCs (k := 5) rfl) (fun x hx => Nat.lt_of_lt_of_le (digL_lt (by decide) hx) (by decide)) (by omega)) ?_
  refine J.as 6 (.string (bstr (txt 10 (x0 % 2 ^ 256) q))) rfl (by rw [hV4]; rfl) ?_
  refine J.assign rfl rfl ?_
  refine J.end ?_
  refine X.then ?_
  refine T.ret ?_
  exact X.ret1 rfl (RV.tmp rfl) (fun w' hw' => ⟨rfl, hw'.sub (Sub.nil _)⟩)
end Go.Proofs.YtegociefcfcihaaDoor.Rs
set_option linter.unusedVariables false
set_option maxRecDepth 20000
namespace Go.Proofs.YtegociefcfcihaaDoor.Rt
open Go Go.Fw

theorem zero256 : ZeroT Tryd.prog 78 (.agg (rowN .i64 (List.replicate 256 0)).toArray) := (by unfold ZeroT; kernel_rfl)
theorem sz78 : SizeT Tryd.prog 78 256 := (by unfold SizeT; kernel_rfl)
theorem sz3 : SizeT Tryd.prog 3 1 := (by unfold SizeT; kernel_rfl)
theorem sl62 : SlT Tryd.prog 62 3 1 := ⟨Tryd.underlying62, sz3⟩
theorem one3 : OneT Tryd.prog 3 := ⟨⟨_, Tryd.underlying3, rfl⟩, by kernel_rfl⟩
theorem fok131 : FnOk Tryd.prog 131 := FnOk.mk' Tryd.func131 (by kernel_rfl) rfl
theorem fok150 : FnOk Tryd.prog 150 := FnOk.mk' Tryd.func150 (by kernel_rfl) rfl
theorem fok115 : FnOk Tryd.prog 115 := FnOk.mk' Tryd.func115 (by kernel_rfl) rfl
theorem fok109 : FnOk Tryd.prog 109 := FnOk.mk' Tryd.func109 (by kernel_rfl) rfl
theorem fok132 : FnOk Tryd.prog 132 := FnOk.mk' Tryd.func132 (by kernel_rfl) rfl

theorem read (w : World) (ss : List Nat) (b : Nat) (hs : Dg ss) (hl : ss.length ≤ 78) (hb : 2 ≤ b) (hb2 : b ≤ 16) :
    Calls Tryd.prog 138 [.string (bstr ss), .int .i64 (b : Int)].toArray w fun e w' => RowBPost w 3 .i64 (fun zs ok => Dg zs ∧ zs.length ≤ 42 ∧ ok = decide (okS b ss) ∧ (ok = true → vl zs = numV b ss)) e w' := by
  refine calls_of_T [] 42 [] Tryd.func138 rfl Tryd.ntmps138 (by simp) (WS.refl _ _) ?_
  refine T.seq ?_
  refine T.text [.l, .l] rfl ?_
  refine J.assign rfl rfl ?_
  refine J.assign rfl rfl ?_
  refine J.end ?_
  refine X.then ?_
  refine T.seq ?_
  refine T.text [.l, .l] rfl ?_
  refine J.callRow 9 rfl (t := 3) (kd := .i64) fok131 rfl rfl (fun w hw => Rc.small w 0 (by omega)) (fun zs9 r9 hz9 hr9 => ?_)
  obtain ⟨hD9, hL9, hV9⟩ := hz9
  refine J.assign rfl rfl ?_
  refine J.end ?_
  refine X.then ?_
  refine T.seq ?_
  refine T.seq ?_
  refine T.text [.l, .l, .l] rfl ?_
  refine J.move rfl rfl ?_
  refine J.lenStr Tryd.underlying9 rfl rfl ?_
  refine J.as 11 (.int .i64 ((ss.length : Nat) : Int)) rfl (by rw [bstr_size]) ?_
  refine J.eql rfl rfl rfl rfl ?_
  refine J.end ?_
  refine X.then ?_
  refine T.cond_dec rfl (fun h1 => ?_) (fun h1 => ?_)
  · have h0 : ss = [] := List.length_eq_zero_iff.1 (by omega)
    refine T.seq ?_
    refine T.text [.l, .l, .l] rfl ?_
    refine J.move rfl rfl ?_
    refine J.assign rfl rfl ?_
    refine J.assign rfl rfl ?_
    refine J.end ?_
    refine X.then ?_
    refine T.ret ?_
    refine X.then_ret ?_
    exact X.ret2 rfl (RV.tmp rfl) (RV.tmp rfl) (fun w' hw' => ⟨zs9, false, r9, ⟨hD9, by omega, (decide_eq_false (fun h => h.1 h0)).symm, fun h => by cases h⟩, hr9, rfl, hw'.only 9 0 rfl⟩)
  · have h0 : 0 < ss.length := by omega
    refine T.skip ?_
    refine X.then ?_
    refine T.seq ?_
    refine T.seq ?_
    refine T.text [.l] rfl ?_
    refine J.assign rfl rfl ?_
    refine J.end ?_
    refine X.mv 9 6 rfl ?_
    refine X.then ?_
    refine T.block ?_
    refine T.loop (ι := Nat × List Nat × RowIx) (fun ((i, zs, r) : Nat × List Nat × RowIx) => i ≤ ss.length ∧ Dg zs ∧ zs.length ≤ 42 ∧ vl zs = numV b (ss.take i) ∧ (∀ q, q < i → okD b (ss.getD q 0)) ∧ r.Ok 1 zs.length) (fun ((i, zs, r) : Nat × List Nat × RowIx) => [(0, .string (bstr ss)), (1, .int .i64 (b : Int)), (7, .int .i64 (i : Int)), (6, r.val zs.length)]) (fun ((i, zs, r) : Nat × List Nat × RowIx) => [(6, r.ent 3 (rowN .i64 zs))]) (fun ((i, zs, r) : Nat × List Nat × RowIx) => ss.length - i) ⟨0, zs9, r9⟩ ⟨Nat.zero_le _, hD9, by omega, by rw [hV9]; simp [numV], fun q hq => by omega, hr9⟩ (by repeat (first | exact Sub.nil _ | refine Sub.cons (by first | rfl | (rw [dgs_zero]; rfl) | (rw [List.drop_length]; rfl) | (simp; done) | (congr 2; omega) | (congr 3; omega)) ?_)) (by repeat (first | exact Sub.nil _ | refine Sub.cons (by first | rfl | (rw [dgs_zero]; rfl) | (rw [List.drop_length]; rfl) | (simp; done) | (congr 2; omega) | (congr 3; omega)) ?_)) ?_
    rintro ⟨i, zs, r⟩ ⟨hi, hz, hzl, hv, hok, hr⟩
    try dsimp only at *
    refine T.seq ?_
    refine T.seq ?_
    refine T.text [.l, .l, .l, .l] rfl ?_
    refine J.move rfl rfl ?_
    refine J.move rfl rfl ?_
    refine J.lenStr Tryd.underlying9 rfl rfl ?_
    refine J.as 16 (.int .i64 ((ss.length : Nat) : Int)) rfl (by rw [bstr_size]) ?_
    refine J.lss rfl rfl rfl rfl ?_
    refine J.end ?_
    refine X.then ?_
    refine T.cond_dec rfl (fun h2 => ?_) (fun h2 => ?_)
    · have hil : i < ss.length := by omega
      have hcl := hs.getD i
      have hlt := numV_lt (b := b) (by omega) i hi hok
      have hroom := pow_room hb2 (show i + 1 ≤ 78 by omega)
      have hvt := numV_take b ss i hil
      have hwf : -1 ≤ worthZ (ss.getD i 0) ∧ worthZ (ss.getD i 0) ≤ 15 := worthZ_fit _
      refine T.skip ?_
      refine X.then ?_
      refine T.seq ?_
      refine T.block ?_
      refine T.seq ?_
      refine T.text [.l, .l, .l, .l, .l] rfl ?_
      refine J.move rfl rfl ?_
      refine J.move rfl rfl ?_
      refine J.indexStr Tryd.underlying9 rfl rfl (by omega) (by first | exact Int.toNat_natCast _ | rfl) (bstr_get _ _ hil) rfl ?_
      refine J.as 22 (.int .u8 (((ss.getD i 0) : Nat) : Int)) rfl (by rw [chr_dg hs]) ?_
      refine J.call0 (k := .l) trivial fok150 rfl rfl (fun w hw => Rq.worth w _ hcl) ?_
      refine J.assign rfl rfl ?_
      refine J.end ?_
      refine X.then ?_
      refine T.seq ?_
      refine T.seq ?_
      refine T.text [.l, .l, .l, .l, .l, .l, .l] rfl ?_
      refine J.move rfl rfl ?_
      refine J.lss rfl rfl rfl rfl ?_
      refine J.move rfl rfl ?_
      refine J.split 26 rfl (fun h3 => ?_) (fun h3 => ?_)
      · skip
        refine J.no rfl rfl rfl rfl ?_
        refine J.no rfl rfl rfl rfl ?_
        refine J.no rfl rfl rfl rfl ?_
        refine J.pick_t rfl rfl rfl ?_
        refine J.end ?_
        refine X.then ?_
        refine T.cond_true rfl ?_
        refine T.seq ?_
        refine T.text [.l, .l, .l] rfl ?_
        refine J.move rfl rfl ?_
        refine J.assign rfl rfl ?_
        refine J.assign rfl rfl ?_
        refine J.end ?_
        refine X.then ?_
        refine T.ret ?_
        refine X.then_ret (X.inBlock_ret (X.then_ret (X.then_ret (X.inBlock_ret (X.then_ret ?_)))))
        exact X.ret2 rfl (RV.tmp rfl) (RV.tmp rfl) (fun w' hw' => ⟨zs, false, r, ⟨hz, hzl, (decide_eq_false (okS_no hil (fun h => by unfold okD at h; omega))).symm, fun h => by cases h⟩, hr, rfl, hw'.only 6 0 rfl⟩)
      · skip
        refine J.yes rfl rfl ?_
        refine J.move rfl rfl ?_
        refine J.yes rfl rfl ?_
        refine J.move rfl rfl ?_
        refine J.yes rfl rfl ?_
        refine J.geq rfl rfl rfl rfl ?_
        refine J.pick_f rfl rfl rfl ?_
        refine J.end ?_
        refine X.then ?_
        refine T.cond_dec rfl (fun h4 => ?_) (fun h4 => ?_)
        · have hno : ¬ okD b (ss.getD i 0) := fun h => by unfold okD at h; omega
          refine T.seq ?_
          refine T.text [.l, .l, .l] rfl ?_
          refine J.move rfl rfl ?_
          refine J.assign rfl rfl ?_
          refine J.assign rfl rfl ?_
          refine J.end ?_
          refine X.then ?_
          refine T.ret ?_
          refine X.then_ret (X.inBlock_ret (X.then_ret (X.then_ret (X.inBlock_ret (X.then_ret ?_)))))
          exact X.ret2 rfl (RV.tmp rfl) (RV.tmp rfl) (fun w' hw' => ⟨zs, false, r, ⟨hz, hzl, (decide_eq_false (okS_no hil (fun h => by unfold okD at h; omega))).symm, fun h => by cases h⟩, hr, rfl, hw'.only 6 0 rfl⟩)
        · have hoki : okD b (ss.getD i 0) := by unfold okD; omega
          have hlt2 := numV_lt (b := b) (by omega) (i + 1) (by omega) (fun q hq => (Nat.lt_or_ge q i).elim (hok q) (fun h => by obtain rfl : q = i := (by omega); exact hoki))
          refine T.skip ?_
          refine X.then ?_
          refine T.seq ?_
          refine T.text [.l, .l, .l, .l, .l, .l, .l, .l] rfl ?_
          refine J.move rfl rfl ?_
          refine J.move rfl rfl ?_
          refine J.callRow 34 rfl (t := 3) (kd := .i64) fok131 rfl rfl (fun w hw => Rc.small w b (by omega)) (fun zs34 r34 hz34 hr34 => ?_)
          obtain ⟨hD34, hL34, hV34⟩ := hz34
          refine J.callRow 35 rfl (t := 3) (kd := .i64) fok115 rfl rfl (fun w hw => Rc.times w _ _ _ (hw.rowCs (k := 6) rfl) _ _ _ (hw.rowCs (k := 34) rfl) (by assumption) (by omega) (by assumption) (by omega)) (fun zs35 r35 hz35 hr35 => ?_)
          obtain ⟨hD35, hL35, hV35⟩ := hz35
          refine J.move rfl rfl ?_
          refine J.as 36 (.int .i64 (((worthZ (ss.getD i 0)).toNat : Nat) : Int)) rfl (by unfold okD at hoki; congr 1; omega) ?_
          refine J.callRow 37 rfl (t := 3) (kd := .i64) fok131 rfl rfl (fun w hw => Rc.small w (worthZ (ss.getD i 0)).toNat (by omega)) (fun zs37 r37 hz37 hr37 => ?_)
          obtain ⟨hD37, hL37, hV37⟩ := hz37
          refine J.callRow 38 rfl (t := 3) (kd := .i64) fok109 rfl rfl (fun w hw => Ra.plus w _ _ _ (hw.rowCs (k := 35) rfl) _ _ _ (hw.rowCs (k := 37) rfl) (by assumption) (by omega) (by assumption) (by omega)) (fun zs38 r38 hz38 hr38 => ?_)
          obtain ⟨hD38, hL38, hV38⟩ := hz38
          refine J.assign rfl rfl ?_
          refine J.end ?_
          refine X.then ?_
          refine T.text [.l, .l, .l] rfl ?_
          refine J.move rfl rfl ?_
          refine J.callRow 40 rfl (t := 3) (kd := .i64) fok132 rfl rfl (fun w hw => Ra.cut w _ _ _ (hw.rowCs (k := 38) rfl) 42 (by omega)) (fun zs40 r40 hz40 hr40 => ?_)
          obtain ⟨hD40, hL40, hV40⟩ := cut_facts hz40 hD38 (by rw [hV38, hV35, hV34, hV37, hv, ← hvt]; exact Nat.lt_trans hlt2 hroom)
          refine J.assign rfl rfl ?_
          refine J.end ?_
          refine X.mv 40 6 rfl ?_
          refine X.inBlock (X.then ?_)
          refine T.text [.l, .l, .l] rfl ?_
          refine J.move rfl rfl ?_
          refine J.add rfl rfl rfl (by first | exact add_nat _ 1 (by omega) | exact i64_ok _ (by omega) | exact rfl) ?_
          refine J.assign rfl rfl ?_
          refine J.end ?_
          exact X.round ⟨(i + 1), zs40, r40⟩ ⟨by omega, hD40, hL40, by rw [hV40, hV38, hV35, hV34, hV37, hv, numV_take b ss i hil], fun q hq => (Nat.lt_or_ge q i).elim (hok q) (fun h => by obtain rfl : q = i := (by dsimp only at hq; omega); exact hoki), hr40⟩ (by first | omega | (dsimp only; omega)) (by repeat (first | exact Sub.nil _ | refine Sub.cons (by first | rfl | (rw [dgs_zero]; rfl) | (rw [List.drop_length]; rfl) | (simp; done) | (congr 2; omega) | (congr 3; omega)) ?_)) (by repeat (first | exact Sub.nil _ | refine Sub.cons (by first | rfl | (rw [dgs_zero]; rfl) | (rw [List.drop_length]; rfl) | (simp; done) | (congr 2; omega) | (congr 3; omega)) ?_))
    · obtain rfl : i = ss.length := by omega
      rw [List.take_length] at hv
      refine T.exit ?_
      refine X.then_exit (X.then_exit (X.inBlock_eq (X.then ?_)))
      refine T.seq ?_
      refine T.text [.l, .l, .l] rfl ?_
      refine J.move rfl rfl ?_
      refine J.assign rfl rfl ?_
      refine J.assign rfl rfl ?_
      refine J.end ?_
      refine X.then ?_
      refine T.ret ?_
      exact X.ret2 rfl (RV.tmp rfl) (RV.tmp rfl) (fun w' hw' => ⟨zs, true, r, ⟨hz, hzl, (decide_eq_true (okS_yes h0 hok)).symm, fun _ => hv⟩, hr, rfl, hw'.only 6 0 rfl⟩)
end Go.Proofs.YtegociefcfcihaaDoor.Rt
set_option linter.unusedVariables false
set_option maxRecDepth 20000
namespace Go.Proofs.YtegociefcfcihaaDoor.Rv
open Go Go.Fw

theorem zero256 : ZeroT Tryd.prog 78 (.agg (rowN .i64 (List.replicate 256 0)).toArray) := (by unfold ZeroT; kernel_rfl)
theorem sz78 : SizeT Tryd.prog 78 256 := (by unfold SizeT; kernel_rfl)
theorem zero24 : ZeroT Tryd.prog 24 (.agg ([.int .u64 0, .int .u64 0, .int .u64 0, .int .u64 0]).toArray) := (by unfold ZeroT; kernel_rfl)
theorem sz24 : SizeT Tryd.prog 24 4 := (by unfold SizeT; kernel_rfl)
theorem agg24 : AggT Tryd.prog 24 4 := ⟨⟨_, Tryd.underlying24, rfl⟩, by kernel_rfl⟩
theorem fok138 : FnOk Tryd.prog 138 := FnOk.mk' Tryd.func138 (by kernel_rfl) rfl
theorem fok113 : FnOk Tryd.prog 113 := FnOk.mk' Tryd.func113 (by kernel_rfl) rfl
theorem fok136 : FnOk Tryd.prog 136 := FnOk.mk' Tryd.func136 (by kernel_rfl) rfl
theorem fok108 : FnOk Tryd.prog 108 := FnOk.mk' Tryd.func108 (by kernel_rfl) rfl

theorem Parse (w : World) (ss : List Nat) (hs : Dg ss) :
    Calls Tryd.prog 102 [.string (bstr ss)].toArray w fun e w' => e = .returned (.tuple #[W (parseN ss).1, .int .i64 ((parseN ss).2 : Int)]) ∧ WS w [] [] w' := by
  refine calls_of_T [] 49 [] Tryd.func102 rfl Tryd.ntmps102 (by simp) (WS.refl _ _) ?_
  refine T.seq ?_
  refine T.text [.l, .l] rfl ?_
  refine J.alloc 2 rfl zero24 [.int .u64 0, .int .u64 0, .int .u64 0, .int .u64 0] rfl rfl (fun g2 hg2 => ?_)
  refine J.assign rfl rfl ?_
  refine J.end ?_
  refine X.then ?_
  refine T.seq ?_
  refine T.seq ?_
  refine T.text [.l, .l, .l] rfl ?_
  refine J.move rfl rfl ?_
  refine J.lenStr Tryd.underlying9 rfl rfl ?_
  refine J.as 9 (.int .i64 ((ss.length : Nat) : Int)) rfl (by rw [bstr_size]) ?_
  refine J.gtr rfl rfl rfl rfl ?_
  refine J.end ?_
  refine X.then ?_
  refine T.cond_dec rfl (fun h1 => ?_) (fun h1 => ?_)
  · skip
    refine T.seq ?_
    refine T.text [.l, .l, .l] rfl ?_
    refine J.build rfl rfl (W 0) (fun w => by kernel_rfl) ?_
    refine J.store 2 rfl rfl rfl rfl (wc 0) rfl sz24 (by first | decide | exact Nat.le_refl _ | exact Nat.le_of_ble_eq_true rfl | (simp [rowN]; done) | (simp [rowN]; omega)) (by first | exact rowN_one _ _ | (simp; done) | (intro u hu; simp at hu; subst hu; rfl) | (intro u hu; simp at hu; rcases hu with rfl | rfl <;> rfl)) (by first | decide | exact Nat.zero_lt_succ _ | simp) trivial (wc 0) rfl ?_
    refine J.assign rfl rfl ?_
    refine J.end ?_
    refine X.then ?_
    refine T.ret ?_
    refine X.then_ret ?_
    exact X.ret2 rfl (RV.agg 2 rfl rfl agg24 (wc 0) (by rfl) (by rfl) rfl) (RV.tmp rfl) (fun w' hw' => by first | (exact ⟨ret_parse (a := 0) (c := 2) (parseN_long (by omega)), hw'.sub (Sub.nil _)⟩) | (exact ⟨ret_parse (a := 0) (c := 10) (parseN_hexlong (by omega) ⟨by omega, by omega, by omega⟩ (by first | omega | (rw [List.length_drop] at *; omega))), hw'.sub (Sub.nil _)⟩) | (exact ⟨ret_parse (a := 0) (c := 10) ((parseN_hex (by omega) ⟨by omega, by omega, by omega⟩ (by first | omega | (rw [List.length_drop] at *; omega))).trans (bodyN_bad (by assumption))), hw'.sub (Sub.nil _)⟩) | (exact ⟨ret_parse (a := 0) (c := 10) ((parseN_hex (by omega) ⟨by omega, by omega, by omega⟩ (by first | omega | (rw [List.length_drop] at *; omega))).trans (bodyN_big (by rw [← hV]; omega))), hw'.sub (Sub.nil _)⟩) | (exact ⟨ret_parse (a := vl zs35) (c := 0) (by rw [hV]; exact (parseN_hex (by omega) ⟨by omega, by omega, by omega⟩ (by first | omega | (rw [List.length_drop] at *; omega))).trans (bodyN_ok (by first | assumption | (apply Decidable.not_not.1; assumption)) (by rw [← hV]; omega))), hw'.sub (Sub.nil _)⟩) | (exact ⟨ret_parse (a := 0) (c := 10) ((parseN_dec (by omega) (fun q => by unfold hexP at q; omega)).trans (bodyN_bad (by assumption))), hw'.sub (Sub.nil _)⟩) | (exact ⟨ret_parse (a := 0) (c := 10) ((parseN_dec (by omega) (fun q => by unfold hexP at q; omega)).trans (bodyN_big (by rw [← hV]; omega))), hw'.sub (Sub.nil _)⟩) | (exact ⟨ret_parse (a := vl zs35) (c := 0) (by rw [hV]; exact (parseN_dec (by omega) (fun q => by unfold hexP at q; omega)).trans (bodyN_ok (by first | assumption | (apply Decidable.not_not.1; assumption)) (by rw [← hV]; omega))), hw'.sub (Sub.nil _)⟩))
  · skip
    refine T.skip ?_
    refine X.then ?_
    refine T.seq ?_
    refine T.text [.l] rfl ?_
    refine J.assign rfl rfl ?_
    refine J.end ?_
    refine X.then ?_
    refine T.seq ?_
    refine T.text [.l, .l] rfl ?_
    refine J.move rfl rfl ?_
    refine J.assign rfl rfl ?_
    refine J.end ?_
    refine X.then ?_
    refine T.seq ?_
    refine T.seq ?_
    refine T.text [.l, .l, .l, .l, .l, .l, .l, .l, .l, .l, .l, .l, .l] rfl ?_
    refine J.move rfl rfl ?_
    refine J.lenStr Tryd.underlying9 rfl rfl ?_
    refine J.as 14 (.int .i64 ((ss.length : Nat) : Int)) rfl (by rw [bstr_size]) ?_
    refine J.geq rfl rfl rfl rfl ?_
    refine J.move rfl rfl ?_
    refine J.split 16 rfl (fun h2 => ?_) (fun h2 => ?_)
    · skip
      refine J.yes rfl rfl ?_
      refine J.move rfl rfl ?_
      refine J.yes rfl rfl ?_
      refine J.indexStr Tryd.underlying9 rfl rfl (by omega) (by first | exact Int.toNat_natCast _ | rfl) (bstr_get ss 0 (by omega)) rfl ?_
      refine J.as 18 (.int .u8 ((ss.getD 0 0 : Nat) : Int)) rfl (by rw [chr_dg hs]) ?_
      refine J.yes rfl rfl ?_
      refine J.eql rfl rfl rfl rfl ?_
      refine J.pick_t rfl rfl rfl ?_
      refine J.move rfl rfl ?_
      refine J.split 21 rfl (fun h3 => ?_) (fun h3 => ?_)
      · skip
        refine J.yes rfl rfl ?_
        refine J.move rfl rfl ?_
        refine J.yes rfl rfl ?_
        refine J.indexStr Tryd.underlying9 rfl rfl (by omega) (by first | exact Int.toNat_natCast _ | rfl) (bstr_get ss 1 (by omega)) rfl ?_
        refine J.as 23 (.int .u8 ((ss.getD 1 0 : Nat) : Int)) rfl (by rw [chr_dg hs]) ?_
        refine J.yes rfl rfl ?_
        refine J.eql rfl rfl rfl rfl ?_
        refine J.pick_t rfl rfl rfl ?_
        refine J.end ?_
        refine X.then ?_
        refine T.cond_dec rfl (fun h4 => ?_) (fun h4 => ?_)
        · skip
          refine T.seq ?_
          refine T.text [.l] rfl ?_
          refine J.assign rfl rfl ?_
          refine J.end ?_
          refine X.then ?_
          refine T.seq ?_
          refine T.text [.l, .l, .l] rfl ?_
          refine J.move rfl rfl ?_
          refine J.sliceStr Tryd.underlying9 rfl (optInt.some rfl (by omega) (by rfl)) optInt.none (by rw [bstr_size]; omega) (by first | omega | (rw [bstr_size]; omega)) rfl ?_
          refine J.as 27 (.string (bstr (ss.drop 2))) rfl (by exact congrArg Value.string (bstr_drop ss 2 (by omega))) ?_
          refine J.assign rfl rfl ?_
          refine J.end ?_
          refine X.then ?_
          refine T.seq ?_
          refine T.text [.l, .l, .l] rfl ?_
          refine J.move rfl rfl ?_
          refine J.lenStr Tryd.underlying9 rfl rfl ?_
          refine J.as 29 (.int .i64 (((ss.drop 2).length : Nat) : Int)) rfl (by rw [bstr_size]) ?_
          refine J.gtr rfl rfl rfl rfl ?_
          refine J.end ?_
          refine X.then ?_
          refine T.cond_dec rfl (fun h5 => ?_) (fun h5 => ?_)
          · skip
            refine T.seq ?_
            refine T.text [.l, .l, .l] rfl ?_
            refine J.build rfl rfl (W 0) (fun w => by kernel_rfl) ?_
            refine J.store 2 rfl rfl rfl rfl (wc 0) rfl sz24 (by first | decide | exact Nat.le_refl _ | exact Nat.le_of_ble_eq_true rfl | (simp [rowN]; done) | (simp [rowN]; omega)) (by first | exact rowN_one _ _ | (simp; done) | (intro u hu; simp at hu; subst hu; rfl) | (intro u hu; simp at hu; rcases hu with rfl | rfl <;> rfl)) (by first | decide | exact Nat.zero_lt_succ _ | simp) trivial (wc 0) rfl ?_
            refine J.assign rfl rfl ?_
            refine J.end ?_
            refine X.then ?_
            refine T.ret ?_
            refine X.then_ret ?_
            exact X.ret2 rfl (RV.agg 2 rfl rfl agg24 (wc 0) (by rfl) (by rfl) rfl) (RV.tmp rfl) (fun w' hw' => by first | (exact ⟨ret_parse (a := 0) (c := 2) (parseN_long (by omega)), hw'.sub (Sub.nil _)⟩) | (exact ⟨ret_parse (a := 0) (c := 10) (parseN_hexlong (by omega) ⟨by omega, by omega, by omega⟩ (by first | omega | (rw [List.length_drop] at *; omega))), hw'.sub (Sub.nil _)⟩) | (exact ⟨ret_parse (a := 0) (c := 10) ((parseN_hex (by omega) ⟨by omega, by omega, by omega⟩ (by first | omega | (rw [List.length_drop] at *; omega))).trans (bodyN_bad (by assumption))), hw'.sub (Sub.nil _)⟩) | (exact ⟨ret_parse (a := 0) (c := 10) ((parseN_hex (by omega) ⟨by omega, by omega, by omega⟩ (by first | omega | (rw [List.length_drop] at *; omega))).trans (bodyN_big (by rw [← hV]; omega))), hw'.sub (Sub.nil _)⟩) | (exact ⟨ret_parse (a := vl zs35) (c := 0) (by rw [hV]; exact (parseN_hex (by omega) ⟨by omega, by omega, by omega⟩ (by first | omega | (rw [List.length_drop] at *; omega))).trans (bodyN_ok (by first | assumption | (apply Decidable.not_not.1; assumption)) (by rw [← hV]; omega))), hw'.sub (Sub.nil _)⟩) | (exact ⟨ret_parse (a := 0) (c := 10) ((parseN_dec (by omega) (fun q => by unfold hexP at q; omega)).trans (bodyN_bad (by assumption))), hw'.sub (Sub.nil _)⟩) | (exact ⟨ret_parse (a := 0) (c := 10) ((parseN_dec (by omega) (fun q => by unfold hexP at q; omega)).trans (bodyN_big (by rw [← hV]; omega))), hw'.sub (Sub.nil _)⟩) | (exact ⟨ret_parse (a := vl zs35) (c := 0) (by rw [hV]; exact (parseN_dec (by omega) (fun q => by unfold hexP at q; omega)).trans (bodyN_ok (by first | assumption | (apply Decidable.not_not.1; assumption)) (by rw [← hV]; omega))), hw'.sub (Sub.nil _)⟩))
          · skip
            refine T.skip ?_
            refine X.then ?_
            refine T.seq ?_
            refine T.text [.l, .l, .l, .l, .l, .l, .l, .l] rfl ?_
            refine J.move rfl rfl ?_
            refine J.move rfl rfl ?_
            refine J.as 4 (.int .i64 ((16 : Nat) : Int)) rfl rfl ?_
            refine J.callRowB 35 rfl (t := 3) (kd := .i64) fok138 rfl rfl (fun w hw => Rt.read w (ss.drop 2) 16 (Dg.drop hs 2) (by first | omega | (rw [List.length_drop]; omega)) (by decide) (by decide)) (fun zs35 ok35 r35 hz35 hr35 => ?_)
            obtain ⟨hD35, hL35, rfl, hV35⟩ := hz35
            refine J.move rfl rfl ?_
            refine J.extract rfl rfl rfl ?_
            refine J.extract rfl rfl rfl ?_
            refine J.assign rfl rfl ?_
            refine J.assign rfl rfl ?_
            refine J.end ?_
            refine X.then ?_
            refine T.seq ?_
            refine T.seq ?_
            refine T.text [.l, .l, .l, .l, .l, .l, .l, .l] rfl ?_
            refine J.move rfl rfl ?_
            refine J.not rfl rfl (by rw [← decide_not]) ?_
            refine J.move rfl rfl ?_
            refine J.split 40 rfl (fun h6 => ?_) (fun h6 => ?_)
            · skip
              refine J.no rfl rfl rfl rfl ?_
              refine J.no rfl rfl rfl rfl ?_
              refine J.no rfl rfl rfl rfl ?_
              refine J.no rfl rfl rfl rfl ?_
              refine J.pick_t rfl rfl rfl ?_
              refine J.end ?_
              refine X.then ?_
              refine T.cond_true rfl ?_
              refine T.seq ?_
              refine T.text [.l, .l, .l] rfl ?_
              refine J.build rfl rfl (W 0) (fun w => by kernel_rfl) ?_
              refine J.store 2 rfl rfl rfl rfl (wc 0) rfl sz24 (by first | decide | exact Nat.le_refl _ | exact Nat.le_of_ble_eq_true rfl | (simp [rowN]; done) | (simp [rowN]; omega)) (by first | exact rowN_one _ _ | (simp; done) | (intro u hu; simp at hu; subst hu; rfl) | (intro u hu; simp at hu; rcases hu with rfl | rfl <;> rfl)) (by first | decide | exact Nat.zero_lt_succ _ | simp) trivial (wc 0) rfl ?_
              refine J.assign rfl rfl ?_
              refine J.end ?_
              refine X.then ?_
              refine T.ret ?_
              refine X.then_ret ?_
              exact X.ret2 rfl (RV.agg 2 rfl rfl agg24 (wc 0) (by rfl) (by rfl) rfl) (RV.tmp rfl) (fun w' hw' => by first | (exact ⟨ret_parse (a := 0) (c := 2) (parseN_long (by omega)), hw'.sub (Sub.nil _)⟩) | (exact ⟨ret_parse (a := 0) (c := 10) (parseN_hexlong (by omega) ⟨by omega, by omega, by omega⟩ (by first | omega | (rw [List.length_drop] at *; omega))), hw'.sub (Sub.nil _)⟩) | (exact ⟨ret_parse (a := 0) (c := 10) ((parseN_hex (by omega) ⟨by omega, by omega, by omega⟩ (by first | omega | (rw [List.length_drop] at *; omega))).trans (bodyN_bad (by assumption))), hw'.sub (Sub.nil _)⟩) | (exact ⟨ret_parse (a := 0) (c := 10) ((parseN_hex (by omega) ⟨by omega, by omega, by omega⟩ (by first | omega | (rw [List.length_drop] at *; omega))).trans (bodyN_big (by rw [← hV]; omega))), hw'.sub (Sub.nil _)⟩) | (exact ⟨ret_parse (a := vl zs35) (c := 0) (by rw [hV]; exact (parseN_hex (by omega) ⟨by omega, by omega, by omega⟩ (by first | omega | (rw [List.length_drop] at *; omega))).trans (bodyN_ok (by first | assumption | (apply Decidable.not_not.1; assumption)) (by rw [← hV]; omega))), hw'.sub (Sub.nil _)⟩) | (exact ⟨ret_parse (a := 0) (c := 10) ((parseN_dec (by omega) (fun q => by unfold hexP at q; omega)).trans (bodyN_bad (by assumption))), hw'.sub (Sub.nil _)⟩) | (exact ⟨ret_parse (a := 0) (c := 10) ((parseN_dec (by omega) (fun q => by unfold hexP at q; omega)).trans (bodyN_big (by rw [← hV]; omega))), hw'.sub (Sub.nil _)⟩) | (exact ⟨ret_parse (a := vl zs35) (c := 0) (by rw [hV]; exact (parseN_dec (by omega) (fun q => by unfold hexP at q; omega)).trans (bodyN_ok (by first | assumption | (apply Decidable.not_not.1; assumption)) (by rw [← hV]; omega))), hw'.sub (Sub.nil _)⟩))
            · have hV := hV35 (by simp only [decide_eq_true_eq]; first | assumption | (apply Decidable.not_not.1; assumption))
              refine J.yes rfl rfl ?_
              refine J.move rfl rfl ?_
              refine J.yes rfl rfl ?_
              refine J.callRow 42 rfl (t := 3) (kd := .i64) fok113 rfl rfl (fun w hw => Ra.full w) (fun zs42 r42 hz42 hr42 => ?_)
              obtain ⟨hD42, hL42, hV42⟩ := full_facts hz42
              refine J.yes rfl rfl ?_
              refine J.call0 (k := .l) trivial fok136 rfl rfl (fun w hw => Ra.compare w _ _ _ (hw.rowCs (k := 35) rfl) _ _ _ (hw.rowCs (k := 42) rfl) (by assumption) (by omega) (by assumption) (by omega)) ?_
              refine J.yes rfl rfl ?_
              refine J.geq rfl rfl rfl rfl ?_
              refine J.pick_f rfl rfl rfl ?_
              refine J.end ?_
              refine X.then ?_
              refine T.cond_dec rfl (fun h7 => ?_) (fun h7 => ?_)
              · have hbig : vl zs42 ≤ vl zs35 := cmpN_ge (by assumption)
                refine T.seq ?_
                refine T.text [.l, .l, .l] rfl ?_
                refine J.build rfl rfl (W 0) (fun w => by kernel_rfl) ?_
                refine J.store 2 rfl rfl rfl rfl (wc 0) rfl sz24 (by first | decide | exact Nat.le_refl _ | exact Nat.le_of_ble_eq_true rfl | (simp [rowN]; done) | (simp [rowN]; omega)) (by first | exact rowN_one _ _ | (simp; done) | (intro u hu; simp at hu; subst hu; rfl) | (intro u hu; simp at hu; rcases hu with rfl | rfl <;> rfl)) (by first | decide | exact Nat.zero_lt_succ _ | simp) trivial (wc 0) rfl ?_
                refine J.assign rfl rfl ?_
                refine J.end ?_
                refine X.then ?_
                refine T.ret ?_
                refine X.then_ret ?_
                exact X.ret2 rfl (RV.agg 2 rfl rfl agg24 (wc 0) (by rfl) (by rfl) rfl) (RV.tmp rfl) (fun w' hw' => by first | (exact ⟨ret_parse (a := 0) (c := 2) (parseN_long (by omega)), hw'.sub (Sub.nil _)⟩) | (exact ⟨ret_parse (a := 0) (c := 10) (parseN_hexlong (by omega) ⟨by omega, by omega, by omega⟩ (by first | omega | (rw [List.length_drop] at *; omega))), hw'.sub (Sub.nil _)⟩) | (exact ⟨ret_parse (a := 0) (c := 10) ((parseN_hex (by omega) ⟨by omega, by omega, by omega⟩ (by first | omega | (rw [List.length_drop] at *; omega))).trans (bodyN_bad (by assumption))), hw'.sub (Sub.nil _)⟩) | (exact ⟨ret_parse (a := 0) (c := 10) ((parseN_hex (by omega) ⟨by omega, by omega, by omega⟩ (by first | omega | (rw [List.length_drop] at *; omega))).trans (bodyN_big (by rw [← hV]; omega))), hw'.sub (Sub.nil _)⟩) | (exact ⟨ret_parse (a := vl zs35) (c := 0) (by rw [hV]; exact (parseN_hex (by omega) ⟨by omega, by omega, by omega⟩ (by first | omega | (rw [List.length_drop] at *; omega))).trans (bodyN_ok (by first | assumption | (apply Decidable.not_not.1; assumption)) (by rw [← hV]; omega))), hw'.sub (Sub.nil _)⟩) | (exact ⟨ret_parse (a := 0) (c := 10) ((parseN_dec (by omega) (fun q => by unfold hexP at q; omega)).trans (bodyN_bad (by assumption))), hw'.sub (Sub.nil _)⟩) | (exact ⟨ret_parse (a := 0) (c := 10) ((parseN_dec (by omega) (fun q => by unfold hexP at q; omega)).trans (bodyN_big (by rw [← hV]; omega))), hw'.sub (Sub.nil _)⟩) | (exact ⟨ret_parse (a := vl zs35) (c := 0) (by rw [hV]; exact (parseN_dec (by omega) (fun q => by unfold hexP at q; omega)).trans (bodyN_ok (by first | assumption | (apply Decidable.not_not.1; assumption)) (by rw [← hV]; omega))), hw'.sub (Sub.nil _)⟩))
              · have hbig : vl zs35 < vl zs42 := cmpN_nge (by assumption)
                refine T.skip ?_
                refine X.then ?_
                refine T.seq ?_
                refine T.text [.l, .l, .l, .l] rfl ?_
                refine J.move rfl rfl ?_
                refine J.call0 (k := .l) trivial fok108 rfl rfl (fun w hw => Ra.word w _ _ _ (hw.rowCs (k := 35) rfl) (by assumption) (by omega)) ?_
                refine J.store 2 rfl rfl rfl rfl (wc (vl zs35)) rfl sz24 (by first | decide | exact Nat.le_refl _ | exact Nat.le_of_ble_eq_true rfl | (simp [rowN]; done) | (simp [rowN]; omega)) (by first | exact rowN_one _ _ | (simp; done) | (intro u hu; simp at hu; subst hu; rfl) | (intro u hu; simp at hu; rcases hu with rfl | rfl <;> rfl)) (by first | decide | exact Nat.zero_lt_succ _ | simp) trivial (wc (vl zs35)) rfl ?_
                refine J.assign rfl rfl ?_
                refine J.end ?_
                refine X.then ?_
                refine T.ret ?_
                exact X.ret2 rfl (RV.agg 2 rfl rfl agg24 (wc (vl zs35)) (by rfl) (by rfl) rfl) (RV.tmp rfl) (fun w' hw' => by first | (exact ⟨ret_parse (a := 0) (c := 2) (parseN_long (by omega)), hw'.sub (Sub.nil _)⟩) | (exact ⟨ret_parse (a := 0) (c := 10) (parseN_hexlong (by omega) ⟨by omega, by omega, by omega⟩ (by first | omega | (rw [List.length_drop] at *; omega))), hw'.sub (Sub.nil _)⟩) | (exact ⟨ret_parse (a := 0) (c := 10) ((parseN_hex (by omega) ⟨by omega, by omega, by omega⟩ (by first | omega | (rw [List.length_drop] at *; omega))).trans (bodyN_bad (by assumption))), hw'.sub (Sub.nil _)⟩) | (exact ⟨ret_parse (a := 0) (c := 10) ((parseN_hex (by omega) ⟨by omega, by omega, by omega⟩ (by first | omega | (rw [List.length_drop] at *; omega))).trans (bodyN_big (by rw [← hV]; omega))), hw'.sub (Sub.nil _)⟩) | (exact ⟨ret_parse (a := vl zs35) (c := 0) (by rw [hV]; exact (parseN_hex (by omega) ⟨by omega, by omega, by omega⟩ (by first | omega | (rw [List.length_drop] at *; omega))).trans (bodyN_ok (by first | assumption | (apply Decidable.not_not.1; assumption)) (by rw [← hV]; omega))), hw'.sub (Sub.nil _)⟩) | (exact ⟨ret_parse (a := 0) (c := 10) ((parseN_dec (by omega) (fun q => by unfold hexP at q; omega)).trans (bodyN_bad (by assumption))), hw'.sub (Sub.nil _)⟩) | (exact ⟨ret_parse (a := 0) (c := 10) ((parseN_dec (by omega) (fun q => by unfold hexP at q; omega)).trans (bodyN_big (by rw [← hV]; omega))), hw'.sub (Sub.nil _)⟩) | (exact ⟨ret_parse (a := vl zs35) (c := 0) (by rw [hV]; exact (parseN_dec (by omega) (fun q => by unfold hexP at q; omega)).trans (bodyN_ok (by first | assumption | (apply Decidable.not_not.1; assumption)) (by rw [← hV]; omega))), hw'.sub (Sub.nil _)⟩))
        · skip
          refine T.skip ?_
          refine X.then ?_
          refine T.seq ?_
          refine T.text [.l, .l, .l, .l, .l, .l, .l, .l] rfl ?_
          refine J.move rfl rfl ?_
          refine J.move rfl rfl ?_
          refine J.as 4 (.int .i64 ((10 : Nat) : Int)) rfl rfl ?_
          refine J.callRowB 35 rfl (t := 3) (kd := .i64) fok138 rfl rfl (fun w hw => Rt.read w ss 10 hs (by first | omega | (rw [List.length_drop]; omega)) (by decide) (by decide)) (fun zs35 ok35 r35 hz35 hr35 => ?_)
          obtain ⟨hD35, hL35, rfl, hV35⟩ := hz35
          refine J.move rfl rfl ?_
          refine J.extract rfl rfl rfl ?_
          refine J.extract rfl rfl rfl ?_
          refine J.assign rfl rfl ?_
          refine J.assign rfl rfl ?_
          refine J.end ?_
          refine X.then ?_
          refine T.seq ?_
          refine T.seq ?_
          refine T.text [.l, .l, .l, .l, .l, .l, .l, .l] rfl ?_
          refine J.move rfl rfl ?_
          refine J.not rfl rfl (by rw [← decide_not]) ?_
          refine J.move rfl rfl ?_
          refine J.split 40 rfl (fun h8 => ?_) (fun h8 => ?_)
          · skip
            refine J.no rfl rfl rfl rfl ?_
            refine J.no rfl rfl rfl rfl ?_
            refine J.no rfl rfl rfl rfl ?_
            refine J.no rfl rfl rfl rfl ?_
            refine J.pick_t rfl rfl rfl ?_
            refine J.end ?_
            refine X.then ?_
            refine T.cond_true rfl ?_
            refine T.seq ?_
            refine T.text [.l, .l, .l] rfl ?_
            refine J.build rfl rfl (W 0) (fun w => by kernel_rfl) ?_
            refine J.store 2 rfl rfl rfl rfl (wc 0) rfl sz24 (by first | decide | exact Nat.le_refl _ | exact Nat.le_of_ble_eq_true rfl | (simp [rowN]; done) | (simp [rowN]; omega)) (by first | exact rowN_one _ _ | (simp; done) | (intro u hu; simp at hu; subst hu; rfl) | (intro u hu; simp at hu; rcases hu with rfl | rfl <;> rfl)) (by first | decide | exact Nat.zero_lt_succ _ | simp) trivial (wc 0) rfl ?_
            refine J.assign rfl rfl ?_
            refine J.end ?_
            refine X.then ?_
            refine T.ret ?_
            refine X.then_ret ?_
            exact X.ret2 rfl (RV.agg 2 rfl rfl agg24 (wc 0) (by rfl) (by rfl) rfl) (RV.tmp rfl) (fun w' hw' => by first | (exact ⟨ret_parse (a := 0) (c := 2) (parseN_long (by omega)), hw'.sub (Sub.nil _)⟩) | (exact ⟨ret_parse (a := 0) (c := 10) (parseN_hexlong (by omega) ⟨by omega, by omega, by omega⟩ (by first | omega | (rw [List.length_drop] at *; omega))), hw'.sub (Sub.nil _)⟩) | (exact ⟨ret_parse (a := 0) (c := 10) ((parseN_hex (by omega) ⟨by omega, by omega, by omega⟩ (by first | omega | (rw [List.length_drop] at *; omega))).trans (bodyN_bad (by assumption))), hw'.sub (Sub.nil _)⟩) | (exact ⟨ret_parse (a := 0) (c := 10) ((parseN_hex (by omega) ⟨by omega, by omega, by omega⟩ (by first | omega | (rw [List.length_drop] at *; omega))).trans (bodyN_big (by rw [← hV]; omega))), hw'.sub (Sub.nil _)⟩) | (exact ⟨ret_parse (a := vl zs35) (c := 0) (by rw [hV]; exact (parseN_hex (by omega) ⟨by omega, by omega, by omega⟩ (by first | omega | (rw [List.length_drop] at *; omega))).trans (bodyN_ok (by first | assumption | (apply Decidable.not_not.1; assumption)) (by rw [← hV]; omega))), hw'.sub (Sub.nil _)⟩) | (exact ⟨ret_parse (a := 0) (c := 10) ((parseN_dec (by omega) (fun q => by unfold hexP at q; omega)).trans (bodyN_bad (by assumption))), hw'.sub (Sub.nil _)⟩) | (exact ⟨ret_parse (a := 0) (c := 10) ((parseN_dec (by omega) (fun q => by unfold hexP at q; omega)).trans (bodyN_big (by rw [← hV]; omega))), hw'.sub (Sub.nil _)⟩) | (exact ⟨ret_parse (a := vl zs35) (c := 0) (by rw [hV]; exact (parseN_dec (by omega) (fun q => by unfold hexP at q; omega)).trans (bodyN_ok (by first | assumption | (apply Decidable.not_not.1; assumption)) (by rw [← hV]; omega))), hw'.sub (Sub.nil _)⟩))
          · have hV := hV35 (by simp only [decide_eq_true_eq]; first | assumption | (apply Decidable.not_not.1; assumption))
            refine J.yes rfl rfl ?_
            refine J.move rfl rfl ?_
            refine J.yes rfl rfl ?_
            refine J.callRow 42 rfl (t := 3) (kd := .i64) fok113 rfl rfl (fun w hw => Ra.full w) (fun zs42 r42 hz42 hr42 => ?_)
            obtain ⟨hD42, hL42, hV42⟩ := full_facts hz42
            refine J.yes rfl rfl ?_
            refine J.call0 (k := .l) trivial fok136 rfl rfl (fun w hw => Ra.compare w _ _ _ (hw.rowCs (k := 35) rfl) _ _ _ (hw.rowCs (k := 42) rfl) (by assumption) (by omega) (by assumption) (by omega)) ?_
            refine J.yes rfl rfl ?_
            refine J.geq rfl rfl rfl rfl ?_
            refine J.pick_f rfl rfl rfl ?_
            refine J.end ?_
            refine X.then ?_
            refine T.cond_dec rfl (fun h9 => ?_) (fun h9 => ?_)
            · have hbig : vl zs42 ≤ vl zs35 := cmpN_ge (by assumption)
              refine T.seq ?_
              refine T.text [.l, .l, .l] rfl ?_
              refine J.build rfl rfl (W 0) (fun w => by kernel_rfl) ?_
              refine J.store 2 rfl rfl rfl rfl (wc 0) rfl sz24 (by first | decide | exact Nat.le_refl _ | exact Nat.le_of_ble_eq_true rfl | (simp [rowN]; done) | (simp [rowN]; omega)) (by first | exact rowN_one _ _ | (simp; done) | (intro u hu; simp at hu; subst hu; rfl) | (intro u hu; simp at hu; rcases hu with rfl | rfl <;> rfl)) (by first | decide | exact Nat.zero_lt_succ _ | simp) trivial (wc 0) rfl ?_
              refine J.assign rfl rfl ?_
              refine J.end ?_
              refine X.then ?_
              refine T.ret ?_
              refine X.then_ret ?_
              exact X.ret2 rfl (RV.agg 2 rfl rfl agg24 (wc 0) (by rfl) (by rfl) rfl) (RV.tmp rfl) (fun w' hw' => by first | (exact ⟨ret_parse (a := 0) (c := 2) (parseN_long (by omega)), hw'.sub (Sub.nil _)⟩) | (exact ⟨ret_parse (a := 0) (c := 10) (parseN_hexlong (by omega) ⟨by omega, by omega, by omega⟩ (by first | omega | (rw [List.length_drop] at *; omega))), hw'.sub (Sub.nil _)⟩) | (exact ⟨ret_parse (a := 0) (c := 10) ((parseN_hex (by omega) ⟨by omega, by omega, by omega⟩ (by first | omega | (rw [List.length_drop] at *; omega))).trans (bodyN_bad (by assumption))), hw'.sub (Sub.nil _)⟩) | (exact ⟨ret_parse (a := 0) (c := 10) ((parseN_hex (by omega) ⟨by omega, by omega, by omega⟩ (by first | omega | (rw [List.length_drop] at *; omega))).trans (bodyN_big (by rw [← hV]; omega))), hw'.sub (Sub.nil _)⟩) | (exact ⟨ret_parse (a := vl zs35) (c := 0) (by rw [hV]; exact (parseN_hex (by omega) ⟨by omega, by omega, by omega⟩ (by first | omega | (rw [List.length_drop] at *; omega))).trans (bodyN_ok (by first | assumption | (apply Decidable.not_not.1; assumption)) (by rw [← hV]; omega))), hw'.sub (Sub.nil _)⟩) | (exact ⟨ret_parse (a := 0) (c := 10) ((parseN_dec (by omega) (fun q => by unfold hexP at q; omega)).trans (bodyN_bad (by assumption))), hw'.sub (Sub.nil _)⟩) | (exact ⟨ret_parse (a := 0) (c := 10) ((parseN_dec (by omega) (fun q => by unfold hexP at q; omega)).trans (bodyN_big (by rw [← hV]; omega))), hw'.sub (Sub.nil _)⟩) | (exact ⟨ret_parse (a := vl zs35) (c := 0) (by rw [hV]; exact (parseN_dec (by omega) (fun q => by unfold hexP at q; omega)).trans (bodyN_ok (by first | assumption | (apply Decidable.not_not.1; assumption)) (by rw [← hV]; omega))), hw'.sub (Sub.nil _)⟩))
            · have hbig : vl zs35 < vl zs42 := cmpN_nge (by assumption)
              refine T.skip ?_
              refine X.then ?_
              refine T.seq ?_
              refine T.text [.l, .l, .l, .l] rfl ?_
              refine J.move rfl rfl ?_
              refine J.call0 (k := .l) trivial fok108 rfl rfl (fun w hw => Ra.word w _ _ _ (hw.rowCs (k := 35) rfl) (by assumption) (by omega)) ?_
              refine J.store 2 rfl rfl rfl rfl (wc (vl zs35)) rfl sz24 (by first | decide | exact Nat.le_refl _ | exact Nat.le_of_ble_eq_true rfl | (simp [rowN]; done) | (simp [rowN]; omega)) (by first | exact rowN_one _ _ | (simp; done) | (intro u hu; simp at hu; subst hu; rfl) | (intro u hu; simp at hu; rcases hu with rfl | rfl <;> rfl)) (by first | decide | exact Nat.zero_lt_succ _ | simp) trivial (wc (vl zs35)) rfl ?_
              refine J.assign rfl rfl ?_
              refine J.end ?_
              refine X.then ?_
              refine T.ret ?_
              exact X.ret2 rfl (RV.agg 2 rfl rfl agg24 (wc (vl zs35)) (by rfl) (by rfl) rfl) (RV.tmp rfl) (fun w' hw' => by first | (exact ⟨ret_parse (a := 0) (c := 2) (parseN_long (by omega)), hw'.sub (Sub.nil _)⟩) | (exact ⟨ret_parse (a := 0) (c := 10) (parseN_hexlong (by omega) ⟨by omega, by omega, by omega⟩ (by first | omega | (rw [List.length_drop] at *; omega))), hw'.sub (Sub.nil _)⟩) | (exact ⟨ret_parse (a := 0) (c := 10) ((parseN_hex (by omega) ⟨by omega, by omega, by omega⟩ (by first | omega | (rw [List.length_drop] at *; omega))).trans (bodyN_bad (by assumption))), hw'.sub (Sub.nil _)⟩) | (exact ⟨ret_parse (a := 0) (c := 10) ((parseN_hex (by omega) ⟨by omega, by omega, by omega⟩ (by first | omega | (rw [List.length_drop] at *; omega))).trans (bodyN_big (by rw [← hV]; omega))), hw'.sub (Sub.nil _)⟩) | (exact ⟨ret_parse (a := vl zs35) (c := 0) (by rw [hV]; exact (parseN_hex (by omega) ⟨by omega, by omega, by omega⟩ (by first | omega | (rw [List.length_drop] at *; omega))).trans (bodyN_ok (by first | assumption | (apply Decidable.not_not.1; assumption)) (by rw [← hV]; omega))), hw'.sub (Sub.nil _)⟩) | (exact ⟨ret_parse (a := 0) (c := 10) ((parseN_dec (by omega) (fun q => by unfold hexP at q; omega)).trans (bodyN_bad (by assumption))), hw'.sub (Sub.nil _)⟩) | (exact ⟨ret_parse (a := 0) (c := 10) ((parseN_dec (by omega) (fun q => by unfold hexP at q; omega)).trans (bodyN_big (by rw [← hV]; omega))), hw'.sub (Sub.nil _)⟩) | (exact ⟨ret_parse (a := vl zs35) (c := 0) (by rw [hV]; exact (parseN_dec (by omega) (fun q => by unfold hexP at q; omega)).trans (bodyN_ok (by first | assumption | (apply Decidable.not_not.1; assumption)) (by rw [← hV]; omega))), hw'.sub (Sub.nil _)⟩))
      · skip
        refine J.no rfl rfl rfl rfl ?_
        refine J.no rfl rfl rfl rfl ?_
        refine J.no rfl rfl rfl rfl ?_
        refine J.pick_f rfl rfl rfl ?_
        refine J.end ?_
        refine X.then ?_
        refine T.cond_false rfl ?_
        refine T.skip ?_
        refine X.then ?_
        refine T.seq ?_
        refine T.text [.l, .l, .l, .l, .l, .l, .l, .l] rfl ?_
        refine J.move rfl rfl ?_
        refine J.move rfl rfl ?_
        refine J.as 4 (.int .i64 ((10 : Nat) : Int)) rfl rfl ?_
        refine J.callRowB 35 rfl (t := 3) (kd := .i64) fok138 rfl rfl (fun w hw => Rt.read w ss 10 hs (by first | omega | (rw [List.length_drop]; omega)) (by decide) (by decide)) (fun zs35 ok35 r35 hz35 hr35 => ?_)
        obtain ⟨hD35, hL35, rfl, hV35⟩ := hz35
        refine J.move rfl rfl ?_
        refine J.extract rfl rfl rfl ?_
        refine J.extract rfl rfl rfl ?_
        refine J.assign rfl rfl ?_
        refine J.assign rfl rfl ?_
        refine J.end ?_
        refine X.then ?_
        refine T.seq ?_
        refine T.seq ?_
        refine T.text [.l, .l, .l, .l, .l, .l, .l, .l] rfl ?_
        refine J.move rfl rfl ?_
        refine J.not rfl rfl (by rw [← decide_not]) ?_
        refine J.move rfl rfl ?_
        refine J.split 40 rfl (fun h10 => ?_) (fun h10 => ?_)
        · skip
          refine J.no rfl rfl rfl rfl ?_
          refine J.no rfl rfl rfl rfl ?_
          refine J.no rfl rfl rfl rfl ?_
          refine J.no rfl rfl rfl rfl ?_
          refine J.pick_t rfl rfl rfl ?_
          refine J.end ?_
          refine X.then ?_
          refine T.cond_true rfl ?_
          refine T.seq ?_
          refine T.text [.l, .l, .l] rfl ?_
          refine J.build rfl rfl (W 0) (fun w => by kernel_rfl) ?_
          refine J.store 2 rfl rfl rfl rfl (wc 0) rfl sz24 (by first | decide | exact Nat.le_refl _ | exact Nat.le_of_ble_eq_true rfl | (simp [rowN]; done) | (simp [rowN]; omega)) (by first | exact rowN_one _ _ | (simp; done) | (intro u hu; simp at hu; subst hu; rfl) | (intro u hu; simp at hu; rcases hu with rfl | rfl <;> rfl)) (by first | decide | exact Nat.zero_lt_succ _ | simp) trivial (wc 0) rfl ?_
          refine J.assign rfl rfl ?_
          refine J.end ?_
          refine X.then ?_
          refine T.ret ?_
          refine X.then_ret ?_
          exact X.ret2 rfl (RV.agg 2 rfl rfl agg24 (wc 0) (by rfl) (by rfl) rfl) (RV.tmp rfl) (fun w' hw' => by first | (exact ⟨ret_parse (a := 0) (c := 2) (parseN_long (by omega)), hw'.sub (Sub.nil _)⟩) | (exact ⟨ret_parse (a := 0) (c := 10) (parseN_hexlong (by omega) ⟨by omega, by omega, by omega⟩ (by first | omega | (rw [List.length_drop] at *; omega))), hw'.sub (Sub.nil _)⟩) | (exact ⟨ret_parse (a := 0) (c := 10) ((parseN_hex (by omega) ⟨by omega, by omega, by omega⟩ (by first | omega | (rw [List.length_drop] at *; omega))).trans (bodyN_bad (by assumption))), hw'.sub (Sub.nil _)⟩) | (exact ⟨ret_parse (a := 0) (c := 10) ((parseN_hex (by omega) ⟨by omega, by omega, by omega⟩ (by first | omega | (rw [List.length_drop] at *; omega))).trans (bodyN_big (by rw [← hV]; omega))), hw'.sub (Sub.nil _)⟩) | (exact ⟨ret_parse (a := vl zs35) (c := 0) (by rw [hV]; exact (parseN_hex (by omega) ⟨by omega, by omega, by omega⟩ (by first | omega | (rw [List.length_drop] at *; omega))).trans (bodyN_ok (by first | assumption | (apply Decidable.not_not.1; assumption)) (by rw [← hV]; omega))), hw'.sub (Sub.nil _)⟩) | (exact ⟨ret_parse (a := 0) (c := 10) ((parseN_dec (by omega) (fun q => by unfold hexP at q; omega)).trans (bodyN_bad (by assumption))), hw'.sub (Sub.nil _)⟩) | (exact ⟨ret_parse (a := 0) (c := 10) ((parseN_dec (by omega) (fun q => by unfold hexP at q; omega)).trans (bodyN_big (by rw [← hV]; omega))), hw'.sub (Sub.nil _)⟩) | (exact ⟨ret_parse (a := vl zs35) (c := 0) (by rw [hV]; exact (parseN_dec (by omega) (fun q => by unfold hexP at q; omega)).trans (bodyN_ok (by first | assumption | (apply Decidable.not_not.1; assumption)) (by rw [← hV]; omega))), hw'.sub (Sub.nil _)⟩))
        · have hV := hV35 (by simp only [decide_eq_true_eq]; first | assumption | (apply Decidable.not_not.1; assumption))
          refine J.yes rfl rfl ?_
          refine J.move rfl rfl ?_
          refine J.yes rfl rfl ?_
          refine J.callRow 42 rfl (t := 3) (kd := .i64) fok113 rfl rfl (fun w hw => Ra.full w) (fun zs42 r42 hz42 hr42 => ?_)
          obtain ⟨hD42, hL42, hV42⟩ := full_facts hz42
          refine J.yes rfl rfl ?_
          refine J.call0 (k := .l) trivial fok136 rfl rfl (fun w hw => Ra.compare w _ _ _ (hw.rowCs (k := 35) rfl) _ _ _ (hw.rowCs (k := 42) rfl) (by assumption) (by omega) (by assumption) (by omega)) ?_
          refine J.yes rfl rfl ?_
          refine J.geq rfl rfl rfl rfl ?_
          refine J.pick_f rfl rfl rfl ?_
          refine J.end ?_
          refine X.then ?_
          refine T.cond_dec rfl (fun h11 => ?_) (fun h11 => ?_)
          · have hbig : vl zs42 ≤ vl zs35 := cmpN_ge (by assumption)
            refine T.seq ?_
            refine T.text [.l, .l, .l] rfl ?_
            refine J.build rfl rfl (W 0) (fun w => by kernel_rfl) ?_
            refine J.store 2 rfl rfl rfl rfl (wc 0) rfl sz24 (by first | decide | exact Nat.le_refl _ | exact Nat.le_of_ble_eq_true rfl | (simp [rowN]; done) | (simp [rowN]; omega)) (by first | exact rowN_one _ _ | (simp; done) | (intro u hu; simp at hu; subst hu; rfl) | (intro u hu; simp at hu; rcases hu with rfl | rfl <;> rfl)) (by first | decide | exact Nat.zero_lt_succ _ | simp) trivial (wc 0) rfl ?_
            refine J.assign rfl rfl ?_
            refine J.end ?_
            refine X.then ?_
            refine T.ret ?_
            refine X.then_ret ?_
            exact X.ret2 rfl (RV.agg 2 rfl rfl agg24 (wc 0) (by rfl) (by rfl) rfl) (RV.tmp rfl) (fun w' hw' => by first | (exact ⟨ret_parse (a := 0) (c := 2) (parseN_long (by omega)), hw'.sub (Sub.nil _)⟩) | (exact ⟨ret_parse (a := 0) (c := 10) (parseN_hexlong (by omega) ⟨by omega, by omega, by omega⟩ (by first | omega | (rw [List.length_drop] at *; omega))), hw'.sub (Sub.nil _)⟩) | (exact ⟨ret_parse (a := 0) (c := 10) ((parseN_hex (by omega) ⟨by omega, by omega, by omega⟩ (by first | omega | (rw [List.length_drop] at *; omega))).trans (bodyN_bad (by assumption))), hw'.sub (Sub.nil _)⟩) | (exact ⟨ret_parse (a := 0) (c := 10) ((parseN_hex (by omega) ⟨by omega, by omega, by omega⟩ (by first | omega | (rw [List.length_drop] at *; omega))).trans (bodyN_big (by rw [← hV]; omega))), hw'.sub (Sub.nil _)⟩) | (exact ⟨ret_parse (a := vl zs35) (c := 0) (by rw [hV]; exact (parseN_hex (by omega) ⟨by omega, by omega, by omega⟩ (by first | omega | (rw [List.length_drop] at *; omega))).trans (bodyN_ok (by first | assumption | (apply Decidable.not_not.1; assumption)) (by rw [← hV]; omega))), hw'.sub (Sub.nil _)⟩) | (exact ⟨ret_parse (a := 0) (c := 10) ((parseN_dec (by omega) (fun q => by unfold hexP at q; omega)).trans (bodyN_bad (by assumption))), hw'.sub (Sub.nil _)⟩) | (exact ⟨ret_parse (a := 0) (c := 10) ((parseN_dec (by omega) (fun q => by unfold hexP at q; omega)).trans (bodyN_big (by rw [← hV]; omega))), hw'.sub (Sub.nil _)⟩) | (exact ⟨ret_parse (a := vl zs35) (c := 0) (by rw [hV]; exact (parseN_dec (by omega) (fun q => by unfold hexP at q; omega)).trans (bodyN_ok (by first | assumption | (apply Decidable.not_not.1; assumption)) (by rw [← hV]; omega))), hw'.sub (Sub.nil _)⟩))
          · have hbig : vl zs35 < vl zs42 := cmpN_nge (by assumption)
            refine T.skip ?_
            refine X.then ?_
            refine T.seq ?_
            refine T.text [.l, .l, .l, .l] rfl ?_
            refine J.move rfl rfl ?_
            refine J.call0 (k := .l) trivial fok108 rfl rfl (fun w hw => Ra.word w _ _ _ (hw.rowCs (k := 35) rfl) (by assumption) (by omega)) ?_
            refine J.store 2 rfl rfl rfl rfl (wc (vl zs35)) rfl sz24 (by first | decide | exact Nat.le_refl _ | exact Nat.le_of_ble_eq_true rfl | (simp [rowN]; done) | (simp [rowN]; omega)) (by first | exact rowN_one _ _ | (simp; done) | (intro u hu; simp at hu; subst hu; rfl) | (intro u hu; simp at hu; rcases hu with rfl | rfl <;> rfl)) (by first | decide | exact Nat.zero_lt_succ _ | simp) trivial (wc (vl zs35)) rfl ?_
            refine J.assign rfl rfl ?_
            refine J.end ?_
            refine X.then ?_
            refine T.ret ?_
            exact X.ret2 rfl (RV.agg 2 rfl rfl agg24 (wc (vl zs35)) (by rfl) (by rfl) rfl) (RV.tmp rfl) (fun w' hw' => by first | (exact ⟨ret_parse (a := 0) (c := 2) (parseN_long (by omega)), hw'.sub (Sub.nil _)⟩) | (exact ⟨ret_parse (a := 0) (c := 10) (parseN_hexlong (by omega) ⟨by omega, by omega, by omega⟩ (by first | omega | (rw [List.length_drop] at *; omega))), hw'.sub (Sub.nil _)⟩) | (exact ⟨ret_parse (a := 0) (c := 10) ((parseN_hex (by omega) ⟨by omega, by omega, by omega⟩ (by first | omega | (rw [List.length_drop] at *; omega))).trans (bodyN_bad (by assumption))), hw'.sub (Sub.nil _)⟩) | (exact ⟨ret_parse (a := 0) (c := 10) ((parseN_hex (by omega) ⟨by omega, by omega, by omega⟩ (by first | omega | (rw [List.length_drop] at *; omega))).trans (bodyN_big (by rw [← hV]; omega))), hw'.sub (Sub.nil _)⟩) | (exact ⟨ret_parse (a := vl zs35) (c := 0) (by rw [hV]; exact (parseN_hex (by omega) ⟨by omega, by omega, by omega⟩ (by first | omega | (rw [List.length_drop] at *; omega))).trans (bodyN_ok (by first | assumption | (apply Decidable.not_not.1; assumption)) (by rw [← hV]; omega))), hw'.sub (Sub.nil _)⟩) | (exact ⟨ret_parse (a := 0) (c := 10) ((parseN_dec (by omega) (fun q => by unfold hexP at q; omega)).trans (bodyN_bad (by assumption))), hw'.sub (Sub.nil _)⟩) | (exact ⟨ret_parse (a := 0) (c := 10) ((parseN_dec (by omega) (fun q => by unfold hexP at q; omega)).trans (bodyN_big (by rw [← hV]; omega))), hw'.sub (Sub.nil _)⟩) | (exact ⟨ret_parse (a := vl zs35) (c := 0) (by rw [hV]; exact (parseN_dec (by omega) (fun q => by unfold hexP at q; omega)).trans (bodyN_ok (by first | assumption | (apply Decidable.not_not.1; assumption)) (by rw [← hV]; omega))), hw'.sub (Sub.nil _)⟩))
    · skip
      refine J.no rfl rfl rfl rfl ?_
      refine J.no rfl rfl rfl rfl ?_
      refine J.no rfl rfl rfl rfl ?_
      refine J.pick_f rfl rfl rfl ?_
      refine J.move rfl rfl ?_
      refine J.no rfl rfl rfl rfl ?_
      refine J.no rfl rfl rfl rfl ?_
      refine J.no rfl rfl rfl rfl ?_
      refine J.pick_f rfl rfl rfl ?_
      refine J.end ?_
      refine X.then ?_
      refine T.cond_false rfl ?_
      refine T.skip ?_
      refine X.then ?_
      refine T.seq ?_
      refine T.text [.l, .l, .l, .l, .l, .l, .l, .l] rfl ?_
      refine J.move rfl rfl ?_
      refine J.move rfl rfl ?_
      refine J.as 4 (.int .i64 ((10 : Nat) : Int)) rfl rfl ?_
      refine J.callRowB 35 rfl (t := 3) (kd := .i64) fok138 rfl rfl (fun w hw => Rt.read w ss 10 hs (by first | omega | (rw [List.length_drop]; omega)) (by decide) (by decide)) (fun zs35 ok35 r35 hz35 hr35 => ?_)
      obtain ⟨hD35, hL35, rfl, hV35⟩ := hz35
      refine J.move rfl rfl ?_
      refine J.extract rfl rfl rfl ?_
      refine J.extract rfl rfl rfl ?_
      refine J.assign rfl rfl ?_
      refine J.assign rfl rfl ?_
      refine J.end ?_
      refine X.then ?_
      refine T.seq ?_
      refine T.seq ?_
      refine T.text [.l, .l, .l, .l, .l, .l, .l, .l] rfl ?_
      refine J.move rfl rfl ?_
      refine J.not rfl rfl (by rw [← decide_not]) ?_
      refine J.move rfl rfl ?_
      refine J.split 40 rfl (fun h12 => ?_) (fun h12 => ?_)
      · skip
        refine J.no rfl rfl rfl rfl ?_
        refine J.no rfl rfl rfl rfl ?_
        refine J.no rfl rfl rfl rfl ?_
        refine J.no rfl rfl rfl rfl ?_
        refine J.pick_t rfl rfl rfl ?_
        refine J.end ?_
        refine X.then ?_
        refine T.cond_true rfl ?_
        refine T.seq ?_
        refine T.text [.l, .l, .l] rfl ?_
        refine J.build rfl rfl (W 0) (fun w => by kernel_rfl) ?_
        refine J.store 2 rfl rfl rfl rfl (wc 0) rfl sz24 (by first | decide | exact Nat.le_refl _ | exact Nat.le_of_ble_eq_true rfl | (simp [rowN]; done) | (simp [rowN]; omega)) (by first | exact rowN_one _ _ | (simp; done) | (intro u hu; simp at hu; subst hu; rfl) | (intro u hu; simp at hu; rcases hu with rfl | rfl <;> rfl)) (by first | decide | exact Nat.zero_lt_succ _ | simp) trivial (wc 0) rfl ?_
        refine J.assign rfl rfl ?_
        refine J.end ?_
        refine X.then ?_
        refine T.ret ?_
        refine X.then_ret ?_
        exact X.ret2 rfl (RV.agg 2 rfl rfl agg24 (wc 0) (by rfl) (by rfl) rfl) (RV.tmp rfl) (fun w' hw' => by first | (exact ⟨ret_parse (a := 0) (c := 2) (parseN_long (by omega)), hw'.sub (Sub.nil _)⟩) | (exact ⟨ret_parse (a := 0) (c := 10) (parseN_hexlong (by omega) ⟨by omega, by omega, by omega⟩ (by first | omega | (rw [List.length_drop] at *; omega))), hw'.sub (Sub.nil _)⟩) | (exact ⟨ret_parse (a := 0) (c := 10) ((parseN_hex (by omega) ⟨by omega, by omega, by omega⟩ (by first | omega | (rw [List.length_drop] at *; omega))).trans (bodyN_bad (by assumption))), hw'.sub (Sub.nil _)⟩) | (exact ⟨ret_parse (a := 0) (c := 10) ((parseN_hex (by omega) ⟨by omega, by omega, by omega⟩ (by first | omega | (rw [List.length_drop] at *; omega))).trans (bodyN_big (by rw [← hV]; omega))), hw'.sub (Sub.nil _)⟩) | (exact ⟨ret_parse (a := vl zs35) (c := 0) (by rw [hV]; exact (parseN_hex (by omega) ⟨by omega, by omega, by omega⟩ (by first | omega | (rw [List.length_drop] at *; omega))).trans (bodyN_ok (by first | assumption | (apply Decidable.not_not.1; assumption)) (by rw [← hV]; omega))), hw'.sub (Sub.nil _)⟩) | (exact ⟨ret_parse (a := 0) (c := 10) ((parseN_dec (by omega) (fun q => by unfold hexP at q; omega)).trans (bodyN_bad (by assumption))), hw'.sub (Sub.nil _)⟩) | (exact ⟨ret_parse (a := 0) (c := 10) ((parseN_dec (by omega) (fun q => by unfold hexP at q; omega)).trans (bodyN_big (by rw [← hV]; omega))), hw'.sub (Sub.nil _)⟩) | (exact ⟨ret_parse (a := vl zs35) (c := 0) (by rw [hV]; exact (parseN_dec (by omega) (fun q => by unfold hexP at q; omega)).trans (bodyN_ok (by first | assumption | (apply Decidable.not_not.1; assumption)) (by rw [← hV]; omega))), hw'.sub (Sub.nil _)⟩))
      · have hV := hV35 (by simp only [decide_eq_true_eq]; first | assumption | (apply Decidable.not_not.1; assumption))
        refine J.yes rfl rfl ?_
        refine J.move rfl rfl ?_
        refine J.yes rfl rfl ?_
        refine J.callRow 42 rfl (t := 3) (kd := .i64) fok113 rfl rfl (fun w hw => Ra.full w) (fun zs42 r42 hz42 hr42 => ?_)
        obtain ⟨hD42, hL42, hV42⟩ := full_facts hz42
        refine J.yes rfl rfl ?_
        refine J.call0 (k := .l) trivial fok136 rfl rfl (fun w hw => Ra.compare w _ _ _ (hw.rowCs (k := 35) rfl) _ _ _ (hw.rowCs (k := 42) rfl) (by assumption) (by omega) (by assumption) (by omega)) ?_
        refine J.yes rfl rfl ?_
        refine J.geq rfl rfl rfl rfl ?_
        refine J.pick_f rfl rfl rfl ?_
        refine J.end ?_
        refine X.then ?_
        refine T.cond_dec rfl (fun h13 => ?_) (fun h13 => ?_)
        · have hbig : vl zs42 ≤ vl zs35 := cmpN_ge (by assumption)
          refine T.seq ?_
          refine T.text [.l, .l, .l] rfl ?_
          refine J.build rfl rfl (W 0) (fun w => by kernel_rfl) ?_
          refine J.store 2 rfl rfl rfl rfl (wc 0) rfl sz24 (by first | decide | exact Nat.le_refl _ | exact Nat.le_of_ble_eq_true rfl | (simp [rowN]; done) | (simp [rowN]; omega)) (by first | exact rowN_one _ _ | (simp; done) | (intro u hu; simp at hu; subst hu; rfl) | (intro u hu; simp at hu; rcases hu with rfl | rfl <;> rfl)) (by first | decide | exact Nat.zero_lt_succ _ | simp) trivial (wc 0) rfl ?_
          refine J.assign rfl rfl ?_
          refine J.end ?_
          refine X.then ?_
          refine T.ret ?_
          refine X.then_ret ?_
          exact X.ret2 rfl (RV.agg 2 rfl rfl agg24 (wc 0) (by rfl) (by rfl) rfl) (RV.tmp rfl) (fun w' hw' => by first | (exact ⟨ret_parse (a := 0) (c := 2) (parseN_long (by omega)), hw'.sub (Sub.nil _)⟩) | (exact ⟨ret_parse (a := 0) (c := 10) (parseN_hexlong (by omega) ⟨by omega, by omega, by omega⟩ (by first | omega | (rw [List.length_drop] at *; omega))), hw'.sub (Sub.nil _)⟩) | (exact ⟨ret_parse (a := 0) (c := 10) ((parseN_hex (by omega) ⟨by omega, by omega, by omega⟩ (by first | omega | (rw [List.length_drop] at *; omega))).trans (bodyN_bad (by assumption))), hw'.sub (Sub.nil _)⟩) | (exact ⟨ret_parse (a := 0) (c := 10) ((parseN_hex (by omega) ⟨by omega, by omega, by omega⟩ (by first | omega | (rw [List.length_drop] at *; omega))).trans (bodyN_big (by rw [← hV]; omega))), hw'.sub (Sub.nil _)⟩) | (exact ⟨ret_parse (a := vl zs35) (c := 0) (by rw [hV]; exact (parseN_hex (by omega) ⟨by omega, by omega, by omega⟩ (by first | omega | (rw [List.length_drop] at *; omega))).trans (bodyN_ok (by first | assumption | (apply Decidable.not_not.1; assumption)) (by rw [← hV]; omega))), hw'.sub (Sub.nil _)⟩) | (exact ⟨ret_parse (a := 0) (c := 10) ((parseN_dec (by omega) (fun q => by unfold hexP at q; omega)).trans (bodyN_bad (by assumption))), hw'.sub (Sub.nil _)⟩) | (exact ⟨ret_parse (a := 0) (c := 10) ((parseN_dec (by omega) (fun q => by unfold hexP at q; omega)).trans (bodyN_big (by rw [← hV]; omega))), hw'.sub (Sub.nil _)⟩) | (exact ⟨ret_parse (a := vl zs35) (c := 0) (by rw [hV]; exact (parseN_dec (by omega) (fun q => by unfold hexP at q; omega)).trans (bodyN_ok (by first | assumption | (apply Decidable.not_not.1; assumption)) (by rw [← hV]; omega))), hw'.sub (Sub.nil _)⟩))
        · have hbig : vl zs35 < vl zs42 := cmpN_nge (by assumption)
          refine T.skip ?_
          refine X.then ?_
          refine T.seq ?_
          refine T.text [.l, .l, .l, .l] rfl ?_
          refine J.move rfl rfl ?_
          refine J.call0 (k := .l) trivial fok108 rfl rfl (fun w hw => Ra.word w _ _ _ (hw.rowCs (k := 35) rfl) (by assumption) (by omega)) ?_
          refine J.store 2 rfl rfl rfl rfl (wc (vl zs35)) rfl sz24 (by first | decide | exact Nat.le_refl _ | exact Nat.le_of_ble_eq_true rfl | (simp [rowN]; done) | (simp [rowN]; omega)) (by first | exact rowN_one _ _ | (simp; done) | (intro u hu; simp at hu; subst hu; rfl) | (intro u hu; simp at hu; rcases hu with rfl | rfl <;> rfl)) (by first | decide | exact Nat.zero_lt_succ _ | simp) trivial (wc (vl zs35)) rfl ?_
          refine J.assign rfl rfl ?_
          refine J.end ?_
          refine X.then ?_
          refine T.ret ?_
          exact X.ret2 rfl (RV.agg 2 rfl rfl agg24 (wc (vl zs35)) (by rfl) (by rfl) rfl) (RV.tmp rfl) (fun w' hw' => by first | (exact ⟨ret_parse (a := 0) (c := 2) (parseN_long (by omega)), hw'.sub (Sub.nil _)⟩) | (exact ⟨ret_parse (a := 0) (c := 10) (parseN_hexlong (by omega) ⟨by omega, by omega, by omega⟩ (by first | omega | (rw [List.length_drop] at *; omega))), hw'.sub (Sub.nil _)⟩) | (exact ⟨ret_parse (a := 0) (c := 10) ((parseN_hex (by omega) ⟨by omega, by omega, by omega⟩ (by first | omega | (rw [List.length_drop] at *; omega))).trans (bodyN_bad (by assumption))), hw'.sub (Sub.nil _)⟩) | (exact ⟨ret_parse (a := 0) (c := 10) ((parseN_hex (by omega) ⟨by omega, by omega, by omega⟩ (by first | omega | (rw [List.length_drop] at *; omega))).trans (bodyN_big (by rw [← hV]; omega))), hw'.sub (Sub.nil _)⟩) | (exact ⟨ret_parse (a := vl zs35) (c := 0) (by rw [hV]; exact (parseN_hex (by omega) ⟨by omega, by omega, by omega⟩ (by first | omega | (rw [List.length_drop] at *; omega))).trans (bodyN_ok (by first | assumption | (apply Decidable.not_not.1; assumption)) (by rw [← hV]; omega))), hw'.sub (Sub.nil _)⟩) | (exact ⟨ret_parse (a := 0) (c := 10) ((parseN_dec (by omega) (fun q => by unfold hexP at q; omega)).trans (bodyN_bad (by assumption))), hw'.sub (Sub.nil _)⟩) | (exact ⟨ret_parse (a := 0) (c := 10) ((parseN_dec (by omega) (fun q => by unfold hexP at q; omega)).trans (bodyN_big (by rw [← hV]; omega))), hw'.sub (Sub.nil _)⟩) | (exact ⟨ret_parse (a := vl zs35) (c := 0) (by rw [hV]; exact (parseN_dec (by omega) (fun q => by unfold hexP at q; omega)).trans (bodyN_ok (by first | assumption | (apply Decidable.not_not.1; assumption)) (by rw [← hV]; omega))), hw'.sub (Sub.nil _)⟩))
end Go.Proofs.YtegociefcfcihaaDoor.Rv
