/-
  Walks, printed by gen.py: what each function hands back, said of numbers.
  Conditions: those that each theorem bears.
-/
import Derived.Test.YtegociefcfcihaaDoorChecked
import Derived.Test.YtegociefcfcihaaDoorFu
import Derived.Test.YtegociefcfcihaaDoorWa
import Derived.Test.YtegociefcfcihaaDoorWb
import Derived.Test.YtegociefcfcihaaDoorWe
import Derived.Test.YtegociefcfcihaaDoorWg
set_option linter.unusedVariables false
set_option maxRecDepth 20000
namespace Go.Proofs.YtegociefcfcihaaDoor.Wh
open Go Go.Fw

theorem sz39 : SizeT Tryd.prog 39 32 := (by unfold SizeT; kernel_rfl)
theorem zero8 : ZeroT Tryd.prog 67 (.agg (rowN .u64 (lg 0)).toArray) := (by unfold ZeroT; kernel_rfl)
theorem one25 : OneT Tryd.prog 25 := ⟨⟨_, Tryd.underlying25, rfl⟩, by kernel_rfl⟩
theorem one27 : OneT Tryd.prog 27 := ⟨⟨_, Tryd.underlying27, rfl⟩, by kernel_rfl⟩
theorem fok153 : FnOk Tryd.prog 153 := FnOk.mk' Tryd.func153 (by kernel_rfl) rfl
theorem fok23 : FnOk Tryd.prog 23 := FnOk.mk' Tryd.func23 (by kernel_rfl) rfl
theorem fok27 : FnOk Tryd.prog 27 := FnOk.mk' Tryd.func27 (by kernel_rfl) rfl
theorem fok25 : FnOk Tryd.prog 25 := FnOk.mk' Tryd.func25 (by kernel_rfl) rfl
theorem fok29 : FnOk Tryd.prog 29 := FnOk.mk' Tryd.func29 (by kernel_rfl) rfl
theorem fok34 : FnOk Tryd.prog 34 := FnOk.mk' Tryd.func34 (by kernel_rfl) rfl
theorem fok31 : FnOk Tryd.prog 31 := FnOk.mk' Tryd.func31 (by kernel_rfl) rfl
theorem fok36 : FnOk Tryd.prog 36 := FnOk.mk' Tryd.func36 (by kernel_rfl) rfl
theorem fok46 : FnOk Tryd.prog 46 := FnOk.mk' Tryd.func46 (by kernel_rfl) rfl
theorem fok48 : FnOk Tryd.prog 48 := FnOk.mk' Tryd.func48 (by kernel_rfl) rfl
theorem fok50 : FnOk Tryd.prog 50 := FnOk.mk' Tryd.func50 (by kernel_rfl) rfl
theorem fok44 : FnOk Tryd.prog 44 := FnOk.mk' Tryd.func44 (by kernel_rfl) rfl
theorem fok155 : FnOk Tryd.prog 155 := FnOk.mk' Tryd.func155 (by kernel_rfl) rfl
theorem fok54 : FnOk Tryd.prog 54 := FnOk.mk' Tryd.func54 (by kernel_rfl) rfl
theorem fok55 : FnOk Tryd.prog 55 := FnOk.mk' Tryd.func55 (by kernel_rfl) rfl
theorem fok38 : FnOk Tryd.prog 38 := FnOk.mk' Tryd.func38 (by kernel_rfl) rfl
theorem fok40 : FnOk Tryd.prog 40 := FnOk.mk' Tryd.func40 (by kernel_rfl) rfl
theorem fok79 : FnOk Tryd.prog 79 := FnOk.mk' Tryd.func79 (by kernel_rfl) rfl
theorem fok157 : FnOk Tryd.prog 157 := FnOk.mk' Tryd.func157 (by kernel_rfl) rfl
theorem fok62 : FnOk Tryd.prog 62 := FnOk.mk' Tryd.func62 (by kernel_rfl) rfl
theorem fok64 : FnOk Tryd.prog 64 := FnOk.mk' Tryd.func64 (by kernel_rfl) rfl
theorem fok66 : FnOk Tryd.prog 66 := FnOk.mk' Tryd.func66 (by kernel_rfl) rfl
theorem fok158 : FnOk Tryd.prog 158 := FnOk.mk' Tryd.func158 (by kernel_rfl) rfl
theorem fok69 : FnOk Tryd.prog 69 := FnOk.mk' Tryd.func69 (by kernel_rfl) rfl
theorem fok59 : FnOk Tryd.prog 59 := FnOk.mk' Tryd.func59 (by kernel_rfl) rfl
theorem fok60 : FnOk Tryd.prog 60 := FnOk.mk' Tryd.func60 (by kernel_rfl) rfl
theorem fok42 : FnOk Tryd.prog 42 := FnOk.mk' Tryd.func42 (by kernel_rfl) rfl
theorem fok159 : FnOk Tryd.prog 159 := FnOk.mk' Tryd.func159 (by kernel_rfl) rfl
theorem func98T : FuncT Tryd.prog 98 := ⟨_, _, _, Tryd.underlying98⟩
theorem fok148 : FnOk Tryd.prog 148 := FnOk.mk' Tryd.func148 (by kernel_rfl) rfl
theorem zero24 : ZeroT Tryd.prog 24 (.agg ([.int .u64 0, .int .u64 0, .int .u64 0, .int .u64 0]).toArray) := (by unfold ZeroT; kernel_rfl)
theorem zero99 : ZeroT Tryd.prog 99 (.agg ([.nilFunc, .nilFunc, .nilFunc, .nilFunc, .nilFunc, .nilFunc, .nilFunc, .nilFunc, .nilFunc, .nilFunc, .nilFunc, .nilFunc, .nilFunc, .nilFunc, .nilFunc, .nilFunc, .nilFunc, .nilFunc, .nilFunc, .nilFunc, .nilFunc, .nilFunc, .nilFunc, .nilFunc, .nilFunc, .nilFunc, .nilFunc, .nilFunc, .nilFunc, .nilFunc, .nilFunc]).toArray) := (by unfold ZeroT; kernel_rfl)
theorem sz99 : SizeT Tryd.prog 99 31 := (by unfold SizeT; kernel_rfl)
theorem sz98 : SizeT Tryd.prog 98 1 := (by unfold SizeT; kernel_rfl)
theorem arr99 : ArrT Tryd.prog 99 31 98 1 := ⟨Tryd.underlying99, sz98⟩
theorem one98 : OneT Tryd.prog 98 := ⟨⟨_, Tryd.underlying98, rfl⟩, by kernel_rfl⟩
theorem agg24 : AggT Tryd.prog 24 4 := ⟨⟨_, Tryd.underlying24, rfl⟩, by kernel_rfl⟩
theorem sz24 : SizeT Tryd.prog 24 4 := (by unfold SizeT; kernel_rfl)

set_option maxHeartbeats 2000000 in
theorem fnAt (γ : Nat → Nat) : ∀ (k : Nat) (S : Nat → Nat → Nat → Nat), doS[k]? = some (some S) → ∃ (f : FuncId) (cap : List Value), (Wg.fvsOf γ)[k]? = some (.func (.func f) #[] cap.toArray) ∧ FnOk Tryd.prog f ∧
    ∀ w0 M l w, WS w0 M l w → Sub (sh (Wg.entsOf γ)) l → ∀ a b c, Calls Tryd.prog f ([W a, W b, W c] ++ cap).toArray w fun e w' => e = .returned (W (S a b c)) ∧ WS w [] [] w'
  | 0, S, h => by
    cases h
  | 1, S, h => by
    cases h; exact ⟨153, [.pointer (some ⟨γ 4, 0, none⟩)], rfl, fok153, fun w0 M l w hw hs a b c => Wg.two1 w a b c _ _ (fun x y => x + y) (hw.csAt (hs (1000 + 4) _ rfl)) fok23 (fun w x y => Wb.Add w x y)⟩
  | 2, S, h => by
    cases h; exact ⟨153, [.pointer (some ⟨γ 6, 0, none⟩)], rfl, fok153, fun w0 M l w hw hs a b c => Wg.two1 w a b c _ _ (fun x y => x * y) (hw.csAt (hs (1000 + 6) _ rfl)) fok27 (fun w x y => Wb.Mul w x y)⟩
  | 3, S, h => by
    cases h; exact ⟨153, [.pointer (some ⟨γ 8, 0, none⟩)], rfl, fok153, fun w0 M l w hw hs a b c => Wg.two1 w a b c _ _ (fun x y => dif x y) (hw.csAt (hs (1000 + 8) _ rfl)) fok25 (fun w x y => Wb.Sub w x y)⟩
  | 4, S, h => by
    cases h; exact ⟨153, [.pointer (some ⟨γ 10, 0, none⟩)], rfl, fok153, fun w0 M l w hw hs a b c => Wg.two1 w a b c _ _ (fun x y => divN x y) (hw.csAt (hs (1000 + 10) _ rfl)) fok29 (fun w x y => We.Div w x y)⟩
  | 5, S, h => by
    cases h; exact ⟨153, [.pointer (some ⟨γ 12, 0, none⟩)], rfl, fok153, fun w0 M l w hw hs a b c => Wg.two1 w a b c _ _ (fun x y => sdivN x y) (hw.csAt (hs (1000 + 12) _ rfl)) fok34 (fun w x y => We.SDiv w x y)⟩
  | 6, S, h => by
    cases h; exact ⟨153, [.pointer (some ⟨γ 14, 0, none⟩)], rfl, fok153, fun w0 M l w hw hs a b c => Wg.two1 w a b c _ _ (fun x y => modN x y) (hw.csAt (hs (1000 + 14) _ rfl)) fok31 (fun w x y => We.Mod w x y)⟩
  | 7, S, h => by
    cases h; exact ⟨153, [.pointer (some ⟨γ 16, 0, none⟩)], rfl, fok153, fun w0 M l w hw hs a b c => Wg.two1 w a b c _ _ (fun x y => smodN x y) (hw.csAt (hs (1000 + 16) _ rfl)) fok36 (fun w x y => We.SMod w x y)⟩
  | 8, S, h => by
    cases h; exact ⟨46, [], rfl, fok46, fun w0 M l w hw hs a b c => We.AddMod w a b c⟩
  | 9, S, h => by
    cases h; exact ⟨48, [], rfl, fok48, fun w0 M l w hw hs a b c => We.MulMod w a b c⟩
  | 10, S, h => by
    cases h; exact ⟨153, [.pointer (some ⟨γ 18, 0, none⟩)], rfl, fok153, fun w0 M l w hw hs a b c => Wg.two1 w a b c _ _ (fun x y => powN x y) (hw.csAt (hs (1000 + 18) _ rfl)) fok50 (fun w x y => We.Exp w x y)⟩
  | 11, S, h => by
    cases h; exact ⟨153, [.pointer (some ⟨γ 20, 0, none⟩)], rfl, fok153, fun w0 M l w hw hs a b c => Wg.two1 w a b c _ _ (fun x y => sxN x y) (hw.csAt (hs (1000 + 20) _ rfl)) fok44 (fun w x y => We.SignExtend w x y)⟩
  | 12, S, h => by
    cases h
  | 13, S, h => by
    cases h
  | 14, S, h => by
    cases h
  | 15, S, h => by
    cases h
  | 16, S, h => by
    cases h; exact ⟨155, [.pointer (some ⟨γ 22, 0, none⟩)], rfl, fok155, fun w0 M l w hw hs a b c => Wg.is1 w a b c _ _ (fun x y => x % 2 ^ 256 < y % 2 ^ 256) (hw.csAt (hs (1000 + 22) _ rfl)) fok54 (fun w x y => Wa.Lt w x y)⟩
  | 17, S, h => by
    cases h; exact ⟨155, [.pointer (some ⟨γ 24, 0, none⟩)], rfl, fok155, fun w0 M l w hw hs a b c => Wg.is1 w a b c _ _ (fun x y => y % 2 ^ 256 < x % 2 ^ 256) (hw.csAt (hs (1000 + 24) _ rfl)) fok55 (fun w x y => Wa.Gt w x y)⟩
  | 18, S, h => by
    cases h; exact ⟨155, [.pointer (some ⟨γ 26, 0, none⟩)], rfl, fok155, fun w0 M l w hw hs a b c => Wg.is1 w a b c _ _ (fun x y => sltP x y) (hw.csAt (hs (1000 + 26) _ rfl)) fok38 (fun w x y => We.SLt w x y)⟩
  | 19, S, h => by
    cases h; exact ⟨155, [.pointer (some ⟨γ 28, 0, none⟩)], rfl, fok155, fun w0 M l w hw hs a b c => Wg.is1 w a b c _ _ (fun x y => sltP y x) (hw.csAt (hs (1000 + 28) _ rfl)) fok40 (fun w x y => We.SGt w x y)⟩
  | 20, S, h => by
    cases h; exact ⟨155, [.pointer (some ⟨γ 30, 0, none⟩)], rfl, fok155, fun w0 M l w hw hs a b c => Wg.is1 w a b c _ _ (fun x y => x % 2 ^ 256 = y % 2 ^ 256) (hw.csAt (hs (1000 + 30) _ rfl)) fok79 (fun w x y => We.Eq w x y)⟩
  | 21, S, h => by
    cases h; exact ⟨157, [], rfl, fok157, fun w0 M l w hw hs a b c => Wg.isz w a b c⟩
  | 22, S, h => by
    cases h; exact ⟨153, [.pointer (some ⟨γ 32, 0, none⟩)], rfl, fok153, fun w0 M l w hw hs a b c => Wg.two1 w a b c _ _ (fun x y => x &&& y) (hw.csAt (hs (1000 + 32) _ rfl)) fok62 (fun w x y => We.And w x y)⟩
  | 23, S, h => by
    cases h; exact ⟨153, [.pointer (some ⟨γ 34, 0, none⟩)], rfl, fok153, fun w0 M l w hw hs a b c => Wg.two1 w a b c _ _ (fun x y => x ||| y) (hw.csAt (hs (1000 + 34) _ rfl)) fok64 (fun w x y => We.Or w x y)⟩
  | 24, S, h => by
    cases h; exact ⟨153, [.pointer (some ⟨γ 36, 0, none⟩)], rfl, fok153, fun w0 M l w hw hs a b c => Wg.two1 w a b c _ _ (fun x y => x ^^^ y) (hw.csAt (hs (1000 + 36) _ rfl)) fok66 (fun w x y => We.Xor w x y)⟩
  | 25, S, h => by
    cases h; exact ⟨158, [], rfl, fok158, fun w0 M l w hw hs a b c => Wg.not_ w a b c⟩
  | 26, S, h => by
    cases h; exact ⟨153, [.pointer (some ⟨γ 38, 0, none⟩)], rfl, fok153, fun w0 M l w hw hs a b c => Wg.two1 w a b c _ _ (fun x y => byteN x y) (hw.csAt (hs (1000 + 38) _ rfl)) fok69 (fun w x y => We.Byte w x y)⟩
  | 27, S, h => by
    cases h; exact ⟨153, [.pointer (some ⟨γ 40, 0, none⟩)], rfl, fok153, fun w0 M l w hw hs a b c => Wg.two1 w a b c _ _ (fun x y => shlN x y) (hw.csAt (hs (1000 + 40) _ rfl)) fok59 (fun w x y => We.Shl w x y)⟩
  | 28, S, h => by
    cases h; exact ⟨153, [.pointer (some ⟨γ 42, 0, none⟩)], rfl, fok153, fun w0 M l w hw hs a b c => Wg.two1 w a b c _ _ (fun x y => shrN x y) (hw.csAt (hs (1000 + 42) _ rfl)) fok60 (fun w x y => We.Shr w x y)⟩
  | 29, S, h => by
    cases h; exact ⟨153, [.pointer (some ⟨γ 44, 0, none⟩)], rfl, fok153, fun w0 M l w hw hs a b c => Wg.two1 w a b c _ _ (fun x y => sarN x y) (hw.csAt (hs (1000 + 44) _ rfl)) fok42 (fun w x y => We.Sar w x y)⟩
  | 30, S, h => by
    cases h; exact ⟨159, [], rfl, fok159, fun w0 M l w hw hs a b c => Wg.clz w a b c⟩
  | k + 31, S, h => by have := (List.getElem?_eq_some_iff.1 h).1; simp [doS] at this; omega
theorem nilAt (γ : Nat → Nat) : ∀ (k : Nat), doS[k]? = some none → (Wg.fvsOf γ)[k]? = some .nilFunc
  | 0, h => rfl
  | 1, h => by cases h
  | 2, h => by cases h
  | 3, h => by cases h
  | 4, h => by cases h
  | 5, h => by cases h
  | 6, h => by cases h
  | 7, h => by cases h
  | 8, h => by cases h
  | 9, h => by cases h
  | 10, h => by cases h
  | 11, h => by cases h
  | 12, h => rfl
  | 13, h => rfl
  | 14, h => rfl
  | 15, h => rfl
  | 16, h => by cases h
  | 17, h => by cases h
  | 18, h => by cases h
  | 19, h => by cases h
  | 20, h => by cases h
  | 21, h => by cases h
  | 22, h => by cases h
  | 23, h => by cases h
  | 24, h => by cases h
  | 25, h => by cases h
  | 26, h => by cases h
  | 27, h => by cases h
  | 28, h => by cases h
  | 29, h => by cases h
  | 30, h => by cases h
  | k + 31, h => by have := (List.getElem?_eq_some_iff.1 h).1; simp [doS] at this; omega
theorem DoYes (w : World) (k x0 x1 x2 : Nat) (S : Nat → Nat → Nat → Nat) (hS : doS[k]? = some (some S)) :
    Calls Tryd.prog 120 [.int .i64 (k : Int), W x0, W x1, W x2].toArray w fun e w' => e = .returned (.tuple #[W (S x0 x1 x2), .bool true]) ∧ WS w [] [] w' := by
  have hk : k < 31 := (List.getElem?_eq_some_iff.1 hS).1
  refine calls_of_T [] 32 [] Tryd.func120 rfl Tryd.ntmps120 (by simp) (WS.refl _ _) ?_
  refine T.seq ?_
  refine T.text [.l, .l, .l, .l, .l] rfl ?_
  refine J.box 5 rfl rfl (wc x0) rfl rfl (fun g5 hg5 => ?_)
  refine J.box 6 rfl rfl (wc x1) rfl rfl (fun g6 hg6 => ?_)
  refine J.box 7 rfl rfl (wc x2) rfl rfl (fun g7 hg7 => ?_)
  refine J.alloc 8 rfl zero24 [.int .u64 0, .int .u64 0, .int .u64 0, .int .u64 0] rfl rfl (fun g8 hg8 => ?_)
  refine J.assign rfl rfl ?_
  refine J.end ?_
  refine X.then ?_
  refine T.seq ?_
  refine T.text [.l, .l, .l] rfl ?_
  refine J.call fok148 rfl rfl (ι := Nat → Nat) (fun _ => True) (fun γ => .agg (Wg.fvsOf γ).toArray) [] (fun γ => sh (Wg.entsOf γ)) (fun w hw => (Wg.works w).mono fun e w2 ⟨γ, he, h2⟩ => ⟨γ, trivial, he, h2⟩) (fun _ _ g hg => by simp at hg) (fun _ _ _ _ => rfl) (fun γ _ => ?_)
  refine J.alloc 10 rfl zero99 [.nilFunc, .nilFunc, .nilFunc, .nilFunc, .nilFunc, .nilFunc, .nilFunc, .nilFunc, .nilFunc, .nilFunc, .nilFunc, .nilFunc, .nilFunc, .nilFunc, .nilFunc, .nilFunc, .nilFunc, .nilFunc, .nilFunc, .nilFunc, .nilFunc, .nilFunc, .nilFunc, .nilFunc, .nilFunc, .nilFunc, .nilFunc, .nilFunc, .nilFunc, .nilFunc, .nilFunc] rfl rfl (fun g10 hg10 => ?_)
  refine J.store 10 rfl rfl rfl rfl (Wg.fvsOf γ) rfl sz99 (by first | decide | exact Nat.le_refl _ | exact Nat.le_of_ble_eq_true rfl | (simp [rowN]; done) | (simp [rowN]; omega)) (Wg.fvs_one _) (by first | decide | exact Nat.zero_lt_succ _ | simp) trivial (Wg.fvsOf γ) rfl ?_
  refine J.end ?_
  refine X.then ?_
  refine T.seq ?_
  refine T.seq ?_
  refine T.text [.l, .l, .l, .l, .l, .l, .l, .l, .l, .l, .l, .l] rfl ?_
  refine J.move rfl rfl ?_
  refine J.lss rfl rfl rfl (decide_eq_false (by first | omega | rfl | assumption | (simp only [*]; done))) ?_
  refine J.move rfl rfl ?_
  refine J.yes rfl rfl ?_
  refine J.move rfl rfl ?_
  refine J.yes rfl rfl ?_
  refine J.geq rfl rfl rfl (decide_eq_false (by first | omega | rfl | assumption | (simp only [*]; done))) ?_
  refine J.pick_f rfl rfl rfl ?_
  refine J.move rfl rfl ?_
  refine J.yes rfl rfl ?_
  refine J.move rfl rfl ?_
  refine J.yes rfl rfl ?_
  obtain ⟨f, cap, hfv, hfok, hfs⟩ := fnAt γ k S hS
  refine J.indexArr arr99 rfl rfl (by omega) (by omega) (by first | exact Int.toNat_natCast _ | rfl) rfl ?_
  refine J.yes rfl rfl ?_
  refine J.load1 (k := .l) trivial 10 rfl rfl one98 (by rw [Nat.zero_add, Nat.mul_one]; exact hfv) rfl ?_
  refine J.yes rfl rfl ?_
  refine J.eqFn func98T rfl rfl rfl ?_
  refine J.pick_f rfl rfl rfl ?_
  refine J.end ?_
  refine X.then ?_
  refine T.cond_false rfl ?_
  refine T.skip ?_
  refine X.then ?_
  refine T.seq ?_
  refine T.draw [] [(0, .g), (1, .g), (2, .q), (3, .q), (4, .q), (5, .q), (6, .l), (7, .l), (8, .g)] (by kernel_rfl) (by kernel_rfl) ?_ (by repeat (first | exact Sub.nil _ | refine Sub.cons (by first | rfl | (rw [dgs_zero]; rfl) | (rw [List.drop_length]; rfl) | (simp; done) | (congr 2; omega) | (congr 3; omega)) ?_))
  refine J.move rfl rfl ?_
  refine J.indexArr arr99 rfl rfl (by omega) (by omega) (by first | exact Int.toNat_natCast _ | rfl) rfl ?_
  refine J.load1 (k := .q) trivial 10 rfl rfl one98 (by rw [Nat.zero_add, Nat.mul_one]; exact hfv) rfl ?_
  refine J.loadN (k := .q) trivial 5 rfl rfl agg24 (wc x0) rfl rfl rfl ?_
  refine J.loadN (k := .q) trivial 6 rfl rfl agg24 (wc x1) rfl rfl rfl ?_
  refine J.loadN (k := .q) trivial 7 rfl rfl agg24 (wc x2) rfl rfl rfl ?_
  refine J.callV0 hfok rfl rfl rfl (fun w hw => hfs _ _ _ _ hw (by unfold Wg.entsOf; repeat (first | exact Sub.nil _ | refine Sub.cons rfl ?_)) _ _ _) ?_
  refine J.store 8 rfl rfl rfl rfl (wc (S x0 x1 x2)) rfl sz24 (by first | decide | exact Nat.le_refl _ | exact Nat.le_of_ble_eq_true rfl | (simp [rowN]; done) | (simp [rowN]; omega)) (by first | exact rowN_one _ _ | (simp; done) | (intro u hu; simp at hu; subst hu; rfl) | (intro u hu; simp at hu; rcases hu with rfl | rfl <;> rfl)) (by first | decide | exact Nat.zero_lt_succ _ | simp) trivial (wc (S x0 x1 x2)) rfl ?_
  refine J.assign rfl rfl ?_
  refine J.end ?_
  refine X.then ?_
  refine T.ret ?_
  exact X.ret2 rfl (RV.agg 8 rfl rfl agg24 (wc (S x0 x1 x2)) (by rfl) (by rfl) rfl) (RV.tmp rfl) (fun w' hw' => ⟨rfl, hw'.sub (Sub.nil _)⟩)

theorem DoNil (w : World) (k x0 x1 x2 : Nat) (hS : doS[k]? = some none) :
    Calls Tryd.prog 120 [.int .i64 (k : Int), W x0, W x1, W x2].toArray w fun e w' => e = .returned (.tuple #[W 0, .bool false]) ∧ WS w [] [] w' := by
  have hk : k < 31 := (List.getElem?_eq_some_iff.1 hS).1
  refine calls_of_T [] 32 [] Tryd.func120 rfl Tryd.ntmps120 (by simp) (WS.refl _ _) ?_
  refine T.seq ?_
  refine T.text [.l, .l, .l, .l, .l] rfl ?_
  refine J.box 5 rfl rfl (wc x0) rfl rfl (fun g5 hg5 => ?_)
  refine J.box 6 rfl rfl (wc x1) rfl rfl (fun g6 hg6 => ?_)
  refine J.box 7 rfl rfl (wc x2) rfl rfl (fun g7 hg7 => ?_)
  refine J.alloc 8 rfl zero24 [.int .u64 0, .int .u64 0, .int .u64 0, .int .u64 0] rfl rfl (fun g8 hg8 => ?_)
  refine J.assign rfl rfl ?_
  refine J.end ?_
  refine X.then ?_
  refine T.seq ?_
  refine T.text [.l, .l, .l] rfl ?_
  refine J.call fok148 rfl rfl (ι := Nat → Nat) (fun _ => True) (fun γ => .agg (Wg.fvsOf γ).toArray) [] (fun γ => sh (Wg.entsOf γ)) (fun w hw => (Wg.works w).mono fun e w2 ⟨γ, he, h2⟩ => ⟨γ, trivial, he, h2⟩) (fun _ _ g hg => by simp at hg) (fun _ _ _ _ => rfl) (fun γ _ => ?_)
  refine J.alloc 10 rfl zero99 [.nilFunc, .nilFunc, .nilFunc, .nilFunc, .nilFunc, .nilFunc, .nilFunc, .nilFunc, .nilFunc, .nilFunc, .nilFunc, .nilFunc, .nilFunc, .nilFunc, .nilFunc, .nilFunc, .nilFunc, .nilFunc, .nilFunc, .nilFunc, .nilFunc, .nilFunc, .nilFunc, .nilFunc, .nilFunc, .nilFunc, .nilFunc, .nilFunc, .nilFunc, .nilFunc, .nilFunc] rfl rfl (fun g10 hg10 => ?_)
  refine J.store 10 rfl rfl rfl rfl (Wg.fvsOf γ) rfl sz99 (by first | decide | exact Nat.le_refl _ | exact Nat.le_of_ble_eq_true rfl | (simp [rowN]; done) | (simp [rowN]; omega)) (Wg.fvs_one _) (by first | decide | exact Nat.zero_lt_succ _ | simp) trivial (Wg.fvsOf γ) rfl ?_
  refine J.end ?_
  refine X.then ?_
  refine T.seq ?_
  refine T.seq ?_
  refine T.text [.l, .l, .l, .l, .l, .l, .l, .l, .l, .l, .l, .l] rfl ?_
  refine J.move rfl rfl ?_
  refine J.lss rfl rfl rfl (decide_eq_false (by first | omega | rfl | assumption | (simp only [*]; done))) ?_
  refine J.move rfl rfl ?_
  refine J.yes rfl rfl ?_
  refine J.move rfl rfl ?_
  refine J.yes rfl rfl ?_
  refine J.geq rfl rfl rfl (decide_eq_false (by first | omega | rfl | assumption | (simp only [*]; done))) ?_
  refine J.pick_f rfl rfl rfl ?_
  refine J.move rfl rfl ?_
  refine J.yes rfl rfl ?_
  refine J.move rfl rfl ?_
  refine J.yes rfl rfl ?_
  refine J.indexArr arr99 rfl rfl (by omega) (by omega) (by first | exact Int.toNat_natCast _ | rfl) rfl ?_
  refine J.yes rfl rfl ?_
  refine J.load1 (k := .l) trivial 10 rfl rfl one98 (by rw [Nat.zero_add, Nat.mul_one]; exact nilAt γ k hS) rfl ?_
  refine J.yes rfl rfl ?_
  refine J.eqFn0 func98T rfl rfl rfl ?_
  refine J.pick_f rfl rfl rfl ?_
  refine J.end ?_
  refine X.then ?_
  refine T.cond_true rfl ?_
  refine T.seq ?_
  refine T.text [.l, .l, .l] rfl ?_
  refine J.build rfl rfl (W 0) (fun w => by kernel_rfl) ?_
  refine J.store 8 rfl rfl rfl rfl (wc 0) rfl sz24 (by first | decide | exact Nat.le_refl _ | exact Nat.le_of_ble_eq_true rfl | (simp [rowN]; done) | (simp [rowN]; omega)) (by first | exact rowN_one _ _ | (simp; done) | (intro u hu; simp at hu; subst hu; rfl) | (intro u hu; simp at hu; rcases hu with rfl | rfl <;> rfl)) (by first | decide | exact Nat.zero_lt_succ _ | simp) trivial (wc 0) rfl ?_
  refine J.assign rfl rfl ?_
  refine J.end ?_
  refine X.then ?_
  refine T.ret ?_
  refine X.then_ret ?_
  exact X.ret2 rfl (RV.agg 8 rfl rfl agg24 (wc 0) (by rfl) (by rfl) rfl) (RV.tmp rfl) (fun w' hw' => ⟨rfl, hw'.sub (Sub.nil _)⟩)

theorem DoOut (w : World) (k : Int) (x0 x1 x2 : Nat) (hk : k < 0 ∨ 31 ≤ k) :
    Calls Tryd.prog 120 [.int .i64 k, W x0, W x1, W x2].toArray w fun e w' => e = .returned (.tuple #[W 0, .bool false]) ∧ WS w [] [] w' := by
  refine calls_of_T [] 32 [] Tryd.func120 rfl Tryd.ntmps120 (by simp) (WS.refl _ _) ?_
  refine T.seq ?_
  refine T.text [.l, .l, .l, .l, .l] rfl ?_
  refine J.box 5 rfl rfl (wc x0) rfl rfl (fun g5 hg5 => ?_)
  refine J.box 6 rfl rfl (wc x1) rfl rfl (fun g6 hg6 => ?_)
  refine J.box 7 rfl rfl (wc x2) rfl rfl (fun g7 hg7 => ?_)
  refine J.alloc 8 rfl zero24 [.int .u64 0, .int .u64 0, .int .u64 0, .int .u64 0] rfl rfl (fun g8 hg8 => ?_)
  refine J.assign rfl rfl ?_
  refine J.end ?_
  refine X.then ?_
  refine T.seq ?_
  refine T.text [.l, .l, .l] rfl ?_
  refine J.call fok148 rfl rfl (ι := Nat → Nat) (fun _ => True) (fun γ => .agg (Wg.fvsOf γ).toArray) [] (fun γ => sh (Wg.entsOf γ)) (fun w hw => (Wg.works w).mono fun e w2 ⟨γ, he, h2⟩ => ⟨γ, trivial, he, h2⟩) (fun _ _ g hg => by simp at hg) (fun _ _ _ _ => rfl) (fun γ _ => ?_)
  refine J.alloc 10 rfl zero99 [.nilFunc, .nilFunc, .nilFunc, .nilFunc, .nilFunc, .nilFunc, .nilFunc, .nilFunc, .nilFunc, .nilFunc, .nilFunc, .nilFunc, .nilFunc, .nilFunc, .nilFunc, .nilFunc, .nilFunc, .nilFunc, .nilFunc, .nilFunc, .nilFunc, .nilFunc, .nilFunc, .nilFunc, .nilFunc, .nilFunc, .nilFunc, .nilFunc, .nilFunc, .nilFunc, .nilFunc] rfl rfl (fun g10 hg10 => ?_)
  refine J.store 10 rfl rfl rfl rfl (Wg.fvsOf γ) rfl sz99 (by first | decide | exact Nat.le_refl _ | exact Nat.le_of_ble_eq_true rfl | (simp [rowN]; done) | (simp [rowN]; omega)) (Wg.fvs_one _) (by first | decide | exact Nat.zero_lt_succ _ | simp) trivial (Wg.fvsOf γ) rfl ?_
  refine J.end ?_
  refine X.then ?_
  refine T.seq ?_
  refine T.seq ?_
  refine T.text [.l, .l, .l, .l, .l, .l, .l, .l, .l, .l, .l, .l] rfl ?_
  refine J.move rfl rfl ?_
  refine J.lss rfl rfl rfl rfl ?_
  refine J.move rfl rfl ?_
  refine J.split 14 rfl (fun h1 => ?_) (fun h1 => ?_)
  · skip
    refine J.no rfl rfl rfl rfl ?_
    refine J.no rfl rfl rfl rfl ?_
    refine J.pick_t rfl rfl rfl ?_
    refine J.move rfl rfl ?_
    refine J.no rfl rfl rfl rfl ?_
    refine J.no rfl rfl rfl rfl ?_
    refine J.no rfl rfl rfl rfl ?_
    refine J.no rfl rfl rfl rfl ?_
    refine J.pick_t rfl rfl rfl ?_
    refine J.end ?_
    refine X.then ?_
    refine T.cond_true rfl ?_
    refine T.seq ?_
    refine T.text [.l, .l, .l] rfl ?_
    refine J.build rfl rfl (W 0) (fun w => by kernel_rfl) ?_
    refine J.store 8 rfl rfl rfl rfl (wc 0) rfl sz24 (by first | decide | exact Nat.le_refl _ | exact Nat.le_of_ble_eq_true rfl | (simp [rowN]; done) | (simp [rowN]; omega)) (by first | exact rowN_one _ _ | (simp; done) | (intro u hu; simp at hu; subst hu; rfl) | (intro u hu; simp at hu; rcases hu with rfl | rfl <;> rfl)) (by first | decide | exact Nat.zero_lt_succ _ | simp) trivial (wc 0) rfl ?_
    refine J.assign rfl rfl ?_
    refine J.end ?_
    refine X.then ?_
    refine T.ret ?_
    refine X.then_ret ?_
    exact X.ret2 rfl (RV.agg 8 rfl rfl agg24 (wc 0) (by rfl) (by rfl) rfl) (RV.tmp rfl) (fun w' hw' => ⟨rfl, hw'.sub (Sub.nil _)⟩)
  · skip
    refine J.yes rfl rfl ?_
    refine J.move rfl rfl ?_
    refine J.yes rfl rfl ?_
    refine J.geq rfl rfl rfl (decide_eq_true (by first | omega | rfl | assumption | (simp only [*]; done))) ?_
    refine J.pick_f rfl rfl rfl ?_
    refine J.move rfl rfl ?_
    refine J.no rfl rfl rfl rfl ?_
    refine J.no rfl rfl rfl rfl ?_
    refine J.no rfl rfl rfl rfl ?_
    refine J.no rfl rfl rfl rfl ?_
    refine J.pick_t rfl rfl rfl ?_
    refine J.end ?_
    refine X.then ?_
    refine T.cond_true rfl ?_
    refine T.seq ?_
    refine T.text [.l, .l, .l] rfl ?_
    refine J.build rfl rfl (W 0) (fun w => by kernel_rfl) ?_
    refine J.store 8 rfl rfl rfl rfl (wc 0) rfl sz24 (by first | decide | exact Nat.le_refl _ | exact Nat.le_of_ble_eq_true rfl | (simp [rowN]; done) | (simp [rowN]; omega)) (by first | exact rowN_one _ _ | (simp; done) | (intro u hu; simp at hu; subst hu; rfl) | (intro u hu; simp at hu; rcases hu with rfl | rfl <;> rfl)) (by first | decide | exact Nat.zero_lt_succ _ | simp) trivial (wc 0) rfl ?_
    refine J.assign rfl rfl ?_
    refine J.end ?_
    refine X.then ?_
    refine T.ret ?_
    refine X.then_ret ?_
    exact X.ret2 rfl (RV.agg 8 rfl rfl agg24 (wc 0) (by rfl) (by rfl) rfl) (RV.tmp rfl) (fun w' hw' => ⟨rfl, hw'.sub (Sub.nil _)⟩)
end Go.Proofs.YtegociefcfcihaaDoor.Wh
