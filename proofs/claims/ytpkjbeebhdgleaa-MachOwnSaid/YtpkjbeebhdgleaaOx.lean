/-
  Walks, printed by gen.py: what each function hands back, said of numbers.
  Conditions: those that each theorem bears.
-/
import Derived.Test.YtpkjbeebhdgleaaChecked
import Derived.Test.YtpkjbeebhdgleaaFh
import Derived.Test.YtpkjbeebhdgleaaFn
import Derived.Test.YtpkjbeebhdgleaaHa
import Derived.Test.YtpkjbeebhdgleaaWa
import Derived.Test.YtpkjbeebhdgleaaRb
import Derived.Test.YtpkjbeebhdgleaaMe
import Derived.Test.YtpkjbeebhdgleaaMa
import Derived.Test.YtpkjbeebhdgleaaSa
set_option linter.unusedVariables false
set_option maxRecDepth 20000
namespace Go.Proofs.Ytpkjbeebhdgleaa.Ox
open Go Go.Fw

theorem sz67 : SizeT Try.prog 67 32 := (by unfold SizeT; kernel_rfl)
theorem sz3 : SizeT Try.prog 3 1 := (by unfold SizeT; kernel_rfl)
theorem fld89_1 : FldT Try.prog 89 1 3 4096 0 := ⟨by kernel_rfl, sz3⟩
theorem one3 : OneT Try.prog 3 := ⟨⟨_, Try.underlying3, rfl⟩, by kernel_rfl⟩
theorem el25 : ElT Try.prog 25 4 32 (.agg ([.int .u64 0, .int .u64 0, .int .u64 0, .int .u64 0]).toArray) := ⟨by kernel_rfl, rfl, by decide, by decide⟩
theorem sz58 : SizeT Try.prog 58 4096 := (by unfold SizeT; kernel_rfl)
theorem fld89_0 : FldT Try.prog 89 0 58 0 4095 := ⟨by kernel_rfl, sz58⟩
theorem sz25 : SizeT Try.prog 25 4 := (by unfold SizeT; kernel_rfl)
theorem arr58 : ArrT Try.prog 58 1024 25 4 := ⟨Try.underlying58, sz25⟩
theorem sl32 : SlT Try.prog 32 25 4 := ⟨Try.underlying32, sz25⟩
theorem fok68 : FnOk Try.prog 68 := FnOk.mk' Try.func68 (by kernel_rfl) rfl
theorem el5 : ElT Try.prog 5 1 1 (.int .u8 0) := ⟨by kernel_rfl, rfl, by decide, by decide⟩
theorem sz5 : SizeT Try.prog 5 1 := (by unfold SizeT; kernel_rfl)
theorem sl22 : SlT Try.prog 22 5 1 := ⟨Try.underlying22, sz5⟩
theorem agg25 : AggT Try.prog 25 4 := ⟨⟨_, Try.underlying25, rfl⟩, by kernel_rfl⟩
theorem fok53 : FnOk Try.prog 53 := FnOk.mk' Try.func53 (by kernel_rfl) rfl

theorem WordsX (w : World) (g : Nat) (S : List Nat) (n : Int) (hS : S.length = 1024) (hn : -4611686018427387904 ≤ n ∧ n ≤ 4611686018427387904) (hcS : Cs w (some ⟨g, 0, none⟩) (stkM S n)) (zs : List Nat) (hz : wordsS S n = zs) :
    Calls Try.prog 23 [.pointer (some ⟨g, 0, none⟩)].toArray w fun e w' => ExactW w 25 zs e w' := by
  refine calls_of_T [] 54 [] Try.func23 rfl Try.ntmps23 (by simp) (WS.refl _ _) ?_
  refine T.seq ?_
  refine T.text [.l] rfl ?_
  refine J.assign rfl rfl ?_
  refine J.end ?_
  refine X.then ?_
  refine T.seq ?_
  refine T.seq ?_
  refine T.text [.l, .l, .l, .l, .l] rfl ?_
  refine J.move rfl rfl ?_
  refine J.nilCheck rfl rfl ?_
  refine J.fieldAddr fld89_1 rfl rfl ?_
  refine J.loadB1 (k := .l) trivial hcS (off_nil _) rfl one3 (stkM_n hS) rfl ?_
  refine J.leq rfl rfl rfl rfl ?_
  refine J.end ?_
  refine X.then ?_
  refine T.cond_dec rfl (fun h1 => ?_) (fun h1 => ?_)
  · obtain ⟨m, hm⟩ : ∃ m : Nat, (m : Int) = max n 0 := ⟨(max n 0).toNat, by omega⟩
    refine T.seq ?_
    refine T.text [.l, .l, .l, .l, .l, .l, .l] rfl ?_
    refine J.move rfl rfl ?_
    refine J.nilCheck rfl rfl ?_
    refine J.fieldAddr fld89_1 rfl rfl ?_
    refine J.loadB1 (k := .l) trivial hcS (off_nil _) rfl one3 (stkM_n hS) rfl ?_
    refine J.max2 rfl rfl rfl rfl ?_
    refine J.as 15 (.int .i64 (m : Int)) rfl (by congr 1; split <;> omega) ?_
    refine J.makeSlice 16 rfl (q := m) (c0 := m) Try.underlying32 el25 rfl rfl (by first | rfl | omega) (by first | rfl | omega) (by omega) (by omega) (by unfold maxLen; omega) rfl (fun g16 hg16 => ?_)
    rw [zeros_word]
    refine J.assign rfl rfl ?_
    refine J.end ?_
    refine X.then ?_
    refine T.seq ?_
    refine T.text [.l, .l, .l, .l, .l, .l, .l, .l, .l, .l] rfl ?_
    refine J.move rfl rfl ?_
    refine J.move rfl rfl ?_
    refine J.nilCheck rfl rfl ?_
    refine J.fieldAddr fld89_0 rfl rfl ?_
    refine J.move rfl rfl ?_
    refine J.lenSl Try.underlying32 rfl rfl ?_
    refine J.move rfl rfl ?_
    refine J.lenSl Try.underlying32 rfl rfl ?_
    refine J.sliceArr arr58 rfl optInt.none (optInt.some rfl (by omega) (by first | exact Int.toNat_natCast _ | rfl)) (optInt.some rfl (by omega) (by first | exact Int.toNat_natCast _ | rfl)) (by simp) (by omega) (by omega) (by omega) rfl rfl ?_
    refine J.as 25 (.slice (some ⟨g, 0, none⟩) m m) rfl (by simp) ?_
    refine J.copy 16 rfl (o := 0) (q := m) (news := (rowW (S.take m))) sl32 (by decide) rfl rfl rfl (fun _ => rfl) (Nat.min_self _) (by rw [rowW_length, List.length_take]; omega) (fun w hw => ((by have h2 := hcS.left.take (m * 4); rw [rowW_take] at h2; exact h2 : Cs _ _ (rowW (S.take m))).ws hw (off_nil _))) (rowW_one _) (by show _ ≤ (rowW (List.replicate m 0)).length; rw [rowW_length, rowW_length, List.length_take, List.length_replicate]; omega) rfl (rowW (S.take m)) (put_all _ _ (by rw [rowW_length, rowW_length, List.length_take, List.length_replicate]; omega)) ?_
    refine J.end ?_
    refine X.then ?_
    refine T.seq ?_
    refine T.text [.l, .l] rfl ?_
    refine J.move rfl rfl ?_
    refine J.assign rfl rfl ?_
    refine J.end ?_
    refine X.then ?_
    refine T.ret ?_
    refine X.then_ret ?_
    exact X.ret1 rfl (RV.tmp rfl) (fun w' hw' => by
        have hz2 := (wordsA hS m (by omega) (by omega)).trans hz
        subst hz2
        exact ⟨g16, hg16, by rw [List.length_take, Nat.min_eq_left (by omega)]; rfl, hw'.only 16 0 rfl⟩)
  · have hf := ix_lt n
    have hfc := ix_cast n
    refine T.skip ?_
    refine X.then ?_
    refine T.seq ?_
    refine T.text [.l, .l] rfl ?_
    refine J.makeSlice 28 rfl (q := 1024) (c0 := 1024) Try.underlying32 el25 rfl rfl (by first | rfl | omega) (by first | rfl | omega) (by omega) (by omega) (by unfold maxLen; omega) rfl (fun g28 hg28 => ?_)
    rw [zeros_word]
    refine J.assign rfl rfl ?_
    refine J.end ?_
    refine X.then ?_
    refine T.seq ?_
    refine T.text [.l, .l, .l, .l, .l, .l] rfl ?_
    refine J.move rfl rfl ?_
    refine J.nilCheck rfl rfl ?_
    refine J.fieldAddr fld89_1 rfl rfl ?_
    refine J.loadB1 (k := .l) trivial hcS (off_nil _) rfl one3 (stkM_n hS) rfl ?_
    refine J.band rfl rfl rfl (and1023 _) ?_
    refine J.as 33 (.int .i64 ((ix n : Nat) : Int)) rfl (by rw [hfc]) ?_
    refine J.assign rfl rfl ?_
    refine J.end ?_
    refine X.then ?_
    refine T.seq ?_
    refine T.text [.l, .l, .l, .l, .l, .l, .l] rfl ?_
    refine J.move rfl rfl ?_
    refine J.move rfl rfl ?_
    refine J.nilCheck rfl rfl ?_
    refine J.fieldAddr fld89_0 rfl rfl ?_
    refine J.move rfl rfl ?_
    refine J.sliceArr arr58 rfl (optInt.some rfl (by omega) (by first | exact Int.toNat_natCast _ | rfl)) optInt.none optInt.none (by simp) (by omega) (by omega) (by omega) rfl rfl ?_
    refine J.as 39 (.slice (some ⟨g, ix n * 4, none⟩) (1024 - ix n) (1024 - ix n)) rfl (by rw [if_neg (by omega), Nat.add_zero, Nat.zero_add]) ?_
    refine J.copy 28 rfl (o := 0) (q := (1024 - ix n)) (news := (rowW (S.drop (ix n)))) sl32 (by decide) rfl rfl rfl (fun _ => rfl) (by omega) (by rw [rowW_length, List.length_drop, hS]) (fun w hw => ((by have h2 := hcS.left.drop (ix n * 4); rw [rowW_drop] at h2; simpa [add_lit'] using h2 : Cs _ _ (rowW (S.drop (ix n)))).ws hw (off_nil _))) (rowW_one _) (by show _ ≤ (rowW (List.replicate 1024 0)).length; rw [rowW_length, rowW_length, List.length_drop, List.length_replicate]; omega) rfl (rowW (S.drop (ix n) ++ List.replicate (ix n) 0)) ((put_front _ _ (by rw [List.length_drop, List.length_replicate]; omega)).trans (by rw [List.drop_replicate, List.length_drop, hS, show 1024 - (1024 - ix n) = ix n by omega])) ?_
    refine J.end ?_
    refine X.then ?_
    refine T.seq ?_
    refine T.draw [] [(0, .g), (1, .g), (2, .g), (3, .g), (4, .g), (5, .g), (6, .g), (7, .g), (8, .g), (9, .g), (10, .g), (11, .l)] (by kernel_rfl) (by kernel_rfl) ?_ (by repeat (first | exact Sub.nil _ | refine Sub.cons (by first | rfl | (rw [dgs_zero]; rfl) | (rw [List.drop_length]; rfl) | (simp; done) | (congr 2; omega) | (congr 3; omega)) ?_))
    refine J.move rfl rfl ?_
    refine J.move rfl rfl ?_
    refine J.lenSl Try.underlying32 rfl rfl ?_
    refine J.move rfl rfl ?_
    refine J.sub' rfl rfl rfl (by first | exact sub_nat _ _ (by omega) | exact i64_ok _ (by omega) | exact rfl) ?_
    refine J.sliceSl sl32 rfl (optInt.some rfl (by omega) (by first | exact Int.toNat_natCast _ | rfl)) optInt.none optInt.none (by simp) (by omega) (by omega) (by omega) rfl rfl ?_
    refine J.move rfl rfl ?_
    refine J.nilCheck rfl rfl ?_
    refine J.fieldAddr fld89_0 rfl rfl ?_
    refine J.move rfl rfl ?_
    refine J.sliceArr arr58 rfl optInt.none (optInt.some rfl (by omega) (by first | exact Int.toNat_natCast _ | rfl)) optInt.none (by simp) (by omega) (by omega) (by omega) rfl rfl ?_
    refine J.as 51 (.slice (some ⟨g, 0, none⟩) (ix n) 1024) rfl (by rw [if_neg (by omega), Nat.zero_mul, Nat.sub_zero, Nat.sub_zero]) ?_
    refine J.copy 28 rfl (o := ((1024 - ix n) * 4)) (q := (ix n)) (news := (rowW (S.take (ix n)))) sl32 (by decide) rfl rfl rfl (fun hne => by rw [if_neg (fun e => hne (by rw [show ix n = 0 by omega]; rfl))]; simp [hdOf, add_lit']) (by omega) (by rw [rowW_length, List.length_take]; omega) (fun w hw => ((by have h2 := hcS.left.take (ix n * 4); rw [rowW_take] at h2; exact h2 : Cs _ _ (rowW (S.take (ix n)))).ws hw (off_nil _))) (rowW_one _) (by show _ ≤ (rowW (S.drop (ix n) ++ List.replicate (ix n) 0)).length; rw [rowW_length, rowW_length, List.length_append, List.length_drop, List.length_take, List.length_replicate]; omega) rfl (rowW (S.drop (ix n) ++ S.take (ix n))) ((put_back _ _ _ (by rw [List.length_append, List.length_drop, List.length_take, List.length_replicate]; omega)).trans (by rw [List.take_append_of_le_length (by rw [List.length_drop]; omega), List.take_of_length_le (by rw [List.length_drop]; omega)])) ?_
    refine J.end ?_
    refine X.then ?_
    refine T.seq ?_
    refine T.text [.l, .l] rfl ?_
    refine J.move rfl rfl ?_
    refine J.assign rfl rfl ?_
    refine J.end ?_
    refine X.then ?_
    refine T.ret ?_
    exact X.ret1 rfl (RV.tmp rfl) (fun w' hw' => by
        have hz2 := (wordsB hS (by omega)).trans hz
        subst hz2
        exact ⟨g28, hg28, by rw [List.length_append, List.length_drop, List.length_take, hS, show 1024 - ix n + min (ix n) 1024 = 1024 by omega]; rfl, hw'.only 28 0 rfl⟩)

theorem ReadX (w : World) (g : Nat) (i : RowIx) (bs : List Nat) (hm : MOk i bs) (hat : MemAt w 99 5 g i bs) (a : Int) (ha : -9223372036854775808 ≤ a ∧ a ≤ 9223372036854775807) (n : Int) (hn : -9223372036854775808 ≤ n ∧ n ≤ 9223372036854775807) (zs : List Nat) (hz : cutB bs a n = zs) (hE : pieceE bs.length a n = 0) :
    Calls Try.prog 46 [.pointer (some ⟨g, 0, none⟩), .int .i64 a, .int .i64 n].toArray w fun e w' => ExactE w 5 zs e w' := by
  have hle := hm.le
  have hmul := hm.mul
  have hcl := cutB_le bs a n
  refine calls_of_T [] 26 [] Try.func46 rfl Try.ntmps46 (by simp) (WS.refl _ _) ?_
  refine T.seq ?_
  refine T.text [.l, .l] rfl ?_
  refine J.assign rfl rfl ?_
  refine J.assign rfl rfl ?_
  refine J.end ?_
  refine X.then ?_
  refine T.seq ?_
  refine T.text [.l, .l, .l, .l, .l, .l, .l, .l, .l] rfl ?_
  refine J.move rfl rfl ?_
  refine J.move rfl rfl ?_
  refine J.move rfl rfl ?_
  refine J.call0 (k := .l) trivial fok68 rfl rfl (fun w hw => Me.piece w g i bs hm (hat.ws hw) _ (by omega) _ (by omega)) ?_
  refine J.move rfl rfl ?_
  refine J.extract rfl rfl rfl ?_
  refine J.extract rfl rfl rfl ?_
  refine J.assign rfl rfl ?_
  refine J.assign rfl rfl ?_
  refine J.end ?_
  refine X.then ?_
  refine T.seq ?_
  refine T.text [.l, .l, .l, .l] rfl ?_
  refine J.move rfl rfl ?_
  refine J.lenSl Try.underlying22 rfl rfl ?_
  refine J.makeSlice 20 rfl (q := (cutB bs a n).length) (c0 := (cutB bs a n).length) Try.underlying22 el5 rfl rfl (by first | rfl | omega) (by first | rfl | omega) (by omega) (by omega) (by unfold maxLen; omega) rfl (fun g20 hg20 => ?_)
  rw [zeros_nat]
  refine J.assign rfl rfl ?_
  refine J.end ?_
  refine X.then ?_
  refine T.seq ?_
  refine T.text [.l, .l, .l] rfl ?_
  refine J.move rfl rfl ?_
  refine J.move rfl rfl ?_
  refine J.copy 20 rfl (o := 0) (q := (cutB bs a n).length) (news := (rowN .u8 (cutB bs a n))) sl22 (by decide) rfl rfl rfl (fun _ => rfl) (Nat.min_self _) (by rw [rowN_length, Nat.mul_one]) (fun w hw => ((cut_cs hat.rowCs a n).ws hw (off_nil _))) (rowN_one _ _) (by rw [rowN_length]; show _ ≤ (rowN .u8 (List.replicate _ 0)).length; rw [rowN_length, List.length_replicate]; omega) rfl (rowN .u8 (cutB bs a n)) (put_all _ _ (by rw [rowN_length, rowN_length, List.length_replicate])) ?_
  refine J.end ?_
  refine X.then ?_
  refine T.seq ?_
  refine T.text [.l, .l, .l, .l] rfl ?_
  refine J.move rfl rfl ?_
  refine J.move rfl rfl ?_
  refine J.assign rfl rfl ?_
  refine J.assign rfl rfl ?_
  refine J.end ?_
  refine X.then ?_
  refine T.ret ?_
  exact X.ret2 rfl (RV.tmp rfl) (RV.tmp rfl) (fun w' hw' => by
      subst hz
      exact ⟨g20, hg20, by rw [hE]; rfl, hw'.only 20 0 rfl⟩)

theorem RowX (w : World) (A0 : Option Addr) (c0 : Nat) (xs0 : List Nat) (hc0 : Cs w A0 (rowN .u8 xs0)) (hx0 : Dg xs0) (hb0 : xs0.length ≤ 4294967296) (hk0 : xs0.length ≤ c0) (x1 : Nat) (n : Int) (hn : -9223372036854775808 ≤ n ∧ n ≤ 9223372036854775807) (zs : List Nat) (hz : rowR xs0 x1 n = zs) (hE : rowRe n = 0) :
    Calls Try.prog 15 [.slice A0 xs0.length c0, W x1, .int .i64 n].toArray w fun e w' => ExactE w 5 zs e w' := by
  refine calls_of_T [] 38 [] Try.func15 rfl Try.ntmps15 (by simp) (WS.refl _ _) ?_
  refine T.seq ?_
  refine T.text [.l, .l, .l] rfl ?_
  refine J.box 4 rfl rfl (wc x1) rfl rfl (fun g4 hg4 => ?_)
  refine J.assign rfl rfl ?_
  refine J.assign rfl rfl ?_
  refine J.end ?_
  refine X.then ?_
  refine T.seq ?_
  refine T.seq ?_
  refine T.text [.l, .l, .l, .l, .l, .l] rfl ?_
  refine J.move rfl rfl ?_
  refine J.lss rfl rfl rfl rfl ?_
  refine J.move rfl rfl ?_
  refine J.split 13 rfl (fun h1 => ?_) (fun h1 => ?_)
  · skip
    refine J.no rfl rfl rfl rfl ?_
    refine J.no rfl rfl rfl rfl ?_
    refine J.pick_t rfl rfl rfl ?_
    refine J.end ?_
    refine X.then ?_
    refine T.cond_true rfl ?_
    refine T.seq ?_
    refine T.text [.l, .l] rfl ?_
    refine J.assign rfl rfl ?_
    refine J.assign rfl rfl ?_
    refine J.end ?_
    refine X.then ?_
    refine T.ret ?_
    refine X.then_ret ?_
    exact X.ret2 rfl (RV.tmp rfl) (RV.tmp rfl) (fun w' hw' => by exfalso; have h := hE; unfold rowRe at h; rw [if_pos (by omega)] at h; cases h)
  · skip
    refine J.yes rfl rfl ?_
    refine J.move rfl rfl ?_
    refine J.yes rfl rfl ?_
    refine J.gtr rfl rfl rfl rfl ?_
    refine J.pick_f rfl rfl rfl ?_
    refine J.end ?_
    refine X.then ?_
    refine T.cond_dec rfl (fun h2 => ?_) (fun h2 => ?_)
    · skip
      refine T.seq ?_
      refine T.text [.l, .l] rfl ?_
      refine J.assign rfl rfl ?_
      refine J.assign rfl rfl ?_
      refine J.end ?_
      refine X.then ?_
      refine T.ret ?_
      refine X.then_ret ?_
      exact X.ret2 rfl (RV.tmp rfl) (RV.tmp rfl) (fun w' hw' => by exfalso; have h := hE; unfold rowRe at h; rw [if_pos (by omega)] at h; cases h)
    · obtain ⟨m, rfl⟩ := Int.eq_ofNat_of_zero_le (show 0 ≤ n by omega)
      refine T.skip ?_
      refine X.then ?_
      refine T.seq ?_
      refine T.text [.l, .l, .l] rfl ?_
      refine J.move rfl rfl ?_
      refine J.makeSlice 18 rfl (q := m) (c0 := m) Try.underlying22 el5 rfl rfl (by first | rfl | omega) (by first | rfl | omega) (by omega) (by omega) (by unfold maxLen; omega) rfl (fun g18 hg18 => ?_)
      rw [zeros_nat]
      refine J.assign rfl rfl ?_
      refine J.end ?_
      refine X.then ?_
      refine T.seq ?_
      refine T.seq ?_
      refine T.text [.l, .l, .l, .l, .l, .l, .l] rfl ?_
      refine J.loadN (k := .l) trivial 4 rfl rfl agg25 (wc x1) rfl rfl rfl ?_
      refine J.call0 (k := .l) trivial fok53 rfl rfl (fun w hw => Wa.Uint w _) ?_
      refine J.move rfl rfl ?_
      refine J.extract rfl rfl rfl ?_
      refine J.extract rfl rfl rfl ?_
      refine J.assign rfl rfl ?_
      refine J.assign rfl rfl ?_
      refine J.end ?_
      refine X.then ?_
      refine T.seq ?_
      refine T.text [.l, .l, .l, .l, .l, .l, .l, .l] rfl ?_
      refine J.move rfl rfl ?_
      refine J.move rfl rfl ?_
      refine J.split 25 rfl (fun h3 => ?_) (fun h3 => ?_)
      · refine J.as 9 (.int .u64 ((x1 % 2 ^ 256 : Nat) : Int)) rfl (by rw [if_neg h3, lim_small _ (by omega)]) ?_
        refine J.yes rfl rfl ?_
        refine J.move rfl rfl ?_
        refine J.yes rfl rfl ?_
        refine J.move rfl rfl ?_
        refine J.yes rfl rfl ?_
        refine J.lenSl Try.underlying22 rfl rfl ?_
        refine J.yes rfl rfl ?_
        refine J.conv (by rw [Try.underlying3]; rfl) Try.underlying23 rfl rfl (by first | exact wrapu_nat' _ (by omega) | exact wrapu_nat _ | exact u64_wrap _) ?_
        refine J.yes rfl rfl ?_
        refine J.lss rfl rfl rfl rfl ?_
        refine J.pick_t rfl rfl rfl ?_
        refine J.end ?_
        refine X.then ?_
        refine T.cond_dec rfl (fun h4 => ?_) (fun h4 => ?_)
        · skip
          refine T.text [.l, .l, .l, .l, .l] rfl ?_
          refine J.move rfl rfl ?_
          refine J.move rfl rfl ?_
          refine J.move rfl rfl ?_
          refine J.sliceSl sl22 rfl (optInt.some rfl (by omega) (by first | exact Int.toNat_natCast _ | rfl)) optInt.none optInt.none (by simp) (by omega) (by omega) (by omega) rfl rfl ?_
          have hcs35 : Cs w (if c0 = x1 % 2 ^ 256 then A0 else A0.map (·.add (x1 % 2 ^ 256 * 1))) (rowN .u8 (xs0.drop (x1 % 2 ^ 256))) := by
                have := hc0.cut (x1 % 2 ^ 256) 1 c0 (fun e => by rw [rowN_length]; omega)
                rw [Nat.mul_one] at this ⊢
                simpa [rowN, List.map_drop] using this
          refine J.copy 18 rfl (o := 0) (q := (min (xs0.length - x1 % 2 ^ 256) m)) (news := (rowN .u8 ((xs0.drop (x1 % 2 ^ 256)).take m))) sl22 (by decide) rfl rfl rfl (fun _ => rfl) rfl (by rw [rowN_length, List.length_take, List.length_drop, Nat.mul_one, Nat.min_comm]) (fun w hw => ((by have := (hcs35.take m); simpa [rowN, List.map_take] using this : Cs _ _ (rowN .u8 ((xs0.drop (x1 % 2 ^ 256)).take m))).ws hw (off_nil _))) (by first | exact rowN_one _ _ | exact rowW_one _) (by rw [rowN_length]; show _ ≤ (rowN .u8 (List.replicate m 0)).length; rw [rowN_length, List.length_replicate, List.length_take]; omega) rfl (rowN .u8 (rowB xs0 x1 m)) ((put_zero .u8 m _ (by rw [List.length_take]; omega)).trans (by rw [rowB_near])) ?_
          refine J.end ?_
          refine X.then ?_
          refine T.seq ?_
          refine T.text [.l, .l, .l] rfl ?_
          refine J.move rfl rfl ?_
          refine J.assign rfl rfl ?_
          refine J.assign rfl rfl ?_
          refine J.end ?_
          refine X.then ?_
          refine T.ret ?_
          exact X.ret2 rfl (RV.tmp rfl) (RV.tmp rfl) (fun w' hw' => by
              have hz2 : rowB xs0 x1 m = zs := by rw [← hz]; unfold rowR; rw [if_neg (by omega)]; rfl
              subst hz2
              exact ⟨g18, hg18, by rw [rowB_length]; rfl, hw'.only 18 0 (by rfl)⟩)
        · skip
          refine T.skip ?_
          refine X.then ?_
          refine T.seq ?_
          refine T.text [.l, .l, .l] rfl ?_
          refine J.move rfl rfl ?_
          refine J.assign rfl rfl ?_
          refine J.assign rfl rfl ?_
          refine J.end ?_
          refine X.then ?_
          refine T.ret ?_
          exact X.ret2 rfl (RV.tmp rfl) (RV.tmp rfl) (fun w' hw' => by
              have hz2 : rowB xs0 x1 m = zs := by rw [← hz]; unfold rowR; rw [if_neg (by omega)]; rfl
              subst hz2
              exact ⟨g18, hg18, by rw [rowB_length]; rfl, hw'.only 18 0 (by rw [rowB_far _ _ _ (by omega)]; rfl)⟩)
      · have hbig := sizeN_big x1 (by omega)
        refine J.no rfl rfl rfl rfl ?_
        refine J.no rfl rfl rfl rfl ?_
        refine J.no rfl rfl rfl rfl ?_
        refine J.no rfl rfl rfl rfl ?_
        refine J.no rfl rfl rfl rfl ?_
        refine J.pick_f rfl rfl rfl ?_
        refine J.end ?_
        refine X.then ?_
        refine T.cond_false rfl ?_
        refine T.skip ?_
        refine X.then ?_
        refine T.seq ?_
        refine T.text [.l, .l, .l] rfl ?_
        refine J.move rfl rfl ?_
        refine J.assign rfl rfl ?_
        refine J.assign rfl rfl ?_
        refine J.end ?_
        refine X.then ?_
        refine T.ret ?_
        exact X.ret2 rfl (RV.tmp rfl) (RV.tmp rfl) (fun w' hw' => by
            have hz2 : rowB xs0 x1 m = zs := by rw [← hz]; unfold rowR; rw [if_neg (by omega)]; rfl
            subst hz2
            exact ⟨g18, hg18, by rw [rowB_length]; rfl, hw'.only 18 0 (by rw [rowB_far _ _ _ (by omega)]; rfl)⟩)
end Go.Proofs.Ytpkjbeebhdgleaa.Ox
