/-
  Walks, printed by gen.py: what each function hands back, said of numbers.
  Conditions: those that each theorem bears.
-/
import Derived.Test.YtegociefcfcihaaGreatDoorChecked
import Derived.Test.YtegociefcfcihaaGreatDoorFn
import Derived.Test.YtegociefcfcihaaGreatDoorFs
import Derived.Test.YtegociefcfcihaaGreatDoorPy
import Derived.Test.YtegociefcfcihaaGreatDoorRa
import Derived.Test.YtegociefcfcihaaGreatDoorRc
import Derived.Test.YtegociefcfcihaaGreatDoorRe
set_option linter.unusedVariables false
set_option maxRecDepth 20000
namespace Go.Proofs.YtegociefcfcihaaGreatDoor.Rf
open Go Go.Fw

theorem zero256 : ZeroT Tryz.prog 60 (.agg (rowN .i64 (List.replicate 256 0)).toArray) := (by unfold ZeroT; kernel_rfl)
theorem sz60 : SizeT Tryz.prog 60 256 := (by unfold SizeT; kernel_rfl)
theorem el3 : ElT Tryz.prog 3 1 8 (.int .i64 0) := ⟨by kernel_rfl, rfl, by decide, by decide⟩
theorem fok57 : FnOk Tryz.prog 57 := FnOk.mk' Tryz.func57 (by kernel_rfl) rfl
theorem fok69 : FnOk Tryz.prog 69 := FnOk.mk' Tryz.func69 (by kernel_rfl) rfl
theorem fok67 : FnOk Tryz.prog 67 := FnOk.mk' Tryz.func67 (by kernel_rfl) rfl
theorem fok68 : FnOk Tryz.prog 68 := FnOk.mk' Tryz.func68 (by kernel_rfl) rfl
theorem fok102 : FnOk Tryz.prog 102 := FnOk.mk' Tryz.func102 (by kernel_rfl) rfl
theorem fok60 : FnOk Tryz.prog 60 := FnOk.mk' Tryz.func60 (by kernel_rfl) rfl
theorem sz3 : SizeT Tryz.prog 3 1 := (by unfold SizeT; kernel_rfl)
theorem sl48 : SlT Tryz.prog 48 3 1 := ⟨Tryz.underlying48, sz3⟩
theorem one3 : OneT Tryz.prog 3 := ⟨⟨_, Tryz.underlying3, rfl⟩, by kernel_rfl⟩

set_option maxHeartbeats 1000000 in
theorem divide (w : World) (A0 : Option Addr) (c0 : Nat) (xs0 : List Nat) (hc0 : Cs w A0 (rowN .i64 xs0)) (A1 : Option Addr) (c1 : Nat) (xs1 : List Nat) (hc1 : Cs w A1 (rowN .i64 xs1)) (hx0 : Dg xs0) (hb0 : xs0.length ≤ 1048576) (hx1 : Dg xs1) (hb1 : xs1.length ≤ 1048576) (hpos : 0 < vl xs1) :
    Calls Tryz.prog 63 [.slice A0 xs0.length c0, .slice A1 xs1.length c1].toArray w fun e w' => Rows2Post w 3 .i64 (fun qs rs => Dg qs ∧ qs.length = xs0.length ∧ vl qs = vl xs0 / vl xs1 ∧ Dg rs ∧ rs.length ≤ xs1.length + 2 ∧ vl rs = vl xs0 % vl xs1) e w' := by
  refine calls_of_T [] 65 [] Tryz.func63 rfl Tryz.ntmps63 (by simp) (WS.refl _ _) ?_
  refine T.seq ?_
  refine T.text [.l, .l] rfl ?_
  refine J.assign rfl rfl ?_
  refine J.assign rfl rfl ?_
  refine J.end ?_
  refine X.then ?_
  refine T.seq ?_
  refine T.text [.l, .l, .l, .l] rfl ?_
  refine J.move rfl rfl ?_
  refine J.lenSl Tryz.underlying48 rfl rfl ?_
  refine J.makeSlice 13 rfl (q := xs0.length) (c0 := xs0.length) Tryz.underlying48 el3 rfl rfl (by first | rfl | omega) (by first | rfl | omega) (by omega) (by omega) (by unfold maxLen; omega) rfl (fun g13 hg13 => ?_)
  refine J.assign rfl rfl ?_
  refine J.end ?_
  refine X.then ?_
  refine T.seq ?_
  refine T.text [.l] rfl ?_
  refine J.assign rfl rfl ?_
  refine J.end ?_
  refine X.then ?_
  refine T.seq ?_
  refine T.seq ?_
  refine T.text [.l, .l, .l, .l, .l] rfl ?_
  refine J.move rfl rfl ?_
  refine J.lenSl Tryz.underlying48 rfl rfl ?_
  refine J.mul rfl rfl rfl (by first | exact mul_nat 8 _ (by omega) | exact i64_ok _ (by omega) | exact rfl) ?_
  refine J.sub' rfl rfl rfl (by exact i64_ok _ (by omega)) ?_
  refine J.assign rfl rfl ?_
  refine J.end ?_
  refine X.then ?_
  refine T.block ?_
  refine T.addNil 7 3 ?_
  refine T.asE 13 ⟨some g13, 3, rowN .i64 (List.replicate xs0.length 0)⟩ rfl (by rw [zeros_nat]) ?_
  refine T.loop (ι := Nat × List Nat × List Nat × RowIx) (fun ((u, qs, rs, r) : Nat × List Nat × List Nat × RowIx) => u ≤ 8 * xs0.length ∧ qs.length = xs0.length ∧ Dg qs ∧ vl qs = hb (vl xs0 / vl xs1) u ∧ Dg rs ∧ rs.length ≤ xs1.length + 2 ∧ vl rs = vl xs0 / 2 ^ u % vl xs1 ∧ r.Ok 1 rs.length) (fun ((u, qs, rs, r) : Nat × List Nat × List Nat × RowIx) => [(0, .slice A0 xs0.length c0), (1, .slice A1 xs1.length c1), (4, .slice none 0 0), (5, .slice none 0 0), (11, .slice A0 xs0.length c0), (12, .int .i64 ((xs0.length : Nat) : Int)), (13, .slice (hdOf (some g13)) xs0.length xs0.length), (6, .slice (hdOf (some g13)) xs0.length xs0.length), (14, .slice A0 xs0.length c0), (15, .int .i64 ((xs0.length : Nat) : Int)), (8, .int .i64 ((u : Int) - 1)), (7, r.val rs.length)]) (fun ((u, qs, rs, r) : Nat × List Nat × List Nat × RowIx) => [(13, ⟨some g13, 3, rowN .i64 qs⟩), (7, r.ent 3 (rowN .i64 rs))]) (fun ((u, qs, rs, r) : Nat × List Nat × List Nat × RowIx) => u) ⟨(8 * xs0.length), (List.replicate xs0.length 0), [], RowIx.nil⟩ ⟨Nat.le_refl _, List.length_replicate, dq_zeros _ (by decide) _, by rw [hb_big (div_small hx0)]; exact vl_zeros _, Dg.nil, by simp, by rw [Nat.div_eq_of_lt (bits_small hx0), Nat.zero_mod]; rfl, RowIx.nil_ok 1⟩ (by repeat (first | exact Sub.nil _ | refine Sub.cons (by first | rfl | (rw [dgs_zero]; rfl) | (rw [List.drop_length]; rfl) | (simp; done) | (congr 2; omega) | (congr 3; omega)) ?_)) (by repeat (first | exact Sub.nil _ | refine Sub.cons (by first | rfl | (rw [dgs_zero]; rfl) | (rw [List.drop_length]; rfl) | (simp; done) | (congr 2; omega) | (congr 3; omega)) ?_)) ?_
  rintro ⟨u, qs, rs, r⟩ ⟨hu, hql, hqd, hqv, hrd, hrl, hrv, hr⟩
  try dsimp only at *
  refine T.seq ?_
  refine T.seq ?_
  refine T.text [.l, .l] rfl ?_
  refine J.move rfl rfl ?_
  refine J.geq rfl rfl rfl rfl ?_
  refine J.end ?_
  refine X.then ?_
  refine T.cond_dec rfl (fun h1 => ?_) (fun h1 => ?_)
  · obtain ⟨k, rfl⟩ : ∃ k, u = k + 1 := ⟨u - 1, by omega⟩
    refine T.as 8 (.int .i64 (k : Int)) rfl (by first | rfl | (congr 1; omega)) ?_
    have hRl : vl rs < vl xs1 := by rw [hrv]; exact Nat.mod_lt _ hpos
    have hbt := bit_lt (vl xs0) k
    refine T.skip ?_
    refine X.then ?_
    refine T.seq ?_
    refine T.block ?_
    refine T.seq ?_
    refine T.text [.l, .l, .l, .l] rfl ?_
    refine J.move rfl rfl ?_
    refine J.move rfl rfl ?_
    refine J.callRow 24 rfl (t := 3) (kd := .i64) fok57 rfl rfl (fun w hw => Ra.plus w _ _ _ (hw.rowCs (k := 7) rfl) _ _ _ (hw.rowCs (k := 7) rfl) (by assumption) (by omega) (by assumption) (by omega)) (fun zs24 r24 hz24 hr24 => ?_)
    obtain ⟨hD24, hL24, hV24⟩ := hz24
    refine J.assign rfl rfl ?_
    refine J.end ?_
    refine X.then ?_
    refine T.seq ?_
    refine T.seq ?_
    refine T.text [.l, .l, .l, .l] rfl ?_
    refine J.move rfl rfl ?_
    refine J.move rfl rfl ?_
    refine J.call0 (k := .l) trivial fok69 rfl rfl (fun w hw => Re.bit w _ _ _ _ (hc0.ws hw (off_nil _)) (by assumption) (by omega) (by omega)) ?_
    refine J.eql rfl rfl rfl rfl ?_
    refine J.end ?_
    refine X.then ?_
    refine T.cond_dec rfl (fun h2 => ?_) (fun h2 => ?_)
    · have hbi : vl xs0 / 2 ^ k % 2 = 1 := by omega
      refine T.text [.l, .l, .l, .l] rfl ?_
      refine J.move rfl rfl ?_
      refine J.callRow 30 rfl (t := 3) (kd := .i64) fok67 rfl rfl (fun w hw => Rc.small w 1 (by omega)) (fun zs30 r30 hz30 hr30 => ?_)
      obtain ⟨hD30, hL30, hV30⟩ := hz30
      refine J.callRow 31 rfl (t := 3) (kd := .i64) fok57 rfl rfl (fun w hw => Ra.plus w _ _ _ (hw.rowCs (k := 24) rfl) _ _ _ (hw.rowCs (k := 30) rfl) (by assumption) (by omega) (by assumption) (by omega)) (fun zs31 r31 hz31 hr31 => ?_)
      obtain ⟨hD31, hL31, hV31⟩ := hz31
      have hXv : vl zs31 = 2 * vl rs + vl xs0 / 2 ^ k % 2 := by omega
      refine J.assign rfl rfl ?_
      refine J.end ?_
      refine X.then ?_
      refine T.seq ?_
      refine T.text [.l, .l, .l, .l, .l, .l] rfl ?_
      refine J.move rfl rfl ?_
      refine J.move rfl rfl ?_
      refine J.lenSl Tryz.underlying48 rfl rfl ?_
      refine J.add rfl rfl rfl (by first | exact add_nat _ 2 (by omega) | exact i64_ok _ (by omega) | exact rfl) ?_
      refine J.callRow 36 rfl (t := 3) (kd := .i64) fok68 rfl rfl (fun w hw => Ra.cut w _ _ _ (hw.rowCs (k := 31) rfl) _ (by omega)) (fun zs36 r36 hz36 hr36 => ?_)
      obtain ⟨hD36, hL36, hV36⟩ := cut_facts hz36 hD31 (by rw [hXv]; exact div_room hx1 hRl hbt)
      refine J.assign rfl rfl ?_
      refine J.end ?_
      refine X.then ?_
      refine T.seq ?_
      refine T.text [.l, .l, .l, .l] rfl ?_
      refine J.move rfl rfl ?_
      refine J.move rfl rfl ?_
      refine J.call0 (k := .l) trivial fok102 rfl rfl (fun w hw => Ra.compare w _ _ _ (hw.rowCs (k := 36) rfl) _ _ _ (hc1.ws hw (off_nil _)) (by assumption) (by omega) (by assumption) (by omega)) ?_
      refine J.geq rfl rfl rfl rfl ?_
      refine J.end ?_
      refine X.then ?_
      refine T.cond_dec rfl (fun h3 => ?_) (fun h3 => ?_)
      · have hge := cmpN_ge h3
        have hdv := div_ge (N := vl xs0) (k := k) hpos hrv (by omega)
        have hj : k / 8 < qs.length := by omega
        have hst := div_set hqd hqv hj
        have hqg := hqd.getD (k / 8)
        refine T.seq ?_
        refine T.text [.l, .l, .l, .l] rfl ?_
        refine J.move rfl rfl ?_
        refine J.move rfl rfl ?_
        refine J.callRow 43 rfl (t := 3) (kd := .i64) fok60 rfl rfl (fun w hw => Rc.minus w _ _ _ (hw.rowCs (k := 36) rfl) _ _ _ (hc1.ws hw (off_nil _)) (by assumption) (by omega) (by assumption) (by omega) (by first | assumption | omega)) (fun zs43 r43 hz43 hr43 => ?_)
        obtain ⟨hD43, hL43, hV43⟩ := hz43
        refine J.assign rfl rfl ?_
        refine J.end ?_
        refine X.then ?_
        refine T.seq ?_
        refine T.text [.l] rfl ?_
        refine J.assign rfl rfl ?_
        refine J.end ?_
        refine X.then ?_
        refine T.seq ?_
        refine T.seq ?_
        refine T.text [.l] rfl ?_
        refine J.assign rfl rfl ?_
        refine J.end ?_
        refine X.then ?_
        refine T.block ?_
        refine T.loop (ι := Nat) (fun (t : Nat) => t ≤ k % 8) (fun (t : Nat) => [(0, .slice A0 xs0.length c0), (1, .slice A1 xs1.length c1), (4, .slice none 0 0), (5, .slice none 0 0), (11, .slice A0 xs0.length c0), (12, .int .i64 ((xs0.length : Nat) : Int)), (13, .slice (hdOf (some g13)) xs0.length xs0.length), (6, .slice (hdOf (some g13)) xs0.length xs0.length), (14, .slice A0 xs0.length c0), (15, .int .i64 ((xs0.length : Nat) : Int)), (8, .int .i64 (k : Int)), (7, r43.val zs43.length), (18, .int .i64 (((k + 1) : Int) - 1)), (22, r.val rs.length), (23, r.val rs.length), (24, r24.val zs24.length), (25, .slice A0 xs0.length c0), (26, .int .i64 (k : Int)), (29, r24.val zs24.length), (30, r30.val zs30.length), (31, r31.val zs31.length), (32, r31.val zs31.length), (33, .slice A1 xs1.length c1), (34, .int .i64 ((xs1.length : Nat) : Int)), (36, r36.val zs36.length), (37, r36.val zs36.length), (38, .slice A1 xs1.length c1), (41, r36.val zs36.length), (42, .slice A1 xs1.length c1), (43, r43.val zs43.length), (9, .int .i64 ((2 ^ t : Nat) : Int)), (10, .int .i64 (t : Int))]) (fun (t : Nat) => [(13, ⟨some g13, 3, rowN .i64 qs⟩), (7, r.ent 3 (rowN .i64 rs)), (24, r24.ent 3 (rowN .i64 zs24)), (30, r30.ent 3 (rowN .i64 zs30)), (31, r31.ent 3 (rowN .i64 zs31)), (36, r36.ent 3 (rowN .i64 zs36)), (43, r43.ent 3 (rowN .i64 zs43))]) (fun (t : Nat) => 8 - t) 0 (Nat.zero_le _) (by repeat (first | exact Sub.nil _ | refine Sub.cons (by first | rfl | (rw [dgs_zero]; rfl) | (rw [List.drop_length]; rfl) | (simp; done) | (congr 2; omega) | (congr 3; omega)) ?_)) (by repeat (first | exact Sub.nil _ | refine Sub.cons (by first | rfl | (rw [dgs_zero]; rfl) | (rw [List.drop_length]; rfl) | (simp; done) | (congr 2; omega) | (congr 3; omega)) ?_)) ?_
        rintro t ht
        have hpt : 2 ^ t ≤ 128 := Nat.le_trans (Nat.pow_le_pow_right (by omega) (show t ≤ 7 by omega)) (by decide)
        refine T.seq ?_
        refine T.seq ?_
        refine T.text [.l, .l, .l, .l] rfl ?_
        refine J.move rfl rfl ?_
        refine J.move rfl rfl ?_
        refine J.rem rfl rfl rfl (by omega) (by first | exact rem_nat _ 8 | exact rem_ok _ _ (by omega) | exact rfl) ?_
        refine J.lss rfl rfl rfl rfl ?_
        refine J.end ?_
        refine X.then ?_
        refine T.cond_dec rfl (fun h4 => ?_) (fun h4 => ?_)
        · skip
          refine T.skip ?_
          refine X.then ?_
          refine T.seq ?_
          refine T.block ?_
          refine T.text [.l, .l, .l] rfl ?_
          refine J.move rfl rfl ?_
          refine J.mul rfl rfl rfl (by first | exact mul_nat 2 _ (by omega) | exact i64_ok _ (by omega) | exact rfl) ?_
          refine J.assign rfl rfl ?_
          refine J.as 9 (.int .i64 ((2 ^ (t + 1) : Nat) : Int)) rfl (by rw [Nat.pow_succ, Nat.mul_comm]) ?_
          refine J.end ?_
          refine X.inBlock (X.then ?_)
          refine T.text [.l, .l, .l] rfl ?_
          refine J.move rfl rfl ?_
          refine J.add rfl rfl rfl (by first | exact add_nat _ 1 (by omega) | exact i64_ok _ (by omega) | exact rfl) ?_
          refine J.assign rfl rfl ?_
          refine J.end ?_
          exact X.round (t + 1) (by omega) (by first | omega | (dsimp only; omega)) (by repeat (first | exact Sub.nil _ | refine Sub.cons (by first | rfl | (rw [dgs_zero]; rfl) | (rw [List.drop_length]; rfl) | (simp; done) | (congr 2; omega) | (congr 3; omega)) ?_)) (by repeat (first | exact Sub.nil _ | refine Sub.cons (by first | rfl | (rw [dgs_zero]; rfl) | (rw [List.drop_length]; rfl) | (simp; done) | (congr 2; omega) | (congr 3; omega)) ?_))
        · obtain rfl : t = k % 8 := by omega
          have hpt : 2 ^ (k % 8) ≤ 128 := Nat.le_trans (Nat.pow_le_pow_right (by omega) (show k % 8 ≤ 7 by omega)) (by decide)
          refine T.exit ?_
          refine X.then_exit (X.then_exit (X.inBlock_eq (X.then ?_)))
          refine T.text [.l, .l, .l, .l, .l, .l, .l, .l, .l, .l, .l, .l] rfl ?_
          refine J.move rfl rfl ?_
          refine J.move rfl rfl ?_
          refine J.quo rfl rfl rfl (by omega) (by first | exact quo_nat _ 8 (by omega) | exact i64_quo_ok _ _ (by omega) | exact rfl) ?_
          refine J.move rfl rfl ?_
          refine J.move rfl rfl ?_
          refine J.quo rfl rfl rfl (by omega) (by first | exact quo_nat _ 8 (by omega) | exact i64_quo_ok _ _ (by omega) | exact rfl) ?_
          refine J.indexRow sl48 rfl rfl rfl (by omega) (by omega) (by first | exact Int.toNat_natCast _ | rfl) rfl ?_
          refine J.load1 (k := .l) trivial 13 rfl rfl one3 (by first | rfl | with_reducible exact rowN_get0 _ _ _ (by omega) | with_reducible exact rowN_get1 _ _ _ (by omega) | with_reducible exact rowN_get1s _ _ _ _ (by omega) | exact rowN_get1 _ _ _ (by omega) | exact rowN_get1s _ _ _ _ (by omega) | exact rowN_get0 _ _ _ (by omega)) rfl ?_
          refine J.move rfl rfl ?_
          refine J.add rfl rfl rfl (by first | exact add_nat _ _ (by omega) | exact i64_ok _ (by omega) | exact rfl) ?_
          refine J.indexRow sl48 rfl rfl rfl (by omega) (by omega) (by first | exact Int.toNat_natCast _ | rfl) rfl ?_
          refine J.store 13 rfl rfl rfl rfl [.int .i64 ((qs.getD (k / 8) 0 + 2 ^ (k % 8) : Nat) : Int)] rfl sz3 (by rw [rowN_length, hql]; show _ + 1 ≤ _; omega) (by first | exact rowN_one _ _ | (simp; done) | (intro u hu; simp at hu; subst hu; rfl) | (intro u hu; simp at hu; rcases hu with rfl | rfl <;> rfl)) (by first | decide | exact Nat.zero_lt_succ _ | simp) trivial (rowN .i64 (qs.set (k / 8) (qs.getD (k / 8) 0 + 2 ^ (k % 8)))) (by rw [Nat.mul_one]; exact putN' _ _ _ _ (by omega)) ?_
          refine J.end ?_
          refine X.inBlock (X.then ?_)
          refine T.text [.l, .l, .l] rfl ?_
          refine J.move rfl rfl ?_
          refine J.sub' rfl rfl rfl (by exact i64_ok _ (by omega)) ?_
          refine J.assign rfl rfl ?_
          refine J.end ?_
          refine X.mv 43 7 rfl ?_
          exact X.round ⟨k, (qs.set (k / 8) (qs.getD (k / 8) 0 + 2 ^ (k % 8))), zs43, r43⟩ ⟨by omega, by simp [hql], hst.1, by rw [hst.2]; exact hdv.2, hD43, by dsimp only; omega, by rw [hV43, hV36, hXv]; exact hdv.1, hr43⟩ (by first | omega | (dsimp only; omega)) (by repeat (first | exact Sub.nil _ | refine Sub.cons (by first | rfl | (rw [dgs_zero]; rfl) | (rw [List.drop_length]; rfl) | (simp; done) | (congr 2; omega) | (congr 3; omega)) ?_)) (by repeat (first | exact Sub.nil _ | refine Sub.cons (by first | rfl | (rw [dgs_zero]; rfl) | (rw [List.drop_length]; rfl) | (simp; done) | (congr 2; omega) | (congr 3; omega)) ?_))
      · have hlt := cmpN_nge h3
        have hdv := div_lt (N := vl xs0) (k := k) hpos hrv (by omega)
        refine T.skip ?_
        refine X.inBlock (X.then ?_)
        refine T.text [.l, .l, .l] rfl ?_
        refine J.move rfl rfl ?_
        refine J.sub' rfl rfl rfl (by exact i64_ok _ (by omega)) ?_
        refine J.assign rfl rfl ?_
        refine J.end ?_
        refine X.mv 36 7 rfl ?_
        exact X.round ⟨k, qs, zs36, r36⟩ ⟨by omega, hql, hqd, by rw [hqv]; exact hdv.2, hD36, hL36, by rw [hV36, hXv]; exact hdv.1, hr36⟩ (by first | omega | (dsimp only; omega)) (by repeat (first | exact Sub.nil _ | refine Sub.cons (by first | rfl | (rw [dgs_zero]; rfl) | (rw [List.drop_length]; rfl) | (simp; done) | (congr 2; omega) | (congr 3; omega)) ?_)) (by repeat (first | exact Sub.nil _ | refine Sub.cons (by first | rfl | (rw [dgs_zero]; rfl) | (rw [List.drop_length]; rfl) | (simp; done) | (congr 2; omega) | (congr 3; omega)) ?_))
    · have hbi : vl xs0 / 2 ^ k % 2 = 0 := by omega
      have hXv : vl zs24 = 2 * vl rs + vl xs0 / 2 ^ k % 2 := by omega
      refine T.skip ?_
      refine X.then ?_
      refine T.seq ?_
      refine T.text [.l, .l, .l, .l, .l, .l] rfl ?_
      refine J.move rfl rfl ?_
      refine J.move rfl rfl ?_
      refine J.lenSl Tryz.underlying48 rfl rfl ?_
      refine J.add rfl rfl rfl (by first | exact add_nat _ 2 (by omega) | exact i64_ok _ (by omega) | exact rfl) ?_
      refine J.callRow 36 rfl (t := 3) (kd := .i64) fok68 rfl rfl (fun w hw => Ra.cut w _ _ _ (hw.rowCs (k := 24) rfl) _ (by omega)) (fun zs36 r36 hz36 hr36 => ?_)
      obtain ⟨hD36, hL36, hV36⟩ := cut_facts hz36 hD24 (by rw [hXv]; exact div_room hx1 hRl hbt)
      refine J.assign rfl rfl ?_
      refine J.end ?_
      refine X.then ?_
      refine T.seq ?_
      refine T.text [.l, .l, .l, .l] rfl ?_
      refine J.move rfl rfl ?_
      refine J.move rfl rfl ?_
      refine J.call0 (k := .l) trivial fok102 rfl rfl (fun w hw => Ra.compare w _ _ _ (hw.rowCs (k := 36) rfl) _ _ _ (hc1.ws hw (off_nil _)) (by assumption) (by omega) (by assumption) (by omega)) ?_
      refine J.geq rfl rfl rfl rfl ?_
      refine J.end ?_
      refine X.then ?_
      refine T.cond_dec rfl (fun h5 => ?_) (fun h5 => ?_)
      · have hge := cmpN_ge h5
        have hdv := div_ge (N := vl xs0) (k := k) hpos hrv (by omega)
        have hj : k / 8 < qs.length := by omega
        have hst := div_set hqd hqv hj
        have hqg := hqd.getD (k / 8)
        refine T.seq ?_
        refine T.text [.l, .l, .l, .l] rfl ?_
        refine J.move rfl rfl ?_
        refine J.move rfl rfl ?_
        refine J.callRow 43 rfl (t := 3) (kd := .i64) fok60 rfl rfl (fun w hw => Rc.minus w _ _ _ (hw.rowCs (k := 36) rfl) _ _ _ (hc1.ws hw (off_nil _)) (by assumption) (by omega) (by assumption) (by omega) (by first | assumption | omega)) (fun zs43 r43 hz43 hr43 => ?_)
        obtain ⟨hD43, hL43, hV43⟩ := hz43
        refine J.assign rfl rfl ?_
        refine J.end ?_
        refine X.then ?_
        refine T.seq ?_
        refine T.text [.l] rfl ?_
        refine J.assign rfl rfl ?_
        refine J.end ?_
        refine X.then ?_
        refine T.seq ?_
        refine T.seq ?_
        refine T.text [.l] rfl ?_
        refine J.assign rfl rfl ?_
        refine J.end ?_
        refine X.then ?_
        refine T.block ?_
        refine T.loop (ι := Nat) (fun (t : Nat) => t ≤ k % 8) (fun (t : Nat) => [(0, .slice A0 xs0.length c0), (1, .slice A1 xs1.length c1), (4, .slice none 0 0), (5, .slice none 0 0), (11, .slice A0 xs0.length c0), (12, .int .i64 ((xs0.length : Nat) : Int)), (13, .slice (hdOf (some g13)) xs0.length xs0.length), (6, .slice (hdOf (some g13)) xs0.length xs0.length), (14, .slice A0 xs0.length c0), (15, .int .i64 ((xs0.length : Nat) : Int)), (8, .int .i64 (k : Int)), (7, r43.val zs43.length), (18, .int .i64 (((k + 1) : Int) - 1)), (22, r.val rs.length), (23, r.val rs.length), (24, r24.val zs24.length), (25, .slice A0 xs0.length c0), (26, .int .i64 (k : Int)), (32, r24.val zs24.length), (33, .slice A1 xs1.length c1), (34, .int .i64 ((xs1.length : Nat) : Int)), (36, r36.val zs36.length), (37, r36.val zs36.length), (38, .slice A1 xs1.length c1), (41, r36.val zs36.length), (42, .slice A1 xs1.length c1), (43, r43.val zs43.length), (9, .int .i64 ((2 ^ t : Nat) : Int)), (10, .int .i64 (t : Int))]) (fun (t : Nat) => [(13, ⟨some g13, 3, rowN .i64 qs⟩), (7, r.ent 3 (rowN .i64 rs)), (24, r24.ent 3 (rowN .i64 zs24)), (36, r36.ent 3 (rowN .i64 zs36)), (43, r43.ent 3 (rowN .i64 zs43))]) (fun (t : Nat) => 8 - t) 0 (Nat.zero_le _) (by repeat (first | exact Sub.nil _ | refine Sub.cons (by first | rfl | (rw [dgs_zero]; rfl) | (rw [List.drop_length]; rfl) | (simp; done) | (congr 2; omega) | (congr 3; omega)) ?_)) (by repeat (first | exact Sub.nil _ | refine Sub.cons (by first | rfl | (rw [dgs_zero]; rfl) | (rw [List.drop_length]; rfl) | (simp; done) | (congr 2; omega) | (congr 3; omega)) ?_)) ?_
        rintro t ht
        have hpt : 2 ^ t ≤ 128 := Nat.le_trans (Nat.pow_le_pow_right (by omega) (show t ≤ 7 by omega)) (by decide)
        refine T.seq ?_
        refine T.seq ?_
        refine T.text [.l, .l, .l, .l] rfl ?_
        refine J.move rfl rfl ?_
        refine J.move rfl rfl ?_
        refine J.rem rfl rfl rfl (by omega) (by first | exact rem_nat _ 8 | exact rem_ok _ _ (by omega) | exact rfl) ?_
        refine J.lss rfl rfl rfl rfl ?_
        refine J.end ?_
        refine X.then ?_
        refine T.cond_dec rfl (fun h6 => ?_) (fun h6 => ?_)
        · skip
          refine T.skip ?_
          refine X.then ?_
          refine T.seq ?_
          refine T.block ?_
          refine T.text [.l, .l, .l] rfl ?_
          refine J.move rfl rfl ?_
          refine J.mul rfl rfl rfl (by first | exact mul_nat 2 _ (by omega) | exact i64_ok _ (by omega) | exact rfl) ?_
          refine J.assign rfl rfl ?_
          refine J.as 9 (.int .i64 ((2 ^ (t + 1) : Nat) : Int)) rfl (by rw [Nat.pow_succ, Nat.mul_comm]) ?_
          refine J.end ?_
          refine X.inBlock (X.then ?_)
          refine T.text [.l, .l, .l] rfl ?_
          refine J.move rfl rfl ?_
          refine J.add rfl rfl rfl (by first | exact add_nat _ 1 (by omega) | exact i64_ok _ (by omega) | exact rfl) ?_
          refine J.assign rfl rfl ?_
          refine J.end ?_
          exact X.round (t + 1) (by omega) (by first | omega | (dsimp only; omega)) (by repeat (first | exact Sub.nil _ | refine Sub.cons (by first | rfl | (rw [dgs_zero]; rfl) | (rw [List.drop_length]; rfl) | (simp; done) | (congr 2; omega) | (congr 3; omega)) ?_)) (by repeat (first | exact Sub.nil _ | refine Sub.cons (by first | rfl | (rw [dgs_zero]; rfl) | (rw [List.drop_length]; rfl) | (simp; done) | (congr 2; omega) | (congr 3; omega)) ?_))
        · obtain rfl : t = k % 8 := by omega
          have hpt : 2 ^ (k % 8) ≤ 128 := Nat.le_trans (Nat.pow_le_pow_right (by omega) (show k % 8 ≤ 7 by omega)) (by decide)
          refine T.exit ?_
          refine X.then_exit (X.then_exit (X.inBlock_eq (X.then ?_)))
          refine T.text [.l, .l, .l, .l, .l, .l, .l, .l, .l, .l, .l, .l] rfl ?_
          refine J.move rfl rfl ?_
          refine J.move rfl rfl ?_
          refine J.quo rfl rfl rfl (by omega) (by first | exact quo_nat _ 8 (by omega) | exact i64_quo_ok _ _ (by omega) | exact rfl) ?_
          refine J.move rfl rfl ?_
          refine J.move rfl rfl ?_
          refine J.quo rfl rfl rfl (by omega) (by first | exact quo_nat _ 8 (by omega) | exact i64_quo_ok _ _ (by omega) | exact rfl) ?_
          refine J.indexRow sl48 rfl rfl rfl (by omega) (by omega) (by first | exact Int.toNat_natCast _ | rfl) rfl ?_
          refine J.load1 (k := .l) trivial 13 rfl rfl one3 (by first | rfl | with_reducible exact rowN_get0 _ _ _ (by omega) | with_reducible exact rowN_get1 _ _ _ (by omega) | with_reducible exact rowN_get1s _ _ _ _ (by omega) | exact rowN_get1 _ _ _ (by omega) | exact rowN_get1s _ _ _ _ (by omega) | exact rowN_get0 _ _ _ (by omega)) rfl ?_
          refine J.move rfl rfl ?_
          refine J.add rfl rfl rfl (by first | exact add_nat _ _ (by omega) | exact i64_ok _ (by omega) | exact rfl) ?_
          refine J.indexRow sl48 rfl rfl rfl (by omega) (by omega) (by first | exact Int.toNat_natCast _ | rfl) rfl ?_
          refine J.store 13 rfl rfl rfl rfl [.int .i64 ((qs.getD (k / 8) 0 + 2 ^ (k % 8) : Nat) : Int)] rfl sz3 (by rw [rowN_length, hql]; show _ + 1 ≤ _; omega) (by first | exact rowN_one _ _ | (simp; done) | (intro u hu; simp at hu; subst hu; rfl) | (intro u hu; simp at hu; rcases hu with rfl | rfl <;> rfl)) (by first | decide | exact Nat.zero_lt_succ _ | simp) trivial (rowN .i64 (qs.set (k / 8) (qs.getD (k / 8) 0 + 2 ^ (k % 8)))) (by rw [Nat.mul_one]; exact putN' _ _ _ _ (by omega)) ?_
          refine J.end ?_
          refine X.inBlock (X.then ?_)
          refine T.text [.l, .l, .l] rfl ?_
          refine J.move rfl rfl ?_
          refine J.sub' rfl rfl rfl (by exact i64_ok _ (by omega)) ?_
          refine J.assign rfl rfl ?_
          refine J.end ?_
          refine X.mv 43 7 rfl ?_
          exact X.round ⟨k, (qs.set (k / 8) (qs.getD (k / 8) 0 + 2 ^ (k % 8))), zs43, r43⟩ ⟨by omega, by simp [hql], hst.1, by rw [hst.2]; exact hdv.2, hD43, by dsimp only; omega, by rw [hV43, hV36, hXv]; exact hdv.1, hr43⟩ (by first | omega | (dsimp only; omega)) (by repeat (first | exact Sub.nil _ | refine Sub.cons (by first | rfl | (rw [dgs_zero]; rfl) | (rw [List.drop_length]; rfl) | (simp; done) | (congr 2; omega) | (congr 3; omega)) ?_)) (by repeat (first | exact Sub.nil _ | refine Sub.cons (by first | rfl | (rw [dgs_zero]; rfl) | (rw [List.drop_length]; rfl) | (simp; done) | (congr 2; omega) | (congr 3; omega)) ?_))
      · have hlt := cmpN_nge h5
        have hdv := div_lt (N := vl xs0) (k := k) hpos hrv (by omega)
        refine T.skip ?_
        refine X.inBlock (X.then ?_)
        refine T.text [.l, .l, .l] rfl ?_
        refine J.move rfl rfl ?_
        refine J.sub' rfl rfl rfl (by exact i64_ok _ (by omega)) ?_
        refine J.assign rfl rfl ?_
        refine J.end ?_
        refine X.mv 36 7 rfl ?_
        exact X.round ⟨k, qs, zs36, r36⟩ ⟨by omega, hql, hqd, by rw [hqv]; exact hdv.2, hD36, hL36, by rw [hV36, hXv]; exact hdv.1, hr36⟩ (by first | omega | (dsimp only; omega)) (by repeat (first | exact Sub.nil _ | refine Sub.cons (by first | rfl | (rw [dgs_zero]; rfl) | (rw [List.drop_length]; rfl) | (simp; done) | (congr 2; omega) | (congr 3; omega)) ?_)) (by repeat (first | exact Sub.nil _ | refine Sub.cons (by first | rfl | (rw [dgs_zero]; rfl) | (rw [List.drop_length]; rfl) | (simp; done) | (congr 2; omega) | (congr 3; omega)) ?_))
  · obtain rfl : u = 0 := by omega
    refine T.exit ?_
    refine X.then_exit (X.then_exit (X.inBlock_eq (X.then ?_)))
    refine T.seq ?_
    refine T.text [.l, .l, .l, .l] rfl ?_
    refine J.move rfl rfl ?_
    refine J.move rfl rfl ?_
    refine J.assign rfl rfl ?_
    refine J.assign rfl rfl ?_
    refine J.end ?_
    refine X.then ?_
    refine T.ret ?_
    exact X.ret2 rfl (RV.tmp rfl) (RV.tmp rfl) (fun w' hw' => ⟨qs, rs, ⟨hqd, hql, by rw [hqv, hb_zero], hrd, hrl, by rw [hrv, Nat.pow_zero, Nat.div_one]⟩, ⟨some g13, xs0.length, []⟩, r, (by rw [← hql]; exact RowIx.blk_ok' g13 qs.length 1 (by unfold maxLen; omega)), hr, (by rw [hql]; rfl), hw'.pairOf 13 7 (by simp [RowIx.ent]; rfl) rfl (by decide) 0 1 (by decide)⟩)
end Go.Proofs.YtegociefcfcihaaGreatDoor.Rf
