/-
  Texts that the statement stands on, one behind the other: plain lemmas and walks of functions.
  No condition.
-/
import Derived.Test.YtlllcafedekojaaGreatDoorChecked
import Derived.Test.YtlllcafedekojaaGreatDoorRows
import Derived.ProofKit
import Derived.LaidMore
import Derived.OpenShut
import Derived.Stop.Joined
import Derived.Below
import Derived.Test.YtlllcafedekojaaGreatDoorMja
import Derived.Test.YtlllcafedekojaaGreatDoorMjb
import Derived.Test.YtlllcafedekojaaGreatDoorMjc
import Derived.Test.YtlllcafedekojaaGreatDoorMjd
import Derived.Test.YtlllcafedekojaaGreatDoorMje
set_option linter.unusedVariables false
set_option maxRecDepth 20000
namespace Go.Proofs.YtlllcafedekojaaGreatDoor.Dp
open Go Go.Fw

theorem sz287 : SizeT Tryz.prog 287 32 := (by unfold SizeT; kernel_rfl)
theorem fok85 : FnOk Tryz.prog 85 := FnOk.mk' Tryz.func85 (by kernel_rfl) rfl
theorem fok86 : FnOk Tryz.prog 86 := FnOk.mk' Tryz.func86 (by kernel_rfl) rfl
theorem one26 : OneT Tryz.prog 26 := ⟨⟨_, Tryz.underlying26, rfl⟩, by kernel_rfl⟩
theorem one22 : OneT Tryz.prog 22 := ⟨⟨_, Tryz.underlying22, rfl⟩, by kernel_rfl⟩
theorem fok35 : FnOk Tryz.prog 35 := FnOk.mk' Tryz.func35 (by kernel_rfl) rfl
theorem sz26 : SizeT Tryz.prog 26 1 := (by unfold SizeT; kernel_rfl)
theorem zero22 : ZeroT Tryz.prog 22 (.slice none 0 0) := (by unfold ZeroT; kernel_rfl)
theorem zero26 : ZeroT Tryz.prog 26 (.int .i64 0) := (by unfold ZeroT; kernel_rfl)
theorem fok49 : FnOk Tryz.prog 49 := FnOk.mk' Tryz.func49 (by kernel_rfl) rfl
theorem zero56 : ZeroT Tryz.prog 56 (.agg ([.int .u8 0, .int .u8 0, .int .u8 0, .int .u8 0, .int .u8 0, .int .u8 0, .int .u8 0, .int .u8 0, .int .u8 0, .int .u8 0, .int .u8 0, .int .u8 0, .int .u8 0, .int .u8 0, .int .u8 0, .int .u8 0, .int .u8 0, .int .u8 0, .int .u8 0, .int .u8 0, .int .u64 0, .int .u64 0, .int .u64 0, .int .u64 0, .int .u64 0, .slice none 0 0, .slice none 0 0]).toArray) := (by unfold ZeroT; kernel_rfl)
theorem sz53 : SizeT Tryz.prog 53 35 := (by unfold SizeT; kernel_rfl)
theorem sl25 : SlT Tryz.prog 25 53 35 := ⟨Tryz.underlying25, sz53⟩
theorem sz47 : SizeT Tryz.prog 47 20 := (by unfold SizeT; kernel_rfl)
theorem fld53_0 : FldT Tryz.prog 53 0 47 0 19 := ⟨by kernel_rfl, sz47⟩
theorem sz5 : SizeT Tryz.prog 5 1 := (by unfold SizeT; kernel_rfl)
theorem arr47 : ArrT Tryz.prog 47 20 5 1 := ⟨Tryz.underlying47, sz5⟩
theorem sz56 : SizeT Tryz.prog 56 27 := (by unfold SizeT; kernel_rfl)
theorem sl22 : SlT Tryz.prog 22 56 27 := ⟨Tryz.underlying22, sz56⟩
theorem fld56_0 : FldT Tryz.prog 56 0 47 0 19 := ⟨by kernel_rfl, sz47⟩
theorem fok40 : FnOk Tryz.prog 40 := FnOk.mk' Tryz.func40 (by kernel_rfl) rfl
theorem agg56 : AggT Tryz.prog 56 27 := ⟨⟨_, Tryz.underlying56, rfl⟩, by kernel_rfl⟩
theorem agg47 : AggT Tryz.prog 47 20 := ⟨⟨_, Tryz.underlying47, rfl⟩, by kernel_rfl⟩
theorem one5 : OneT Tryz.prog 5 := ⟨⟨_, Tryz.underlying5, rfl⟩, by kernel_rfl⟩
theorem eqA47 : EqA Tryz.prog 47 20 := ⟨⟨5, arr47, one5, Tryz.underlying5⟩, by kernel_rfl⟩
theorem fok51 : FnOk Tryz.prog 51 := FnOk.mk' Tryz.func51 (by kernel_rfl) rfl
theorem fok52 : FnOk Tryz.prog 52 := FnOk.mk' Tryz.func52 (by kernel_rfl) rfl
theorem el56 : ElT Tryz.prog 56 27 112 (.agg ([.int .u8 0, .int .u8 0, .int .u8 0, .int .u8 0, .int .u8 0, .int .u8 0, .int .u8 0, .int .u8 0, .int .u8 0, .int .u8 0, .int .u8 0, .int .u8 0, .int .u8 0, .int .u8 0, .int .u8 0, .int .u8 0, .int .u8 0, .int .u8 0, .int .u8 0, .int .u8 0, .int .u64 0, .int .u64 0, .int .u64 0, .int .u64 0, .int .u64 0, .slice none 0 0, .slice none 0 0]).toArray) := ⟨by kernel_rfl, rfl, by decide, by decide⟩
theorem sz22 : SizeT Tryz.prog 22 1 := (by unfold SizeT; kernel_rfl)
theorem fok50 : FnOk Tryz.prog 50 := FnOk.mk' Tryz.func50 (by kernel_rfl) rfl

theorem Apply1 (w : World) (ge go : Nat) (A : Option Addr) (c : Nat) (b : Ac) (hcb : b.code.length = 0) (hlb : lookZ b = 0) (hA : Cs w A (rowA [b])) (ho : Off [ge, go] A) (h5 : Ent.At w ⟨some ge, 26, [.int .i64 0]⟩) (h4 : Ent.At w ⟨some go, 22, [.slice A 1 c]⟩) (hne : ge ≠ go) :
    CallsD Tryz.prog 50 [.pointer (some ⟨ge, 0, none⟩), .pointer (some ⟨go, 0, none⟩)].toArray .returning w fun e u w' => u = .returning ∧ ((∃ z, e = .returned z) ∧ WS w [ge, go] [(5, ⟨some ge, 26, [.int .i64 0]⟩), (4, ⟨some go, 22, [.slice A 1 c]⟩)] w') := by
  refine callsD_of_T [ge, go] 11 [(5, ⟨some ge, 26, [.int .i64 0]⟩), (4, ⟨some go, 22, [.slice A 1 c]⟩)] Tryz.func50 rfl Tryz.ntmps50 (by simp) (WS.two54 h5 h4 hne) ?_
  refine T.seq ?_
  refine T.seq ?_
  refine T.text [.l, .l] rfl ?_
  refine J.load1 (k := .l) trivial 5 rfl rfl one26 rfl rfl ?_
  refine J.eql rfl rfl rfl (decide_eq_true (by first | omega | rfl | assumption | (simp only [*]; done))) ?_
  refine J.end ?_
  refine X.then ?_
  refine T.cond_true rfl ?_
  refine T.text [.l, .l, .l, .l, .l, .l] rfl ?_
  refine J.load1 (k := .l) trivial 4 rfl rfl one22 rfl rfl ?_
  refine J.call0 (k := .l) trivial fok35 rfl rfl (fun w hw => Dj.Check w _ _ b (hA.ws hw ho) hcb hlb) ?_
  refine J.move rfl rfl ?_
  refine J.extract rfl rfl rfl ?_
  refine J.extract rfl rfl rfl ?_
  refine J.store 5 rfl rfl rfl rfl [.int .i64 0] rfl sz26 (by first | decide | exact Nat.le_refl _ | exact Nat.le_of_ble_eq_true rfl | (simp [rowN]; done) | (simp [rowN]; omega)) (by intro u hu; rw [List.mem_singleton.1 hu]; rfl) (by first | decide | exact Nat.zero_lt_succ _ | simp) trivial [.int .i64 0] rfl ?_
  refine J.end ?_
  refine X.then ?_
  refine T.seq ?_
  refine T.text [.l, .l] rfl ?_
  refine J.load1 (k := .l) trivial 5 rfl rfl one26 rfl rfl ?_
  refine J.neq rfl rfl rfl (decide_eq_false (by first | omega | rfl | assumption | (simp only [*]; done))) ?_
  refine J.end ?_
  refine X.then ?_
  refine T.cond_false rfl ?_
  refine T.skip ?_
  exact X.end0 rfl (fun w' hw' => ⟨⟨_, rfl⟩, hw'.sub (by repeat (first | exact Sub.nil _ | refine Sub.cons rfl ?_))⟩)

set_option maxHeartbeats 4000000 in
theorem Apply (w : World) (n : Nat) (B : List (Option Nat)) (a : Ac) (c : Ch) (gA gD cA cD : Nat) (hn : n ≤ w.heap.size) (hB : ∀ g, some g ∈ B → g < w.heap.size) (hA : Cs w (some ⟨gA, 0, none⟩) (rowA [a])) (hD : Cs w (some ⟨gD, 0, none⟩) (rowC [c])) (hcA : 1 ≤ cA) (hcD : 1 ≤ cD) (hnn : a.nonce < 18446744073709551616) (hc0 : a.code = []) (hs0 : a.sl.length = 0) (hla : lookZ a = 0) (hcO : c.Ok w n B) (hmay : c.v.may) (hkd : c.kind = 2) (ho : c.oc = []) (hno : c.nc = []) (hbal : a.bal % 2 ^ 256 = c.old % 2 ^ 256) (hnz : c.new % 2 ^ 256 ≠ 0) (hwho : adL c.who = adL a.who) :
    Calls Tryz.prog 24 [.slice (some ⟨gA, 0, none⟩) 1 cA, .slice (some ⟨gD, 0, none⟩) 1 cD].toArray w fun e w' => ∃ q : RowIx × RowIx, (q.2.Ok 27 1 ∧ Fit w' n B (hdOf q.2.id) (rowA [a.moved c.new q.1])) ∧ e = .returned (.tuple #[q.2.val 1, .int .i64 0]) ∧ WS w [] [] w' := by
  have hcm := (cmp_ad c.who a.who).symm.trans (show cmpL (adL c.who) (adL a.who) = 0 by rw [hwho, cmp_ad]; exact cmpZ_eq rfl)
  have hfz : formZ ([c].map Ch.v) = 0 := by show formF none [c.v] = 0; unfold formF; rw [if_neg (fun q => q hmay)]; rfl
  refine calls_of_TD [] 101 [] Tryz.func24 rfl Tryz.ntmps24 (by simp) (WS.refl _ _) ?_
  refine T.seq ?_
  refine T.text [.l, .l] rfl ?_
  refine J.alloc 4 rfl zero22 [.slice none 0 0] rfl rfl (fun g4 hg4 => ?_)
  refine J.alloc 5 rfl zero26 [.int .i64 0] rfl rfl (fun g5 hg5 => ?_)
  refine J.end ?_
  refine X.then ?_
  refine T.seq ?_
  refine T.seq ?_
  refine T.text [.l, .l, .l, .l, .l, .l, .l] rfl ?_
  refine J.move rfl rfl ?_
  refine J.call0 (k := .l) trivial fok35 rfl rfl (fun w hw => Dj.Check w _ _ a (hA.ws hw (off_nil _)) (by rw [hc0]; rfl) hla) ?_
  refine J.move rfl rfl ?_
  refine J.extract rfl rfl rfl ?_
  refine J.extract rfl rfl rfl ?_
  refine J.assign rfl rfl ?_
  refine J.assign rfl rfl ?_
  refine J.end ?_
  refine X.then ?_
  refine T.seq ?_
  refine T.text [.l, .l] rfl ?_
  refine J.move rfl rfl ?_
  refine J.neq rfl rfl rfl (decide_eq_false (by first | omega | rfl | assumption | (simp only [*]; done))) ?_
  refine J.end ?_
  refine X.then ?_
  refine T.cond_false rfl ?_
  refine T.skip ?_
  refine X.then ?_
  refine T.seq ?_
  refine T.seq ?_
  refine T.text [.l, .l, .l] rfl ?_
  refine J.move rfl rfl ?_
  refine J.call0 (k := .l) trivial fok49 rfl rfl (fun w hw => Db.form w n _ _ _ [c] (hD.ws hw (off_nil _)) (AllC.snoc AllC.nil (hcO.keep (keep_base (B0 := B) (l1 := []) hn (fun g hg => by cases hg) hw (Sub.nil _) rfl))) (by simp)) ?_
  refine J.as 21 (.int .i64 0) rfl (by rw [hfz]) ?_
  refine J.assign rfl rfl ?_
  refine J.end ?_
  refine X.then ?_
  refine T.seq ?_
  refine T.text [.l, .l] rfl ?_
  refine J.move rfl rfl ?_
  refine J.neq rfl rfl rfl (decide_eq_false (by first | omega | rfl | assumption | (simp only [*]; done))) ?_
  refine J.end ?_
  refine X.then ?_
  refine T.cond_false rfl ?_
  refine T.skip ?_
  refine X.then ?_
  refine T.seq ?_
  refine T.textD 1 [.l] _ _ rfl rfl rfl ?_
  refine J.makeFunc (vf := []) (vc := [_, _]) rfl rfl rfl ?_
  refine J.putOff rfl ?_
  refine X.then ?_
  refine T.seq ?_
  refine T.block ?_
  refine T.addNil 60 56 ?_
  refine T.loop (ι := Nat × Option Addr × Nat × Option Addr × Nat × RowIx × List Ac) (fun ((k, A, cc, E, ee, r, xs) : Nat × Option Addr × Nat × Option Addr × Nat × RowIx × List Ac) => k ≤ 1 ∧ (k = 1 → some ⟨gA, 0, none⟩ = A ∧ cA = cc ∧ some ⟨gD, 0, none⟩ = E ∧ cD = ee ∧ RowIx.nil = r ∧ ([] : List Ac) = xs) ∧ (k = 0 → r.Ok 27 1 ∧ ∃ q : RowIx, [a.moved c.new q] = xs)) (fun ((k, A, cc, E, ee, r, xs) : Nat × Option Addr × Nat × Option Addr × Nat × RowIx × List Ac) => [(4, .pointer (some ⟨g4, 0, none⟩)), (5, .pointer (some ⟨g5, 0, none⟩)), (25, .func (.func 50) #[] [.pointer (some ⟨g5, 0, none⟩), .pointer (some ⟨g4, 0, none⟩)].toArray), (0, .slice A k cc), (1, .slice E k ee)]) (fun ((k, A, cc, E, ee, r, xs) : Nat × Option Addr × Nat × Option Addr × Nat × RowIx × List Ac) => [(5, ⟨some g5, 26, [.int .i64 0]⟩), (4, ⟨some g4, 22, [r.val xs.length]⟩), (60, r.ent 56 (rowA xs))]) (fun ((k, A, cc, E, ee, r, xs) : Nat × Option Addr × Nat × Option Addr × Nat × RowIx × List Ac) => k) ⟨1, some ⟨gA, 0, none⟩, cA, some ⟨gD, 0, none⟩, cD, RowIx.nil, []⟩ ⟨Nat.le_refl _, fun _ => ⟨rfl, rfl, rfl, rfl, rfl, rfl⟩, fun q => (by cases q)⟩ (by repeat (first | exact Sub.nil _ | refine Sub.cons (by first | rfl | (rw [dgs_zero]; rfl) | (rw [List.drop_length]; rfl) | (simp; done) | (congr 2; omega) | (congr 3; omega)) ?_ | exact Sub.refl _ | refine sub_snap ?_ rfl)) (by repeat (first | exact Sub.nil _ | refine Sub.cons (by first | rfl | (rw [dgs_zero]; rfl) | (rw [List.drop_length]; rfl) | (simp; done) | (congr 2; omega) | (congr 3; omega)) ?_ | exact Sub.refl _ | refine sub_snap ?_ rfl)) ?_
  rintro ⟨k, A, cc, E, ee, r, xs⟩ ⟨hk, hk1, hk0⟩
  try dsimp only at *
  refine T.seq ?_
  refine T.seq ?_
  refine T.text [.l, .l, .l, .l, .l, .l, .l, .l] rfl ?_
  refine J.move rfl rfl ?_
  refine J.lenSl Tryz.underlying22 rfl rfl ?_
  refine J.gtr rfl rfl rfl rfl ?_
  refine J.move rfl rfl ?_
  refine J.split 29 rfl (fun h1 => ?_) (fun h1 => ?_)
  · obtain rfl : k = 1 := by omega
    obtain ⟨rfl, rfl, rfl, rfl, rfl, rfl⟩ := hk1 rfl
    refine J.no rfl rfl rfl rfl ?_
    refine J.no rfl rfl rfl rfl ?_
    refine J.no rfl rfl rfl rfl ?_
    refine J.pick_t rfl rfl rfl ?_
    refine J.end ?_
    refine X.then ?_
    refine T.cond_true rfl ?_
    refine T.skip ?_
    refine X.then ?_
    refine T.block ?_
    refine T.seq ?_
    refine T.text [.l] rfl ?_
    refine J.alloc 9 rfl zero56 [.int .u8 0, .int .u8 0, .int .u8 0, .int .u8 0, .int .u8 0, .int .u8 0, .int .u8 0, .int .u8 0, .int .u8 0, .int .u8 0, .int .u8 0, .int .u8 0, .int .u8 0, .int .u8 0, .int .u8 0, .int .u8 0, .int .u8 0, .int .u8 0, .int .u8 0, .int .u8 0, .int .u64 0, .int .u64 0, .int .u64 0, .int .u64 0, .int .u64 0, .slice none 0 0, .slice none 0 0] rfl rfl (fun g9 hg9 => ?_)
    refine J.end ?_
    refine X.then ?_
    refine T.seq ?_
    refine T.seq ?_
    refine T.draw [] [(0, .g), (1, .g), (2, .g), (3, .g), (4, .g), (5, .g), (6, .g), (7, .g), (8, .g), (9, .g), (10, .g), (11, .g), (12, .g), (13, .g), (14, .g), (15, .g), (16, .q), (17, .g), (18, .g), (19, .g)] (by kernel_rfl) (by kernel_rfl) ?_ (by repeat (first | exact Sub.nil _ | refine Sub.cons (by first | rfl | (rw [dgs_zero]; rfl) | (rw [List.drop_length]; rfl) | (simp; done) | (congr 2; omega) | (congr 3; omega)) ?_ | exact Sub.refl _ | refine sub_snap ?_ rfl))
    refine J.move rfl rfl ?_
    refine J.lenSl Tryz.underlying22 rfl rfl ?_
    refine J.eql rfl rfl rfl (decide_eq_false (by first | omega | rfl | assumption | (simp only [*]; done))) ?_
    refine J.move rfl rfl ?_
    refine J.yes rfl rfl ?_
    refine J.move rfl rfl ?_
    refine J.yes rfl rfl ?_
    refine J.lenSl Tryz.underlying25 rfl rfl ?_
    refine J.yes rfl rfl ?_
    refine J.gtr rfl rfl rfl (decide_eq_true (by first | omega | rfl | assumption | (simp only [*]; done))) ?_
    refine J.yes rfl rfl ?_
    refine J.move rfl rfl ?_
    refine J.yes rfl rfl ?_
    refine J.move rfl rfl ?_
    refine J.yes rfl rfl ?_
    refine J.indexSlI sl25 rfl (hD.isSome (by rw [rowC_length]; simp)) rfl (by omega) (by omega) (by rfl) rfl ?_
    refine J.yes rfl rfl ?_
    refine J.fieldAddrI fld53_0 rfl rfl ?_
    refine J.as 44 (.pointer (some ⟨gD, 0, none⟩)) rfl (by rfl) ?_
    refine J.yes rfl rfl ?_
    refine J.sliceArr arr47 rfl optInt.none optInt.none optInt.none (by simp) (by omega) (by omega) (by omega) rfl rfl ?_
    refine J.yes rfl rfl ?_
    refine J.move rfl rfl ?_
    refine J.yes rfl rfl ?_
    refine J.indexSlI sl22 rfl (hA.isSome (by rw [rowA_length]; simp)) rfl (by omega) (by omega) (by rfl) rfl ?_
    refine J.yes rfl rfl ?_
    refine J.fieldAddrI fld56_0 rfl rfl ?_
    refine J.as 48 (.pointer (some ⟨gA, 0, none⟩)) rfl (by rfl) ?_
    refine J.yes rfl rfl ?_
    refine J.sliceArr arr47 rfl optInt.none optInt.none optInt.none (by simp) (by omega) (by omega) (by omega) rfl rfl ?_
    refine J.yes rfl rfl ?_
    refine J.call0 (k := .q) trivial fok40 rfl rfl (fun w hw => Da.Compare w _ _ _ _ (adL c.who) (adL a.who) (row_acC (hD.ws hw (off_nil _))) (row_acA (hA.ws hw (off_nil _))) (adL_dg _) (adL_dg _)) ?_
    refine J.as 50 (.int .i64 0) rfl (by rw [cmp_ad, hcm]) ?_
    refine J.yes rfl rfl ?_
    refine J.lss rfl rfl rfl (decide_eq_false (by first | omega | rfl | assumption | (simp only [*]; done))) ?_
    refine J.yes rfl rfl ?_
    refine J.pick_t rfl rfl rfl ?_
    refine J.pick_f rfl rfl rfl ?_
    refine J.end ?_
    refine X.then ?_
    refine T.cond_false rfl ?_
    refine T.draw [] [(0, .g), (1, .g), (2, .q), (3, .g), (4, .g), (5, .l), (6, .g)] (by kernel_rfl) (by kernel_rfl) ?_ (by repeat (first | exact Sub.nil _ | refine Sub.cons (by first | rfl | (rw [dgs_zero]; rfl) | (rw [List.drop_length]; rfl) | (simp; done) | (congr 2; omega) | (congr 3; omega)) ?_ | exact Sub.refl _ | refine sub_snap ?_ rfl))
    refine J.move rfl rfl ?_
    refine J.indexSlI sl22 rfl (hA.isSome (by rw [rowA_length]; simp)) rfl (by omega) (by omega) (by rfl) rfl ?_
    refine J.loadIN (k := .q) trivial hA (off_nil _) rfl agg56 (a.cells) rfl (by rfl) rfl ?_
    refine J.move rfl rfl ?_
    refine J.sliceSl sl22 rfl (optInt.some rfl (by omega) (by rfl)) optInt.none optInt.none (by simp) (by omega) (by omega) (by omega) rfl rfl ?_
    refine J.store 9 rfl rfl rfl rfl (a.cells) rfl sz56 (Nat.le_of_ble_eq_true rfl) (by first | exact Ac.cells_one _ | exact Ch.cells_one _) (Nat.zero_lt_succ _) trivial (a.cells) rfl ?_
    refine J.assign rfl rfl ?_
    refine J.end ?_
    refine X.then ?_
    refine T.seq ?_
    refine T.text [.l] rfl ?_
    refine J.assign rfl rfl ?_
    refine J.end ?_
    refine X.then ?_
    refine T.seq ?_
    refine T.block ?_
    refine T.loop (ι := Nat) (fun (j : Nat) => j ≤ 1) (fun (j : Nat) => [(4, .pointer (some ⟨g4, 0, none⟩)), (5, .pointer (some ⟨g5, 0, none⟩)), (25, .func (.func 50) #[] [.pointer (some ⟨g5, 0, none⟩), .pointer (some ⟨g4, 0, none⟩)].toArray), (0, .slice (if cA = 1 then some ⟨gA, 0, none⟩ else (some ⟨gA, 0, none⟩ : Option Addr).map (·.add (1 * 27))) 0 (cA - 1)), (1, .slice (some ⟨gD, 0, none⟩) 1 cD), (9, .pointer (some ⟨g9, 0, none⟩)), (10, .int .i64 (j : Int))]) (fun (j : Nat) => [(5, ⟨some g5, 26, [.int .i64 0]⟩), (4, ⟨some g4, 22, [RowIx.nil.val [].length]⟩), (60, RowIx.nil.ent 56 (rowA [])), (9, ⟨some g9, 56, (a.cells)⟩)]) (fun (j : Nat) => 1 - j) 0 (Nat.zero_le _) (by repeat (first | exact Sub.nil _ | refine Sub.cons (by first | rfl | (rw [dgs_zero]; rfl) | (rw [List.drop_length]; rfl) | (simp; done) | (congr 2; omega) | (congr 3; omega)) ?_ | exact Sub.refl _ | refine sub_snap ?_ rfl)) (by repeat (first | exact Sub.nil _ | refine Sub.cons (by first | rfl | (rw [dgs_zero]; rfl) | (rw [List.drop_length]; rfl) | (simp; done) | (congr 2; omega) | (congr 3; omega)) ?_ | exact Sub.refl _ | refine sub_snap ?_ rfl)) ?_
    rintro j hj
    refine T.seq ?_
    refine T.seq ?_
    refine T.draw [] [(0, .g), (1, .g), (2, .g), (3, .g), (4, .g), (5, .g), (6, .g), (7, .g), (8, .g), (9, .q), (10, .g), (11, .q), (12, .g), (13, .g)] (by kernel_rfl) (by kernel_rfl) ?_ (by repeat (first | exact Sub.nil _ | refine Sub.cons (by first | rfl | (rw [dgs_zero]; rfl) | (rw [List.drop_length]; rfl) | (simp; done) | (congr 2; omega) | (congr 3; omega)) ?_ | exact Sub.refl _ | refine sub_snap ?_ rfl))
    refine J.move rfl rfl ?_
    refine J.move rfl rfl ?_
    refine J.lenSl Tryz.underlying25 rfl rfl ?_
    refine J.lss rfl rfl rfl rfl ?_
    refine J.move rfl rfl ?_
    refine J.split 68 rfl (fun h2 => ?_) (fun h2 => ?_)
    · obtain rfl : j = 0 := by omega
      refine J.yes rfl rfl ?_
      refine J.move rfl rfl ?_
      refine J.yes rfl rfl ?_
      refine J.move rfl rfl ?_
      refine J.yes rfl rfl ?_
      refine J.indexSlI sl25 rfl (hD.isSome (by rw [rowC_length]; simp)) rfl (by omega) (by omega) (by first | exact Int.toNat_natCast _ | rfl) rfl ?_
      refine J.yes rfl rfl ?_
      refine J.fieldAddrI fld53_0 rfl rfl ?_
      refine J.yes rfl rfl ?_
      refine J.loadIN (k := .q) trivial hD (off_nil _) rfl agg47 (ac c.who) rfl (by rfl) rfl ?_
      refine J.yes rfl rfl ?_
      refine J.fieldAddr fld56_0 rfl rfl ?_
      refine J.yes rfl rfl ?_
      refine J.loadN (k := .q) trivial 9 rfl rfl agg47 (ac a.who) rfl rfl rfl ?_
      refine J.yes rfl rfl ?_
      refine J.eqA eqA47 rfl rfl (by rfl) (by rfl) rfl ?_
      refine J.as 76 (.bool true) rfl (by rw [decide_eq_true hwho]) ?_
      refine J.pick_t rfl rfl rfl ?_
      refine J.end ?_
      refine X.then ?_
      refine T.cond_true rfl ?_
      refine T.skip ?_
      refine X.then ?_
      refine T.block ?_
      refine T.text [.l, .l, .l] rfl ?_
      refine J.move rfl rfl ?_
      refine J.add rfl rfl rfl (by first | exact add_nat _ 1 (by omega) | exact i64_ok _ (by omega) | exact rfl) ?_
      refine J.assign rfl rfl ?_
      refine J.end ?_
      refine X.inBlock ?_
      exact X.round (0 + 1) (Nat.le_refl _) (by first | omega | (dsimp only; omega)) (by repeat (first | exact Sub.nil _ | refine Sub.cons (by first | rfl | (rw [dgs_zero]; rfl) | (rw [List.drop_length]; rfl) | (simp; done) | (congr 2; omega) | (congr 3; omega)) ?_ | exact Sub.refl _ | refine sub_snap ?_ rfl)) (by repeat (first | exact Sub.nil _ | refine Sub.cons (by first | rfl | (rw [dgs_zero]; rfl) | (rw [List.drop_length]; rfl) | (simp; done) | (congr 2; omega) | (congr 3; omega)) ?_ | exact Sub.refl _ | refine sub_snap ?_ rfl))
    · obtain rfl : j = 1 := by omega
      refine J.no rfl rfl rfl rfl ?_
      refine J.no rfl rfl rfl rfl ?_
      refine J.no rfl rfl rfl rfl ?_
      refine J.no rfl rfl rfl rfl ?_
      refine J.no rfl rfl rfl rfl ?_
      refine J.no rfl rfl rfl rfl ?_
      refine J.no rfl rfl rfl rfl ?_
      refine J.no rfl rfl rfl rfl ?_
      refine J.pick_f rfl rfl rfl ?_
      refine J.end ?_
      refine X.then ?_
      refine T.cond_false rfl ?_
      refine T.exit ?_
      refine X.then_exit (X.then_exit (X.inBlock_eq (X.then ?_)))
      refine T.seq ?_
      refine T.draw [] [(0, .q), (1, .g), (2, .g), (3, .g), (4, .l), (5, .g), (6, .g), (7, .g), (8, .l), (9, .g)] (by kernel_rfl) (by kernel_rfl) ?_ (by repeat (first | exact Sub.nil _ | refine Sub.cons (by first | rfl | (rw [dgs_zero]; rfl) | (rw [List.drop_length]; rfl) | (simp; done) | (congr 2; omega) | (congr 3; omega)) ?_ | exact Sub.refl _ | refine sub_snap ?_ rfl))
      refine J.loadN (k := .q) trivial 9 rfl rfl agg56 (a.cells) rfl rfl rfl ?_
      refine J.move rfl rfl ?_
      refine J.move rfl rfl ?_
      refine J.sliceSl sl25 rfl optInt.none (optInt.some rfl (by omega) (by first | exact Int.toNat_natCast _ | rfl)) optInt.none (by simp) (by omega) (by omega) (by omega) rfl rfl ?_
      refine J.as 84 (.slice (some ⟨gD, 0, none⟩) 1 cD) rfl (by first | (rw [slice0]; done) | (rw [slice0]; rfl)) ?_
      refine J.callB fok51 rfl rfl _ _ [(5, ⟨some g5, 26, [.int .i64 0]⟩), (4, ⟨some g4, 22, [RowIx.nil.val [].length]⟩), (60, RowIx.nil.ent 56 (rowA [])), (9, ⟨some g9, 56, (a.cells)⟩)] (by repeat (first | exact Sub.nil _ | refine Sub.cons (by first | rfl | (rw [dgs_zero]; rfl) | (rw [List.drop_length]; rfl) | (simp; done) | (congr 2; omega) | (congr 3; omega)) ?_ | exact Sub.refl _ | refine sub_snap ?_ rfl)) rfl (fun _ _ => Sub.nil _) (fun w hw => Dn.turned w a c _ cD hnn hc0 hs0 (hD.ws hw (off_nil _)) hcD hkd ho hno hbal) (fun i85 W85 hP85 hW85 => ?_)
      have hVW85 := hW85.sub (Sub.nil _)
      refine J.move rfl rfl ?_
      refine J.extract rfl rfl rfl ?_
      refine J.extract rfl rfl rfl ?_
      refine J.store 9 rfl rfl rfl rfl ((a.moved c.new i85).cells) rfl sz56 (Nat.le_of_ble_eq_true rfl) (by first | exact Ac.cells_one _ | exact Ch.cells_one _) (Nat.zero_lt_succ _) trivial ((a.moved c.new i85).cells) rfl ?_
      refine J.assign rfl rfl ?_
      refine J.end ?_
      refine X.then ?_
      refine T.seq ?_
      refine T.seq ?_
      refine T.text [.l, .l] rfl ?_
      refine J.move rfl rfl ?_
      refine J.not rfl rfl rfl ?_
      refine J.end ?_
      refine X.then ?_
      refine T.cond_false rfl ?_
      refine T.skip ?_
      refine X.then ?_
      refine T.seq ?_
      refine T.text [.l, .l, .l, .l] rfl ?_
      refine J.move rfl rfl ?_
      refine J.move rfl rfl ?_
      refine J.sliceSl sl25 rfl (optInt.some rfl (by omega) (by first | exact Int.toNat_natCast _ | rfl)) optInt.none optInt.none (by simp) (by omega) (by omega) (by omega) rfl rfl ?_
      refine J.assign rfl rfl ?_
      refine J.end ?_
      refine X.then ?_
      refine T.seq ?_
      refine T.text [.l, .l, .l] rfl ?_
      refine J.loadN (k := .l) trivial 9 rfl rfl agg56 ((a.moved c.new i85).cells) rfl rfl rfl ?_
      refine J.call0 (k := .l) trivial fok52 rfl rfl (fun w hw => Di.empty w (a.moved c.new i85)) ?_
      refine J.as 94 (.bool false) rfl (by rw [decide_eq_false (moved_void hnz)]) ?_
      refine J.not rfl rfl rfl ?_
      refine J.end ?_
      refine X.then ?_
      refine T.cond_true rfl ?_
      refine T.text [.l, .l, .l, .l, .l] rfl ?_
      refine J.load1 (k := .l) trivial 4 rfl rfl one22 rfl rfl ?_
      refine J.loadN (k := .l) trivial 9 rfl rfl agg56 ((a.moved c.new i85).cells) rfl rfl rfl ?_
      refine J.lit1 98 rfl Tryz.underlying22 el56 (by decide) rfl ((a.moved c.new i85).cells) rfl rfl rfl (fun g98 hg98 => ?_)
      refine J.append (i := RowIx.nil) (cs := []) 60 rfl Tryz.underlying22 el56 rfl (RowIx.nil_ok 27) rfl rfl rfl rfl (fun w hw => (hw.blkCs (k := 98) rfl)) (Ac.cells_one _) (by omega) (by unfold maxLen; omega) rfl 1 rfl (rowA ([] ++ [(a.moved c.new i85)])) (rowA_snoc [] _).symm (fun r99 hr99 => ?_)
      refine J.store 4 rfl rfl rfl rfl [r99.val 1] rfl sz22 (by first | decide | exact Nat.le_refl _ | exact Nat.le_of_ble_eq_true rfl | (simp [rowN]; done) | (simp [rowN]; omega)) (by intro u hu; rw [List.mem_singleton.1 hu]; rfl) (by first | decide | exact Nat.zero_lt_succ _ | simp) trivial [r99.val 1] rfl ?_
      refine J.end ?_
      refine X.inBlock ?_
      exact X.round ⟨0, (if cA = 1 then some ⟨gA, 0, none⟩ else (some ⟨gA, 0, none⟩ : Option Addr).map (·.add (1 * 27))), (cA - 1), (if cD = 1 then some ⟨gD, 0, none⟩ else (some ⟨gD, 0, none⟩ : Option Addr).map (·.add (1 * 35))), (cD - 1), r99, [(a.moved c.new i85)]⟩ ⟨Nat.zero_le _, fun q => (by cases q), fun _ => ⟨hr99, i85, rfl⟩⟩ (by show 0 < 1; omega) (by repeat (first | exact Sub.nil _ | refine Sub.cons (by first | rfl | (rw [dgs_zero]; rfl) | (rw [List.drop_length]; rfl) | (simp; done) | (congr 2; omega) | (congr 3; omega)) ?_ | exact Sub.refl _ | refine sub_snap ?_ rfl)) (by repeat (first | exact Sub.nil _ | refine Sub.cons (by first | rfl | (rw [dgs_zero]; rfl) | (rw [List.drop_length]; rfl) | (simp; done) | (congr 2; omega) | (congr 3; omega)) ?_ | exact Sub.refl _ | refine sub_snap ?_ rfl))
  · obtain rfl : k = 0 := by omega
    obtain ⟨hr, q, rfl⟩ := hk0 rfl
    refine J.yes rfl rfl ?_
    refine J.move rfl rfl ?_
    refine J.yes rfl rfl ?_
    refine J.lenSl Tryz.underlying25 rfl rfl ?_
    refine J.yes rfl rfl ?_
    refine J.gtr rfl rfl rfl (decide_eq_false (by first | omega | rfl | assumption | (simp only [*]; done))) ?_
    refine J.pick_f rfl rfl rfl ?_
    refine J.end ?_
    refine X.then ?_
    refine T.cond_false rfl ?_
    refine T.exit ?_
    refine X.then_exit (X.then_exit (X.inBlock_eq (X.then ?_)))
    refine T.seq ?_
    refine T.text [.l, .l, .l] rfl ?_
    refine J.load1 (k := .l) trivial 4 rfl rfl one22 rfl rfl ?_
    refine J.store 4 rfl rfl rfl rfl [r.val 1] rfl sz22 (by first | decide | exact Nat.le_refl _ | exact Nat.le_of_ble_eq_true rfl | (simp [rowN]; done) | (simp [rowN]; omega)) (by intro u hu; rw [List.mem_singleton.1 hu]; rfl) (by first | decide | exact Nat.zero_lt_succ _ | simp) trivial [r.val 1] rfl ?_
    refine J.store 5 rfl rfl rfl rfl [.int .i64 0] rfl sz26 (by first | decide | exact Nat.le_refl _ | exact Nat.le_of_ble_eq_true rfl | (simp [rowN]; done) | (simp [rowN]; omega)) (by intro u hu; rw [List.mem_singleton.1 hu]; rfl) (by first | decide | exact Nat.zero_lt_succ _ | simp) trivial [.int .i64 0] rfl ?_
    refine J.end ?_
    refine X.then ?_
    refine T.ret ?_
    refine X.retD2 (M' := [g5, g4]) (l2 := [(5, ⟨some g5, 26, [.int .i64 0]⟩), (4, ⟨some g4, 22, [r.val 1]⟩)]) rfl rfl fok50 (fun w hw => (Dp.Apply1 w g5 g4 (hdOf r.id) r.cap (a.moved c.new q) rfl (moved_look hnz) (hw.rowCs (k := 60) rfl) (off_two hw (a := 5) (b := 4) (j := 60) rfl rfl rfl (by decide) (by decide)) (hw.live 5 _ rfl) (hw.live 4 _ rfl) (fun h => hw.apart 5 4 _ _ g5 rfl rfl (by decide) rfl (by rw [h]))).mono (fun e u w' h => h)) (hM54 rfl rfl rfl rfl) (RV.one 4 rfl rfl one22 rfl) (RV.one 5 rfl rfl one26 rfl) (fun w' hw' => ?_)
    exact ⟨(q, r), ⟨hr, fit_row hw' (j := 60) rfl (fun g h => ⟨hB g h, fun q => by cases q⟩)⟩, rfl, hw'.sub (Sub.nil _)⟩
end Go.Proofs.YtlllcafedekojaaGreatDoor.Dp
set_option linter.unusedVariables false
set_option maxRecDepth 20000
namespace Go.Proofs.YtlllcafedekojaaGreatDoor.Dq
open Go Go.Fw

theorem sz287 : SizeT Tryz.prog 287 32 := (by unfold SizeT; kernel_rfl)
theorem sz56 : SizeT Tryz.prog 56 27 := (by unfold SizeT; kernel_rfl)
theorem sl22 : SlT Tryz.prog 22 56 27 := ⟨Tryz.underlying22, sz56⟩
theorem sz47 : SizeT Tryz.prog 47 20 := (by unfold SizeT; kernel_rfl)
theorem fld56_0 : FldT Tryz.prog 56 0 47 0 19 := ⟨by kernel_rfl, sz47⟩
theorem agg47 : AggT Tryz.prog 47 20 := ⟨⟨_, Tryz.underlying47, rfl⟩, by kernel_rfl⟩
theorem sz5 : SizeT Tryz.prog 5 1 := (by unfold SizeT; kernel_rfl)
theorem arr47 : ArrT Tryz.prog 47 20 5 1 := ⟨Tryz.underlying47, sz5⟩
theorem one5 : OneT Tryz.prog 5 := ⟨⟨_, Tryz.underlying5, rfl⟩, by kernel_rfl⟩
theorem eqA47 : EqA Tryz.prog 47 20 := ⟨⟨5, arr47, one5, Tryz.underlying5⟩, by kernel_rfl⟩
theorem sz48 : SizeT Tryz.prog 48 1 := (by unfold SizeT; kernel_rfl)
theorem fld56_1 : FldT Tryz.prog 56 1 48 20 0 := ⟨by kernel_rfl, sz48⟩
theorem one48 : OneT Tryz.prog 48 := ⟨⟨_, Tryz.underlying48, rfl⟩, by kernel_rfl⟩
theorem sz50 : SizeT Tryz.prog 50 4 := (by unfold SizeT; kernel_rfl)
theorem fld56_2 : FldT Tryz.prog 56 2 50 21 3 := ⟨by kernel_rfl, sz50⟩
theorem agg50 : AggT Tryz.prog 50 4 := ⟨⟨_, Tryz.underlying50, rfl⟩, by kernel_rfl⟩
theorem arr50 : ArrT Tryz.prog 50 4 48 1 := ⟨Tryz.underlying50, sz48⟩
theorem eqw50 : EqT Tryz.prog 50 := ⟨⟨48, arr50, one48, Tryz.underlying48⟩, by kernel_rfl⟩
theorem sz51 : SizeT Tryz.prog 51 1 := (by unfold SizeT; kernel_rfl)
theorem fld56_3 : FldT Tryz.prog 56 3 51 25 0 := ⟨by kernel_rfl, sz51⟩
theorem one51 : OneT Tryz.prog 51 := ⟨⟨_, Tryz.underlying51, rfl⟩, by kernel_rfl⟩
theorem sz54 : SizeT Tryz.prog 54 1 := (by unfold SizeT; kernel_rfl)
theorem fld56_4 : FldT Tryz.prog 56 4 54 26 0 := ⟨by kernel_rfl, sz54⟩
theorem one54 : OneT Tryz.prog 54 := ⟨⟨_, Tryz.underlying54, rfl⟩, by kernel_rfl⟩

theorem worlds (w : World) (A1 A2 : Option Addr) (c1 c2 : Nat) (a b : Ac) (hA : Cs w A1 (rowA [a])) (hD : Cs w A2 (rowA [b])) (hwho : adL a.who = adL b.who) (hno : a.nonce = b.nonce) (hbal : a.bal % 2 ^ 256 = b.bal % 2 ^ 256) (hca : a.code = []) (hcb : b.code = []) (hsa : a.sl.length = 0) (hsb : b.sl.length = 0) :
    Calls Tryz.prog 26 [.slice A1 1 c1, .slice A2 1 c2].toArray w fun e w' => e = .returned (.bool true) ∧ WS w [] [] w' := by
  refine calls_of_T [] 112 [] Tryz.func26 rfl Tryz.ntmps26 (by simp) (WS.refl _ _) ?_
  refine T.seq ?_
  refine T.text [.l] rfl ?_
  refine J.assign rfl rfl ?_
  refine J.end ?_
  refine X.then ?_
  refine T.seq ?_
  refine T.seq ?_
  refine T.text [.l, .l, .l, .l, .l] rfl ?_
  refine J.move rfl rfl ?_
  refine J.lenSl Tryz.underlying22 rfl rfl ?_
  refine J.move rfl rfl ?_
  refine J.lenSl Tryz.underlying22 rfl rfl ?_
  refine J.neq rfl rfl rfl (decide_eq_false (by first | omega | rfl | assumption | (simp only [*]; done))) ?_
  refine J.end ?_
  refine X.then ?_
  refine T.cond_false rfl ?_
  refine T.skip ?_
  refine X.then ?_
  refine T.seq ?_
  refine T.seq ?_
  refine T.text [.l] rfl ?_
  refine J.assign rfl rfl ?_
  refine J.end ?_
  refine X.then ?_
  refine T.block ?_
  refine T.loop (ι := Nat) (fun (i : Nat) => i ≤ 1) (fun (i : Nat) => [(0, .slice A1 1 c1), (1, .slice A2 1 c2), (5, .int .i64 ((i : Nat) : Int))]) (fun (i : Nat) => []) (fun (i : Nat) => 1 - i) 0 (Nat.zero_le _) (by repeat (first | exact Sub.nil _ | refine Sub.cons (by first | rfl | (rw [dgs_zero]; rfl) | (rw [List.drop_length]; rfl) | (simp; done) | (congr 2; omega) | (congr 3; omega)) ?_)) (by repeat (first | exact Sub.nil _ | refine Sub.cons (by first | rfl | (rw [dgs_zero]; rfl) | (rw [List.drop_length]; rfl) | (simp; done) | (congr 2; omega) | (congr 3; omega)) ?_)) ?_
  rintro i hi
  refine T.seq ?_
  refine T.seq ?_
  refine T.text [.l, .l, .l, .l] rfl ?_
  refine J.move rfl rfl ?_
  refine J.move rfl rfl ?_
  refine J.lenSl Tryz.underlying22 rfl rfl ?_
  refine J.lss rfl rfl rfl rfl ?_
  refine J.end ?_
  refine X.then ?_
  refine T.cond_dec rfl (fun h1 => ?_) (fun h1 => ?_)
  · obtain rfl : i = 0 := by omega
    refine T.skip ?_
    refine X.then ?_
    refine T.seq ?_
    refine T.block ?_
    refine T.seq ?_
    refine T.seq ?_
    refine T.draw [] [(0, .g), (1, .g), (2, .g), (3, .g), (4, .q), (5, .g), (6, .g), (7, .g), (8, .g), (9, .q), (10, .g), (11, .g), (12, .g), (13, .g), (14, .g), (15, .g), (16, .q), (17, .g), (18, .g), (19, .g), (20, .g), (21, .q), (22, .g), (23, .g), (24, .g), (25, .g), (26, .g), (27, .g), (28, .g), (29, .q), (30, .g), (31, .g), (32, .g), (33, .g), (34, .q), (35, .g), (36, .g), (37, .g), (38, .g), (39, .g), (40, .g), (41, .g), (42, .q), (43, .q), (44, .g), (45, .g), (46, .g), (47, .g), (48, .q), (49, .q), (50, .g), (51, .g), (52, .g), (53, .g), (54, .g), (55, .g), (56, .g), (57, .q), (58, .g), (59, .g), (60, .g), (61, .g), (62, .g), (63, .q), (64, .g), (65, .g), (66, .g)] (by kernel_rfl) (by kernel_rfl) ?_ (by repeat (first | exact Sub.nil _ | refine Sub.cons (by first | rfl | (rw [dgs_zero]; rfl) | (rw [List.drop_length]; rfl) | (simp; done) | (congr 2; omega) | (congr 3; omega)) ?_))
    refine J.move rfl rfl ?_
    refine J.move rfl rfl ?_
    refine J.indexSlI sl22 rfl (hA.isSome (by rw [rowA_length]; simp)) rfl (by omega) (by omega) (by first | exact Int.toNat_natCast _ | rfl) rfl ?_
    refine J.fieldAddrI fld56_0 rfl rfl ?_
    refine J.loadIN (k := .q) trivial hA (off_nil _) rfl agg47 (ac a.who) rfl (by rfl) rfl ?_
    refine J.move rfl rfl ?_
    refine J.move rfl rfl ?_
    refine J.indexSlI sl22 rfl (hD.isSome (by rw [rowA_length]; simp)) rfl (by omega) (by omega) (by first | exact Int.toNat_natCast _ | rfl) rfl ?_
    refine J.fieldAddrI fld56_0 rfl rfl ?_
    refine J.loadIN (k := .q) trivial hD (off_nil _) rfl agg47 (ac b.who) rfl (by rfl) rfl ?_
    refine J.neqA eqA47 rfl rfl (by rfl) (by rfl) rfl ?_
    refine J.as 28 (.bool false) rfl (by rw [decide_eq_false (fun q => q (hwho))]) ?_
    refine J.move rfl rfl ?_
    refine J.yes rfl rfl ?_
    refine J.move rfl rfl ?_
    refine J.yes rfl rfl ?_
    refine J.move rfl rfl ?_
    refine J.yes rfl rfl ?_
    refine J.indexSlI sl22 rfl (hA.isSome (by rw [rowA_length]; simp)) rfl (by omega) (by omega) (by first | exact Int.toNat_natCast _ | rfl) rfl ?_
    refine J.yes rfl rfl ?_
    refine J.fieldAddrI fld56_1 rfl rfl ?_
    refine J.yes rfl rfl ?_
    refine J.loadI1 (k := .q) trivial hA (off_nil _) rfl one48 (by rfl) rfl ?_
    refine J.yes rfl rfl ?_
    refine J.move rfl rfl ?_
    refine J.yes rfl rfl ?_
    refine J.move rfl rfl ?_
    refine J.yes rfl rfl ?_
    refine J.indexSlI sl22 rfl (hD.isSome (by rw [rowA_length]; simp)) rfl (by omega) (by omega) (by first | exact Int.toNat_natCast _ | rfl) rfl ?_
    refine J.yes rfl rfl ?_
    refine J.fieldAddrI fld56_1 rfl rfl ?_
    refine J.yes rfl rfl ?_
    refine J.loadI1 (k := .q) trivial hD (off_nil _) rfl one48 (by rfl) rfl ?_
    refine J.yes rfl rfl ?_
    refine J.neq rfl rfl rfl (decide_eq_false (by first | omega | rfl | assumption | (simp only [*]; done))) ?_
    refine J.pick_f rfl rfl rfl ?_
    refine J.move rfl rfl ?_
    refine J.yes rfl rfl ?_
    refine J.move rfl rfl ?_
    refine J.yes rfl rfl ?_
    refine J.move rfl rfl ?_
    refine J.yes rfl rfl ?_
    refine J.indexSlI sl22 rfl (hA.isSome (by rw [rowA_length]; simp)) rfl (by omega) (by omega) (by first | exact Int.toNat_natCast _ | rfl) rfl ?_
    refine J.yes rfl rfl ?_
    refine J.fieldAddrI fld56_2 rfl rfl ?_
    refine J.yes rfl rfl ?_
    refine J.loadIN (k := .q) trivial hA (off_nil _) rfl agg50 (wc a.bal) rfl (by rfl) rfl ?_
    refine J.yes rfl rfl ?_
    refine J.move rfl rfl ?_
    refine J.yes rfl rfl ?_
    refine J.move rfl rfl ?_
    refine J.yes rfl rfl ?_
    refine J.indexSlI sl22 rfl (hD.isSome (by rw [rowA_length]; simp)) rfl (by omega) (by omega) (by first | exact Int.toNat_natCast _ | rfl) rfl ?_
    refine J.yes rfl rfl ?_
    refine J.fieldAddrI fld56_2 rfl rfl ?_
    refine J.yes rfl rfl ?_
    refine J.loadIN (k := .q) trivial hD (off_nil _) rfl agg50 (wc b.bal) rfl (by rfl) rfl ?_
    refine J.yes rfl rfl ?_
    refine J.neqW eqw50 rfl rfl rfl ?_
    refine J.as 53 (.bool false) rfl (by rw [decide_eq_false (fun q => q (hbal))]) ?_
    refine J.pick_f rfl rfl rfl ?_
    refine J.move rfl rfl ?_
    refine J.yes rfl rfl ?_
    refine J.move rfl rfl ?_
    refine J.yes rfl rfl ?_
    refine J.move rfl rfl ?_
    refine J.yes rfl rfl ?_
    refine J.indexSlI sl22 rfl (hA.isSome (by rw [rowA_length]; simp)) rfl (by omega) (by omega) (by first | exact Int.toNat_natCast _ | rfl) rfl ?_
    refine J.yes rfl rfl ?_
    refine J.fieldAddrI fld56_3 rfl rfl ?_
    refine J.yes rfl rfl ?_
    refine J.loadI1 (k := .q) trivial hA (off_nil _) rfl one51 (by rfl) rfl ?_
    refine J.yes rfl rfl ?_
    refine J.convBS (k := .q) trivial Tryz.underlying51 Tryz.underlying5 Tryz.underlying9 rfl (a.code) rfl (fun w hw => (show Cs w _ (rowN .u8 a.code) by rw [hca]; exact Cs.nil _ _)) rfl ?_
    refine J.yes rfl rfl ?_
    refine J.move rfl rfl ?_
    refine J.yes rfl rfl ?_
    refine J.move rfl rfl ?_
    refine J.yes rfl rfl ?_
    refine J.indexSlI sl22 rfl (hD.isSome (by rw [rowA_length]; simp)) rfl (by omega) (by omega) (by first | exact Int.toNat_natCast _ | rfl) rfl ?_
    refine J.yes rfl rfl ?_
    refine J.fieldAddrI fld56_3 rfl rfl ?_
    refine J.yes rfl rfl ?_
    refine J.loadI1 (k := .q) trivial hD (off_nil _) rfl one51 (by rfl) rfl ?_
    refine J.yes rfl rfl ?_
    refine J.convBS (k := .q) trivial Tryz.underlying51 Tryz.underlying5 Tryz.underlying9 rfl (b.code) rfl (fun w hw => (show Cs w _ (rowN .u8 b.code) by rw [hcb]; exact Cs.nil _ _)) rfl ?_
    refine J.yes rfl rfl ?_
    refine J.neqStr (xs := a.code) (ys := b.code) rfl rfl rfl (by rw [hca]; exact dg_nil) (by rw [hcb]; exact dg_nil) ?_
    refine J.as 68 (.bool false) rfl (by rw [decide_eq_false (fun q => q (hca.trans hcb.symm))]) ?_
    refine J.pick_f rfl rfl rfl ?_
    refine J.move rfl rfl ?_
    refine J.yes rfl rfl ?_
    refine J.move rfl rfl ?_
    refine J.yes rfl rfl ?_
    refine J.move rfl rfl ?_
    refine J.yes rfl rfl ?_
    refine J.indexSlI sl22 rfl (hA.isSome (by rw [rowA_length]; simp)) rfl (by omega) (by omega) (by first | exact Int.toNat_natCast _ | rfl) rfl ?_
    refine J.yes rfl rfl ?_
    refine J.fieldAddrI fld56_4 rfl rfl ?_
    refine J.yes rfl rfl ?_
    refine J.loadI1 (k := .q) trivial hA (off_nil _) rfl one54 (by rfl) rfl ?_
    refine J.yes rfl rfl ?_
    refine J.lenSl Tryz.underlying54 rfl rfl ?_
    refine J.yes rfl rfl ?_
    refine J.move rfl rfl ?_
    refine J.yes rfl rfl ?_
    refine J.move rfl rfl ?_
    refine J.yes rfl rfl ?_
    refine J.indexSlI sl22 rfl (hD.isSome (by rw [rowA_length]; simp)) rfl (by omega) (by omega) (by first | exact Int.toNat_natCast _ | rfl) rfl ?_
    refine J.yes rfl rfl ?_
    refine J.fieldAddrI fld56_4 rfl rfl ?_
    refine J.yes rfl rfl ?_
    refine J.loadI1 (k := .q) trivial hD (off_nil _) rfl one54 (by rfl) rfl ?_
    refine J.yes rfl rfl ?_
    refine J.lenSl Tryz.underlying54 rfl rfl ?_
    refine J.yes rfl rfl ?_
    refine J.neq rfl rfl rfl (decide_eq_false (by first | omega | rfl | assumption | (simp only [*]; done))) ?_
    refine J.pick_f rfl rfl rfl ?_
    refine J.end ?_
    refine X.then ?_
    refine T.cond_false rfl ?_
    refine T.skip ?_
    refine X.then ?_
    refine T.seq ?_
    refine T.text [.l] rfl ?_
    refine J.assign rfl rfl ?_
    refine J.end ?_
    refine X.then ?_
    refine T.block ?_
    refine T.loop (ι := Nat) (fun (j : Nat) => j = 0) (fun (j : Nat) => [(0, .slice A1 1 c1), (1, .slice A2 1 c2), (5, .int .i64 ((0 : Nat) : Int)), (6, .int .i64 ((j : Nat) : Int))]) (fun (j : Nat) => []) (fun (j : Nat) => 0) 0 rfl (by repeat (first | exact Sub.nil _ | refine Sub.cons (by first | rfl | (rw [dgs_zero]; rfl) | (rw [List.drop_length]; rfl) | (simp; done) | (congr 2; omega) | (congr 3; omega)) ?_)) (by repeat (first | exact Sub.nil _ | refine Sub.cons (by first | rfl | (rw [dgs_zero]; rfl) | (rw [List.drop_length]; rfl) | (simp; done) | (congr 2; omega) | (congr 3; omega)) ?_)) ?_
    rintro j hj0
    refine T.seq ?_
    refine T.seq ?_
    refine T.text [.l, .l, .l, .l, .l, .l, .l, .l] rfl ?_
    refine J.move rfl rfl ?_
    refine J.move rfl rfl ?_
    refine J.move rfl rfl ?_
    refine J.indexSlI sl22 rfl (hA.isSome (by rw [rowA_length]; simp)) rfl (by omega) (by omega) (by first | exact Int.toNat_natCast _ | rfl) rfl ?_
    refine J.fieldAddrI fld56_4 rfl rfl ?_
    refine J.loadI1 (k := .l) trivial hA (off_nil _) rfl one54 (by rfl) rfl ?_
    refine J.lenSl Tryz.underlying54 rfl rfl ?_
    refine J.lss rfl rfl rfl rfl ?_
    refine J.end ?_
    refine X.then ?_
    refine T.cond_dec rfl (fun h2 => ?_) (fun h2 => ?_)
    · exact absurd h2 (by omega)
    · skip
      refine T.exit ?_
      refine X.then_exit (X.then_exit (X.inBlock_eq (X.inBlock (X.then ?_))))
      refine T.text [.l, .l, .l] rfl ?_
      refine J.move rfl rfl ?_
      refine J.add rfl rfl rfl (by first | exact add_nat _ 1 (by omega) | exact i64_ok _ (by omega) | exact rfl) ?_
      refine J.assign rfl rfl ?_
      refine J.end ?_
      exact X.round (0 + 1) (Nat.le_refl _) (by first | omega | (dsimp only; omega)) (by repeat (first | exact Sub.nil _ | refine Sub.cons (by first | rfl | (rw [dgs_zero]; rfl) | (rw [List.drop_length]; rfl) | (simp; done) | (congr 2; omega) | (congr 3; omega)) ?_)) (by repeat (first | exact Sub.nil _ | refine Sub.cons (by first | rfl | (rw [dgs_zero]; rfl) | (rw [List.drop_length]; rfl) | (simp; done) | (congr 2; omega) | (congr 3; omega)) ?_))
  · skip
    refine T.exit ?_
    refine X.then_exit (X.then_exit (X.inBlock_eq (X.then ?_)))
    refine T.seq ?_
    refine T.text [.l] rfl ?_
    refine J.assign rfl rfl ?_
    refine J.end ?_
    refine X.then ?_
    refine T.ret ?_
    exact X.ret1 rfl (RV.tmp rfl) (fun w' hw' => ⟨rfl, hw'.sub (Sub.nil _)⟩)
end Go.Proofs.YtlllcafedekojaaGreatDoor.Dq
set_option linter.unusedVariables false
set_option maxRecDepth 20000
namespace Go.Proofs.YtlllcafedekojaaGreatDoor.Dr
open Go Go.Fw

theorem sz287 : SizeT Tryz.prog 287 32 := (by unfold SizeT; kernel_rfl)
theorem zero56 : ZeroT Tryz.prog 56 (.agg ([.int .u8 0, .int .u8 0, .int .u8 0, .int .u8 0, .int .u8 0, .int .u8 0, .int .u8 0, .int .u8 0, .int .u8 0, .int .u8 0, .int .u8 0, .int .u8 0, .int .u8 0, .int .u8 0, .int .u8 0, .int .u8 0, .int .u8 0, .int .u8 0, .int .u8 0, .int .u8 0, .int .u64 0, .int .u64 0, .int .u64 0, .int .u64 0, .int .u64 0, .slice none 0 0, .slice none 0 0]).toArray) := (by unfold ZeroT; kernel_rfl)
theorem sz56 : SizeT Tryz.prog 56 27 := (by unfold SizeT; kernel_rfl)
theorem agg56 : AggT Tryz.prog 56 27 := ⟨⟨_, Tryz.underlying56, rfl⟩, by kernel_rfl⟩
theorem el56 : ElT Tryz.prog 56 27 112 (.agg ([.int .u8 0, .int .u8 0, .int .u8 0, .int .u8 0, .int .u8 0, .int .u8 0, .int .u8 0, .int .u8 0, .int .u8 0, .int .u8 0, .int .u8 0, .int .u8 0, .int .u8 0, .int .u8 0, .int .u8 0, .int .u8 0, .int .u8 0, .int .u8 0, .int .u8 0, .int .u8 0, .int .u64 0, .int .u64 0, .int .u64 0, .int .u64 0, .int .u64 0, .slice none 0 0, .slice none 0 0]).toArray) := ⟨by kernel_rfl, rfl, by decide, by decide⟩
theorem fok17 : FnOk Tryz.prog 17 := FnOk.mk' Tryz.func17 (by kernel_rfl) rfl
theorem fok24 : FnOk Tryz.prog 24 := FnOk.mk' Tryz.func24 (by kernel_rfl) rfl
theorem fok28 : FnOk Tryz.prog 28 := FnOk.mk' Tryz.func28 (by kernel_rfl) rfl
theorem fok32 : FnOk Tryz.prog 32 := FnOk.mk' Tryz.func32 (by kernel_rfl) rfl
theorem fok29 : FnOk Tryz.prog 29 := FnOk.mk' Tryz.func29 (by kernel_rfl) rfl
theorem fok26 : FnOk Tryz.prog 26 := FnOk.mk' Tryz.func26 (by kernel_rfl) rfl
theorem el53 : ElT Tryz.prog 53 35 176 (.agg ([.int .u8 0, .int .u8 0, .int .u8 0, .int .u8 0, .int .u8 0, .int .u8 0, .int .u8 0, .int .u8 0, .int .u8 0, .int .u8 0, .int .u8 0, .int .u8 0, .int .u8 0, .int .u8 0, .int .u8 0, .int .u8 0, .int .u8 0, .int .u8 0, .int .u8 0, .int .u8 0, .int .i64 0, .int .u64 0, .int .u64 0, .int .u64 0, .int .u64 0, .int .u64 0, .int .u64 0, .int .u64 0, .int .u64 0, .int .u64 0, .int .u64 0, .int .u64 0, .int .u64 0, .slice none 0 0, .slice none 0 0]).toArray) := ⟨by kernel_rfl, rfl, by decide, by decide⟩
theorem fok20 : FnOk Tryz.prog 20 := FnOk.mk' Tryz.func20 (by kernel_rfl) rfl

set_option maxHeartbeats 4000000 in
theorem awake (w : World) :
    Calls Tryz.prog 19 [].toArray w fun e w' => e = .returned (.bool true) ∧ WS w [] [] w' := by
  obtain ⟨n, hn0⟩ : ∃ n, n = w.heap.size := ⟨_, rfl⟩
  have hn : n ≤ w.heap.size := Nat.le_of_eq hn0
  refine calls_of_T [] 96 [] Tryz.func19 rfl Tryz.ntmps19 (by simp) (WS.refl _ _) ?_
  refine T.seq ?_
  refine T.text [.l] rfl ?_
  refine J.assign rfl rfl ?_
  refine J.end ?_
  refine X.then ?_
  refine T.seq ?_
  refine T.text [.l, .l, .l, .l] rfl ?_
  refine J.build rfl rfl (W 5) (fun w => by kernel_rfl) ?_
  refine J.build rfl rfl (.agg (Ac.ofBal 5).cells.toArray) (fun w => by kernel_rfl) ?_
  refine J.alloc 1 rfl zero56 [.int .u8 0, .int .u8 0, .int .u8 0, .int .u8 0, .int .u8 0, .int .u8 0, .int .u8 0, .int .u8 0, .int .u8 0, .int .u8 0, .int .u8 0, .int .u8 0, .int .u8 0, .int .u8 0, .int .u8 0, .int .u8 0, .int .u8 0, .int .u8 0, .int .u8 0, .int .u8 0, .int .u64 0, .int .u64 0, .int .u64 0, .int .u64 0, .int .u64 0, .slice none 0 0, .slice none 0 0] rfl rfl (fun g1 hg1 => ?_)
  refine J.store 1 rfl rfl rfl rfl ((Ac.ofBal 5).cells) rfl sz56 (Nat.le_of_ble_eq_true rfl) (by first | exact Ac.cells_one _ | exact Ch.cells_one _) (Nat.zero_lt_succ _) trivial ((Ac.ofBal 5).cells) rfl ?_
  refine J.end ?_
  refine X.then ?_
  refine T.seq ?_
  refine T.text [.l, .l, .l, .l] rfl ?_
  refine J.build rfl rfl (W 2) (fun w => by kernel_rfl) ?_
  refine J.build rfl rfl (.agg (Ac.ofBal 2).cells.toArray) (fun w => by kernel_rfl) ?_
  refine J.alloc 2 rfl zero56 [.int .u8 0, .int .u8 0, .int .u8 0, .int .u8 0, .int .u8 0, .int .u8 0, .int .u8 0, .int .u8 0, .int .u8 0, .int .u8 0, .int .u8 0, .int .u8 0, .int .u8 0, .int .u8 0, .int .u8 0, .int .u8 0, .int .u8 0, .int .u8 0, .int .u8 0, .int .u8 0, .int .u64 0, .int .u64 0, .int .u64 0, .int .u64 0, .int .u64 0, .slice none 0 0, .slice none 0 0] rfl rfl (fun g2 hg2 => ?_)
  refine J.store 2 rfl rfl rfl rfl ((Ac.ofBal 2).cells) rfl sz56 (Nat.le_of_ble_eq_true rfl) (by first | exact Ac.cells_one _ | exact Ch.cells_one _) (Nat.zero_lt_succ _) trivial ((Ac.ofBal 2).cells) rfl ?_
  refine J.end ?_
  refine X.then ?_
  refine T.seq ?_
  refine T.text [.l, .l, .l, .l, .l, .l, .l, .l, .l, .l] rfl ?_
  refine J.loadN (k := .l) trivial 1 rfl rfl agg56 ((Ac.ofBal 5).cells) rfl rfl rfl ?_
  refine J.lit1 20 rfl Tryz.underlying22 el56 (by decide) rfl ((Ac.ofBal 5).cells) rfl rfl rfl (fun g20 hg20 => ?_)
  refine J.loadN (k := .l) trivial 2 rfl rfl agg56 ((Ac.ofBal 2).cells) rfl rfl rfl ?_
  refine J.lit1 22 rfl Tryz.underlying22 el56 (by decide) rfl ((Ac.ofBal 2).cells) rfl rfl rfl (fun g22 hg22 => ?_)
  refine J.callB fok17 rfl rfl _ _ [(1, ⟨some g1, 56, ((Ac.ofBal 5).cells)⟩), (2, ⟨some g2, 56, ((Ac.ofBal 2).cells)⟩), (20, ⟨some g20, 56, ((Ac.ofBal 5).cells)⟩), (22, ⟨some g22, 56, ((Ac.ofBal 2).cells)⟩)] (by repeat (first | exact Sub.nil _ | refine Sub.cons (by first | rfl | (rw [dgs_zero]; rfl) | (rw [List.drop_length]; rfl) | (simp; done) | (congr 2; omega) | (congr 3; omega)) ?_ | exact Sub.refl _ | refine sub_snap ?_ rfl)) rfl (fun _ _ => Sub.nil _) (fun w hw => Do.Of w n ([] ++ ids [(1, ⟨some g1, 56, ((Ac.ofBal 5).cells)⟩), (2, ⟨some g2, 56, ((Ac.ofBal 2).cells)⟩), (20, ⟨some g20, 56, ((Ac.ofBal 5).cells)⟩), (22, ⟨some g22, 56, ((Ac.ofBal 2).cells)⟩)]) (Ac.ofBal 5) (Ac.ofBal 2) g20 g22 1 1 (Nat.le_trans hn hw.size) (busy_lt (l1 := [(1, ⟨some g1, 56, ((Ac.ofBal 5).cells)⟩), (2, ⟨some g2, 56, ((Ac.ofBal 2).cells)⟩), (20, ⟨some g20, 56, ((Ac.ofBal 5).cells)⟩), (22, ⟨some g22, 56, ((Ac.ofBal 2).cells)⟩)]) (fun g h => by cases h) hw (by repeat (first | exact Sub.nil _ | refine Sub.cons (by first | rfl | (rw [dgs_zero]; rfl) | (rw [List.drop_length]; rfl) | (simp; done) | (congr 2; omega) | (congr 3; omega)) ?_ | exact Sub.refl _ | refine sub_snap ?_ rfl)) rfl) (row1A (hw.blkCs (k := 20) rfl)) (row1A (hw.blkCs (k := 22) rfl)) (Nat.le_refl _) (Nat.le_refl _) (ofBal_ok 5) (ofBal_ok 2) rfl rfl rfl rfl rfl rfl rfl) (fun i23 W23 hP23 hW23 => ?_)
  obtain ⟨hv23, hr23, hf23, hc23⟩ := hP23
  have hVW23 := hW23.sub (Sub.nil _)
  obtain ⟨ds23, id23, cd23, sp23⟩ := i23
  dsimp only at hv23 hr23 hf23 hc23
  obtain ⟨c, rfl, hcv⟩ := one_ch (hv23.trans awake_bt)
  obtain hcb := chBal hcv
  obtain ⟨gd, rfl⟩ := some_row hr23 (Nat.zero_lt_succ _)
  have hkd : 1 ≤ cd23 := hr23.le
  refine J.move rfl rfl ?_
  refine J.extract rfl rfl rfl ?_
  refine J.extract rfl rfl rfl ?_
  refine J.assign rfl rfl ?_
  refine J.assign rfl rfl ?_
  refine J.end ?_
  refine X.then ?_
  refine T.seq ?_
  refine T.text [.l, .l, .l, .l, .l, .l, .l, .l, .l] rfl ?_
  refine J.loadN (k := .l) trivial 1 rfl rfl agg56 ((Ac.ofBal 5).cells) rfl rfl rfl ?_
  refine J.lit1 28 rfl Tryz.underlying22 el56 (by decide) rfl ((Ac.ofBal 5).cells) rfl rfl rfl (fun g28 hg28 => ?_)
  refine J.move rfl rfl ?_
  refine J.callB fok24 rfl rfl _ _ [(1, ⟨some g1, 56, ((Ac.ofBal 5).cells)⟩), (2, ⟨some g2, 56, ((Ac.ofBal 2).cells)⟩), (20, ⟨some g20, 56, ((Ac.ofBal 5).cells)⟩), (22, ⟨some g22, 56, ((Ac.ofBal 2).cells)⟩), (28, ⟨some g28, 56, ((Ac.ofBal 5).cells)⟩)] (by repeat (first | exact Sub.nil _ | refine Sub.cons (by first | rfl | (rw [dgs_zero]; rfl) | (rw [List.drop_length]; rfl) | (simp; done) | (congr 2; omega) | (congr 3; omega)) ?_ | exact Sub.refl _ | refine sub_snap ?_ rfl)) rfl (fun _ _ => Sub.nil _) (fun w hw => Dp.Apply w n ([] ++ ids [(1, ⟨some g1, 56, ((Ac.ofBal 5).cells)⟩), (2, ⟨some g2, 56, ((Ac.ofBal 2).cells)⟩), (20, ⟨some g20, 56, ((Ac.ofBal 5).cells)⟩), (22, ⟨some g22, 56, ((Ac.ofBal 2).cells)⟩), (28, ⟨some g28, 56, ((Ac.ofBal 5).cells)⟩)]) (Ac.ofBal 5) c g28 gd 1 cd23 (Nat.le_trans hn hw.size) (busy_lt (l1 := [(1, ⟨some g1, 56, ((Ac.ofBal 5).cells)⟩), (2, ⟨some g2, 56, ((Ac.ofBal 2).cells)⟩), (20, ⟨some g20, 56, ((Ac.ofBal 5).cells)⟩), (22, ⟨some g22, 56, ((Ac.ofBal 2).cells)⟩), (28, ⟨some g28, 56, ((Ac.ofBal 5).cells)⟩)]) (fun g h => by cases h) hw (by repeat (first | exact Sub.nil _ | refine Sub.cons (by first | rfl | (rw [dgs_zero]; rfl) | (rw [List.drop_length]; rfl) | (simp; done) | (congr 2; omega) | (congr 3; omega)) ?_ | exact Sub.refl _ | refine sub_snap ?_ rfl)) rfl) (row1A (hw.blkCs (k := 28) rfl)) ((hf23.keep (keep_snap (I := [some g1, some g2, some g20, some g22]) (B0 := []) (l1 := [(1, ⟨some g1, 56, ((Ac.ofBal 5).cells)⟩), (2, ⟨some g2, 56, ((Ac.ofBal 2).cells)⟩), (20, ⟨some g20, 56, ((Ac.ofBal 5).cells)⟩), (22, ⟨some g22, 56, ((Ac.ofBal 2).cells)⟩), (28, ⟨some g28, 56, ((Ac.ofBal 5).cells)⟩)]) hVW23 hn (fun g hg => by cases hg) hw (by repeat (first | exact Sub.refl _ | refine sub_snap ?_ rfl)) (by repeat (first | exact Sub.nil _ | refine Sub.cons (by first | rfl | (rw [dgs_zero]; rfl) | (rw [List.drop_length]; rfl) | (simp; done) | (congr 2; omega) | (congr 3; omega)) ?_ | exact Sub.refl _ | refine sub_snap ?_ rfl)) rfl)).cs) (Nat.le_refl _) hkd (by decide) rfl rfl rfl ((hc23.keep (keep_snap (I := [some g1, some g2, some g20, some g22]) (B0 := []) (l1 := [(1, ⟨some g1, 56, ((Ac.ofBal 5).cells)⟩), (2, ⟨some g2, 56, ((Ac.ofBal 2).cells)⟩), (20, ⟨some g20, 56, ((Ac.ofBal 5).cells)⟩), (22, ⟨some g22, 56, ((Ac.ofBal 2).cells)⟩), (28, ⟨some g28, 56, ((Ac.ofBal 5).cells)⟩)]) hVW23 hn (fun g hg => by cases hg) hw (by repeat (first | exact Sub.refl _ | refine sub_snap ?_ rfl)) (by repeat (first | exact Sub.nil _ | refine Sub.cons (by first | rfl | (rw [dgs_zero]; rfl) | (rw [List.drop_length]; rfl) | (simp; done) | (congr 2; omega) | (congr 3; omega)) ?_ | exact Sub.refl _ | refine sub_snap ?_ rfl)) rfl)).head) (by rw [hcv]; exact may_bal (by decide)) hcb.kd hcb.oc hcb.nc hcb.old (by rw [hcb.new]; decide) hcb.who) (fun i30 W30 hP30 hW30 => ?_)
  obtain ⟨hr30, hf30⟩ := hP30
  have kpW30 := (keep_snap (I := [some g1, some g2, some g20, some g22]) (B0 := []) (l1 := [(1, ⟨some g1, 56, ((Ac.ofBal 5).cells)⟩), (2, ⟨some g2, 56, ((Ac.ofBal 2).cells)⟩), (20, ⟨some g20, 56, ((Ac.ofBal 5).cells)⟩), (22, ⟨some g22, 56, ((Ac.ofBal 2).cells)⟩), (28, ⟨some g28, 56, ((Ac.ofBal 5).cells)⟩)]) hVW23 hn (fun g hg => by cases hg) hW30 (by repeat (first | exact Sub.refl _ | refine sub_snap ?_ rfl)) (by repeat (first | exact Sub.nil _ | refine Sub.cons (by first | rfl | (rw [dgs_zero]; rfl) | (rw [List.drop_length]; rfl) | (simp; done) | (congr 2; omega) | (congr 3; omega)) ?_ | exact Sub.refl _ | refine sub_snap ?_ rfl)) rfl)
  have hf23 := hf23.keep kpW30
  have hc23 := hc23.keep kpW30
  have hVW30 := hW30.sub (Sub.nil _)
  obtain ⟨q30, id30, cd30, sp30⟩ := i30
  dsimp only at hr30 hf30
  obtain ⟨gl, rfl⟩ := some_row hr30 (Nat.zero_lt_succ _)
  have hkl : 1 ≤ cd30 := hr30.le
  refine J.move rfl rfl ?_
  refine J.extract rfl rfl rfl ?_
  refine J.extract rfl rfl rfl ?_
  refine J.assign rfl rfl ?_
  refine J.assign rfl rfl ?_
  refine J.end ?_
  refine X.then ?_
  refine T.seq ?_
  refine T.text [.l, .l, .l] rfl ?_
  refine J.move rfl rfl ?_
  refine J.callB fok28 rfl rfl _ _ [(1, ⟨some g1, 56, ((Ac.ofBal 5).cells)⟩), (2, ⟨some g2, 56, ((Ac.ofBal 2).cells)⟩), (20, ⟨some g20, 56, ((Ac.ofBal 5).cells)⟩), (22, ⟨some g22, 56, ((Ac.ofBal 2).cells)⟩), (28, ⟨some g28, 56, ((Ac.ofBal 5).cells)⟩)] (by repeat (first | exact Sub.nil _ | refine Sub.cons (by first | rfl | (rw [dgs_zero]; rfl) | (rw [List.drop_length]; rfl) | (simp; done) | (congr 2; omega) | (congr 3; omega)) ?_ | exact Sub.refl _ | refine sub_snap ?_ rfl)) rfl (fun _ _ => Sub.nil _) (fun w hw => Db.Turn w n ([] ++ ids [(1, ⟨some g1, 56, ((Ac.ofBal 5).cells)⟩), (2, ⟨some g2, 56, ((Ac.ofBal 2).cells)⟩), (20, ⟨some g20, 56, ((Ac.ofBal 5).cells)⟩), (22, ⟨some g22, 56, ((Ac.ofBal 2).cells)⟩), (28, ⟨some g28, 56, ((Ac.ofBal 5).cells)⟩)]) _ _ [c] (Nat.le_trans hn hw.size) (busy_lt (l1 := [(1, ⟨some g1, 56, ((Ac.ofBal 5).cells)⟩), (2, ⟨some g2, 56, ((Ac.ofBal 2).cells)⟩), (20, ⟨some g20, 56, ((Ac.ofBal 5).cells)⟩), (22, ⟨some g22, 56, ((Ac.ofBal 2).cells)⟩), (28, ⟨some g28, 56, ((Ac.ofBal 5).cells)⟩)]) (fun g h => by cases h) hw (by repeat (first | exact Sub.nil _ | refine Sub.cons (by first | rfl | (rw [dgs_zero]; rfl) | (rw [List.drop_length]; rfl) | (simp; done) | (congr 2; omega) | (congr 3; omega)) ?_ | exact Sub.refl _ | refine sub_snap ?_ rfl)) rfl) ((hf23.keep (keep_snap (I := [some g1, some g2, some g20, some g22, some g28]) (B0 := []) (l1 := [(1, ⟨some g1, 56, ((Ac.ofBal 5).cells)⟩), (2, ⟨some g2, 56, ((Ac.ofBal 2).cells)⟩), (20, ⟨some g20, 56, ((Ac.ofBal 5).cells)⟩), (22, ⟨some g22, 56, ((Ac.ofBal 2).cells)⟩), (28, ⟨some g28, 56, ((Ac.ofBal 5).cells)⟩)]) hVW30 hn (fun g hg => by cases hg) hw (by repeat (first | exact Sub.refl _ | refine sub_snap ?_ rfl)) (by repeat (first | exact Sub.nil _ | refine Sub.cons (by first | rfl | (rw [dgs_zero]; rfl) | (rw [List.drop_length]; rfl) | (simp; done) | (congr 2; omega) | (congr 3; omega)) ?_ | exact Sub.refl _ | refine sub_snap ?_ rfl)) rfl)).cs) (hc23.keep (keep_snap (I := [some g1, some g2, some g20, some g22, some g28]) (B0 := []) (l1 := [(1, ⟨some g1, 56, ((Ac.ofBal 5).cells)⟩), (2, ⟨some g2, 56, ((Ac.ofBal 2).cells)⟩), (20, ⟨some g20, 56, ((Ac.ofBal 5).cells)⟩), (22, ⟨some g22, 56, ((Ac.ofBal 2).cells)⟩), (28, ⟨some g28, 56, ((Ac.ofBal 5).cells)⟩)]) hVW30 hn (fun g hg => by cases hg) hw (by repeat (first | exact Sub.refl _ | refine sub_snap ?_ rfl)) (by repeat (first | exact Sub.nil _ | refine Sub.cons (by first | rfl | (rw [dgs_zero]; rfl) | (rw [List.drop_length]; rfl) | (simp; done) | (congr 2; omega) | (congr 3; omega)) ?_ | exact Sub.refl _ | refine sub_snap ?_ rfl)) rfl)) (by simp)) (fun i34 W34 hP34 hW34 => ?_)
  obtain ⟨hv34, hr34, hf34, hc34⟩ := hP34
  have kpW34 := (keep_snap (I := [some g1, some g2, some g20, some g22, some g28]) (B0 := []) (l1 := [(1, ⟨some g1, 56, ((Ac.ofBal 5).cells)⟩), (2, ⟨some g2, 56, ((Ac.ofBal 2).cells)⟩), (20, ⟨some g20, 56, ((Ac.ofBal 5).cells)⟩), (22, ⟨some g22, 56, ((Ac.ofBal 2).cells)⟩), (28, ⟨some g28, 56, ((Ac.ofBal 5).cells)⟩)]) hVW30 hn (fun g hg => by cases hg) hW34 (by repeat (first | exact Sub.refl _ | refine sub_snap ?_ rfl)) (by repeat (first | exact Sub.nil _ | refine Sub.cons (by first | rfl | (rw [dgs_zero]; rfl) | (rw [List.drop_length]; rfl) | (simp; done) | (congr 2; omega) | (congr 3; omega)) ?_ | exact Sub.refl _ | refine sub_snap ?_ rfl)) rfl)
  have hf23 := hf23.keep kpW34
  have hc23 := hc23.keep kpW34
  have hf30 := hf30.keep kpW34
  have hVW34 := hW34.sub (Sub.nil _)
  obtain ⟨ds34, id34, cd34, sp34⟩ := i34
  dsimp only at hv34 hr34 hf34 hc34
  obtain ⟨t, rfl, htv0⟩ := one_ch hv34
  have htv : t.v = CV.ofBal 2 5 := by rw [htv0]; show c.v.turn = _; rw [hcv]; rfl
  obtain htb := chBal htv
  obtain ⟨gt, rfl⟩ := some_row hr34 (Nat.zero_lt_succ _)
  have hkt : 1 ≤ cd34 := hr34.le
  refine J.assign rfl rfl ?_
  refine J.end ?_
  refine X.then ?_
  refine T.seq ?_
  refine T.text [.l, .l, .l, .l, .l, .l, .l, .l] rfl ?_
  refine J.move rfl rfl ?_
  refine J.move rfl rfl ?_
  refine J.callB fok24 rfl rfl _ _ [(1, ⟨some g1, 56, ((Ac.ofBal 5).cells)⟩), (2, ⟨some g2, 56, ((Ac.ofBal 2).cells)⟩), (20, ⟨some g20, 56, ((Ac.ofBal 5).cells)⟩), (22, ⟨some g22, 56, ((Ac.ofBal 2).cells)⟩), (28, ⟨some g28, 56, ((Ac.ofBal 5).cells)⟩)] (by repeat (first | exact Sub.nil _ | refine Sub.cons (by first | rfl | (rw [dgs_zero]; rfl) | (rw [List.drop_length]; rfl) | (simp; done) | (congr 2; omega) | (congr 3; omega)) ?_ | exact Sub.refl _ | refine sub_snap ?_ rfl)) rfl (fun _ _ => Sub.nil _) (fun w hw => Dp.Apply w n ([] ++ ids [(1, ⟨some g1, 56, ((Ac.ofBal 5).cells)⟩), (2, ⟨some g2, 56, ((Ac.ofBal 2).cells)⟩), (20, ⟨some g20, 56, ((Ac.ofBal 5).cells)⟩), (22, ⟨some g22, 56, ((Ac.ofBal 2).cells)⟩), (28, ⟨some g28, 56, ((Ac.ofBal 5).cells)⟩)]) ((Ac.ofBal 5).moved c.new q30) t gl gt cd30 cd34 (Nat.le_trans hn hw.size) (busy_lt (l1 := [(1, ⟨some g1, 56, ((Ac.ofBal 5).cells)⟩), (2, ⟨some g2, 56, ((Ac.ofBal 2).cells)⟩), (20, ⟨some g20, 56, ((Ac.ofBal 5).cells)⟩), (22, ⟨some g22, 56, ((Ac.ofBal 2).cells)⟩), (28, ⟨some g28, 56, ((Ac.ofBal 5).cells)⟩)]) (fun g h => by cases h) hw (by repeat (first | exact Sub.nil _ | refine Sub.cons (by first | rfl | (rw [dgs_zero]; rfl) | (rw [List.drop_length]; rfl) | (simp; done) | (congr 2; omega) | (congr 3; omega)) ?_ | exact Sub.refl _ | refine sub_snap ?_ rfl)) rfl) ((hf30.keep (keep_snap (I := [some g1, some g2, some g20, some g22, some g28]) (B0 := []) (l1 := [(1, ⟨some g1, 56, ((Ac.ofBal 5).cells)⟩), (2, ⟨some g2, 56, ((Ac.ofBal 2).cells)⟩), (20, ⟨some g20, 56, ((Ac.ofBal 5).cells)⟩), (22, ⟨some g22, 56, ((Ac.ofBal 2).cells)⟩), (28, ⟨some g28, 56, ((Ac.ofBal 5).cells)⟩)]) hVW34 hn (fun g hg => by cases hg) hw (by repeat (first | exact Sub.refl _ | refine sub_snap ?_ rfl)) (by repeat (first | exact Sub.nil _ | refine Sub.cons (by first | rfl | (rw [dgs_zero]; rfl) | (rw [List.drop_length]; rfl) | (simp; done) | (congr 2; omega) | (congr 3; omega)) ?_ | exact Sub.refl _ | refine sub_snap ?_ rfl)) rfl)).cs) ((hf34.keep (keep_snap (I := [some g1, some g2, some g20, some g22, some g28]) (B0 := []) (l1 := [(1, ⟨some g1, 56, ((Ac.ofBal 5).cells)⟩), (2, ⟨some g2, 56, ((Ac.ofBal 2).cells)⟩), (20, ⟨some g20, 56, ((Ac.ofBal 5).cells)⟩), (22, ⟨some g22, 56, ((Ac.ofBal 2).cells)⟩), (28, ⟨some g28, 56, ((Ac.ofBal 5).cells)⟩)]) hVW34 hn (fun g hg => by cases hg) hw (by repeat (first | exact Sub.refl _ | refine sub_snap ?_ rfl)) (by repeat (first | exact Sub.nil _ | refine Sub.cons (by first | rfl | (rw [dgs_zero]; rfl) | (rw [List.drop_length]; rfl) | (simp; done) | (congr 2; omega) | (congr 3; omega)) ?_ | exact Sub.refl _ | refine sub_snap ?_ rfl)) rfl)).cs) hkl hkt (by show 0 < 18446744073709551616; decide) rfl rfl (moved_look (by rw [hcb.new]; decide)) ((hc34.keep (keep_snap (I := [some g1, some g2, some g20, some g22, some g28]) (B0 := []) (l1 := [(1, ⟨some g1, 56, ((Ac.ofBal 5).cells)⟩), (2, ⟨some g2, 56, ((Ac.ofBal 2).cells)⟩), (20, ⟨some g20, 56, ((Ac.ofBal 5).cells)⟩), (22, ⟨some g22, 56, ((Ac.ofBal 2).cells)⟩), (28, ⟨some g28, 56, ((Ac.ofBal 5).cells)⟩)]) hVW34 hn (fun g hg => by cases hg) hw (by repeat (first | exact Sub.refl _ | refine sub_snap ?_ rfl)) (by repeat (first | exact Sub.nil _ | refine Sub.cons (by first | rfl | (rw [dgs_zero]; rfl) | (rw [List.drop_length]; rfl) | (simp; done) | (congr 2; omega) | (congr 3; omega)) ?_ | exact Sub.refl _ | refine sub_snap ?_ rfl)) rfl)).head) (by rw [htv]; exact may_bal (by decide)) htb.kd htb.oc htb.nc (hcb.new.trans htb.old) (by rw [htb.new]; decide) htb.who) (fun i38 W38 hP38 hW38 => ?_)
  obtain ⟨hr38, hf38⟩ := hP38
  have kpW38 := (keep_snap (I := [some g1, some g2, some g20, some g22, some g28]) (B0 := []) (l1 := [(1, ⟨some g1, 56, ((Ac.ofBal 5).cells)⟩), (2, ⟨some g2, 56, ((Ac.ofBal 2).cells)⟩), (20, ⟨some g20, 56, ((Ac.ofBal 5).cells)⟩), (22, ⟨some g22, 56, ((Ac.ofBal 2).cells)⟩), (28, ⟨some g28, 56, ((Ac.ofBal 5).cells)⟩)]) hVW34 hn (fun g hg => by cases hg) hW38 (by repeat (first | exact Sub.refl _ | refine sub_snap ?_ rfl)) (by repeat (first | exact Sub.nil _ | refine Sub.cons (by first | rfl | (rw [dgs_zero]; rfl) | (rw [List.drop_length]; rfl) | (simp; done) | (congr 2; omega) | (congr 3; omega)) ?_ | exact Sub.refl _ | refine sub_snap ?_ rfl)) rfl)
  have hf23 := hf23.keep kpW38
  have hc23 := hc23.keep kpW38
  have hf30 := hf30.keep kpW38
  have hf34 := hf34.keep kpW38
  have hc34 := hc34.keep kpW38
  have hVW38 := hW38.sub (Sub.nil _)
  obtain ⟨q38, id38, cd38, sp38⟩ := i38
  dsimp only at hr38 hf38
  obtain ⟨gm, rfl⟩ := some_row hr38 (Nat.zero_lt_succ _)
  have hkm : 1 ≤ cd38 := hr38.le
  refine J.move rfl rfl ?_
  refine J.extract rfl rfl rfl ?_
  refine J.extract rfl rfl rfl ?_
  refine J.assign rfl rfl ?_
  refine J.assign rfl rfl ?_
  refine J.end ?_
  refine X.then ?_
  refine T.seq ?_
  refine T.text [.l, .l, .l, .l, .l, .l, .l, .l] rfl ?_
  refine J.move rfl rfl ?_
  refine J.move rfl rfl ?_
  refine J.callB fok32 rfl rfl _ _ [(1, ⟨some g1, 56, ((Ac.ofBal 5).cells)⟩), (2, ⟨some g2, 56, ((Ac.ofBal 2).cells)⟩), (20, ⟨some g20, 56, ((Ac.ofBal 5).cells)⟩), (22, ⟨some g22, 56, ((Ac.ofBal 2).cells)⟩), (28, ⟨some g28, 56, ((Ac.ofBal 5).cells)⟩)] (by repeat (first | exact Sub.nil _ | refine Sub.cons (by first | rfl | (rw [dgs_zero]; rfl) | (rw [List.drop_length]; rfl) | (simp; done) | (congr 2; omega) | (congr 3; omega)) ?_ | exact Sub.refl _ | refine sub_snap ?_ rfl)) rfl (fun _ _ => Sub.nil _) (fun w hw => Dc.Join w n ([] ++ ids [(1, ⟨some g1, 56, ((Ac.ofBal 5).cells)⟩), (2, ⟨some g2, 56, ((Ac.ofBal 2).cells)⟩), (20, ⟨some g20, 56, ((Ac.ofBal 5).cells)⟩), (22, ⟨some g22, 56, ((Ac.ofBal 2).cells)⟩), (28, ⟨some g28, 56, ((Ac.ofBal 5).cells)⟩)]) _ _ _ _ [c] [t] (Nat.le_trans hn hw.size) (busy_lt (l1 := [(1, ⟨some g1, 56, ((Ac.ofBal 5).cells)⟩), (2, ⟨some g2, 56, ((Ac.ofBal 2).cells)⟩), (20, ⟨some g20, 56, ((Ac.ofBal 5).cells)⟩), (22, ⟨some g22, 56, ((Ac.ofBal 2).cells)⟩), (28, ⟨some g28, 56, ((Ac.ofBal 5).cells)⟩)]) (fun g h => by cases h) hw (by repeat (first | exact Sub.nil _ | refine Sub.cons (by first | rfl | (rw [dgs_zero]; rfl) | (rw [List.drop_length]; rfl) | (simp; done) | (congr 2; omega) | (congr 3; omega)) ?_ | exact Sub.refl _ | refine sub_snap ?_ rfl)) rfl) ((hf23.keep (keep_snap (I := [some g1, some g2, some g20, some g22, some g28]) (B0 := []) (l1 := [(1, ⟨some g1, 56, ((Ac.ofBal 5).cells)⟩), (2, ⟨some g2, 56, ((Ac.ofBal 2).cells)⟩), (20, ⟨some g20, 56, ((Ac.ofBal 5).cells)⟩), (22, ⟨some g22, 56, ((Ac.ofBal 2).cells)⟩), (28, ⟨some g28, 56, ((Ac.ofBal 5).cells)⟩)]) hVW38 hn (fun g hg => by cases hg) hw (by repeat (first | exact Sub.refl _ | refine sub_snap ?_ rfl)) (by repeat (first | exact Sub.nil _ | refine Sub.cons (by first | rfl | (rw [dgs_zero]; rfl) | (rw [List.drop_length]; rfl) | (simp; done) | (congr 2; omega) | (congr 3; omega)) ?_ | exact Sub.refl _ | refine sub_snap ?_ rfl)) rfl)).cs) hkd (hc23.keep (keep_snap (I := [some g1, some g2, some g20, some g22, some g28]) (B0 := []) (l1 := [(1, ⟨some g1, 56, ((Ac.ofBal 5).cells)⟩), (2, ⟨some g2, 56, ((Ac.ofBal 2).cells)⟩), (20, ⟨some g20, 56, ((Ac.ofBal 5).cells)⟩), (22, ⟨some g22, 56, ((Ac.ofBal 2).cells)⟩), (28, ⟨some g28, 56, ((Ac.ofBal 5).cells)⟩)]) hVW38 hn (fun g hg => by cases hg) hw (by repeat (first | exact Sub.refl _ | refine sub_snap ?_ rfl)) (by repeat (first | exact Sub.nil _ | refine Sub.cons (by first | rfl | (rw [dgs_zero]; rfl) | (rw [List.drop_length]; rfl) | (simp; done) | (congr 2; omega) | (congr 3; omega)) ?_ | exact Sub.refl _ | refine sub_snap ?_ rfl)) rfl)) ((hf34.keep (keep_snap (I := [some g1, some g2, some g20, some g22, some g28]) (B0 := []) (l1 := [(1, ⟨some g1, 56, ((Ac.ofBal 5).cells)⟩), (2, ⟨some g2, 56, ((Ac.ofBal 2).cells)⟩), (20, ⟨some g20, 56, ((Ac.ofBal 5).cells)⟩), (22, ⟨some g22, 56, ((Ac.ofBal 2).cells)⟩), (28, ⟨some g28, 56, ((Ac.ofBal 5).cells)⟩)]) hVW38 hn (fun g hg => by cases hg) hw (by repeat (first | exact Sub.refl _ | refine sub_snap ?_ rfl)) (by repeat (first | exact Sub.nil _ | refine Sub.cons (by first | rfl | (rw [dgs_zero]; rfl) | (rw [List.drop_length]; rfl) | (simp; done) | (congr 2; omega) | (congr 3; omega)) ?_ | exact Sub.refl _ | refine sub_snap ?_ rfl)) rfl)).cs) hkt (hc34.keep (keep_snap (I := [some g1, some g2, some g20, some g22, some g28]) (B0 := []) (l1 := [(1, ⟨some g1, 56, ((Ac.ofBal 5).cells)⟩), (2, ⟨some g2, 56, ((Ac.ofBal 2).cells)⟩), (20, ⟨some g20, 56, ((Ac.ofBal 5).cells)⟩), (22, ⟨some g22, 56, ((Ac.ofBal 2).cells)⟩), (28, ⟨some g28, 56, ((Ac.ofBal 5).cells)⟩)]) hVW38 hn (fun g hg => by cases hg) hw (by repeat (first | exact Sub.refl _ | refine sub_snap ?_ rfl)) (by repeat (first | exact Sub.nil _ | refine Sub.cons (by first | rfl | (rw [dgs_zero]; rfl) | (rw [List.drop_length]; rfl) | (simp; done) | (congr 2; omega) | (congr 3; omega)) ?_ | exact Sub.refl _ | refine sub_snap ?_ rfl)) rfl)) (by simp) (by simp)) (fun i44 W44 hP44 hW44 => ?_)
  obtain ⟨hv44, hr44, hf44, hc44⟩ := hP44
  have kpW44 := (keep_snap (I := [some g1, some g2, some g20, some g22, some g28]) (B0 := []) (l1 := [(1, ⟨some g1, 56, ((Ac.ofBal 5).cells)⟩), (2, ⟨some g2, 56, ((Ac.ofBal 2).cells)⟩), (20, ⟨some g20, 56, ((Ac.ofBal 5).cells)⟩), (22, ⟨some g22, 56, ((Ac.ofBal 2).cells)⟩), (28, ⟨some g28, 56, ((Ac.ofBal 5).cells)⟩)]) hVW38 hn (fun g hg => by cases hg) hW44 (by repeat (first | exact Sub.refl _ | refine sub_snap ?_ rfl)) (by repeat (first | exact Sub.nil _ | refine Sub.cons (by first | rfl | (rw [dgs_zero]; rfl) | (rw [List.drop_length]; rfl) | (simp; done) | (congr 2; omega) | (congr 3; omega)) ?_ | exact Sub.refl _ | refine sub_snap ?_ rfl)) rfl)
  have hf23 := hf23.keep kpW44
  have hc23 := hc23.keep kpW44
  have hf30 := hf30.keep kpW44
  have hf34 := hf34.keep kpW44
  have hc34 := hc34.keep kpW44
  have hf38 := hf38.keep kpW44
  have hVW44 := hW44.sub (Sub.nil _)
  obtain ⟨ds44, r44⟩ := i44
  have hj44 : joinZ ([c].map Ch.v) ([t].map Ch.v) = ([], 0) := by show joinZ [c.v] [t.v] = _; rw [hcv, htv]; exact awake_join
  dsimp only at hv44 hr44
  rw [hj44] at hv44
  obtain rfl := none_ch hv44
  refine J.as 44 (.tuple #[r44.val 0, .int .i64 0]) rfl (by rw [hj44]; rfl) ?_
  refine J.move rfl rfl ?_
  refine J.extract rfl rfl rfl ?_
  refine J.extract rfl rfl rfl ?_
  refine J.assign rfl rfl ?_
  refine J.assign rfl rfl ?_
  refine J.end ?_
  refine X.then ?_
  refine T.seq ?_
  refine T.text [.l, .l, .l] rfl ?_
  refine J.move rfl rfl ?_
  refine J.call0 (k := .l) trivial fok29 rfl rfl (fun w hw => Dd.Apart w n _ _ none _ 0 [c] [] ((hf23.keep (keep_snap (I := [some g1, some g2, some g20, some g22, some g28]) (B0 := []) (l1 := []) hVW44 hn (fun g hg => by cases hg) hw (by repeat (first | exact Sub.refl _ | refine sub_snap ?_ rfl)) (Sub.nil _) rfl)).cs) (hc23.keep (keep_snap (I := [some g1, some g2, some g20, some g22, some g28]) (B0 := []) (l1 := []) hVW44 hn (fun g hg => by cases hg) hw (by repeat (first | exact Sub.refl _ | refine sub_snap ?_ rfl)) (Sub.nil _) rfl)) (Cs.nil _ _) AllC.nil (by simp) (by simp)) ?_
  refine J.as 48 (.bool true) rfl (by rw [decide_eq_true (show apartL ([c].map Ch.v) (([] : List Ch).map Ch.v) from apart_nil _)]) ?_
  refine J.assign rfl rfl ?_
  refine J.end ?_
  refine X.then ?_
  refine T.seq ?_
  refine T.text [.l, .l, .l, .l] rfl ?_
  refine J.move rfl rfl ?_
  refine J.move rfl rfl ?_
  refine J.call0 (k := .l) trivial fok29 rfl rfl (fun w hw => Dd.Apart w n _ _ _ _ _ [c] [t] ((hf23.keep (keep_snap (I := [some g1, some g2, some g20, some g22, some g28]) (B0 := []) (l1 := []) hVW44 hn (fun g hg => by cases hg) hw (by repeat (first | exact Sub.refl _ | refine sub_snap ?_ rfl)) (Sub.nil _) rfl)).cs) (hc23.keep (keep_snap (I := [some g1, some g2, some g20, some g22, some g28]) (B0 := []) (l1 := []) hVW44 hn (fun g hg => by cases hg) hw (by repeat (first | exact Sub.refl _ | refine sub_snap ?_ rfl)) (Sub.nil _) rfl)) ((hf34.keep (keep_snap (I := [some g1, some g2, some g20, some g22, some g28]) (B0 := []) (l1 := []) hVW44 hn (fun g hg => by cases hg) hw (by repeat (first | exact Sub.refl _ | refine sub_snap ?_ rfl)) (Sub.nil _) rfl)).cs) (hc34.keep (keep_snap (I := [some g1, some g2, some g20, some g22, some g28]) (B0 := []) (l1 := []) hVW44 hn (fun g hg => by cases hg) hw (by repeat (first | exact Sub.refl _ | refine sub_snap ?_ rfl)) (Sub.nil _) rfl)) (by simp) (by simp)) ?_
  refine J.as 51 (.bool false) rfl (by rw [decide_eq_false (show ¬ apartL ([c].map Ch.v) ([t].map Ch.v) by show ¬ apartL [c.v] [t.v]; rw [hcv, htv]; exact awake_apart)]) ?_
  refine J.assign rfl rfl ?_
  refine J.end ?_
  refine X.then ?_
  refine T.seq ?_
  refine T.seq ?_
  refine T.text [.l, .l, .l, .l, .l, .l, .l, .l, .l, .l, .l, .l, .l, .l, .l, .l, .l, .l, .l, .l, .l, .l, .l, .l, .l, .l] rfl ?_
  refine J.move rfl rfl ?_
  refine J.neq rfl rfl rfl (decide_eq_false (by first | omega | rfl | assumption | (simp only [*]; done))) ?_
  refine J.move rfl rfl ?_
  refine J.yes rfl rfl ?_
  refine J.move rfl rfl ?_
  refine J.yes rfl rfl ?_
  refine J.neq rfl rfl rfl (decide_eq_false (by first | omega | rfl | assumption | (simp only [*]; done))) ?_
  refine J.pick_f rfl rfl rfl ?_
  refine J.move rfl rfl ?_
  refine J.yes rfl rfl ?_
  refine J.move rfl rfl ?_
  refine J.yes rfl rfl ?_
  refine J.neq rfl rfl rfl (decide_eq_false (by first | omega | rfl | assumption | (simp only [*]; done))) ?_
  refine J.pick_f rfl rfl rfl ?_
  refine J.move rfl rfl ?_
  refine J.yes rfl rfl ?_
  refine J.move rfl rfl ?_
  refine J.yes rfl rfl ?_
  refine J.neq rfl rfl rfl (decide_eq_false (by first | omega | rfl | assumption | (simp only [*]; done))) ?_
  refine J.pick_f rfl rfl rfl ?_
  refine J.move rfl rfl ?_
  refine J.yes rfl rfl ?_
  refine J.move rfl rfl ?_
  refine J.yes rfl rfl ?_
  refine J.lenSl Tryz.underlying25 rfl rfl ?_
  refine J.yes rfl rfl ?_
  refine J.neq rfl rfl rfl (decide_eq_false (by first | omega | rfl | assumption | (simp only [*]; done))) ?_
  refine J.pick_f rfl rfl rfl ?_
  refine J.move rfl rfl ?_
  refine J.yes rfl rfl ?_
  refine J.move rfl rfl ?_
  refine J.yes rfl rfl ?_
  refine J.not rfl rfl rfl ?_
  refine J.pick_f rfl rfl rfl ?_
  refine J.move rfl rfl ?_
  refine J.yes rfl rfl ?_
  refine J.move rfl rfl ?_
  refine J.pick_f rfl rfl rfl ?_
  refine J.end ?_
  refine X.then ?_
  refine T.cond_false rfl ?_
  refine T.skip ?_
  refine X.then ?_
  refine T.seq ?_
  refine T.text [.l, .l, .l, .l, .l, .l, .l, .l, .l, .l, .l, .l, .l, .l, .l, .l, .l, .l, .l] rfl ?_
  refine J.move rfl rfl ?_
  refine J.loadN (k := .l) trivial 2 rfl rfl agg56 ((Ac.ofBal 2).cells) rfl rfl rfl ?_
  refine J.lit1 80 rfl Tryz.underlying22 el56 (by decide) rfl ((Ac.ofBal 2).cells) rfl rfl rfl (fun g80 hg80 => ?_)
  refine J.call0 (k := .l) trivial fok26 rfl rfl (fun w hw => Dq.worlds w _ _ _ _ ((Ac.ofBal 5).moved c.new q30) (Ac.ofBal 2) ((hf30.keep (keep_snap (I := [some g1, some g2, some g20, some g22, some g28]) (B0 := []) (l1 := []) hVW44 hn (fun g hg => by cases hg) hw (by repeat (first | exact Sub.refl _ | refine sub_snap ?_ rfl)) (Sub.nil _) rfl)).cs) (row1A (hw.blkCs (k := 80) rfl)) rfl rfl (hcb.new.trans rfl) rfl rfl rfl rfl) ?_
  refine J.move rfl rfl ?_
  refine J.yes rfl rfl ?_
  refine J.move rfl rfl ?_
  refine J.yes rfl rfl ?_
  refine J.loadN (k := .l) trivial 1 rfl rfl agg56 ((Ac.ofBal 5).cells) rfl rfl rfl ?_
  refine J.yes rfl rfl ?_
  refine J.lit1 85 rfl Tryz.underlying22 el56 (by decide) rfl ((Ac.ofBal 5).cells) rfl rfl rfl (fun g85 hg85 => ?_)
  refine J.yes rfl rfl ?_
  refine J.call0 (k := .l) trivial fok26 rfl rfl (fun w hw => Dq.worlds w _ _ _ _ (((Ac.ofBal 5).moved c.new q30).moved t.new q38) (Ac.ofBal 5) ((hf38.keep (keep_snap (I := [some g1, some g2, some g20, some g22, some g28]) (B0 := []) (l1 := []) hVW44 hn (fun g hg => by cases hg) hw (by repeat (first | exact Sub.refl _ | refine sub_snap ?_ rfl)) (Sub.nil _) rfl)).cs) (row1A (hw.blkCs (k := 85) rfl)) rfl rfl (htb.new.trans rfl) rfl rfl rfl rfl) ?_
  refine J.pick_t rfl rfl rfl ?_
  refine J.move rfl rfl ?_
  refine J.yes rfl rfl ?_
  refine J.move rfl rfl ?_
  refine J.yes rfl rfl ?_
  refine J.build rfl rfl (W 5) (fun w => by kernel_rfl) ?_
  refine J.yes rfl rfl ?_
  refine J.build rfl rfl (W 2) (fun w => by kernel_rfl) ?_
  refine J.yes rfl rfl ?_
  refine J.build rfl rfl (.agg (Ch.ofBal 5 2).cells.toArray) (fun w => by kernel_rfl) ?_
  refine J.yes rfl rfl ?_
  refine J.lit1 93 rfl Tryz.underlying25 el53 (by decide) rfl ((Ch.ofBal 5 2).cells) rfl rfl rfl (fun g93 hg93 => ?_)
  refine J.yes rfl rfl ?_
  refine J.call0 (k := .l) trivial fok20 rfl rfl (fun w hw => Df.same w n _ _ _ _ _ [c] [Ch.ofBal 5 2] ((hf23.keep (keep_snap (I := [some g1, some g2, some g20, some g22, some g28]) (B0 := []) (l1 := []) hVW44 hn (fun g hg => by cases hg) hw (by repeat (first | exact Sub.refl _ | refine sub_snap ?_ rfl)) (Sub.nil _) rfl)).cs) (hc23.keep (keep_snap (I := [some g1, some g2, some g20, some g22, some g28]) (B0 := []) (l1 := []) hVW44 hn (fun g hg => by cases hg) hw (by repeat (first | exact Sub.refl _ | refine sub_snap ?_ rfl)) (Sub.nil _) rfl)) (row1C (hw.blkCs (k := 93) rfl)) (AllC.snoc AllC.nil (chBal_ok 5 2)) (by simp) (by simp)) ?_
  refine J.as 94 (.bool true) rfl (by rw [decide_eq_true (show [c].map Ch.v = [Ch.ofBal 5 2].map Ch.v by show [c.v] = [(Ch.ofBal 5 2).v]; rw [hcv]; rfl)]) ?_
  refine J.pick_t rfl rfl rfl ?_
  refine J.assign rfl rfl ?_
  refine J.end ?_
  refine X.then ?_
  refine T.ret ?_
  exact X.ret1 rfl (RV.tmp rfl) (fun w' hw' => ⟨rfl, hw'.sub (Sub.nil _)⟩)
end Go.Proofs.YtlllcafedekojaaGreatDoor.Dr
set_option linter.unusedVariables false
set_option maxRecDepth 20000
namespace Go.Proofs.YtlllcafedekojaaGreatDoor.Eb
open Go Go.Fw

theorem sz287 : SizeT Tryz.prog 287 32 := (by unfold SizeT; kernel_rfl)
theorem fok22 : FnOk Tryz.prog 22 := FnOk.mk' Tryz.func22 (by kernel_rfl) rfl
theorem fok23 : FnOk Tryz.prog 23 := FnOk.mk' Tryz.func23 (by kernel_rfl) rfl
theorem fok32 : FnOk Tryz.prog 32 := FnOk.mk' Tryz.func32 (by kernel_rfl) rfl
theorem fok33 : FnOk Tryz.prog 33 := FnOk.mk' Tryz.func33 (by kernel_rfl) rfl
theorem fok19 : FnOk Tryz.prog 19 := FnOk.mk' Tryz.func19 (by kernel_rfl) rfl
theorem fok20 : FnOk Tryz.prog 20 := FnOk.mk' Tryz.func20 (by kernel_rfl) rfl
theorem fok27 : FnOk Tryz.prog 27 := FnOk.mk' Tryz.func27 (by kernel_rfl) rfl

set_option maxHeartbeats 8000000 in
theorem DiffJoins (w : World) (A0 : Option Addr) (c0 : Nat) (xs0 : List Ch) (hx0 : Cs w A0 (rowC xs0)) (i0_ : ∀ x ∈ xs0, x.In w) (l0 : xs0.length ≤ 1000000000000) (A1 : Option Addr) (c1 : Nat) (xs1 : List Ch) (hx1 : Cs w A1 (rowC xs1)) (i1_ : ∀ x ∈ xs1, x.In w) (l1 : xs1.length ≤ 1000000000000) :
    Calls Tryz.prog 6 [.slice A0 xs0.length c0, .slice A1 xs1.length c1].toArray w fun e w' => e = .returned (.bool true) ∧ WS w [] [] w' := by
  obtain ⟨n, hn0⟩ : ∃ n, n = w.heap.size := ⟨_, rfl⟩
  have hn : n ≤ w.heap.size := Nat.le_of_eq hn0
  refine calls_of_T [] 58 [] Tryz.func6 rfl Tryz.ntmps6 (by simp) (WS.refl _ _) ?_
  refine T.seq ?_
  refine T.text [.l] rfl ?_
  refine J.assign rfl rfl ?_
  refine J.end ?_
  refine X.then ?_
  refine T.seq ?_
  refine T.seq ?_
  refine T.text [.l, .l, .l, .l, .l, .l, .l, .l] rfl ?_
  refine J.move rfl rfl ?_
  refine J.call0 (k := .l) trivial fok22 rfl rfl (fun w hw => Df.load w _ _ xs0 (hx0.ws hw (off_nil _)) (in_load i0_) (by omega)) ?_
  refine J.gtr rfl rfl rfl rfl ?_
  refine J.move rfl rfl ?_
  refine J.split 15 rfl (fun h1 => ?_) (fun h1 => ?_)
  · skip
    refine J.no rfl rfl rfl rfl ?_
    refine J.no rfl rfl rfl rfl ?_
    refine J.no rfl rfl rfl rfl ?_
    refine J.pick_t rfl rfl rfl ?_
    refine J.end ?_
    refine X.then ?_
    refine T.cond_true rfl ?_
    refine T.seq ?_
    refine T.text [.l] rfl ?_
    refine J.assign rfl rfl ?_
    refine J.end ?_
    refine X.then ?_
    refine T.ret ?_
    refine X.then_ret ?_
    exact X.ret1 rfl (RV.tmp rfl) (fun w' hw' => ⟨rfl, hw'.sub (Sub.nil _)⟩)
  · have L0 : loadR xs0.length xs0 ≤ 262144 := by omega
    have G0 := loadR_ge xs0 xs0.length
    have d0 := in_ok hn0 i0_ L0
    refine J.yes rfl rfl ?_
    refine J.move rfl rfl ?_
    refine J.yes rfl rfl ?_
    refine J.call0 (k := .l) trivial fok22 rfl rfl (fun w hw => Df.load w _ _ xs1 (hx1.ws hw (off_nil _)) (in_load i1_) (by omega)) ?_
    refine J.yes rfl rfl ?_
    refine J.gtr rfl rfl rfl rfl ?_
    refine J.pick_f rfl rfl rfl ?_
    refine J.end ?_
    refine X.then ?_
    refine T.cond_dec rfl (fun h2 => ?_) (fun h2 => ?_)
    · skip
      refine T.seq ?_
      refine T.text [.l] rfl ?_
      refine J.assign rfl rfl ?_
      refine J.end ?_
      refine X.then ?_
      refine T.ret ?_
      refine X.then_ret ?_
      exact X.ret1 rfl (RV.tmp rfl) (fun w' hw' => ⟨rfl, hw'.sub (Sub.nil _)⟩)
    · have L1 : loadR xs1.length xs1 ≤ 262144 := by omega
      have G1 := loadR_ge xs1 xs1.length
      have d1 := in_ok hn0 i1_ L1
      refine T.skip ?_
      refine X.then ?_
      refine T.seq ?_
      refine T.text [.l, .l, .l] rfl ?_
      refine J.move rfl rfl ?_
      refine J.callB fok23 rfl rfl _ _ [] (by repeat (first | exact Sub.nil _ | refine Sub.cons (by first | rfl | (rw [dgs_zero]; rfl) | (rw [List.drop_length]; rfl) | (simp; done) | (congr 2; omega) | (congr 3; omega)) ?_ | exact Sub.refl _ | refine sub_snap ?_ rfl)) rfl (fun _ _ => Sub.nil _) (fun w hw => Df.lendTurns w n ([] ++ ids []) _ _ xs0 (Nat.le_trans hn hw.size) (busy_lt (l1 := []) (fun g h => by cases h) hw (by repeat (first | exact Sub.nil _ | refine Sub.cons (by first | rfl | (rw [dgs_zero]; rfl) | (rw [List.drop_length]; rfl) | (simp; done) | (congr 2; omega) | (congr 3; omega)) ?_ | exact Sub.refl _ | refine sub_snap ?_ rfl)) rfl) (hx0.ws hw (off_nil _)) (d0.keep (keep_base (B0 := []) (l1 := []) hn (fun g hg => by cases hg) hw (Sub.nil _) rfl)) (loadR_small xs0 _ L0) (by omega)) (fun i21 W21 hP21 hW21 => ?_)
      obtain ⟨hv21, ha21, hf21, hp21⟩ := hP21
      have kpW21 := (keep_base (B0 := []) (l1 := []) hn (fun g hg => by cases hg) hW21 (Sub.nil _) rfl)
      have d0 := d0.keep kpW21
      have d1 := d1.keep kpW21
      have hVW21 := hW21.sub (Sub.nil _)
      obtain ⟨x21, r21⟩ := i21
      dsimp only at hv21 ha21 hf21 hp21
      have ln21 := len_v hv21
      refine J.assign rfl rfl ?_
      refine J.end ?_
      refine X.then ?_
      refine T.seq ?_
      refine T.text [.l, .l, .l] rfl ?_
      refine J.move rfl rfl ?_
      refine J.callB fok23 rfl rfl _ _ [] (by repeat (first | exact Sub.nil _ | refine Sub.cons (by first | rfl | (rw [dgs_zero]; rfl) | (rw [List.drop_length]; rfl) | (simp; done) | (congr 2; omega) | (congr 3; omega)) ?_ | exact Sub.refl _ | refine sub_snap ?_ rfl)) rfl (fun _ _ => Sub.nil _) (fun w hw => Df.lendTurns w n ([] ++ ids []) _ _ xs1 (Nat.le_trans hn hw.size) (busy_lt (l1 := []) (fun g h => by cases h) hw (by repeat (first | exact Sub.nil _ | refine Sub.cons (by first | rfl | (rw [dgs_zero]; rfl) | (rw [List.drop_length]; rfl) | (simp; done) | (congr 2; omega) | (congr 3; omega)) ?_ | exact Sub.refl _ | refine sub_snap ?_ rfl)) rfl) (hx1.ws hw (off_nil _)) (d1.keep (keep_snap (I := []) (B0 := []) (l1 := []) hVW21 hn (fun g hg => by cases hg) hw (by repeat (first | exact Sub.refl _ | refine sub_snap ?_ rfl)) (Sub.nil _) rfl)) (loadR_small xs1 _ L1) (by omega)) (fun i23 W23 hP23 hW23 => ?_)
      obtain ⟨hv23, ha23, hf23, hp23⟩ := hP23
      have kpW23 := (keep_snap (I := []) (B0 := []) (l1 := []) hVW21 hn (fun g hg => by cases hg) hW23 (by repeat (first | exact Sub.refl _ | refine sub_snap ?_ rfl)) (Sub.nil _) rfl)
      have d0 := d0.keep kpW23
      have d1 := d1.keep kpW23
      have ha21 := ha21.keep kpW23
      have hf21 := hf21.keep kpW23
      have hVW23 := hW23.sub (Sub.nil _)
      obtain ⟨x23, r23⟩ := i23
      dsimp only at hv23 ha23 hf23 hp23
      have ln23 := len_v hv23
      refine J.assign rfl rfl ?_
      refine J.end ?_
      refine X.then ?_
      refine T.seq ?_
      refine T.text [.l, .l, .l, .l, .l, .l, .l, .l] rfl ?_
      refine J.move rfl rfl ?_
      refine J.move rfl rfl ?_
      refine J.callB fok32 rfl rfl _ _ [] (by repeat (first | exact Sub.nil _ | refine Sub.cons (by first | rfl | (rw [dgs_zero]; rfl) | (rw [List.drop_length]; rfl) | (simp; done) | (congr 2; omega) | (congr 3; omega)) ?_ | exact Sub.refl _ | refine sub_snap ?_ rfl)) rfl (fun _ _ => Sub.nil _) (fun w hw => Dc.Join w n ([] ++ ids []) _ _ _ _ x21 x23 (Nat.le_trans hn hw.size) (busy_lt (l1 := []) (fun g h => by cases h) hw (by repeat (first | exact Sub.nil _ | refine Sub.cons (by first | rfl | (rw [dgs_zero]; rfl) | (rw [List.drop_length]; rfl) | (simp; done) | (congr 2; omega) | (congr 3; omega)) ?_ | exact Sub.refl _ | refine sub_snap ?_ rfl)) rfl) ((lentRow (hf21.keep (keep_snap (I := []) (B0 := []) (l1 := []) hVW23 hn (fun g hg => by cases hg) hw (by repeat (first | exact Sub.refl _ | refine sub_snap ?_ rfl)) (Sub.nil _) rfl))).cs) (Nat.le_of_succ_le hp21) ((ha21.keep (keep_snap (I := []) (B0 := []) (l1 := []) hVW23 hn (fun g hg => by cases hg) hw (by repeat (first | exact Sub.refl _ | refine sub_snap ?_ rfl)) (Sub.nil _) rfl)).ok) ((lentRow (hf23.keep (keep_snap (I := []) (B0 := []) (l1 := []) hVW23 hn (fun g hg => by cases hg) hw (by repeat (first | exact Sub.refl _ | refine sub_snap ?_ rfl)) (Sub.nil _) rfl))).cs) (Nat.le_of_succ_le hp23) ((ha23.keep (keep_snap (I := []) (B0 := []) (l1 := []) hVW23 hn (fun g hg => by cases hg) hw (by repeat (first | exact Sub.refl _ | refine sub_snap ?_ rfl)) (Sub.nil _) rfl)).ok) (by omega) (by omega)) (fun i27 W27 hP27 hW27 => ?_)
      obtain ⟨hv27, hr27, hf27, hc27⟩ := hP27
      have kpW27 := (keep_snap (I := []) (B0 := []) (l1 := []) hVW23 hn (fun g hg => by cases hg) hW27 (by repeat (first | exact Sub.refl _ | refine sub_snap ?_ rfl)) (Sub.nil _) rfl)
      have d0 := d0.keep kpW27
      have d1 := d1.keep kpW27
      have ha21 := ha21.keep kpW27
      have hf21 := hf21.keep kpW27
      have ha23 := ha23.keep kpW27
      have hf23 := hf23.keep kpW27
      have hVW27 := hW27.sub (Sub.nil _)
      obtain ⟨x27, r27⟩ := i27
      dsimp only at hv27 hr27 hf27 hc27
      have e27 : joinZ (x21.map Ch.v) (x23.map Ch.v) = joinZ (xs0.map Ch.v) (xs1.map Ch.v) := by rw [hv21, hv23]
      rw [e27] at hv27
      have ln27 := len_join hv27
      simp only [List.length_map] at ln27
      refine J.as 27 (.tuple #[r27.val x27.length, .int .i64 (joinZ (xs0.map Ch.v) (xs1.map Ch.v)).2]) rfl (by rw [e27]) ?_
      refine J.move rfl rfl ?_
      refine J.extract rfl rfl rfl ?_
      refine J.extract rfl rfl rfl ?_
      refine J.assign rfl rfl ?_
      refine J.assign rfl rfl ?_
      refine J.end ?_
      refine X.then ?_
      refine T.seq ?_
      refine T.text [.l, .l, .l, .l, .l, .l, .l, .l] rfl ?_
      refine J.move rfl rfl ?_
      refine J.move rfl rfl ?_
      refine J.callB fok33 rfl rfl _ _ [] (by repeat (first | exact Sub.nil _ | refine Sub.cons (by first | rfl | (rw [dgs_zero]; rfl) | (rw [List.drop_length]; rfl) | (simp; done) | (congr 2; omega) | (congr 3; omega)) ?_ | exact Sub.refl _ | refine sub_snap ?_ rfl)) rfl (fun _ _ => Sub.nil _) (fun w hw => Dh.Join w n ([] ++ ids []) _ _ _ _ xs0 xs1 (Nat.le_trans hn hw.size) (busy_lt (l1 := []) (fun g h => by cases h) hw (by repeat (first | exact Sub.nil _ | refine Sub.cons (by first | rfl | (rw [dgs_zero]; rfl) | (rw [List.drop_length]; rfl) | (simp; done) | (congr 2; omega) | (congr 3; omega)) ?_ | exact Sub.refl _ | refine sub_snap ?_ rfl)) rfl) (hx0.ws hw (off_nil _))  (d0.keep (keep_snap (I := []) (B0 := []) (l1 := []) hVW27 hn (fun g hg => by cases hg) hw (by repeat (first | exact Sub.refl _ | refine sub_snap ?_ rfl)) (Sub.nil _) rfl)) (hx1.ws hw (off_nil _))  (d1.keep (keep_snap (I := []) (B0 := []) (l1 := []) hVW27 hn (fun g hg => by cases hg) hw (by repeat (first | exact Sub.refl _ | refine sub_snap ?_ rfl)) (Sub.nil _) rfl)) (by omega) (by omega)) (fun i33 W33 hP33 hW33 => ?_)
      obtain ⟨hv33, hr33, hf33, hc33⟩ := hP33
      have kpW33 := (keep_snap (I := []) (B0 := []) (l1 := []) hVW27 hn (fun g hg => by cases hg) hW33 (by repeat (first | exact Sub.refl _ | refine sub_snap ?_ rfl)) (Sub.nil _) rfl)
      have d0 := d0.keep kpW33
      have d1 := d1.keep kpW33
      have ha21 := ha21.keep kpW33
      have hf21 := hf21.keep kpW33
      have ha23 := ha23.keep kpW33
      have hf23 := hf23.keep kpW33
      have hf27 := hf27.keep kpW33
      have hc27 := hc27.keep kpW33
      have hVW33 := hW33.sub (Sub.nil _)
      obtain ⟨x33, r33⟩ := i33
      dsimp only at hv33 hr33 hf33 hc33
      have e33 : joinZ (xs0.map Ch.v) (xs1.map Ch.v) = joinZ (xs0.map Ch.v) (xs1.map Ch.v) := by rfl
      rw [e33] at hv33
      have ln33 := len_join hv33
      simp only [List.length_map] at ln33
      refine J.as 33 (.tuple #[r33.val x33.length, .int .i64 (joinZ (xs0.map Ch.v) (xs1.map Ch.v)).2]) rfl (by rw [e33]) ?_
      refine J.move rfl rfl ?_
      refine J.extract rfl rfl rfl ?_
      refine J.extract rfl rfl rfl ?_
      refine J.assign rfl rfl ?_
      refine J.assign rfl rfl ?_
      refine J.end ?_
      refine X.then ?_
      refine T.seq ?_
      refine T.text [.l, .l] rfl ?_
      refine J.call0 (k := .l) trivial fok19 rfl rfl (fun w hw => Dr.awake w) ?_
      refine J.assign rfl rfl ?_
      refine J.end ?_
      refine X.then ?_
      refine T.seq ?_
      refine T.text [.l, .l, .l, .l, .l, .l, .l, .l, .l, .l, .l, .l, .l, .l, .l, .l, .l, .l, .l, .l, .l, .l] rfl ?_
      refine J.move rfl rfl ?_
      refine J.move rfl rfl ?_
      refine J.yes rfl rfl ?_
      refine J.move rfl rfl ?_
      refine J.yes rfl rfl ?_
      refine J.move rfl rfl ?_
      refine J.yes rfl rfl ?_
      refine J.eql rfl rfl rfl (decide_eq_true rfl) ?_
      refine J.pick_t rfl rfl rfl ?_
      refine J.move rfl rfl ?_
      refine J.yes rfl rfl ?_
      refine J.move rfl rfl ?_
      refine J.yes rfl rfl ?_
      refine J.move rfl rfl ?_
      refine J.yes rfl rfl ?_
      refine J.call0 (k := .l) trivial fok20 rfl rfl (fun w hw => Df.same w n _ _ _ _ _ x27 x33 ((hf27.keep (keep_snap (I := []) (B0 := []) (l1 := []) hVW33 hn (fun g hg => by cases hg) hw (by repeat (first | exact Sub.refl _ | refine sub_snap ?_ rfl)) (Sub.nil _) rfl)).cs) (hc27.keep (keep_snap (I := []) (B0 := []) (l1 := []) hVW33 hn (fun g hg => by cases hg) hw (by repeat (first | exact Sub.refl _ | refine sub_snap ?_ rfl)) (Sub.nil _) rfl)) ((hf33.keep (keep_snap (I := []) (B0 := []) (l1 := []) hVW33 hn (fun g hg => by cases hg) hw (by repeat (first | exact Sub.refl _ | refine sub_snap ?_ rfl)) (Sub.nil _) rfl)).cs) (hc33.keep (keep_snap (I := []) (B0 := []) (l1 := []) hVW33 hn (fun g hg => by cases hg) hw (by repeat (first | exact Sub.refl _ | refine sub_snap ?_ rfl)) (Sub.nil _) rfl)) (by omega) (by omega)) ?_
      refine J.as 46 (.bool true) rfl (by rw [decide_eq_true (hv27.trans hv33.symm)]) ?_
      refine J.pick_t rfl rfl rfl ?_
      refine J.move rfl rfl ?_
      refine J.yes rfl rfl ?_
      refine J.move rfl rfl ?_
      refine J.yes rfl rfl ?_
      refine J.move rfl rfl ?_
      refine J.yes rfl rfl ?_
      refine J.call0 (k := .l) trivial fok27 rfl rfl (fun w hw => Df.stillTurns w n _ _ _ _ _ x21 xs0 (Nat.le_trans hn hw.size) ((hf21.keep (keep_snap (I := []) (B0 := []) (l1 := []) hVW33 hn (fun g hg => by cases hg) hw (by repeat (first | exact Sub.refl _ | refine sub_snap ?_ rfl)) (Sub.nil _) rfl)).cs) ((lentRow (hf21.keep (keep_snap (I := []) (B0 := []) (l1 := []) hVW33 hn (fun g hg => by cases hg) hw (by repeat (first | exact Sub.refl _ | refine sub_snap ?_ rfl)) (Sub.nil _) rfl))).cs) (ha21.keep (keep_snap (I := []) (B0 := []) (l1 := []) hVW33 hn (fun g hg => by cases hg) hw (by repeat (first | exact Sub.refl _ | refine sub_snap ?_ rfl)) (Sub.nil _) rfl)) hp21 (hx0.ws hw (off_nil _)) (d0.keep (keep_snap (I := []) (B0 := []) (l1 := []) hVW33 hn (fun g hg => by cases hg) hw (by repeat (first | exact Sub.refl _ | refine sub_snap ?_ rfl)) (Sub.nil _) rfl)) hv21 (by omega)) ?_
      refine J.pick_t rfl rfl rfl ?_
      refine J.move rfl rfl ?_
      refine J.yes rfl rfl ?_
      refine J.move rfl rfl ?_
      refine J.yes rfl rfl ?_
      refine J.move rfl rfl ?_
      refine J.yes rfl rfl ?_
      refine J.call0 (k := .l) trivial fok27 rfl rfl (fun w hw => Df.stillTurns w n _ _ _ _ _ x23 xs1 (Nat.le_trans hn hw.size) ((hf23.keep (keep_snap (I := []) (B0 := []) (l1 := []) hVW33 hn (fun g hg => by cases hg) hw (by repeat (first | exact Sub.refl _ | refine sub_snap ?_ rfl)) (Sub.nil _) rfl)).cs) ((lentRow (hf23.keep (keep_snap (I := []) (B0 := []) (l1 := []) hVW33 hn (fun g hg => by cases hg) hw (by repeat (first | exact Sub.refl _ | refine sub_snap ?_ rfl)) (Sub.nil _) rfl))).cs) (ha23.keep (keep_snap (I := []) (B0 := []) (l1 := []) hVW33 hn (fun g hg => by cases hg) hw (by repeat (first | exact Sub.refl _ | refine sub_snap ?_ rfl)) (Sub.nil _) rfl)) hp23 (hx1.ws hw (off_nil _)) (d1.keep (keep_snap (I := []) (B0 := []) (l1 := []) hVW33 hn (fun g hg => by cases hg) hw (by repeat (first | exact Sub.refl _ | refine sub_snap ?_ rfl)) (Sub.nil _) rfl)) hv23 (by omega)) ?_
      refine J.pick_t rfl rfl rfl ?_
      refine J.assign rfl rfl ?_
      refine J.end ?_
      refine X.then ?_
      refine T.ret ?_
      exact X.ret1 rfl (RV.tmp rfl) (fun w' hw' => ⟨rfl, hw'.sub (Sub.nil _)⟩)
end Go.Proofs.YtlllcafedekojaaGreatDoor.Eb
namespace Go.Proofs.YtlllcafedekojaaGreatDoor.Ow
open Go Go.ChangeShapes Go.WideShapes Go.ChangeAt Go.RowKit
theorem own : ownKnob Tryz.prog.godebug = none := by kernel_rfl
theorem laidOut : laidOutB Tryz.prog = true := by kernel_rfl
abbrev laidL := Rows.diffTurnsRow.laid
set_option maxRecDepth 100000 in
theorem door_met (os : Os) (args : Array Value) : laidMetH Tryz.prog laidL ((World.doorLaid Tryz.prog 400 os).forCall (fun _ _ => 0) ⟨#[], args, []⟩).memory :=
  laidMetH_of_parts3 (fuel := 8) (laidMet_of_run' 8 (by kernel_rfl) (by kernel_rfl)) (by kernel_rfl) (by kernel_rfl)
end Go.Proofs.YtlllcafedekojaaGreatDoor.Ow
