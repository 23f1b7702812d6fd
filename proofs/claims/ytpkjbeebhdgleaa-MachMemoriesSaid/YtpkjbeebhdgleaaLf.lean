/-
  Walks, printed by gen.py: what each function hands back, said of numbers.
  Conditions: those that each theorem bears.
-/
import Derived.Test.YtpkjbeebhdgleaaChecked
import Derived.Test.YtpkjbeebhdgleaaPg
import Derived.Test.YtpkjbeebhdgleaaOb
set_option linter.unusedVariables false
set_option maxRecDepth 20000
namespace Go.Proofs.Ytpkjbeebhdgleaa.Lf
open Go Go.Fw

theorem sz67 : SizeT Try.prog 67 32 := (by unfold SizeT; kernel_rfl)
theorem fok35 : FnOk Try.prog 35 := FnOk.mk' Try.func35 (by kernel_rfl) rfl
theorem zero63 : ZeroT Try.prog 63 (.agg ([.pointer none, .pointer none]).toArray) := (by unfold ZeroT; kernel_rfl)
theorem sz63 : SizeT Try.prog 63 2 := (by unfold SizeT; kernel_rfl)
theorem sz60 : SizeT Try.prog 60 1 := (by unfold SizeT; kernel_rfl)
theorem fld63_0 : FldT Try.prog 63 0 60 0 0 := ⟨by kernel_rfl, sz60⟩
theorem one60 : OneT Try.prog 60 := ⟨⟨_, Try.underlying60, rfl⟩, by kernel_rfl⟩
theorem agg63 : AggT Try.prog 63 2 := ⟨⟨_, Try.underlying63, rfl⟩, by kernel_rfl⟩
theorem sz52 : SizeT Try.prog 52 14 := (by unfold SizeT; kernel_rfl)
theorem sl50 : SlT Try.prog 50 52 14 := ⟨Try.underlying50, sz52⟩
theorem sz4 : SizeT Try.prog 4 1 := (by unfold SizeT; kernel_rfl)
theorem fld52_1 : FldT Try.prog 52 1 4 1 0 := ⟨by kernel_rfl, sz4⟩
theorem one4 : OneT Try.prog 4 := ⟨⟨_, Try.underlying4, rfl⟩, by kernel_rfl⟩
theorem agg52 : AggT Try.prog 52 14 := ⟨⟨_, Try.underlying52, rfl⟩, by kernel_rfl⟩
theorem fok36 : FnOk Try.prog 36 := FnOk.mk' Try.func36 (by kernel_rfl) rfl
theorem fok37 : FnOk Try.prog 37 := FnOk.mk' Try.func37 (by kernel_rfl) rfl
theorem sz61 : SizeT Try.prog 61 1 := (by unfold SizeT; kernel_rfl)
theorem fld63_1 : FldT Try.prog 63 1 61 1 0 := ⟨by kernel_rfl, sz61⟩
theorem one61 : OneT Try.prog 61 := ⟨⟨_, Try.underlying61, rfl⟩, by kernel_rfl⟩
theorem fok38 : FnOk Try.prog 38 := FnOk.mk' Try.func38 (by kernel_rfl) rfl
theorem fok39 : FnOk Try.prog 39 := FnOk.mk' Try.func39 (by kernel_rfl) rfl

set_option maxRecDepth 100000 in
set_option maxHeartbeats 1000000 in
theorem MachMemories (w : World) (A0 : Option Addr) (c0 : Nat) (os : List OpD) (hc0 : Cs w A0 (rowO os)) (hok0 : ∀ i, i < os.length → (os.getD i OpD.zero).Ok w) (hb0 : os.length ≤ 9223372036854775807) :
    Calls Try.prog 8 [.slice A0 os.length c0].toArray w fun e w' => e = .returned (.bool true) ∧ WS w [] [] w' := by
  refine calls_of_T [] 70 [] Try.func8 rfl Try.ntmps8 (by simp) (WS.refl _ _) ?_
  refine T.seq ?_
  refine T.text [.l] rfl ?_
  refine J.assign rfl rfl ?_
  refine J.end ?_
  refine X.then ?_
  refine T.seq ?_
  refine T.text [.l, .l, .l] rfl ?_
  refine J.callPair 100 102 (by decide) rfl rfl fok35 rfl rfl (fun w hw => Pg.blank w) (fun a7 b7 ha7 hb7 => ?_)
  refine J.alloc 3 rfl zero63 [.pointer none, .pointer none] rfl rfl (fun g3 hg3 => ?_)
  refine J.store 3 rfl rfl rfl rfl [.pointer (some ⟨a7, 0, none⟩), .pointer (some ⟨b7, 0, none⟩)] rfl sz63 (by first | decide | exact Nat.le_refl _ | exact Nat.le_of_ble_eq_true rfl | (simp [rowN]; done) | (simp [rowN]; omega)) (by first | exact rowN_one _ _ | (simp; done) | (intro u hu; simp at hu; subst hu; rfl) | (intro u hu; simp at hu; rcases hu with rfl | rfl <;> rfl)) (by first | decide | exact Nat.zero_lt_succ _ | simp) trivial [.pointer (some ⟨a7, 0, none⟩), .pointer (some ⟨b7, 0, none⟩)] rfl ?_
  refine J.end ?_
  refine X.addNil 101 5 ?_
  refine X.addNil 103 5 ?_
  refine X.then ?_
  refine T.seq ?_
  refine T.text [.l, .l, .l] rfl ?_
  refine J.callPair 200 202 (by decide) rfl rfl fok35 rfl rfl (fun w hw => Pg.blank w) (fun a8 b8 ha8 hb8 => ?_)
  refine J.alloc 4 rfl zero63 [.pointer none, .pointer none] rfl rfl (fun g4 hg4 => ?_)
  refine J.store 4 rfl rfl rfl rfl [.pointer (some ⟨a8, 0, none⟩), .pointer (some ⟨b8, 0, none⟩)] rfl sz63 (by first | decide | exact Nat.le_refl _ | exact Nat.le_of_ble_eq_true rfl | (simp [rowN]; done) | (simp [rowN]; omega)) (by first | exact rowN_one _ _ | (simp; done) | (intro u hu; simp at hu; subst hu; rfl) | (intro u hu; simp at hu; rcases hu with rfl | rfl <;> rfl)) (by first | decide | exact Nat.zero_lt_succ _ | simp) trivial [.pointer (some ⟨a8, 0, none⟩), .pointer (some ⟨b8, 0, none⟩)] rfl ?_
  refine J.end ?_
  refine X.addNil 201 5 ?_
  refine X.addNil 203 5 ?_
  refine X.then ?_
  refine T.seq ?_
  refine T.seq ?_
  refine T.text [.l, .l, .l, .l, .l, .l, .l, .l] rfl ?_
  refine J.fieldAddr fld63_0 rfl rfl ?_
  refine J.load1 (k := .l) trivial 3 rfl rfl one60 (by first | rfl | with_reducible exact rowN_get0 _ _ _ (by omega) | with_reducible exact rowN_get1 _ _ _ (by omega) | with_reducible exact rowN_get1s _ _ _ _ (by omega) | exact rowN_get1 _ _ _ (by omega) | exact rowN_get1s _ _ _ _ (by omega) | exact rowN_get0 _ _ _ (by omega)) rfl ?_
  refine J.eqNil (by kernel_rfl) rfl rfl rfl rfl ?_
  refine J.move rfl rfl ?_
  refine J.yes rfl rfl ?_
  refine J.fieldAddr fld63_0 rfl rfl ?_
  refine J.yes rfl rfl ?_
  refine J.load1 (k := .l) trivial 4 rfl rfl one60 (by first | rfl | with_reducible exact rowN_get0 _ _ _ (by omega) | with_reducible exact rowN_get1 _ _ _ (by omega) | with_reducible exact rowN_get1s _ _ _ _ (by omega) | exact rowN_get1 _ _ _ (by omega) | exact rowN_get1s _ _ _ _ (by omega) | exact rowN_get0 _ _ _ (by omega)) rfl ?_
  refine J.yes rfl rfl ?_
  refine J.eqNil (by kernel_rfl) rfl rfl rfl rfl ?_
  refine J.pick_f rfl rfl rfl ?_
  refine J.end ?_
  refine X.then ?_
  refine T.cond_false rfl ?_
  refine T.skip ?_
  refine X.then ?_
  refine T.seq ?_
  refine T.seq ?_
  refine T.text [.l] rfl ?_
  refine J.assign rfl rfl ?_
  refine J.end ?_
  refine X.then ?_
  refine T.block ?_
  refine T.loop (ι := Nat × List Nat × RowIx × RowIx × List Nat × RowIx × RowIx) (fun ((i, bs1, i1, j1, bs2, i2, j2) : Nat × List Nat × RowIx × RowIx × List Nat × RowIx × RowIx) => i ≤ os.length ∧ MOk i1 bs1 ∧ MOk j1 bs1 ∧ MOk i2 bs2 ∧ MOk j2 bs2) (fun ((i, bs1, i1, j1, bs2, i2, j2) : Nat × List Nat × RowIx × RowIx × List Nat × RowIx × RowIx) => [(0, .slice A0 os.length c0), (3, .pointer (some ⟨g3, 0, none⟩)), (4, .pointer (some ⟨g4, 0, none⟩)), (5, .int .i64 (i : Int))]) (fun ((i, bs1, i1, j1, bs2, i2, j2) : Nat × List Nat × RowIx × RowIx × List Nat × RowIx × RowIx) => [(3, ⟨some g3, 63, [.pointer (some ⟨a7, 0, none⟩), .pointer (some ⟨b7, 0, none⟩)]⟩), (4, ⟨some g4, 63, [.pointer (some ⟨a8, 0, none⟩), .pointer (some ⟨b8, 0, none⟩)]⟩), (100, ⟨some a7, 99, [i1.val bs1.length]⟩), (101, i1.ent 5 (rowN .u8 bs1)), (102, ⟨some b7, 101, [j1.val bs1.length]⟩), (103, j1.ent 5 (rowN .u8 bs1)), (200, ⟨some a8, 99, [i2.val bs2.length]⟩), (201, i2.ent 5 (rowN .u8 bs2)), (202, ⟨some b8, 101, [j2.val bs2.length]⟩), (203, j2.ent 5 (rowN .u8 bs2))]) (fun ((i, bs1, i1, j1, bs2, i2, j2) : Nat × List Nat × RowIx × RowIx × List Nat × RowIx × RowIx) => os.length - i) ⟨0, [], RowIx.nil, RowIx.nil, [], RowIx.nil, RowIx.nil⟩ ⟨Nat.zero_le _, MOk.nil, MOk.nil, MOk.nil, MOk.nil⟩ (by repeat (first | exact Sub.nil _ | refine Sub.cons (by first | rfl | (rw [dgs_zero]; rfl) | (rw [List.drop_length]; rfl) | (simp; done) | (congr 2; omega) | (congr 3; omega)) ?_)) (by repeat (first | exact Sub.nil _ | refine Sub.cons (by first | rfl | (rw [dgs_zero]; rfl) | (rw [List.drop_length]; rfl) | (simp; done) | (congr 2; omega) | (congr 3; omega)) ?_)) ?_
  rintro ⟨i, bs1, i1, j1, bs2, i2, j2⟩ ⟨hi, q1, q2, q3, q4⟩
  try dsimp only at *
  refine T.seq ?_
  refine T.seq ?_
  refine T.text [.l, .l, .l, .l] rfl ?_
  refine J.move rfl rfl ?_
  refine J.move rfl rfl ?_
  refine J.lenSl Try.underlying50 rfl rfl ?_
  refine J.lss rfl rfl rfl rfl ?_
  refine J.end ?_
  refine X.then ?_
  refine T.cond_dec rfl (fun h1 => ?_) (fun h1 => ?_)
  · skip
    refine T.skip ?_
    refine X.then ?_
    refine T.seq ?_
    refine T.block ?_
    refine T.seq ?_
    refine T.text [.l, .l, .l] rfl ?_
    refine J.loadN (k := .l) trivial 3 rfl rfl agg63 [.pointer (some ⟨a7, 0, none⟩), .pointer (some ⟨b7, 0, none⟩)] rfl rfl rfl ?_
    refine J.alloc 6 rfl zero63 [.pointer none, .pointer none] rfl rfl (fun g6 hg6 => ?_)
    refine J.store 6 rfl rfl rfl rfl [.pointer (some ⟨a7, 0, none⟩), .pointer (some ⟨b7, 0, none⟩)] rfl sz63 (by first | decide | exact Nat.le_refl _ | exact Nat.le_of_ble_eq_true rfl | (simp [rowN]; done) | (simp [rowN]; omega)) (by first | exact rowN_one _ _ | (simp; done) | (intro u hu; simp at hu; subst hu; rfl) | (intro u hu; simp at hu; rcases hu with rfl | rfl <;> rfl)) (by first | decide | exact Nat.zero_lt_succ _ | simp) trivial [.pointer (some ⟨a7, 0, none⟩), .pointer (some ⟨b7, 0, none⟩)] rfl ?_
    refine J.end ?_
    refine X.then ?_
    refine T.seq ?_
    refine T.seq ?_
    refine T.text [.l, .l, .l, .l, .l] rfl ?_
    refine J.move rfl rfl ?_
    refine J.move rfl rfl ?_
    refine J.indexSlI sl50 rfl (hc0.isSome (by rw [rowO_length]; omega)) rfl (by omega) (by omega) (by first | exact Int.toNat_natCast _ | rfl) rfl ?_
    refine J.fieldAddrI fld52_1 rfl rfl ?_
    refine J.loadI1 (k := .l) trivial hc0 (off_nil _) rfl one4 (rowO_b _ _ (by omega)) rfl ?_
    refine J.as 28 (.bool (decide ((os.getD i OpD.zero).b = true))) rfl (by simp) ?_
    refine J.end ?_
    refine X.then ?_
    refine T.cond_dec rfl (fun h2 => ?_) (fun h2 => ?_)
    · skip
      refine T.text [.l, .l] rfl ?_
      refine J.loadN (k := .l) trivial 4 rfl rfl agg63 [.pointer (some ⟨a8, 0, none⟩), .pointer (some ⟨b8, 0, none⟩)] rfl rfl rfl ?_
      refine J.store 6 rfl rfl rfl rfl [.pointer (some ⟨a8, 0, none⟩), .pointer (some ⟨b8, 0, none⟩)] rfl sz63 (by first | decide | exact Nat.le_refl _ | exact Nat.le_of_ble_eq_true rfl | (simp [rowN]; done) | (simp [rowN]; omega)) (by first | exact rowN_one _ _ | (simp; done) | (intro u hu; simp at hu; subst hu; rfl) | (intro u hu; simp at hu; rcases hu with rfl | rfl <;> rfl)) (by first | decide | exact Nat.zero_lt_succ _ | simp) trivial [.pointer (some ⟨a8, 0, none⟩), .pointer (some ⟨b8, 0, none⟩)] rfl ?_
      refine J.end ?_
      refine X.then ?_
      refine T.seq ?_
      refine T.draw [] [(0, .q), (1, .g), (2, .g), (3, .g), (4, .q), (5, .l), (6, .g)] (by kernel_rfl) (by kernel_rfl) ?_ rfl (by repeat (first | exact Sub.nil _ | refine Sub.cons (by first | rfl | (rw [dgs_zero]; rfl) | (rw [List.drop_length]; rfl) | (simp; done) | (congr 2; omega) | (congr 3; omega)) ?_))
      refine J.loadN (k := .q) trivial 6 rfl rfl agg63 [.pointer (some ⟨a8, 0, none⟩), .pointer (some ⟨b8, 0, none⟩)] rfl rfl rfl ?_
      refine J.move rfl rfl ?_
      refine J.move rfl rfl ?_
      refine J.indexSlI sl50 rfl (hc0.isSome (by rw [rowO_length]; omega)) rfl (by omega) (by omega) (by first | exact Int.toNat_natCast _ | rfl) rfl ?_
      refine J.loadIN (k := .q) trivial hc0 (off_nil _) rfl agg52 (os.getD i OpD.zero).cs rfl (rowO_seg _ _ (by omega)) rfl ?_
      have hok := hok0 i (by omega)
      obtain ⟨o, ho⟩ : ∃ o, os.getD i OpD.zero = o := ⟨_, rfl⟩
      rw [ho] at hok ⊢
      have hok1 := hok.n
      have hok2 := hok.m
      have hok3 := hok.p
      unfold i64r at hok1 hok2 hok3
      refine J.callPage 200 (K := (pageL o.k o.n bs2.length)) (i := i2) (j := j2) (bs := bs2) rfl rfl rfl rfl rfl rfl rfl rfl fok36 rfl rfl (fun w hw => Pg.paged w a8 b8 i2 j2 bs2 q3 q4 (hw.pageAt 200 rfl rfl rfl rfl) o.k o.b o.n o.m o.p o.x o.y o.A o.bs o.c hok1 hok2 hok3 (hok.cs.ws hw (off_nil _)) hok.dg hok.le hok.max (hw.offPage 200 rfl rfl rfl rfl hok.cs)) (fun i35 j35 bs35 hm35 hk35 hl35 => ?_)
      refine J.not rfl rfl rfl ?_
      refine J.end ?_
      refine X.then ?_
      refine T.cond_false rfl ?_
      refine T.skip ?_
      refine X.inBlock (X.then ?_)
      refine T.text [.l, .l, .l] rfl ?_
      refine J.move rfl rfl ?_
      refine J.add rfl rfl rfl (by first | exact add_nat _ 1 (by omega) | exact i64_ok _ (by omega) | exact rfl) ?_
      refine J.assign rfl rfl ?_
      refine J.end ?_
      exact X.round ⟨(i + 1), bs1, i1, j1, bs35, i35, j35⟩ ⟨by omega, q1, q2, hm35, hk35⟩ (by first | omega | (dsimp only; omega)) (by repeat (first | exact Sub.nil _ | refine Sub.cons (by first | rfl | (rw [dgs_zero]; rfl) | (rw [List.drop_length]; rfl) | (simp; done) | (congr 2; omega) | (congr 3; omega)) ?_)) (by repeat (first | exact Sub.nil _ | refine Sub.cons (by first | rfl | (rw [dgs_zero]; rfl) | (rw [List.drop_length]; rfl) | (simp; done) | (congr 2; omega) | (congr 3; omega)) ?_))
    · skip
      refine T.skip ?_
      refine X.then ?_
      refine T.seq ?_
      refine T.draw [] [(0, .q), (1, .g), (2, .g), (3, .g), (4, .q), (5, .l), (6, .g)] (by kernel_rfl) (by kernel_rfl) ?_ rfl (by repeat (first | exact Sub.nil _ | refine Sub.cons (by first | rfl | (rw [dgs_zero]; rfl) | (rw [List.drop_length]; rfl) | (simp; done) | (congr 2; omega) | (congr 3; omega)) ?_))
      refine J.loadN (k := .q) trivial 6 rfl rfl agg63 [.pointer (some ⟨a7, 0, none⟩), .pointer (some ⟨b7, 0, none⟩)] rfl rfl rfl ?_
      refine J.move rfl rfl ?_
      refine J.move rfl rfl ?_
      refine J.indexSlI sl50 rfl (hc0.isSome (by rw [rowO_length]; omega)) rfl (by omega) (by omega) (by first | exact Int.toNat_natCast _ | rfl) rfl ?_
      refine J.loadIN (k := .q) trivial hc0 (off_nil _) rfl agg52 (os.getD i OpD.zero).cs rfl (rowO_seg _ _ (by omega)) rfl ?_
      have hok := hok0 i (by omega)
      obtain ⟨o, ho⟩ : ∃ o, os.getD i OpD.zero = o := ⟨_, rfl⟩
      rw [ho] at hok ⊢
      have hok1 := hok.n
      have hok2 := hok.m
      have hok3 := hok.p
      unfold i64r at hok1 hok2 hok3
      refine J.callPage 100 (K := (pageL o.k o.n bs1.length)) (i := i1) (j := j1) (bs := bs1) rfl rfl rfl rfl rfl rfl rfl rfl fok36 rfl rfl (fun w hw => Pg.paged w a7 b7 i1 j1 bs1 q1 q2 (hw.pageAt 100 rfl rfl rfl rfl) o.k o.b o.n o.m o.p o.x o.y o.A o.bs o.c hok1 hok2 hok3 (hok.cs.ws hw (off_nil _)) hok.dg hok.le hok.max (hw.offPage 100 rfl rfl rfl rfl hok.cs)) (fun i35 j35 bs35 hm35 hk35 hl35 => ?_)
      refine J.not rfl rfl rfl ?_
      refine J.end ?_
      refine X.then ?_
      refine T.cond_false rfl ?_
      refine T.skip ?_
      refine X.inBlock (X.then ?_)
      refine T.text [.l, .l, .l] rfl ?_
      refine J.move rfl rfl ?_
      refine J.add rfl rfl rfl (by first | exact add_nat _ 1 (by omega) | exact i64_ok _ (by omega) | exact rfl) ?_
      refine J.assign rfl rfl ?_
      refine J.end ?_
      exact X.round ⟨(i + 1), bs35, i35, j35, bs2, i2, j2⟩ ⟨by omega, hm35, hk35, q3, q4⟩ (by first | omega | (dsimp only; omega)) (by repeat (first | exact Sub.nil _ | refine Sub.cons (by first | rfl | (rw [dgs_zero]; rfl) | (rw [List.drop_length]; rfl) | (simp; done) | (congr 2; omega) | (congr 3; omega)) ?_)) (by repeat (first | exact Sub.nil _ | refine Sub.cons (by first | rfl | (rw [dgs_zero]; rfl) | (rw [List.drop_length]; rfl) | (simp; done) | (congr 2; omega) | (congr 3; omega)) ?_))
  · have hle1 := q1.le
    have hle2 := q3.le
    refine T.exit ?_
    refine X.then_exit (X.then_exit (X.inBlock_eq (X.then ?_)))
    refine T.seq ?_
    refine T.seq ?_
    refine T.draw [] [(0, .g), (1, .q), (2, .q), (3, .g), (4, .q), (5, .q), (6, .g), (7, .g), (8, .g), (9, .q), (10, .q), (11, .g), (12, .q), (13, .q), (14, .g), (15, .g)] (by kernel_rfl) (by kernel_rfl) ?_ rfl (by repeat (first | exact Sub.nil _ | refine Sub.cons (by first | rfl | (rw [dgs_zero]; rfl) | (rw [List.drop_length]; rfl) | (simp; done) | (congr 2; omega) | (congr 3; omega)) ?_))
    refine J.fieldAddr fld63_0 rfl rfl ?_
    refine J.load1 (k := .q) trivial 3 rfl rfl one60 (by first | rfl | with_reducible exact rowN_get0 _ _ _ (by omega) | with_reducible exact rowN_get1 _ _ _ (by omega) | with_reducible exact rowN_get1s _ _ _ _ (by omega) | exact rowN_get1 _ _ _ (by omega) | exact rowN_get1s _ _ _ _ (by omega) | exact rowN_get0 _ _ _ (by omega)) rfl ?_
    refine J.call0 (k := .q) trivial fok37 rfl rfl (fun w hw => Me.Len w a7 i1 bs1 q1 (hw.memAt 100 101 rfl rfl (by decide))) ?_
    refine J.fieldAddr fld63_1 rfl rfl ?_
    refine J.load1 (k := .q) trivial 3 rfl rfl one61 (by first | rfl | with_reducible exact rowN_get0 _ _ _ (by omega) | with_reducible exact rowN_get1 _ _ _ (by omega) | with_reducible exact rowN_get1s _ _ _ _ (by omega) | exact rowN_get1 _ _ _ (by omega) | exact rowN_get1s _ _ _ _ (by omega) | exact rowN_get0 _ _ _ (by omega)) rfl ?_
    refine J.call0 (k := .q) trivial fok38 rfl rfl (fun w hw => Mf.Len w b7 j1 bs1 q2 (hw.memAt 102 103 rfl rfl (by decide))) ?_
    refine J.neq rfl rfl rfl (decide_eq_false (fun h => h rfl)) ?_
    refine J.move rfl rfl ?_
    refine J.yes rfl rfl ?_
    refine J.fieldAddr fld63_0 rfl rfl ?_
    refine J.yes rfl rfl ?_
    refine J.load1 (k := .q) trivial 4 rfl rfl one60 (by first | rfl | with_reducible exact rowN_get0 _ _ _ (by omega) | with_reducible exact rowN_get1 _ _ _ (by omega) | with_reducible exact rowN_get1s _ _ _ _ (by omega) | exact rowN_get1 _ _ _ (by omega) | exact rowN_get1s _ _ _ _ (by omega) | exact rowN_get0 _ _ _ (by omega)) rfl ?_
    refine J.yes rfl rfl ?_
    refine J.call0 (k := .q) trivial fok37 rfl rfl (fun w hw => Me.Len w a8 i2 bs2 q3 (hw.memAt 200 201 rfl rfl (by decide))) ?_
    refine J.yes rfl rfl ?_
    refine J.fieldAddr fld63_1 rfl rfl ?_
    refine J.yes rfl rfl ?_
    refine J.load1 (k := .q) trivial 4 rfl rfl one61 (by first | rfl | with_reducible exact rowN_get0 _ _ _ (by omega) | with_reducible exact rowN_get1 _ _ _ (by omega) | with_reducible exact rowN_get1s _ _ _ _ (by omega) | exact rowN_get1 _ _ _ (by omega) | exact rowN_get1s _ _ _ _ (by omega) | exact rowN_get0 _ _ _ (by omega)) rfl ?_
    refine J.yes rfl rfl ?_
    refine J.call0 (k := .q) trivial fok38 rfl rfl (fun w hw => Mf.Len w b8 j2 bs2 q4 (hw.memAt 202 203 rfl rfl (by decide))) ?_
    refine J.yes rfl rfl ?_
    refine J.neq rfl rfl rfl (decide_eq_false (fun h => h rfl)) ?_
    refine J.pick_f rfl rfl rfl ?_
    refine J.end ?_
    refine X.then ?_
    refine T.cond_false rfl ?_
    refine T.skip ?_
    refine X.then ?_
    refine T.seq ?_
    refine T.draw [] [(0, .q), (1, .g), (2, .q), (3, .q), (4, .g), (5, .l), (6, .g), (7, .q), (8, .g), (9, .q), (10, .q), (11, .g), (12, .l), (13, .g), (14, .g), (15, .q), (16, .g), (17, .g)] (by kernel_rfl) (by kernel_rfl) ?_ rfl (by repeat (first | exact Sub.nil _ | refine Sub.cons (by first | rfl | (rw [dgs_zero]; rfl) | (rw [List.drop_length]; rfl) | (simp; done) | (congr 2; omega) | (congr 3; omega)) ?_))
    refine J.loadN (k := .q) trivial 3 rfl rfl agg63 [.pointer (some ⟨a7, 0, none⟩), .pointer (some ⟨b7, 0, none⟩)] rfl rfl rfl ?_
    refine J.fieldAddr fld63_1 rfl rfl ?_
    refine J.load1 (k := .q) trivial 3 rfl rfl one61 (by first | rfl | with_reducible exact rowN_get0 _ _ _ (by omega) | with_reducible exact rowN_get1 _ _ _ (by omega) | with_reducible exact rowN_get1s _ _ _ _ (by omega) | exact rowN_get1 _ _ _ (by omega) | exact rowN_get1s _ _ _ _ (by omega) | exact rowN_get0 _ _ _ (by omega)) rfl ?_
    refine J.call0 (k := .q) trivial fok38 rfl rfl (fun w hw => Mf.Len w b7 j1 bs1 q2 (hw.memAt 102 103 rfl rfl (by decide))) ?_
    refine J.build rfl rfl (.agg (opc 7 false 0 ((bs1.length : Nat) : Int) 0 0 0 (.slice none 0 0)).toArray) (fun w => by kernel_rfl) ?_
    refine J.callPage 100 (K := (bs1.length)) (i := i1) (j := j1) (bs := bs1) rfl rfl rfl rfl rfl rfl rfl rfl fok36 rfl rfl (fun w hw => Pg.paged w a7 b7 i1 j1 bs1 q1 q2 (hw.pageAt 100 rfl rfl rfl rfl) 7 false 0 ((bs1.length : Nat) : Int) 0 0 0 none [] 0 (by omega) (by omega) (by omega) (Cs.nil _ _) Dg.nil (Nat.zero_le _) (Nat.zero_le _) (fun e => absurd rfl e)) (fun i58 j58 bs58 hm58 hk58 hl58 => ?_)
    refine J.move rfl rfl ?_
    refine J.yes rfl rfl ?_
    refine J.loadN (k := .q) trivial 4 rfl rfl agg63 [.pointer (some ⟨a8, 0, none⟩), .pointer (some ⟨b8, 0, none⟩)] rfl rfl rfl ?_
    refine J.yes rfl rfl ?_
    refine J.fieldAddr fld63_1 rfl rfl ?_
    refine J.yes rfl rfl ?_
    refine J.load1 (k := .q) trivial 4 rfl rfl one61 (by first | rfl | with_reducible exact rowN_get0 _ _ _ (by omega) | with_reducible exact rowN_get1 _ _ _ (by omega) | with_reducible exact rowN_get1s _ _ _ _ (by omega) | exact rowN_get1 _ _ _ (by omega) | exact rowN_get1s _ _ _ _ (by omega) | exact rowN_get0 _ _ _ (by omega)) rfl ?_
    refine J.yes rfl rfl ?_
    refine J.call0 (k := .q) trivial fok38 rfl rfl (fun w hw => Mf.Len w b8 j2 bs2 q4 (hw.memAt 202 203 rfl rfl (by decide))) ?_
    refine J.yes rfl rfl ?_
    refine J.build rfl rfl (.agg (opc 7 false 0 ((bs2.length : Nat) : Int) 0 0 0 (.slice none 0 0)).toArray) (fun w => by kernel_rfl) ?_
    refine J.yes rfl rfl ?_
    refine J.callPage 200 (K := (bs2.length)) (i := i2) (j := j2) (bs := bs2) rfl rfl rfl rfl rfl rfl rfl rfl fok36 rfl rfl (fun w hw => Pg.paged w a8 b8 i2 j2 bs2 q3 q4 (hw.pageAt 200 rfl rfl rfl rfl) 7 false 0 ((bs2.length : Nat) : Int) 0 0 0 none [] 0 (by omega) (by omega) (by omega) (Cs.nil _ _) Dg.nil (Nat.zero_le _) (Nat.zero_le _) (fun e => absurd rfl e)) (fun i65 j65 bs65 hm65 hk65 hl65 => ?_)
    refine J.pick_t rfl rfl rfl ?_
    refine J.move rfl rfl ?_
    refine J.yes rfl rfl ?_
    refine J.call0 (k := .q) trivial fok39 rfl rfl (fun w hw => Pg.wrote w) ?_
    refine J.pick_t rfl rfl rfl ?_
    refine J.assign rfl rfl ?_
    refine J.end ?_
    refine X.then ?_
    refine T.ret ?_
    exact X.ret1 rfl (RV.tmp rfl) (fun w' hw' => ⟨rfl, hw'.sub (Sub.nil _)⟩)
end Go.Proofs.Ytpkjbeebhdgleaa.Lf
