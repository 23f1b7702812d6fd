/-
  Texts that the statement stands on, one behind the other: plain lemmas and walks of functions.
  No condition.
-/
import Derived.Test.YtlllcafedekojaaGreatDoorChecked
import Derived.Test.YtlllcafedekojaaGreatDoorMga
import Derived.Test.YtlllcafedekojaaGreatDoorMgb
import Derived.Test.YtlllcafedekojaaGreatDoorMgc
set_option linter.unusedVariables false
set_option maxRecDepth 20000
namespace Go.Proofs.YtlllcafedekojaaGreatDoor.Dc
open Go Go.Fw

theorem sz287 : SizeT Tryz.prog 287 32 := (by unfold SizeT; kernel_rfl)
theorem sz25 : SizeT Tryz.prog 25 1 := (by unfold SizeT; kernel_rfl)
theorem sl43 : SlT Tryz.prog 43 25 1 := ⟨Tryz.underlying43, sz25⟩
theorem one25 : OneT Tryz.prog 25 := ⟨⟨_, Tryz.underlying25, rfl⟩, by kernel_rfl⟩
theorem fok49 : FnOk Tryz.prog 49 := FnOk.mk' Tryz.func49 (by kernel_rfl) rfl
theorem sz53 : SizeT Tryz.prog 53 35 := (by unfold SizeT; kernel_rfl)
theorem sl25 : SlT Tryz.prog 25 53 35 := ⟨Tryz.underlying25, sz53⟩
theorem agg53 : AggT Tryz.prog 53 35 := ⟨⟨_, Tryz.underlying53, rfl⟩, by kernel_rfl⟩
theorem fok58 : FnOk Tryz.prog 58 := FnOk.mk' Tryz.func58 (by kernel_rfl) rfl
theorem el53 : ElT Tryz.prog 53 35 176 (.agg ([.int .u8 0, .int .u8 0, .int .u8 0, .int .u8 0, .int .u8 0, .int .u8 0, .int .u8 0, .int .u8 0, .int .u8 0, .int .u8 0, .int .u8 0, .int .u8 0, .int .u8 0, .int .u8 0, .int .u8 0, .int .u8 0, .int .u8 0, .int .u8 0, .int .u8 0, .int .u8 0, .int .i64 0, .int .u64 0, .int .u64 0, .int .u64 0, .int .u64 0, .int .u64 0, .int .u64 0, .int .u64 0, .int .u64 0, .int .u64 0, .int .u64 0, .int .u64 0, .int .u64 0, .slice none 0 0, .slice none 0 0]).toArray) := ⟨by kernel_rfl, rfl, by decide, by decide⟩
theorem fok59 : FnOk Tryz.prog 59 := FnOk.mk' Tryz.func59 (by kernel_rfl) rfl
theorem zero53 : ZeroT Tryz.prog 53 (.agg ([.int .u8 0, .int .u8 0, .int .u8 0, .int .u8 0, .int .u8 0, .int .u8 0, .int .u8 0, .int .u8 0, .int .u8 0, .int .u8 0, .int .u8 0, .int .u8 0, .int .u8 0, .int .u8 0, .int .u8 0, .int .u8 0, .int .u8 0, .int .u8 0, .int .u8 0, .int .u8 0, .int .i64 0, .int .u64 0, .int .u64 0, .int .u64 0, .int .u64 0, .int .u64 0, .int .u64 0, .int .u64 0, .int .u64 0, .int .u64 0, .int .u64 0, .int .u64 0, .int .u64 0, .slice none 0 0, .slice none 0 0]).toArray) := (by unfold ZeroT; kernel_rfl)
theorem sz50 : SizeT Tryz.prog 50 4 := (by unfold SizeT; kernel_rfl)
theorem fld53_4 : FldT Tryz.prog 53 4 50 29 3 := ⟨by kernel_rfl, sz50⟩
theorem agg50 : AggT Tryz.prog 50 4 := ⟨⟨_, Tryz.underlying50, rfl⟩, by kernel_rfl⟩
theorem fld53_3 : FldT Tryz.prog 53 3 50 25 3 := ⟨by kernel_rfl, sz50⟩
theorem sz48 : SizeT Tryz.prog 48 1 := (by unfold SizeT; kernel_rfl)
theorem arr50 : ArrT Tryz.prog 50 4 48 1 := ⟨Tryz.underlying50, sz48⟩
theorem one48 : OneT Tryz.prog 48 := ⟨⟨_, Tryz.underlying48, rfl⟩, by kernel_rfl⟩
theorem eqw50 : EqT Tryz.prog 50 := ⟨⟨48, arr50, one48, Tryz.underlying48⟩, by kernel_rfl⟩
theorem sz51 : SizeT Tryz.prog 51 1 := (by unfold SizeT; kernel_rfl)
theorem fld53_6 : FldT Tryz.prog 53 6 51 34 0 := ⟨by kernel_rfl, sz51⟩
theorem one51 : OneT Tryz.prog 51 := ⟨⟨_, Tryz.underlying51, rfl⟩, by kernel_rfl⟩
theorem fld53_5 : FldT Tryz.prog 53 5 51 33 0 := ⟨by kernel_rfl, sz51⟩
theorem fok60 : FnOk Tryz.prog 60 := FnOk.mk' Tryz.func60 (by kernel_rfl) rfl
theorem fok61 : FnOk Tryz.prog 61 := FnOk.mk' Tryz.func61 (by kernel_rfl) rfl

set_option maxHeartbeats 1000000 in
theorem Join (w : World) (n : Nat) (B : List (Option Nat)) (A1 A2 : Option Addr) (c1 c2 : Nat) (ps bs : List Ch) (hn : n ≤ w.heap.size) (hB : ∀ g, some g ∈ B → g < w.heap.size) (hA1 : Cs w A1 (rowC ps)) (hb1 : ps.length ≤ c1) (hd1 : AllC w n B ps) (hA2 : Cs w A2 (rowC bs)) (hb2 : bs.length ≤ c2) (hd2 : AllC w n B bs) (hl1 : ps.length ≤ 1000000000) (hl2 : bs.length ≤ 1000000000) :
    Calls Tryz.prog 32 [.slice A1 ps.length c1, .slice A2 bs.length c2].toArray w fun e w' => ∃ q : List Ch × RowIx, (q.1.map Ch.v = (joinZ (ps.map Ch.v) (bs.map Ch.v)).1 ∧ q.2.Ok 35 q.1.length ∧ Fit w' n B (hdOf q.2.id) (rowC q.1) ∧ AllC w' n B q.1) ∧ e = .returned (.tuple #[q.2.val q.1.length, .int .i64 (joinZ (ps.map Ch.v) (bs.map Ch.v)).2]) ∧ WS w [] [] w' := by
  refine calls_of_T [] 127 [] Tryz.func32 rfl Tryz.ntmps32 (by simp) (WS.refl _ _) ?_
  refine T.seq ?_
  refine T.text [.l, .l] rfl ?_
  refine J.assign rfl rfl ?_
  refine J.assign rfl rfl ?_
  refine J.end ?_
  refine X.then ?_
  refine T.scope ?_
  refine T.seq ?_
  refine T.seq ?_
  refine T.text [.l, .l, .l, .l, .l] rfl ?_
  refine J.move rfl rfl ?_
  refine J.move rfl rfl ?_
  refine J.buildSlice 13 rfl (e := 25) rfl rfl [.slice A1 ps.length c1, .slice A2 bs.length c2] (fun w => by kernel_rfl) (fun g13 hg13 => ?_)
  refine J.lenSl Tryz.underlying43 rfl rfl ?_
  refine J.move rfl rfl ?_
  refine J.end ?_
  refine X.then ?_
  refine T.block ?_
  refine T.loop (ι := Nat) (fun (j : Nat) => j ≤ 2 ∧ (0 < j → formZ (ps.map Ch.v) = 0) ∧ (1 < j → formZ (bs.map Ch.v) = 0)) (fun (j : Nat) => [(0, .slice A1 ps.length c1), (1, .slice A2 bs.length c2), (11, .slice A1 ps.length c1), (12, .slice A2 bs.length c2), (13, .slice (some ⟨g13, 0, none⟩) 2 2), (14, .int .i64 ((2 : Nat) : Int)), (15, .int .i64 (j : Int))]) (fun (j : Nat) => [(13, ⟨some g13, 25, [.slice A1 ps.length c1, .slice A2 bs.length c2]⟩)]) (fun (j : Nat) => 2 - j) 0 ⟨by omega, fun q => by omega, fun q => by omega⟩ (by repeat (first | exact Sub.nil _ | refine Sub.cons (by first | rfl | (rw [dgs_zero]; rfl) | (rw [List.drop_length]; rfl) | (simp; done) | (congr 2; omega) | (congr 3; omega)) ?_ | exact Sub.refl _ | refine sub_snap ?_ rfl)) (by repeat (first | exact Sub.nil _ | refine Sub.cons (by first | rfl | (rw [dgs_zero]; rfl) | (rw [List.drop_length]; rfl) | (simp; done) | (congr 2; omega) | (congr 3; omega)) ?_ | exact Sub.refl _ | refine sub_snap ?_ rfl)) ?_
  rintro j ⟨hj2, hfa, hfb⟩
  refine T.seq ?_
  refine T.text [.l] rfl ?_
  refine J.lss rfl rfl rfl rfl ?_
  refine J.end ?_
  refine X.then ?_
  refine T.seq ?_
  refine T.cond_dec rfl (fun h1 => ?_) (fun h1 => ?_)
  · have hjl : j < 2 := by omega
    obtain ⟨Aj, cj, dj, hcell, hAj, hdj, hlj, hjeq⟩ := two_rows (c1 := c1) (c2 := c2) hA1 hA2 hd1 hd2 hl1 hl2 hjl
    refine T.skip ?_
    refine X.then ?_
    refine T.seq ?_
    refine T.block ?_
    refine T.seq ?_
    refine T.text [.l, .l, .l] rfl ?_
    refine J.indexSlB sl43 rfl rfl (by omega) (by omega) (by first | exact Int.toNat_natCast _ | rfl) rfl ?_
    refine J.load1 (k := .l) trivial 13 rfl rfl one25 (by rw [Nat.zero_add, Nat.mul_one]; exact hcell) rfl ?_
    refine J.assign rfl rfl ?_
    refine J.end ?_
    refine X.then ?_
    refine T.seq ?_
    refine T.text [.l, .l, .l] rfl ?_
    refine J.move rfl rfl ?_
    refine J.call0 (k := .l) trivial fok49 rfl rfl (fun w hw => Db.form w n B _ _ _ (hAj.ws hw (off_nil _)) (hdj.keep ((keep_base (l1 := []) hn (fun g hg => by cases hg) hw (Sub.nil _) rfl).le (fun o h => List.mem_append_left _ h))) (by omega)) ?_
    refine J.assign rfl rfl ?_
    refine J.end ?_
    refine X.then ?_
    refine T.seq ?_
    refine T.text [.l, .l] rfl ?_
    refine J.move rfl rfl ?_
    refine J.neq rfl rfl rfl rfl ?_
    refine J.end ?_
    refine X.then ?_
    refine T.cond_dec rfl (fun h2 => ?_) (fun h2 => ?_)
    · have hne := h2
      refine T.seq ?_
      refine T.text [.l, .l, .l] rfl ?_
      refine J.move rfl rfl ?_
      refine J.assign rfl rfl ?_
      refine J.assign rfl rfl ?_
      refine J.end ?_
      refine X.then ?_
      refine T.ret ?_
      refine X.inBlock_ret (X.then_ret (X.then_ret (X.inBlock_ret (X.then_ret (X.scope_ret ?_)))))
      exact X.ret2 rfl (RV.tmp rfl) (RV.tmp rfl) (fun w' hw' => by first | exact ⟨([], RowIx.nil), ⟨by rw [join_err hjl hjeq hne hfa]; rfl, RowIx.nil_ok 35, Fit.nil, AllC.nil⟩, by rw [join_err hjl hjeq hne hfa]; rfl, hw'.sub (Sub.nil _)⟩ | exact ⟨([], RowIx.nil), ⟨by rw [joinZ_no hfz1 hfz2 hjn]; rfl, RowIx.nil_ok 35, Fit.nil, AllC.nil⟩, by rw [joinZ_no hfz1 hfz2 hjn]; rfl, hw'.sub (Sub.nil _)⟩ | exact ⟨(zs, r), ⟨by rw [joinZ_ok hfz1 hfz2 (hj.trans (join_fin _))], hr, fit_row hw' (j := 9) rfl (fun g h => ⟨hB g h, fun q => by cases q⟩), hz.keep ((Keep.less (fun o h => h)).le (fun o h => List.mem_append_left _ h))⟩, by rw [joinZ_ok hfz1 hfz2 (hj.trans (join_fin _))], hw'.sub (Sub.nil _)⟩)
    · have hzero : formZ (dj.map Ch.v) = 0 := Decidable.not_not.1 h2
      have hf1 := join_f1 hjl hjeq hzero hfa
      have hf2 := join_f2 hjl hjeq hzero hfb
      refine T.skip ?_
      refine X.inBlock (X.then ?_)
      refine T.text [.l, .l] rfl ?_
      refine J.add rfl rfl rfl (by first | exact add_nat _ 1 (by omega) | exact i64_ok _ (by omega) | exact rfl) ?_
      refine J.move rfl rfl ?_
      refine J.end ?_
      exact X.round (j + 1) ⟨by show j + 1 ≤ 2; omega, hf1, hf2⟩ (by first | omega | (dsimp only; omega)) (by repeat (first | exact Sub.nil _ | refine Sub.cons (by first | rfl | (rw [dgs_zero]; rfl) | (rw [List.drop_length]; rfl) | (simp; done) | (congr 2; omega) | (congr 3; omega)) ?_ | exact Sub.refl _ | refine sub_snap ?_ rfl)) (by repeat (first | exact Sub.nil _ | refine Sub.cons (by first | rfl | (rw [dgs_zero]; rfl) | (rw [List.drop_length]; rfl) | (simp; done) | (congr 2; omega) | (congr 3; omega)) ?_ | exact Sub.refl _ | refine sub_snap ?_ rfl))
  · obtain rfl : j = 2 := by omega
    have hfz1 := hfa (by omega)
    have hfz2 := hfb (by omega)
    refine T.exit ?_
    refine X.then_exit (X.then_exit (X.inBlock_eq (X.then ?_)))
    refine T.seq ?_
    refine T.addNil 9 53 ?_
    refine T.text [.l] rfl ?_
    refine J.assign rfl rfl ?_
    refine J.end ?_
    refine X.then ?_
    refine T.seq ?_
    refine T.label ?_
    refine X.then ?_
    refine T.seq ?_
    refine T.block ?_
    have hma := form_may hfz1
    have hmb := form_may hfz2
    refine T.snap [(9, ⟨none, 53, []⟩)] (by repeat (first | exact Sub.nil _ | refine Sub.cons (by first | rfl | (rw [dgs_zero]; rfl) | (rw [List.drop_length]; rfl) | (simp; done) | (congr 2; omega) | (congr 3; omega)) ?_ | exact Sub.refl _ | refine sub_snap ?_ rfl)) rfl (fun Wl3 hWWl3 => ?_)
    have hVWl3 := hWWl3.sub (Sub.nil _)
    refine T.loop (ι := World × Option Addr × Nat × List Ch × Option Addr × Nat × List Ch × List Ch × RowIx) (fun ((W, Aa, ca, xs, Ab, cb, ys, zs, r) : World × Option Addr × Nat × List Ch × Option Addr × Nat × List Ch × List Ch × RowIx) => Cs w Aa (rowC xs) ∧ xs.length ≤ ca ∧ AllC w n B xs ∧ AllMay xs ∧ Cs w Ab (rowC ys) ∧ ys.length ≤ cb ∧ AllC w n B ys ∧ AllMay ys ∧ joinL (ps.map Ch.v) (bs.map Ch.v) = (joinL (xs.map Ch.v) (ys.map Ch.v)).map (zs.map Ch.v ++ ·) ∧ zs.length + xs.length + ys.length ≤ 2000000000 ∧ r.Ok 35 zs.length ∧ WS w [] [] W ∧ AllC W n (B ++ [r.id]) zs ∧ True) (fun ((W, Aa, ca, xs, Ab, cb, ys, zs, r) : World × Option Addr × Nat × List Ch × Option Addr × Nat × List Ch × List Ch × RowIx) => [(11, .slice A1 ps.length c1), (12, .slice A2 bs.length c2), (14, .int .i64 ((2 : Nat) : Int)), (0, .slice Aa xs.length ca), (1, .slice Ab ys.length cb), (9, r.val zs.length)]) (fun ((W, Aa, ca, xs, Ab, cb, ys, zs, r) : World × Option Addr × Nat × List Ch × Option Addr × Nat × List Ch × List Ch × RowIx) => ((9, r.ent 53 (rowC zs)) :: snapL W w.heap.size [r.id])) (fun ((W, Aa, ca, xs, Ab, cb, ys, zs, r) : World × Option Addr × Nat × List Ch × Option Addr × Nat × List Ch × List Ch × RowIx) => xs.length + ys.length) ⟨Wl3, A1, c1, ps, A2, c2, bs, [], RowIx.nil⟩ ⟨hA1, hb1, hd1, hma, hA2, hb2, hd2, hmb, by cases joinL (ps.map Ch.v) (bs.map Ch.v) <;> rfl, by show 0 + _ + _ ≤ _; omega, RowIx.nil_ok 35, hVWl3, AllC.nil, trivial⟩ (by repeat (first | exact Sub.nil _ | refine Sub.cons (by first | rfl | (rw [dgs_zero]; rfl) | (rw [List.drop_length]; rfl) | (simp; done) | (congr 2; omega) | (congr 3; omega)) ?_ | exact Sub.refl _ | refine sub_snap ?_ rfl)) (by repeat (first | exact Sub.nil _ | refine Sub.cons (by first | rfl | (rw [dgs_zero]; rfl) | (rw [List.drop_length]; rfl) | (simp; done) | (congr 2; omega) | (congr 3; omega)) ?_ | exact Sub.refl _ | refine sub_snap ?_ rfl)) ?_
    rintro ⟨W, Aa, ca, xs, Ab, cb, ys, zs, r⟩ ⟨hA, hca, hdx, hmx, hA2, hcb, hdy, hmy, hj, hlen, hr, hV, hz, _⟩
    try dsimp only at *
    refine T.seq ?_
    refine T.seq ?_
    refine T.text [.l, .l, .l, .l, .l, .l, .l, .l] rfl ?_
    refine J.move rfl rfl ?_
    refine J.lenSl Tryz.underlying25 rfl rfl ?_
    refine J.gtr rfl rfl rfl rfl ?_
    refine J.move rfl rfl ?_
    refine J.split 28 rfl (fun h4 => ?_) (fun h4 => ?_)
    · obtain ⟨x, xs2, rfl⟩ := List.exists_cons_of_length_pos (l := xs) (by omega)
      refine J.no rfl rfl rfl rfl ?_
      refine J.no rfl rfl rfl rfl ?_
      refine J.no rfl rfl rfl rfl ?_
      refine J.pick_t rfl rfl rfl ?_
      refine J.end ?_
      refine X.then ?_
      refine T.cond_true rfl ?_
      refine T.skip ?_
      refine X.then ?_
      refine T.block ?_
      refine T.seq ?_
      refine T.block ?_
      refine T.seq ?_
      refine T.draw [] [(0, .g), (1, .g), (2, .g), (3, .g), (4, .g), (5, .g), (6, .g), (7, .g), (8, .g), (9, .g), (10, .q), (11, .g), (12, .g), (13, .q), (14, .q), (15, .g), (16, .g), (17, .g), (18, .g)] (by kernel_rfl) (by kernel_rfl) ?_ (by repeat (first | exact Sub.nil _ | refine Sub.cons (by first | rfl | (rw [dgs_zero]; rfl) | (rw [List.drop_length]; rfl) | (simp; done) | (congr 2; omega) | (congr 3; omega)) ?_ | exact Sub.refl _ | refine sub_snap ?_ rfl))
      refine J.move rfl rfl ?_
      refine J.lenSl Tryz.underlying25 rfl rfl ?_
      refine J.eql rfl rfl rfl rfl ?_
      refine J.move rfl rfl ?_
      refine J.split 37 rfl (fun h5 => ?_) (fun h5 => ?_)
      · obtain rfl : ys = [] := List.length_eq_zero_iff.1 (by omega)
        have hwa : ([] : List Ch).map Ch.v = [] ∨ ∃ b bs2, ([] : List Ch).map Ch.v = b :: bs2 ∧ spotZ x.v b < 0 := .inl rfl
        refine J.no rfl rfl rfl rfl ?_
        refine J.no rfl rfl rfl rfl ?_
        refine J.no rfl rfl rfl rfl ?_
        refine J.no rfl rfl rfl rfl ?_
        refine J.noU rfl rfl rfl ?_
        refine J.noU rfl rfl rfl ?_
        refine J.noU rfl rfl rfl ?_
        refine J.noU rfl rfl rfl ?_
        refine J.noU rfl rfl rfl ?_
        refine J.noU rfl rfl rfl ?_
        refine J.noU rfl rfl rfl ?_
        refine J.noU rfl rfl rfl ?_
        refine J.no rfl rfl rfl rfl ?_
        refine J.pick_t rfl rfl rfl ?_
        refine J.assign rfl rfl ?_
        refine J.end ?_
        refine X.then ?_
        refine T.cond_true rfl ?_
        refine T.seq ?_
        refine T.text [.l, .l, .l, .l, .l, .l, .l, .l] rfl ?_
        refine J.move rfl rfl ?_
        refine J.move rfl rfl ?_
        refine J.indexSlI sl25 rfl (hA.isSome (by rw [rowC_length]; show 0 < (_ + 1) * 35; omega)) rfl (by omega) (by omega) (by rfl) rfl ?_
        refine J.loadIN (k := .l) trivial hA (off_nil _) rfl agg53 (x.cells) rfl (rowC_head _ _) rfl ?_
        refine J.callB fok58 rfl rfl _ _ [(9, r.ent 53 (rowC zs))] (by repeat (first | exact Sub.nil _ | refine Sub.cons (by first | rfl | (rw [dgs_zero]; rfl) | (rw [List.drop_length]; rfl) | (simp; done) | (congr 2; omega) | (congr 3; omega)) ?_ | exact Sub.refl _ | refine sub_snap ?_ rfl)) rfl (fun _ _ => Sub.nil _) (fun w hw => Da.own w n (B ++ ids [(9, r.ent 53 (rowC zs))]) x (busy_lt (l1 := [(9, r.ent 53 (rowC zs))]) hB hw (by repeat (first | exact Sub.nil _ | refine Sub.cons (by first | rfl | (rw [dgs_zero]; rfl) | (rw [List.drop_length]; rfl) | (simp; done) | (congr 2; omega) | (congr 3; omega)) ?_ | exact Sub.refl _ | refine sub_snap ?_ rfl)) rfl) (hdx.head.keep (keep_base (B0 := B) (l1 := [(9, r.ent 53 (rowC zs))]) hn (fun g hg => by cases hg) hw (by repeat (first | exact Sub.nil _ | refine Sub.cons (by first | rfl | (rw [dgs_zero]; rfl) | (rw [List.drop_length]; rfl) | (simp; done) | (congr 2; omega) | (congr 3; omega)) ?_ | exact Sub.refl _ | refine sub_snap ?_ rfl)) rfl))) (fun i56 W56 hP56 hW56 => ?_)
        obtain ⟨hv56, hc56⟩ := hP56
        have kpW56 := (keep_snap (I := [r.id]) (B0 := B) (l1 := [(9, r.ent 53 (rowC zs))]) hV hn (fun g hg => by cases hg) hW56 (by repeat (first | exact Sub.refl _ | refine sub_snap ?_ rfl)) (by repeat (first | exact Sub.nil _ | refine Sub.cons (by first | rfl | (rw [dgs_zero]; rfl) | (rw [List.drop_length]; rfl) | (simp; done) | (congr 2; omega) | (congr 3; omega)) ?_ | exact Sub.refl _ | refine sub_snap ?_ rfl)) rfl)
        have hz := hz.keep kpW56
        have hVW56 := hW56.sub (Sub.nil _)
        refine J.lit1 57 rfl Tryz.underlying25 el53 (by decide) rfl (i56.cells) rfl rfl rfl (fun g57 hg57 => ?_)
        refine J.append 9 rfl Tryz.underlying25 el53 rfl hr (rowC_length zs) rfl rfl rfl (fun w hw => (hw.blkCs (k := 57) rfl)) (Ch.cells_one _) (by omega) (by unfold maxLen; omega) rfl (zs ++ [i56]).length (by rw [List.length_append]; rfl) (rowC (zs ++ [i56])) (rowC_snoc _ _).symm (fun r58 hr58 => ?_)
        refine J.assign rfl rfl ?_
        refine J.end ?_
        refine X.then ?_
        refine T.seq ?_
        refine T.text [.l, .l, .l] rfl ?_
        refine J.move rfl rfl ?_
        refine J.sliceSl sl25 rfl (optInt.some rfl (by omega) (by rfl)) optInt.none optInt.none (by simp) (by omega) (by have h0 := hca; rw [List.length_cons] at h0; show _ + 1 ≤ _; omega) (Nat.le_refl _) rfl rfl ?_
        refine J.assign rfl rfl ?_
        refine J.end ?_
        refine X.then ?_
        refine T.exit ?_
        refine X.inBlock_ne rfl (X.then_exit (X.inBlock_eq ?_))
        refine X.snap [(9, r58.ent 53 (rowC (zs ++ [i56])))] (by repeat (first | exact Sub.nil _ | refine Sub.cons (by first | rfl | (rw [dgs_zero]; rfl) | (rw [List.drop_length]; rfl) | (simp; done) | (congr 2; omega) | (congr 3; omega)) ?_ | exact Sub.refl _ | refine sub_snap ?_ rfl)) rfl (fun Wx6 hWWx6 => ?_)
        have kpWx6 := (keep_snap (I := [r.id]) (B0 := B) (l1 := [(9, r58.ent 53 (rowC (zs ++ [i56])))]) hVW56 hn (fun g hg => by cases hg) hWWx6 (by repeat (first | exact Sub.refl _ | refine sub_snap ?_ rfl)) (by repeat (first | exact Sub.nil _ | refine Sub.cons (by first | rfl | (rw [dgs_zero]; rfl) | (rw [List.drop_length]; rfl) | (simp; done) | (congr 2; omega) | (congr 3; omega)) ?_ | exact Sub.refl _ | refine sub_snap ?_ rfl)) rfl)
        have hz := hz.keep kpWx6
        have hc56 := hc56.keep kpWx6
        have hVWx6 := hWWx6.sub (Sub.nil _)
        exact X.round ⟨Wx6, (if ca = 1 then Aa else Aa.map (·.add (1 * 35))), (ca - 1), xs2, Ab, cb, [], (zs ++ [i56]), r58⟩ ⟨(rowC_tail hA hca), (len_tail hca), hdx.tail, hmx.tail, hA2, hcb, hdy, hmy, (by rw [snoc_v, hv56]; exact join_push (hj.trans (congrArg (Option.map _) (join_a _ _ _ hwa)))), (by dsimp only; simp at hlen ⊢ <;> omega), hr58, hVWx6, (hz.snoc hc56), trivial⟩ (by dsimp only; simp <;> omega) (by repeat (first | exact Sub.nil _ | refine Sub.cons (by first | rfl | (rw [dgs_zero]; rfl) | (rw [List.drop_length]; rfl) | (simp; done) | (congr 2; omega) | (congr 3; omega)) ?_ | exact Sub.refl _ | refine sub_snap ?_ rfl)) (by repeat (first | exact Sub.nil _ | refine Sub.cons (by first | rfl | (rw [dgs_zero]; rfl) | (rw [List.drop_length]; rfl) | (simp; done) | (congr 2; omega) | (congr 3; omega)) ?_ | exact Sub.refl _ | refine sub_snap ?_ rfl))
      · obtain ⟨y, ys2, rfl⟩ := List.exists_cons_of_length_pos (l := ys) (by omega)
        refine J.yes rfl rfl ?_
        refine J.move rfl rfl ?_
        refine J.yes rfl rfl ?_
        refine J.lenSl Tryz.underlying25 rfl rfl ?_
        refine J.yes rfl rfl ?_
        refine J.gtr rfl rfl rfl (decide_eq_true (by first | omega | rfl | assumption | (simp only [*]; done))) ?_
        refine J.yes rfl rfl ?_
        refine J.move rfl rfl ?_
        refine J.yes rfl rfl ?_
        refine J.move rfl rfl ?_
        refine J.yes rfl rfl ?_
        refine J.indexSlI sl25 rfl (hA.isSome (by rw [rowC_length]; show 0 < (_ + 1) * 35; omega)) rfl (by omega) (by omega) (by rfl) rfl ?_
        refine J.yes rfl rfl ?_
        refine J.loadIN (k := .q) trivial hA (off_nil _) rfl agg53 (x.cells) rfl (rowC_head _ _) rfl ?_
        refine J.yes rfl rfl ?_
        refine J.move rfl rfl ?_
        refine J.yes rfl rfl ?_
        refine J.indexSlI sl25 rfl (hA2.isSome (by rw [rowC_length]; show 0 < (_ + 1) * 35; omega)) rfl (by omega) (by omega) (by rfl) rfl ?_
        refine J.yes rfl rfl ?_
        refine J.loadIN (k := .q) trivial hA2 (off_nil _) rfl agg53 (y.cells) rfl (rowC_head _ _) rfl ?_
        refine J.yes rfl rfl ?_
        refine J.call0 (k := .q) trivial fok59 rfl rfl (fun w hw => Da.spots w x y (may_kd hmx.head) (may_kd hmy.head)) ?_
        refine J.yes rfl rfl ?_
        refine J.lss rfl rfl rfl rfl ?_
        refine J.yes rfl rfl ?_
        refine J.pick_t rfl rfl rfl ?_
        refine J.pick_f rfl rfl rfl ?_
        refine J.assign rfl rfl ?_
        refine J.end ?_
        refine X.then ?_
        refine T.cond_dec rfl (fun h7 => ?_) (fun h7 => ?_)
        · have hwa : (y :: ys2).map Ch.v = [] ∨ ∃ b bs2, (y :: ys2).map Ch.v = b :: bs2 ∧ spotZ x.v b < 0 := .inr ⟨y.v, ys2.map Ch.v, rfl, by omega⟩
          refine T.seq ?_
          refine T.text [.l, .l, .l, .l, .l, .l, .l, .l] rfl ?_
          refine J.move rfl rfl ?_
          refine J.move rfl rfl ?_
          refine J.indexSlI sl25 rfl (hA.isSome (by rw [rowC_length]; show 0 < (_ + 1) * 35; omega)) rfl (by omega) (by omega) (by rfl) rfl ?_
          refine J.loadIN (k := .l) trivial hA (off_nil _) rfl agg53 (x.cells) rfl (rowC_head _ _) rfl ?_
          refine J.callB fok58 rfl rfl _ _ [(9, r.ent 53 (rowC zs))] (by repeat (first | exact Sub.nil _ | refine Sub.cons (by first | rfl | (rw [dgs_zero]; rfl) | (rw [List.drop_length]; rfl) | (simp; done) | (congr 2; omega) | (congr 3; omega)) ?_ | exact Sub.refl _ | refine sub_snap ?_ rfl)) rfl (fun _ _ => Sub.nil _) (fun w hw => Da.own w n (B ++ ids [(9, r.ent 53 (rowC zs))]) x (busy_lt (l1 := [(9, r.ent 53 (rowC zs))]) hB hw (by repeat (first | exact Sub.nil _ | refine Sub.cons (by first | rfl | (rw [dgs_zero]; rfl) | (rw [List.drop_length]; rfl) | (simp; done) | (congr 2; omega) | (congr 3; omega)) ?_ | exact Sub.refl _ | refine sub_snap ?_ rfl)) rfl) (hdx.head.keep (keep_base (B0 := B) (l1 := [(9, r.ent 53 (rowC zs))]) hn (fun g hg => by cases hg) hw (by repeat (first | exact Sub.nil _ | refine Sub.cons (by first | rfl | (rw [dgs_zero]; rfl) | (rw [List.drop_length]; rfl) | (simp; done) | (congr 2; omega) | (congr 3; omega)) ?_ | exact Sub.refl _ | refine sub_snap ?_ rfl)) rfl))) (fun i56 W56 hP56 hW56 => ?_)
          obtain ⟨hv56, hc56⟩ := hP56
          have kpW56 := (keep_snap (I := [r.id]) (B0 := B) (l1 := [(9, r.ent 53 (rowC zs))]) hV hn (fun g hg => by cases hg) hW56 (by repeat (first | exact Sub.refl _ | refine sub_snap ?_ rfl)) (by repeat (first | exact Sub.nil _ | refine Sub.cons (by first | rfl | (rw [dgs_zero]; rfl) | (rw [List.drop_length]; rfl) | (simp; done) | (congr 2; omega) | (congr 3; omega)) ?_ | exact Sub.refl _ | refine sub_snap ?_ rfl)) rfl)
          have hz := hz.keep kpW56
          have hVW56 := hW56.sub (Sub.nil _)
          refine J.lit1 57 rfl Tryz.underlying25 el53 (by decide) rfl (i56.cells) rfl rfl rfl (fun g57 hg57 => ?_)
          refine J.append 9 rfl Tryz.underlying25 el53 rfl hr (rowC_length zs) rfl rfl rfl (fun w hw => (hw.blkCs (k := 57) rfl)) (Ch.cells_one _) (by omega) (by unfold maxLen; omega) rfl (zs ++ [i56]).length (by rw [List.length_append]; rfl) (rowC (zs ++ [i56])) (rowC_snoc _ _).symm (fun r58 hr58 => ?_)
          refine J.assign rfl rfl ?_
          refine J.end ?_
          refine X.then ?_
          refine T.seq ?_
          refine T.text [.l, .l, .l] rfl ?_
          refine J.move rfl rfl ?_
          refine J.sliceSl sl25 rfl (optInt.some rfl (by omega) (by rfl)) optInt.none optInt.none (by simp) (by omega) (by have h0 := hca; rw [List.length_cons] at h0; show _ + 1 ≤ _; omega) (Nat.le_refl _) rfl rfl ?_
          refine J.assign rfl rfl ?_
          refine J.end ?_
          refine X.then ?_
          refine T.exit ?_
          refine X.inBlock_ne rfl (X.then_exit (X.inBlock_eq ?_))
          refine X.snap [(9, r58.ent 53 (rowC (zs ++ [i56])))] (by repeat (first | exact Sub.nil _ | refine Sub.cons (by first | rfl | (rw [dgs_zero]; rfl) | (rw [List.drop_length]; rfl) | (simp; done) | (congr 2; omega) | (congr 3; omega)) ?_ | exact Sub.refl _ | refine sub_snap ?_ rfl)) rfl (fun Wx8 hWWx8 => ?_)
          have kpWx8 := (keep_snap (I := [r.id]) (B0 := B) (l1 := [(9, r58.ent 53 (rowC (zs ++ [i56])))]) hVW56 hn (fun g hg => by cases hg) hWWx8 (by repeat (first | exact Sub.refl _ | refine sub_snap ?_ rfl)) (by repeat (first | exact Sub.nil _ | refine Sub.cons (by first | rfl | (rw [dgs_zero]; rfl) | (rw [List.drop_length]; rfl) | (simp; done) | (congr 2; omega) | (congr 3; omega)) ?_ | exact Sub.refl _ | refine sub_snap ?_ rfl)) rfl)
          have hz := hz.keep kpWx8
          have hc56 := hc56.keep kpWx8
          have hVWx8 := hWWx8.sub (Sub.nil _)
          exact X.round ⟨Wx8, (if ca = 1 then Aa else Aa.map (·.add (1 * 35))), (ca - 1), xs2, Ab, cb, (y :: ys2), (zs ++ [i56]), r58⟩ ⟨(rowC_tail hA hca), (len_tail hca), hdx.tail, hmx.tail, hA2, hcb, hdy, hmy, (by rw [snoc_v, hv56]; exact join_push (hj.trans (congrArg (Option.map _) (join_a _ _ _ hwa)))), (by dsimp only; simp at hlen ⊢ <;> omega), hr58, hVWx8, (hz.snoc hc56), trivial⟩ (by dsimp only; simp <;> omega) (by repeat (first | exact Sub.nil _ | refine Sub.cons (by first | rfl | (rw [dgs_zero]; rfl) | (rw [List.drop_length]; rfl) | (simp; done) | (congr 2; omega) | (congr 3; omega)) ?_ | exact Sub.refl _ | refine sub_snap ?_ rfl)) (by repeat (first | exact Sub.nil _ | refine Sub.cons (by first | rfl | (rw [dgs_zero]; rfl) | (rw [List.drop_length]; rfl) | (simp; done) | (congr 2; omega) | (congr 3; omega)) ?_ | exact Sub.refl _ | refine sub_snap ?_ rfl))
        · skip
          refine T.seq ?_
          refine T.draw [] [(0, .g), (1, .g), (2, .g), (3, .g), (4, .g), (5, .g), (6, .q), (7, .g), (8, .g), (9, .q), (10, .q), (11, .g), (12, .g), (13, .g)] (by kernel_rfl) (by kernel_rfl) ?_ (by repeat (first | exact Sub.nil _ | refine Sub.cons (by first | rfl | (rw [dgs_zero]; rfl) | (rw [List.drop_length]; rfl) | (simp; done) | (congr 2; omega) | (congr 3; omega)) ?_ | exact Sub.refl _ | refine sub_snap ?_ rfl))
          refine J.move rfl rfl ?_
          refine J.lenSl Tryz.underlying25 rfl rfl ?_
          refine J.eql rfl rfl rfl (decide_eq_false (by first | omega | rfl | assumption | (simp only [*]; done))) ?_
          refine J.move rfl rfl ?_
          refine J.yes rfl rfl ?_
          refine J.move rfl rfl ?_
          refine J.yes rfl rfl ?_
          refine J.indexSlI sl25 rfl (hA.isSome (by rw [rowC_length]; show 0 < (_ + 1) * 35; omega)) rfl (by omega) (by omega) (by rfl) rfl ?_
          refine J.yes rfl rfl ?_
          refine J.loadIN (k := .q) trivial hA (off_nil _) rfl agg53 (x.cells) rfl (rowC_head _ _) rfl ?_
          refine J.yes rfl rfl ?_
          refine J.move rfl rfl ?_
          refine J.yes rfl rfl ?_
          refine J.indexSlI sl25 rfl (hA2.isSome (by rw [rowC_length]; show 0 < (_ + 1) * 35; omega)) rfl (by omega) (by omega) (by rfl) rfl ?_
          refine J.yes rfl rfl ?_
          refine J.loadIN (k := .q) trivial hA2 (off_nil _) rfl agg53 (y.cells) rfl (rowC_head _ _) rfl ?_
          refine J.yes rfl rfl ?_
          refine J.call0 (k := .q) trivial fok59 rfl rfl (fun w hw => Da.spots w x y (may_kd hmx.head) (may_kd hmy.head)) ?_
          refine J.yes rfl rfl ?_
          refine J.gtr rfl rfl rfl rfl ?_
          refine J.pick_f rfl rfl rfl ?_
          refine J.assign rfl rfl ?_
          refine J.end ?_
          refine X.then ?_
          refine T.cond_dec rfl (fun h9 => ?_) (fun h9 => ?_)
          · have hwb : (x :: xs2).map Ch.v = [] ∨ ∃ a as2, (x :: xs2).map Ch.v = a :: as2 ∧ 0 < spotZ a y.v := .inr ⟨x.v, xs2.map Ch.v, rfl, by omega⟩
            refine T.seq ?_
            refine T.text [.l, .l, .l, .l, .l, .l, .l, .l] rfl ?_
            refine J.move rfl rfl ?_
            refine J.move rfl rfl ?_
            refine J.indexSlI sl25 rfl (hA2.isSome (by rw [rowC_length]; show 0 < (_ + 1) * 35; omega)) rfl (by omega) (by omega) (by rfl) rfl ?_
            refine J.loadIN (k := .l) trivial hA2 (off_nil _) rfl agg53 (y.cells) rfl (rowC_head _ _) rfl ?_
            refine J.callB fok58 rfl rfl _ _ [(9, r.ent 53 (rowC zs))] (by repeat (first | exact Sub.nil _ | refine Sub.cons (by first | rfl | (rw [dgs_zero]; rfl) | (rw [List.drop_length]; rfl) | (simp; done) | (congr 2; omega) | (congr 3; omega)) ?_ | exact Sub.refl _ | refine sub_snap ?_ rfl)) rfl (fun _ _ => Sub.nil _) (fun w hw => Da.own w n (B ++ ids [(9, r.ent 53 (rowC zs))]) y (busy_lt (l1 := [(9, r.ent 53 (rowC zs))]) hB hw (by repeat (first | exact Sub.nil _ | refine Sub.cons (by first | rfl | (rw [dgs_zero]; rfl) | (rw [List.drop_length]; rfl) | (simp; done) | (congr 2; omega) | (congr 3; omega)) ?_ | exact Sub.refl _ | refine sub_snap ?_ rfl)) rfl) (hdy.head.keep (keep_base (B0 := B) (l1 := [(9, r.ent 53 (rowC zs))]) hn (fun g hg => by cases hg) hw (by repeat (first | exact Sub.nil _ | refine Sub.cons (by first | rfl | (rw [dgs_zero]; rfl) | (rw [List.drop_length]; rfl) | (simp; done) | (congr 2; omega) | (congr 3; omega)) ?_ | exact Sub.refl _ | refine sub_snap ?_ rfl)) rfl))) (fun i79 W79 hP79 hW79 => ?_)
            obtain ⟨hv79, hc79⟩ := hP79
            have kpW79 := (keep_snap (I := [r.id]) (B0 := B) (l1 := [(9, r.ent 53 (rowC zs))]) hV hn (fun g hg => by cases hg) hW79 (by repeat (first | exact Sub.refl _ | refine sub_snap ?_ rfl)) (by repeat (first | exact Sub.nil _ | refine Sub.cons (by first | rfl | (rw [dgs_zero]; rfl) | (rw [List.drop_length]; rfl) | (simp; done) | (congr 2; omega) | (congr 3; omega)) ?_ | exact Sub.refl _ | refine sub_snap ?_ rfl)) rfl)
            have hz := hz.keep kpW79
            have hVW79 := hW79.sub (Sub.nil _)
            refine J.lit1 80 rfl Tryz.underlying25 el53 (by decide) rfl (i79.cells) rfl rfl rfl (fun g80 hg80 => ?_)
            refine J.append 9 rfl Tryz.underlying25 el53 rfl hr (rowC_length zs) rfl rfl rfl (fun w hw => (hw.blkCs (k := 80) rfl)) (Ch.cells_one _) (by omega) (by unfold maxLen; omega) rfl (zs ++ [i79]).length (by rw [List.length_append]; rfl) (rowC (zs ++ [i79])) (rowC_snoc _ _).symm (fun r81 hr81 => ?_)
            refine J.assign rfl rfl ?_
            refine J.end ?_
            refine X.then ?_
            refine T.seq ?_
            refine T.text [.l, .l, .l] rfl ?_
            refine J.move rfl rfl ?_
            refine J.sliceSl sl25 rfl (optInt.some rfl (by omega) (by rfl)) optInt.none optInt.none (by simp) (by omega) (by have h0 := hcb; rw [List.length_cons] at h0; show _ + 1 ≤ _; omega) (Nat.le_refl _) rfl rfl ?_
            refine J.assign rfl rfl ?_
            refine J.end ?_
            refine X.then ?_
            refine T.exit ?_
            refine X.inBlock_ne rfl (X.then_exit (X.inBlock_eq ?_))
            refine X.snap [(9, r81.ent 53 (rowC (zs ++ [i79])))] (by repeat (first | exact Sub.nil _ | refine Sub.cons (by first | rfl | (rw [dgs_zero]; rfl) | (rw [List.drop_length]; rfl) | (simp; done) | (congr 2; omega) | (congr 3; omega)) ?_ | exact Sub.refl _ | refine sub_snap ?_ rfl)) rfl (fun Wx10 hWWx10 => ?_)
            have kpWx10 := (keep_snap (I := [r.id]) (B0 := B) (l1 := [(9, r81.ent 53 (rowC (zs ++ [i79])))]) hVW79 hn (fun g hg => by cases hg) hWWx10 (by repeat (first | exact Sub.refl _ | refine sub_snap ?_ rfl)) (by repeat (first | exact Sub.nil _ | refine Sub.cons (by first | rfl | (rw [dgs_zero]; rfl) | (rw [List.drop_length]; rfl) | (simp; done) | (congr 2; omega) | (congr 3; omega)) ?_ | exact Sub.refl _ | refine sub_snap ?_ rfl)) rfl)
            have hz := hz.keep kpWx10
            have hc79 := hc79.keep kpWx10
            have hVWx10 := hWWx10.sub (Sub.nil _)
            exact X.round ⟨Wx10, Aa, ca, (x :: xs2), (if cb = 1 then Ab else Ab.map (·.add (1 * 35))), (cb - 1), ys2, (zs ++ [i79]), r81⟩ ⟨hA, hca, hdx, hmx, (rowC_tail hA2 hcb), (len_tail hcb), hdy.tail, hmy.tail, (by rw [snoc_v, hv79]; exact join_push (hj.trans (congrArg (Option.map _) (join_b _ _ _ hwb)))), (by dsimp only; simp at hlen ⊢ <;> omega), hr81, hVWx10, (hz.snoc hc79), trivial⟩ (by dsimp only; simp <;> omega) (by repeat (first | exact Sub.nil _ | refine Sub.cons (by first | rfl | (rw [dgs_zero]; rfl) | (rw [List.drop_length]; rfl) | (simp; done) | (congr 2; omega) | (congr 3; omega)) ?_ | exact Sub.refl _ | refine sub_snap ?_ rfl)) (by repeat (first | exact Sub.nil _ | refine Sub.cons (by first | rfl | (rw [dgs_zero]; rfl) | (rw [List.drop_length]; rfl) | (simp; done) | (congr 2; omega) | (congr 3; omega)) ?_ | exact Sub.refl _ | refine sub_snap ?_ rfl))
          · have hsp : spotZ x.v y.v = 0 := by omega
            refine T.skip ?_
            refine X.inBlock (X.then ?_)
            refine T.seq ?_
            refine T.text [.l, .l, .l, .l, .l] rfl ?_
            refine J.move rfl rfl ?_
            refine J.indexSlI sl25 rfl (hA.isSome (by rw [rowC_length]; show 0 < (_ + 1) * 35; omega)) rfl (by omega) (by omega) (by rfl) rfl ?_
            refine J.loadIN (k := .l) trivial hA (off_nil _) rfl agg53 (x.cells) rfl (rowC_head _ _) rfl ?_
            refine J.alloc 10 rfl zero53 [.int .u8 0, .int .u8 0, .int .u8 0, .int .u8 0, .int .u8 0, .int .u8 0, .int .u8 0, .int .u8 0, .int .u8 0, .int .u8 0, .int .u8 0, .int .u8 0, .int .u8 0, .int .u8 0, .int .u8 0, .int .u8 0, .int .u8 0, .int .u8 0, .int .u8 0, .int .u8 0, .int .i64 0, .int .u64 0, .int .u64 0, .int .u64 0, .int .u64 0, .int .u64 0, .int .u64 0, .int .u64 0, .int .u64 0, .int .u64 0, .int .u64 0, .int .u64 0, .int .u64 0, .slice none 0 0, .slice none 0 0] rfl rfl (fun g10 hg10 => ?_)
            refine J.store 10 rfl rfl rfl rfl (x.cells) rfl sz53 (Nat.le_of_ble_eq_true rfl) (by first | exact Ch.cells_one _) (Nat.zero_lt_succ _) trivial (x.cells) rfl ?_
            refine J.end ?_
            refine X.then ?_
            refine T.seq ?_
            refine T.seq ?_
            refine T.draw [] [(0, .g), (1, .q), (2, .g), (3, .g), (4, .g), (5, .q), (6, .g), (7, .g), (8, .g), (9, .q), (10, .g), (11, .g), (12, .g), (13, .q), (14, .q), (15, .g), (16, .g)] (by kernel_rfl) (by kernel_rfl) ?_ (by repeat (first | exact Sub.nil _ | refine Sub.cons (by first | rfl | (rw [dgs_zero]; rfl) | (rw [List.drop_length]; rfl) | (simp; done) | (congr 2; omega) | (congr 3; omega)) ?_ | exact Sub.refl _ | refine sub_snap ?_ rfl))
            refine J.fieldAddr fld53_4 rfl rfl ?_
            refine J.loadN (k := .q) trivial 10 rfl rfl agg50 (wc x.new) rfl rfl rfl ?_
            refine J.move rfl rfl ?_
            refine J.indexSlI sl25 rfl (hA2.isSome (by rw [rowC_length]; show 0 < (_ + 1) * 35; omega)) rfl (by omega) (by omega) (by rfl) rfl ?_
            refine J.fieldAddrI fld53_3 rfl rfl ?_
            refine J.loadIN (k := .q) trivial hA2 (off_nil _) rfl agg50 (wc y.old) rfl rfl rfl ?_
            refine J.neqW eqw50 rfl rfl rfl ?_
            refine J.move rfl rfl ?_
            refine J.split 94 rfl (fun h11 => ?_) (fun h11 => ?_)
            · have hnm : ¬ x.v.meets y.v := fun q => h11 q.1
              have hjn := hj.trans (congrArg (Option.map _) (join_no hsp hnm))
              refine J.no rfl rfl rfl rfl ?_
              refine J.no rfl rfl rfl rfl ?_
              refine J.no rfl rfl rfl rfl ?_
              refine J.no rfl rfl rfl rfl ?_
              refine J.no rfl rfl rfl rfl ?_
              refine J.no rfl rfl rfl rfl ?_
              refine J.no rfl rfl rfl rfl ?_
              refine J.no rfl rfl rfl rfl ?_
              refine J.pick_t rfl rfl rfl ?_
              refine J.end ?_
              refine X.then ?_
              refine T.cond_true rfl ?_
              refine T.seq ?_
              refine T.text [.l, .l] rfl ?_
              refine J.assign rfl rfl ?_
              refine J.assign rfl rfl ?_
              refine J.end ?_
              refine X.then ?_
              refine T.ret ?_
              refine X.then_ret (X.inBlock_ret (X.then_ret (X.inBlock_ret (X.then_ret (X.scope_ret ?_)))))
              exact X.ret2 rfl (RV.tmp rfl) (RV.tmp rfl) (fun w' hw' => by first | exact ⟨([], RowIx.nil), ⟨by rw [join_err hjl hjeq hne hfa]; rfl, RowIx.nil_ok 35, Fit.nil, AllC.nil⟩, by rw [join_err hjl hjeq hne hfa]; rfl, hw'.sub (Sub.nil _)⟩ | exact ⟨([], RowIx.nil), ⟨by rw [joinZ_no hfz1 hfz2 hjn]; rfl, RowIx.nil_ok 35, Fit.nil, AllC.nil⟩, by rw [joinZ_no hfz1 hfz2 hjn]; rfl, hw'.sub (Sub.nil _)⟩ | exact ⟨(zs, r), ⟨by rw [joinZ_ok hfz1 hfz2 (hj.trans (join_fin _))], hr, fit_row hw' (j := 9) rfl (fun g h => ⟨hB g h, fun q => by cases q⟩), hz.keep (((keep_snap (I := [r.id]) (B0 := B) (l1 := []) hV hn (fun g hg => by cases hg) hw' (by repeat (first | exact Sub.refl _ | refine sub_snap ?_ rfl)) (Sub.nil _) rfl)).le (fun o h => List.mem_append_left _ h))⟩, by rw [joinZ_ok hfz1 hfz2 (hj.trans (join_fin _))], hw'.sub (Sub.nil _)⟩)
            · skip
              refine J.yes rfl rfl ?_
              refine J.fieldAddr fld53_6 rfl rfl ?_
              refine J.yes rfl rfl ?_
              refine J.load1 (k := .q) trivial 10 rfl rfl one51 (by first | rfl | with_reducible exact rowN_get0 _ _ _ (by omega) | with_reducible exact rowN_get1 _ _ _ (by omega) | with_reducible exact rowN_get1s _ _ _ _ (by omega) | exact rowN_get1 _ _ _ (by omega) | exact rowN_get1s _ _ _ _ (by omega) | exact rowN_get0 _ _ _ (by omega)) rfl ?_
              refine J.yes rfl rfl ?_
              refine J.move rfl rfl ?_
              refine J.yes rfl rfl ?_
              refine J.indexSlI sl25 rfl (hA2.isSome (by rw [rowC_length]; show 0 < (_ + 1) * 35; omega)) rfl (by omega) (by omega) (by rfl) rfl ?_
              refine J.yes rfl rfl ?_
              refine J.fieldAddrI fld53_5 rfl rfl ?_
              refine J.yes rfl rfl ?_
              refine J.loadI1 (k := .q) trivial hA2 (off_nil _) rfl one51 rfl rfl ?_
              refine J.yes rfl rfl ?_
              refine J.call0 (k := .q) trivial fok60 rfl rfl (fun w hw => Da.Equal w _ _ _ _ x.nc y.oc (hdx.head.fn.cs.ws hw (off_nil _)) (hdy.head.fo.cs.ws hw (off_nil _)) hdx.head.dN hdy.head.dO) ?_
              refine J.yes rfl rfl ?_
              refine J.not rfl rfl (by rw [← decide_not]) ?_
              refine J.pick_f rfl rfl rfl ?_
              refine J.end ?_
              refine X.then ?_
              refine T.cond_dec rfl (fun h12 => ?_) (fun h12 => ?_)
              · have hnm : ¬ x.v.meets y.v := fun q => by first | exact (by assumption : ¬ x.new % 2 ^ 256 = y.old % 2 ^ 256) q.1 | exact (by assumption : ¬ x.nc = y.oc) q.2
                have hjn := hj.trans (congrArg (Option.map _) (join_no hsp hnm))
                refine T.seq ?_
                refine T.text [.l, .l] rfl ?_
                refine J.assign rfl rfl ?_
                refine J.assign rfl rfl ?_
                refine J.end ?_
                refine X.then ?_
                refine T.ret ?_
                refine X.then_ret (X.inBlock_ret (X.then_ret (X.inBlock_ret (X.then_ret (X.scope_ret ?_)))))
                exact X.ret2 rfl (RV.tmp rfl) (RV.tmp rfl) (fun w' hw' => by first | exact ⟨([], RowIx.nil), ⟨by rw [join_err hjl hjeq hne hfa]; rfl, RowIx.nil_ok 35, Fit.nil, AllC.nil⟩, by rw [join_err hjl hjeq hne hfa]; rfl, hw'.sub (Sub.nil _)⟩ | exact ⟨([], RowIx.nil), ⟨by rw [joinZ_no hfz1 hfz2 hjn]; rfl, RowIx.nil_ok 35, Fit.nil, AllC.nil⟩, by rw [joinZ_no hfz1 hfz2 hjn]; rfl, hw'.sub (Sub.nil _)⟩ | exact ⟨(zs, r), ⟨by rw [joinZ_ok hfz1 hfz2 (hj.trans (join_fin _))], hr, fit_row hw' (j := 9) rfl (fun g h => ⟨hB g h, fun q => by cases q⟩), hz.keep (((keep_snap (I := [r.id]) (B0 := B) (l1 := []) hV hn (fun g hg => by cases hg) hw' (by repeat (first | exact Sub.refl _ | refine sub_snap ?_ rfl)) (Sub.nil _) rfl)).le (fun o h => List.mem_append_left _ h))⟩, by rw [joinZ_ok hfz1 hfz2 (hj.trans (join_fin _))], hw'.sub (Sub.nil _)⟩)
              · have hmt : x.v.meets y.v := ⟨Decidable.not_not.1 (by assumption), Decidable.not_not.1 (by assumption)⟩
                refine T.skip ?_
                refine X.then ?_
                refine T.seq ?_
                refine T.draw [] [(0, .g), (1, .g), (2, .g), (3, .q), (4, .g), (5, .g), (6, .g), (7, .s), (8, .g), (9, .l), (10, .g), (11, .l)] (by kernel_rfl) (by kernel_rfl) ?_ (by repeat (first | exact Sub.nil _ | refine Sub.cons (by first | rfl | (rw [dgs_zero]; rfl) | (rw [List.drop_length]; rfl) | (simp; done) | (congr 2; omega) | (congr 3; omega)) ?_ | exact Sub.refl _ | refine sub_snap ?_ rfl))
                refine J.move rfl rfl ?_
                refine J.indexSlI sl25 rfl (hA2.isSome (by rw [rowC_length]; show 0 < (_ + 1) * 35; omega)) rfl (by omega) (by omega) (by rfl) rfl ?_
                refine J.fieldAddrI fld53_4 rfl rfl ?_
                refine J.loadIN (k := .q) trivial hA2 (off_nil _) rfl agg50 (wc y.new) rfl rfl rfl ?_
                refine J.move rfl rfl ?_
                refine J.indexSlI sl25 rfl (hA2.isSome (by rw [rowC_length]; show 0 < (_ + 1) * 35; omega)) rfl (by omega) (by omega) (by rfl) rfl ?_
                refine J.fieldAddrI fld53_6 rfl rfl ?_
                refine J.loadI1s hA2 (off_nil _) rfl one51 rfl rfl ?_
                refine J.fieldAddr fld53_4 rfl rfl ?_
                refine J.store 10 rfl rfl rfl rfl (wc y.new) rfl sz50 (by first | decide | exact Nat.le_refl _ | exact Nat.le_of_ble_eq_true rfl | (simp [rowN]; done) | (simp [rowN]; omega)) (by first | exact rowN_one _ _ | (simp; done) | (intro u hu; simp at hu; subst hu; rfl) | (intro u hu; simp at hu; rcases hu with rfl | rfl <;> rfl)) (by first | decide | exact Nat.zero_lt_succ _ | simp) trivial _ rfl ?_
                refine J.fieldAddr fld53_6 rfl rfl ?_
                refine J.store 10 rfl rfl rfl rfl [.slice y.nA y.nc.length y.nC] rfl sz51 (by first | decide | exact Nat.le_refl _ | exact Nat.le_of_ble_eq_true rfl | (simp [rowN]; done) | (simp [rowN]; omega)) (by intro u hu; rw [List.mem_singleton.1 hu]; rfl) (by first | decide | exact Nat.zero_lt_succ _ | simp) trivial _ rfl ?_
                refine J.end ?_
                refine X.asE 10 ⟨some g10, 53, (x.then y).cells⟩ rfl (by rfl) ?_
                refine X.then ?_
                refine T.seq ?_
                refine T.seq ?_
                refine T.text [.l, .l, .l] rfl ?_
                refine J.loadN (k := .l) trivial 10 rfl rfl agg53 (x.then y).cells rfl rfl rfl ?_
                refine J.call0 (k := .l) trivial fok61 rfl rfl (fun w hw => Da.idle w (x.then y) (hdx.head.fo.cs.ws hw (off_nil _)) (hdy.head.fn.cs.ws hw (off_nil _)) hdx.head.dO hdy.head.dN) ?_
                refine J.not rfl rfl (by rw [← decide_not]) ?_
                refine J.end ?_
                refine X.then ?_
                refine T.cond_dec rfl (fun h13 => ?_) (fun h13 => ?_)
                · have hid := h13
                  refine T.text [.l, .l, .l, .l, .l, .l] rfl ?_
                  refine J.move rfl rfl ?_
                  refine J.loadN (k := .l) trivial 10 rfl rfl agg53 (x.then y).cells rfl rfl rfl ?_
                  refine J.callB fok58 rfl rfl _ _ [(9, r.ent 53 (rowC zs)), (10, ⟨some g10, 53, (x.then y).cells⟩)] (by repeat (first | exact Sub.nil _ | refine Sub.cons (by first | rfl | (rw [dgs_zero]; rfl) | (rw [List.drop_length]; rfl) | (simp; done) | (congr 2; omega) | (congr 3; omega)) ?_ | exact Sub.refl _ | refine sub_snap ?_ rfl)) rfl (fun _ _ => Sub.nil _) (fun w hw => Da.own w n (B ++ ids [(9, r.ent 53 (rowC zs)), (10, ⟨some g10, 53, (x.then y).cells⟩)]) (x.then y) (busy_lt (l1 := [(9, r.ent 53 (rowC zs)), (10, ⟨some g10, 53, (x.then y).cells⟩)]) hB hw (by repeat (first | exact Sub.nil _ | refine Sub.cons (by first | rfl | (rw [dgs_zero]; rfl) | (rw [List.drop_length]; rfl) | (simp; done) | (congr 2; omega) | (congr 3; omega)) ?_ | exact Sub.refl _ | refine sub_snap ?_ rfl)) rfl) ((hdx.head.then hdy.head).keep (keep_base (B0 := B) (l1 := [(9, r.ent 53 (rowC zs)), (10, ⟨some g10, 53, (x.then y).cells⟩)]) hn (fun g hg => by cases hg) hw (by repeat (first | exact Sub.nil _ | refine Sub.cons (by first | rfl | (rw [dgs_zero]; rfl) | (rw [List.drop_length]; rfl) | (simp; done) | (congr 2; omega) | (congr 3; omega)) ?_ | exact Sub.refl _ | refine sub_snap ?_ rfl)) rfl))) (fun i119 W119 hP119 hW119 => ?_)
                  obtain ⟨hv119, hc119⟩ := hP119
                  have kpW119 := (keep_snap (I := [r.id]) (B0 := B) (l1 := [(9, r.ent 53 (rowC zs)), (10, ⟨some g10, 53, (x.then y).cells⟩)]) hV hn (fun g hg => by cases hg) hW119 (by repeat (first | exact Sub.refl _ | refine sub_snap ?_ rfl)) (by repeat (first | exact Sub.nil _ | refine Sub.cons (by first | rfl | (rw [dgs_zero]; rfl) | (rw [List.drop_length]; rfl) | (simp; done) | (congr 2; omega) | (congr 3; omega)) ?_ | exact Sub.refl _ | refine sub_snap ?_ rfl)) rfl)
                  have hz := hz.keep kpW119
                  have hVW119 := hW119.sub (Sub.nil _)
                  refine J.lit1 120 rfl Tryz.underlying25 el53 (by decide) rfl (i119.cells) rfl rfl rfl (fun g120 hg120 => ?_)
                  refine J.append 9 rfl Tryz.underlying25 el53 rfl hr (rowC_length zs) rfl rfl rfl (fun w hw => (hw.blkCs (k := 120) rfl)) (Ch.cells_one _) (by omega) (by unfold maxLen; omega) rfl (zs ++ [i119]).length (by rw [List.length_append]; rfl) (rowC (zs ++ [i119])) (rowC_snoc _ _).symm (fun r121 hr121 => ?_)
                  refine J.assign rfl rfl ?_
                  refine J.end ?_
                  refine X.then ?_
                  refine T.draw [] [(0, .g), (1, .g), (2, .g), (3, .g), (4, .g), (5, .g)] (by kernel_rfl) (by kernel_rfl) ?_ (by repeat (first | exact Sub.nil _ | refine Sub.cons (by first | rfl | (rw [dgs_zero]; rfl) | (rw [List.drop_length]; rfl) | (simp; done) | (congr 2; omega) | (congr 3; omega)) ?_ | exact Sub.refl _ | refine sub_snap ?_ rfl))
                  refine J.move rfl rfl ?_
                  refine J.sliceSl sl25 rfl (optInt.some rfl (by omega) (by rfl)) optInt.none optInt.none (by simp) (by omega) (by have h0 := hca; rw [List.length_cons] at h0; show _ + 1 ≤ _; omega) (Nat.le_refl _) rfl rfl ?_
                  refine J.move rfl rfl ?_
                  refine J.sliceSl sl25 rfl (optInt.some rfl (by omega) (by rfl)) optInt.none optInt.none (by simp) (by omega) (by have h0 := hcb; rw [List.length_cons] at h0; show _ + 1 ≤ _; omega) (Nat.le_refl _) rfl rfl ?_
                  refine J.assign rfl rfl ?_
                  refine J.assign rfl rfl ?_
                  refine J.end ?_
                  refine X.inBlock ?_
                  refine X.snap [(9, r121.ent 53 (rowC (zs ++ [i119])))] (by repeat (first | exact Sub.nil _ | refine Sub.cons (by first | rfl | (rw [dgs_zero]; rfl) | (rw [List.drop_length]; rfl) | (simp; done) | (congr 2; omega) | (congr 3; omega)) ?_ | exact Sub.refl _ | refine sub_snap ?_ rfl)) rfl (fun Wx14 hWWx14 => ?_)
                  have kpWx14 := (keep_snap (I := [r.id, some g10]) (B0 := B) (l1 := [(9, r121.ent 53 (rowC (zs ++ [i119])))]) hVW119 hn (fun g hg => by cases hg) hWWx14 (by repeat (first | exact Sub.refl _ | refine sub_snap ?_ rfl)) (by repeat (first | exact Sub.nil _ | refine Sub.cons (by first | rfl | (rw [dgs_zero]; rfl) | (rw [List.drop_length]; rfl) | (simp; done) | (congr 2; omega) | (congr 3; omega)) ?_ | exact Sub.refl _ | refine sub_snap ?_ rfl)) rfl)
                  have hz := hz.keep kpWx14
                  have hc119 := hc119.keep kpWx14
                  have hVWx14 := hWWx14.sub (Sub.nil _)
                  exact X.round ⟨Wx14, (if ca = 1 then Aa else Aa.map (·.add (1 * 35))), (ca - 1), xs2, (if cb = 1 then Ab else Ab.map (·.add (1 * 35))), (cb - 1), ys2, (zs ++ [i119]), r121⟩ ⟨(rowC_tail hA hca), (len_tail hca), hdx.tail, hmx.tail, (rowC_tail hA2 hcb), (len_tail hcb), hdy.tail, hmy.tail, (by rw [snoc_v, hv119]; exact join_push (hj.trans (congrArg (Option.map _) (join_both hsp hmt hid)))), (by dsimp only; simp at hlen ⊢ <;> omega), hr121, hVWx14, (hz.snoc hc119), trivial⟩ (by dsimp only; simp <;> omega) (by repeat (first | exact Sub.nil _ | refine Sub.cons (by first | rfl | (rw [dgs_zero]; rfl) | (rw [List.drop_length]; rfl) | (simp; done) | (congr 2; omega) | (congr 3; omega)) ?_ | exact Sub.refl _ | refine sub_snap ?_ rfl)) (by repeat (first | exact Sub.nil _ | refine Sub.cons (by first | rfl | (rw [dgs_zero]; rfl) | (rw [List.drop_length]; rfl) | (simp; done) | (congr 2; omega) | (congr 3; omega)) ?_ | exact Sub.refl _ | refine sub_snap ?_ rfl))
                · have hid := Decidable.not_not.1 h13
                  refine T.skip ?_
                  refine X.then ?_
                  refine T.draw [] [(0, .g), (1, .g), (2, .g), (3, .g), (4, .g), (5, .g)] (by kernel_rfl) (by kernel_rfl) ?_ (by repeat (first | exact Sub.nil _ | refine Sub.cons (by first | rfl | (rw [dgs_zero]; rfl) | (rw [List.drop_length]; rfl) | (simp; done) | (congr 2; omega) | (congr 3; omega)) ?_ | exact Sub.refl _ | refine sub_snap ?_ rfl))
                  refine J.move rfl rfl ?_
                  refine J.sliceSl sl25 rfl (optInt.some rfl (by omega) (by rfl)) optInt.none optInt.none (by simp) (by omega) (by have h0 := hca; rw [List.length_cons] at h0; show _ + 1 ≤ _; omega) (Nat.le_refl _) rfl rfl ?_
                  refine J.move rfl rfl ?_
                  refine J.sliceSl sl25 rfl (optInt.some rfl (by omega) (by rfl)) optInt.none optInt.none (by simp) (by omega) (by have h0 := hcb; rw [List.length_cons] at h0; show _ + 1 ≤ _; omega) (Nat.le_refl _) rfl rfl ?_
                  refine J.assign rfl rfl ?_
                  refine J.assign rfl rfl ?_
                  refine J.end ?_
                  refine X.inBlock ?_
                  refine X.snap [(9, r.ent 53 (rowC zs))] (by repeat (first | exact Sub.nil _ | refine Sub.cons (by first | rfl | (rw [dgs_zero]; rfl) | (rw [List.drop_length]; rfl) | (simp; done) | (congr 2; omega) | (congr 3; omega)) ?_ | exact Sub.refl _ | refine sub_snap ?_ rfl)) rfl (fun Wx15 hWWx15 => ?_)
                  have kpWx15 := (keep_snap (I := [r.id]) (B0 := B) (l1 := [(9, r.ent 53 (rowC zs))]) hV hn (fun g hg => by cases hg) hWWx15 (by repeat (first | exact Sub.refl _ | refine sub_snap ?_ rfl)) (by repeat (first | exact Sub.nil _ | refine Sub.cons (by first | rfl | (rw [dgs_zero]; rfl) | (rw [List.drop_length]; rfl) | (simp; done) | (congr 2; omega) | (congr 3; omega)) ?_ | exact Sub.refl _ | refine sub_snap ?_ rfl)) rfl)
                  have hz := hz.keep kpWx15
                  have hVWx15 := hWWx15.sub (Sub.nil _)
                  exact X.round ⟨Wx15, (if ca = 1 then Aa else Aa.map (·.add (1 * 35))), (ca - 1), xs2, (if cb = 1 then Ab else Ab.map (·.add (1 * 35))), (cb - 1), ys2, zs, r⟩ ⟨(rowC_tail hA hca), (len_tail hca), hdx.tail, hmx.tail, (rowC_tail hA2 hcb), (len_tail hcb), hdy.tail, hmy.tail, (hj.trans (congrArg (Option.map _) (join_idle hsp hmt hid))), (by dsimp only; simp at hlen ⊢ <;> omega), hr, hVWx15, hz, trivial⟩ (by dsimp only; simp <;> omega) (by repeat (first | exact Sub.nil _ | refine Sub.cons (by first | rfl | (rw [dgs_zero]; rfl) | (rw [List.drop_length]; rfl) | (simp; done) | (congr 2; omega) | (congr 3; omega)) ?_ | exact Sub.refl _ | refine sub_snap ?_ rfl)) (by repeat (first | exact Sub.nil _ | refine Sub.cons (by first | rfl | (rw [dgs_zero]; rfl) | (rw [List.drop_length]; rfl) | (simp; done) | (congr 2; omega) | (congr 3; omega)) ?_ | exact Sub.refl _ | refine sub_snap ?_ rfl))
    · obtain rfl : xs = [] := List.length_eq_zero_iff.1 (by omega)
      refine J.yes rfl rfl ?_
      refine J.move rfl rfl ?_
      refine J.yes rfl rfl ?_
      refine J.lenSl Tryz.underlying25 rfl rfl ?_
      refine J.yes rfl rfl ?_
      refine J.gtr rfl rfl rfl rfl ?_
      refine J.pick_f rfl rfl rfl ?_
      refine J.end ?_
      refine X.then ?_
      refine T.cond_dec rfl (fun h16 => ?_) (fun h16 => ?_)
      · obtain ⟨y, ys2, rfl⟩ := List.exists_cons_of_length_pos (l := ys) (by omega)
        refine T.skip ?_
        refine X.then ?_
        refine T.block ?_
        refine T.seq ?_
        refine T.block ?_
        refine T.seq ?_
        refine T.draw [] [(0, .g), (1, .g), (2, .g), (3, .g), (4, .g), (5, .g), (6, .g), (7, .g), (8, .g), (9, .g), (10, .q), (11, .g), (12, .g), (13, .q), (14, .q), (15, .g), (16, .g), (17, .g), (18, .g)] (by kernel_rfl) (by kernel_rfl) ?_ (by repeat (first | exact Sub.nil _ | refine Sub.cons (by first | rfl | (rw [dgs_zero]; rfl) | (rw [List.drop_length]; rfl) | (simp; done) | (congr 2; omega) | (congr 3; omega)) ?_ | exact Sub.refl _ | refine sub_snap ?_ rfl))
        refine J.move rfl rfl ?_
        refine J.lenSl Tryz.underlying25 rfl rfl ?_
        refine J.eql rfl rfl rfl (decide_eq_false (by first | omega | rfl | assumption | (simp only [*]; done))) ?_
        refine J.move rfl rfl ?_
        refine J.yes rfl rfl ?_
        refine J.move rfl rfl ?_
        refine J.yes rfl rfl ?_
        refine J.lenSl Tryz.underlying25 rfl rfl ?_
        refine J.yes rfl rfl ?_
        refine J.gtr rfl rfl rfl (decide_eq_false (by first | omega | rfl | assumption | (simp only [*]; done))) ?_
        refine J.yes rfl rfl ?_
        refine J.move rfl rfl ?_
        refine J.no rfl rfl rfl rfl ?_
        refine J.no rfl rfl rfl rfl ?_
        refine J.no rfl rfl rfl rfl ?_
        refine J.no rfl rfl rfl rfl ?_
        refine J.no rfl rfl rfl rfl ?_
        refine J.no rfl rfl rfl rfl ?_
        refine J.no rfl rfl rfl rfl ?_
        refine J.no rfl rfl rfl rfl ?_
        refine J.yes rfl rfl ?_
        refine J.pick_f rfl rfl rfl ?_
        refine J.pick_f rfl rfl rfl ?_
        refine J.assign rfl rfl ?_
        refine J.end ?_
        refine X.then ?_
        refine T.cond_false rfl ?_
        refine T.seq ?_
        refine T.draw [] [(0, .g), (1, .g), (2, .g), (3, .g), (4, .g), (5, .g), (6, .q), (7, .g), (8, .g), (9, .q), (10, .q), (11, .g), (12, .g), (13, .g)] (by kernel_rfl) (by kernel_rfl) ?_ (by repeat (first | exact Sub.nil _ | refine Sub.cons (by first | rfl | (rw [dgs_zero]; rfl) | (rw [List.drop_length]; rfl) | (simp; done) | (congr 2; omega) | (congr 3; omega)) ?_ | exact Sub.refl _ | refine sub_snap ?_ rfl))
        refine J.move rfl rfl ?_
        refine J.lenSl Tryz.underlying25 rfl rfl ?_
        refine J.eql rfl rfl rfl (decide_eq_true (by omega)) ?_
        have hwb : ([] : List Ch).map Ch.v = [] ∨ ∃ a as2, ([] : List Ch).map Ch.v = a :: as2 ∧ 0 < spotZ a y.v := .inl rfl
        refine J.move rfl rfl ?_
        refine J.no rfl rfl rfl rfl ?_
        refine J.no rfl rfl rfl rfl ?_
        refine J.no rfl rfl rfl rfl ?_
        refine J.no rfl rfl rfl rfl ?_
        refine J.no rfl rfl rfl rfl ?_
        refine J.no rfl rfl rfl rfl ?_
        refine J.no rfl rfl rfl rfl ?_
        refine J.no rfl rfl rfl rfl ?_
        refine J.pick_t rfl rfl rfl ?_
        refine J.assign rfl rfl ?_
        refine J.end ?_
        refine X.then ?_
        refine T.cond_true rfl ?_
        refine T.seq ?_
        refine T.text [.l, .l, .l, .l, .l, .l, .l, .l] rfl ?_
        refine J.move rfl rfl ?_
        refine J.move rfl rfl ?_
        refine J.indexSlI sl25 rfl (hA2.isSome (by rw [rowC_length]; show 0 < (_ + 1) * 35; omega)) rfl (by omega) (by omega) (by rfl) rfl ?_
        refine J.loadIN (k := .l) trivial hA2 (off_nil _) rfl agg53 (y.cells) rfl (rowC_head _ _) rfl ?_
        refine J.callB fok58 rfl rfl _ _ [(9, r.ent 53 (rowC zs))] (by repeat (first | exact Sub.nil _ | refine Sub.cons (by first | rfl | (rw [dgs_zero]; rfl) | (rw [List.drop_length]; rfl) | (simp; done) | (congr 2; omega) | (congr 3; omega)) ?_ | exact Sub.refl _ | refine sub_snap ?_ rfl)) rfl (fun _ _ => Sub.nil _) (fun w hw => Da.own w n (B ++ ids [(9, r.ent 53 (rowC zs))]) y (busy_lt (l1 := [(9, r.ent 53 (rowC zs))]) hB hw (by repeat (first | exact Sub.nil _ | refine Sub.cons (by first | rfl | (rw [dgs_zero]; rfl) | (rw [List.drop_length]; rfl) | (simp; done) | (congr 2; omega) | (congr 3; omega)) ?_ | exact Sub.refl _ | refine sub_snap ?_ rfl)) rfl) (hdy.head.keep (keep_base (B0 := B) (l1 := [(9, r.ent 53 (rowC zs))]) hn (fun g hg => by cases hg) hw (by repeat (first | exact Sub.nil _ | refine Sub.cons (by first | rfl | (rw [dgs_zero]; rfl) | (rw [List.drop_length]; rfl) | (simp; done) | (congr 2; omega) | (congr 3; omega)) ?_ | exact Sub.refl _ | refine sub_snap ?_ rfl)) rfl))) (fun i79 W79 hP79 hW79 => ?_)
        obtain ⟨hv79, hc79⟩ := hP79
        have kpW79 := (keep_snap (I := [r.id]) (B0 := B) (l1 := [(9, r.ent 53 (rowC zs))]) hV hn (fun g hg => by cases hg) hW79 (by repeat (first | exact Sub.refl _ | refine sub_snap ?_ rfl)) (by repeat (first | exact Sub.nil _ | refine Sub.cons (by first | rfl | (rw [dgs_zero]; rfl) | (rw [List.drop_length]; rfl) | (simp; done) | (congr 2; omega) | (congr 3; omega)) ?_ | exact Sub.refl _ | refine sub_snap ?_ rfl)) rfl)
        have hz := hz.keep kpW79
        have hVW79 := hW79.sub (Sub.nil _)
        refine J.lit1 80 rfl Tryz.underlying25 el53 (by decide) rfl (i79.cells) rfl rfl rfl (fun g80 hg80 => ?_)
        refine J.append 9 rfl Tryz.underlying25 el53 rfl hr (rowC_length zs) rfl rfl rfl (fun w hw => (hw.blkCs (k := 80) rfl)) (Ch.cells_one _) (by omega) (by unfold maxLen; omega) rfl (zs ++ [i79]).length (by rw [List.length_append]; rfl) (rowC (zs ++ [i79])) (rowC_snoc _ _).symm (fun r81 hr81 => ?_)
        refine J.assign rfl rfl ?_
        refine J.end ?_
        refine X.then ?_
        refine T.seq ?_
        refine T.text [.l, .l, .l] rfl ?_
        refine J.move rfl rfl ?_
        refine J.sliceSl sl25 rfl (optInt.some rfl (by omega) (by rfl)) optInt.none optInt.none (by simp) (by omega) (by have h0 := hcb; rw [List.length_cons] at h0; show _ + 1 ≤ _; omega) (Nat.le_refl _) rfl rfl ?_
        refine J.assign rfl rfl ?_
        refine J.end ?_
        refine X.then ?_
        refine T.exit ?_
        refine X.inBlock_ne rfl (X.then_exit (X.inBlock_eq ?_))
        refine X.snap [(9, r81.ent 53 (rowC (zs ++ [i79])))] (by repeat (first | exact Sub.nil _ | refine Sub.cons (by first | rfl | (rw [dgs_zero]; rfl) | (rw [List.drop_length]; rfl) | (simp; done) | (congr 2; omega) | (congr 3; omega)) ?_ | exact Sub.refl _ | refine sub_snap ?_ rfl)) rfl (fun Wx17 hWWx17 => ?_)
        have kpWx17 := (keep_snap (I := [r.id]) (B0 := B) (l1 := [(9, r81.ent 53 (rowC (zs ++ [i79])))]) hVW79 hn (fun g hg => by cases hg) hWWx17 (by repeat (first | exact Sub.refl _ | refine sub_snap ?_ rfl)) (by repeat (first | exact Sub.nil _ | refine Sub.cons (by first | rfl | (rw [dgs_zero]; rfl) | (rw [List.drop_length]; rfl) | (simp; done) | (congr 2; omega) | (congr 3; omega)) ?_ | exact Sub.refl _ | refine sub_snap ?_ rfl)) rfl)
        have hz := hz.keep kpWx17
        have hc79 := hc79.keep kpWx17
        have hVWx17 := hWWx17.sub (Sub.nil _)
        exact X.round ⟨Wx17, Aa, ca, [], (if cb = 1 then Ab else Ab.map (·.add (1 * 35))), (cb - 1), ys2, (zs ++ [i79]), r81⟩ ⟨hA, hca, hdx, hmx, (rowC_tail hA2 hcb), (len_tail hcb), hdy.tail, hmy.tail, (by rw [snoc_v, hv79]; exact join_push (hj.trans (congrArg (Option.map _) (join_b _ _ _ hwb)))), (by dsimp only; simp at hlen ⊢ <;> omega), hr81, hVWx17, (hz.snoc hc79), trivial⟩ (by dsimp only; simp <;> omega) (by repeat (first | exact Sub.nil _ | refine Sub.cons (by first | rfl | (rw [dgs_zero]; rfl) | (rw [List.drop_length]; rfl) | (simp; done) | (congr 2; omega) | (congr 3; omega)) ?_ | exact Sub.refl _ | refine sub_snap ?_ rfl)) (by repeat (first | exact Sub.nil _ | refine Sub.cons (by first | rfl | (rw [dgs_zero]; rfl) | (rw [List.drop_length]; rfl) | (simp; done) | (congr 2; omega) | (congr 3; omega)) ?_ | exact Sub.refl _ | refine sub_snap ?_ rfl))
      · obtain rfl : ys = [] := List.length_eq_zero_iff.1 (by omega)
        refine T.exit ?_
        refine X.then_exit (X.then_exit (X.inBlock_eq (X.then ?_)))
        refine T.seq ?_
        refine T.text [.l, .l, .l] rfl ?_
        refine J.move rfl rfl ?_
        refine J.assign rfl rfl ?_
        refine J.assign rfl rfl ?_
        refine J.end ?_
        refine X.then ?_
        refine T.ret ?_
        refine X.scope_ret ?_
        exact X.ret2 rfl (RV.tmp rfl) (RV.tmp rfl) (fun w' hw' => by first | exact ⟨([], RowIx.nil), ⟨by rw [join_err hjl hjeq hne hfa]; rfl, RowIx.nil_ok 35, Fit.nil, AllC.nil⟩, by rw [join_err hjl hjeq hne hfa]; rfl, hw'.sub (Sub.nil _)⟩ | exact ⟨([], RowIx.nil), ⟨by rw [joinZ_no hfz1 hfz2 hjn]; rfl, RowIx.nil_ok 35, Fit.nil, AllC.nil⟩, by rw [joinZ_no hfz1 hfz2 hjn]; rfl, hw'.sub (Sub.nil _)⟩ | exact ⟨(zs, r), ⟨by rw [joinZ_ok hfz1 hfz2 (hj.trans (join_fin _))], hr, fit_row hw' (j := 9) rfl (fun g h => ⟨hB g h, fun q => by cases q⟩), hz.keep (((keep_snap (I := [r.id]) (B0 := B) (l1 := []) hV hn (fun g hg => by cases hg) hw' (by repeat (first | exact Sub.refl _ | refine sub_snap ?_ rfl)) (Sub.nil _) rfl)).le (fun o h => List.mem_append_left _ h))⟩, by rw [joinZ_ok hfz1 hfz2 (hj.trans (join_fin _))], hw'.sub (Sub.nil _)⟩)
end Go.Proofs.YtlllcafedekojaaGreatDoor.Dc
set_option linter.unusedVariables false
set_option maxRecDepth 20000
namespace Go.Proofs.YtlllcafedekojaaGreatDoor.Dd
open Go Go.Fw

theorem sz287 : SizeT Tryz.prog 287 32 := (by unfold SizeT; kernel_rfl)
theorem sz53 : SizeT Tryz.prog 53 35 := (by unfold SizeT; kernel_rfl)
theorem sl25 : SlT Tryz.prog 25 53 35 := ⟨Tryz.underlying25, sz53⟩
theorem agg53 : AggT Tryz.prog 53 35 := ⟨⟨_, Tryz.underlying53, rfl⟩, by kernel_rfl⟩
theorem zero53 : ZeroT Tryz.prog 53 (.agg ([.int .u8 0, .int .u8 0, .int .u8 0, .int .u8 0, .int .u8 0, .int .u8 0, .int .u8 0, .int .u8 0, .int .u8 0, .int .u8 0, .int .u8 0, .int .u8 0, .int .u8 0, .int .u8 0, .int .u8 0, .int .u8 0, .int .u8 0, .int .u8 0, .int .u8 0, .int .u8 0, .int .i64 0, .int .u64 0, .int .u64 0, .int .u64 0, .int .u64 0, .int .u64 0, .int .u64 0, .int .u64 0, .int .u64 0, .int .u64 0, .int .u64 0, .int .u64 0, .int .u64 0, .slice none 0 0, .slice none 0 0]).toArray) := (by unfold ZeroT; kernel_rfl)
theorem sz47 : SizeT Tryz.prog 47 20 := (by unfold SizeT; kernel_rfl)
theorem fld53_0 : FldT Tryz.prog 53 0 47 0 19 := ⟨by kernel_rfl, sz47⟩
theorem agg47 : AggT Tryz.prog 47 20 := ⟨⟨_, Tryz.underlying47, rfl⟩, by kernel_rfl⟩
theorem sz3 : SizeT Tryz.prog 3 1 := (by unfold SizeT; kernel_rfl)
theorem fld53_1 : FldT Tryz.prog 53 1 3 20 0 := ⟨by kernel_rfl, sz3⟩
theorem one3 : OneT Tryz.prog 3 := ⟨⟨_, Tryz.underlying3, rfl⟩, by kernel_rfl⟩
theorem sz50 : SizeT Tryz.prog 50 4 := (by unfold SizeT; kernel_rfl)
theorem fld53_2 : FldT Tryz.prog 53 2 50 21 3 := ⟨by kernel_rfl, sz50⟩
theorem agg50 : AggT Tryz.prog 50 4 := ⟨⟨_, Tryz.underlying50, rfl⟩, by kernel_rfl⟩

theorem spotT : SpotT Tryz.prog 85 47 5 3 50 48 := ⟨⟨_, _, _, Tryz.underlying85, ⟨rfl, rfl, rfl⟩, ⟨rfl, rfl, rfl⟩, ⟨rfl, rfl, rfl⟩⟩, Tryz.underlying47, Tryz.underlying5, Tryz.underlying3, Tryz.underlying50, Tryz.underlying48, by kernel_rfl, by kernel_rfl, by kernel_rfl, by kernel_rfl, by kernel_rfl, by kernel_rfl, by kernel_rfl, by kernel_rfl, by kernel_rfl, ⟨_, rfl⟩⟩
theorem klaw : WideMaps.KeyLaw Tryz.prog 85 := deep_law (m := 3) (by decide) spotT.ka spotT.tl (by kernel_rfl)
theorem zeroI : ZeroT Tryz.prog 3 (.int .i64 0) := (by unfold ZeroT; kernel_rfl)

theorem Apart (w : World) (n : Nat) (B : List (Option Nat)) (A1 A2 : Option Addr) (c1 c2 : Nat) (ps qs : List Ch) (hA1 : Cs w A1 (rowC ps)) (hd1 : AllC w n B ps) (hA2 : Cs w A2 (rowC qs)) (hd2 : AllC w n B qs) (hl1 : ps.length ≤ 1000000000) (hl2 : qs.length ≤ 1000000000) :
    Calls Tryz.prog 29 [.slice A1 ps.length c1, .slice A2 qs.length c2].toArray w fun e w' => e = .returned (.bool (decide (apartL (ps.map Ch.v) (qs.map Ch.v)))) ∧ WS w [] [] w' := by
  refine calls_of_T [] 47 [] Tryz.func29 rfl Tryz.ntmps29 (by simp) (WS.refl _ _) ?_
  refine T.seq ?_
  refine T.text [.l] rfl ?_
  refine J.assign rfl rfl ?_
  refine J.end ?_
  refine X.then ?_
  refine T.seq ?_
  refine T.text [.l, .l] rfl ?_
  refine J.makeMap 10 rfl rfl (fun g10 hg10 => ?_)
  refine J.assign rfl rfl ?_
  refine J.end ?_
  refine X.then ?_
  refine T.seq ?_
  refine T.seq ?_
  refine T.text [.l, .l, .l] rfl ?_
  refine J.move rfl rfl ?_
  refine J.lenSl Tryz.underlying25 rfl rfl ?_
  refine J.move rfl rfl ?_
  refine J.end ?_
  refine X.then ?_
  refine T.block ?_
  refine T.loop (ι := Nat × List MapEntry) (fun ((i, es) : Nat × List MapEntry) => i ≤ ps.length ∧ MI es (ps.take i)) (fun ((i, es) : Nat × List MapEntry) => [(0, .slice A1 ps.length c1), (1, .slice A2 qs.length c2), (4, .bool false), (10, .map (some g10)), (5, .map (some g10)), (11, .slice A1 ps.length c1), (12, .int .i64 ((ps.length : Nat) : Int)), (13, .int .i64 (i : Int))]) (fun ((i, es) : Nat × List MapEntry) => [(10, ⟨none, .mp g10 (Is es), []⟩)]) (fun ((i, es) : Nat × List MapEntry) => ps.length - i) ⟨0, []⟩ ⟨Nat.zero_le _, MI.nil⟩ (by repeat (first | exact Sub.nil _ | refine Sub.cons (by first | rfl | (rw [dgs_zero]; rfl) | (rw [List.drop_length]; rfl) | (simp; done) | (congr 2; omega) | (congr 3; omega)) ?_)) (by repeat (first | exact Sub.nil _ | refine Sub.cons (by first | rfl | (rw [dgs_zero]; rfl) | (rw [List.drop_length]; rfl) | (simp; done) | (congr 2; omega) | (congr 3; omega)) ?_)) ?_
  rintro ⟨i, es⟩ ⟨hi, hmi⟩
  try dsimp only at *
  refine T.seq ?_
  refine T.text [.l] rfl ?_
  refine J.lss rfl rfl rfl rfl ?_
  refine J.end ?_
  refine X.then ?_
  refine T.seq ?_
  refine T.cond_dec rfl (fun h1 => ?_) (fun h1 => ?_)
  · have hi2 : i < ps.length := by omega
    refine T.skip ?_
    refine X.then ?_
    refine T.seq ?_
    refine T.block ?_
    refine T.seq ?_
    refine T.text [.l, .l, .l, .l] rfl ?_
    refine J.indexSlI sl25 rfl (hA1.isSome (by rw [rowC_length]; omega)) rfl (by omega) (by omega) (by first | exact Int.toNat_natCast _ | rfl) rfl ?_
    refine J.loadIN (k := .l) trivial hA1 (off_nil _) rfl agg53 ((ps.getD i default).cells) rfl (rowC_seg ps i (by omega)) rfl ?_
    refine J.alloc 7 rfl zero53 [.int .u8 0, .int .u8 0, .int .u8 0, .int .u8 0, .int .u8 0, .int .u8 0, .int .u8 0, .int .u8 0, .int .u8 0, .int .u8 0, .int .u8 0, .int .u8 0, .int .u8 0, .int .u8 0, .int .u8 0, .int .u8 0, .int .u8 0, .int .u8 0, .int .u8 0, .int .u8 0, .int .i64 0, .int .u64 0, .int .u64 0, .int .u64 0, .int .u64 0, .int .u64 0, .int .u64 0, .int .u64 0, .int .u64 0, .int .u64 0, .int .u64 0, .int .u64 0, .int .u64 0, .slice none 0 0, .slice none 0 0] rfl rfl (fun g7 hg7 => ?_)
    refine J.store 7 rfl rfl rfl rfl ((ps.getD i default).cells) rfl sz53 (Nat.le_of_ble_eq_true rfl) (by first | exact Ch.cells_one _) (Nat.zero_lt_succ _) trivial ((ps.getD i default).cells) rfl ?_
    refine J.end ?_
    refine X.then ?_
    obtain ⟨q, hval, hq, hpos⟩ := hmi.look (ps.getD i default)
    obtain ⟨lt, hkey⟩ := spot_key spotT (ps.getD i default) (hd1.get (by omega)).kd
    have hkd : ∀ c ∈ ps.take i, -9223372036854775808 ≤ c.kind ∧ c.kind ≤ 9223372036854775807 := fun c hc => (hd1.take i c hc).kd
    have hks := hmi.keys spotT hkd
    refine T.addMap 10 9000 (LookOk Tryz.prog 85 (spotV (ps.getD i default)) ((q : Nat) : Int)) rfl (hmi.lookOk spotT hkd hval) ?_
    refine T.draw2 [(9000, ⟨none, .mp g10 (LookOk Tryz.prog 85 (spotV (ps.getD i default)) ((q : Nat) : Int)), []⟩)] [(0, .g), (1, .g), (2, .q), (3, .g), (4, .q), (5, .g), (6, .q), (7, .g), (8, .s), (9, .g), (10, .l), (11, .g)] [] [(12, .l)] (by kernel_rfl) (by kernel_rfl) (by kernel_rfl) ?_ (by repeat (first | exact Sub.nil _ | refine Sub.cons (by first | rfl | (rw [dgs_zero]; rfl) | (rw [List.drop_length]; rfl) | (simp; done) | (congr 2; omega) | (congr 3; omega)) ?_))
    refine J.move rfl rfl ?_
    refine J.fieldAddr fld53_0 rfl rfl ?_
    refine J.loadN (k := .q) trivial 7 rfl rfl agg47 (ac (ps.getD i default).who) rfl rfl rfl ?_
    refine J.fieldAddr fld53_1 rfl rfl ?_
    refine J.load1 (k := .q) trivial 7 rfl rfl one3 (by first | rfl | with_reducible exact rowN_get0 _ _ _ (by omega) | with_reducible exact rowN_get1 _ _ _ (by omega) | with_reducible exact rowN_get1s _ _ _ _ (by omega) | exact rowN_get1 _ _ _ (by omega) | exact rowN_get1s _ _ _ _ (by omega) | exact rowN_get0 _ _ _ (by omega)) rfl ?_
    refine J.fieldAddr fld53_2 rfl rfl ?_
    refine J.loadN (k := .q) trivial 7 rfl rfl agg50 (wc (ps.getD i default).key) rfl rfl rfl ?_
    refine J.build rfl rfl (spotV (ps.getD i default)) (fun w => by kernel_rfl) ?_
    refine J.lookups 9000 klaw Tryz.underlying83 zeroI rfl rfl rfl hkey (fun r hr => hr) rfl ?_
    refine J.add rfl rfl rfl (by exact i64_ok _ (by have h0 := List.length_take_le i ps; omega)) ?_
    refine J.as 26 (.int .i64 ((q + 1 : Nat) : Int)) rfl (by rfl) ?_
    refine J.mapEntry 10 rfl klaw Tryz.underlying83 zeroI 9000 rfl rfl (fun _ => ⟨_, rfl, hmi.lookTouched spotT hkd hkey hval⟩) hg10 rfl rfl hkey hks rfl (fun v27 st27 es27 hto27 hbn27 => ?_)
    refine J.extract rfl rfl rfl ?_
    refine J.midS [(7, ⟨some g7, 53, ((ps.getD i default).cells)⟩), (10, ⟨none, .mp g10 (Is es27), []⟩)] (by repeat (first | exact Sub.nil _ | refine Sub.cons (by first | rfl | (rw [dgs_zero]; rfl) | (rw [List.drop_length]; rfl) | (simp; done) | (congr 2; omega) | (congr 3; omega)) ?_)) ?_ (Sub.nil _)
    obtain ⟨e27, he27, _, hst27⟩ := touched_mem hto27
    refine J.entryStore 10 rfl rfl rfl hg10 rfl rfl rfl hbn27 he27 hst27 trivial ?_
    refine J.end ?_
    refine X.inBlock (X.then ?_)
    refine T.text [.l, .l] rfl ?_
    refine J.add rfl rfl rfl (by first | exact add_nat _ 1 (by omega) | exact i64_ok _ (by omega) | exact rfl) ?_
    refine J.move rfl rfl ?_
    refine J.end ?_
    exact X.round ⟨(i + 1), (wroteE es27 st27 (.int .i64 ((q + 1 : Nat) : Int)))⟩ ⟨by show i + 1 ≤ _; omega, by rw [take_succ_getD' ps i hi2]; exact hmi.next hto27 hq⟩ (by first | omega | (dsimp only; omega)) (by repeat (first | exact Sub.nil _ | refine Sub.cons (by first | rfl | (rw [dgs_zero]; rfl) | (rw [List.drop_length]; rfl) | (simp; done) | (congr 2; omega) | (congr 3; omega)) ?_)) (by repeat (first | exact Sub.nil _ | refine Sub.cons (by first | rfl | (rw [dgs_zero]; rfl) | (rw [List.drop_length]; rfl) | (simp; done) | (congr 2; omega) | (congr 3; omega)) ?_))
  · obtain rfl : i = ps.length := by omega
    rw [List.take_length] at hmi
    refine T.exit ?_
    refine X.then_exit (X.then_exit (X.inBlock_eq (X.then ?_)))
    refine T.seq ?_
    refine T.seq ?_
    refine T.text [.l, .l, .l] rfl ?_
    refine J.move rfl rfl ?_
    refine J.lenSl Tryz.underlying25 rfl rfl ?_
    refine J.move rfl rfl ?_
    refine J.end ?_
    refine X.then ?_
    refine T.block ?_
    refine T.loop (ι := Nat) (fun (i : Nat) => i ≤ qs.length ∧ (∀ j, j < i → ¬ ∃ x ∈ ps, spotV x = spotV (qs.getD j default))) (fun (i : Nat) => [(0, .slice A1 ps.length c1), (1, .slice A2 qs.length c2), (10, .map (some g10)), (5, .map (some g10)), (11, .slice A1 ps.length c1), (12, .int .i64 ((ps.length : Nat) : Int)), (30, .slice A2 qs.length c2), (31, .int .i64 ((qs.length : Nat) : Int)), (32, .int .i64 (i : Int))]) (fun (i : Nat) => [(10, ⟨none, .mp g10 (Is es), []⟩)]) (fun (i : Nat) => qs.length - i) 0 ⟨Nat.zero_le _, fun j hj => by omega⟩ (by repeat (first | exact Sub.nil _ | refine Sub.cons (by first | rfl | (rw [dgs_zero]; rfl) | (rw [List.drop_length]; rfl) | (simp; done) | (congr 2; omega) | (congr 3; omega)) ?_)) (by repeat (first | exact Sub.nil _ | refine Sub.cons (by first | rfl | (rw [dgs_zero]; rfl) | (rw [List.drop_length]; rfl) | (simp; done) | (congr 2; omega) | (congr 3; omega)) ?_)) ?_
    rintro i ⟨hi, hno⟩
    refine T.seq ?_
    refine T.text [.l] rfl ?_
    refine J.lss rfl rfl rfl rfl ?_
    refine J.end ?_
    refine X.then ?_
    refine T.seq ?_
    refine T.cond_dec rfl (fun h2 => ?_) (fun h2 => ?_)
    · have hi2 : i < qs.length := by omega
      refine T.skip ?_
      refine X.then ?_
      refine T.seq ?_
      refine T.block ?_
      refine T.seq ?_
      refine T.text [.l, .l, .l, .l] rfl ?_
      refine J.indexSlI sl25 rfl (hA2.isSome (by rw [rowC_length]; omega)) rfl (by omega) (by omega) (by first | exact Int.toNat_natCast _ | rfl) rfl ?_
      refine J.loadIN (k := .l) trivial hA2 (off_nil _) rfl agg53 ((qs.getD i default).cells) rfl (rowC_seg qs i (by omega)) rfl ?_
      refine J.alloc 9 rfl zero53 [.int .u8 0, .int .u8 0, .int .u8 0, .int .u8 0, .int .u8 0, .int .u8 0, .int .u8 0, .int .u8 0, .int .u8 0, .int .u8 0, .int .u8 0, .int .u8 0, .int .u8 0, .int .u8 0, .int .u8 0, .int .u8 0, .int .u8 0, .int .u8 0, .int .u8 0, .int .u8 0, .int .i64 0, .int .u64 0, .int .u64 0, .int .u64 0, .int .u64 0, .int .u64 0, .int .u64 0, .int .u64 0, .int .u64 0, .int .u64 0, .int .u64 0, .int .u64 0, .int .u64 0, .slice none 0 0, .slice none 0 0] rfl rfl (fun g9 hg9 => ?_)
      refine J.store 9 rfl rfl rfl rfl ((qs.getD i default).cells) rfl sz53 (Nat.le_of_ble_eq_true rfl) (by first | exact Ch.cells_one _) (Nat.zero_lt_succ _) trivial ((qs.getD i default).cells) rfl ?_
      refine J.end ?_
      refine X.then ?_
      refine T.seq ?_
      refine T.text [.l, .l, .l, .l, .l, .l, .l, .l, .l, .l] rfl ?_
      refine J.move rfl rfl ?_
      refine J.fieldAddr fld53_0 rfl rfl ?_
      refine J.loadN (k := .l) trivial 9 rfl rfl agg47 (ac (qs.getD i default).who) rfl rfl rfl ?_
      refine J.fieldAddr fld53_1 rfl rfl ?_
      refine J.load1 (k := .l) trivial 9 rfl rfl one3 (by first | rfl | with_reducible exact rowN_get0 _ _ _ (by omega) | with_reducible exact rowN_get1 _ _ _ (by omega) | with_reducible exact rowN_get1s _ _ _ _ (by omega) | exact rowN_get1 _ _ _ (by omega) | exact rowN_get1s _ _ _ _ (by omega) | exact rowN_get0 _ _ _ (by omega)) rfl ?_
      refine J.fieldAddr fld53_2 rfl rfl ?_
      refine J.loadN (k := .l) trivial 9 rfl rfl agg50 (wc (qs.getD i default).key) rfl rfl rfl ?_
      refine J.build rfl rfl (spotV (qs.getD i default)) (fun w => by kernel_rfl) ?_
      obtain ⟨q, hval, hq, hpos⟩ := hmi.look (qs.getD i default)
      obtain ⟨lt, hkey⟩ := spot_key spotT (qs.getD i default) (hd2.get (by omega)).kd
      have hkd : ∀ c ∈ ps, -9223372036854775808 ≤ c.kind ∧ c.kind ≤ 9223372036854775807 := fun c hc => (hd1 c hc).kd
      have hks := hmi.keys spotT hkd
      refine J.lookup 10 (k := .l) trivial klaw Tryz.underlying83 zeroI rfl rfl rfl hkey (hmi.lookOk spotT hkd hval) rfl ?_
      refine J.gtr rfl rfl rfl rfl ?_
      refine J.end ?_
      refine X.then ?_
      refine T.cond_dec rfl (fun h3 => ?_) (fun h3 => ?_)
      · have hap := apart_hit hi2 hpos (by omega)
        refine T.seq ?_
        refine T.text [.l] rfl ?_
        refine J.assign rfl rfl ?_
        refine J.end ?_
        refine X.then ?_
        refine T.ret ?_
        refine X.inBlock_ret (X.then_ret (X.then_ret (X.inBlock_ret (X.then_ret ?_))))
        exact X.ret1 rfl (RV.tmp rfl) (fun w' hw' => by first | exact ⟨by rw [decide_eq_false hap], hw'.sub (Sub.nil _)⟩ | exact ⟨by rw [decide_eq_true hap], hw'.sub (Sub.nil _)⟩)
      · have hn2 : ¬ ∃ x ∈ ps, spotV x = spotV (qs.getD i default) := fun q1 => by have := hpos.2 q1; omega
        refine T.skip ?_
        refine X.inBlock (X.then ?_)
        refine T.text [.l, .l] rfl ?_
        refine J.add rfl rfl rfl (by first | exact add_nat _ 1 (by omega) | exact i64_ok _ (by omega) | exact rfl) ?_
        refine J.move rfl rfl ?_
        refine J.end ?_
        exact X.round (i + 1) ⟨by omega, lt_snoc hno hn2⟩ (by first | omega | (dsimp only; omega)) (by repeat (first | exact Sub.nil _ | refine Sub.cons (by first | rfl | (rw [dgs_zero]; rfl) | (rw [List.drop_length]; rfl) | (simp; done) | (congr 2; omega) | (congr 3; omega)) ?_)) (by repeat (first | exact Sub.nil _ | refine Sub.cons (by first | rfl | (rw [dgs_zero]; rfl) | (rw [List.drop_length]; rfl) | (simp; done) | (congr 2; omega) | (congr 3; omega)) ?_))
    · obtain rfl : i = qs.length := by omega
      have hap := apart_all hno
      refine T.exit ?_
      refine X.then_exit (X.then_exit (X.inBlock_eq (X.then ?_)))
      refine T.seq ?_
      refine T.text [.l] rfl ?_
      refine J.assign rfl rfl ?_
      refine J.end ?_
      refine X.then ?_
      refine T.ret ?_
      exact X.ret1 rfl (RV.tmp rfl) (fun w' hw' => by first | exact ⟨by rw [decide_eq_false hap], hw'.sub (Sub.nil _)⟩ | exact ⟨by rw [decide_eq_true hap], hw'.sub (Sub.nil _)⟩)
end Go.Proofs.YtlllcafedekojaaGreatDoor.Dd
set_option linter.unusedVariables false
set_option maxRecDepth 20000
namespace Go.Proofs.YtlllcafedekojaaGreatDoor.Df
open Go Go.Fw

theorem sz287 : SizeT Tryz.prog 287 32 := (by unfold SizeT; kernel_rfl)
theorem sz53 : SizeT Tryz.prog 53 35 := (by unfold SizeT; kernel_rfl)
theorem sl25 : SlT Tryz.prog 25 53 35 := ⟨Tryz.underlying25, sz53⟩
theorem sz51 : SizeT Tryz.prog 51 1 := (by unfold SizeT; kernel_rfl)
theorem fld53_5 : FldT Tryz.prog 53 5 51 33 0 := ⟨by kernel_rfl, sz51⟩
theorem one51 : OneT Tryz.prog 51 := ⟨⟨_, Tryz.underlying51, rfl⟩, by kernel_rfl⟩
theorem fld53_6 : FldT Tryz.prog 53 6 51 34 0 := ⟨by kernel_rfl, sz51⟩
theorem el5 : ElT Tryz.prog 5 1 1 (.int .u8 0) := ⟨by kernel_rfl, rfl, by decide, by decide⟩
theorem sz5 : SizeT Tryz.prog 5 1 := (by unfold SizeT; kernel_rfl)
theorem sl51 : SlT Tryz.prog 51 5 1 := ⟨Tryz.underlying51, sz5⟩
theorem one5 : OneT Tryz.prog 5 := ⟨⟨_, Tryz.underlying5, rfl⟩, by kernel_rfl⟩
theorem sz47 : SizeT Tryz.prog 47 20 := (by unfold SizeT; kernel_rfl)
theorem fld53_0 : FldT Tryz.prog 53 0 47 0 19 := ⟨by kernel_rfl, sz47⟩
theorem agg47 : AggT Tryz.prog 47 20 := ⟨⟨_, Tryz.underlying47, rfl⟩, by kernel_rfl⟩
theorem arr47 : ArrT Tryz.prog 47 20 5 1 := ⟨Tryz.underlying47, sz5⟩
theorem eqA47 : EqA Tryz.prog 47 20 := ⟨⟨5, arr47, one5, Tryz.underlying5⟩, by kernel_rfl⟩
theorem sz3 : SizeT Tryz.prog 3 1 := (by unfold SizeT; kernel_rfl)
theorem fld53_1 : FldT Tryz.prog 53 1 3 20 0 := ⟨by kernel_rfl, sz3⟩
theorem one3 : OneT Tryz.prog 3 := ⟨⟨_, Tryz.underlying3, rfl⟩, by kernel_rfl⟩
theorem sz50 : SizeT Tryz.prog 50 4 := (by unfold SizeT; kernel_rfl)
theorem fld53_2 : FldT Tryz.prog 53 2 50 21 3 := ⟨by kernel_rfl, sz50⟩
theorem agg50 : AggT Tryz.prog 50 4 := ⟨⟨_, Tryz.underlying50, rfl⟩, by kernel_rfl⟩
theorem sz48 : SizeT Tryz.prog 48 1 := (by unfold SizeT; kernel_rfl)
theorem arr50 : ArrT Tryz.prog 50 4 48 1 := ⟨Tryz.underlying50, sz48⟩
theorem one48 : OneT Tryz.prog 48 := ⟨⟨_, Tryz.underlying48, rfl⟩, by kernel_rfl⟩
theorem eqw50 : EqT Tryz.prog 50 := ⟨⟨48, arr50, one48, Tryz.underlying48⟩, by kernel_rfl⟩
theorem fld53_3 : FldT Tryz.prog 53 3 50 25 3 := ⟨by kernel_rfl, sz50⟩
theorem fld53_4 : FldT Tryz.prog 53 4 50 29 3 := ⟨by kernel_rfl, sz50⟩
theorem agg53 : AggT Tryz.prog 53 35 := ⟨⟨_, Tryz.underlying53, rfl⟩, by kernel_rfl⟩
theorem zero53 : ZeroT Tryz.prog 53 (.agg ([.int .u8 0, .int .u8 0, .int .u8 0, .int .u8 0, .int .u8 0, .int .u8 0, .int .u8 0, .int .u8 0, .int .u8 0, .int .u8 0, .int .u8 0, .int .u8 0, .int .u8 0, .int .u8 0, .int .u8 0, .int .u8 0, .int .u8 0, .int .u8 0, .int .u8 0, .int .u8 0, .int .i64 0, .int .u64 0, .int .u64 0, .int .u64 0, .int .u64 0, .int .u64 0, .int .u64 0, .int .u64 0, .int .u64 0, .int .u64 0, .int .u64 0, .int .u64 0, .int .u64 0, .slice none 0 0, .slice none 0 0]).toArray) := (by unfold ZeroT; kernel_rfl)
theorem fok39 : FnOk Tryz.prog 39 := FnOk.mk' Tryz.func39 (by kernel_rfl) rfl
theorem el53 : ElT Tryz.prog 53 35 176 (.agg ([.int .u8 0, .int .u8 0, .int .u8 0, .int .u8 0, .int .u8 0, .int .u8 0, .int .u8 0, .int .u8 0, .int .u8 0, .int .u8 0, .int .u8 0, .int .u8 0, .int .u8 0, .int .u8 0, .int .u8 0, .int .u8 0, .int .u8 0, .int .u8 0, .int .u8 0, .int .u8 0, .int .i64 0, .int .u64 0, .int .u64 0, .int .u64 0, .int .u64 0, .int .u64 0, .int .u64 0, .int .u64 0, .int .u64 0, .int .u64 0, .int .u64 0, .int .u64 0, .int .u64 0, .slice none 0 0, .slice none 0 0]).toArray) := ⟨by kernel_rfl, rfl, by decide, by decide⟩
theorem fok20 : FnOk Tryz.prog 20 := FnOk.mk' Tryz.func20 (by kernel_rfl) rfl
theorem fok48 : FnOk Tryz.prog 48 := FnOk.mk' Tryz.func48 (by kernel_rfl) rfl

theorem load (w : World) (A1 : Option Addr) (c1 : Nat) (ds : List Ch) (hA : Cs w A1 (rowC ds)) (hs : (∀ c ∈ ds, c.oc.length ≤ 1000000000000000 ∧ c.nc.length ≤ 1000000000000000)) (hl : ds.length ≤ 1000000000000000) :
    Calls Tryz.prog 22 [.slice A1 ds.length c1].toArray w fun e w' => e = .returned (.int .i64 ((loadR ds.length ds : Nat) : Int)) ∧ WS w [] [] w' := by
  refine calls_of_T [] 33 [] Tryz.func22 rfl Tryz.ntmps22 (by simp) (WS.refl _ _) ?_
  refine T.seq ?_
  refine T.text [.l] rfl ?_
  refine J.assign rfl rfl ?_
  refine J.end ?_
  refine X.then ?_
  refine T.seq ?_
  refine T.text [.l, .l, .l] rfl ?_
  refine J.move rfl rfl ?_
  refine J.lenSl Tryz.underlying25 rfl rfl ?_
  refine J.assign rfl rfl ?_
  refine J.end ?_
  refine X.then ?_
  refine T.seq ?_
  refine T.seq ?_
  refine T.text [.l] rfl ?_
  refine J.assign rfl rfl ?_
  refine J.end ?_
  refine X.then ?_
  refine T.block ?_
  refine T.loop (ι := Nat × Nat) (fun ((i, m) : Nat × Nat) => i ≤ ds.length ∧ m ≤ 3000000000000000 ∧ loadR ds.length ds = loadR m (ds.drop i)) (fun ((i, m) : Nat × Nat) => [(0, .slice A1 ds.length c1), (2, .int .i64 0), (3, .int .i64 ((m : Nat) : Int)), (4, .int .i64 ((i : Nat) : Int))]) (fun ((i, m) : Nat × Nat) => []) (fun ((i, m) : Nat × Nat) => ds.length - i) ⟨0, ds.length⟩ ⟨Nat.zero_le _, by omega, rfl⟩ (by repeat (first | exact Sub.nil _ | refine Sub.cons (by first | rfl | (rw [dgs_zero]; rfl) | (rw [List.drop_length]; rfl) | (simp; done) | (congr 2; omega) | (congr 3; omega)) ?_)) (by repeat (first | exact Sub.nil _ | refine Sub.cons (by first | rfl | (rw [dgs_zero]; rfl) | (rw [List.drop_length]; rfl) | (simp; done) | (congr 2; omega) | (congr 3; omega)) ?_)) ?_
  rintro ⟨i, m⟩ ⟨hi, hm, hR⟩
  try dsimp only at *
  refine T.seq ?_
  refine T.seq ?_
  refine T.text [.l, .l, .l, .l, .l, .l, .l, .l] rfl ?_
  refine J.move rfl rfl ?_
  refine J.move rfl rfl ?_
  refine J.lenSl Tryz.underlying25 rfl rfl ?_
  refine J.lss rfl rfl rfl rfl ?_
  refine J.move rfl rfl ?_
  refine J.split 11 rfl (fun h1 => ?_) (fun h1 => ?_)
  · skip
    refine J.yes rfl rfl ?_
    refine J.move rfl rfl ?_
    refine J.yes rfl rfl ?_
    refine J.leq rfl rfl rfl rfl ?_
    refine J.pick_t rfl rfl rfl ?_
    refine J.end ?_
    refine X.then ?_
    refine T.cond_dec rfl (fun h2 => ?_) (fun h2 => ?_)
    · have hi2 : i < ds.length := by omega
      obtain ⟨hs1, hs2⟩ := load_len hs hi2
      have hR2 := load_step hR hi2 (by omega)
      refine T.skip ?_
      refine X.then ?_
      refine T.seq ?_
      refine T.block ?_
      refine T.draw [] [(0, .g), (1, .g), (2, .g), (3, .g), (4, .g), (5, .q), (6, .g), (7, .g), (8, .g), (9, .g), (10, .g), (11, .g), (12, .q), (13, .g), (14, .g), (15, .g)] (by kernel_rfl) (by kernel_rfl) ?_ (by repeat (first | exact Sub.nil _ | refine Sub.cons (by first | rfl | (rw [dgs_zero]; rfl) | (rw [List.drop_length]; rfl) | (simp; done) | (congr 2; omega) | (congr 3; omega)) ?_))
      refine J.move rfl rfl ?_
      refine J.move rfl rfl ?_
      refine J.move rfl rfl ?_
      refine J.indexSlI sl25 rfl (hA.isSome (by rw [rowC_length]; omega)) rfl (by omega) (by omega) (by first | exact Int.toNat_natCast _ | rfl) rfl ?_
      refine J.fieldAddrI fld53_5 rfl rfl ?_
      refine J.loadI1 (k := .q) trivial hA (off_nil _) rfl one51 (by rw [rowC_cell ds i 33 (by omega) (by decide)]; rfl) rfl ?_
      refine J.lenSl Tryz.underlying51 rfl rfl ?_
      refine J.add rfl rfl rfl (by exact i64_ok _ (by omega)) ?_
      refine J.as 24 (.int .i64 ((m + (ds.getD i default).oc.length : Nat) : Int)) rfl (by congr 1) ?_
      refine J.move rfl rfl ?_
      refine J.move rfl rfl ?_
      refine J.indexSlI sl25 rfl (hA.isSome (by rw [rowC_length]; omega)) rfl (by omega) (by omega) (by first | exact Int.toNat_natCast _ | rfl) rfl ?_
      refine J.fieldAddrI fld53_6 rfl rfl ?_
      refine J.loadI1 (k := .q) trivial hA (off_nil _) rfl one51 (by rw [rowC_cell ds i 34 (by omega) (by decide)]; rfl) rfl ?_
      refine J.lenSl Tryz.underlying51 rfl rfl ?_
      refine J.add rfl rfl rfl (by exact i64_ok _ (by omega)) ?_
      refine J.as 31 (.int .i64 ((m + (ds.getD i default).oc.length + (ds.getD i default).nc.length : Nat) : Int)) rfl (by congr 1) ?_
      refine J.assign rfl rfl ?_
      refine J.end ?_
      refine X.inBlock (X.then ?_)
      refine T.text [.l, .l, .l] rfl ?_
      refine J.move rfl rfl ?_
      refine J.add rfl rfl rfl (by first | exact add_nat _ 1 (by omega) | exact i64_ok _ (by omega) | exact rfl) ?_
      refine J.assign rfl rfl ?_
      refine J.end ?_
      exact X.round ⟨(i + 1), (m + (ds.getD i default).oc.length + (ds.getD i default).nc.length)⟩ ⟨by show i + 1 ≤ _; omega, by show m + _ + _ ≤ _; omega, hR2⟩ (by first | omega | (dsimp only; omega)) (by repeat (first | exact Sub.nil _ | refine Sub.cons (by first | rfl | (rw [dgs_zero]; rfl) | (rw [List.drop_length]; rfl) | (simp; done) | (congr 2; omega) | (congr 3; omega)) ?_)) (by repeat (first | exact Sub.nil _ | refine Sub.cons (by first | rfl | (rw [dgs_zero]; rfl) | (rw [List.drop_length]; rfl) | (simp; done) | (congr 2; omega) | (congr 3; omega)) ?_))
    · have hR3 := load_end hR hi (by omega)
      refine T.exit ?_
      refine X.then_exit (X.then_exit (X.inBlock_eq (X.then ?_)))
      refine T.seq ?_
      refine T.text [.l, .l] rfl ?_
      refine J.move rfl rfl ?_
      refine J.assign rfl rfl ?_
      refine J.end ?_
      refine X.then ?_
      refine T.ret ?_
      exact X.ret1 rfl (RV.tmp rfl) (fun w' hw' => ⟨by rw [hR3], hw'.sub (Sub.nil _)⟩)
  · have hR3 := load_end hR hi (by omega)
    refine J.no rfl rfl rfl rfl ?_
    refine J.no rfl rfl rfl rfl ?_
    refine J.pick_f rfl rfl rfl ?_
    refine J.end ?_
    refine X.then ?_
    refine T.cond_false rfl ?_
    refine T.exit ?_
    refine X.then_exit (X.then_exit (X.inBlock_eq (X.then ?_)))
    refine T.seq ?_
    refine T.text [.l, .l] rfl ?_
    refine J.move rfl rfl ?_
    refine J.assign rfl rfl ?_
    refine J.end ?_
    refine X.then ?_
    refine T.ret ?_
    exact X.ret1 rfl (RV.tmp rfl) (fun w' hw' => ⟨by rw [hR3], hw'.sub (Sub.nil _)⟩)

theorem roomy (w : World) (n : Nat) (B : List (Option Nat)) (A1 : Option Addr) (c1 : Nat) (xs : List Nat) (hB : ∀ g, some g ∈ B → g < w.heap.size) (e1 : Cs w A1 (rowN .u8 xs)) (hl : xs.length ≤ 1000000000) :
    Calls Tryz.prog 39 [.slice A1 xs.length c1].toArray w fun e w' => ∃ q : RowIx, (Fit w' n B (hdOf q.id) (rowN .u8 (xs ++ mk3)) ∧ xs.length + 3 ≤ q.cap) ∧ e = .returned (.slice (hdOf q.id) xs.length q.cap) ∧ WS w [] [] w' := by
  refine calls_of_T [] 14 [] Tryz.func39 rfl Tryz.ntmps39 (by simp) (WS.refl _ _) ?_
  refine T.seq ?_
  refine T.text [.l] rfl ?_
  refine J.assign rfl rfl ?_
  refine J.end ?_
  refine X.then ?_
  refine T.seq ?_
  refine T.text [.l] rfl ?_
  refine J.assign rfl rfl ?_
  refine J.end ?_
  refine X.then ?_
  refine T.seq ?_
  refine T.addNil 3 5 ?_
  refine T.text [.l, .l, .l, .l] rfl ?_
  refine J.move rfl rfl ?_
  refine J.move rfl rfl ?_
  refine J.append (i := RowIx.nil) (cs := []) 3 rfl Tryz.underlying51 el5 rfl (RowIx.nil_ok 1) rfl rfl rfl (by rw [rowN_length, Nat.mul_one]) (fun w hw => e1.ws hw (off_nil _)) (rowN_one _ _) (by omega) (by unfold maxLen; omega) rfl xs.length (Nat.zero_add _) (rowN .u8 xs) (List.nil_append _) (fun r6 hr6 => ?_)
  refine J.assign rfl rfl ?_
  refine J.end ?_
  refine X.then ?_
  refine T.seq ?_
  refine T.text [.l, .l, .l, .l] rfl ?_
  refine J.move rfl rfl ?_
  refine J.buildSlice 8 rfl (e := 5) rfl rfl (rowN .u8 mk3) (fun w => by kernel_rfl) (fun g8 hg8 => ?_)
  refine J.append 3 rfl Tryz.underlying51 el5 rfl hr6 (by rw [rowN_length, Nat.mul_one]) rfl rfl rfl (fun w hw => (hw.blkCs (k := 8) rfl)) (rowN_one _ _) (by omega) (by unfold maxLen; omega) rfl (xs.length + 3) rfl (rowN .u8 (xs ++ mk3)) (rowN_append _ _ _).symm (fun r9 hr9 => ?_)
  have hcp9 := hr9.cap_ge
  refine J.assign rfl rfl ?_
  refine J.end ?_
  refine X.then ?_
  refine T.seq ?_
  refine T.text [.l, .l, .l, .l, .l] rfl ?_
  refine J.move rfl rfl ?_
  refine J.move rfl rfl ?_
  refine J.lenSl Tryz.underlying51 rfl rfl ?_
  refine J.sliceSl sl51 rfl optInt.none (optInt.some rfl (by omega) (by first | exact Int.toNat_natCast _ | rfl)) optInt.none (by simp) (Nat.zero_le _) (by omega) (Nat.le_refl _) rfl (by rw [slice0]) ?_
  refine J.assign rfl rfl ?_
  refine J.end ?_
  refine X.then ?_
  refine T.ret ?_
  exact X.ret1 rfl (RV.tmp rfl) (fun w' hw' => ⟨r9, ⟨fit_row hw' (j := 3) rfl (fun g h => ⟨hB g h, fun q => by cases q⟩), hcp9⟩, rfl, hw'.sub (Sub.nil _)⟩)

theorem kept (w : World) (A1 : Option Addr) (c1 : Nat) (xs : List Nat) (e1 : Cs w A1 (rowN .u8 (xs ++ mk3))) (hc : xs.length + 3 ≤ c1) (hl : xs.length ≤ 1000000000) :
    Calls Tryz.prog 48 [.slice A1 xs.length c1].toArray w fun e w' => e = .returned (.bool true) ∧ WS w [] [] w' := by
  refine calls_of_T [] 32 [] Tryz.func48 rfl Tryz.ntmps48 (by simp) (WS.refl _ _) ?_
  refine T.seq ?_
  refine T.text [.l] rfl ?_
  refine J.assign rfl rfl ?_
  refine J.end ?_
  refine X.then ?_
  refine T.seq ?_
  refine T.text [.l, .l, .l] rfl ?_
  refine J.move rfl rfl ?_
  refine J.lenSl Tryz.underlying51 rfl rfl ?_
  refine J.assign rfl rfl ?_
  refine J.end ?_
  refine X.then ?_
  refine T.seq ?_
  refine T.text [.l, .l, .l, .l, .l] rfl ?_
  refine J.move rfl rfl ?_
  refine J.move rfl rfl ?_
  refine J.add rfl rfl rfl (by exact i64_ok _ (by omega)) ?_
  refine J.as 9 (.int .i64 ((xs.length + 3 : Nat) : Int)) rfl (by congr 1) ?_
  refine J.sliceSl sl51 rfl optInt.none (optInt.some rfl (by omega) (by first | exact Int.toNat_natCast _ | rfl)) optInt.none (by simp) (Nat.zero_le _) (by omega) (Nat.le_refl _) rfl (by rw [slice0]) ?_
  refine J.assign rfl rfl ?_
  refine J.end ?_
  refine X.then ?_
  refine T.seq ?_
  refine T.text [.l, .l, .l, .l, .l, .l, .l, .l, .l, .l, .l, .l, .l, .l, .l, .l, .l, .l, .l, .l, .l, .l] rfl ?_
  refine J.move rfl rfl ?_
  refine J.move rfl rfl ?_
  refine J.indexSlI sl51 rfl (e1.isSome (by rw [rowN_length]; simp [mk3])) rfl (by omega) (by omega) (by first | exact Int.toNat_natCast _ | rfl) rfl ?_
  refine J.loadI1 (k := .l) trivial e1 (off_nil _) rfl one5 (kept_at xs 0 (by decide)) rfl ?_
  refine J.eql rfl rfl rfl (decide_eq_true rfl) ?_
  refine J.move rfl rfl ?_
  refine J.yes rfl rfl ?_
  refine J.move rfl rfl ?_
  refine J.yes rfl rfl ?_
  refine J.move rfl rfl ?_
  refine J.yes rfl rfl ?_
  refine J.add rfl rfl rfl (by exact i64_ok _ (by omega)) ?_
  refine J.as 19 (.int .i64 ((xs.length + 1 : Nat) : Int)) rfl (by congr 1) ?_
  refine J.yes rfl rfl ?_
  refine J.indexSlI sl51 rfl (e1.isSome (by rw [rowN_length]; simp [mk3])) rfl (by omega) (by omega) rfl rfl ?_
  refine J.yes rfl rfl ?_
  refine J.loadI1 (k := .l) trivial e1 (off_nil _) rfl one5 (kept_at xs 1 (by decide)) rfl ?_
  refine J.yes rfl rfl ?_
  refine J.eql rfl rfl rfl (decide_eq_true rfl) ?_
  refine J.pick_t rfl rfl rfl ?_
  refine J.move rfl rfl ?_
  refine J.yes rfl rfl ?_
  refine J.move rfl rfl ?_
  refine J.yes rfl rfl ?_
  refine J.move rfl rfl ?_
  refine J.yes rfl rfl ?_
  refine J.add rfl rfl rfl (by exact i64_ok _ (by omega)) ?_
  refine J.as 27 (.int .i64 ((xs.length + 2 : Nat) : Int)) rfl (by congr 1) ?_
  refine J.yes rfl rfl ?_
  refine J.indexSlI sl51 rfl (e1.isSome (by rw [rowN_length]; simp [mk3])) rfl (by omega) (by omega) rfl rfl ?_
  refine J.yes rfl rfl ?_
  refine J.loadI1 (k := .l) trivial e1 (off_nil _) rfl one5 (kept_at xs 2 (by decide)) rfl ?_
  refine J.yes rfl rfl ?_
  refine J.eql rfl rfl rfl (decide_eq_true rfl) ?_
  refine J.pick_t rfl rfl rfl ?_
  refine J.assign rfl rfl ?_
  refine J.end ?_
  refine X.then ?_
  refine T.ret ?_
  exact X.ret1 rfl (RV.tmp rfl) (fun w' hw' => ⟨rfl, hw'.sub (Sub.nil _)⟩)

set_option maxHeartbeats 1000000 in
theorem same (w : World) (n : Nat) (B : List (Option Nat)) (A1 A2 : Option Addr) (c1 c2 : Nat) (ps qs : List Ch) (hA1 : Cs w A1 (rowC ps)) (hd1 : AllC w n B ps) (hA2 : Cs w A2 (rowC qs)) (hd2 : AllC w n B qs) (hl1 : ps.length ≤ 1000000000000) (hl2 : qs.length ≤ 1000000000000) :
    Calls Tryz.prog 20 [.slice A1 ps.length c1, .slice A2 qs.length c2].toArray w fun e w' => e = .returned (.bool (decide (ps.map Ch.v = qs.map Ch.v))) ∧ WS w [] [] w' := by
  refine calls_of_T [] 110 [] Tryz.func20 rfl Tryz.ntmps20 (by simp) (WS.refl _ _) ?_
  refine T.seq ?_
  refine T.text [.l] rfl ?_
  refine J.assign rfl rfl ?_
  refine J.end ?_
  refine X.then ?_
  refine T.seq ?_
  refine T.seq ?_
  refine T.text [.l, .l, .l, .l, .l] rfl ?_
  refine J.move rfl rfl ?_
  refine J.lenSl Tryz.underlying25 rfl rfl ?_
  refine J.move rfl rfl ?_
  refine J.lenSl Tryz.underlying25 rfl rfl ?_
  refine J.neq rfl rfl rfl rfl ?_
  refine J.end ?_
  refine X.then ?_
  refine T.cond_dec rfl (fun h1 => ?_) (fun h1 => ?_)
  · have hap : ¬ ps.map Ch.v = qs.map Ch.v := fun q => by have := congrArg List.length q; simp at this; omega
    refine T.seq ?_
    refine T.text [.l] rfl ?_
    refine J.assign rfl rfl ?_
    refine J.end ?_
    refine X.then ?_
    refine T.ret ?_
    refine X.then_ret ?_
    exact X.ret1 rfl (RV.tmp rfl) (fun w' hw' => by first | exact ⟨by rw [decide_eq_false hap], hw'.sub (Sub.nil _)⟩ | exact ⟨by rw [decide_eq_true hap], hw'.sub (Sub.nil _)⟩ | exact ⟨by rw [decide_eq_false (fun q => hne ((same_v hll).2 q i hi2))], hw'.sub (Sub.nil _)⟩)
  · have hll : ps.length = qs.length := by omega
    refine T.skip ?_
    refine X.then ?_
    refine T.seq ?_
    refine T.seq ?_
    refine T.text [.l] rfl ?_
    refine J.assign rfl rfl ?_
    refine J.end ?_
    refine X.then ?_
    refine T.block ?_
    refine T.loop (ι := Nat) (fun (i : Nat) => i ≤ ps.length ∧ (∀ j, j < i → (ps.getD j default).v = (qs.getD j default).v)) (fun (i : Nat) => [(0, .slice A1 ps.length c1), (1, .slice A2 qs.length c2), (5, .int .i64 ((i : Nat) : Int))]) (fun (i : Nat) => []) (fun (i : Nat) => ps.length - i) 0 ⟨Nat.zero_le _, fun j hj => by omega⟩ (by repeat (first | exact Sub.nil _ | refine Sub.cons (by first | rfl | (rw [dgs_zero]; rfl) | (rw [List.drop_length]; rfl) | (simp; done) | (congr 2; omega) | (congr 3; omega)) ?_)) (by repeat (first | exact Sub.nil _ | refine Sub.cons (by first | rfl | (rw [dgs_zero]; rfl) | (rw [List.drop_length]; rfl) | (simp; done) | (congr 2; omega) | (congr 3; omega)) ?_)) ?_
    rintro i ⟨hi, hsm⟩
    refine T.seq ?_
    refine T.seq ?_
    refine T.text [.l, .l, .l, .l] rfl ?_
    refine J.move rfl rfl ?_
    refine J.move rfl rfl ?_
    refine J.lenSl Tryz.underlying25 rfl rfl ?_
    refine J.lss rfl rfl rfl rfl ?_
    refine J.end ?_
    refine X.then ?_
    refine T.cond_dec rfl (fun h2 => ?_) (fun h2 => ?_)
    · have hi2 : i < ps.length := by omega
      have hj2 : i < qs.length := by omega
      refine T.skip ?_
      refine X.then ?_
      refine T.seq ?_
      refine T.block ?_
      refine T.seq ?_
      refine T.draw [] [(0, .g), (1, .g), (2, .g), (3, .g), (4, .q), (5, .g), (6, .g), (7, .g), (8, .g), (9, .q), (10, .g), (11, .g), (12, .g), (13, .g), (14, .g), (15, .g), (16, .q), (17, .g), (18, .g), (19, .g), (20, .g), (21, .q), (22, .g), (23, .g), (24, .g), (25, .g), (26, .g), (27, .g), (28, .g), (29, .q), (30, .g), (31, .g), (32, .g), (33, .g), (34, .q), (35, .g), (36, .g), (37, .g), (38, .g), (39, .g), (40, .g), (41, .g), (42, .q), (43, .g), (44, .g), (45, .g), (46, .g), (47, .q), (48, .g), (49, .g), (50, .g), (51, .g), (52, .g), (53, .g), (54, .g), (55, .q), (56, .g), (57, .g), (58, .g), (59, .g), (60, .q), (61, .g), (62, .g), (63, .g), (64, .g), (65, .g), (66, .g), (67, .g), (68, .q), (69, .q), (70, .g), (71, .g), (72, .g), (73, .g), (74, .q), (75, .q), (76, .g), (77, .g), (78, .g), (79, .g), (80, .g), (81, .g), (82, .g), (83, .q), (84, .q), (85, .g), (86, .g), (87, .g), (88, .g), (89, .q), (90, .q), (91, .g), (92, .g)] (by kernel_rfl) (by kernel_rfl) ?_ (by repeat (first | exact Sub.nil _ | refine Sub.cons (by first | rfl | (rw [dgs_zero]; rfl) | (rw [List.drop_length]; rfl) | (simp; done) | (congr 2; omega) | (congr 3; omega)) ?_))
      refine J.move rfl rfl ?_
      refine J.move rfl rfl ?_
      refine J.indexSlI sl25 rfl (hA1.isSome (by rw [rowC_length]; omega)) rfl (by omega) (by omega) (by first | exact Int.toNat_natCast _ | rfl) rfl ?_
      refine J.fieldAddrI fld53_0 rfl rfl ?_
      refine J.loadIN (k := .q) trivial hA1 (off_nil _) rfl agg47 (ac (ps.getD i default).who) rfl (by rw [rowC_sub ps i 0 20 (by omega) (by decide)]; rfl) rfl ?_
      refine J.move rfl rfl ?_
      refine J.move rfl rfl ?_
      refine J.indexSlI sl25 rfl (hA2.isSome (by rw [rowC_length]; omega)) rfl (by omega) (by omega) (by first | exact Int.toNat_natCast _ | rfl) rfl ?_
      refine J.fieldAddrI fld53_0 rfl rfl ?_
      refine J.loadIN (k := .q) trivial hA2 (off_nil _) rfl agg47 (ac (qs.getD i default).who) rfl (by rw [rowC_sub qs i 0 20 (by omega) (by decide)]; rfl) rfl ?_
      refine J.neqA eqA47 rfl rfl (by rfl) (by rfl) rfl ?_
      refine J.move rfl rfl ?_
      refine J.split 28 rfl (fun h3 => ?_) (fun h3 => ?_)
      · have hne : ¬ (ps.getD i default).v = (qs.getD i default).v := fun q => h3 (adL_inj.2 (congrArg CV.who q))
        refine J.no rfl rfl rfl rfl ?_
        refine J.no rfl rfl rfl rfl ?_
        refine J.no rfl rfl rfl rfl ?_
        refine J.no rfl rfl rfl rfl ?_
        refine J.no rfl rfl rfl rfl ?_
        refine J.no rfl rfl rfl rfl ?_
        refine J.no rfl rfl rfl rfl ?_
        refine J.no rfl rfl rfl rfl ?_
        refine J.no rfl rfl rfl rfl ?_
        refine J.no rfl rfl rfl rfl ?_
        refine J.no rfl rfl rfl rfl ?_
        refine J.pick_t rfl rfl rfl ?_
        refine J.move rfl rfl ?_
        refine J.no rfl rfl rfl rfl ?_
        refine J.no rfl rfl rfl rfl ?_
        refine J.no rfl rfl rfl rfl ?_
        refine J.no rfl rfl rfl rfl ?_
        refine J.no rfl rfl rfl rfl ?_
        refine J.no rfl rfl rfl rfl ?_
        refine J.no rfl rfl rfl rfl ?_
        refine J.no rfl rfl rfl rfl ?_
        refine J.no rfl rfl rfl rfl ?_
        refine J.no rfl rfl rfl rfl ?_
        refine J.no rfl rfl rfl rfl ?_
        refine J.pick_t rfl rfl rfl ?_
        refine J.move rfl rfl ?_
        refine J.no rfl rfl rfl rfl ?_
        refine J.no rfl rfl rfl rfl ?_
        refine J.no rfl rfl rfl rfl ?_
        refine J.no rfl rfl rfl rfl ?_
        refine J.no rfl rfl rfl rfl ?_
        refine J.no rfl rfl rfl rfl ?_
        refine J.no rfl rfl rfl rfl ?_
        refine J.no rfl rfl rfl rfl ?_
        refine J.no rfl rfl rfl rfl ?_
        refine J.no rfl rfl rfl rfl ?_
        refine J.no rfl rfl rfl rfl ?_
        refine J.pick_t rfl rfl rfl ?_
        refine J.move rfl rfl ?_
        refine J.no rfl rfl rfl rfl ?_
        refine J.no rfl rfl rfl rfl ?_
        refine J.no rfl rfl rfl rfl ?_
        refine J.no rfl rfl rfl rfl ?_
        refine J.no rfl rfl rfl rfl ?_
        refine J.no rfl rfl rfl rfl ?_
        refine J.no rfl rfl rfl rfl ?_
        refine J.no rfl rfl rfl rfl ?_
        refine J.no rfl rfl rfl rfl ?_
        refine J.no rfl rfl rfl rfl ?_
        refine J.no rfl rfl rfl rfl ?_
        refine J.pick_t rfl rfl rfl ?_
        refine J.move rfl rfl ?_
        refine J.no rfl rfl rfl rfl ?_
        refine J.no rfl rfl rfl rfl ?_
        refine J.no rfl rfl rfl rfl ?_
        refine J.no rfl rfl rfl rfl ?_
        refine J.no rfl rfl rfl rfl ?_
        refine J.no rfl rfl rfl rfl ?_
        refine J.no rfl rfl rfl rfl ?_
        refine J.no rfl rfl rfl rfl ?_
        refine J.no rfl rfl rfl rfl ?_
        refine J.no rfl rfl rfl rfl ?_
        refine J.no rfl rfl rfl rfl ?_
        refine J.no rfl rfl rfl rfl ?_
        refine J.no rfl rfl rfl rfl ?_
        refine J.pick_t rfl rfl rfl ?_
        refine J.move rfl rfl ?_
        refine J.no rfl rfl rfl rfl ?_
        refine J.no rfl rfl rfl rfl ?_
        refine J.no rfl rfl rfl rfl ?_
        refine J.no rfl rfl rfl rfl ?_
        refine J.no rfl rfl rfl rfl ?_
        refine J.no rfl rfl rfl rfl ?_
        refine J.no rfl rfl rfl rfl ?_
        refine J.no rfl rfl rfl rfl ?_
        refine J.no rfl rfl rfl rfl ?_
        refine J.no rfl rfl rfl rfl ?_
        refine J.no rfl rfl rfl rfl ?_
        refine J.no rfl rfl rfl rfl ?_
        refine J.no rfl rfl rfl rfl ?_
        refine J.pick_t rfl rfl rfl ?_
        refine J.end ?_
        refine X.then ?_
        refine T.cond_true rfl ?_
        refine T.seq ?_
        refine T.text [.l] rfl ?_
        refine J.assign rfl rfl ?_
        refine J.end ?_
        refine X.then ?_
        refine T.ret ?_
        refine X.inBlock_ret (X.then_ret (X.then_ret (X.inBlock_ret (X.then_ret ?_))))
        exact X.ret1 rfl (RV.tmp rfl) (fun w' hw' => by first | exact ⟨by rw [decide_eq_false hap], hw'.sub (Sub.nil _)⟩ | exact ⟨by rw [decide_eq_true hap], hw'.sub (Sub.nil _)⟩ | exact ⟨by rw [decide_eq_false (fun q => hne ((same_v hll).2 q i hi2))], hw'.sub (Sub.nil _)⟩)
      · have hq1 := Decidable.not_not.1 h3
        refine J.yes rfl rfl ?_
        refine J.move rfl rfl ?_
        refine J.yes rfl rfl ?_
        refine J.move rfl rfl ?_
        refine J.yes rfl rfl ?_
        refine J.indexSlI sl25 rfl (hA1.isSome (by rw [rowC_length]; omega)) rfl (by omega) (by omega) (by first | exact Int.toNat_natCast _ | rfl) rfl ?_
        refine J.yes rfl rfl ?_
        refine J.fieldAddrI fld53_1 rfl rfl ?_
        refine J.yes rfl rfl ?_
        refine J.loadI1 (k := .q) trivial hA1 (off_nil _) rfl one3 (by rw [rowC_cell ps i 20 (by omega) (by decide)]; rfl) rfl ?_
        refine J.yes rfl rfl ?_
        refine J.move rfl rfl ?_
        refine J.yes rfl rfl ?_
        refine J.move rfl rfl ?_
        refine J.yes rfl rfl ?_
        refine J.indexSlI sl25 rfl (hA2.isSome (by rw [rowC_length]; omega)) rfl (by omega) (by omega) (by first | exact Int.toNat_natCast _ | rfl) rfl ?_
        refine J.yes rfl rfl ?_
        refine J.fieldAddrI fld53_1 rfl rfl ?_
        refine J.yes rfl rfl ?_
        refine J.loadI1 (k := .q) trivial hA2 (off_nil _) rfl one3 (by rw [rowC_cell qs i 20 (by omega) (by decide)]; rfl) rfl ?_
        refine J.yes rfl rfl ?_
        refine J.neq rfl rfl rfl rfl ?_
        refine J.pick_f rfl rfl rfl ?_
        refine J.move rfl rfl ?_
        refine J.split 41 rfl (fun h4 => ?_) (fun h4 => ?_)
        · have hne : ¬ (ps.getD i default).v = (qs.getD i default).v := fun q => h4 (congrArg CV.kind q)
          refine J.no rfl rfl rfl rfl ?_
          refine J.no rfl rfl rfl rfl ?_
          refine J.no rfl rfl rfl rfl ?_
          refine J.no rfl rfl rfl rfl ?_
          refine J.no rfl rfl rfl rfl ?_
          refine J.no rfl rfl rfl rfl ?_
          refine J.no rfl rfl rfl rfl ?_
          refine J.no rfl rfl rfl rfl ?_
          refine J.no rfl rfl rfl rfl ?_
          refine J.no rfl rfl rfl rfl ?_
          refine J.no rfl rfl rfl rfl ?_
          refine J.pick_t rfl rfl rfl ?_
          refine J.move rfl rfl ?_
          refine J.no rfl rfl rfl rfl ?_
          refine J.no rfl rfl rfl rfl ?_
          refine J.no rfl rfl rfl rfl ?_
          refine J.no rfl rfl rfl rfl ?_
          refine J.no rfl rfl rfl rfl ?_
          refine J.no rfl rfl rfl rfl ?_
          refine J.no rfl rfl rfl rfl ?_
          refine J.no rfl rfl rfl rfl ?_
          refine J.no rfl rfl rfl rfl ?_
          refine J.no rfl rfl rfl rfl ?_
          refine J.no rfl rfl rfl rfl ?_
          refine J.pick_t rfl rfl rfl ?_
          refine J.move rfl rfl ?_
          refine J.no rfl rfl rfl rfl ?_
          refine J.no rfl rfl rfl rfl ?_
          refine J.no rfl rfl rfl rfl ?_
          refine J.no rfl rfl rfl rfl ?_
          refine J.no rfl rfl rfl rfl ?_
          refine J.no rfl rfl rfl rfl ?_
          refine J.no rfl rfl rfl rfl ?_
          refine J.no rfl rfl rfl rfl ?_
          refine J.no rfl rfl rfl rfl ?_
          refine J.no rfl rfl rfl rfl ?_
          refine J.no rfl rfl rfl rfl ?_
          refine J.pick_t rfl rfl rfl ?_
          refine J.move rfl rfl ?_
          refine J.no rfl rfl rfl rfl ?_
          refine J.no rfl rfl rfl rfl ?_
          refine J.no rfl rfl rfl rfl ?_
          refine J.no rfl rfl rfl rfl ?_
          refine J.no rfl rfl rfl rfl ?_
          refine J.no rfl rfl rfl rfl ?_
          refine J.no rfl rfl rfl rfl ?_
          refine J.no rfl rfl rfl rfl ?_
          refine J.no rfl rfl rfl rfl ?_
          refine J.no rfl rfl rfl rfl ?_
          refine J.no rfl rfl rfl rfl ?_
          refine J.no rfl rfl rfl rfl ?_
          refine J.no rfl rfl rfl rfl ?_
          refine J.pick_t rfl rfl rfl ?_
          refine J.move rfl rfl ?_
          refine J.no rfl rfl rfl rfl ?_
          refine J.no rfl rfl rfl rfl ?_
          refine J.no rfl rfl rfl rfl ?_
          refine J.no rfl rfl rfl rfl ?_
          refine J.no rfl rfl rfl rfl ?_
          refine J.no rfl rfl rfl rfl ?_
          refine J.no rfl rfl rfl rfl ?_
          refine J.no rfl rfl rfl rfl ?_
          refine J.no rfl rfl rfl rfl ?_
          refine J.no rfl rfl rfl rfl ?_
          refine J.no rfl rfl rfl rfl ?_
          refine J.no rfl rfl rfl rfl ?_
          refine J.no rfl rfl rfl rfl ?_
          refine J.pick_t rfl rfl rfl ?_
          refine J.end ?_
          refine X.then ?_
          refine T.cond_true rfl ?_
          refine T.seq ?_
          refine T.text [.l] rfl ?_
          refine J.assign rfl rfl ?_
          refine J.end ?_
          refine X.then ?_
          refine T.ret ?_
          refine X.inBlock_ret (X.then_ret (X.then_ret (X.inBlock_ret (X.then_ret ?_))))
          exact X.ret1 rfl (RV.tmp rfl) (fun w' hw' => by first | exact ⟨by rw [decide_eq_false hap], hw'.sub (Sub.nil _)⟩ | exact ⟨by rw [decide_eq_true hap], hw'.sub (Sub.nil _)⟩ | exact ⟨by rw [decide_eq_false (fun q => hne ((same_v hll).2 q i hi2))], hw'.sub (Sub.nil _)⟩)
        · have hq2 := Decidable.not_not.1 h4
          refine J.yes rfl rfl ?_
          refine J.move rfl rfl ?_
          refine J.yes rfl rfl ?_
          refine J.move rfl rfl ?_
          refine J.yes rfl rfl ?_
          refine J.indexSlI sl25 rfl (hA1.isSome (by rw [rowC_length]; omega)) rfl (by omega) (by omega) (by first | exact Int.toNat_natCast _ | rfl) rfl ?_
          refine J.yes rfl rfl ?_
          refine J.fieldAddrI fld53_2 rfl rfl ?_
          refine J.yes rfl rfl ?_
          refine J.loadIN (k := .q) trivial hA1 (off_nil _) rfl agg50 (wc (ps.getD i default).key) rfl (by rw [rowC_sub ps i 21 4 (by omega) (by decide)]; rfl) rfl ?_
          refine J.yes rfl rfl ?_
          refine J.move rfl rfl ?_
          refine J.yes rfl rfl ?_
          refine J.move rfl rfl ?_
          refine J.yes rfl rfl ?_
          refine J.indexSlI sl25 rfl (hA2.isSome (by rw [rowC_length]; omega)) rfl (by omega) (by omega) (by first | exact Int.toNat_natCast _ | rfl) rfl ?_
          refine J.yes rfl rfl ?_
          refine J.fieldAddrI fld53_2 rfl rfl ?_
          refine J.yes rfl rfl ?_
          refine J.loadIN (k := .q) trivial hA2 (off_nil _) rfl agg50 (wc (qs.getD i default).key) rfl (by rw [rowC_sub qs i 21 4 (by omega) (by decide)]; rfl) rfl ?_
          refine J.yes rfl rfl ?_
          refine J.neqW eqw50 rfl rfl rfl ?_
          refine J.pick_f rfl rfl rfl ?_
          refine J.move rfl rfl ?_
          refine J.split 54 rfl (fun h5 => ?_) (fun h5 => ?_)
          · have hne : ¬ (ps.getD i default).v = (qs.getD i default).v := fun q => h5 (congrArg CV.key q)
            refine J.no rfl rfl rfl rfl ?_
            refine J.no rfl rfl rfl rfl ?_
            refine J.no rfl rfl rfl rfl ?_
            refine J.no rfl rfl rfl rfl ?_
            refine J.no rfl rfl rfl rfl ?_
            refine J.no rfl rfl rfl rfl ?_
            refine J.no rfl rfl rfl rfl ?_
            refine J.no rfl rfl rfl rfl ?_
            refine J.no rfl rfl rfl rfl ?_
            refine J.no rfl rfl rfl rfl ?_
            refine J.no rfl rfl rfl rfl ?_
            refine J.pick_t rfl rfl rfl ?_
            refine J.move rfl rfl ?_
            refine J.no rfl rfl rfl rfl ?_
            refine J.no rfl rfl rfl rfl ?_
            refine J.no rfl rfl rfl rfl ?_
            refine J.no rfl rfl rfl rfl ?_
            refine J.no rfl rfl rfl rfl ?_
            refine J.no rfl rfl rfl rfl ?_
            refine J.no rfl rfl rfl rfl ?_
            refine J.no rfl rfl rfl rfl ?_
            refine J.no rfl rfl rfl rfl ?_
            refine J.no rfl rfl rfl rfl ?_
            refine J.no rfl rfl rfl rfl ?_
            refine J.pick_t rfl rfl rfl ?_
            refine J.move rfl rfl ?_
            refine J.no rfl rfl rfl rfl ?_
            refine J.no rfl rfl rfl rfl ?_
            refine J.no rfl rfl rfl rfl ?_
            refine J.no rfl rfl rfl rfl ?_
            refine J.no rfl rfl rfl rfl ?_
            refine J.no rfl rfl rfl rfl ?_
            refine J.no rfl rfl rfl rfl ?_
            refine J.no rfl rfl rfl rfl ?_
            refine J.no rfl rfl rfl rfl ?_
            refine J.no rfl rfl rfl rfl ?_
            refine J.no rfl rfl rfl rfl ?_
            refine J.no rfl rfl rfl rfl ?_
            refine J.no rfl rfl rfl rfl ?_
            refine J.pick_t rfl rfl rfl ?_
            refine J.move rfl rfl ?_
            refine J.no rfl rfl rfl rfl ?_
            refine J.no rfl rfl rfl rfl ?_
            refine J.no rfl rfl rfl rfl ?_
            refine J.no rfl rfl rfl rfl ?_
            refine J.no rfl rfl rfl rfl ?_
            refine J.no rfl rfl rfl rfl ?_
            refine J.no rfl rfl rfl rfl ?_
            refine J.no rfl rfl rfl rfl ?_
            refine J.no rfl rfl rfl rfl ?_
            refine J.no rfl rfl rfl rfl ?_
            refine J.no rfl rfl rfl rfl ?_
            refine J.no rfl rfl rfl rfl ?_
            refine J.no rfl rfl rfl rfl ?_
            refine J.pick_t rfl rfl rfl ?_
            refine J.end ?_
            refine X.then ?_
            refine T.cond_true rfl ?_
            refine T.seq ?_
            refine T.text [.l] rfl ?_
            refine J.assign rfl rfl ?_
            refine J.end ?_
            refine X.then ?_
            refine T.ret ?_
            refine X.inBlock_ret (X.then_ret (X.then_ret (X.inBlock_ret (X.then_ret ?_))))
            exact X.ret1 rfl (RV.tmp rfl) (fun w' hw' => by first | exact ⟨by rw [decide_eq_false hap], hw'.sub (Sub.nil _)⟩ | exact ⟨by rw [decide_eq_true hap], hw'.sub (Sub.nil _)⟩ | exact ⟨by rw [decide_eq_false (fun q => hne ((same_v hll).2 q i hi2))], hw'.sub (Sub.nil _)⟩)
          · have hq3 := Decidable.not_not.1 h5
            refine J.yes rfl rfl ?_
            refine J.move rfl rfl ?_
            refine J.yes rfl rfl ?_
            refine J.move rfl rfl ?_
            refine J.yes rfl rfl ?_
            refine J.indexSlI sl25 rfl (hA1.isSome (by rw [rowC_length]; omega)) rfl (by omega) (by omega) (by first | exact Int.toNat_natCast _ | rfl) rfl ?_
            refine J.yes rfl rfl ?_
            refine J.fieldAddrI fld53_3 rfl rfl ?_
            refine J.yes rfl rfl ?_
            refine J.loadIN (k := .q) trivial hA1 (off_nil _) rfl agg50 (wc (ps.getD i default).old) rfl (by rw [rowC_sub ps i 25 4 (by omega) (by decide)]; rfl) rfl ?_
            refine J.yes rfl rfl ?_
            refine J.move rfl rfl ?_
            refine J.yes rfl rfl ?_
            refine J.move rfl rfl ?_
            refine J.yes rfl rfl ?_
            refine J.indexSlI sl25 rfl (hA2.isSome (by rw [rowC_length]; omega)) rfl (by omega) (by omega) (by first | exact Int.toNat_natCast _ | rfl) rfl ?_
            refine J.yes rfl rfl ?_
            refine J.fieldAddrI fld53_3 rfl rfl ?_
            refine J.yes rfl rfl ?_
            refine J.loadIN (k := .q) trivial hA2 (off_nil _) rfl agg50 (wc (qs.getD i default).old) rfl (by rw [rowC_sub qs i 25 4 (by omega) (by decide)]; rfl) rfl ?_
            refine J.yes rfl rfl ?_
            refine J.neqW eqw50 rfl rfl rfl ?_
            refine J.pick_f rfl rfl rfl ?_
            refine J.move rfl rfl ?_
            refine J.split 67 rfl (fun h6 => ?_) (fun h6 => ?_)
            · have hne : ¬ (ps.getD i default).v = (qs.getD i default).v := fun q => h6 (congrArg CV.old q)
              refine J.no rfl rfl rfl rfl ?_
              refine J.no rfl rfl rfl rfl ?_
              refine J.no rfl rfl rfl rfl ?_
              refine J.no rfl rfl rfl rfl ?_
              refine J.no rfl rfl rfl rfl ?_
              refine J.no rfl rfl rfl rfl ?_
              refine J.no rfl rfl rfl rfl ?_
              refine J.no rfl rfl rfl rfl ?_
              refine J.no rfl rfl rfl rfl ?_
              refine J.no rfl rfl rfl rfl ?_
              refine J.no rfl rfl rfl rfl ?_
              refine J.pick_t rfl rfl rfl ?_
              refine J.move rfl rfl ?_
              refine J.no rfl rfl rfl rfl ?_
              refine J.no rfl rfl rfl rfl ?_
              refine J.no rfl rfl rfl rfl ?_
              refine J.no rfl rfl rfl rfl ?_
              refine J.no rfl rfl rfl rfl ?_
              refine J.no rfl rfl rfl rfl ?_
              refine J.no rfl rfl rfl rfl ?_
              refine J.no rfl rfl rfl rfl ?_
              refine J.no rfl rfl rfl rfl ?_
              refine J.no rfl rfl rfl rfl ?_
              refine J.no rfl rfl rfl rfl ?_
              refine J.no rfl rfl rfl rfl ?_
              refine J.no rfl rfl rfl rfl ?_
              refine J.pick_t rfl rfl rfl ?_
              refine J.move rfl rfl ?_
              refine J.no rfl rfl rfl rfl ?_
              refine J.no rfl rfl rfl rfl ?_
              refine J.no rfl rfl rfl rfl ?_
              refine J.no rfl rfl rfl rfl ?_
              refine J.no rfl rfl rfl rfl ?_
              refine J.no rfl rfl rfl rfl ?_
              refine J.no rfl rfl rfl rfl ?_
              refine J.no rfl rfl rfl rfl ?_
              refine J.no rfl rfl rfl rfl ?_
              refine J.no rfl rfl rfl rfl ?_
              refine J.no rfl rfl rfl rfl ?_
              refine J.no rfl rfl rfl rfl ?_
              refine J.no rfl rfl rfl rfl ?_
              refine J.pick_t rfl rfl rfl ?_
              refine J.end ?_
              refine X.then ?_
              refine T.cond_true rfl ?_
              refine T.seq ?_
              refine T.text [.l] rfl ?_
              refine J.assign rfl rfl ?_
              refine J.end ?_
              refine X.then ?_
              refine T.ret ?_
              refine X.inBlock_ret (X.then_ret (X.then_ret (X.inBlock_ret (X.then_ret ?_))))
              exact X.ret1 rfl (RV.tmp rfl) (fun w' hw' => by first | exact ⟨by rw [decide_eq_false hap], hw'.sub (Sub.nil _)⟩ | exact ⟨by rw [decide_eq_true hap], hw'.sub (Sub.nil _)⟩ | exact ⟨by rw [decide_eq_false (fun q => hne ((same_v hll).2 q i hi2))], hw'.sub (Sub.nil _)⟩)
            · have hq4 := Decidable.not_not.1 h6
              refine J.yes rfl rfl ?_
              refine J.move rfl rfl ?_
              refine J.yes rfl rfl ?_
              refine J.move rfl rfl ?_
              refine J.yes rfl rfl ?_
              refine J.indexSlI sl25 rfl (hA1.isSome (by rw [rowC_length]; omega)) rfl (by omega) (by omega) (by first | exact Int.toNat_natCast _ | rfl) rfl ?_
              refine J.yes rfl rfl ?_
              refine J.fieldAddrI fld53_4 rfl rfl ?_
              refine J.yes rfl rfl ?_
              refine J.loadIN (k := .q) trivial hA1 (off_nil _) rfl agg50 (wc (ps.getD i default).new) rfl (by rw [rowC_sub ps i 29 4 (by omega) (by decide)]; rfl) rfl ?_
              refine J.yes rfl rfl ?_
              refine J.move rfl rfl ?_
              refine J.yes rfl rfl ?_
              refine J.move rfl rfl ?_
              refine J.yes rfl rfl ?_
              refine J.indexSlI sl25 rfl (hA2.isSome (by rw [rowC_length]; omega)) rfl (by omega) (by omega) (by first | exact Int.toNat_natCast _ | rfl) rfl ?_
              refine J.yes rfl rfl ?_
              refine J.fieldAddrI fld53_4 rfl rfl ?_
              refine J.yes rfl rfl ?_
              refine J.loadIN (k := .q) trivial hA2 (off_nil _) rfl agg50 (wc (qs.getD i default).new) rfl (by rw [rowC_sub qs i 29 4 (by omega) (by decide)]; rfl) rfl ?_
              refine J.yes rfl rfl ?_
              refine J.neqW eqw50 rfl rfl rfl ?_
              refine J.pick_f rfl rfl rfl ?_
              refine J.move rfl rfl ?_
              refine J.split 80 rfl (fun h7 => ?_) (fun h7 => ?_)
              · have hne : ¬ (ps.getD i default).v = (qs.getD i default).v := fun q => h7 (congrArg CV.new q)
                refine J.no rfl rfl rfl rfl ?_
                refine J.no rfl rfl rfl rfl ?_
                refine J.no rfl rfl rfl rfl ?_
                refine J.no rfl rfl rfl rfl ?_
                refine J.no rfl rfl rfl rfl ?_
                refine J.no rfl rfl rfl rfl ?_
                refine J.no rfl rfl rfl rfl ?_
                refine J.no rfl rfl rfl rfl ?_
                refine J.no rfl rfl rfl rfl ?_
                refine J.no rfl rfl rfl rfl ?_
                refine J.no rfl rfl rfl rfl ?_
                refine J.no rfl rfl rfl rfl ?_
                refine J.no rfl rfl rfl rfl ?_
                refine J.pick_t rfl rfl rfl ?_
                refine J.move rfl rfl ?_
                refine J.no rfl rfl rfl rfl ?_
                refine J.no rfl rfl rfl rfl ?_
                refine J.no rfl rfl rfl rfl ?_
                refine J.no rfl rfl rfl rfl ?_
                refine J.no rfl rfl rfl rfl ?_
                refine J.no rfl rfl rfl rfl ?_
                refine J.no rfl rfl rfl rfl ?_
                refine J.no rfl rfl rfl rfl ?_
                refine J.no rfl rfl rfl rfl ?_
                refine J.no rfl rfl rfl rfl ?_
                refine J.no rfl rfl rfl rfl ?_
                refine J.no rfl rfl rfl rfl ?_
                refine J.no rfl rfl rfl rfl ?_
                refine J.pick_t rfl rfl rfl ?_
                refine J.end ?_
                refine X.then ?_
                refine T.cond_true rfl ?_
                refine T.seq ?_
                refine T.text [.l] rfl ?_
                refine J.assign rfl rfl ?_
                refine J.end ?_
                refine X.then ?_
                refine T.ret ?_
                refine X.inBlock_ret (X.then_ret (X.then_ret (X.inBlock_ret (X.then_ret ?_))))
                exact X.ret1 rfl (RV.tmp rfl) (fun w' hw' => by first | exact ⟨by rw [decide_eq_false hap], hw'.sub (Sub.nil _)⟩ | exact ⟨by rw [decide_eq_true hap], hw'.sub (Sub.nil _)⟩ | exact ⟨by rw [decide_eq_false (fun q => hne ((same_v hll).2 q i hi2))], hw'.sub (Sub.nil _)⟩)
              · have hq5 := Decidable.not_not.1 h7
                refine J.yes rfl rfl ?_
                refine J.move rfl rfl ?_
                refine J.yes rfl rfl ?_
                refine J.move rfl rfl ?_
                refine J.yes rfl rfl ?_
                refine J.indexSlI sl25 rfl (hA1.isSome (by rw [rowC_length]; omega)) rfl (by omega) (by omega) (by first | exact Int.toNat_natCast _ | rfl) rfl ?_
                refine J.yes rfl rfl ?_
                refine J.fieldAddrI fld53_5 rfl rfl ?_
                refine J.yes rfl rfl ?_
                refine J.loadI1 (k := .q) trivial hA1 (off_nil _) rfl one51 (by rw [rowC_cell ps i 33 (by omega) (by decide)]; rfl) rfl ?_
                refine J.yes rfl rfl ?_
                refine J.convBS (k := .q) trivial Tryz.underlying51 Tryz.underlying5 Tryz.underlying9 rfl ((ps.getD i default).oc) rfl (fun w hw => ((hd1.get hi2).fo.cs.ws hw (off_nil _))) rfl ?_
                refine J.yes rfl rfl ?_
                refine J.move rfl rfl ?_
                refine J.yes rfl rfl ?_
                refine J.move rfl rfl ?_
                refine J.yes rfl rfl ?_
                refine J.indexSlI sl25 rfl (hA2.isSome (by rw [rowC_length]; omega)) rfl (by omega) (by omega) (by first | exact Int.toNat_natCast _ | rfl) rfl ?_
                refine J.yes rfl rfl ?_
                refine J.fieldAddrI fld53_5 rfl rfl ?_
                refine J.yes rfl rfl ?_
                refine J.loadI1 (k := .q) trivial hA2 (off_nil _) rfl one51 (by rw [rowC_cell qs i 33 (by omega) (by decide)]; rfl) rfl ?_
                refine J.yes rfl rfl ?_
                refine J.convBS (k := .q) trivial Tryz.underlying51 Tryz.underlying5 Tryz.underlying9 rfl ((qs.getD i default).oc) rfl (fun w hw => ((hd2.get hj2).fo.cs.ws hw (off_nil _))) rfl ?_
                refine J.yes rfl rfl ?_
                refine J.neqStr (xs := (ps.getD i default).oc) (ys := (qs.getD i default).oc) rfl rfl rfl (hd1.get hi2).dO (hd2.get hj2).dO ?_
                refine J.pick_f rfl rfl rfl ?_
                refine J.move rfl rfl ?_
                refine J.split 95 rfl (fun h8 => ?_) (fun h8 => ?_)
                · have hne : ¬ (ps.getD i default).v = (qs.getD i default).v := fun q => h8 (congrArg CV.oc q)
                  refine J.no rfl rfl rfl rfl ?_
                  refine J.no rfl rfl rfl rfl ?_
                  refine J.no rfl rfl rfl rfl ?_
                  refine J.no rfl rfl rfl rfl ?_
                  refine J.no rfl rfl rfl rfl ?_
                  refine J.no rfl rfl rfl rfl ?_
                  refine J.no rfl rfl rfl rfl ?_
                  refine J.no rfl rfl rfl rfl ?_
                  refine J.no rfl rfl rfl rfl ?_
                  refine J.no rfl rfl rfl rfl ?_
                  refine J.no rfl rfl rfl rfl ?_
                  refine J.no rfl rfl rfl rfl ?_
                  refine J.no rfl rfl rfl rfl ?_
                  refine J.pick_t rfl rfl rfl ?_
                  refine J.end ?_
                  refine X.then ?_
                  refine T.cond_true rfl ?_
                  refine T.seq ?_
                  refine T.text [.l] rfl ?_
                  refine J.assign rfl rfl ?_
                  refine J.end ?_
                  refine X.then ?_
                  refine T.ret ?_
                  refine X.inBlock_ret (X.then_ret (X.then_ret (X.inBlock_ret (X.then_ret ?_))))
                  exact X.ret1 rfl (RV.tmp rfl) (fun w' hw' => by first | exact ⟨by rw [decide_eq_false hap], hw'.sub (Sub.nil _)⟩ | exact ⟨by rw [decide_eq_true hap], hw'.sub (Sub.nil _)⟩ | exact ⟨by rw [decide_eq_false (fun q => hne ((same_v hll).2 q i hi2))], hw'.sub (Sub.nil _)⟩)
                · have hq6 := Decidable.not_not.1 h8
                  refine J.yes rfl rfl ?_
                  refine J.move rfl rfl ?_
                  refine J.yes rfl rfl ?_
                  refine J.move rfl rfl ?_
                  refine J.yes rfl rfl ?_
                  refine J.indexSlI sl25 rfl (hA1.isSome (by rw [rowC_length]; omega)) rfl (by omega) (by omega) (by first | exact Int.toNat_natCast _ | rfl) rfl ?_
                  refine J.yes rfl rfl ?_
                  refine J.fieldAddrI fld53_6 rfl rfl ?_
                  refine J.yes rfl rfl ?_
                  refine J.loadI1 (k := .q) trivial hA1 (off_nil _) rfl one51 (by rw [rowC_cell ps i 34 (by omega) (by decide)]; rfl) rfl ?_
                  refine J.yes rfl rfl ?_
                  refine J.convBS (k := .q) trivial Tryz.underlying51 Tryz.underlying5 Tryz.underlying9 rfl ((ps.getD i default).nc) rfl (fun w hw => ((hd1.get hi2).fn.cs.ws hw (off_nil _))) rfl ?_
                  refine J.yes rfl rfl ?_
                  refine J.move rfl rfl ?_
                  refine J.yes rfl rfl ?_
                  refine J.move rfl rfl ?_
                  refine J.yes rfl rfl ?_
                  refine J.indexSlI sl25 rfl (hA2.isSome (by rw [rowC_length]; omega)) rfl (by omega) (by omega) (by first | exact Int.toNat_natCast _ | rfl) rfl ?_
                  refine J.yes rfl rfl ?_
                  refine J.fieldAddrI fld53_6 rfl rfl ?_
                  refine J.yes rfl rfl ?_
                  refine J.loadI1 (k := .q) trivial hA2 (off_nil _) rfl one51 (by rw [rowC_cell qs i 34 (by omega) (by decide)]; rfl) rfl ?_
                  refine J.yes rfl rfl ?_
                  refine J.convBS (k := .q) trivial Tryz.underlying51 Tryz.underlying5 Tryz.underlying9 rfl ((qs.getD i default).nc) rfl (fun w hw => ((hd2.get hj2).fn.cs.ws hw (off_nil _))) rfl ?_
                  refine J.yes rfl rfl ?_
                  refine J.neqStr (xs := (ps.getD i default).nc) (ys := (qs.getD i default).nc) rfl rfl rfl (hd1.get hi2).dN (hd2.get hj2).dN ?_
                  refine J.pick_f rfl rfl rfl ?_
                  refine J.end ?_
                  refine X.then ?_
                  refine T.cond_dec rfl (fun h9 => ?_) (fun h9 => ?_)
                  · have hne : ¬ (ps.getD i default).v = (qs.getD i default).v := fun q => (by assumption : ¬ (ps.getD i default).nc = (qs.getD i default).nc) (congrArg CV.nc q)
                    have hap : ¬ ps.map Ch.v = qs.map Ch.v := fun q => hne ((same_v hll).2 q i hi2)
                    refine T.seq ?_
                    refine T.text [.l] rfl ?_
                    refine J.assign rfl rfl ?_
                    refine J.end ?_
                    refine X.then ?_
                    refine T.ret ?_
                    refine X.inBlock_ret (X.then_ret (X.then_ret (X.inBlock_ret (X.then_ret ?_))))
                    exact X.ret1 rfl (RV.tmp rfl) (fun w' hw' => by first | exact ⟨by rw [decide_eq_false hap], hw'.sub (Sub.nil _)⟩ | exact ⟨by rw [decide_eq_true hap], hw'.sub (Sub.nil _)⟩ | exact ⟨by rw [decide_eq_false (fun q => hne ((same_v hll).2 q i hi2))], hw'.sub (Sub.nil _)⟩)
                  · have heq : (ps.getD i default).v = (qs.getD i default).v := v_ext hq1 hq2 hq3 hq4 hq5 hq6 (Decidable.not_not.1 (by assumption))
                    refine T.skip ?_
                    refine X.inBlock (X.then ?_)
                    refine T.text [.l, .l, .l] rfl ?_
                    refine J.move rfl rfl ?_
                    refine J.add rfl rfl rfl (by first | exact add_nat _ 1 (by omega) | exact i64_ok _ (by omega) | exact rfl) ?_
                    refine J.assign rfl rfl ?_
                    refine J.end ?_
                    exact X.round (i + 1) ⟨by omega, lt_snoc hsm heq⟩ (by first | omega | (dsimp only; omega)) (by repeat (first | exact Sub.nil _ | refine Sub.cons (by first | rfl | (rw [dgs_zero]; rfl) | (rw [List.drop_length]; rfl) | (simp; done) | (congr 2; omega) | (congr 3; omega)) ?_)) (by repeat (first | exact Sub.nil _ | refine Sub.cons (by first | rfl | (rw [dgs_zero]; rfl) | (rw [List.drop_length]; rfl) | (simp; done) | (congr 2; omega) | (congr 3; omega)) ?_))
    · obtain rfl : i = ps.length := by omega
      have hap := (same_v hll).1 hsm
      refine T.exit ?_
      refine X.then_exit (X.then_exit (X.inBlock_eq (X.then ?_)))
      refine T.seq ?_
      refine T.text [.l] rfl ?_
      refine J.assign rfl rfl ?_
      refine J.end ?_
      refine X.then ?_
      refine T.ret ?_
      exact X.ret1 rfl (RV.tmp rfl) (fun w' hw' => by first | exact ⟨by rw [decide_eq_false hap], hw'.sub (Sub.nil _)⟩ | exact ⟨by rw [decide_eq_true hap], hw'.sub (Sub.nil _)⟩ | exact ⟨by rw [decide_eq_false (fun q => hne ((same_v hll).2 q i hi2))], hw'.sub (Sub.nil _)⟩)

theorem lendTurns (w : World) (n : Nat) (B : List (Option Nat)) (A1 : Option Addr) (c1 : Nat) (ds : List Ch) (hn : n ≤ w.heap.size) (hB : ∀ g, some g ∈ B → g < w.heap.size) (hA : Cs w A1 (rowC ds)) (hd : AllC w n B ds) (hs : ∀ c ∈ ds, c.oc.length ≤ 262144 ∧ c.nc.length ≤ 262144) (hl : ds.length ≤ 100000000) :
    Calls Tryz.prog 23 [.slice A1 ds.length c1].toArray w fun e w' => ∃ q : List Ch × RowIx, (q.1.map Ch.v = ds.map Ch.v ∧ AllL w' n B q.1 ∧ Fit w' n B (hdOf q.2.id) (rowC (q.1 ++ [markC])) ∧ q.1.length + 1 ≤ q.2.cap) ∧ e = .returned (.slice (hdOf q.2.id) q.1.length q.2.cap) ∧ WS w [] [] w' := by
  have hs2 : ∀ {i : Nat}, i < ds.length → (ds.getD i default).oc.length ≤ 1000000000 ∧ (ds.getD i default).nc.length ≤ 1000000000 := fun hi => lend_len hs hi
  refine calls_of_T [] 42 [] Tryz.func23 rfl Tryz.ntmps23 (by simp) (WS.refl _ _) ?_
  refine T.seq ?_
  refine T.text [.l] rfl ?_
  refine J.assign rfl rfl ?_
  refine J.end ?_
  refine X.then ?_
  refine T.seq ?_
  refine T.addNil 3 53 ?_
  refine T.text [.l] rfl ?_
  refine J.assign rfl rfl ?_
  refine J.end ?_
  refine X.then ?_
  refine T.seq ?_
  refine T.seq ?_
  refine T.text [.l] rfl ?_
  refine J.assign rfl rfl ?_
  refine J.end ?_
  refine X.then ?_
  refine T.block ?_
  refine T.snap [(3, ⟨none, 53, []⟩)] (by repeat (first | exact Sub.nil _ | refine Sub.cons (by first | rfl | (rw [dgs_zero]; rfl) | (rw [List.drop_length]; rfl) | (simp; done) | (congr 2; omega) | (congr 3; omega)) ?_ | exact Sub.refl _ | refine sub_snap ?_ rfl)) rfl (fun Wl1 hWWl1 => ?_)
  have kpWl1 := (keep_base (B0 := B) (l1 := [(3, ⟨none, 53, []⟩)]) hn (fun g hg => by cases hg) hWWl1 (by repeat (first | exact Sub.nil _ | refine Sub.cons (by first | rfl | (rw [dgs_zero]; rfl) | (rw [List.drop_length]; rfl) | (simp; done) | (congr 2; omega) | (congr 3; omega)) ?_ | exact Sub.refl _ | refine sub_snap ?_ rfl)) rfl)
  have hd := hd.keep kpWl1
  have hVWl1 := hWWl1.sub (Sub.nil _)
  refine T.loop (ι := World × Nat × List Ch × RowIx) (fun ((W, i, zs, r) : World × Nat × List Ch × RowIx) => i ≤ ds.length ∧ zs.map Ch.v = (ds.take i).map Ch.v ∧ r.Ok 35 zs.length ∧ WS w [] [] W ∧ AllC W n (B ++ [r.id]) ds ∧ AllL W n (B ++ [r.id]) zs) (fun ((W, i, zs, r) : World × Nat × List Ch × RowIx) => [(0, .slice A1 ds.length c1), (2, .slice none 0 0), (4, .int .i64 ((i : Nat) : Int)), (3, r.val zs.length)]) (fun ((W, i, zs, r) : World × Nat × List Ch × RowIx) => ((3, r.ent 53 (rowC zs)) :: snapL W w.heap.size [r.id])) (fun ((W, i, zs, r) : World × Nat × List Ch × RowIx) => ds.length - i) ⟨Wl1, 0, [], RowIx.nil⟩ ⟨Nat.zero_le _, rfl, RowIx.nil_ok 35, hVWl1, hd, AllL.nil⟩ (by repeat (first | exact Sub.nil _ | refine Sub.cons (by first | rfl | (rw [dgs_zero]; rfl) | (rw [List.drop_length]; rfl) | (simp; done) | (congr 2; omega) | (congr 3; omega)) ?_ | exact Sub.refl _ | refine sub_snap ?_ rfl)) (by repeat (first | exact Sub.nil _ | refine Sub.cons (by first | rfl | (rw [dgs_zero]; rfl) | (rw [List.drop_length]; rfl) | (simp; done) | (congr 2; omega) | (congr 3; omega)) ?_ | exact Sub.refl _ | refine sub_snap ?_ rfl)) ?_
  rintro ⟨W, i, zs, r⟩ ⟨hi, hm, hr, hV, hd, hz⟩
  try dsimp only at *
  refine T.seq ?_
  refine T.seq ?_
  refine T.text [.l, .l, .l, .l] rfl ?_
  refine J.move rfl rfl ?_
  refine J.move rfl rfl ?_
  refine J.lenSl Tryz.underlying25 rfl rfl ?_
  refine J.lss rfl rfl rfl rfl ?_
  refine J.end ?_
  refine X.then ?_
  refine T.cond_dec rfl (fun h2 => ?_) (fun h2 => ?_)
  · have hi2 : i < ds.length := by omega
    refine T.skip ?_
    refine X.then ?_
    refine T.seq ?_
    refine T.block ?_
    refine T.seq ?_
    refine T.text [.l, .l, .l, .l, .l, .l] rfl ?_
    refine J.move rfl rfl ?_
    refine J.move rfl rfl ?_
    refine J.indexSlI sl25 rfl (hA.isSome (by rw [rowC_length]; omega)) rfl (by omega) (by omega) (by first | exact Int.toNat_natCast _ | rfl) rfl ?_
    refine J.loadIN (k := .l) trivial hA (off_nil _) rfl agg53 ((ds.getD i default).cells) rfl (rowC_seg ds i (by omega)) rfl ?_
    refine J.alloc 5 rfl zero53 [.int .u8 0, .int .u8 0, .int .u8 0, .int .u8 0, .int .u8 0, .int .u8 0, .int .u8 0, .int .u8 0, .int .u8 0, .int .u8 0, .int .u8 0, .int .u8 0, .int .u8 0, .int .u8 0, .int .u8 0, .int .u8 0, .int .u8 0, .int .u8 0, .int .u8 0, .int .u8 0, .int .i64 0, .int .u64 0, .int .u64 0, .int .u64 0, .int .u64 0, .int .u64 0, .int .u64 0, .int .u64 0, .int .u64 0, .int .u64 0, .int .u64 0, .int .u64 0, .int .u64 0, .slice none 0 0, .slice none 0 0] rfl rfl (fun g5 hg5 => ?_)
    refine J.store 5 rfl rfl rfl rfl ((ds.getD i default).cells) rfl sz53 (Nat.le_of_ble_eq_true rfl) (by first | exact Ch.cells_one _) (Nat.zero_lt_succ _) trivial ((ds.getD i default).cells) rfl ?_
    refine J.end ?_
    refine X.then ?_
    refine T.seq ?_
    refine T.text [.l, .l, .l, .l, .l, .l, .l, .l] rfl ?_
    refine J.move rfl rfl ?_
    refine J.move rfl rfl ?_
    refine J.indexSlI sl25 rfl (hA.isSome (by rw [rowC_length]; omega)) rfl (by omega) (by omega) (by first | exact Int.toNat_natCast _ | rfl) rfl ?_
    refine J.fieldAddrI fld53_5 rfl rfl ?_
    refine J.loadI1 (k := .l) trivial hA (off_nil _) rfl one51 (by rw [rowC_cell ds i 33 (by omega) (by decide)]; rfl) rfl ?_
    refine J.callB fok39 rfl rfl _ _ [(3, r.ent 53 (rowC zs)), (5, ⟨some g5, 53, ((ds.getD i default).cells)⟩)] (by repeat (first | exact Sub.nil _ | refine Sub.cons (by first | rfl | (rw [dgs_zero]; rfl) | (rw [List.drop_length]; rfl) | (simp; done) | (congr 2; omega) | (congr 3; omega)) ?_ | exact Sub.refl _ | refine sub_snap ?_ rfl)) rfl (fun _ _ => Sub.nil _) (fun w hw => Df.roomy w n (B ++ ids [(3, r.ent 53 (rowC zs)), (5, ⟨some g5, 53, ((ds.getD i default).cells)⟩)]) _ _ _ (busy_lt (l1 := [(3, r.ent 53 (rowC zs)), (5, ⟨some g5, 53, ((ds.getD i default).cells)⟩)]) hB hw (by repeat (first | exact Sub.nil _ | refine Sub.cons (by first | rfl | (rw [dgs_zero]; rfl) | (rw [List.drop_length]; rfl) | (simp; done) | (congr 2; omega) | (congr 3; omega)) ?_ | exact Sub.refl _ | refine sub_snap ?_ rfl)) rfl) ((hd.keep (keep_snap (I := [r.id]) (B0 := B) (l1 := [(3, r.ent 53 (rowC zs)), (5, ⟨some g5, 53, ((ds.getD i default).cells)⟩)]) hV hn (fun g hg => by cases hg) hw (by repeat (first | exact Sub.refl _ | refine sub_snap ?_ rfl)) (by repeat (first | exact Sub.nil _ | refine Sub.cons (by first | rfl | (rw [dgs_zero]; rfl) | (rw [List.drop_length]; rfl) | (simp; done) | (congr 2; omega) | (congr 3; omega)) ?_ | exact Sub.refl _ | refine sub_snap ?_ rfl)) rfl)).get (i := i) hi2).fo.cs (hs2 (i := i) hi2).1) (fun i21 W21 hP21 hW21 => ?_)
    obtain ⟨hf21, hp21⟩ := hP21
    have kpW21 := (keep_snap (I := [r.id]) (B0 := B) (l1 := [(3, r.ent 53 (rowC zs)), (5, ⟨some g5, 53, ((ds.getD i default).cells)⟩)]) hV hn (fun g hg => by cases hg) hW21 (by repeat (first | exact Sub.refl _ | refine sub_snap ?_ rfl)) (by repeat (first | exact Sub.nil _ | refine Sub.cons (by first | rfl | (rw [dgs_zero]; rfl) | (rw [List.drop_length]; rfl) | (simp; done) | (congr 2; omega) | (congr 3; omega)) ?_ | exact Sub.refl _ | refine sub_snap ?_ rfl)) rfl)
    have hd := hd.keep kpW21
    have hz := hz.keep kpW21
    have hVW21 := hW21.sub (Sub.nil _)
    refine J.fieldAddr fld53_5 rfl rfl ?_
    refine J.store 5 rfl rfl rfl rfl [_] rfl sz51 (by first | decide | exact Nat.le_refl _ | exact Nat.le_of_ble_eq_true rfl | (simp [rowN]; done) | (simp [rowN]; omega)) (by first | exact rowN_one _ _ | (simp; done) | (intro u hu; simp at hu; subst hu; rfl) | (intro u hu; simp at hu; rcases hu with rfl | rfl <;> rfl)) (by first | decide | exact Nat.zero_lt_succ _ | simp) trivial _ rfl ?_
    refine J.end ?_
    refine X.asE 5 ⟨some g5, 53, ((ds.getD i default).lent1 i21).cells⟩ rfl (by rfl) ?_
    refine X.then ?_
    refine T.seq ?_
    refine T.text [.l, .l, .l, .l, .l, .l, .l, .l] rfl ?_
    refine J.move rfl rfl ?_
    refine J.move rfl rfl ?_
    refine J.indexSlI sl25 rfl (hA.isSome (by rw [rowC_length]; omega)) rfl (by omega) (by omega) (by first | exact Int.toNat_natCast _ | rfl) rfl ?_
    refine J.fieldAddrI fld53_6 rfl rfl ?_
    refine J.loadI1 (k := .l) trivial hA (off_nil _) rfl one51 (by rw [rowC_cell ds i 34 (by omega) (by decide)]; rfl) rfl ?_
    refine J.callB fok39 rfl rfl _ _ [(3, r.ent 53 (rowC zs)), (5, ⟨some g5, 53, ((ds.getD i default).lent1 i21).cells⟩)] (by repeat (first | exact Sub.nil _ | refine Sub.cons (by first | rfl | (rw [dgs_zero]; rfl) | (rw [List.drop_length]; rfl) | (simp; done) | (congr 2; omega) | (congr 3; omega)) ?_ | exact Sub.refl _ | refine sub_snap ?_ rfl)) rfl (fun _ _ => Sub.nil _) (fun w hw => Df.roomy w n (B ++ ids [(3, r.ent 53 (rowC zs)), (5, ⟨some g5, 53, ((ds.getD i default).lent1 i21).cells⟩)]) _ _ _ (busy_lt (l1 := [(3, r.ent 53 (rowC zs)), (5, ⟨some g5, 53, ((ds.getD i default).lent1 i21).cells⟩)]) hB hw (by repeat (first | exact Sub.nil _ | refine Sub.cons (by first | rfl | (rw [dgs_zero]; rfl) | (rw [List.drop_length]; rfl) | (simp; done) | (congr 2; omega) | (congr 3; omega)) ?_ | exact Sub.refl _ | refine sub_snap ?_ rfl)) rfl) ((hd.keep (keep_snap (I := [r.id, some g5]) (B0 := B) (l1 := [(3, r.ent 53 (rowC zs)), (5, ⟨some g5, 53, ((ds.getD i default).lent1 i21).cells⟩)]) hVW21 hn (fun g hg => by cases hg) hw (by repeat (first | exact Sub.refl _ | refine sub_snap ?_ rfl)) (by repeat (first | exact Sub.nil _ | refine Sub.cons (by first | rfl | (rw [dgs_zero]; rfl) | (rw [List.drop_length]; rfl) | (simp; done) | (congr 2; omega) | (congr 3; omega)) ?_ | exact Sub.refl _ | refine sub_snap ?_ rfl)) rfl)).get (i := i) hi2).fn.cs (hs2 (i := i) hi2).2) (fun i28 W28 hP28 hW28 => ?_)
    obtain ⟨hf28, hp28⟩ := hP28
    have kpW28 := (keep_snap (I := [r.id, some g5]) (B0 := B) (l1 := [(3, r.ent 53 (rowC zs)), (5, ⟨some g5, 53, ((ds.getD i default).lent1 i21).cells⟩)]) hVW21 hn (fun g hg => by cases hg) hW28 (by repeat (first | exact Sub.refl _ | refine sub_snap ?_ rfl)) (by repeat (first | exact Sub.nil _ | refine Sub.cons (by first | rfl | (rw [dgs_zero]; rfl) | (rw [List.drop_length]; rfl) | (simp; done) | (congr 2; omega) | (congr 3; omega)) ?_ | exact Sub.refl _ | refine sub_snap ?_ rfl)) rfl)
    have hd := hd.keep kpW28
    have hz := hz.keep kpW28
    have hf21 := hf21.keep kpW28
    have hVW28 := hW28.sub (Sub.nil _)
    refine J.fieldAddr fld53_6 rfl rfl ?_
    refine J.store 5 rfl rfl rfl rfl [_] rfl sz51 (by first | decide | exact Nat.le_refl _ | exact Nat.le_of_ble_eq_true rfl | (simp [rowN]; done) | (simp [rowN]; omega)) (by first | exact rowN_one _ _ | (simp; done) | (intro u hu; simp at hu; subst hu; rfl) | (intro u hu; simp at hu; rcases hu with rfl | rfl <;> rfl)) (by first | decide | exact Nat.zero_lt_succ _ | simp) trivial _ rfl ?_
    refine J.end ?_
    refine X.asE 5 ⟨some g5, 53, ((ds.getD i default).lent i21 i28).cells⟩ rfl (by rfl) ?_
    refine X.then ?_
    refine T.text [.l, .l, .l, .l, .l] rfl ?_
    refine J.move rfl rfl ?_
    refine J.loadN (k := .l) trivial 5 rfl rfl agg53 ((ds.getD i default).lent i21 i28).cells rfl rfl rfl ?_
    refine J.lit1 32 rfl Tryz.underlying25 el53 (by decide) rfl ((ds.getD i default).lent i21 i28).cells rfl rfl rfl (fun g32 hg32 => ?_)
    refine J.append 3 rfl Tryz.underlying25 el53 rfl hr (rowC_length zs) rfl rfl rfl (fun w hw => (hw.blkCs (k := 32) rfl)) (Ch.cells_one _) (by have := congrArg List.length hm; simp at this; omega) (by have := congrArg List.length hm; simp at this; unfold maxLen; omega) rfl (zs ++ [((ds.getD i default).lent i21 i28)]).length (by rw [List.length_append]; rfl) (rowC (zs ++ [((ds.getD i default).lent i21 i28)])) (rowC_snoc _ _).symm (fun r33 hr33 => ?_)
    refine J.assign rfl rfl ?_
    refine J.end ?_
    refine X.inBlock (X.then ?_)
    refine T.text [.l, .l, .l] rfl ?_
    refine J.move rfl rfl ?_
    refine J.add rfl rfl rfl (by first | exact add_nat _ 1 (by omega) | exact i64_ok _ (by omega) | exact rfl) ?_
    refine J.assign rfl rfl ?_
    refine J.end ?_
    refine X.snap [(3, r33.ent 53 (rowC (zs ++ [((ds.getD i default).lent i21 i28)])))] (by repeat (first | exact Sub.nil _ | refine Sub.cons (by first | rfl | (rw [dgs_zero]; rfl) | (rw [List.drop_length]; rfl) | (simp; done) | (congr 2; omega) | (congr 3; omega)) ?_ | exact Sub.refl _ | refine sub_snap ?_ rfl)) rfl (fun Wx3 hWWx3 => ?_)
    have kpWx3 := (keep_snap (I := [r.id, some g5]) (B0 := B) (l1 := [(3, r33.ent 53 (rowC (zs ++ [((ds.getD i default).lent i21 i28)])))]) hVW28 hn (fun g hg => by cases hg) hWWx3 (by repeat (first | exact Sub.refl _ | refine sub_snap ?_ rfl)) (by repeat (first | exact Sub.nil _ | refine Sub.cons (by first | rfl | (rw [dgs_zero]; rfl) | (rw [List.drop_length]; rfl) | (simp; done) | (congr 2; omega) | (congr 3; omega)) ?_ | exact Sub.refl _ | refine sub_snap ?_ rfl)) rfl)
    have hd := hd.keep kpWx3
    have hz := hz.keep kpWx3
    have hf21 := hf21.keep kpWx3
    have hf28 := hf28.keep kpWx3
    have hVWx3 := hWWx3.sub (Sub.nil _)
    exact X.round ⟨Wx3, (i + 1), (zs ++ [((ds.getD i default).lent i21 i28)]), r33⟩ ⟨by show i + 1 ≤ _; omega, map_snoc_v (f := id) hm hi2 rfl, hr33, hVWx3, hd, hz.snoc (Ch.lent_ok (hd.get hi2) (hs2 hi2) hf21 hp21 hf28 hp28)⟩ (by first | omega | (dsimp only; omega)) (by repeat (first | exact Sub.nil _ | refine Sub.cons (by first | rfl | (rw [dgs_zero]; rfl) | (rw [List.drop_length]; rfl) | (simp; done) | (congr 2; omega) | (congr 3; omega)) ?_ | exact Sub.refl _ | refine sub_snap ?_ rfl)) (by repeat (first | exact Sub.nil _ | refine Sub.cons (by first | rfl | (rw [dgs_zero]; rfl) | (rw [List.drop_length]; rfl) | (simp; done) | (congr 2; omega) | (congr 3; omega)) ?_ | exact Sub.refl _ | refine sub_snap ?_ rfl))
  · obtain rfl : i = ds.length := by omega
    rw [List.take_length] at hm
    have hzl : zs.length = ds.length := by simpa using congrArg List.length hm
    refine T.exit ?_
    refine X.then_exit (X.then_exit (X.inBlock_eq (X.then ?_)))
    refine T.seq ?_
    refine T.text [.l, .l, .l, .l, .l] rfl ?_
    refine J.move rfl rfl ?_
    refine J.build rfl rfl (.agg markC.cells.toArray) (fun w => by kernel_rfl) ?_
    refine J.lit1 36 rfl Tryz.underlying25 el53 (by decide) rfl (markC.cells) rfl rfl rfl (fun g36 hg36 => ?_)
    refine J.append 3 rfl Tryz.underlying25 el53 rfl hr (rowC_length zs) rfl rfl rfl (fun w hw => (hw.blkCs (k := 36) rfl)) (Ch.cells_one _) (by have := congrArg List.length hm; simp at this; omega) (by have := congrArg List.length hm; simp at this; unfold maxLen; omega) rfl (zs ++ [markC]).length (by rw [List.length_append]; rfl) (rowC (zs ++ [markC])) (rowC_snoc _ _).symm (fun r37 hr37 => ?_)
    have hcp37 := hr37.cap_ge
    rw [List.length_append, List.length_singleton] at hcp37
    refine J.assign rfl rfl ?_
    refine J.end ?_
    refine X.then ?_
    refine T.seq ?_
    refine T.text [.l, .l, .l, .l, .l] rfl ?_
    refine J.move rfl rfl ?_
    refine J.move rfl rfl ?_
    refine J.lenSl Tryz.underlying25 rfl rfl ?_
    refine J.sliceSl sl25 rfl optInt.none (optInt.some rfl (by omega) (by first | exact Int.toNat_natCast _ | rfl)) optInt.none (by simp) (Nat.zero_le _) (by have := congrArg List.length hm; simp at this; omega) (Nat.le_refl _) rfl (by rw [slice0]) ?_
    refine J.assign rfl rfl ?_
    refine J.end ?_
    refine X.then ?_
    refine T.ret ?_
    exact X.ret1 rfl (RV.tmp rfl) (fun w' hw' => ⟨(zs, r37), ⟨hm, hz.keep (((keep_snap (I := [r.id]) (B0 := B) (l1 := []) hV hn (fun g hg => by cases hg) hw' (by repeat (first | exact Sub.refl _ | refine sub_snap ?_ rfl)) (Sub.nil _) rfl)).le (fun o h => List.mem_append_left _ h)), fit_row hw' (j := 3) rfl (fun g h => ⟨hB g h, fun q => by cases q⟩), by show zs.length + 1 ≤ _; omega⟩, by rw [hzl]; rfl, hw'.sub (Sub.nil _)⟩)

theorem stillTurns (w : World) (n : Nat) (B : List (Option Nat)) (A1 A2 : Option Addr) (c1 c2 : Nat) (ps ds : List Ch) (hn : n ≤ w.heap.size) (hA : Cs w A1 (rowC (ps ++ [markC]))) (hA1 : Cs w A1 (rowC ps)) (hd1 : AllL w n B ps) (hc1 : ps.length + 1 ≤ c1) (hA2 : Cs w A2 (rowC ds)) (hd2 : AllC w n B ds) (hv : ps.map Ch.v = ds.map Ch.v) (hl : ps.length ≤ 1000000000) :
    Calls Tryz.prog 27 [.slice A1 ps.length c1, .slice A2 ds.length c2].toArray w fun e w' => e = .returned (.bool true) ∧ WS w [] [] w' := by
  have hll : ps.length = ds.length := by simpa using congrArg List.length hv
  have hpl : (ps ++ [markC]).length = ps.length + 1 := by simp
  refine calls_of_T [] 51 [] Tryz.func27 rfl Tryz.ntmps27 (by simp) (WS.refl _ _) ?_
  refine T.seq ?_
  refine T.text [.l] rfl ?_
  refine J.assign rfl rfl ?_
  refine J.end ?_
  refine X.then ?_
  refine T.seq ?_
  refine T.text [.l, .l, .l] rfl ?_
  refine J.move rfl rfl ?_
  refine J.lenSl Tryz.underlying25 rfl rfl ?_
  refine J.assign rfl rfl ?_
  refine J.end ?_
  refine X.then ?_
  refine T.seq ?_
  refine T.seq ?_
  refine T.text [.l, .l, .l, .l] rfl ?_
  refine J.move rfl rfl ?_
  refine J.lenSl Tryz.underlying25 rfl rfl ?_
  refine J.move rfl rfl ?_
  refine J.neq rfl rfl rfl (decide_eq_false (by rw [hll]; exact fun q => q rfl)) ?_
  refine J.end ?_
  refine X.then ?_
  refine T.cond_false rfl ?_
  refine T.skip ?_
  refine X.then ?_
  refine T.seq ?_
  refine T.text [.l, .l, .l, .l, .l] rfl ?_
  refine J.move rfl rfl ?_
  refine J.move rfl rfl ?_
  refine J.add rfl rfl rfl (by exact i64_ok _ (by omega)) ?_
  refine J.as 16 (.int .i64 ((ps.length + 1 : Nat) : Int)) rfl (by rw [hll]; congr 1) ?_
  refine J.sliceSl sl25 rfl optInt.none (optInt.some rfl (by omega) (by first | exact Int.toNat_natCast _ | rfl)) optInt.none (by simp) (Nat.zero_le _) (by omega) (Nat.le_refl _) rfl (by rw [slice0]) ?_
  refine J.assign rfl rfl ?_
  refine J.end ?_
  refine X.then ?_
  refine T.seq ?_
  refine T.seq ?_
  refine T.text [.l, .l, .l, .l, .l, .l, .l, .l, .l, .l, .l, .l] rfl ?_
  refine J.move rfl rfl ?_
  refine J.move rfl rfl ?_
  refine J.indexSlI sl25 rfl (hA.isSome (by rw [rowC_length]; omega)) rfl (by omega) (by omega) (by first | exact Int.toNat_natCast _ | rfl) rfl ?_
  refine J.fieldAddrI fld53_1 rfl rfl ?_
  refine J.loadI1 (k := .l) trivial hA (off_nil _) rfl one3 (by rw [rowC_cell (ps ++ [markC]) ds.length 20 (by omega) (by decide)]; rfl) rfl ?_
  refine J.as 22 (.int .i64 771) rfl (by rw [← hll]; simp [markC, List.getD_eq_getElem?_getD]) ?_
  refine J.neq rfl rfl rfl (show decide ((771:Int) ≠ 771) = false by decide) ?_
  refine J.move rfl rfl ?_
  refine J.yes rfl rfl ?_
  refine J.move rfl rfl ?_
  refine J.yes rfl rfl ?_
  refine J.move rfl rfl ?_
  refine J.yes rfl rfl ?_
  refine J.call0 (k := .l) trivial fok20 rfl rfl (fun w hw => Df.same w n B A1 A2 c1 c2 ps ds (hA1.ws hw (off_nil _)) (hd1.ok.keep ((keep_base hn (fun g h => by cases h) hw (Sub.nil _) rfl).le (fun o h => List.mem_append_left _ h))) (hA2.ws hw (off_nil _)) (hd2.keep ((keep_base hn (fun g h => by cases h) hw (Sub.nil _) rfl).le (fun o h => List.mem_append_left _ h))) (by omega) (by omega)) ?_
  refine J.as 27 (.bool true) rfl (by rw [decide_eq_true hv]) ?_
  refine J.yes rfl rfl ?_
  refine J.not rfl rfl rfl ?_
  refine J.pick_f rfl rfl rfl ?_
  refine J.end ?_
  refine X.then ?_
  refine T.cond_false rfl ?_
  refine T.skip ?_
  refine X.then ?_
  refine T.seq ?_
  refine T.seq ?_
  refine T.text [.l] rfl ?_
  refine J.assign rfl rfl ?_
  refine J.end ?_
  refine X.then ?_
  refine T.block ?_
  refine T.loop (ι := Nat) (fun (i : Nat) => i ≤ ps.length) (fun (i : Nat) => [(0, .slice A1 ps.length c1), (1, .slice A2 ds.length c2), (8, .slice A2 ds.length c2), (9, .int .i64 ((ds.length : Nat) : Int)), (5, .int .i64 ((ds.length : Nat) : Int)), (10, .slice A1 ps.length c1), (11, .int .i64 ((ps.length : Nat) : Int)), (12, .int .i64 ((ds.length : Nat) : Int)), (13, .bool false), (14, .slice A1 ps.length c1), (15, .int .i64 ((ds.length : Nat) : Int)), (16, .int .i64 ((ps.length + 1 : Nat) : Int)), (17, .slice A1 (ps.length + 1) c1), (6, .slice A1 (ps.length + 1) c1), (18, .slice A1 (ps.length + 1) c1), (19, .int .i64 ((ds.length : Nat) : Int)), (22, .int .i64 771), (23, .bool false), (24, .bool false), (25, .slice A1 ps.length c1), (26, .slice A2 ds.length c2), (27, .bool true), (28, .bool false), (29, .bool false), (7, .int .i64 ((i : Nat) : Int))]) (fun (i : Nat) => []) (fun (i : Nat) => ps.length - i) 0 (Nat.zero_le _) (by repeat (first | exact Sub.nil _ | refine Sub.cons (by first | rfl | (rw [dgs_zero]; rfl) | (rw [List.drop_length]; rfl) | (simp; done) | (congr 2; omega) | (congr 3; omega)) ?_)) (by repeat (first | exact Sub.nil _ | refine Sub.cons (by first | rfl | (rw [dgs_zero]; rfl) | (rw [List.drop_length]; rfl) | (simp; done) | (congr 2; omega) | (congr 3; omega)) ?_)) ?_
  rintro i hi
  refine T.seq ?_
  refine T.seq ?_
  refine T.text [.l, .l, .l] rfl ?_
  refine J.move rfl rfl ?_
  refine J.move rfl rfl ?_
  refine J.lss rfl rfl rfl rfl ?_
  refine J.end ?_
  refine X.then ?_
  refine T.cond_dec rfl (fun h1 => ?_) (fun h1 => ?_)
  · have hi2 : i < ps.length := by omega
    refine T.skip ?_
    refine X.then ?_
    refine T.seq ?_
    refine T.block ?_
    refine T.seq ?_
    refine T.text [.l, .l, .l, .l, .l, .l, .l, .l, .l, .l, .l, .l, .l, .l, .l, .l] rfl ?_
    refine J.move rfl rfl ?_
    refine J.move rfl rfl ?_
    refine J.indexSlI sl25 rfl (hA1.isSome (by rw [rowC_length]; omega)) rfl (by omega) (by omega) (by first | exact Int.toNat_natCast _ | rfl) rfl ?_
    refine J.fieldAddrI fld53_5 rfl rfl ?_
    refine J.loadI1 (k := .l) trivial hA1 (off_nil _) rfl one51 (by rw [rowC_cell ps i 33 (by omega) (by decide)]; rfl) rfl ?_
    refine J.call0 (k := .l) trivial fok48 rfl rfl (fun w hw => Df.kept w _ _ (ps.getD i default).oc ((hd1.get hi2).fo.cs.ws hw (off_nil _)) (hd1.get hi2).co (hd1.get hi2).lo) ?_
    refine J.not rfl rfl rfl ?_
    refine J.move rfl rfl ?_
    refine J.yes rfl rfl ?_
    refine J.move rfl rfl ?_
    refine J.yes rfl rfl ?_
    refine J.move rfl rfl ?_
    refine J.yes rfl rfl ?_
    refine J.indexSlI sl25 rfl (hA1.isSome (by rw [rowC_length]; omega)) rfl (by omega) (by omega) (by first | exact Int.toNat_natCast _ | rfl) rfl ?_
    refine J.yes rfl rfl ?_
    refine J.fieldAddrI fld53_6 rfl rfl ?_
    refine J.yes rfl rfl ?_
    refine J.loadI1 (k := .l) trivial hA1 (off_nil _) rfl one51 (by rw [rowC_cell ps i 34 (by omega) (by decide)]; rfl) rfl ?_
    refine J.yes rfl rfl ?_
    refine J.call0 (k := .l) trivial fok48 rfl rfl (fun w hw => Df.kept w _ _ (ps.getD i default).nc ((hd1.get hi2).fn.cs.ws hw (off_nil _)) (hd1.get hi2).cn (hd1.get hi2).ln) ?_
    refine J.yes rfl rfl ?_
    refine J.not rfl rfl rfl ?_
    refine J.pick_f rfl rfl rfl ?_
    refine J.end ?_
    refine X.then ?_
    refine T.cond_false rfl ?_
    refine T.skip ?_
    refine X.inBlock (X.then ?_)
    refine T.text [.l, .l, .l] rfl ?_
    refine J.move rfl rfl ?_
    refine J.add rfl rfl rfl (by first | exact add_nat _ 1 (by omega) | exact i64_ok _ (by omega) | exact rfl) ?_
    refine J.assign rfl rfl ?_
    refine J.end ?_
    exact X.round (i + 1) (by omega) (by first | omega | (dsimp only; omega)) (by repeat (first | exact Sub.nil _ | refine Sub.cons (by first | rfl | (rw [dgs_zero]; rfl) | (rw [List.drop_length]; rfl) | (simp; done) | (congr 2; omega) | (congr 3; omega)) ?_)) (by repeat (first | exact Sub.nil _ | refine Sub.cons (by first | rfl | (rw [dgs_zero]; rfl) | (rw [List.drop_length]; rfl) | (simp; done) | (congr 2; omega) | (congr 3; omega)) ?_))
  · skip
    refine T.exit ?_
    refine X.then_exit (X.then_exit (X.inBlock_eq (X.then ?_)))
    refine T.seq ?_
    refine T.text [.l] rfl ?_
    refine J.assign rfl rfl ?_
    refine J.end ?_
    refine X.then ?_
    refine T.ret ?_
    exact X.ret1 rfl (RV.tmp rfl) (fun w' hw' => ⟨rfl, hw'.sub (Sub.nil _)⟩)
end Go.Proofs.YtlllcafedekojaaGreatDoor.Df
set_option linter.unusedVariables false
set_option maxRecDepth 20000
namespace Go.Proofs.YtlllcafedekojaaGreatDoor.Di
open Go Go.Fw

theorem sz287 : SizeT Tryz.prog 287 32 := (by unfold SizeT; kernel_rfl)
theorem sz5 : SizeT Tryz.prog 5 1 := (by unfold SizeT; kernel_rfl)
theorem arr47 : ArrT Tryz.prog 47 20 5 1 := ⟨Tryz.underlying47, sz5⟩
theorem fok40 : FnOk Tryz.prog 40 := FnOk.mk' Tryz.func40 (by kernel_rfl) rfl
theorem zero50 : ZeroT Tryz.prog 50 (.agg ([.int .u64 0, .int .u64 0, .int .u64 0, .int .u64 0]).toArray) := (by unfold ZeroT; kernel_rfl)
theorem sz50 : SizeT Tryz.prog 50 4 := (by unfold SizeT; kernel_rfl)
theorem agg50 : AggT Tryz.prog 50 4 := ⟨⟨_, Tryz.underlying50, rfl⟩, by kernel_rfl⟩
theorem sz48 : SizeT Tryz.prog 48 1 := (by unfold SizeT; kernel_rfl)
theorem fld56_1 : FldT Tryz.prog 56 1 48 20 0 := ⟨by kernel_rfl, sz48⟩
theorem one48 : OneT Tryz.prog 48 := ⟨⟨_, Tryz.underlying48, rfl⟩, by kernel_rfl⟩
theorem fld56_2 : FldT Tryz.prog 56 2 50 21 3 := ⟨by kernel_rfl, sz50⟩
theorem fok74 : FnOk Tryz.prog 74 := FnOk.mk' Tryz.func74 (by kernel_rfl) rfl
theorem sz51 : SizeT Tryz.prog 51 1 := (by unfold SizeT; kernel_rfl)
theorem fld56_3 : FldT Tryz.prog 56 3 51 25 0 := ⟨by kernel_rfl, sz51⟩
theorem one51 : OneT Tryz.prog 51 := ⟨⟨_, Tryz.underlying51, rfl⟩, by kernel_rfl⟩
theorem sz54 : SizeT Tryz.prog 54 1 := (by unfold SizeT; kernel_rfl)
theorem fld56_4 : FldT Tryz.prog 56 4 54 26 0 := ⟨by kernel_rfl, sz54⟩
theorem one54 : OneT Tryz.prog 54 := ⟨⟨_, Tryz.underlying54, rfl⟩, by kernel_rfl⟩

theorem byAddress (w : World) (a b : Nat) :
    Calls Tryz.prog 78 [.agg (ac a).toArray, .agg (ac b).toArray].toArray w fun e w' => e = .returned (.int .i64 (cmpZ (a % 256 ^ 20) (b % 256 ^ 20))) ∧ WS w [] [] w' := by
  refine calls_of_T [] 8 [] Tryz.func78 rfl Tryz.ntmps78 (by simp) (WS.refl _ _) ?_
  refine T.seq ?_
  refine T.text [.l, .l, .l] rfl ?_
  refine J.box 2 rfl rfl (ac a) rfl rfl (fun g2 hg2 => ?_)
  refine J.box 3 rfl rfl (ac b) rfl rfl (fun g3 hg3 => ?_)
  refine J.assign rfl rfl ?_
  refine J.end ?_
  refine X.then ?_
  refine T.seq ?_
  refine T.draw [] [(0, .g), (1, .g), (2, .q), (3, .g)] (by kernel_rfl) (by kernel_rfl) ?_ (by repeat (first | exact Sub.nil _ | refine Sub.cons (by first | rfl | (rw [dgs_zero]; rfl) | (rw [List.drop_length]; rfl) | (simp; done) | (congr 2; omega) | (congr 3; omega)) ?_))
  refine J.sliceArr arr47 rfl optInt.none optInt.none optInt.none (by simp) (by omega) (by omega) (by omega) rfl rfl ?_
  refine J.sliceArr arr47 rfl optInt.none optInt.none optInt.none (by simp) (by omega) (by omega) (by omega) rfl rfl ?_
  refine J.call0 (k := .q) trivial fok40 rfl rfl (fun w hw => Da.Compare w _ _ _ _ (adL a) (adL b) (hw.blkCs (k := 2) rfl) (hw.blkCs (k := 3) rfl) (adL_dg _) (adL_dg _)) ?_
  refine J.as 7 (.int .i64 (cmpZ (a % 256 ^ 20) (b % 256 ^ 20))) rfl (by rw [cmp_ad]) ?_
  refine J.assign rfl rfl ?_
  refine J.end ?_
  refine X.then ?_
  refine T.ret ?_
  exact X.ret1 rfl (RV.tmp rfl) (fun w' hw' => ⟨rfl, hw'.sub (Sub.nil _)⟩)

theorem FromUint (w : World) (n : Nat) (hn : n < 18446744073709551616) :
    Calls Tryz.prog 82 [.int .u64 (n : Int)].toArray w fun e w' => e = .returned (W n) ∧ WS w [] [] w' := by
  refine calls_of_T [] 5 [] Tryz.func82 rfl Tryz.ntmps82 (by simp) (WS.refl _ _) ?_
  refine T.seq ?_
  refine T.text [.l] rfl ?_
  refine J.alloc 2 rfl zero50 [.int .u64 0, .int .u64 0, .int .u64 0, .int .u64 0] rfl rfl (fun g2 hg2 => ?_)
  refine J.end ?_
  refine X.then ?_
  refine T.seq ?_
  refine T.text [.l, .l, .l] rfl ?_
  refine J.move rfl rfl ?_
  refine J.build rfl rfl (.agg ([.int .u64 ((n : Nat) : Int), .int .u64 0, .int .u64 0, .int .u64 0] : List Value).toArray) (fun w => by kernel_rfl) ?_
  refine J.as 4 (W (n)) rfl (W_small (by first | omega | (refine ⟨?_, ?_, ?_, ?_⟩ <;> omega))) ?_
  refine J.store 2 rfl rfl rfl rfl (wc (n)) rfl sz50 (by first | decide | exact Nat.le_refl _ | exact Nat.le_of_ble_eq_true rfl | (simp [rowN]; done) | (simp [rowN]; omega)) (by first | exact rowN_one _ _ | (simp; done) | (intro u hu; simp at hu; subst hu; rfl) | (intro u hu; simp at hu; rcases hu with rfl | rfl <;> rfl)) (by first | decide | exact Nat.zero_lt_succ _ | simp) trivial (wc (n)) rfl ?_
  refine J.end ?_
  refine X.then ?_
  refine T.ret ?_
  exact X.ret1 rfl (RV.agg 2 rfl rfl agg50 (wc (n)) (by rfl) (by rfl) rfl) (fun w' hw' => ⟨rfl, hw'.sub (Sub.nil _)⟩)

theorem look (w : World) (a : Ac) (hc : a.code.length = 0) :
    Calls Tryz.prog 79 [.agg a.cells.toArray].toArray w fun e w' => e = .returned (.tuple #[.pointer none, .int .i64 (lookZ a)]) ∧ WS w [] [] w' := by
  refine calls_of_T [] 88 [] Tryz.func79 rfl Tryz.ntmps79 (by simp) (WS.refl _ _) ?_
  refine T.seq ?_
  refine T.text [.l, .l, .l] rfl ?_
  refine J.box 1 rfl rfl (a.cells) rfl rfl (fun g1 hg1 => ?_)
  refine J.assign rfl rfl ?_
  refine J.assign rfl rfl ?_
  refine J.end ?_
  refine X.then ?_
  refine T.seq ?_
  refine T.seq ?_
  refine T.text [.l, .l, .l, .l, .l, .l, .l, .l, .l, .l, .l, .l, .l, .l] rfl ?_
  refine J.fieldAddr fld56_1 rfl rfl ?_
  refine J.load1 (k := .l) trivial 1 rfl rfl one48 (by first | rfl | with_reducible exact rowN_get0 _ _ _ (by omega) | with_reducible exact rowN_get1 _ _ _ (by omega) | with_reducible exact rowN_get1s _ _ _ _ (by omega) | exact rowN_get1 _ _ _ (by omega) | exact rowN_get1s _ _ _ _ (by omega) | exact rowN_get0 _ _ _ (by omega)) rfl ?_
  refine J.eql rfl rfl rfl rfl ?_
  refine J.move rfl rfl ?_
  refine J.split 12 rfl (fun h1 => ?_) (fun h1 => ?_)
  · skip
    refine J.yes rfl rfl ?_
    refine J.fieldAddr fld56_2 rfl rfl ?_
    refine J.yes rfl rfl ?_
    refine J.loadN (k := .l) trivial 1 rfl rfl agg50 (wc a.bal) rfl rfl rfl ?_
    refine J.yes rfl rfl ?_
    refine J.call0 (k := .l) trivial fok74 rfl rfl (fun w hw => Wa.IsZero w _) ?_
    refine J.pick_t rfl rfl rfl ?_
    refine J.move rfl rfl ?_
    refine J.split 17 rfl (fun h2 => ?_) (fun h2 => ?_)
    · skip
      refine J.yes rfl rfl ?_
      refine J.fieldAddr fld56_3 rfl rfl ?_
      refine J.yes rfl rfl ?_
      refine J.load1 (k := .l) trivial 1 rfl rfl one51 (by first | rfl | with_reducible exact rowN_get0 _ _ _ (by omega) | with_reducible exact rowN_get1 _ _ _ (by omega) | with_reducible exact rowN_get1s _ _ _ _ (by omega) | exact rowN_get1 _ _ _ (by omega) | exact rowN_get1s _ _ _ _ (by omega) | exact rowN_get0 _ _ _ (by omega)) rfl ?_
      refine J.yes rfl rfl ?_
      refine J.lenSl Tryz.underlying51 rfl rfl ?_
      refine J.yes rfl rfl ?_
      refine J.eql rfl rfl rfl rfl ?_
      refine J.pick_t rfl rfl rfl ?_
      refine J.end ?_
      refine X.then ?_
      refine T.cond_dec rfl (fun h3 => ?_) (fun h3 => ?_)
      · skip
        refine T.seq ?_
        refine T.text [.l, .l] rfl ?_
        refine J.assign rfl rfl ?_
        refine J.assign rfl rfl ?_
        refine J.end ?_
        refine X.then ?_
        refine T.ret ?_
        refine X.then_ret ?_
        exact X.ret2 rfl (RV.tmp rfl) (RV.tmp rfl) (fun w' hw' => ⟨by unfold lookZ; first | (rw [if_pos ⟨by omega, by omega⟩]; done) | (rw [if_pos ⟨by omega, by omega⟩]; rfl) | (rw [if_neg (by omega), if_pos (by omega)]; done) | (rw [if_neg (by omega), if_pos (by omega)]; rfl) | (rw [if_neg (by omega), if_neg (by omega)]; done) | (rw [if_neg (by omega), if_neg (by omega)]; rfl), hw'.sub (Sub.nil _)⟩)
      · skip
        refine T.skip ?_
        refine X.then ?_
        refine T.seq ?_
        refine T.seq ?_
        refine T.text [.l, .l, .l, .l, .l, .l, .l, .l, .l, .l] rfl ?_
        refine J.fieldAddr fld56_3 rfl rfl ?_
        refine J.load1 (k := .l) trivial 1 rfl rfl one51 (by first | rfl | with_reducible exact rowN_get0 _ _ _ (by omega) | with_reducible exact rowN_get1 _ _ _ (by omega) | with_reducible exact rowN_get1s _ _ _ _ (by omega) | exact rowN_get1 _ _ _ (by omega) | exact rowN_get1s _ _ _ _ (by omega) | exact rowN_get0 _ _ _ (by omega)) rfl ?_
        refine J.lenSl Tryz.underlying51 rfl rfl ?_
        refine J.eql rfl rfl rfl rfl ?_
        refine J.move rfl rfl ?_
        refine J.split 27 rfl (fun h4 => ?_) (fun h4 => ?_)
        · skip
          refine J.yes rfl rfl ?_
          refine J.fieldAddr fld56_4 rfl rfl ?_
          refine J.yes rfl rfl ?_
          refine J.load1 (k := .l) trivial 1 rfl rfl one54 (by first | rfl | with_reducible exact rowN_get0 _ _ _ (by omega) | with_reducible exact rowN_get1 _ _ _ (by omega) | with_reducible exact rowN_get1s _ _ _ _ (by omega) | exact rowN_get1 _ _ _ (by omega) | exact rowN_get1s _ _ _ _ (by omega) | exact rowN_get0 _ _ _ (by omega)) rfl ?_
          refine J.yes rfl rfl ?_
          refine J.lenSl Tryz.underlying54 rfl rfl ?_
          refine J.yes rfl rfl ?_
          refine J.gtr rfl rfl rfl rfl ?_
          refine J.pick_t rfl rfl rfl ?_
          refine J.end ?_
          refine X.then ?_
          refine T.cond_dec rfl (fun h5 => ?_) (fun h5 => ?_)
          · skip
            refine T.seq ?_
            refine T.text [.l, .l] rfl ?_
            refine J.assign rfl rfl ?_
            refine J.assign rfl rfl ?_
            refine J.end ?_
            refine X.then ?_
            refine T.ret ?_
            refine X.then_ret ?_
            exact X.ret2 rfl (RV.tmp rfl) (RV.tmp rfl) (fun w' hw' => ⟨by unfold lookZ; first | (rw [if_pos ⟨by omega, by omega⟩]; done) | (rw [if_pos ⟨by omega, by omega⟩]; rfl) | (rw [if_neg (by omega), if_pos (by omega)]; done) | (rw [if_neg (by omega), if_pos (by omega)]; rfl) | (rw [if_neg (by omega), if_neg (by omega)]; done) | (rw [if_neg (by omega), if_neg (by omega)]; rfl), hw'.sub (Sub.nil _)⟩)
          · skip
            refine T.skip ?_
            refine X.then ?_
            refine T.seq ?_
            refine T.seq ?_
            refine T.text [.l, .l, .l, .l] rfl ?_
            refine J.fieldAddr fld56_4 rfl rfl ?_
            refine J.load1 (k := .l) trivial 1 rfl rfl one54 (by first | rfl | with_reducible exact rowN_get0 _ _ _ (by omega) | with_reducible exact rowN_get1 _ _ _ (by omega) | with_reducible exact rowN_get1s _ _ _ _ (by omega) | exact rowN_get1 _ _ _ (by omega) | exact rowN_get1s _ _ _ _ (by omega) | exact rowN_get0 _ _ _ (by omega)) rfl ?_
            refine J.lenSl Tryz.underlying54 rfl rfl ?_
            refine J.move rfl rfl ?_
            refine J.end ?_
            refine X.then ?_
            refine T.block ?_
            refine T.loop (ι := Nat) (fun (i : Nat) => i = 0) (fun (i : Nat) => [(0, .agg a.cells.toArray), (1, .pointer (some ⟨g1, 0, none⟩)), (10, .int .u64 ((a.nonce : Nat) : Int)), (12, .bool true), (14, W a.bal), (17, .bool true), (19, .slice a.cA a.code.length a.cC), (20, .int .i64 ((a.code.length : Nat) : Int)), (24, .slice a.cA a.code.length a.cC), (25, .int .i64 ((a.code.length : Nat) : Int)), (27, .bool true), (29, .slice a.sA a.sl.length a.sC), (30, .int .i64 ((a.sl.length : Nat) : Int)), (34, .slice a.sA a.sl.length a.sC), (35, .int .i64 ((a.sl.length : Nat) : Int)), (36, .int .i64 (i : Int))]) (fun (i : Nat) => [(1, ⟨some g1, 56, (a.cells)⟩)]) (fun (i : Nat) => 0) 0 rfl (by repeat (first | exact Sub.nil _ | refine Sub.cons (by first | rfl | (rw [dgs_zero]; rfl) | (rw [List.drop_length]; rfl) | (simp; done) | (congr 2; omega) | (congr 3; omega)) ?_)) (by repeat (first | exact Sub.nil _ | refine Sub.cons (by first | rfl | (rw [dgs_zero]; rfl) | (rw [List.drop_length]; rfl) | (simp; done) | (congr 2; omega) | (congr 3; omega)) ?_)) ?_
            rintro i hi0
            refine T.seq ?_
            refine T.text [.l] rfl ?_
            refine J.lss rfl rfl rfl rfl ?_
            refine J.end ?_
            refine X.then ?_
            refine T.seq ?_
            refine T.cond_dec rfl (fun h6 => ?_) (fun h6 => ?_)
            · exact absurd h6 (by omega)
            · skip
              refine T.exit ?_
              refine X.then_exit (X.then_exit (X.inBlock_eq (X.then ?_)))
              refine T.seq ?_
              refine T.seq ?_
              refine T.text [.l, .l, .l, .l] rfl ?_
              refine J.fieldAddr fld56_4 rfl rfl ?_
              refine J.load1 (k := .l) trivial 1 rfl rfl one54 (by first | rfl | with_reducible exact rowN_get0 _ _ _ (by omega) | with_reducible exact rowN_get1 _ _ _ (by omega) | with_reducible exact rowN_get1s _ _ _ _ (by omega) | exact rowN_get1 _ _ _ (by omega) | exact rowN_get1s _ _ _ _ (by omega) | exact rowN_get0 _ _ _ (by omega)) rfl ?_
              refine J.lenSl Tryz.underlying54 rfl rfl ?_
              refine J.move rfl rfl ?_
              refine J.end ?_
              refine X.then ?_
              refine T.block ?_
              refine T.loop (ι := Nat) (fun (j : Nat) => j = 0) (fun (j : Nat) => [(0, .agg a.cells.toArray), (1, .pointer (some ⟨g1, 0, none⟩)), (10, .int .u64 ((a.nonce : Nat) : Int)), (12, .bool true), (14, W a.bal), (17, .bool true), (19, .slice a.cA a.code.length a.cC), (20, .int .i64 ((a.code.length : Nat) : Int)), (24, .slice a.cA a.code.length a.cC), (25, .int .i64 ((a.code.length : Nat) : Int)), (27, .bool true), (29, .slice a.sA a.sl.length a.sC), (30, .int .i64 ((a.sl.length : Nat) : Int)), (34, .slice a.sA a.sl.length a.sC), (35, .int .i64 ((a.sl.length : Nat) : Int)), (60, .slice a.sA a.sl.length a.sC), (61, .int .i64 ((a.sl.length : Nat) : Int)), (62, .int .i64 (j : Int))]) (fun (j : Nat) => [(1, ⟨some g1, 56, (a.cells)⟩)]) (fun (j : Nat) => 0) 0 rfl (by repeat (first | exact Sub.nil _ | refine Sub.cons (by first | rfl | (rw [dgs_zero]; rfl) | (rw [List.drop_length]; rfl) | (simp; done) | (congr 2; omega) | (congr 3; omega)) ?_)) (by repeat (first | exact Sub.nil _ | refine Sub.cons (by first | rfl | (rw [dgs_zero]; rfl) | (rw [List.drop_length]; rfl) | (simp; done) | (congr 2; omega) | (congr 3; omega)) ?_)) ?_
              rintro j hj0
              refine T.seq ?_
              refine T.text [.l] rfl ?_
              refine J.lss rfl rfl rfl rfl ?_
              refine J.end ?_
              refine X.then ?_
              refine T.seq ?_
              refine T.cond_dec rfl (fun h7 => ?_) (fun h7 => ?_)
              · exact absurd h7 (by omega)
              · skip
                refine T.exit ?_
                refine X.then_exit (X.then_exit (X.inBlock_eq (X.then ?_)))
                refine T.seq ?_
                refine T.seq ?_
                refine T.text [.l, .l, .l, .l] rfl ?_
                refine J.fieldAddr fld56_3 rfl rfl ?_
                refine J.load1 (k := .l) trivial 1 rfl rfl one51 (by first | rfl | with_reducible exact rowN_get0 _ _ _ (by omega) | with_reducible exact rowN_get1 _ _ _ (by omega) | with_reducible exact rowN_get1s _ _ _ _ (by omega) | exact rowN_get1 _ _ _ (by omega) | exact rowN_get1s _ _ _ _ (by omega) | exact rowN_get0 _ _ _ (by omega)) rfl ?_
                refine J.lenSl Tryz.underlying51 rfl rfl ?_
                refine J.eql rfl rfl rfl rfl ?_
                refine J.end ?_
                refine X.then ?_
                refine T.cond_dec rfl (fun h8 => ?_) (fun h8 => ?_)
                · skip
                  refine T.seq ?_
                  refine T.text [.l, .l] rfl ?_
                  refine J.assign rfl rfl ?_
                  refine J.assign rfl rfl ?_
                  refine J.end ?_
                  refine X.then ?_
                  refine T.ret ?_
                  refine X.then_ret ?_
                  exact X.ret2 rfl (RV.tmp rfl) (RV.tmp rfl) (fun w' hw' => ⟨by unfold lookZ; first | (rw [if_pos ⟨by omega, by omega⟩]; done) | (rw [if_pos ⟨by omega, by omega⟩]; rfl) | (rw [if_neg (by omega), if_pos (by omega)]; done) | (rw [if_neg (by omega), if_pos (by omega)]; rfl) | (rw [if_neg (by omega), if_neg (by omega)]; done) | (rw [if_neg (by omega), if_neg (by omega)]; rfl), hw'.sub (Sub.nil _)⟩)
                · exact absurd hc (by omega)
        · skip
          refine J.no rfl rfl rfl rfl ?_
          refine J.no rfl rfl rfl rfl ?_
          refine J.no rfl rfl rfl rfl ?_
          refine J.no rfl rfl rfl rfl ?_
          refine J.pick_f rfl rfl rfl ?_
          refine J.end ?_
          refine X.then ?_
          refine T.cond_false rfl ?_
          refine T.skip ?_
          refine X.then ?_
          refine T.seq ?_
          refine T.seq ?_
          refine T.text [.l, .l, .l, .l] rfl ?_
          refine J.fieldAddr fld56_4 rfl rfl ?_
          refine J.load1 (k := .l) trivial 1 rfl rfl one54 (by first | rfl | with_reducible exact rowN_get0 _ _ _ (by omega) | with_reducible exact rowN_get1 _ _ _ (by omega) | with_reducible exact rowN_get1s _ _ _ _ (by omega) | exact rowN_get1 _ _ _ (by omega) | exact rowN_get1s _ _ _ _ (by omega) | exact rowN_get0 _ _ _ (by omega)) rfl ?_
          refine J.lenSl Tryz.underlying54 rfl rfl ?_
          refine J.move rfl rfl ?_
          refine J.end ?_
          refine X.then ?_
          refine T.block ?_
          refine T.loop (ι := Nat) (fun (i : Nat) => i = 0) (fun (i : Nat) => [(0, .agg a.cells.toArray), (1, .pointer (some ⟨g1, 0, none⟩)), (10, .int .u64 ((a.nonce : Nat) : Int)), (12, .bool true), (14, W a.bal), (17, .bool true), (19, .slice a.cA a.code.length a.cC), (20, .int .i64 ((a.code.length : Nat) : Int)), (24, .slice a.cA a.code.length a.cC), (25, .int .i64 ((a.code.length : Nat) : Int)), (27, .bool false), (28, undef), (29, undef), (30, undef), (31, undef), (32, .bool false), (34, .slice a.sA a.sl.length a.sC), (35, .int .i64 ((a.sl.length : Nat) : Int)), (36, .int .i64 (i : Int))]) (fun (i : Nat) => [(1, ⟨some g1, 56, (a.cells)⟩)]) (fun (i : Nat) => 0) 0 rfl (by repeat (first | exact Sub.nil _ | refine Sub.cons (by first | rfl | (rw [dgs_zero]; rfl) | (rw [List.drop_length]; rfl) | (simp; done) | (congr 2; omega) | (congr 3; omega)) ?_)) (by repeat (first | exact Sub.nil _ | refine Sub.cons (by first | rfl | (rw [dgs_zero]; rfl) | (rw [List.drop_length]; rfl) | (simp; done) | (congr 2; omega) | (congr 3; omega)) ?_)) ?_
          rintro i hi0
          refine T.seq ?_
          refine T.text [.l] rfl ?_
          refine J.lss rfl rfl rfl rfl ?_
          refine J.end ?_
          refine X.then ?_
          refine T.seq ?_
          refine T.cond_dec rfl (fun h9 => ?_) (fun h9 => ?_)
          · exact absurd h9 (by omega)
          · skip
            refine T.exit ?_
            refine X.then_exit (X.then_exit (X.inBlock_eq (X.then ?_)))
            refine T.seq ?_
            refine T.seq ?_
            refine T.text [.l, .l, .l, .l] rfl ?_
            refine J.fieldAddr fld56_4 rfl rfl ?_
            refine J.load1 (k := .l) trivial 1 rfl rfl one54 (by first | rfl | with_reducible exact rowN_get0 _ _ _ (by omega) | with_reducible exact rowN_get1 _ _ _ (by omega) | with_reducible exact rowN_get1s _ _ _ _ (by omega) | exact rowN_get1 _ _ _ (by omega) | exact rowN_get1s _ _ _ _ (by omega) | exact rowN_get0 _ _ _ (by omega)) rfl ?_
            refine J.lenSl Tryz.underlying54 rfl rfl ?_
            refine J.move rfl rfl ?_
            refine J.end ?_
            refine X.then ?_
            refine T.block ?_
            refine T.loop (ι := Nat) (fun (j : Nat) => j = 0) (fun (j : Nat) => [(0, .agg a.cells.toArray), (1, .pointer (some ⟨g1, 0, none⟩)), (10, .int .u64 ((a.nonce : Nat) : Int)), (12, .bool true), (14, W a.bal), (17, .bool true), (19, .slice a.cA a.code.length a.cC), (20, .int .i64 ((a.code.length : Nat) : Int)), (24, .slice a.cA a.code.length a.cC), (25, .int .i64 ((a.code.length : Nat) : Int)), (27, .bool false), (28, undef), (29, undef), (30, undef), (31, undef), (32, .bool false), (34, .slice a.sA a.sl.length a.sC), (35, .int .i64 ((a.sl.length : Nat) : Int)), (60, .slice a.sA a.sl.length a.sC), (61, .int .i64 ((a.sl.length : Nat) : Int)), (62, .int .i64 (j : Int))]) (fun (j : Nat) => [(1, ⟨some g1, 56, (a.cells)⟩)]) (fun (j : Nat) => 0) 0 rfl (by repeat (first | exact Sub.nil _ | refine Sub.cons (by first | rfl | (rw [dgs_zero]; rfl) | (rw [List.drop_length]; rfl) | (simp; done) | (congr 2; omega) | (congr 3; omega)) ?_)) (by repeat (first | exact Sub.nil _ | refine Sub.cons (by first | rfl | (rw [dgs_zero]; rfl) | (rw [List.drop_length]; rfl) | (simp; done) | (congr 2; omega) | (congr 3; omega)) ?_)) ?_
            rintro j hj0
            refine T.seq ?_
            refine T.text [.l] rfl ?_
            refine J.lss rfl rfl rfl rfl ?_
            refine J.end ?_
            refine X.then ?_
            refine T.seq ?_
            refine T.cond_dec rfl (fun h10 => ?_) (fun h10 => ?_)
            · exact absurd h10 (by omega)
            · skip
              refine T.exit ?_
              refine X.then_exit (X.then_exit (X.inBlock_eq (X.then ?_)))
              refine T.seq ?_
              refine T.seq ?_
              refine T.text [.l, .l, .l, .l] rfl ?_
              refine J.fieldAddr fld56_3 rfl rfl ?_
              refine J.load1 (k := .l) trivial 1 rfl rfl one51 (by first | rfl | with_reducible exact rowN_get0 _ _ _ (by omega) | with_reducible exact rowN_get1 _ _ _ (by omega) | with_reducible exact rowN_get1s _ _ _ _ (by omega) | exact rowN_get1 _ _ _ (by omega) | exact rowN_get1s _ _ _ _ (by omega) | exact rowN_get0 _ _ _ (by omega)) rfl ?_
              refine J.lenSl Tryz.underlying51 rfl rfl ?_
              refine J.eql rfl rfl rfl rfl ?_
              refine J.end ?_
              refine X.then ?_
              refine T.cond_dec rfl (fun h11 => ?_) (fun h11 => ?_)
              · skip
                refine T.seq ?_
                refine T.text [.l, .l] rfl ?_
                refine J.assign rfl rfl ?_
                refine J.assign rfl rfl ?_
                refine J.end ?_
                refine X.then ?_
                refine T.ret ?_
                refine X.then_ret ?_
                exact X.ret2 rfl (RV.tmp rfl) (RV.tmp rfl) (fun w' hw' => ⟨by unfold lookZ; first | (rw [if_pos ⟨by omega, by omega⟩]; done) | (rw [if_pos ⟨by omega, by omega⟩]; rfl) | (rw [if_neg (by omega), if_pos (by omega)]; done) | (rw [if_neg (by omega), if_pos (by omega)]; rfl) | (rw [if_neg (by omega), if_neg (by omega)]; done) | (rw [if_neg (by omega), if_neg (by omega)]; rfl), hw'.sub (Sub.nil _)⟩)
              · exact absurd hc (by omega)
    · skip
      refine J.no rfl rfl rfl rfl ?_
      refine J.no rfl rfl rfl rfl ?_
      refine J.no rfl rfl rfl rfl ?_
      refine J.no rfl rfl rfl rfl ?_
      refine J.pick_f rfl rfl rfl ?_
      refine J.end ?_
      refine X.then ?_
      refine T.cond_false rfl ?_
      refine T.skip ?_
      refine X.then ?_
      refine T.seq ?_
      refine T.seq ?_
      refine T.text [.l, .l, .l, .l, .l, .l, .l, .l, .l, .l] rfl ?_
      refine J.fieldAddr fld56_3 rfl rfl ?_
      refine J.load1 (k := .l) trivial 1 rfl rfl one51 (by first | rfl | with_reducible exact rowN_get0 _ _ _ (by omega) | with_reducible exact rowN_get1 _ _ _ (by omega) | with_reducible exact rowN_get1s _ _ _ _ (by omega) | exact rowN_get1 _ _ _ (by omega) | exact rowN_get1s _ _ _ _ (by omega) | exact rowN_get0 _ _ _ (by omega)) rfl ?_
      refine J.lenSl Tryz.underlying51 rfl rfl ?_
      refine J.eql rfl rfl rfl rfl ?_
      refine J.move rfl rfl ?_
      refine J.split 27 rfl (fun h12 => ?_) (fun h12 => ?_)
      · skip
        refine J.yes rfl rfl ?_
        refine J.fieldAddr fld56_4 rfl rfl ?_
        refine J.yes rfl rfl ?_
        refine J.load1 (k := .l) trivial 1 rfl rfl one54 (by first | rfl | with_reducible exact rowN_get0 _ _ _ (by omega) | with_reducible exact rowN_get1 _ _ _ (by omega) | with_reducible exact rowN_get1s _ _ _ _ (by omega) | exact rowN_get1 _ _ _ (by omega) | exact rowN_get1s _ _ _ _ (by omega) | exact rowN_get0 _ _ _ (by omega)) rfl ?_
        refine J.yes rfl rfl ?_
        refine J.lenSl Tryz.underlying54 rfl rfl ?_
        refine J.yes rfl rfl ?_
        refine J.gtr rfl rfl rfl rfl ?_
        refine J.pick_t rfl rfl rfl ?_
        refine J.end ?_
        refine X.then ?_
        refine T.cond_dec rfl (fun h13 => ?_) (fun h13 => ?_)
        · skip
          refine T.seq ?_
          refine T.text [.l, .l] rfl ?_
          refine J.assign rfl rfl ?_
          refine J.assign rfl rfl ?_
          refine J.end ?_
          refine X.then ?_
          refine T.ret ?_
          refine X.then_ret ?_
          exact X.ret2 rfl (RV.tmp rfl) (RV.tmp rfl) (fun w' hw' => ⟨by unfold lookZ; first | (rw [if_pos ⟨by omega, by omega⟩]; done) | (rw [if_pos ⟨by omega, by omega⟩]; rfl) | (rw [if_neg (by omega), if_pos (by omega)]; done) | (rw [if_neg (by omega), if_pos (by omega)]; rfl) | (rw [if_neg (by omega), if_neg (by omega)]; done) | (rw [if_neg (by omega), if_neg (by omega)]; rfl), hw'.sub (Sub.nil _)⟩)
        · skip
          refine T.skip ?_
          refine X.then ?_
          refine T.seq ?_
          refine T.seq ?_
          refine T.text [.l, .l, .l, .l] rfl ?_
          refine J.fieldAddr fld56_4 rfl rfl ?_
          refine J.load1 (k := .l) trivial 1 rfl rfl one54 (by first | rfl | with_reducible exact rowN_get0 _ _ _ (by omega) | with_reducible exact rowN_get1 _ _ _ (by omega) | with_reducible exact rowN_get1s _ _ _ _ (by omega) | exact rowN_get1 _ _ _ (by omega) | exact rowN_get1s _ _ _ _ (by omega) | exact rowN_get0 _ _ _ (by omega)) rfl ?_
          refine J.lenSl Tryz.underlying54 rfl rfl ?_
          refine J.move rfl rfl ?_
          refine J.end ?_
          refine X.then ?_
          refine T.block ?_
          refine T.loop (ι := Nat) (fun (i : Nat) => i = 0) (fun (i : Nat) => [(0, .agg a.cells.toArray), (1, .pointer (some ⟨g1, 0, none⟩)), (10, .int .u64 ((a.nonce : Nat) : Int)), (12, .bool true), (14, W a.bal), (17, .bool false), (18, undef), (19, undef), (20, undef), (21, undef), (22, .bool false), (24, .slice a.cA a.code.length a.cC), (25, .int .i64 ((a.code.length : Nat) : Int)), (27, .bool true), (29, .slice a.sA a.sl.length a.sC), (30, .int .i64 ((a.sl.length : Nat) : Int)), (34, .slice a.sA a.sl.length a.sC), (35, .int .i64 ((a.sl.length : Nat) : Int)), (36, .int .i64 (i : Int))]) (fun (i : Nat) => [(1, ⟨some g1, 56, (a.cells)⟩)]) (fun (i : Nat) => 0) 0 rfl (by repeat (first | exact Sub.nil _ | refine Sub.cons (by first | rfl | (rw [dgs_zero]; rfl) | (rw [List.drop_length]; rfl) | (simp; done) | (congr 2; omega) | (congr 3; omega)) ?_)) (by repeat (first | exact Sub.nil _ | refine Sub.cons (by first | rfl | (rw [dgs_zero]; rfl) | (rw [List.drop_length]; rfl) | (simp; done) | (congr 2; omega) | (congr 3; omega)) ?_)) ?_
          rintro i hi0
          refine T.seq ?_
          refine T.text [.l] rfl ?_
          refine J.lss rfl rfl rfl rfl ?_
          refine J.end ?_
          refine X.then ?_
          refine T.seq ?_
          refine T.cond_dec rfl (fun h14 => ?_) (fun h14 => ?_)
          · exact absurd h14 (by omega)
          · skip
            refine T.exit ?_
            refine X.then_exit (X.then_exit (X.inBlock_eq (X.then ?_)))
            refine T.seq ?_
            refine T.seq ?_
            refine T.text [.l, .l, .l, .l] rfl ?_
            refine J.fieldAddr fld56_4 rfl rfl ?_
            refine J.load1 (k := .l) trivial 1 rfl rfl one54 (by first | rfl | with_reducible exact rowN_get0 _ _ _ (by omega) | with_reducible exact rowN_get1 _ _ _ (by omega) | with_reducible exact rowN_get1s _ _ _ _ (by omega) | exact rowN_get1 _ _ _ (by omega) | exact rowN_get1s _ _ _ _ (by omega) | exact rowN_get0 _ _ _ (by omega)) rfl ?_
            refine J.lenSl Tryz.underlying54 rfl rfl ?_
            refine J.move rfl rfl ?_
            refine J.end ?_
            refine X.then ?_
            refine T.block ?_
            refine T.loop (ι := Nat) (fun (j : Nat) => j = 0) (fun (j : Nat) => [(0, .agg a.cells.toArray), (1, .pointer (some ⟨g1, 0, none⟩)), (10, .int .u64 ((a.nonce : Nat) : Int)), (12, .bool true), (14, W a.bal), (17, .bool false), (18, undef), (19, undef), (20, undef), (21, undef), (22, .bool false), (24, .slice a.cA a.code.length a.cC), (25, .int .i64 ((a.code.length : Nat) : Int)), (27, .bool true), (29, .slice a.sA a.sl.length a.sC), (30, .int .i64 ((a.sl.length : Nat) : Int)), (34, .slice a.sA a.sl.length a.sC), (35, .int .i64 ((a.sl.length : Nat) : Int)), (60, .slice a.sA a.sl.length a.sC), (61, .int .i64 ((a.sl.length : Nat) : Int)), (62, .int .i64 (j : Int))]) (fun (j : Nat) => [(1, ⟨some g1, 56, (a.cells)⟩)]) (fun (j : Nat) => 0) 0 rfl (by repeat (first | exact Sub.nil _ | refine Sub.cons (by first | rfl | (rw [dgs_zero]; rfl) | (rw [List.drop_length]; rfl) | (simp; done) | (congr 2; omega) | (congr 3; omega)) ?_)) (by repeat (first | exact Sub.nil _ | refine Sub.cons (by first | rfl | (rw [dgs_zero]; rfl) | (rw [List.drop_length]; rfl) | (simp; done) | (congr 2; omega) | (congr 3; omega)) ?_)) ?_
            rintro j hj0
            refine T.seq ?_
            refine T.text [.l] rfl ?_
            refine J.lss rfl rfl rfl rfl ?_
            refine J.end ?_
            refine X.then ?_
            refine T.seq ?_
            refine T.cond_dec rfl (fun h15 => ?_) (fun h15 => ?_)
            · exact absurd h15 (by omega)
            · skip
              refine T.exit ?_
              refine X.then_exit (X.then_exit (X.inBlock_eq (X.then ?_)))
              refine T.seq ?_
              refine T.seq ?_
              refine T.text [.l, .l, .l, .l] rfl ?_
              refine J.fieldAddr fld56_3 rfl rfl ?_
              refine J.load1 (k := .l) trivial 1 rfl rfl one51 (by first | rfl | with_reducible exact rowN_get0 _ _ _ (by omega) | with_reducible exact rowN_get1 _ _ _ (by omega) | with_reducible exact rowN_get1s _ _ _ _ (by omega) | exact rowN_get1 _ _ _ (by omega) | exact rowN_get1s _ _ _ _ (by omega) | exact rowN_get0 _ _ _ (by omega)) rfl ?_
              refine J.lenSl Tryz.underlying51 rfl rfl ?_
              refine J.eql rfl rfl rfl rfl ?_
              refine J.end ?_
              refine X.then ?_
              refine T.cond_dec rfl (fun h16 => ?_) (fun h16 => ?_)
              · skip
                refine T.seq ?_
                refine T.text [.l, .l] rfl ?_
                refine J.assign rfl rfl ?_
                refine J.assign rfl rfl ?_
                refine J.end ?_
                refine X.then ?_
                refine T.ret ?_
                refine X.then_ret ?_
                exact X.ret2 rfl (RV.tmp rfl) (RV.tmp rfl) (fun w' hw' => ⟨by unfold lookZ; first | (rw [if_pos ⟨by omega, by omega⟩]; done) | (rw [if_pos ⟨by omega, by omega⟩]; rfl) | (rw [if_neg (by omega), if_pos (by omega)]; done) | (rw [if_neg (by omega), if_pos (by omega)]; rfl) | (rw [if_neg (by omega), if_neg (by omega)]; done) | (rw [if_neg (by omega), if_neg (by omega)]; rfl), hw'.sub (Sub.nil _)⟩)
              · exact absurd hc (by omega)
      · skip
        refine J.no rfl rfl rfl rfl ?_
        refine J.no rfl rfl rfl rfl ?_
        refine J.no rfl rfl rfl rfl ?_
        refine J.no rfl rfl rfl rfl ?_
        refine J.pick_f rfl rfl rfl ?_
        refine J.end ?_
        refine X.then ?_
        refine T.cond_false rfl ?_
        refine T.skip ?_
        refine X.then ?_
        refine T.seq ?_
        refine T.seq ?_
        refine T.text [.l, .l, .l, .l] rfl ?_
        refine J.fieldAddr fld56_4 rfl rfl ?_
        refine J.load1 (k := .l) trivial 1 rfl rfl one54 (by first | rfl | with_reducible exact rowN_get0 _ _ _ (by omega) | with_reducible exact rowN_get1 _ _ _ (by omega) | with_reducible exact rowN_get1s _ _ _ _ (by omega) | exact rowN_get1 _ _ _ (by omega) | exact rowN_get1s _ _ _ _ (by omega) | exact rowN_get0 _ _ _ (by omega)) rfl ?_
        refine J.lenSl Tryz.underlying54 rfl rfl ?_
        refine J.move rfl rfl ?_
        refine J.end ?_
        refine X.then ?_
        refine T.block ?_
        refine T.loop (ι := Nat) (fun (i : Nat) => i = 0) (fun (i : Nat) => [(0, .agg a.cells.toArray), (1, .pointer (some ⟨g1, 0, none⟩)), (10, .int .u64 ((a.nonce : Nat) : Int)), (12, .bool true), (14, W a.bal), (17, .bool false), (18, undef), (19, undef), (20, undef), (21, undef), (22, .bool false), (24, .slice a.cA a.code.length a.cC), (25, .int .i64 ((a.code.length : Nat) : Int)), (27, .bool false), (28, undef), (29, undef), (30, undef), (31, undef), (32, .bool false), (34, .slice a.sA a.sl.length a.sC), (35, .int .i64 ((a.sl.length : Nat) : Int)), (36, .int .i64 (i : Int))]) (fun (i : Nat) => [(1, ⟨some g1, 56, (a.cells)⟩)]) (fun (i : Nat) => 0) 0 rfl (by repeat (first | exact Sub.nil _ | refine Sub.cons (by first | rfl | (rw [dgs_zero]; rfl) | (rw [List.drop_length]; rfl) | (simp; done) | (congr 2; omega) | (congr 3; omega)) ?_)) (by repeat (first | exact Sub.nil _ | refine Sub.cons (by first | rfl | (rw [dgs_zero]; rfl) | (rw [List.drop_length]; rfl) | (simp; done) | (congr 2; omega) | (congr 3; omega)) ?_)) ?_
        rintro i hi0
        refine T.seq ?_
        refine T.text [.l] rfl ?_
        refine J.lss rfl rfl rfl rfl ?_
        refine J.end ?_
        refine X.then ?_
        refine T.seq ?_
        refine T.cond_dec rfl (fun h17 => ?_) (fun h17 => ?_)
        · exact absurd h17 (by omega)
        · skip
          refine T.exit ?_
          refine X.then_exit (X.then_exit (X.inBlock_eq (X.then ?_)))
          refine T.seq ?_
          refine T.seq ?_
          refine T.text [.l, .l, .l, .l] rfl ?_
          refine J.fieldAddr fld56_4 rfl rfl ?_
          refine J.load1 (k := .l) trivial 1 rfl rfl one54 (by first | rfl | with_reducible exact rowN_get0 _ _ _ (by omega) | with_reducible exact rowN_get1 _ _ _ (by omega) | with_reducible exact rowN_get1s _ _ _ _ (by omega) | exact rowN_get1 _ _ _ (by omega) | exact rowN_get1s _ _ _ _ (by omega) | exact rowN_get0 _ _ _ (by omega)) rfl ?_
          refine J.lenSl Tryz.underlying54 rfl rfl ?_
          refine J.move rfl rfl ?_
          refine J.end ?_
          refine X.then ?_
          refine T.block ?_
          refine T.loop (ι := Nat) (fun (j : Nat) => j = 0) (fun (j : Nat) => [(0, .agg a.cells.toArray), (1, .pointer (some ⟨g1, 0, none⟩)), (10, .int .u64 ((a.nonce : Nat) : Int)), (12, .bool true), (14, W a.bal), (17, .bool false), (18, undef), (19, undef), (20, undef), (21, undef), (22, .bool false), (24, .slice a.cA a.code.length a.cC), (25, .int .i64 ((a.code.length : Nat) : Int)), (27, .bool false), (28, undef), (29, undef), (30, undef), (31, undef), (32, .bool false), (34, .slice a.sA a.sl.length a.sC), (35, .int .i64 ((a.sl.length : Nat) : Int)), (60, .slice a.sA a.sl.length a.sC), (61, .int .i64 ((a.sl.length : Nat) : Int)), (62, .int .i64 (j : Int))]) (fun (j : Nat) => [(1, ⟨some g1, 56, (a.cells)⟩)]) (fun (j : Nat) => 0) 0 rfl (by repeat (first | exact Sub.nil _ | refine Sub.cons (by first | rfl | (rw [dgs_zero]; rfl) | (rw [List.drop_length]; rfl) | (simp; done) | (congr 2; omega) | (congr 3; omega)) ?_)) (by repeat (first | exact Sub.nil _ | refine Sub.cons (by first | rfl | (rw [dgs_zero]; rfl) | (rw [List.drop_length]; rfl) | (simp; done) | (congr 2; omega) | (congr 3; omega)) ?_)) ?_
          rintro j hj0
          refine T.seq ?_
          refine T.text [.l] rfl ?_
          refine J.lss rfl rfl rfl rfl ?_
          refine J.end ?_
          refine X.then ?_
          refine T.seq ?_
          refine T.cond_dec rfl (fun h18 => ?_) (fun h18 => ?_)
          · exact absurd h18 (by omega)
          · skip
            refine T.exit ?_
            refine X.then_exit (X.then_exit (X.inBlock_eq (X.then ?_)))
            refine T.seq ?_
            refine T.seq ?_
            refine T.text [.l, .l, .l, .l] rfl ?_
            refine J.fieldAddr fld56_3 rfl rfl ?_
            refine J.load1 (k := .l) trivial 1 rfl rfl one51 (by first | rfl | with_reducible exact rowN_get0 _ _ _ (by omega) | with_reducible exact rowN_get1 _ _ _ (by omega) | with_reducible exact rowN_get1s _ _ _ _ (by omega) | exact rowN_get1 _ _ _ (by omega) | exact rowN_get1s _ _ _ _ (by omega) | exact rowN_get0 _ _ _ (by omega)) rfl ?_
            refine J.lenSl Tryz.underlying51 rfl rfl ?_
            refine J.eql rfl rfl rfl rfl ?_
            refine J.end ?_
            refine X.then ?_
            refine T.cond_dec rfl (fun h19 => ?_) (fun h19 => ?_)
            · skip
              refine T.seq ?_
              refine T.text [.l, .l] rfl ?_
              refine J.assign rfl rfl ?_
              refine J.assign rfl rfl ?_
              refine J.end ?_
              refine X.then ?_
              refine T.ret ?_
              refine X.then_ret ?_
              exact X.ret2 rfl (RV.tmp rfl) (RV.tmp rfl) (fun w' hw' => ⟨by unfold lookZ; first | (rw [if_pos ⟨by omega, by omega⟩]; done) | (rw [if_pos ⟨by omega, by omega⟩]; rfl) | (rw [if_neg (by omega), if_pos (by omega)]; done) | (rw [if_neg (by omega), if_pos (by omega)]; rfl) | (rw [if_neg (by omega), if_neg (by omega)]; done) | (rw [if_neg (by omega), if_neg (by omega)]; rfl), hw'.sub (Sub.nil _)⟩)
            · exact absurd hc (by omega)
  · skip
    refine J.no rfl rfl rfl rfl ?_
    refine J.no rfl rfl rfl rfl ?_
    refine J.no rfl rfl rfl rfl ?_
    refine J.pick_f rfl rfl rfl ?_
    refine J.move rfl rfl ?_
    refine J.no rfl rfl rfl rfl ?_
    refine J.no rfl rfl rfl rfl ?_
    refine J.no rfl rfl rfl rfl ?_
    refine J.no rfl rfl rfl rfl ?_
    refine J.pick_f rfl rfl rfl ?_
    refine J.end ?_
    refine X.then ?_
    refine T.cond_false rfl ?_
    refine T.skip ?_
    refine X.then ?_
    refine T.seq ?_
    refine T.seq ?_
    refine T.text [.l, .l, .l, .l, .l, .l, .l, .l, .l, .l] rfl ?_
    refine J.fieldAddr fld56_3 rfl rfl ?_
    refine J.load1 (k := .l) trivial 1 rfl rfl one51 (by first | rfl | with_reducible exact rowN_get0 _ _ _ (by omega) | with_reducible exact rowN_get1 _ _ _ (by omega) | with_reducible exact rowN_get1s _ _ _ _ (by omega) | exact rowN_get1 _ _ _ (by omega) | exact rowN_get1s _ _ _ _ (by omega) | exact rowN_get0 _ _ _ (by omega)) rfl ?_
    refine J.lenSl Tryz.underlying51 rfl rfl ?_
    refine J.eql rfl rfl rfl rfl ?_
    refine J.move rfl rfl ?_
    refine J.split 27 rfl (fun h20 => ?_) (fun h20 => ?_)
    · skip
      refine J.yes rfl rfl ?_
      refine J.fieldAddr fld56_4 rfl rfl ?_
      refine J.yes rfl rfl ?_
      refine J.load1 (k := .l) trivial 1 rfl rfl one54 (by first | rfl | with_reducible exact rowN_get0 _ _ _ (by omega) | with_reducible exact rowN_get1 _ _ _ (by omega) | with_reducible exact rowN_get1s _ _ _ _ (by omega) | exact rowN_get1 _ _ _ (by omega) | exact rowN_get1s _ _ _ _ (by omega) | exact rowN_get0 _ _ _ (by omega)) rfl ?_
      refine J.yes rfl rfl ?_
      refine J.lenSl Tryz.underlying54 rfl rfl ?_
      refine J.yes rfl rfl ?_
      refine J.gtr rfl rfl rfl rfl ?_
      refine J.pick_t rfl rfl rfl ?_
      refine J.end ?_
      refine X.then ?_
      refine T.cond_dec rfl (fun h21 => ?_) (fun h21 => ?_)
      · skip
        refine T.seq ?_
        refine T.text [.l, .l] rfl ?_
        refine J.assign rfl rfl ?_
        refine J.assign rfl rfl ?_
        refine J.end ?_
        refine X.then ?_
        refine T.ret ?_
        refine X.then_ret ?_
        exact X.ret2 rfl (RV.tmp rfl) (RV.tmp rfl) (fun w' hw' => ⟨by unfold lookZ; first | (rw [if_pos ⟨by omega, by omega⟩]; done) | (rw [if_pos ⟨by omega, by omega⟩]; rfl) | (rw [if_neg (by omega), if_pos (by omega)]; done) | (rw [if_neg (by omega), if_pos (by omega)]; rfl) | (rw [if_neg (by omega), if_neg (by omega)]; done) | (rw [if_neg (by omega), if_neg (by omega)]; rfl), hw'.sub (Sub.nil _)⟩)
      · skip
        refine T.skip ?_
        refine X.then ?_
        refine T.seq ?_
        refine T.seq ?_
        refine T.text [.l, .l, .l, .l] rfl ?_
        refine J.fieldAddr fld56_4 rfl rfl ?_
        refine J.load1 (k := .l) trivial 1 rfl rfl one54 (by first | rfl | with_reducible exact rowN_get0 _ _ _ (by omega) | with_reducible exact rowN_get1 _ _ _ (by omega) | with_reducible exact rowN_get1s _ _ _ _ (by omega) | exact rowN_get1 _ _ _ (by omega) | exact rowN_get1s _ _ _ _ (by omega) | exact rowN_get0 _ _ _ (by omega)) rfl ?_
        refine J.lenSl Tryz.underlying54 rfl rfl ?_
        refine J.move rfl rfl ?_
        refine J.end ?_
        refine X.then ?_
        refine T.block ?_
        refine T.loop (ι := Nat) (fun (i : Nat) => i = 0) (fun (i : Nat) => [(0, .agg a.cells.toArray), (1, .pointer (some ⟨g1, 0, none⟩)), (10, .int .u64 ((a.nonce : Nat) : Int)), (12, .bool false), (13, undef), (14, undef), (15, undef), (16, .bool false), (17, .bool false), (18, undef), (19, undef), (20, undef), (21, undef), (22, .bool false), (24, .slice a.cA a.code.length a.cC), (25, .int .i64 ((a.code.length : Nat) : Int)), (27, .bool true), (29, .slice a.sA a.sl.length a.sC), (30, .int .i64 ((a.sl.length : Nat) : Int)), (34, .slice a.sA a.sl.length a.sC), (35, .int .i64 ((a.sl.length : Nat) : Int)), (36, .int .i64 (i : Int))]) (fun (i : Nat) => [(1, ⟨some g1, 56, (a.cells)⟩)]) (fun (i : Nat) => 0) 0 rfl (by repeat (first | exact Sub.nil _ | refine Sub.cons (by first | rfl | (rw [dgs_zero]; rfl) | (rw [List.drop_length]; rfl) | (simp; done) | (congr 2; omega) | (congr 3; omega)) ?_)) (by repeat (first | exact Sub.nil _ | refine Sub.cons (by first | rfl | (rw [dgs_zero]; rfl) | (rw [List.drop_length]; rfl) | (simp; done) | (congr 2; omega) | (congr 3; omega)) ?_)) ?_
        rintro i hi0
        refine T.seq ?_
        refine T.text [.l] rfl ?_
        refine J.lss rfl rfl rfl rfl ?_
        refine J.end ?_
        refine X.then ?_
        refine T.seq ?_
        refine T.cond_dec rfl (fun h22 => ?_) (fun h22 => ?_)
        · exact absurd h22 (by omega)
        · skip
          refine T.exit ?_
          refine X.then_exit (X.then_exit (X.inBlock_eq (X.then ?_)))
          refine T.seq ?_
          refine T.seq ?_
          refine T.text [.l, .l, .l, .l] rfl ?_
          refine J.fieldAddr fld56_4 rfl rfl ?_
          refine J.load1 (k := .l) trivial 1 rfl rfl one54 (by first | rfl | with_reducible exact rowN_get0 _ _ _ (by omega) | with_reducible exact rowN_get1 _ _ _ (by omega) | with_reducible exact rowN_get1s _ _ _ _ (by omega) | exact rowN_get1 _ _ _ (by omega) | exact rowN_get1s _ _ _ _ (by omega) | exact rowN_get0 _ _ _ (by omega)) rfl ?_
          refine J.lenSl Tryz.underlying54 rfl rfl ?_
          refine J.move rfl rfl ?_
          refine J.end ?_
          refine X.then ?_
          refine T.block ?_
          refine T.loop (ι := Nat) (fun (j : Nat) => j = 0) (fun (j : Nat) => [(0, .agg a.cells.toArray), (1, .pointer (some ⟨g1, 0, none⟩)), (10, .int .u64 ((a.nonce : Nat) : Int)), (12, .bool false), (13, undef), (14, undef), (15, undef), (16, .bool false), (17, .bool false), (18, undef), (19, undef), (20, undef), (21, undef), (22, .bool false), (24, .slice a.cA a.code.length a.cC), (25, .int .i64 ((a.code.length : Nat) : Int)), (27, .bool true), (29, .slice a.sA a.sl.length a.sC), (30, .int .i64 ((a.sl.length : Nat) : Int)), (34, .slice a.sA a.sl.length a.sC), (35, .int .i64 ((a.sl.length : Nat) : Int)), (60, .slice a.sA a.sl.length a.sC), (61, .int .i64 ((a.sl.length : Nat) : Int)), (62, .int .i64 (j : Int))]) (fun (j : Nat) => [(1, ⟨some g1, 56, (a.cells)⟩)]) (fun (j : Nat) => 0) 0 rfl (by repeat (first | exact Sub.nil _ | refine Sub.cons (by first | rfl | (rw [dgs_zero]; rfl) | (rw [List.drop_length]; rfl) | (simp; done) | (congr 2; omega) | (congr 3; omega)) ?_)) (by repeat (first | exact Sub.nil _ | refine Sub.cons (by first | rfl | (rw [dgs_zero]; rfl) | (rw [List.drop_length]; rfl) | (simp; done) | (congr 2; omega) | (congr 3; omega)) ?_)) ?_
          rintro j hj0
          refine T.seq ?_
          refine T.text [.l] rfl ?_
          refine J.lss rfl rfl rfl rfl ?_
          refine J.end ?_
          refine X.then ?_
          refine T.seq ?_
          refine T.cond_dec rfl (fun h23 => ?_) (fun h23 => ?_)
          · exact absurd h23 (by omega)
          · skip
            refine T.exit ?_
            refine X.then_exit (X.then_exit (X.inBlock_eq (X.then ?_)))
            refine T.seq ?_
            refine T.seq ?_
            refine T.text [.l, .l, .l, .l] rfl ?_
            refine J.fieldAddr fld56_3 rfl rfl ?_
            refine J.load1 (k := .l) trivial 1 rfl rfl one51 (by first | rfl | with_reducible exact rowN_get0 _ _ _ (by omega) | with_reducible exact rowN_get1 _ _ _ (by omega) | with_reducible exact rowN_get1s _ _ _ _ (by omega) | exact rowN_get1 _ _ _ (by omega) | exact rowN_get1s _ _ _ _ (by omega) | exact rowN_get0 _ _ _ (by omega)) rfl ?_
            refine J.lenSl Tryz.underlying51 rfl rfl ?_
            refine J.eql rfl rfl rfl rfl ?_
            refine J.end ?_
            refine X.then ?_
            refine T.cond_dec rfl (fun h24 => ?_) (fun h24 => ?_)
            · skip
              refine T.seq ?_
              refine T.text [.l, .l] rfl ?_
              refine J.assign rfl rfl ?_
              refine J.assign rfl rfl ?_
              refine J.end ?_
              refine X.then ?_
              refine T.ret ?_
              refine X.then_ret ?_
              exact X.ret2 rfl (RV.tmp rfl) (RV.tmp rfl) (fun w' hw' => ⟨by unfold lookZ; first | (rw [if_pos ⟨by omega, by omega⟩]; done) | (rw [if_pos ⟨by omega, by omega⟩]; rfl) | (rw [if_neg (by omega), if_pos (by omega)]; done) | (rw [if_neg (by omega), if_pos (by omega)]; rfl) | (rw [if_neg (by omega), if_neg (by omega)]; done) | (rw [if_neg (by omega), if_neg (by omega)]; rfl), hw'.sub (Sub.nil _)⟩)
            · exact absurd hc (by omega)
    · skip
      refine J.no rfl rfl rfl rfl ?_
      refine J.no rfl rfl rfl rfl ?_
      refine J.no rfl rfl rfl rfl ?_
      refine J.no rfl rfl rfl rfl ?_
      refine J.pick_f rfl rfl rfl ?_
      refine J.end ?_
      refine X.then ?_
      refine T.cond_false rfl ?_
      refine T.skip ?_
      refine X.then ?_
      refine T.seq ?_
      refine T.seq ?_
      refine T.text [.l, .l, .l, .l] rfl ?_
      refine J.fieldAddr fld56_4 rfl rfl ?_
      refine J.load1 (k := .l) trivial 1 rfl rfl one54 (by first | rfl | with_reducible exact rowN_get0 _ _ _ (by omega) | with_reducible exact rowN_get1 _ _ _ (by omega) | with_reducible exact rowN_get1s _ _ _ _ (by omega) | exact rowN_get1 _ _ _ (by omega) | exact rowN_get1s _ _ _ _ (by omega) | exact rowN_get0 _ _ _ (by omega)) rfl ?_
      refine J.lenSl Tryz.underlying54 rfl rfl ?_
      refine J.move rfl rfl ?_
      refine J.end ?_
      refine X.then ?_
      refine T.block ?_
      refine T.loop (ι := Nat) (fun (i : Nat) => i = 0) (fun (i : Nat) => [(0, .agg a.cells.toArray), (1, .pointer (some ⟨g1, 0, none⟩)), (10, .int .u64 ((a.nonce : Nat) : Int)), (12, .bool false), (13, undef), (14, undef), (15, undef), (16, .bool false), (17, .bool false), (18, undef), (19, undef), (20, undef), (21, undef), (22, .bool false), (24, .slice a.cA a.code.length a.cC), (25, .int .i64 ((a.code.length : Nat) : Int)), (27, .bool false), (28, undef), (29, undef), (30, undef), (31, undef), (32, .bool false), (34, .slice a.sA a.sl.length a.sC), (35, .int .i64 ((a.sl.length : Nat) : Int)), (36, .int .i64 (i : Int))]) (fun (i : Nat) => [(1, ⟨some g1, 56, (a.cells)⟩)]) (fun (i : Nat) => 0) 0 rfl (by repeat (first | exact Sub.nil _ | refine Sub.cons (by first | rfl | (rw [dgs_zero]; rfl) | (rw [List.drop_length]; rfl) | (simp; done) | (congr 2; omega) | (congr 3; omega)) ?_)) (by repeat (first | exact Sub.nil _ | refine Sub.cons (by first | rfl | (rw [dgs_zero]; rfl) | (rw [List.drop_length]; rfl) | (simp; done) | (congr 2; omega) | (congr 3; omega)) ?_)) ?_
      rintro i hi0
      refine T.seq ?_
      refine T.text [.l] rfl ?_
      refine J.lss rfl rfl rfl rfl ?_
      refine J.end ?_
      refine X.then ?_
      refine T.seq ?_
      refine T.cond_dec rfl (fun h25 => ?_) (fun h25 => ?_)
      · exact absurd h25 (by omega)
      · skip
        refine T.exit ?_
        refine X.then_exit (X.then_exit (X.inBlock_eq (X.then ?_)))
        refine T.seq ?_
        refine T.seq ?_
        refine T.text [.l, .l, .l, .l] rfl ?_
        refine J.fieldAddr fld56_4 rfl rfl ?_
        refine J.load1 (k := .l) trivial 1 rfl rfl one54 (by first | rfl | with_reducible exact rowN_get0 _ _ _ (by omega) | with_reducible exact rowN_get1 _ _ _ (by omega) | with_reducible exact rowN_get1s _ _ _ _ (by omega) | exact rowN_get1 _ _ _ (by omega) | exact rowN_get1s _ _ _ _ (by omega) | exact rowN_get0 _ _ _ (by omega)) rfl ?_
        refine J.lenSl Tryz.underlying54 rfl rfl ?_
        refine J.move rfl rfl ?_
        refine J.end ?_
        refine X.then ?_
        refine T.block ?_
        refine T.loop (ι := Nat) (fun (j : Nat) => j = 0) (fun (j : Nat) => [(0, .agg a.cells.toArray), (1, .pointer (some ⟨g1, 0, none⟩)), (10, .int .u64 ((a.nonce : Nat) : Int)), (12, .bool false), (13, undef), (14, undef), (15, undef), (16, .bool false), (17, .bool false), (18, undef), (19, undef), (20, undef), (21, undef), (22, .bool false), (24, .slice a.cA a.code.length a.cC), (25, .int .i64 ((a.code.length : Nat) : Int)), (27, .bool false), (28, undef), (29, undef), (30, undef), (31, undef), (32, .bool false), (34, .slice a.sA a.sl.length a.sC), (35, .int .i64 ((a.sl.length : Nat) : Int)), (60, .slice a.sA a.sl.length a.sC), (61, .int .i64 ((a.sl.length : Nat) : Int)), (62, .int .i64 (j : Int))]) (fun (j : Nat) => [(1, ⟨some g1, 56, (a.cells)⟩)]) (fun (j : Nat) => 0) 0 rfl (by repeat (first | exact Sub.nil _ | refine Sub.cons (by first | rfl | (rw [dgs_zero]; rfl) | (rw [List.drop_length]; rfl) | (simp; done) | (congr 2; omega) | (congr 3; omega)) ?_)) (by repeat (first | exact Sub.nil _ | refine Sub.cons (by first | rfl | (rw [dgs_zero]; rfl) | (rw [List.drop_length]; rfl) | (simp; done) | (congr 2; omega) | (congr 3; omega)) ?_)) ?_
        rintro j hj0
        refine T.seq ?_
        refine T.text [.l] rfl ?_
        refine J.lss rfl rfl rfl rfl ?_
        refine J.end ?_
        refine X.then ?_
        refine T.seq ?_
        refine T.cond_dec rfl (fun h26 => ?_) (fun h26 => ?_)
        · exact absurd h26 (by omega)
        · skip
          refine T.exit ?_
          refine X.then_exit (X.then_exit (X.inBlock_eq (X.then ?_)))
          refine T.seq ?_
          refine T.seq ?_
          refine T.text [.l, .l, .l, .l] rfl ?_
          refine J.fieldAddr fld56_3 rfl rfl ?_
          refine J.load1 (k := .l) trivial 1 rfl rfl one51 (by first | rfl | with_reducible exact rowN_get0 _ _ _ (by omega) | with_reducible exact rowN_get1 _ _ _ (by omega) | with_reducible exact rowN_get1s _ _ _ _ (by omega) | exact rowN_get1 _ _ _ (by omega) | exact rowN_get1s _ _ _ _ (by omega) | exact rowN_get0 _ _ _ (by omega)) rfl ?_
          refine J.lenSl Tryz.underlying51 rfl rfl ?_
          refine J.eql rfl rfl rfl rfl ?_
          refine J.end ?_
          refine X.then ?_
          refine T.cond_dec rfl (fun h27 => ?_) (fun h27 => ?_)
          · skip
            refine T.seq ?_
            refine T.text [.l, .l] rfl ?_
            refine J.assign rfl rfl ?_
            refine J.assign rfl rfl ?_
            refine J.end ?_
            refine X.then ?_
            refine T.ret ?_
            refine X.then_ret ?_
            exact X.ret2 rfl (RV.tmp rfl) (RV.tmp rfl) (fun w' hw' => ⟨by unfold lookZ; first | (rw [if_pos ⟨by omega, by omega⟩]; done) | (rw [if_pos ⟨by omega, by omega⟩]; rfl) | (rw [if_neg (by omega), if_pos (by omega)]; done) | (rw [if_neg (by omega), if_pos (by omega)]; rfl) | (rw [if_neg (by omega), if_neg (by omega)]; done) | (rw [if_neg (by omega), if_neg (by omega)]; rfl), hw'.sub (Sub.nil _)⟩)
          · exact absurd hc (by omega)

theorem empty (w : World) (a : Ac) :
    Calls Tryz.prog 52 [.agg a.cells.toArray].toArray w fun e w' => e = .returned (.bool (decide (a.void))) ∧ WS w [] [] w' := by
  refine calls_of_T [] 23 [] Tryz.func52 rfl Tryz.ntmps52 (by simp) (WS.refl _ _) ?_
  refine T.seq ?_
  refine T.text [.l, .l] rfl ?_
  refine J.box 1 rfl rfl (a.cells) rfl rfl (fun g1 hg1 => ?_)
  refine J.assign rfl rfl ?_
  refine J.end ?_
  refine X.then ?_
  refine T.seq ?_
  refine T.text [.l, .l, .l, .l, .l, .l, .l, .l, .l, .l, .l, .l, .l, .l, .l, .l, .l, .l, .l, .l, .l] rfl ?_
  refine J.fieldAddr fld56_1 rfl rfl ?_
  refine J.load1 (k := .l) trivial 1 rfl rfl one48 (by first | rfl | with_reducible exact rowN_get0 _ _ _ (by omega) | with_reducible exact rowN_get1 _ _ _ (by omega) | with_reducible exact rowN_get1s _ _ _ _ (by omega) | exact rowN_get1 _ _ _ (by omega) | exact rowN_get1s _ _ _ _ (by omega) | exact rowN_get0 _ _ _ (by omega)) rfl ?_
  refine J.eql rfl rfl rfl rfl ?_
  refine J.move rfl rfl ?_
  refine J.split 6 rfl (fun h1 => ?_) (fun h1 => ?_)
  · skip
    refine J.yes rfl rfl ?_
    refine J.fieldAddr fld56_2 rfl rfl ?_
    refine J.yes rfl rfl ?_
    refine J.loadN (k := .l) trivial 1 rfl rfl agg50 (wc a.bal) rfl rfl rfl ?_
    refine J.yes rfl rfl ?_
    refine J.call0 (k := .l) trivial fok74 rfl rfl (fun w hw => Wa.IsZero w _) ?_
    refine J.pick_t rfl rfl rfl ?_
    refine J.move rfl rfl ?_
    refine J.split 11 rfl (fun h2 => ?_) (fun h2 => ?_)
    · skip
      refine J.yes rfl rfl ?_
      refine J.fieldAddr fld56_3 rfl rfl ?_
      refine J.yes rfl rfl ?_
      refine J.load1 (k := .l) trivial 1 rfl rfl one51 (by first | rfl | with_reducible exact rowN_get0 _ _ _ (by omega) | with_reducible exact rowN_get1 _ _ _ (by omega) | with_reducible exact rowN_get1s _ _ _ _ (by omega) | exact rowN_get1 _ _ _ (by omega) | exact rowN_get1s _ _ _ _ (by omega) | exact rowN_get0 _ _ _ (by omega)) rfl ?_
      refine J.yes rfl rfl ?_
      refine J.lenSl Tryz.underlying51 rfl rfl ?_
      refine J.yes rfl rfl ?_
      refine J.eql rfl rfl rfl rfl ?_
      refine J.pick_t rfl rfl rfl ?_
      refine J.move rfl rfl ?_
      refine J.split 17 rfl (fun h3 => ?_) (fun h3 => ?_)
      · skip
        refine J.yes rfl rfl ?_
        refine J.fieldAddr fld56_4 rfl rfl ?_
        refine J.yes rfl rfl ?_
        refine J.load1 (k := .l) trivial 1 rfl rfl one54 (by first | rfl | with_reducible exact rowN_get0 _ _ _ (by omega) | with_reducible exact rowN_get1 _ _ _ (by omega) | with_reducible exact rowN_get1s _ _ _ _ (by omega) | exact rowN_get1 _ _ _ (by omega) | exact rowN_get1s _ _ _ _ (by omega) | exact rowN_get0 _ _ _ (by omega)) rfl ?_
        refine J.yes rfl rfl ?_
        refine J.lenSl Tryz.underlying54 rfl rfl ?_
        refine J.yes rfl rfl ?_
        refine J.eql rfl rfl rfl rfl ?_
        refine J.pick_t rfl rfl rfl ?_
        refine J.assign rfl rfl ?_
        refine J.end ?_
        refine X.then ?_
        refine T.ret ?_
        exact X.ret1 rfl (RV.tmp rfl) (fun w' hw' => ⟨by congr 2; unfold Ac.void; first | exact (decide_eq_false (by omega)).symm | exact decide_eq_decide.2 (by omega), hw'.sub (Sub.nil _)⟩)
      · skip
        refine J.no rfl rfl rfl rfl ?_
        refine J.no rfl rfl rfl rfl ?_
        refine J.no rfl rfl rfl rfl ?_
        refine J.no rfl rfl rfl rfl ?_
        refine J.pick_f rfl rfl rfl ?_
        refine J.assign rfl rfl ?_
        refine J.end ?_
        refine X.then ?_
        refine T.ret ?_
        exact X.ret1 rfl (RV.tmp rfl) (fun w' hw' => ⟨by congr 2; unfold Ac.void; first | exact (decide_eq_false (by omega)).symm | exact decide_eq_decide.2 (by omega), hw'.sub (Sub.nil _)⟩)
    · skip
      refine J.no rfl rfl rfl rfl ?_
      refine J.no rfl rfl rfl rfl ?_
      refine J.no rfl rfl rfl rfl ?_
      refine J.no rfl rfl rfl rfl ?_
      refine J.pick_f rfl rfl rfl ?_
      refine J.move rfl rfl ?_
      refine J.no rfl rfl rfl rfl ?_
      refine J.no rfl rfl rfl rfl ?_
      refine J.no rfl rfl rfl rfl ?_
      refine J.no rfl rfl rfl rfl ?_
      refine J.pick_f rfl rfl rfl ?_
      refine J.assign rfl rfl ?_
      refine J.end ?_
      refine X.then ?_
      refine T.ret ?_
      exact X.ret1 rfl (RV.tmp rfl) (fun w' hw' => ⟨by congr 2; unfold Ac.void; first | exact (decide_eq_false (by omega)).symm | exact decide_eq_decide.2 (by omega), hw'.sub (Sub.nil _)⟩)
  · skip
    refine J.no rfl rfl rfl rfl ?_
    refine J.no rfl rfl rfl rfl ?_
    refine J.no rfl rfl rfl rfl ?_
    refine J.pick_f rfl rfl rfl ?_
    refine J.move rfl rfl ?_
    refine J.no rfl rfl rfl rfl ?_
    refine J.no rfl rfl rfl rfl ?_
    refine J.no rfl rfl rfl rfl ?_
    refine J.no rfl rfl rfl rfl ?_
    refine J.pick_f rfl rfl rfl ?_
    refine J.move rfl rfl ?_
    refine J.no rfl rfl rfl rfl ?_
    refine J.no rfl rfl rfl rfl ?_
    refine J.no rfl rfl rfl rfl ?_
    refine J.no rfl rfl rfl rfl ?_
    refine J.pick_f rfl rfl rfl ?_
    refine J.assign rfl rfl ?_
    refine J.end ?_
    refine X.then ?_
    refine T.ret ?_
    exact X.ret1 rfl (RV.tmp rfl) (fun w' hw' => ⟨by congr 2; unfold Ac.void; first | exact (decide_eq_false (by omega)).symm | exact decide_eq_decide.2 (by omega), hw'.sub (Sub.nil _)⟩)
end Go.Proofs.YtlllcafedekojaaGreatDoor.Di
set_option linter.unusedVariables false
set_option maxRecDepth 20000
namespace Go.Proofs.YtlllcafedekojaaGreatDoor.Dj
open Go Go.Fw

theorem sz287 : SizeT Tryz.prog 287 32 := (by unfold SizeT; kernel_rfl)
theorem el112 : ElT Tryz.prog 112 1 8 (.pointer none) := ⟨by kernel_rfl, rfl, by decide, by decide⟩
theorem sz56 : SizeT Tryz.prog 56 27 := (by unfold SizeT; kernel_rfl)
theorem sl22 : SlT Tryz.prog 22 56 27 := ⟨Tryz.underlying22, sz56⟩
theorem agg56 : AggT Tryz.prog 56 27 := ⟨⟨_, Tryz.underlying56, rfl⟩, by kernel_rfl⟩
theorem zero56 : ZeroT Tryz.prog 56 (.agg ([.int .u8 0, .int .u8 0, .int .u8 0, .int .u8 0, .int .u8 0, .int .u8 0, .int .u8 0, .int .u8 0, .int .u8 0, .int .u8 0, .int .u8 0, .int .u8 0, .int .u8 0, .int .u8 0, .int .u8 0, .int .u8 0, .int .u8 0, .int .u8 0, .int .u8 0, .int .u8 0, .int .u64 0, .int .u64 0, .int .u64 0, .int .u64 0, .int .u64 0, .slice none 0 0, .slice none 0 0]).toArray) := (by unfold ZeroT; kernel_rfl)
theorem fok79 : FnOk Tryz.prog 79 := FnOk.mk' Tryz.func79 (by kernel_rfl) rfl
theorem sz112 : SizeT Tryz.prog 112 1 := (by unfold SizeT; kernel_rfl)
theorem sl89 : SlT Tryz.prog 89 112 1 := ⟨Tryz.underlying89, sz112⟩
theorem zero50 : ZeroT Tryz.prog 50 (.agg ([.int .u64 0, .int .u64 0, .int .u64 0, .int .u64 0]).toArray) := (by unfold ZeroT; kernel_rfl)
theorem agg50 : AggT Tryz.prog 50 4 := ⟨⟨_, Tryz.underlying50, rfl⟩, by kernel_rfl⟩
theorem sz50 : SizeT Tryz.prog 50 4 := (by unfold SizeT; kernel_rfl)
theorem fld56_2 : FldT Tryz.prog 56 2 50 21 3 := ⟨by kernel_rfl, sz50⟩
theorem el50 : ElT Tryz.prog 50 4 32 (.agg ([.int .u64 0, .int .u64 0, .int .u64 0, .int .u64 0]).toArray) := ⟨by kernel_rfl, rfl, by decide, by decide⟩
theorem fok80 : FnOk Tryz.prog 80 := FnOk.mk' Tryz.func80 (by kernel_rfl) rfl
theorem fok62 : FnOk Tryz.prog 62 := FnOk.mk' Tryz.func62 (by kernel_rfl) rfl

theorem codes (w : World) (A1 : Option Addr) (c1 : Nat) (a : Ac) (hA : Cs w A1 (rowA [a])) (hc : a.code.length = 0) (h0 : lookZ a = 0) :
    Calls Tryz.prog 62 [.slice A1 1 c1].toArray w fun e w' => ∃ v : Value, True ∧ e = .returned (.tuple #[v, .int .i64 0, .int .i64 0]) ∧ WS w [] [] w' := by
  refine calls_of_T [] 71 [] Tryz.func62 rfl Tryz.ntmps62 (by simp) (WS.refl _ _) ?_
  refine T.seq ?_
  refine T.text [.l, .l, .l] rfl ?_
  refine J.assign rfl rfl ?_
  refine J.assign rfl rfl ?_
  refine J.assign rfl rfl ?_
  refine J.end ?_
  refine X.then ?_
  refine T.seq ?_
  refine T.text [.l, .l, .l, .l] rfl ?_
  refine J.move rfl rfl ?_
  refine J.lenSl Tryz.underlying22 rfl rfl ?_
  refine J.makeSlice 15 rfl (q := 1) (c0 := 1) Tryz.underlying89 el112 rfl rfl (by first | rfl | omega) (by first | rfl | omega) (by omega) (by omega) (by unfold maxLen; omega) rfl (fun g15 hg15 => ?_)
  refine J.assign rfl rfl ?_
  refine J.end ?_
  refine X.then ?_
  refine T.seq ?_
  refine T.seq ?_
  refine T.text [.l, .l, .l] rfl ?_
  refine J.move rfl rfl ?_
  refine J.lenSl Tryz.underlying22 rfl rfl ?_
  refine J.move rfl rfl ?_
  refine J.end ?_
  refine X.then ?_
  refine T.block ?_
  refine T.loop (ι := Nat) (fun (i : Nat) => i ≤ 1) (fun (i : Nat) => [(0, .slice A1 1 c1), (13, .slice A1 1 c1), (14, .int .i64 ((1 : Nat) : Int)), (15, .slice (some ⟨g15, 0, none⟩) 1 1), (5, .slice (some ⟨g15, 0, none⟩) 1 1), (16, .slice A1 1 c1), (17, .int .i64 ((1 : Nat) : Int)), (18, .int .i64 ((i : Nat) : Int))]) (fun (i : Nat) => [(15, ⟨some g15, 112, [.pointer none]⟩)]) (fun (i : Nat) => 1 - i) 0 (Nat.zero_le _) (by repeat (first | exact Sub.nil _ | refine Sub.cons (by first | rfl | (rw [dgs_zero]; rfl) | (rw [List.drop_length]; rfl) | (simp; done) | (congr 2; omega) | (congr 3; omega)) ?_)) (by repeat (first | exact Sub.nil _ | refine Sub.cons (by first | rfl | (rw [dgs_zero]; rfl) | (rw [List.drop_length]; rfl) | (simp; done) | (congr 2; omega) | (congr 3; omega)) ?_)) ?_
  rintro i hi
  refine T.seq ?_
  refine T.text [.l] rfl ?_
  refine J.lss rfl rfl rfl rfl ?_
  refine J.end ?_
  refine X.then ?_
  refine T.seq ?_
  refine T.cond_dec rfl (fun h1 => ?_) (fun h1 => ?_)
  · obtain rfl : i = 0 := by omega
    refine T.skip ?_
    refine X.then ?_
    refine T.seq ?_
    refine T.block ?_
    refine T.seq ?_
    refine T.text [.l, .l, .l, .l, .l, .l] rfl ?_
    refine J.move rfl rfl ?_
    refine J.indexSlI sl22 rfl (hA.isSome (by rw [rowA_length]; simp)) rfl (by omega) (by omega) (by first | exact Int.toNat_natCast _ | rfl) rfl ?_
    refine J.loadIN (k := .l) trivial hA (off_nil _) rfl agg56 (a.cells) rfl (by rw [rowA_seg [a] 0 (by simp)]; rfl) rfl ?_
    refine J.alloc 7 rfl zero56 [.int .u8 0, .int .u8 0, .int .u8 0, .int .u8 0, .int .u8 0, .int .u8 0, .int .u8 0, .int .u8 0, .int .u8 0, .int .u8 0, .int .u8 0, .int .u8 0, .int .u8 0, .int .u8 0, .int .u8 0, .int .u8 0, .int .u8 0, .int .u8 0, .int .u8 0, .int .u8 0, .int .u64 0, .int .u64 0, .int .u64 0, .int .u64 0, .int .u64 0, .slice none 0 0, .slice none 0 0] rfl rfl (fun g7 hg7 => ?_)
    refine J.assign rfl rfl ?_
    refine J.store 7 rfl rfl rfl rfl (a.cells) rfl sz56 (Nat.le_of_ble_eq_true rfl) (by first | exact Ac.cells_one _) (Nat.zero_lt_succ _) trivial (a.cells) rfl ?_
    refine J.end ?_
    refine X.then ?_
    refine T.seq ?_
    refine T.seq ?_
    refine T.draw [] [(0, .g), (1, .g), (2, .g), (3, .g), (4, .g), (5, .g), (6, .g), (7, .g), (8, .q), (9, .g), (10, .q), (11, .q), (12, .g), (13, .g)] (by kernel_rfl) (by kernel_rfl) ?_ (by repeat (first | exact Sub.nil _ | refine Sub.cons (by first | rfl | (rw [dgs_zero]; rfl) | (rw [List.drop_length]; rfl) | (simp; done) | (congr 2; omega) | (congr 3; omega)) ?_))
    refine J.move rfl rfl ?_
    refine J.gtr rfl rfl rfl (decide_eq_false (by first | omega | rfl | assumption | (simp only [*]; done))) ?_
    refine J.move rfl rfl ?_
    refine J.no rfl rfl rfl rfl ?_
    refine J.no rfl rfl rfl rfl ?_
    refine J.no rfl rfl rfl rfl ?_
    refine J.no rfl rfl rfl rfl ?_
    refine J.no rfl rfl rfl rfl ?_
    refine J.no rfl rfl rfl rfl ?_
    refine J.no rfl rfl rfl rfl ?_
    refine J.no rfl rfl rfl rfl ?_
    refine J.no rfl rfl rfl rfl ?_
    refine J.no rfl rfl rfl rfl ?_
    refine J.pick_f rfl rfl rfl ?_
    refine J.end ?_
    refine X.then ?_
    refine T.cond_false rfl ?_
    refine T.skip ?_
    refine X.then ?_
    refine T.seq ?_
    refine T.text [.l] rfl ?_
    refine J.assign rfl rfl ?_
    refine J.end ?_
    refine X.then ?_
    refine T.seq ?_
    refine T.text [.l, .l, .l, .l, .l, .l, .l, .l, .l, .l] rfl ?_
    refine J.move rfl rfl ?_
    refine J.move rfl rfl ?_
    refine J.loadN (k := .l) trivial 7 rfl rfl agg56 (a.cells) rfl rfl rfl ?_
    refine J.call0 (k := .l) trivial fok79 rfl rfl (fun w hw => Di.look w a hc) ?_
    refine J.move rfl rfl ?_
    refine J.extract rfl rfl rfl ?_
    refine J.extract rfl rfl rfl ?_
    refine J.as 44 (.int .i64 0) rfl (by rw [h0]) ?_
    refine J.indexSlB sl89 rfl rfl (by omega) (by omega) (by first | exact Int.toNat_natCast _ | rfl) rfl ?_
    refine J.store 15 rfl rfl rfl rfl [.pointer none] rfl sz112 (by first | decide | exact Nat.le_refl _ | exact Nat.le_of_ble_eq_true rfl | (simp [rowN]; done) | (simp [rowN]; omega)) (by first | exact rowN_one _ _ | (simp; done) | (intro u hu; simp at hu; subst hu; rfl) | (intro u hu; simp at hu; rcases hu with rfl | rfl <;> rfl)) (by first | decide | exact Nat.zero_lt_succ _ | simp) trivial [.pointer none] rfl ?_
    refine J.assign rfl rfl ?_
    refine J.end ?_
    refine X.then ?_
    refine T.seq ?_
    refine T.text [.l, .l] rfl ?_
    refine J.move rfl rfl ?_
    refine J.neq rfl rfl rfl (show decide ((0:Int) ≠ 0) = false by decide) ?_
    refine J.end ?_
    refine X.then ?_
    refine T.cond_false rfl ?_
    refine T.skip ?_
    refine X.inBlock (X.then ?_)
    refine T.text [.l, .l] rfl ?_
    refine J.add rfl rfl rfl (by first | exact add_nat _ 1 (by omega) | exact i64_ok _ (by omega) | exact rfl) ?_
    refine J.move rfl rfl ?_
    refine J.end ?_
    exact X.round (0 + 1) (Nat.le_refl _) (by first | omega | (dsimp only; omega)) (by repeat (first | exact Sub.nil _ | refine Sub.cons (by first | rfl | (rw [dgs_zero]; rfl) | (rw [List.drop_length]; rfl) | (simp; done) | (congr 2; omega) | (congr 3; omega)) ?_)) (by repeat (first | exact Sub.nil _ | refine Sub.cons (by first | rfl | (rw [dgs_zero]; rfl) | (rw [List.drop_length]; rfl) | (simp; done) | (congr 2; omega) | (congr 3; omega)) ?_))
  · skip
    refine T.exit ?_
    refine X.then_exit (X.then_exit (X.inBlock_eq (X.then ?_)))
    refine T.seq ?_
    refine T.text [.l] rfl ?_
    refine J.alloc 9 rfl zero50 [.int .u64 0, .int .u64 0, .int .u64 0, .int .u64 0] rfl rfl (fun g9 hg9 => ?_)
    refine J.end ?_
    refine X.then ?_
    refine T.seq ?_
    refine T.seq ?_
    refine T.text [.l, .l, .l] rfl ?_
    refine J.move rfl rfl ?_
    refine J.lenSl Tryz.underlying22 rfl rfl ?_
    refine J.move rfl rfl ?_
    refine J.end ?_
    refine X.then ?_
    refine T.block ?_
    refine T.loop (ι := Nat × Nat) (fun ((j, s) : Nat × Nat) => j ≤ 1 ∧ (j = 0 → s = 0)) (fun ((j, s) : Nat × Nat) => [(0, .slice A1 1 c1), (13, .slice A1 1 c1), (14, .int .i64 ((1 : Nat) : Int)), (15, .slice (some ⟨g15, 0, none⟩) 1 1), (5, .slice (some ⟨g15, 0, none⟩) 1 1), (16, .slice A1 1 c1), (17, .int .i64 ((1 : Nat) : Int)), (18, .int .i64 ((i : Nat) : Int)), (9, .pointer (some ⟨g9, 0, none⟩)), (51, .slice A1 1 c1), (52, .int .i64 ((1 : Nat) : Int)), (53, .int .i64 ((j : Nat) : Int))]) (fun ((j, s) : Nat × Nat) => [(15, ⟨some g15, 112, [.pointer none]⟩), (9, ⟨some g9, 50, wc s⟩)]) (fun ((j, s) : Nat × Nat) => 1 - j) ⟨0, 0⟩ ⟨Nat.zero_le _, fun _ => rfl⟩ (by repeat (first | exact Sub.nil _ | refine Sub.cons (by first | rfl | (rw [dgs_zero]; rfl) | (rw [List.drop_length]; rfl) | (simp; done) | (congr 2; omega) | (congr 3; omega)) ?_)) (by repeat (first | exact Sub.nil _ | refine Sub.cons (by first | rfl | (rw [dgs_zero]; rfl) | (rw [List.drop_length]; rfl) | (simp; done) | (congr 2; omega) | (congr 3; omega)) ?_)) ?_
    rintro ⟨j, s⟩ ⟨hj, hs⟩
    try dsimp only at *
    refine T.seq ?_
    refine T.text [.l] rfl ?_
    refine J.lss rfl rfl rfl rfl ?_
    refine J.end ?_
    refine X.then ?_
    refine T.seq ?_
    refine T.cond_dec rfl (fun h2 => ?_) (fun h2 => ?_)
    · obtain rfl : j = 0 := by omega
      obtain rfl := hs rfl
      refine T.skip ?_
      refine X.then ?_
      refine T.seq ?_
      refine T.block ?_
      refine T.seq ?_
      refine T.text [.l, .l, .l, .l, .l, .l] rfl ?_
      refine J.move rfl rfl ?_
      refine J.indexSlI sl22 rfl (hA.isSome (by rw [rowA_length]; simp)) rfl (by omega) (by omega) (by first | exact Int.toNat_natCast _ | rfl) rfl ?_
      refine J.loadIN (k := .l) trivial hA (off_nil _) rfl agg56 (a.cells) rfl (by rw [rowA_seg [a] 0 (by simp)]; rfl) rfl ?_
      refine J.alloc 11 rfl zero56 [.int .u8 0, .int .u8 0, .int .u8 0, .int .u8 0, .int .u8 0, .int .u8 0, .int .u8 0, .int .u8 0, .int .u8 0, .int .u8 0, .int .u8 0, .int .u8 0, .int .u8 0, .int .u8 0, .int .u8 0, .int .u8 0, .int .u8 0, .int .u8 0, .int .u8 0, .int .u8 0, .int .u64 0, .int .u64 0, .int .u64 0, .int .u64 0, .int .u64 0, .slice none 0 0, .slice none 0 0] rfl rfl (fun g11 hg11 => ?_)
      refine J.assign rfl rfl ?_
      refine J.store 11 rfl rfl rfl rfl (a.cells) rfl sz56 (Nat.le_of_ble_eq_true rfl) (by first | exact Ac.cells_one _) (Nat.zero_lt_succ _) trivial (a.cells) rfl ?_
      refine J.end ?_
      refine X.then ?_
      refine T.seq ?_
      refine T.text [.l] rfl ?_
      refine J.assign rfl rfl ?_
      refine J.end ?_
      refine X.then ?_
      refine T.seq ?_
      refine T.text [.l, .l, .l, .l, .l, .l, .l, .l, .l, .l] rfl ?_
      refine J.loadN (k := .l) trivial 9 rfl rfl agg50 (wc 0) rfl rfl rfl ?_
      refine J.fieldAddr fld56_2 rfl rfl ?_
      refine J.loadN (k := .l) trivial 11 rfl rfl agg50 (wc a.bal) rfl rfl rfl ?_
      refine J.litWs 62 rfl [0, a.bal] Tryz.underlying128 el50 (Nat.zero_lt_succ _) rfl (by decide) rfl rfl (fun g62 hg62 => ?_)
      refine J.call0 (k := .l) trivial fok80 rfl rfl (fun w hw => Wa.Sum w _ _ [0, a.bal] (hw.blkCs (k := 62) rfl) (by simp)) ?_
      refine J.move rfl rfl ?_
      refine J.extract rfl rfl rfl ?_
      refine J.extract rfl rfl rfl ?_
      refine J.as 65 (.bool true) rfl (by rw [decide_eq_true (sum0 a.bal)]) ?_
      refine J.store 9 rfl rfl rfl rfl (wc (if sumN [0, a.bal] < 2 ^ 256 then sumN [0, a.bal] else 0)) rfl sz50 (by first | decide | exact Nat.le_refl _ | exact Nat.le_of_ble_eq_true rfl | (simp [rowN]; done) | (simp [rowN]; omega)) (by first | exact rowN_one _ _ | (simp; done) | (intro u hu; simp at hu; subst hu; rfl) | (intro u hu; simp at hu; rcases hu with rfl | rfl <;> rfl)) (by first | decide | exact Nat.zero_lt_succ _ | simp) trivial (wc (if sumN [0, a.bal] < 2 ^ 256 then sumN [0, a.bal] else 0)) rfl ?_
      refine J.assign rfl rfl ?_
      refine J.end ?_
      refine X.then ?_
      refine T.seq ?_
      refine T.text [.l, .l] rfl ?_
      refine J.move rfl rfl ?_
      refine J.not rfl rfl rfl ?_
      refine J.end ?_
      refine X.then ?_
      refine T.cond_false rfl ?_
      refine T.skip ?_
      refine X.inBlock (X.then ?_)
      refine T.text [.l, .l] rfl ?_
      refine J.add rfl rfl rfl (by first | exact add_nat _ 1 (by omega) | exact i64_ok _ (by omega) | exact rfl) ?_
      refine J.move rfl rfl ?_
      refine J.end ?_
      exact X.round ⟨(0 + 1), (if sumN [0, a.bal] < 2 ^ 256 then sumN [0, a.bal] else 0)⟩ ⟨Nat.le_refl _, fun q => by cases q⟩ (by first | omega | (dsimp only; omega)) (by repeat (first | exact Sub.nil _ | refine Sub.cons (by first | rfl | (rw [dgs_zero]; rfl) | (rw [List.drop_length]; rfl) | (simp; done) | (congr 2; omega) | (congr 3; omega)) ?_)) (by repeat (first | exact Sub.nil _ | refine Sub.cons (by first | rfl | (rw [dgs_zero]; rfl) | (rw [List.drop_length]; rfl) | (simp; done) | (congr 2; omega) | (congr 3; omega)) ?_))
    · skip
      refine T.exit ?_
      refine X.then_exit (X.then_exit (X.inBlock_eq (X.then ?_)))
      refine T.seq ?_
      refine T.text [.l, .l, .l, .l] rfl ?_
      refine J.move rfl rfl ?_
      refine J.assign rfl rfl ?_
      refine J.assign rfl rfl ?_
      refine J.assign rfl rfl ?_
      refine J.end ?_
      refine X.then ?_
      refine T.ret ?_
      exact X.ret3 rfl (RV.tmp rfl) (RV.tmp rfl) (RV.tmp rfl) (fun w' hw' => ⟨.slice (some ⟨g15, 0, none⟩) 1 1, trivial, rfl, hw'.sub (Sub.nil _)⟩)

theorem Check (w : World) (A1 : Option Addr) (c1 : Nat) (a : Ac) (hA : Cs w A1 (rowA [a])) (hc : a.code.length = 0) (h0 : lookZ a = 0) :
    Calls Tryz.prog 35 [.slice A1 1 c1].toArray w fun e w' => e = .returned (.tuple #[.int .i64 0, .int .i64 0]) ∧ WS w [] [] w' := by
  refine calls_of_T [] 15 [] Tryz.func35 rfl Tryz.ntmps35 (by simp) (WS.refl _ _) ?_
  refine T.seq ?_
  refine T.text [.l, .l] rfl ?_
  refine J.assign rfl rfl ?_
  refine J.assign rfl rfl ?_
  refine J.end ?_
  refine X.then ?_
  refine T.seq ?_
  refine T.text [.l, .l, .l, .l, .l, .l, .l, .l, .l] rfl ?_
  refine J.move rfl rfl ?_
  refine J.callB fok62 rfl rfl _ _ [] (by repeat (first | exact Sub.nil _ | refine Sub.cons (by first | rfl | (rw [dgs_zero]; rfl) | (rw [List.drop_length]; rfl) | (simp; done) | (congr 2; omega) | (congr 3; omega)) ?_ | exact Sub.refl _ | refine sub_snap ?_ rfl)) rfl (fun _ _ => Sub.nil _) (fun w hw => Dj.codes w _ _ a (hA.ws hw (off_nil _)) hc h0) (fun i9 W9 hP9 hW9 => ?_)
  have hVW9 := hW9.sub (Sub.nil _)
  refine J.move rfl rfl ?_
  refine J.extract rfl rfl rfl ?_
  refine J.extract rfl rfl rfl ?_
  refine J.extract rfl rfl rfl ?_
  refine J.assign rfl rfl ?_
  refine J.assign rfl rfl ?_
  refine J.assign rfl rfl ?_
  refine J.end ?_
  refine X.then ?_
  refine T.seq ?_
  refine T.text [.l, .l, .l, .l] rfl ?_
  refine J.move rfl rfl ?_
  refine J.move rfl rfl ?_
  refine J.assign rfl rfl ?_
  refine J.assign rfl rfl ?_
  refine J.end ?_
  refine X.then ?_
  refine T.ret ?_
  exact X.ret2 rfl (RV.tmp rfl) (RV.tmp rfl) (fun w' hw' => ⟨rfl, hw'.sub (Sub.nil _)⟩)
end Go.Proofs.YtlllcafedekojaaGreatDoor.Dj
set_option linter.unusedVariables false
set_option maxRecDepth 20000
namespace Go.Proofs.YtlllcafedekojaaGreatDoor.Dk
open Go Go.Fw

theorem sz287 : SizeT Tryz.prog 287 32 := (by unfold SizeT; kernel_rfl)
theorem zero50 : ZeroT Tryz.prog 50 (.agg ([.int .u64 0, .int .u64 0, .int .u64 0, .int .u64 0]).toArray) := (by unfold ZeroT; kernel_rfl)
theorem sz48 : SizeT Tryz.prog 48 1 := (by unfold SizeT; kernel_rfl)
theorem fld56_1 : FldT Tryz.prog 56 1 48 20 0 := ⟨by kernel_rfl, sz48⟩
theorem one48 : OneT Tryz.prog 48 := ⟨⟨_, Tryz.underlying48, rfl⟩, by kernel_rfl⟩
theorem fok82 : FnOk Tryz.prog 82 := FnOk.mk' Tryz.func82 (by kernel_rfl) rfl
theorem sz50 : SizeT Tryz.prog 50 4 := (by unfold SizeT; kernel_rfl)
theorem agg50 : AggT Tryz.prog 50 4 := ⟨⟨_, Tryz.underlying50, rfl⟩, by kernel_rfl⟩
theorem fld56_2 : FldT Tryz.prog 56 2 50 21 3 := ⟨by kernel_rfl, sz50⟩
theorem sz51 : SizeT Tryz.prog 51 1 := (by unfold SizeT; kernel_rfl)
theorem fld56_3 : FldT Tryz.prog 56 3 51 25 0 := ⟨by kernel_rfl, sz51⟩
theorem one51 : OneT Tryz.prog 51 := ⟨⟨_, Tryz.underlying51, rfl⟩, by kernel_rfl⟩
theorem fok84 : FnOk Tryz.prog 84 := FnOk.mk' Tryz.func84 (by kernel_rfl) rfl
theorem zero97 : ZeroT Tryz.prog 97 (.agg ([.nilFunc, .nilFunc, .nilFunc, .nilFunc, .nilFunc, .nilFunc, .nilFunc, .nilFunc]).toArray) := (by unfold ZeroT; kernel_rfl)
theorem sz97 : SizeT Tryz.prog 97 8 := (by unfold SizeT; kernel_rfl)
theorem agg97 : AggT Tryz.prog 97 8 := ⟨⟨_, Tryz.underlying97, rfl⟩, by kernel_rfl⟩

theorem getN (w : World) (g : Nat) (a : Ac) (hn : a.nonce < 18446744073709551616) (hcS : Cs w (some ⟨g, 0, none⟩) a.cells) :
    Calls Tryz.prog 81 [.pointer (some ⟨g, 0, none⟩)].toArray w fun e w' => e = .returned (.tuple #[W a.nonce, .slice none 0 0]) ∧ WS w [] [] w' := by
  refine calls_of_T [] 9 [] Tryz.func81 rfl Tryz.ntmps81 (by simp) (WS.refl _ _) ?_
  refine T.seq ?_
  refine T.text [.l, .l] rfl ?_
  refine J.alloc 2 rfl zero50 [.int .u64 0, .int .u64 0, .int .u64 0, .int .u64 0] rfl rfl (fun g2 hg2 => ?_)
  refine J.assign rfl rfl ?_
  refine J.end ?_
  refine X.then ?_
  refine T.seq ?_
  refine T.text [.l, .l, .l, .l, .l, .l, .l] rfl ?_
  refine J.move rfl rfl ?_
  refine J.nilCheck rfl rfl ?_
  refine J.fieldAddr fld56_1 rfl rfl ?_
  refine J.loadB1 (k := .l) trivial hcS (off_nil _) rfl one48 rfl rfl ?_
  refine J.call0 (k := .l) trivial fok82 rfl rfl (fun w hw => Di.FromUint w a.nonce hn) ?_
  refine J.store 2 rfl rfl rfl rfl (wc a.nonce) rfl sz50 (by first | decide | exact Nat.le_refl _ | exact Nat.le_of_ble_eq_true rfl | (simp [rowN]; done) | (simp [rowN]; omega)) (by first | exact rowN_one _ _ | (simp; done) | (intro u hu; simp at hu; subst hu; rfl) | (intro u hu; simp at hu; rcases hu with rfl | rfl <;> rfl)) (by first | decide | exact Nat.zero_lt_succ _ | simp) trivial (wc a.nonce) rfl ?_
  refine J.assign rfl rfl ?_
  refine J.end ?_
  refine X.then ?_
  refine T.ret ?_
  exact X.ret2 rfl (RV.agg 2 rfl rfl agg50 (wc a.nonce) (by rfl) (by rfl) rfl) (RV.tmp rfl) (fun w' hw' => ⟨rfl, hw'.sub (Sub.nil _)⟩)

theorem getB (w : World) (g : Nat) (a : Ac) (hn : a.nonce < 18446744073709551616) (hcS : Cs w (some ⟨g, 0, none⟩) a.cells) :
    Calls Tryz.prog 85 [.pointer (some ⟨g, 0, none⟩)].toArray w fun e w' => e = .returned (.tuple #[W a.bal, .slice none 0 0]) ∧ WS w [] [] w' := by
  refine calls_of_T [] 8 [] Tryz.func85 rfl Tryz.ntmps85 (by simp) (WS.refl _ _) ?_
  refine T.seq ?_
  refine T.text [.l, .l] rfl ?_
  refine J.alloc 2 rfl zero50 [.int .u64 0, .int .u64 0, .int .u64 0, .int .u64 0] rfl rfl (fun g2 hg2 => ?_)
  refine J.assign rfl rfl ?_
  refine J.end ?_
  refine X.then ?_
  refine T.seq ?_
  refine T.text [.l, .l, .l, .l, .l, .l] rfl ?_
  refine J.move rfl rfl ?_
  refine J.nilCheck rfl rfl ?_
  refine J.fieldAddr fld56_2 rfl rfl ?_
  refine J.loadBW (k := .l) trivial hcS (off_nil _) rfl agg50 rfl rfl ?_
  refine J.store 2 rfl rfl rfl rfl (wc a.bal) rfl sz50 (by first | decide | exact Nat.le_refl _ | exact Nat.le_of_ble_eq_true rfl | (simp [rowN]; done) | (simp [rowN]; omega)) (by first | exact rowN_one _ _ | (simp; done) | (intro u hu; simp at hu; subst hu; rfl) | (intro u hu; simp at hu; rcases hu with rfl | rfl <;> rfl)) (by first | decide | exact Nat.zero_lt_succ _ | simp) trivial (wc a.bal) rfl ?_
  refine J.assign rfl rfl ?_
  refine J.end ?_
  refine X.then ?_
  refine T.ret ?_
  exact X.ret2 rfl (RV.agg 2 rfl rfl agg50 (wc a.bal) (by rfl) (by rfl) rfl) (RV.tmp rfl) (fun w' hw' => ⟨rfl, hw'.sub (Sub.nil _)⟩)

theorem getC (w : World) (g : Nat) (a : Ac) (hn : a.nonce < 18446744073709551616) (hcS : Cs w (some ⟨g, 0, none⟩) a.cells) :
    Calls Tryz.prog 87 [.pointer (some ⟨g, 0, none⟩)].toArray w fun e w' => e = .returned (.tuple #[W 0, .slice a.cA a.code.length a.cC]) ∧ WS w [] [] w' := by
  refine calls_of_T [] 9 [] Tryz.func87 rfl Tryz.ntmps87 (by simp) (WS.refl _ _) ?_
  refine T.seq ?_
  refine T.text [.l, .l] rfl ?_
  refine J.alloc 2 rfl zero50 [.int .u64 0, .int .u64 0, .int .u64 0, .int .u64 0] rfl rfl (fun g2 hg2 => ?_)
  refine J.assign rfl rfl ?_
  refine J.end ?_
  refine X.then ?_
  refine T.seq ?_
  refine T.draw [] [(0, .g), (1, .g), (2, .g), (3, .g), (4, .s), (5, .l), (6, .g)] (by kernel_rfl) (by kernel_rfl) ?_ (by repeat (first | exact Sub.nil _ | refine Sub.cons (by first | rfl | (rw [dgs_zero]; rfl) | (rw [List.drop_length]; rfl) | (simp; done) | (congr 2; omega) | (congr 3; omega)) ?_))
  refine J.build rfl rfl (W 0) (fun w => by kernel_rfl) ?_
  refine J.move rfl rfl ?_
  refine J.nilCheck rfl rfl ?_
  refine J.fieldAddr fld56_3 rfl rfl ?_
  refine J.loadB1s hcS (off_nil _) rfl one51 rfl rfl ?_
  refine J.store 2 rfl rfl rfl rfl (wc 0) rfl sz50 (by first | decide | exact Nat.le_refl _ | exact Nat.le_of_ble_eq_true rfl | (simp [rowN]; done) | (simp [rowN]; omega)) (by first | exact rowN_one _ _ | (simp; done) | (intro u hu; simp at hu; subst hu; rfl) | (intro u hu; simp at hu; rcases hu with rfl | rfl <;> rfl)) (by first | decide | exact Nat.zero_lt_succ _ | simp) trivial (wc 0) rfl ?_
  refine J.assign rfl rfl ?_
  refine J.end ?_
  refine X.then ?_
  refine T.ret ?_
  exact X.ret2 rfl (RV.agg 2 rfl rfl agg50 (wc 0) (by rfl) (by rfl) rfl) (RV.tmp rfl) (fun w' hw' => ⟨rfl, hw'.sub (Sub.nil _)⟩)

theorem setN (w : World) (g : Nat) (a : Ac) (x0 : Nat) (v : Value) (hat : Ent.At w ⟨some g, 56, a.cells⟩) :
    Calls Tryz.prog 83 [.pointer (some ⟨g, 0, none⟩), W x0, v].toArray w fun e w' => e = .returned (.tuple #[]) ∧ WS w [g] [(0, ⟨some g, 56, (a.setN x0).cells⟩)] w' := by
  refine calls_of_T [g] 14 [(0, ⟨some g, 56, a.cells⟩)] Tryz.func83 rfl Tryz.ntmps83 (by simp) (WS.one hat) ?_
  refine T.seq ?_
  refine T.text [.l] rfl ?_
  refine J.box 4 rfl rfl (wc x0) rfl rfl (fun g4 hg4 => ?_)
  refine J.end ?_
  refine X.then ?_
  refine T.text [.l, .l, .l, .l, .l, .l, .l, .l, .l] rfl ?_
  refine J.move rfl rfl ?_
  refine J.loadN (k := .l) trivial 4 rfl rfl agg50 (wc x0) rfl rfl rfl ?_
  refine J.call0 (k := .l) trivial fok84 rfl rfl (fun w hw => Wa.Uint w _) ?_
  refine J.move rfl rfl ?_
  refine J.extract rfl rfl rfl ?_
  refine J.extract rfl rfl rfl ?_
  refine J.nilCheck rfl rfl ?_
  refine J.fieldAddr fld56_1 rfl rfl ?_
  refine J.store 0 rfl rfl rfl rfl [.int .u64 ((if sizeN x0 > 8 then 0 else lim x0 0 : Nat) : Int)] rfl sz48 (by first | decide | exact Nat.le_refl _ | exact Nat.le_of_ble_eq_true rfl | (simp [rowN]; done) | (simp [rowN]; omega)) (by first | exact rowN_one _ _ | (simp; done) | (intro u hu; simp at hu; subst hu; rfl) | (intro u hu; simp at hu; rcases hu with rfl | rfl <;> rfl)) (by first | decide | exact Nat.zero_lt_succ _ | simp) trivial (a.setN x0).cells rfl ?_
  refine J.end ?_
  exact X.end0 rfl (fun w' hw' => ⟨rfl, hw'.only 0 0 rfl⟩)

theorem setB (w : World) (g : Nat) (a : Ac) (x0 : Nat) (v : Value) (hat : Ent.At w ⟨some g, 56, a.cells⟩) :
    Calls Tryz.prog 86 [.pointer (some ⟨g, 0, none⟩), W x0, v].toArray w fun e w' => e = .returned (.tuple #[]) ∧ WS w [g] [(0, ⟨some g, 56, (a.setB x0).cells⟩)] w' := by
  refine calls_of_T [g] 10 [(0, ⟨some g, 56, a.cells⟩)] Tryz.func86 rfl Tryz.ntmps86 (by simp) (WS.one hat) ?_
  refine T.seq ?_
  refine T.text [.l] rfl ?_
  refine J.box 4 rfl rfl (wc x0) rfl rfl (fun g4 hg4 => ?_)
  refine J.end ?_
  refine X.then ?_
  refine T.text [.l, .l, .l, .l, .l] rfl ?_
  refine J.move rfl rfl ?_
  refine J.loadN (k := .l) trivial 4 rfl rfl agg50 (wc x0) rfl rfl rfl ?_
  refine J.nilCheck rfl rfl ?_
  refine J.fieldAddr fld56_2 rfl rfl ?_
  refine J.store 0 rfl rfl rfl rfl (wc x0) rfl sz50 (by first | decide | exact Nat.le_refl _ | exact Nat.le_of_ble_eq_true rfl | (simp [rowN]; done) | (simp [rowN]; omega)) (by first | exact rowN_one _ _ | (simp; done) | (intro u hu; simp at hu; subst hu; rfl) | (intro u hu; simp at hu; rcases hu with rfl | rfl <;> rfl)) (by first | decide | exact Nat.zero_lt_succ _ | simp) trivial (a.setB x0).cells rfl ?_
  refine J.end ?_
  exact X.end0 rfl (fun w' hw' => ⟨rfl, hw'.only 0 0 rfl⟩)

theorem views (w : World) :
    Calls Tryz.prog 64 [].toArray w fun e w' => e = .returned (.agg ([.nilFunc, .nilFunc, .func (.func 81) #[] #[], .func (.func 83) #[] #[], .func (.func 85) #[] #[], .func (.func 86) #[] #[], .func (.func 87) #[] #[], .func (.func 88) #[] #[]] : List Value).toArray) ∧ WS w [] [] w' := by
  refine calls_of_T [] 5 [] Tryz.func64 rfl Tryz.ntmps64 (by simp) (WS.refl _ _) ?_
  refine T.seq ?_
  refine T.text [.l] rfl ?_
  refine J.alloc 0 rfl zero97 [.nilFunc, .nilFunc, .nilFunc, .nilFunc, .nilFunc, .nilFunc, .nilFunc, .nilFunc] rfl rfl (fun g0 hg0 => ?_)
  refine J.end ?_
  refine X.then ?_
  refine T.seq ?_
  refine T.text [.l, .l, .l, .l, .l] rfl ?_
  refine J.build rfl rfl (.agg ([.func (.func 81) #[] #[], .func (.func 83) #[] #[]] : List Value).toArray) (fun w => by kernel_rfl) ?_
  refine J.build rfl rfl (.agg ([.func (.func 85) #[] #[], .func (.func 86) #[] #[]] : List Value).toArray) (fun w => by kernel_rfl) ?_
  refine J.build rfl rfl (.agg ([.func (.func 87) #[] #[], .func (.func 88) #[] #[]] : List Value).toArray) (fun w => by kernel_rfl) ?_
  refine J.build rfl rfl (.agg ([.nilFunc, .nilFunc, .func (.func 81) #[] #[], .func (.func 83) #[] #[], .func (.func 85) #[] #[], .func (.func 86) #[] #[], .func (.func 87) #[] #[], .func (.func 88) #[] #[]] : List Value).toArray) (fun w => by kernel_rfl) ?_
  refine J.store 0 rfl rfl rfl rfl ([.nilFunc, .nilFunc, .func (.func 81) #[] #[], .func (.func 83) #[] #[], .func (.func 85) #[] #[], .func (.func 86) #[] #[], .func (.func 87) #[] #[], .func (.func 88) #[] #[]] : List Value) rfl sz97 (by first | decide | exact Nat.le_refl _ | exact Nat.le_of_ble_eq_true rfl | (simp [rowN]; done) | (simp [rowN]; omega)) (by intro u hu; simp at hu; rcases hu with rfl | rfl | rfl | rfl | rfl | rfl | rfl | rfl <;> rfl) (by first | decide | exact Nat.zero_lt_succ _ | simp) trivial ([.nilFunc, .nilFunc, .func (.func 81) #[] #[], .func (.func 83) #[] #[], .func (.func 85) #[] #[], .func (.func 86) #[] #[], .func (.func 87) #[] #[], .func (.func 88) #[] #[]] : List Value) rfl ?_
  refine J.end ?_
  refine X.then ?_
  refine T.ret ?_
  exact X.ret1 rfl (RV.agg 0 rfl rfl agg97 ([.nilFunc, .nilFunc, .func (.func 81) #[] #[], .func (.func 83) #[] #[], .func (.func 85) #[] #[], .func (.func 86) #[] #[], .func (.func 87) #[] #[], .func (.func 88) #[] #[]] : List Value) (by rfl) (by rfl) rfl) (fun w' hw' => ⟨rfl, hw'.sub (Sub.nil _)⟩)
end Go.Proofs.YtlllcafedekojaaGreatDoor.Dk
set_option linter.unusedVariables false
set_option maxRecDepth 20000
namespace Go.Proofs.YtlllcafedekojaaGreatDoor.Dl
open Go Go.Fw

theorem sz287 : SizeT Tryz.prog 287 32 := (by unfold SizeT; kernel_rfl)

theorem slots (w : World) (Ad Aa Ab : Option Addr) (n cd ca cb x : Nat) :
    Calls Tryz.prog 65 [.slice Ad n cd, .agg (ac x).toArray, .slice Aa 0 ca, .slice Ab 0 cb].toArray w fun e w' => e = .returned (.slice Ad n cd) ∧ WS w [] [] w' := by
  refine calls_of_T [] 73 [] Tryz.func65 rfl Tryz.ntmps65 (by simp) (WS.refl _ _) ?_
  refine T.seq ?_
  refine T.text [.l, .l] rfl ?_
  refine J.box 5 rfl rfl (ac x) rfl rfl (fun g5 hg5 => ?_)
  refine J.assign rfl rfl ?_
  refine J.end ?_
  refine X.then ?_
  refine T.scope ?_
  refine T.seq ?_
  refine T.label ?_
  refine X.then ?_
  refine T.seq ?_
  refine T.block ?_
  refine T.loop (ι := Nat) (fun (i : Nat) => i = 0) (fun (i : Nat) => [(1, .agg (ac x).toArray), (5, .pointer (some ⟨g5, 0, none⟩)), (8, .slice none 0 0), (0, .slice Ad n cd), (2, .slice Aa 0 ca), (3, .slice Ab 0 cb)]) (fun (i : Nat) => [(5, ⟨some g5, 47, (ac x)⟩)]) (fun (i : Nat) => i) 0 rfl (by repeat (first | exact Sub.nil _ | refine Sub.cons (by first | rfl | (rw [dgs_zero]; rfl) | (rw [List.drop_length]; rfl) | (simp; done) | (congr 2; omega) | (congr 3; omega)) ?_)) (by repeat (first | exact Sub.nil _ | refine Sub.cons (by first | rfl | (rw [dgs_zero]; rfl) | (rw [List.drop_length]; rfl) | (simp; done) | (congr 2; omega) | (congr 3; omega)) ?_)) ?_
  rintro i hi0
  refine T.seq ?_
  refine T.seq ?_
  refine T.text [.l, .l, .l, .l, .l, .l, .l, .l] rfl ?_
  refine J.move rfl rfl ?_
  refine J.lenSl Tryz.underlying54 rfl rfl ?_
  refine J.gtr rfl rfl rfl (show decide ((0:Int) > 0) = false by decide) ?_
  refine J.move rfl rfl ?_
  refine J.yes rfl rfl ?_
  refine J.move rfl rfl ?_
  refine J.yes rfl rfl ?_
  refine J.lenSl Tryz.underlying54 rfl rfl ?_
  refine J.yes rfl rfl ?_
  refine J.gtr rfl rfl rfl (show decide ((0:Int) > 0) = false by decide) ?_
  refine J.pick_f rfl rfl rfl ?_
  refine J.end ?_
  refine X.then ?_
  refine T.cond_false rfl ?_
  refine T.exit ?_
  refine X.then_exit (X.then_exit (X.inBlock_eq (X.then ?_)))
  refine T.seq ?_
  refine T.text [.l, .l] rfl ?_
  refine J.move rfl rfl ?_
  refine J.assign rfl rfl ?_
  refine J.end ?_
  refine X.then ?_
  refine T.ret ?_
  refine X.scope_ret ?_
  exact X.ret1 rfl (RV.tmp rfl) (fun w' hw' => ⟨rfl, hw'.sub (Sub.nil _)⟩)

theorem store (w : World) (Aa Ab : Option Addr) (ca cb : Nat) :
    Calls Tryz.prog 73 [.slice Aa 0 ca, .slice Ab 0 cb].toArray w fun e w' => e = .returned (.tuple #[.slice none 0 0, .bool true]) ∧ WS w [] [] w' := by
  refine calls_of_T [] 77 [] Tryz.func73 rfl Tryz.ntmps73 (by simp) (WS.refl _ _) ?_
  refine T.seq ?_
  refine T.text [.l, .l] rfl ?_
  refine J.assign rfl rfl ?_
  refine J.assign rfl rfl ?_
  refine J.end ?_
  refine X.then ?_
  refine T.seq ?_
  refine T.text [.l] rfl ?_
  refine J.assign rfl rfl ?_
  refine J.end ?_
  refine X.then ?_
  refine T.seq ?_
  refine T.block ?_
  refine T.loop (ι := Nat) (fun (i : Nat) => i = 0) (fun (i : Nat) => [(0, .slice Aa 0 ca), (1, .slice Ab 0 cb), (6, .slice none 0 0)]) (fun (i : Nat) => []) (fun (i : Nat) => i) 0 rfl (by repeat (first | exact Sub.nil _ | refine Sub.cons (by first | rfl | (rw [dgs_zero]; rfl) | (rw [List.drop_length]; rfl) | (simp; done) | (congr 2; omega) | (congr 3; omega)) ?_)) (by repeat (first | exact Sub.nil _ | refine Sub.cons (by first | rfl | (rw [dgs_zero]; rfl) | (rw [List.drop_length]; rfl) | (simp; done) | (congr 2; omega) | (congr 3; omega)) ?_)) ?_
  rintro i hi0
  refine T.seq ?_
  refine T.seq ?_
  refine T.text [.l, .l, .l, .l, .l, .l, .l, .l] rfl ?_
  refine J.move rfl rfl ?_
  refine J.lenSl Tryz.underlying54 rfl rfl ?_
  refine J.gtr rfl rfl rfl (show decide ((0:Int) > 0) = false by decide) ?_
  refine J.move rfl rfl ?_
  refine J.yes rfl rfl ?_
  refine J.move rfl rfl ?_
  refine J.yes rfl rfl ?_
  refine J.lenSl Tryz.underlying25 rfl rfl ?_
  refine J.yes rfl rfl ?_
  refine J.gtr rfl rfl rfl (show decide ((0:Int) > 0) = false by decide) ?_
  refine J.pick_f rfl rfl rfl ?_
  refine J.end ?_
  refine X.then ?_
  refine T.cond_false rfl ?_
  refine T.exit ?_
  refine X.then_exit (X.then_exit (X.inBlock_eq (X.then ?_)))
  refine T.seq ?_
  refine T.text [.l, .l, .l] rfl ?_
  refine J.move rfl rfl ?_
  refine J.assign rfl rfl ?_
  refine J.assign rfl rfl ?_
  refine J.end ?_
  refine X.then ?_
  refine T.ret ?_
  exact X.ret2 rfl (RV.tmp rfl) (RV.tmp rfl) (fun w' hw' => ⟨rfl, hw'.sub (Sub.nil _)⟩)
end Go.Proofs.YtlllcafedekojaaGreatDoor.Dl
