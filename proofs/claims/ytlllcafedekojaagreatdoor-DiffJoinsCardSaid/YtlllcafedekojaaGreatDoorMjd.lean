/-
  Texts that the statement stands on, one behind the other: plain lemmas and walks of functions.
  No condition.
-/
import Derived.Test.YtlllcafedekojaaGreatDoorChecked
import Derived.Test.YtlllcafedekojaaGreatDoorMja
import Derived.Test.YtlllcafedekojaaGreatDoorMjb
import Derived.Test.YtlllcafedekojaaGreatDoorMjc
set_option linter.unusedVariables false
set_option maxRecDepth 20000
namespace Go.Proofs.YtlllcafedekojaaGreatDoor.Dc
open Go Go.Fw

theorem sz287 : SizeT Tryz.prog 287 32 := (by unfold SizeT; kernel_rfl)
theorem sz25 : SizeT Tryz.prog 25 1 := (by unfold SizeT; kernel_rfl)
theorem sl43 : SlT Tryz.prog 43 25 1 := ⟨Tryz.underlying43, sz25⟩
theorem one25 : OneT Tryz.prog 25 := ⟨⟨_, Tryz.underlying25, rfl⟩, by kernel_rfl⟩
theorem fok49 : FnOk Tryz.prog 49 := FnOk.mk' Tryz.func49 (by kernel_rfl) rfl
theorem sz53 : SizeT Tryz.prog 53 35 := (by unfold SizeT; kernel_rfl)
theorem sl25 : SlT Tryz.prog 25 53 35 := ⟨Tryz.underlying25, sz53⟩
theorem agg53 : AggT Tryz.prog 53 35 := ⟨⟨_, Tryz.underlying53, rfl⟩, by kernel_rfl⟩
theorem fok58 : FnOk Tryz.prog 58 := FnOk.mk' Tryz.func58 (by kernel_rfl) rfl
theorem el53 : ElT Tryz.prog 53 35 176 (.agg ([.int .u8 0, .int .u8 0, .int .u8 0, .int .u8 0, .int .u8 0, .int .u8 0, .int .u8 0, .int .u8 0, .int .u8 0, .int .u8 0, .int .u8 0, .int .u8 0, .int .u8 0, .int .u8 0, .int .u8 0, .int .u8 0, .int .u8 0, .int .u8 0, .int .u8 0, .int .u8 0, .int .i64 0, .int .u64 0, .int .u64 0, .int .u64 0, .int .u64 0, .int .u64 0, .int .u64 0, .int .u64 0, .int .u64 0, .int .u64 0, .int .u64 0, .int .u64 0, .int .u64 0, .slice none 0 0, .slice none 0 0]).toArray) := ⟨by kernel_rfl, rfl, by decide, by decide⟩
theorem fok59 : FnOk Tryz.prog 59 := FnOk.mk' Tryz.func59 (by kernel_rfl) rfl
theorem zero53 : ZeroT Tryz.prog 53 (.agg ([.int .u8 0, .int .u8 0, .int .u8 0, .int .u8 0, .int .u8 0, .int .u8 0, .int .u8 0, .int .u8 0, .int .u8 0, .int .u8 0, .int .u8 0, .int .u8 0, .int .u8 0, .int .u8 0, .int .u8 0, .int .u8 0, .int .u8 0, .int .u8 0, .int .u8 0, .int .u8 0, .int .i64 0, .int .u64 0, .int .u64 0, .int .u64 0, .int .u64 0, .int .u64 0, .int .u64 0, .int .u64 0, .int .u64 0, .int .u64 0, .int .u64 0, .int .u64 0, .int .u64 0, .slice none 0 0, .slice none 0 0]).toArray) := (by unfold ZeroT; kernel_rfl)
theorem sz50 : SizeT Tryz.prog 50 4 := (by unfold SizeT; kernel_rfl)
theorem fld53_4 : FldT Tryz.prog 53 4 50 29 3 := ⟨by kernel_rfl, sz50⟩
theorem agg50 : AggT Tryz.prog 50 4 := ⟨⟨_, Tryz.underlying50, rfl⟩, by kernel_rfl⟩
theorem fld53_3 : FldT Tryz.prog 53 3 50 25 3 := ⟨by kernel_rfl, sz50⟩
theorem sz48 : SizeT Tryz.prog 48 1 := (by unfold SizeT; kernel_rfl)
theorem arr50 : ArrT Tryz.prog 50 4 48 1 := ⟨Tryz.underlying50, sz48⟩
theorem one48 : OneT Tryz.prog 48 := ⟨⟨_, Tryz.underlying48, rfl⟩, by kernel_rfl⟩
theorem eqw50 : EqT Tryz.prog 50 := ⟨⟨48, arr50, one48, Tryz.underlying48⟩, by kernel_rfl⟩
theorem sz51 : SizeT Tryz.prog 51 1 := (by unfold SizeT; kernel_rfl)
theorem fld53_6 : FldT Tryz.prog 53 6 51 34 0 := ⟨by kernel_rfl, sz51⟩
theorem one51 : OneT Tryz.prog 51 := ⟨⟨_, Tryz.underlying51, rfl⟩, by kernel_rfl⟩
theorem fld53_5 : FldT Tryz.prog 53 5 51 33 0 := ⟨by kernel_rfl, sz51⟩
theorem fok60 : FnOk Tryz.prog 60 := FnOk.mk' Tryz.func60 (by kernel_rfl) rfl
theorem fok61 : FnOk Tryz.prog 61 := FnOk.mk' Tryz.func61 (by kernel_rfl) rfl

set_option maxHeartbeats 1000000 in
theorem Join (w : World) (n : Nat) (B : List (Option Nat)) (A1 A2 : Option Addr) (c1 c2 : Nat) (ps bs : List Ch) (hn : n ≤ w.heap.size) (hB : ∀ g, some g ∈ B → g < w.heap.size) (hA1 : Cs w A1 (rowC ps)) (hb1 : ps.length ≤ c1) (hd1 : AllC w n B ps) (hA2 : Cs w A2 (rowC bs)) (hb2 : bs.length ≤ c2) (hd2 : AllC w n B bs) (hl1 : ps.length ≤ 1000000000) (hl2 : bs.length ≤ 1000000000) :
    Calls Tryz.prog 32 [.slice A1 ps.length c1, .slice A2 bs.length c2].toArray w fun e w' => ∃ q : List Ch × RowIx, (q.1.map Ch.v = (joinZ (ps.map Ch.v) (bs.map Ch.v)).1 ∧ q.2.Ok 35 q.1.length ∧ Fit w' n B (hdOf q.2.id) (rowC q.1) ∧ AllC w' n B q.1) ∧ e = .returned (.tuple #[q.2.val q.1.length, .int .i64 (joinZ (ps.map Ch.v) (bs.map Ch.v)).2]) ∧ WS w [] [] w' := by
  refine calls_of_T [] 127 [] Tryz.func32 rfl Tryz.ntmps32 (by simp) (WS.refl _ _) ?_
  refine T.seq ?_
  refine T.text [.l, .l] rfl ?_
  refine J.assign rfl rfl ?_
  refine J.assign rfl rfl ?_
  refine J.end ?_
  refine X.then ?_
  refine T.scope ?_
  refine T.seq ?_
  refine T.seq ?_
  refine T.text [.l, .l, .l, .l, .l] rfl ?_
  refine J.move rfl rfl ?_
  refine J.move rfl rfl ?_
  refine J.buildSlice 13 rfl (e := 25) rfl rfl [.slice A1 ps.length c1, .slice A2 bs.length c2] (fun w => by kernel_rfl) (fun g13 hg13 => ?_)
  refine J.lenSl Tryz.underlying43 rfl rfl ?_
  refine J.move rfl rfl ?_
  refine J.end ?_
  refine X.then ?_
  refine T.block ?_
  refine T.loop (ι := Nat) (fun (j : Nat) => j ≤ 2 ∧ (0 < j → formZ (ps.map Ch.v) = 0) ∧ (1 < j → formZ (bs.map Ch.v) = 0)) (fun (j : Nat) => [(0, .slice A1 ps.length c1), (1, .slice A2 bs.length c2), (11, .slice A1 ps.length c1), (12, .slice A2 bs.length c2), (13, .slice (some ⟨g13, 0, none⟩) 2 2), (14, .int .i64 ((2 : Nat) : Int)), (15, .int .i64 (j : Int))]) (fun (j : Nat) => [(13, ⟨some g13, 25, [.slice A1 ps.length c1, .slice A2 bs.length c2]⟩)]) (fun (j : Nat) => 2 - j) 0 ⟨by omega, fun q => by omega, fun q => by omega⟩ (by repeat (first | exact Sub.nil _ | refine Sub.cons (by first | rfl | (rw [dgs_zero]; rfl) | (rw [List.drop_length]; rfl) | (simp; done) | (congr 2; omega) | (congr 3; omega)) ?_ | exact Sub.refl _ | refine sub_snap ?_ rfl)) (by repeat (first | exact Sub.nil _ | refine Sub.cons (by first | rfl | (rw [dgs_zero]; rfl) | (rw [List.drop_length]; rfl) | (simp; done) | (congr 2; omega) | (congr 3; omega)) ?_ | exact Sub.refl _ | refine sub_snap ?_ rfl)) ?_
  rintro j ⟨hj2, hfa, hfb⟩
  refine T.seq ?_
  refine T.text [.l] rfl ?_
  refine J.lss rfl rfl rfl rfl ?_
  refine J.end ?_
  refine X.then ?_
  refine T.seq ?_
  refine T.cond_dec rfl (fun h1 => ?_) (fun h1 => ?_)
  · have hjl : j < 2 := by omega
    obtain ⟨Aj, cj, dj, hcell, hAj, hdj, hlj, hjeq⟩ := two_rows (c1 := c1) (c2 := c2) hA1 hA2 hd1 hd2 hl1 hl2 hjl
    refine T.skip ?_
    refine X.then ?_
    refine T.seq ?_
    refine T.block ?_
    refine T.seq ?_
    refine T.text [.l, .l, .l] rfl ?_
    refine J.indexSlB sl43 rfl rfl (by omega) (by omega) (by first | exact Int.toNat_natCast _ | rfl) rfl ?_
    refine J.load1 (k := .l) trivial 13 rfl rfl one25 (by rw [Nat.zero_add, Nat.mul_one]; exact hcell) rfl ?_
    refine J.assign rfl rfl ?_
    refine J.end ?_
    refine X.then ?_
    refine T.seq ?_
    refine T.text [.l, .l, .l] rfl ?_
    refine J.move rfl rfl ?_
    refine J.call0 (k := .l) trivial fok49 rfl rfl (fun w hw => Db.form w n B _ _ _ (hAj.ws hw (off_nil _)) (hdj.keep ((keep_base (l1 := []) hn (fun g hg => by cases hg) hw (Sub.nil _) rfl).le (fun o h => List.mem_append_left _ h))) (by omega)) ?_
    refine J.assign rfl rfl ?_
    refine J.end ?_
    refine X.then ?_
    refine T.seq ?_
    refine T.text [.l, .l] rfl ?_
    refine J.move rfl rfl ?_
    refine J.neq rfl rfl rfl rfl ?_
    refine J.end ?_
    refine X.then ?_
    refine T.cond_dec rfl (fun h2 => ?_) (fun h2 => ?_)
    · have hne := h2
      refine T.seq ?_
      refine T.text [.l, .l, .l] rfl ?_
      refine J.move rfl rfl ?_
      refine J.assign rfl rfl ?_
      refine J.assign rfl rfl ?_
      refine J.end ?_
      refine X.then ?_
      refine T.ret ?_
      refine X.inBlock_ret (X.then_ret (X.then_ret (X.inBlock_ret (X.then_ret (X.scope_ret ?_)))))
      exact X.ret2 rfl (RV.tmp rfl) (RV.tmp rfl) (fun w' hw' => by first | exact ⟨([], RowIx.nil), ⟨by rw [join_err hjl hjeq hne hfa]; rfl, RowIx.nil_ok 35, Fit.nil, AllC.nil⟩, by rw [join_err hjl hjeq hne hfa]; rfl, hw'.sub (Sub.nil _)⟩ | exact ⟨([], RowIx.nil), ⟨by rw [joinZ_no hfz1 hfz2 hjn]; rfl, RowIx.nil_ok 35, Fit.nil, AllC.nil⟩, by rw [joinZ_no hfz1 hfz2 hjn]; rfl, hw'.sub (Sub.nil _)⟩ | exact ⟨(zs, r), ⟨by rw [joinZ_ok hfz1 hfz2 (hj.trans (join_fin _))], hr, fit_row hw' (j := 9) rfl (fun g h => ⟨hB g h, fun q => by cases q⟩), hz.keep ((Keep.less (fun o h => h)).le (fun o h => List.mem_append_left _ h))⟩, by rw [joinZ_ok hfz1 hfz2 (hj.trans (join_fin _))], hw'.sub (Sub.nil _)⟩)
    · have hzero : formZ (dj.map Ch.v) = 0 := Decidable.not_not.1 h2
      have hf1 := join_f1 hjl hjeq hzero hfa
      have hf2 := join_f2 hjl hjeq hzero hfb
      refine T.skip ?_
      refine X.inBlock (X.then ?_)
      refine T.text [.l, .l] rfl ?_
      refine J.add rfl rfl rfl (by first | exact add_nat _ 1 (by omega) | exact i64_ok _ (by omega) | exact rfl) ?_
      refine J.move rfl rfl ?_
      refine J.end ?_
      exact X.round (j + 1) ⟨by show j + 1 ≤ 2; omega, hf1, hf2⟩ (by first | omega | (dsimp only; omega)) (by repeat (first | exact Sub.nil _ | refine Sub.cons (by first | rfl | (rw [dgs_zero]; rfl) | (rw [List.drop_length]; rfl) | (simp; done) | (congr 2; omega) | (congr 3; omega)) ?_ | exact Sub.refl _ | refine sub_snap ?_ rfl)) (by repeat (first | exact Sub.nil _ | refine Sub.cons (by first | rfl | (rw [dgs_zero]; rfl) | (rw [List.drop_length]; rfl) | (simp; done) | (congr 2; omega) | (congr 3; omega)) ?_ | exact Sub.refl _ | refine sub_snap ?_ rfl))
  · obtain rfl : j = 2 := by omega
    have hfz1 := hfa (by omega)
    have hfz2 := hfb (by omega)
    refine T.exit ?_
    refine X.then_exit (X.then_exit (X.inBlock_eq (X.then ?_)))
    refine T.seq ?_
    refine T.addNil 9 53 ?_
    refine T.text [.l] rfl ?_
    refine J.assign rfl rfl ?_
    refine J.end ?_
    refine X.then ?_
    refine T.seq ?_
    refine T.label ?_
    refine X.then ?_
    refine T.seq ?_
    refine T.block ?_
    have hma := form_may hfz1
    have hmb := form_may hfz2
    refine T.snap [(9, ⟨none, 53, []⟩)] (by repeat (first | exact Sub.nil _ | refine Sub.cons (by first | rfl | (rw [dgs_zero]; rfl) | (rw [List.drop_length]; rfl) | (simp; done) | (congr 2; omega) | (congr 3; omega)) ?_ | exact Sub.refl _ | refine sub_snap ?_ rfl)) rfl (fun Wl3 hWWl3 => ?_)
    have hVWl3 := hWWl3.sub (Sub.nil _)
    refine T.loop (ι := World × Option Addr × Nat × List Ch × Option Addr × Nat × List Ch × List Ch × RowIx) (fun ((W, Aa, ca, xs, Ab, cb, ys, zs, r) : World × Option Addr × Nat × List Ch × Option Addr × Nat × List Ch × List Ch × RowIx) => Cs w Aa (rowC xs) ∧ xs.length ≤ ca ∧ AllC w n B xs ∧ AllMay xs ∧ Cs w Ab (rowC ys) ∧ ys.length ≤ cb ∧ AllC w n B ys ∧ AllMay ys ∧ joinL (ps.map Ch.v) (bs.map Ch.v) = (joinL (xs.map Ch.v) (ys.map Ch.v)).map (zs.map Ch.v ++ ·) ∧ zs.length + xs.length + ys.length ≤ 2000000000 ∧ r.Ok 35 zs.length ∧ WS w [] [] W ∧ AllC W n (B ++ [r.id]) zs ∧ True) (fun ((W, Aa, ca, xs, Ab, cb, ys, zs, r) : World × Option Addr × Nat × List Ch × Option Addr × Nat × List Ch × List Ch × RowIx) => [(11, .slice A1 ps.length c1), (12, .slice A2 bs.length c2), (14, .int .i64 ((2 : Nat) : Int)), (0, .slice Aa xs.length ca), (1, .slice Ab ys.length cb), (9, r.val zs.length)]) (fun ((W, Aa, ca, xs, Ab, cb, ys, zs, r) : World × Option Addr × Nat × List Ch × Option Addr × Nat × List Ch × List Ch × RowIx) => ((9, r.ent 53 (rowC zs)) :: snapL W w.heap.size [r.id])) (fun ((W, Aa, ca, xs, Ab, cb, ys, zs, r) : World × Option Addr × Nat × List Ch × Option Addr × Nat × List Ch × List Ch × RowIx) => xs.length + ys.length) ⟨Wl3, A1, c1, ps, A2, c2, bs, [], RowIx.nil⟩ ⟨hA1, hb1, hd1, hma, hA2, hb2, hd2, hmb, by cases joinL (ps.map Ch.v) (bs.map Ch.v) <;> rfl, by show 0 + _ + _ ≤ _; omega, RowIx.nil_ok 35, hVWl3, AllC.nil, trivial⟩ (by repeat (first | exact Sub.nil _ | refine Sub.cons (by first | rfl | (rw [dgs_zero]; rfl) | (rw [List.drop_length]; rfl) | (simp; done) | (congr 2; omega) | (congr 3; omega)) ?_ | exact Sub.refl _ | refine sub_snap ?_ rfl)) (by repeat (first | exact Sub.nil _ | refine Sub.cons (by first | rfl | (rw [dgs_zero]; rfl) | (rw [List.drop_length]; rfl) | (simp; done) | (congr 2; omega) | (congr 3; omega)) ?_ | exact Sub.refl _ | refine sub_snap ?_ rfl)) ?_
    rintro ⟨W, Aa, ca, xs, Ab, cb, ys, zs, r⟩ ⟨hA, hca, hdx, hmx, hA2, hcb, hdy, hmy, hj, hlen, hr, hV, hz, _⟩
    try dsimp only at *
    refine T.seq ?_
    refine T.seq ?_
    refine T.text [.l, .l, .l, .l, .l, .l, .l, .l] rfl ?_
    refine J.move rfl rfl ?_
    refine J.lenSl Tryz.underlying25 rfl rfl ?_
    refine J.gtr rfl rfl rfl rfl ?_
    refine J.move rfl rfl ?_
    refine J.split 28 rfl (fun h4 => ?_) (fun h4 => ?_)
    · obtain ⟨x, xs2, rfl⟩ := List.exists_cons_of_length_pos (l := xs) (by omega)
      refine J.no rfl rfl rfl rfl ?_
      refine J.no rfl rfl rfl rfl ?_
      refine J.no rfl rfl rfl rfl ?_
      refine J.pick_t rfl rfl rfl ?_
      refine J.end ?_
      refine X.then ?_
      refine T.cond_true rfl ?_
      refine T.skip ?_
      refine X.then ?_
      refine T.block ?_
      refine T.seq ?_
      refine T.block ?_
      refine T.seq ?_
      refine T.draw [] [(0, .g), (1, .g), (2, .g), (3, .g), (4, .g), (5, .g), (6, .g), (7, .g), (8, .g), (9, .g), (10, .q), (11, .g), (12, .g), (13, .q), (14, .q), (15, .g), (16, .g), (17, .g), (18, .g)] (by kernel_rfl) (by kernel_rfl) ?_ (by repeat (first | exact Sub.nil _ | refine Sub.cons (by first | rfl | (rw [dgs_zero]; rfl) | (rw [List.drop_length]; rfl) | (simp; done) | (congr 2; omega) | (congr 3; omega)) ?_ | exact Sub.refl _ | refine sub_snap ?_ rfl))
      refine J.move rfl rfl ?_
      refine J.lenSl Tryz.underlying25 rfl rfl ?_
      refine J.eql rfl rfl rfl rfl ?_
      refine J.move rfl rfl ?_
      refine J.split 37 rfl (fun h5 => ?_) (fun h5 => ?_)
      · obtain rfl : ys = [] := List.length_eq_zero_iff.1 (by omega)
        have hwa : ([] : List Ch).map Ch.v = [] ∨ ∃ b bs2, ([] : List Ch).map Ch.v = b :: bs2 ∧ spotZ x.v b < 0 := .inl rfl
        refine J.no rfl rfl rfl rfl ?_
        refine J.no rfl rfl rfl rfl ?_
        refine J.no rfl rfl rfl rfl ?_
        refine J.no rfl rfl rfl rfl ?_
        refine J.noU rfl rfl rfl ?_
        refine J.noU rfl rfl rfl ?_
        refine J.noU rfl rfl rfl ?_
        refine J.noU rfl rfl rfl ?_
        refine J.noU rfl rfl rfl ?_
        refine J.noU rfl rfl rfl ?_
        refine J.noU rfl rfl rfl ?_
        refine J.noU rfl rfl rfl ?_
        refine J.no rfl rfl rfl rfl ?_
        refine J.pick_t rfl rfl rfl ?_
        refine J.assign rfl rfl ?_
        refine J.end ?_
        refine X.then ?_
        refine T.cond_true rfl ?_
        refine T.seq ?_
        refine T.text [.l, .l, .l, .l, .l, .l, .l, .l] rfl ?_
        refine J.move rfl rfl ?_
        refine J.move rfl rfl ?_
        refine J.indexSlI sl25 rfl (hA.isSome (by rw [rowC_length]; show 0 < (_ + 1) * 35; omega)) rfl (by omega) (by omega) (by rfl) rfl ?_
        refine J.loadIN (k := .l) trivial hA (off_nil _) rfl agg53 (x.cells) rfl (rowC_head _ _) rfl ?_
        refine J.callB fok58 rfl rfl _ _ [(9, r.ent 53 (rowC zs))] (by repeat (first | exact Sub.nil _ | refine Sub.cons (by first | rfl | (rw [dgs_zero]; rfl) | (rw [List.drop_length]; rfl) | (simp; done) | (congr 2; omega) | (congr 3; omega)) ?_ | exact Sub.refl _ | refine sub_snap ?_ rfl)) rfl (fun _ _ => Sub.nil _) (fun w hw => Da.own w n (B ++ ids [(9, r.ent 53 (rowC zs))]) x (busy_lt (l1 := [(9, r.ent 53 (rowC zs))]) hB hw (by repeat (first | exact Sub.nil _ | refine Sub.cons (by first | rfl | (rw [dgs_zero]; rfl) | (rw [List.drop_length]; rfl) | (simp; done) | (congr 2; omega) | (congr 3; omega)) ?_ | exact Sub.refl _ | refine sub_snap ?_ rfl)) rfl) (hdx.head.keep (keep_base (B0 := B) (l1 := [(9, r.ent 53 (rowC zs))]) hn (fun g hg => by cases hg) hw (by repeat (first | exact Sub.nil _ | refine Sub.cons (by first | rfl | (rw [dgs_zero]; rfl) | (rw [List.drop_length]; rfl) | (simp; done) | (congr 2; omega) | (congr 3; omega)) ?_ | exact Sub.refl _ | refine sub_snap ?_ rfl)) rfl))) (fun i56 W56 hP56 hW56 => ?_)
        obtain ⟨hv56, hc56⟩ := hP56
        have kpW56 := (keep_snap (I := [r.id]) (B0 := B) (l1 := [(9, r.ent 53 (rowC zs))]) hV hn (fun g hg => by cases hg) hW56 (by repeat (first | exact Sub.refl _ | refine sub_snap ?_ rfl)) (by repeat (first | exact Sub.nil _ | refine Sub.cons (by first | rfl | (rw [dgs_zero]; rfl) | (rw [List.drop_length]; rfl) | (simp; done) | (congr 2; omega) | (congr 3; omega)) ?_ | exact Sub.refl _ | refine sub_snap ?_ rfl)) rfl)
        have hz := hz.keep kpW56
        have hVW56 := hW56.sub (Sub.nil _)
        refine J.lit1 57 rfl Tryz.underlying25 el53 (by decide) rfl (i56.cells) rfl rfl rfl (fun g57 hg57 => ?_)
        refine J.append 9 rfl Tryz.underlying25 el53 rfl hr (rowC_length zs) rfl rfl rfl (fun w hw => (hw.blkCs (k := 57) rfl)) (Ch.cells_one _) (by omega) (by unfold maxLen; omega) rfl (zs ++ [i56]).length (by rw [List.length_append]; rfl) (rowC (zs ++ [i56])) (rowC_snoc _ _).symm (fun r58 hr58 => ?_)
        refine J.assign rfl rfl ?_
        refine J.end ?_
        refine X.then ?_
        refine T.seq ?_
        refine T.text [.l, .l, .l] rfl ?_
        refine J.move rfl rfl ?_
        refine J.sliceSl sl25 rfl (optInt.some rfl (by omega) (by rfl)) optInt.none optInt.none (by simp) (by omega) (by have h0 := hca; rw [List.length_cons] at h0; show _ + 1 ≤ _; omega) (Nat.le_refl _) rfl rfl ?_
        refine J.assign rfl rfl ?_
        refine J.end ?_
        refine X.then ?_
        refine T.exit ?_
        refine X.inBlock_ne rfl (X.then_exit (X.inBlock_eq ?_))
        refine X.snap [(9, r58.ent 53 (rowC (zs ++ [i56])))] (by repeat (first | exact Sub.nil _ | refine Sub.cons (by first | rfl | (rw [dgs_zero]; rfl) | (rw [List.drop_length]; rfl) | (simp; done) | (congr 2; omega) | (congr 3; omega)) ?_ | exact Sub.refl _ | refine sub_snap ?_ rfl)) rfl (fun Wx6 hWWx6 => ?_)
        have kpWx6 := (keep_snap (I := [r.id]) (B0 := B) (l1 := [(9, r58.ent 53 (rowC (zs ++ [i56])))]) hVW56 hn (fun g hg => by cases hg) hWWx6 (by repeat (first | exact Sub.refl _ | refine sub_snap ?_ rfl)) (by repeat (first | exact Sub.nil _ | refine Sub.cons (by first | rfl | (rw [dgs_zero]; rfl) | (rw [List.drop_length]; rfl) | (simp; done) | (congr 2; omega) | (congr 3; omega)) ?_ | exact Sub.refl _ | refine sub_snap ?_ rfl)) rfl)
        have hz := hz.keep kpWx6
        have hc56 := hc56.keep kpWx6
        have hVWx6 := hWWx6.sub (Sub.nil _)
        exact X.round ⟨Wx6, (if ca = 1 then Aa else Aa.map (·.add (1 * 35))), (ca - 1), xs2, Ab, cb, [], (zs ++ [i56]), r58⟩ ⟨(rowC_tail hA hca), (len_tail hca), hdx.tail, hmx.tail, hA2, hcb, hdy, hmy, (by rw [snoc_v, hv56]; exact join_push (hj.trans (congrArg (Option.map _) (join_a _ _ _ hwa)))), (by dsimp only; simp at hlen ⊢ <;> omega), hr58, hVWx6, (hz.snoc hc56), trivial⟩ (by dsimp only; simp <;> omega) (by repeat (first | exact Sub.nil _ | refine Sub.cons (by first | rfl | (rw [dgs_zero]; rfl) | (rw [List.drop_length]; rfl) | (simp; done) | (congr 2; omega) | (congr 3; omega)) ?_ | exact Sub.refl _ | refine sub_snap ?_ rfl)) (by repeat (first | exact Sub.nil _ | refine Sub.cons (by first | rfl | (rw [dgs_zero]; rfl) | (rw [List.drop_length]; rfl) | (simp; done) | (congr 2; omega) | (congr 3; omega)) ?_ | exact Sub.refl _ | refine sub_snap ?_ rfl))
      · obtain ⟨y, ys2, rfl⟩ := List.exists_cons_of_length_pos (l := ys) (by omega)
        refine J.yes rfl rfl ?_
        refine J.move rfl rfl ?_
        refine J.yes rfl rfl ?_
        refine J.lenSl Tryz.underlying25 rfl rfl ?_
        refine J.yes rfl rfl ?_
        refine J.gtr rfl rfl rfl (decide_eq_true (by first | omega | rfl | assumption | (simp only [*]; done))) ?_
        refine J.yes rfl rfl ?_
        refine J.move rfl rfl ?_
        refine J.yes rfl rfl ?_
        refine J.move rfl rfl ?_
        refine J.yes rfl rfl ?_
        refine J.indexSlI sl25 rfl (hA.isSome (by rw [rowC_length]; show 0 < (_ + 1) * 35; omega)) rfl (by omega) (by omega) (by rfl) rfl ?_
        refine J.yes rfl rfl ?_
        refine J.loadIN (k := .q) trivial hA (off_nil _) rfl agg53 (x.cells) rfl (rowC_head _ _) rfl ?_
        refine J.yes rfl rfl ?_
        refine J.move rfl rfl ?_
        refine J.yes rfl rfl ?_
        refine J.indexSlI sl25 rfl (hA2.isSome (by rw [rowC_length]; show 0 < (_ + 1) * 35; omega)) rfl (by omega) (by omega) (by rfl) rfl ?_
        refine J.yes rfl rfl ?_
        refine J.loadIN (k := .q) trivial hA2 (off_nil _) rfl agg53 (y.cells) rfl (rowC_head _ _) rfl ?_
        refine J.yes rfl rfl ?_
        refine J.call0 (k := .q) trivial fok59 rfl rfl (fun w hw => Da.spots w x y (may_kd hmx.head) (may_kd hmy.head)) ?_
        refine J.yes rfl rfl ?_
        refine J.lss rfl rfl rfl rfl ?_
        refine J.yes rfl rfl ?_
        refine J.pick_t rfl rfl rfl ?_
        refine J.pick_f rfl rfl rfl ?_
        refine J.assign rfl rfl ?_
        refine J.end ?_
        refine X.then ?_
        refine T.cond_dec rfl (fun h7 => ?_) (fun h7 => ?_)
        · have hwa : (y :: ys2).map Ch.v = [] ∨ ∃ b bs2, (y :: ys2).map Ch.v = b :: bs2 ∧ spotZ x.v b < 0 := .inr ⟨y.v, ys2.map Ch.v, rfl, by omega⟩
          refine T.seq ?_
          refine T.text [.l, .l, .l, .l, .l, .l, .l, .l] rfl ?_
          refine J.move rfl rfl ?_
          refine J.move rfl rfl ?_
          refine J.indexSlI sl25 rfl (hA.isSome (by rw [rowC_length]; show 0 < (_ + 1) * 35; omega)) rfl (by omega) (by omega) (by rfl) rfl ?_
          refine J.loadIN (k := .l) trivial hA (off_nil _) rfl agg53 (x.cells) rfl (rowC_head _ _) rfl ?_
          refine J.callB fok58 rfl rfl _ _ [(9, r.ent 53 (rowC zs))] (by repeat (first | exact Sub.nil _ | refine Sub.cons (by first | rfl | (rw [dgs_zero]; rfl) | (rw [List.drop_length]; rfl) | (simp; done) | (congr 2; omega) | (congr 3; omega)) ?_ | exact Sub.refl _ | refine sub_snap ?_ rfl)) rfl (fun _ _ => Sub.nil _) (fun w hw => Da.own w n (B ++ ids [(9, r.ent 53 (rowC zs))]) x (busy_lt (l1 := [(9, r.ent 53 (rowC zs))]) hB hw (by repeat (first | exact Sub.nil _ | refine Sub.cons (by first | rfl | (rw [dgs_zero]; rfl) | (rw [List.drop_length]; rfl) | (simp; done) | (congr 2; omega) | (congr 3; omega)) ?_ | exact Sub.refl _ | refine sub_snap ?_ rfl)) rfl) (hdx.head.keep (keep_base (B0 := B) (l1 := [(9, r.ent 53 (rowC zs))]) hn (fun g hg => by cases hg) hw (by repeat (first | exact Sub.nil _ | refine Sub.cons (by first | rfl | (rw [dgs_zero]; rfl) | (rw [List.drop_length]; rfl) | (simp; done) | (congr 2; omega) | (congr 3; omega)) ?_ | exact Sub.refl _ | refine sub_snap ?_ rfl)) rfl))) (fun i56 W56 hP56 hW56 => ?_)
          obtain ⟨hv56, hc56⟩ := hP56
          have kpW56 := (keep_snap (I := [r.id]) (B0 := B) (l1 := [(9, r.ent 53 (rowC zs))]) hV hn (fun g hg => by cases hg) hW56 (by repeat (first | exact Sub.refl _ | refine sub_snap ?_ rfl)) (by repeat (first | exact Sub.nil _ | refine Sub.cons (by first | rfl | (rw [dgs_zero]; rfl) | (rw [List.drop_length]; rfl) | (simp; done) | (congr 2; omega) | (congr 3; omega)) ?_ | exact Sub.refl _ | refine sub_snap ?_ rfl)) rfl)
          have hz := hz.keep kpW56
          have hVW56 := hW56.sub (Sub.nil _)
          refine J.lit1 57 rfl Tryz.underlying25 el53 (by decide) rfl (i56.cells) rfl rfl rfl (fun g57 hg57 => ?_)
          refine J.append 9 rfl Tryz.underlying25 el53 rfl hr (rowC_length zs) rfl rfl rfl (fun w hw => (hw.blkCs (k := 57) rfl)) (Ch.cells_one _) (by omega) (by unfold maxLen; omega) rfl (zs ++ [i56]).length (by rw [List.length_append]; rfl) (rowC (zs ++ [i56])) (rowC_snoc _ _).symm (fun r58 hr58 => ?_)
          refine J.assign rfl rfl ?_
          refine J.end ?_
          refine X.then ?_
          refine T.seq ?_
          refine T.text [.l, .l, .l] rfl ?_
          refine J.move rfl rfl ?_
          refine J.sliceSl sl25 rfl (optInt.some rfl (by omega) (by rfl)) optInt.none optInt.none (by simp) (by omega) (by have h0 := hca; rw [List.length_cons] at h0; show _ + 1 ≤ _; omega) (Nat.le_refl _) rfl rfl ?_
          refine J.assign rfl rfl ?_
          refine J.end ?_
          refine X.then ?_
          refine T.exit ?_
          refine X.inBlock_ne rfl (X.then_exit (X.inBlock_eq ?_))
          refine X.snap [(9, r58.ent 53 (rowC (zs ++ [i56])))] (by repeat (first | exact Sub.nil _ | refine Sub.cons (by first | rfl | (rw [dgs_zero]; rfl) | (rw [List.drop_length]; rfl) | (simp; done) | (congr 2; omega) | (congr 3; omega)) ?_ | exact Sub.refl _ | refine sub_snap ?_ rfl)) rfl (fun Wx8 hWWx8 => ?_)
          have kpWx8 := (keep_snap (I := [r.id]) (B0 := B) (l1 := [(9, r58.ent 53 (rowC (zs ++ [i56])))]) hVW56 hn (fun g hg => by cases hg) hWWx8 (by repeat (first | exact Sub.refl _ | refine sub_snap ?_ rfl)) (by repeat (first | exact Sub.nil _ | refine Sub.cons (by first | rfl | (rw [dgs_zero]; rfl) | (rw [List.drop_length]; rfl) | (simp; done) | (congr 2; omega) | (congr 3; omega)) ?_ | exact Sub.refl _ | refine sub_snap ?_ rfl)) rfl)
          have hz := hz.keep kpWx8
          have hc56 := hc56.keep kpWx8
          have hVWx8 := hWWx8.sub (Sub.nil _)
          exact X.round ⟨Wx8, (if ca = 1 then Aa else Aa.map (·.add (1 * 35))), (ca - 1), xs2, Ab, cb, (y :: ys2), (zs ++ [i56]), r58⟩ ⟨(rowC_tail hA hca), (len_tail hca), hdx.tail, hmx.tail, hA2, hcb, hdy, hmy, (by rw [snoc_v, hv56]; exact join_push (hj.trans (congrArg (Option.map _) (join_a _ _ _ hwa)))), (by dsimp only; simp at hlen ⊢ <;> omega), hr58, hVWx8, (hz.snoc hc56), trivial⟩ (by dsimp only; simp <;> omega) (by repeat (first | exact Sub.nil _ | refine Sub.cons (by first | rfl | (rw [dgs_zero]; rfl) | (rw [List.drop_length]; rfl) | (simp; done) | (congr 2; omega) | (congr 3; omega)) ?_ | exact Sub.refl _ | refine sub_snap ?_ rfl)) (by repeat (first | exact Sub.nil _ | refine Sub.cons (by first | rfl | (rw [dgs_zero]; rfl) | (rw [List.drop_length]; rfl) | (simp; done) | (congr 2; omega) | (congr 3; omega)) ?_ | exact Sub.refl _ | refine sub_snap ?_ rfl))
        · skip
          refine T.seq ?_
          refine T.draw [] [(0, .g), (1, .g), (2, .g), (3, .g), (4, .g), (5, .g), (6, .q), (7, .g), (8, .g), (9, .q), (10, .q), (11, .g), (12, .g), (13, .g)] (by kernel_rfl) (by kernel_rfl) ?_ (by repeat (first | exact Sub.nil _ | refine Sub.cons (by first | rfl | (rw [dgs_zero]; rfl) | (rw [List.drop_length]; rfl) | (simp; done) | (congr 2; omega) | (congr 3; omega)) ?_ | exact Sub.refl _ | refine sub_snap ?_ rfl))
          refine J.move rfl rfl ?_
          refine J.lenSl Tryz.underlying25 rfl rfl ?_
          refine J.eql rfl rfl rfl (decide_eq_false (by first | omega | rfl | assumption | (simp only [*]; done))) ?_
          refine J.move rfl rfl ?_
          refine J.yes rfl rfl ?_
          refine J.move rfl rfl ?_
          refine J.yes rfl rfl ?_
          refine J.indexSlI sl25 rfl (hA.isSome (by rw [rowC_length]; show 0 < (_ + 1) * 35; omega)) rfl (by omega) (by omega) (by rfl) rfl ?_
          refine J.yes rfl rfl ?_
          refine J.loadIN (k := .q) trivial hA (off_nil _) rfl agg53 (x.cells) rfl (rowC_head _ _) rfl ?_
          refine J.yes rfl rfl ?_
          refine J.move rfl rfl ?_
          refine J.yes rfl rfl ?_
          refine J.indexSlI sl25 rfl (hA2.isSome (by rw [rowC_length]; show 0 < (_ + 1) * 35; omega)) rfl (by omega) (by omega) (by rfl) rfl ?_
          refine J.yes rfl rfl ?_
          refine J.loadIN (k := .q) trivial hA2 (off_nil _) rfl agg53 (y.cells) rfl (rowC_head _ _) rfl ?_
          refine J.yes rfl rfl ?_
          refine J.call0 (k := .q) trivial fok59 rfl rfl (fun w hw => Da.spots w x y (may_kd hmx.head) (may_kd hmy.head)) ?_
          refine J.yes rfl rfl ?_
          refine J.gtr rfl rfl rfl rfl ?_
          refine J.pick_f rfl rfl rfl ?_
          refine J.assign rfl rfl ?_
          refine J.end ?_
          refine X.then ?_
          refine T.cond_dec rfl (fun h9 => ?_) (fun h9 => ?_)
          · have hwb : (x :: xs2).map Ch.v = [] ∨ ∃ a as2, (x :: xs2).map Ch.v = a :: as2 ∧ 0 < spotZ a y.v := .inr ⟨x.v, xs2.map Ch.v, rfl, by omega⟩
            refine T.seq ?_
            refine T.text [.l, .l, .l, .l, .l, .l, .l, .l] rfl ?_
            refine J.move rfl rfl ?_
            refine J.move rfl rfl ?_
            refine J.indexSlI sl25 rfl (hA2.isSome (by rw [rowC_length]; show 0 < (_ + 1) * 35; omega)) rfl (by omega) (by omega) (by rfl) rfl ?_
            refine J.loadIN (k := .l) trivial hA2 (off_nil _) rfl agg53 (y.cells) rfl (rowC_head _ _) rfl ?_
            refine J.callB fok58 rfl rfl _ _ [(9, r.ent 53 (rowC zs))] (by repeat (first | exact Sub.nil _ | refine Sub.cons (by first | rfl | (rw [dgs_zero]; rfl) | (rw [List.drop_length]; rfl) | (simp; done) | (congr 2; omega) | (congr 3; omega)) ?_ | exact Sub.refl _ | refine sub_snap ?_ rfl)) rfl (fun _ _ => Sub.nil _) (fun w hw => Da.own w n (B ++ ids [(9, r.ent 53 (rowC zs))]) y (busy_lt (l1 := [(9, r.ent 53 (rowC zs))]) hB hw (by repeat (first | exact Sub.nil _ | refine Sub.cons (by first | rfl | (rw [dgs_zero]; rfl) | (rw [List.drop_length]; rfl) | (simp; done) | (congr 2; omega) | (congr 3; omega)) ?_ | exact Sub.refl _ | refine sub_snap ?_ rfl)) rfl) (hdy.head.keep (keep_base (B0 := B) (l1 := [(9, r.ent 53 (rowC zs))]) hn (fun g hg => by cases hg) hw (by repeat (first | exact Sub.nil _ | refine Sub.cons (by first | rfl | (rw [dgs_zero]; rfl) | (rw [List.drop_length]; rfl) | (simp; done) | (congr 2; omega) | (congr 3; omega)) ?_ | exact Sub.refl _ | refine sub_snap ?_ rfl)) rfl))) (fun i79 W79 hP79 hW79 => ?_)
            obtain ⟨hv79, hc79⟩ := hP79
            have kpW79 := (keep_snap (I := [r.id]) (B0 := B) (l1 := [(9, r.ent 53 (rowC zs))]) hV hn (fun g hg => by cases hg) hW79 (by repeat (first | exact Sub.refl _ | refine sub_snap ?_ rfl)) (by repeat (first | exact Sub.nil _ | refine Sub.cons (by first | rfl | (rw [dgs_zero]; rfl) | (rw [List.drop_length]; rfl) | (simp; done) | (congr 2; omega) | (congr 3; omega)) ?_ | exact Sub.refl _ | refine sub_snap ?_ rfl)) rfl)
            have hz := hz.keep kpW79
            have hVW79 := hW79.sub (Sub.nil _)
            refine J.lit1 80 rfl Tryz.underlying25 el53 (by decide) rfl (i79.cells) rfl rfl rfl (fun g80 hg80 => ?_)
            refine J.append 9 rfl Tryz.underlying25 el53 rfl hr (rowC_length zs) rfl rfl rfl (fun w hw => (hw.blkCs (k := 80) rfl)) (Ch.cells_one _) (by omega) (by unfold maxLen; omega) rfl (zs ++ [i79]).length (by rw [List.length_append]; rfl) (rowC (zs ++ [i79])) (rowC_snoc _ _).symm (fun r81 hr81 => ?_)
            refine J.assign rfl rfl ?_
            refine J.end ?_
            refine X.then ?_
            refine T.seq ?_
            refine T.text [.l, .l, .l] rfl ?_
            refine J.move rfl rfl ?_
            refine J.sliceSl sl25 rfl (optInt.some rfl (by omega) (by rfl)) optInt.none optInt.none (by simp) (by omega) (by have h0 := hcb; rw [List.length_cons] at h0; show _ + 1 ≤ _; omega) (Nat.le_refl _) rfl rfl ?_
            refine J.assign rfl rfl ?_
            refine J.end ?_
            refine X.then ?_
            refine T.exit ?_
            refine X.inBlock_ne rfl (X.then_exit (X.inBlock_eq ?_))
            refine X.snap [(9, r81.ent 53 (rowC (zs ++ [i79])))] (by repeat (first | exact Sub.nil _ | refine Sub.cons (by first | rfl | (rw [dgs_zero]; rfl) | (rw [List.drop_length]; rfl) | (simp; done) | (congr 2; omega) | (congr 3; omega)) ?_ | exact Sub.refl _ | refine sub_snap ?_ rfl)) rfl (fun Wx10 hWWx10 => ?_)
            have kpWx10 := (keep_snap (I := [r.id]) (B0 := B) (l1 := [(9, r81.ent 53 (rowC (zs ++ [i79])))]) hVW79 hn (fun g hg => by cases hg) hWWx10 (by repeat (first | exact Sub.refl _ | refine sub_snap ?_ rfl)) (by repeat (first | exact Sub.nil _ | refine Sub.cons (by first | rfl | (rw [dgs_zero]; rfl) | (rw [List.drop_length]; rfl) | (simp; done) | (congr 2; omega) | (congr 3; omega)) ?_ | exact Sub.refl _ | refine sub_snap ?_ rfl)) rfl)
            have hz := hz.keep kpWx10
            have hc79 := hc79.keep kpWx10
            have hVWx10 := hWWx10.sub (Sub.nil _)
            exact X.round ⟨Wx10, Aa, ca, (x :: xs2), (if cb = 1 then Ab else Ab.map (·.add (1 * 35))), (cb - 1), ys2, (zs ++ [i79]), r81⟩ ⟨hA, hca, hdx, hmx, (rowC_tail hA2 hcb), (len_tail hcb), hdy.tail, hmy.tail, (by rw [snoc_v, hv79]; exact join_push (hj.trans (congrArg (Option.map _) (join_b _ _ _ hwb)))), (by dsimp only; simp at hlen ⊢ <;> omega), hr81, hVWx10, (hz.snoc hc79), trivial⟩ (by dsimp only; simp <;> omega) (by repeat (first | exact Sub.nil _ | refine Sub.cons (by first | rfl | (rw [dgs_zero]; rfl) | (rw [List.drop_length]; rfl) | (simp; done) | (congr 2; omega) | (congr 3; omega)) ?_ | exact Sub.refl _ | refine sub_snap ?_ rfl)) (by repeat (first | exact Sub.nil _ | refine Sub.cons (by first | rfl | (rw [dgs_zero]; rfl) | (rw [List.drop_length]; rfl) | (simp; done) | (congr 2; omega) | (congr 3; omega)) ?_ | exact Sub.refl _ | refine sub_snap ?_ rfl))
          · have hsp : spotZ x.v y.v = 0 := by omega
            refine T.skip ?_
            refine X.inBlock (X.then ?_)
            refine T.seq ?_
            refine T.text [.l, .l, .l, .l, .l] rfl ?_
            refine J.move rfl rfl ?_
            refine J.indexSlI sl25 rfl (hA.isSome (by rw [rowC_length]; show 0 < (_ + 1) * 35; omega)) rfl (by omega) (by omega) (by rfl) rfl ?_
            refine J.loadIN (k := .l) trivial hA (off_nil _) rfl agg53 (x.cells) rfl (rowC_head _ _) rfl ?_
            refine J.alloc 10 rfl zero53 [.int .u8 0, .int .u8 0, .int .u8 0, .int .u8 0, .int .u8 0, .int .u8 0, .int .u8 0, .int .u8 0, .int .u8 0, .int .u8 0, .int .u8 0, .int .u8 0, .int .u8 0, .int .u8 0, .int .u8 0, .int .u8 0, .int .u8 0, .int .u8 0, .int .u8 0, .int .u8 0, .int .i64 0, .int .u64 0, .int .u64 0, .int .u64 0, .int .u64 0, .int .u64 0, .int .u64 0, .int .u64 0, .int .u64 0, .int .u64 0, .int .u64 0, .int .u64 0, .int .u64 0, .slice none 0 0, .slice none 0 0] rfl rfl (fun g10 hg10 => ?_)
            refine J.store 10 rfl rfl rfl rfl (x.cells) rfl sz53 (Nat.le_of_ble_eq_true rfl) (by first | exact Ch.cells_one _) (Nat.zero_lt_succ _) trivial (x.cells) rfl ?_
            refine J.end ?_
            refine X.then ?_
            refine T.seq ?_
            refine T.seq ?_
            refine T.draw [] [(0, .g), (1, .q), (2, .g), (3, .g), (4, .g), (5, .q), (6, .g), (7, .g), (8, .g), (9, .q), (10, .g), (11, .g), (12, .g), (13, .q), (14, .q), (15, .g), (16, .g)] (by kernel_rfl) (by kernel_rfl) ?_ (by repeat (first | exact Sub.nil _ | refine Sub.cons (by first | rfl | (rw [dgs_zero]; rfl) | (rw [List.drop_length]; rfl) | (simp; done) | (congr 2; omega) | (congr 3; omega)) ?_ | exact Sub.refl _ | refine sub_snap ?_ rfl))
            refine J.fieldAddr fld53_4 rfl rfl ?_
            refine J.loadN (k := .q) trivial 10 rfl rfl agg50 (wc x.new) rfl rfl rfl ?_
            refine J.move rfl rfl ?_
            refine J.indexSlI sl25 rfl (hA2.isSome (by rw [rowC_length]; show 0 < (_ + 1) * 35; omega)) rfl (by omega) (by omega) (by rfl) rfl ?_
            refine J.fieldAddrI fld53_3 rfl rfl ?_
            refine J.loadIN (k := .q) trivial hA2 (off_nil _) rfl agg50 (wc y.old) rfl rfl rfl ?_
            refine J.neqW eqw50 rfl rfl rfl ?_
            refine J.move rfl rfl ?_
            refine J.split 94 rfl (fun h11 => ?_) (fun h11 => ?_)
            · have hnm : ¬ x.v.meets y.v := fun q => h11 q.1
              have hjn := hj.trans (congrArg (Option.map _) (join_no hsp hnm))
              refine J.no rfl rfl rfl rfl ?_
              refine J.no rfl rfl rfl rfl ?_
              refine J.no rfl rfl rfl rfl ?_
              refine J.no rfl rfl rfl rfl ?_
              refine J.no rfl rfl rfl rfl ?_
              refine J.no rfl rfl rfl rfl ?_
              refine J.no rfl rfl rfl rfl ?_
              refine J.no rfl rfl rfl rfl ?_
              refine J.pick_t rfl rfl rfl ?_
              refine J.end ?_
              refine X.then ?_
              refine T.cond_true rfl ?_
              refine T.seq ?_
              refine T.text [.l, .l] rfl ?_
              refine J.assign rfl rfl ?_
              refine J.assign rfl rfl ?_
              refine J.end ?_
              refine X.then ?_
              refine T.ret ?_
              refine X.then_ret (X.inBlock_ret (X.then_ret (X.inBlock_ret (X.then_ret (X.scope_ret ?_)))))
              exact X.ret2 rfl (RV.tmp rfl) (RV.tmp rfl) (fun w' hw' => by first | exact ⟨([], RowIx.nil), ⟨by rw [join_err hjl hjeq hne hfa]; rfl, RowIx.nil_ok 35, Fit.nil, AllC.nil⟩, by rw [join_err hjl hjeq hne hfa]; rfl, hw'.sub (Sub.nil _)⟩ | exact ⟨([], RowIx.nil), ⟨by rw [joinZ_no hfz1 hfz2 hjn]; rfl, RowIx.nil_ok 35, Fit.nil, AllC.nil⟩, by rw [joinZ_no hfz1 hfz2 hjn]; rfl, hw'.sub (Sub.nil _)⟩ | exact ⟨(zs, r), ⟨by rw [joinZ_ok hfz1 hfz2 (hj.trans (join_fin _))], hr, fit_row hw' (j := 9) rfl (fun g h => ⟨hB g h, fun q => by cases q⟩), hz.keep (((keep_snap (I := [r.id]) (B0 := B) (l1 := []) hV hn (fun g hg => by cases hg) hw' (by repeat (first | exact Sub.refl _ | refine sub_snap ?_ rfl)) (Sub.nil _) rfl)).le (fun o h => List.mem_append_left _ h))⟩, by rw [joinZ_ok hfz1 hfz2 (hj.trans (join_fin _))], hw'.sub (Sub.nil _)⟩)
            · skip
              refine J.yes rfl rfl ?_
              refine J.fieldAddr fld53_6 rfl rfl ?_
              refine J.yes rfl rfl ?_
              refine J.load1 (k := .q) trivial 10 rfl rfl one51 (by first | rfl | with_reducible exact rowN_get0 _ _ _ (by omega) | with_reducible exact rowN_get1 _ _ _ (by omega) | with_reducible exact rowN_get1s _ _ _ _ (by omega) | exact rowN_get1 _ _ _ (by omega) | exact rowN_get1s _ _ _ _ (by omega) | exact rowN_get0 _ _ _ (by omega)) rfl ?_
              refine J.yes rfl rfl ?_
              refine J.move rfl rfl ?_
              refine J.yes rfl rfl ?_
              refine J.indexSlI sl25 rfl (hA2.isSome (by rw [rowC_length]; show 0 < (_ + 1) * 35; omega)) rfl (by omega) (by omega) (by rfl) rfl ?_
              refine J.yes rfl rfl ?_
              refine J.fieldAddrI fld53_5 rfl rfl ?_
              refine J.yes rfl rfl ?_
              refine J.loadI1 (k := .q) trivial hA2 (off_nil _) rfl one51 rfl rfl ?_
              refine J.yes rfl rfl ?_
              refine J.call0 (k := .q) trivial fok60 rfl rfl (fun w hw => Da.Equal w _ _ _ _ x.nc y.oc (hdx.head.fn.cs.ws hw (off_nil _)) (hdy.head.fo.cs.ws hw (off_nil _)) hdx.head.dN hdy.head.dO) ?_
              refine J.yes rfl rfl ?_
              refine J.not rfl rfl (by rw [← decide_not]) ?_
              refine J.pick_f rfl rfl rfl ?_
              refine J.end ?_
              refine X.then ?_
              refine T.cond_dec rfl (fun h12 => ?_) (fun h12 => ?_)
              · have hnm : ¬ x.v.meets y.v := fun q => by first | exact (by assumption : ¬ x.new % 2 ^ 256 = y.old % 2 ^ 256) q.1 | exact (by assumption : ¬ x.nc = y.oc) q.2
                have hjn := hj.trans (congrArg (Option.map _) (join_no hsp hnm))
                refine T.seq ?_
                refine T.text [.l, .l] rfl ?_
                refine J.assign rfl rfl ?_
                refine J.assign rfl rfl ?_
                refine J.end ?_
                refine X.then ?_
                refine T.ret ?_
                refine X.then_ret (X.inBlock_ret (X.then_ret (X.inBlock_ret (X.then_ret (X.scope_ret ?_)))))
                exact X.ret2 rfl (RV.tmp rfl) (RV.tmp rfl) (fun w' hw' => by first | exact ⟨([], RowIx.nil), ⟨by rw [join_err hjl hjeq hne hfa]; rfl, RowIx.nil_ok 35, Fit.nil, AllC.nil⟩, by rw [join_err hjl hjeq hne hfa]; rfl, hw'.sub (Sub.nil _)⟩ | exact ⟨([], RowIx.nil), ⟨by rw [joinZ_no hfz1 hfz2 hjn]; rfl, RowIx.nil_ok 35, Fit.nil, AllC.nil⟩, by rw [joinZ_no hfz1 hfz2 hjn]; rfl, hw'.sub (Sub.nil _)⟩ | exact ⟨(zs, r), ⟨by rw [joinZ_ok hfz1 hfz2 (hj.trans (join_fin _))], hr, fit_row hw' (j := 9) rfl (fun g h => ⟨hB g h, fun q => by cases q⟩), hz.keep (((keep_snap (I := [r.id]) (B0 := B) (l1 := []) hV hn (fun g hg => by cases hg) hw' (by repeat (first | exact Sub.refl _ | refine sub_snap ?_ rfl)) (Sub.nil _) rfl)).le (fun o h => List.mem_append_left _ h))⟩, by rw [joinZ_ok hfz1 hfz2 (hj.trans (join_fin _))], hw'.sub (Sub.nil _)⟩)
              · have hmt : x.v.meets y.v := ⟨Decidable.not_not.1 (by assumption), Decidable.not_not.1 (by assumption)⟩
                refine T.skip ?_
                refine X.then ?_
                refine T.seq ?_
                refine T.draw [] [(0, .g), (1, .g), (2, .g), (3, .q), (4, .g), (5, .g), (6, .g), (7, .s), (8, .g), (9, .l), (10, .g), (11, .l)] (by kernel_rfl) (by kernel_rfl) ?_ (by repeat (first | exact Sub.nil _ | refine Sub.cons (by first | rfl | (rw [dgs_zero]; rfl) | (rw [List.drop_length]; rfl) | (simp; done) | (congr 2; omega) | (congr 3; omega)) ?_ | exact Sub.refl _ | refine sub_snap ?_ rfl))
                refine J.move rfl rfl ?_
                refine J.indexSlI sl25 rfl (hA2.isSome (by rw [rowC_length]; show 0 < (_ + 1) * 35; omega)) rfl (by omega) (by omega) (by rfl) rfl ?_
                refine J.fieldAddrI fld53_4 rfl rfl ?_
                refine J.loadIN (k := .q) trivial hA2 (off_nil _) rfl agg50 (wc y.new) rfl rfl rfl ?_
                refine J.move rfl rfl ?_
                refine J.indexSlI sl25 rfl (hA2.isSome (by rw [rowC_length]; show 0 < (_ + 1) * 35; omega)) rfl (by omega) (by omega) (by rfl) rfl ?_
                refine J.fieldAddrI fld53_6 rfl rfl ?_
                refine J.loadI1s hA2 (off_nil _) rfl one51 rfl rfl ?_
                refine J.fieldAddr fld53_4 rfl rfl ?_
                refine J.store 10 rfl rfl rfl rfl (wc y.new) rfl sz50 (by first | decide | exact Nat.le_refl _ | exact Nat.le_of_ble_eq_true rfl | (simp [rowN]; done) | (simp [rowN]; omega)) (by first | exact rowN_one _ _ | (simp; done) | (intro u hu; simp at hu; subst hu; rfl) | (intro u hu; simp at hu; rcases hu with rfl | rfl <;> rfl)) (by first | decide | exact Nat.zero_lt_succ _ | simp) trivial _ rfl ?_
                refine J.fieldAddr fld53_6 rfl rfl ?_
                refine J.store 10 rfl rfl rfl rfl [.slice y.nA y.nc.length y.nC] rfl sz51 (by first | decide | exact Nat.le_refl _ | exact Nat.le_of_ble_eq_true rfl | (simp [rowN]; done) | (simp [rowN]; omega)) (by intro u hu; rw [List.mem_singleton.1 hu]; rfl) (by first | decide | exact Nat.zero_lt_succ _ | simp) trivial _ rfl ?_
                refine J.end ?_
                refine X.asE 10 ⟨some g10, 53, (x.then y).cells⟩ rfl (by rfl) ?_
                refine X.then ?_
                refine T.seq ?_
                refine T.seq ?_
                refine T.text [.l, .l, .l] rfl ?_
                refine J.loadN (k := .l) trivial 10 rfl rfl agg53 (x.then y).cells rfl rfl rfl ?_
                refine J.call0 (k := .l) trivial fok61 rfl rfl (fun w hw => Da.idle w (x.then y) (hdx.head.fo.cs.ws hw (off_nil _)) (hdy.head.fn.cs.ws hw (off_nil _)) hdx.head.dO hdy.head.dN) ?_
                refine J.not rfl rfl (by rw [← decide_not]) ?_
                refine J.end ?_
                refine X.then ?_
                refine T.cond_dec rfl (fun h13 => ?_) (fun h13 => ?_)
                · have hid := h13
                  refine T.text [.l, .l, .l, .l, .l, .l] rfl ?_
                  refine J.move rfl rfl ?_
                  refine J.loadN (k := .l) trivial 10 rfl rfl agg53 (x.then y).cells rfl rfl rfl ?_
                  refine J.callB fok58 rfl rfl _ _ [(9, r.ent 53 (rowC zs)), (10, ⟨some g10, 53, (x.then y).cells⟩)] (by repeat (first | exact Sub.nil _ | refine Sub.cons (by first | rfl | (rw [dgs_zero]; rfl) | (rw [List.drop_length]; rfl) | (simp; done) | (congr 2; omega) | (congr 3; omega)) ?_ | exact Sub.refl _ | refine sub_snap ?_ rfl)) rfl (fun _ _ => Sub.nil _) (fun w hw => Da.own w n (B ++ ids [(9, r.ent 53 (rowC zs)), (10, ⟨some g10, 53, (x.then y).cells⟩)]) (x.then y) (busy_lt (l1 := [(9, r.ent 53 (rowC zs)), (10, ⟨some g10, 53, (x.then y).cells⟩)]) hB hw (by repeat (first | exact Sub.nil _ | refine Sub.cons (by first | rfl | (rw [dgs_zero]; rfl) | (rw [List.drop_length]; rfl) | (simp; done) | (congr 2; omega) | (congr 3; omega)) ?_ | exact Sub.refl _ | refine sub_snap ?_ rfl)) rfl) ((hdx.head.then hdy.head).keep (keep_base (B0 := B) (l1 := [(9, r.ent 53 (rowC zs)), (10, ⟨some g10, 53, (x.then y).cells⟩)]) hn (fun g hg => by cases hg) hw (by repeat (first | exact Sub.nil _ | refine Sub.cons (by first | rfl | (rw [dgs_zero]; rfl) | (rw [List.drop_length]; rfl) | (simp; done) | (congr 2; omega) | (congr 3; omega)) ?_ | exact Sub.refl _ | refine sub_snap ?_ rfl)) rfl))) (fun i119 W119 hP119 hW119 => ?_)
                  obtain ⟨hv119, hc119⟩ := hP119
                  have kpW119 := (keep_snap (I := [r.id]) (B0 := B) (l1 := [(9, r.ent 53 (rowC zs)), (10, ⟨some g10, 53, (x.then y).cells⟩)]) hV hn (fun g hg => by cases hg) hW119 (by repeat (first | exact Sub.refl _ | refine sub_snap ?_ rfl)) (by repeat (first | exact Sub.nil _ | refine Sub.cons (by first | rfl | (rw [dgs_zero]; rfl) | (rw [List.drop_length]; rfl) | (simp; done) | (congr 2; omega) | (congr 3; omega)) ?_ | exact Sub.refl _ | refine sub_snap ?_ rfl)) rfl)
                  have hz := hz.keep kpW119
                  have hVW119 := hW119.sub (Sub.nil _)
                  refine J.lit1 120 rfl Tryz.underlying25 el53 (by decide) rfl (i119.cells) rfl rfl rfl (fun g120 hg120 => ?_)
                  refine J.append 9 rfl Tryz.underlying25 el53 rfl hr (rowC_length zs) rfl rfl rfl (fun w hw => (hw.blkCs (k := 120) rfl)) (Ch.cells_one _) (by omega) (by unfold maxLen; omega) rfl (zs ++ [i119]).length (by rw [List.length_append]; rfl) (rowC (zs ++ [i119])) (rowC_snoc _ _).symm (fun r121 hr121 => ?_)
                  refine J.assign rfl rfl ?_
                  refine J.end ?_
                  refine X.then ?_
                  refine T.draw [] [(0, .g), (1, .g), (2, .g), (3, .g), (4, .g), (5, .g)] (by kernel_rfl) (by kernel_rfl) ?_ (by repeat (first | exact Sub.nil _ | refine Sub.cons (by first | rfl | (rw [dgs_zero]; rfl) | (rw [List.drop_length]; rfl) | (simp; done) | (congr 2; omega) | (congr 3; omega)) ?_ | exact Sub.refl _ | refine sub_snap ?_ rfl))
                  refine J.move rfl rfl ?_
                  refine J.sliceSl sl25 rfl (optInt.some rfl (by omega) (by rfl)) optInt.none optInt.none (by simp) (by omega) (by have h0 := hca; rw [List.length_cons] at h0; show _ + 1 ≤ _; omega) (Nat.le_refl _) rfl rfl ?_
                  refine J.move rfl rfl ?_
                  refine J.sliceSl sl25 rfl (optInt.some rfl (by omega) (by rfl)) optInt.none optInt.none (by simp) (by omega) (by have h0 := hcb; rw [List.length_cons] at h0; show _ + 1 ≤ _; omega) (Nat.le_refl _) rfl rfl ?_
                  refine J.assign rfl rfl ?_
                  refine J.assign rfl rfl ?_
                  refine J.end ?_
                  refine X.inBlock ?_
                  refine X.snap [(9, r121.ent 53 (rowC (zs ++ [i119])))] (by repeat (first | exact Sub.nil _ | refine Sub.cons (by first | rfl | (rw [dgs_zero]; rfl) | (rw [List.drop_length]; rfl) | (simp; done) | (congr 2; omega) | (congr 3; omega)) ?_ | exact Sub.refl _ | refine sub_snap ?_ rfl)) rfl (fun Wx14 hWWx14 => ?_)
                  have kpWx14 := (keep_snap (I := [r.id, some g10]) (B0 := B) (l1 := [(9, r121.ent 53 (rowC (zs ++ [i119])))]) hVW119 hn (fun g hg => by cases hg) hWWx14 (by repeat (first | exact Sub.refl _ | refine sub_snap ?_ rfl)) (by repeat (first | exact Sub.nil _ | refine Sub.cons (by first | rfl | (rw [dgs_zero]; rfl) | (rw [List.drop_length]; rfl) | (simp; done) | (congr 2; omega) | (congr 3; omega)) ?_ | exact Sub.refl _ | refine sub_snap ?_ rfl)) rfl)
                  have hz := hz.keep kpWx14
                  have hc119 := hc119.keep kpWx14
                  have hVWx14 := hWWx14.sub (Sub.nil _)
                  exact X.round ⟨Wx14, (if ca = 1 then Aa else Aa.map (·.add (1 * 35))), (ca - 1), xs2, (if cb = 1 then Ab else Ab.map (·.add (1 * 35))), (cb - 1), ys2, (zs ++ [i119]), r121⟩ ⟨(rowC_tail hA hca), (len_tail hca), hdx.tail, hmx.tail, (rowC_tail hA2 hcb), (len_tail hcb), hdy.tail, hmy.tail, (by rw [snoc_v, hv119]; exact join_push (hj.trans (congrArg (Option.map _) (join_both hsp hmt hid)))), (by dsimp only; simp at hlen ⊢ <;> omega), hr121, hVWx14, (hz.snoc hc119), trivial⟩ (by dsimp only; simp <;> omega) (by repeat (first | exact Sub.nil _ | refine Sub.cons (by first | rfl | (rw [dgs_zero]; rfl) | (rw [List.drop_length]; rfl) | (simp; done) | (congr 2; omega) | (congr 3; omega)) ?_ | exact Sub.refl _ | refine sub_snap ?_ rfl)) (by repeat (first | exact Sub.nil _ | refine Sub.cons (by first | rfl | (rw [dgs_zero]; rfl) | (rw [List.drop_length]; rfl) | (simp; done) | (congr 2; omega) | (congr 3; omega)) ?_ | exact Sub.refl _ | refine sub_snap ?_ rfl))
                · have hid := Decidable.not_not.1 h13
                  refine T.skip ?_
                  refine X.then ?_
                  refine T.draw [] [(0, .g), (1, .g), (2, .g), (3, .g), (4, .g), (5, .g)] (by kernel_rfl) (by kernel_rfl) ?_ (by repeat (first | exact Sub.nil _ | refine Sub.cons (by first | rfl | (rw [dgs_zero]; rfl) | (rw [List.drop_length]; rfl) | (simp; done) | (congr 2; omega) | (congr 3; omega)) ?_ | exact Sub.refl _ | refine sub_snap ?_ rfl))
                  refine J.move rfl rfl ?_
                  refine J.sliceSl sl25 rfl (optInt.some rfl (by omega) (by rfl)) optInt.none optInt.none (by simp) (by omega) (by have h0 := hca; rw [List.length_cons] at h0; show _ + 1 ≤ _; omega) (Nat.le_refl _) rfl rfl ?_
                  refine J.move rfl rfl ?_
                  refine J.sliceSl sl25 rfl (optInt.some rfl (by omega) (by rfl)) optInt.none optInt.none (by simp) (by omega) (by have h0 := hcb; rw [List.length_cons] at h0; show _ + 1 ≤ _; omega) (Nat.le_refl _) rfl rfl ?_
                  refine J.assign rfl rfl ?_
                  refine J.assign rfl rfl ?_
                  refine J.end ?_
                  refine X.inBlock ?_
                  refine X.snap [(9, r.ent 53 (rowC zs))] (by repeat (first | exact Sub.nil _ | refine Sub.cons (by first | rfl | (rw [dgs_zero]; rfl) | (rw [List.drop_length]; rfl) | (simp; done) | (congr 2; omega) | (congr 3; omega)) ?_ | exact Sub.refl _ | refine sub_snap ?_ rfl)) rfl (fun Wx15 hWWx15 => ?_)
                  have kpWx15 := (keep_snap (I := [r.id]) (B0 := B) (l1 := [(9, r.ent 53 (rowC zs))]) hV hn (fun g hg => by cases hg) hWWx15 (by repeat (first | exact Sub.refl _ | refine sub_snap ?_ rfl)) (by repeat (first | exact Sub.nil _ | refine Sub.cons (by first | rfl | (rw [dgs_zero]; rfl) | (rw [List.drop_length]; rfl) | (simp; done) | (congr 2; omega) | (congr 3; omega)) ?_ | exact Sub.refl _ | refine sub_snap ?_ rfl)) rfl)
                  have hz := hz.keep kpWx15
                  have hVWx15 := hWWx15.sub (Sub.nil _)
                  exact X.round ⟨Wx15, (if ca = 1 then Aa else Aa.map (·.add (1 * 35))), (ca - 1), xs2, (if cb = 1 then Ab else Ab.map (·.add (1 * 35))), (cb - 1), ys2, zs, r⟩ ⟨(rowC_tail hA hca), (len_tail hca), hdx.tail, hmx.tail, (rowC_tail hA2 hcb), (len_tail hcb), hdy.tail, hmy.tail, (hj.trans (congrArg (Option.map _) (join_idle hsp hmt hid))), (by dsimp only; simp at hlen ⊢ <;> omega), hr, hVWx15, hz, trivial⟩ (by dsimp only; simp <;> omega) (by repeat (first | exact Sub.nil _ | refine Sub.cons (by first | rfl | (rw [dgs_zero]; rfl) | (rw [List.drop_length]; rfl) | (simp; done) | (congr 2; omega) | (congr 3; omega)) ?_ | exact Sub.refl _ | refine sub_snap ?_ rfl)) (by repeat (first | exact Sub.nil _ | refine Sub.cons (by first | rfl | (rw [dgs_zero]; rfl) | (rw [List.drop_length]; rfl) | (simp; done) | (congr 2; omega) | (congr 3; omega)) ?_ | exact Sub.refl _ | refine sub_snap ?_ rfl))
    · obtain rfl : xs = [] := List.length_eq_zero_iff.1 (by omega)
      refine J.yes rfl rfl ?_
      refine J.move rfl rfl ?_
      refine J.yes rfl rfl ?_
      refine J.lenSl Tryz.underlying25 rfl rfl ?_
      refine J.yes rfl rfl ?_
      refine J.gtr rfl rfl rfl rfl ?_
      refine J.pick_f rfl rfl rfl ?_
      refine J.end ?_
      refine X.then ?_
      refine T.cond_dec rfl (fun h16 => ?_) (fun h16 => ?_)
      · obtain ⟨y, ys2, rfl⟩ := List.exists_cons_of_length_pos (l := ys) (by omega)
        refine T.skip ?_
        refine X.then ?_
        refine T.block ?_
        refine T.seq ?_
        refine T.block ?_
        refine T.seq ?_
        refine T.draw [] [(0, .g), (1, .g), (2, .g), (3, .g), (4, .g), (5, .g), (6, .g), (7, .g), (8, .g), (9, .g), (10, .q), (11, .g), (12, .g), (13, .q), (14, .q), (15, .g), (16, .g), (17, .g), (18, .g)] (by kernel_rfl) (by kernel_rfl) ?_ (by repeat (first | exact Sub.nil _ | refine Sub.cons (by first | rfl | (rw [dgs_zero]; rfl) | (rw [List.drop_length]; rfl) | (simp; done) | (congr 2; omega) | (congr 3; omega)) ?_ | exact Sub.refl _ | refine sub_snap ?_ rfl))
        refine J.move rfl rfl ?_
        refine J.lenSl Tryz.underlying25 rfl rfl ?_
        refine J.eql rfl rfl rfl (decide_eq_false (by first | omega | rfl | assumption | (simp only [*]; done))) ?_
        refine J.move rfl rfl ?_
        refine J.yes rfl rfl ?_
        refine J.move rfl rfl ?_
        refine J.yes rfl rfl ?_
        refine J.lenSl Tryz.underlying25 rfl rfl ?_
        refine J.yes rfl rfl ?_
        refine J.gtr rfl rfl rfl (decide_eq_false (by first | omega | rfl | assumption | (simp only [*]; done))) ?_
        refine J.yes rfl rfl ?_
        refine J.move rfl rfl ?_
        refine J.no rfl rfl rfl rfl ?_
        refine J.no rfl rfl rfl rfl ?_
        refine J.no rfl rfl rfl rfl ?_
        refine J.no rfl rfl rfl rfl ?_
        refine J.no rfl rfl rfl rfl ?_
        refine J.no rfl rfl rfl rfl ?_
        refine J.no rfl rfl rfl rfl ?_
        refine J.no rfl rfl rfl rfl ?_
        refine J.yes rfl rfl ?_
        refine J.pick_f rfl rfl rfl ?_
        refine J.pick_f rfl rfl rfl ?_
        refine J.assign rfl rfl ?_
        refine J.end ?_
        refine X.then ?_
        refine T.cond_false rfl ?_
        refine T.seq ?_
        refine T.draw [] [(0, .g), (1, .g), (2, .g), (3, .g), (4, .g), (5, .g), (6, .q), (7, .g), (8, .g), (9, .q), (10, .q), (11, .g), (12, .g), (13, .g)] (by kernel_rfl) (by kernel_rfl) ?_ (by repeat (first | exact Sub.nil _ | refine Sub.cons (by first | rfl | (rw [dgs_zero]; rfl) | (rw [List.drop_length]; rfl) | (simp; done) | (congr 2; omega) | (congr 3; omega)) ?_ | exact Sub.refl _ | refine sub_snap ?_ rfl))
        refine J.move rfl rfl ?_
        refine J.lenSl Tryz.underlying25 rfl rfl ?_
        refine J.eql rfl rfl rfl (decide_eq_true (by omega)) ?_
        have hwb : ([] : List Ch).map Ch.v = [] ∨ ∃ a as2, ([] : List Ch).map Ch.v = a :: as2 ∧ 0 < spotZ a y.v := .inl rfl
        refine J.move rfl rfl ?_
        refine J.no rfl rfl rfl rfl ?_
        refine J.no rfl rfl rfl rfl ?_
        refine J.no rfl rfl rfl rfl ?_
        refine J.no rfl rfl rfl rfl ?_
        refine J.no rfl rfl rfl rfl ?_
        refine J.no rfl rfl rfl rfl ?_
        refine J.no rfl rfl rfl rfl ?_
        refine J.no rfl rfl rfl rfl ?_
        refine J.pick_t rfl rfl rfl ?_
        refine J.assign rfl rfl ?_
        refine J.end ?_
        refine X.then ?_
        refine T.cond_true rfl ?_
        refine T.seq ?_
        refine T.text [.l, .l, .l, .l, .l, .l, .l, .l] rfl ?_
        refine J.move rfl rfl ?_
        refine J.move rfl rfl ?_
        refine J.indexSlI sl25 rfl (hA2.isSome (by rw [rowC_length]; show 0 < (_ + 1) * 35; omega)) rfl (by omega) (by omega) (by rfl) rfl ?_
        refine J.loadIN (k := .l) trivial hA2 (off_nil _) rfl agg53 (y.cells) rfl (rowC_head _ _) rfl ?_
        refine J.callB fok58 rfl rfl _ _ [(9, r.ent 53 (rowC zs))] (by repeat (first | exact Sub.nil _ | refine Sub.cons (by first | rfl | (rw [dgs_zero]; rfl) | (rw [List.drop_length]; rfl) | (simp; done) | (congr 2; omega) | (congr 3; omega)) ?_ | exact Sub.refl _ | refine sub_snap ?_ rfl)) rfl (fun _ _ => Sub.nil _) (fun w hw => Da.own w n (B ++ ids [(9, r.ent 53 (rowC zs))]) y (busy_lt (l1 := [(9, r.ent 53 (rowC zs))]) hB hw (by repeat (first | exact Sub.nil _ | refine Sub.cons (by first | rfl | (rw [dgs_zero]; rfl) | (rw [List.drop_length]; rfl) | (simp; done) | (congr 2; omega) | (congr 3; omega)) ?_ | exact Sub.refl _ | refine sub_snap ?_ rfl)) rfl) (hdy.head.keep (keep_base (B0 := B) (l1 := [(9, r.ent 53 (rowC zs))]) hn (fun g hg => by cases hg) hw (by repeat (first | exact Sub.nil _ | refine Sub.cons (by first | rfl | (rw [dgs_zero]; rfl) | (rw [List.drop_length]; rfl) | (simp; done) | (congr 2; omega) | (congr 3; omega)) ?_ | exact Sub.refl _ | refine sub_snap ?_ rfl)) rfl))) (fun i79 W79 hP79 hW79 => ?_)
        obtain ⟨hv79, hc79⟩ := hP79
        have kpW79 := (keep_snap (I := [r.id]) (B0 := B) (l1 := [(9, r.ent 53 (rowC zs))]) hV hn (fun g hg => by cases hg) hW79 (by repeat (first | exact Sub.refl _ | refine sub_snap ?_ rfl)) (by repeat (first | exact Sub.nil _ | refine Sub.cons (by first | rfl | (rw [dgs_zero]; rfl) | (rw [List.drop_length]; rfl) | (simp; done) | (congr 2; omega) | (congr 3; omega)) ?_ | exact Sub.refl _ | refine sub_snap ?_ rfl)) rfl)
        have hz := hz.keep kpW79
        have hVW79 := hW79.sub (Sub.nil _)
        refine J.lit1 80 rfl Tryz.underlying25 el53 (by decide) rfl (i79.cells) rfl rfl rfl (fun g80 hg80 => ?_)
        refine J.append 9 rfl Tryz.underlying25 el53 rfl hr (rowC_length zs) rfl rfl rfl (fun w hw => (hw.blkCs (k := 80) rfl)) (Ch.cells_one _) (by omega) (by unfold maxLen; omega) rfl (zs ++ [i79]).length (by rw [List.length_append]; rfl) (rowC (zs ++ [i79])) (rowC_snoc _ _).symm (fun r81 hr81 => ?_)
        refine J.assign rfl rfl ?_
        refine J.end ?_
        refine X.then ?_
        refine T.seq ?_
        refine T.text [.l, .l, .l] rfl ?_
        refine J.move rfl rfl ?_
        refine J.sliceSl sl25 rfl (optInt.some rfl (by omega) (by rfl)) optInt.none optInt.none (by simp) (by omega) (by have h0 := hcb; rw [List.length_cons] at h0; show _ + 1 ≤ _; omega) (Nat.le_refl _) rfl rfl ?_
        refine J.assign rfl rfl ?_
        refine J.end ?_
        refine X.then ?_
        refine T.exit ?_
        refine X.inBlock_ne rfl (X.then_exit (X.inBlock_eq ?_))
        refine X.snap [(9, r81.ent 53 (rowC (zs ++ [i79])))] (by repeat (first | exact Sub.nil _ | refine Sub.cons (by first | rfl | (rw [dgs_zero]; rfl) | (rw [List.drop_length]; rfl) | (simp; done) | (congr 2; omega) | (congr 3; omega)) ?_ | exact Sub.refl _ | refine sub_snap ?_ rfl)) rfl (fun Wx17 hWWx17 => ?_)
        have kpWx17 := (keep_snap (I := [r.id]) (B0 := B) (l1 := [(9, r81.ent 53 (rowC (zs ++ [i79])))]) hVW79 hn (fun g hg => by cases hg) hWWx17 (by repeat (first | exact Sub.refl _ | refine sub_snap ?_ rfl)) (by repeat (first | exact Sub.nil _ | refine Sub.cons (by first | rfl | (rw [dgs_zero]; rfl) | (rw [List.drop_length]; rfl) | (simp; done) | (congr 2; omega) | (congr 3; omega)) ?_ | exact Sub.refl _ | refine sub_snap ?_ rfl)) rfl)
        have hz := hz.keep kpWx17
        have hc79 := hc79.keep kpWx17
        have hVWx17 := hWWx17.sub (Sub.nil _)
        exact X.round ⟨Wx17, Aa, ca, [], (if cb = 1 then Ab else Ab.map (·.add (1 * 35))), (cb - 1), ys2, (zs ++ [i79]), r81⟩ ⟨hA, hca, hdx, hmx, (rowC_tail hA2 hcb), (len_tail hcb), hdy.tail, hmy.tail, (by rw [snoc_v, hv79]; exact join_push (hj.trans (congrArg (Option.map _) (join_b _ _ _ hwb)))), (by dsimp only; simp at hlen ⊢ <;> omega), hr81, hVWx17, (hz.snoc hc79), trivial⟩ (by dsimp only; simp <;> omega) (by repeat (first | exact Sub.nil _ | refine Sub.cons (by first | rfl | (rw [dgs_zero]; rfl) | (rw [List.drop_length]; rfl) | (simp; done) | (congr 2; omega) | (congr 3; omega)) ?_ | exact Sub.refl _ | refine sub_snap ?_ rfl)) (by repeat (first | exact Sub.nil _ | refine Sub.cons (by first | rfl | (rw [dgs_zero]; rfl) | (rw [List.drop_length]; rfl) | (simp; done) | (congr 2; omega) | (congr 3; omega)) ?_ | exact Sub.refl _ | refine sub_snap ?_ rfl))
      · obtain rfl : ys = [] := List.length_eq_zero_iff.1 (by omega)
        refine T.exit ?_
        refine X.then_exit (X.then_exit (X.inBlock_eq (X.then ?_)))
        refine T.seq ?_
        refine T.text [.l, .l, .l] rfl ?_
        refine J.move rfl rfl ?_
        refine J.assign rfl rfl ?_
        refine J.assign rfl rfl ?_
        refine J.end ?_
        refine X.then ?_
        refine T.ret ?_
        refine X.scope_ret ?_
        exact X.ret2 rfl (RV.tmp rfl) (RV.tmp rfl) (fun w' hw' => by first | exact ⟨([], RowIx.nil), ⟨by rw [join_err hjl hjeq hne hfa]; rfl, RowIx.nil_ok 35, Fit.nil, AllC.nil⟩, by rw [join_err hjl hjeq hne hfa]; rfl, hw'.sub (Sub.nil _)⟩ | exact ⟨([], RowIx.nil), ⟨by rw [joinZ_no hfz1 hfz2 hjn]; rfl, RowIx.nil_ok 35, Fit.nil, AllC.nil⟩, by rw [joinZ_no hfz1 hfz2 hjn]; rfl, hw'.sub (Sub.nil _)⟩ | exact ⟨(zs, r), ⟨by rw [joinZ_ok hfz1 hfz2 (hj.trans (join_fin _))], hr, fit_row hw' (j := 9) rfl (fun g h => ⟨hB g h, fun q => by cases q⟩), hz.keep (((keep_snap (I := [r.id]) (B0 := B) (l1 := []) hV hn (fun g hg => by cases hg) hw' (by repeat (first | exact Sub.refl _ | refine sub_snap ?_ rfl)) (Sub.nil _) rfl)).le (fun o h => List.mem_append_left _ h))⟩, by rw [joinZ_ok hfz1 hfz2 (hj.trans (join_fin _))], hw'.sub (Sub.nil _)⟩)
end Go.Proofs.YtlllcafedekojaaGreatDoor.Dc
set_option linter.unusedVariables false
set_option maxRecDepth 20000
namespace Go.Proofs.YtlllcafedekojaaGreatDoor.Df
open Go Go.Fw

theorem sz287 : SizeT Tryz.prog 287 32 := (by unfold SizeT; kernel_rfl)
theorem sz53 : SizeT Tryz.prog 53 35 := (by unfold SizeT; kernel_rfl)
theorem sl25 : SlT Tryz.prog 25 53 35 := ⟨Tryz.underlying25, sz53⟩
theorem sz51 : SizeT Tryz.prog 51 1 := (by unfold SizeT; kernel_rfl)
theorem fld53_5 : FldT Tryz.prog 53 5 51 33 0 := ⟨by kernel_rfl, sz51⟩
theorem one51 : OneT Tryz.prog 51 := ⟨⟨_, Tryz.underlying51, rfl⟩, by kernel_rfl⟩
theorem fld53_6 : FldT Tryz.prog 53 6 51 34 0 := ⟨by kernel_rfl, sz51⟩
theorem el5 : ElT Tryz.prog 5 1 1 (.int .u8 0) := ⟨by kernel_rfl, rfl, by decide, by decide⟩
theorem sz5 : SizeT Tryz.prog 5 1 := (by unfold SizeT; kernel_rfl)
theorem sl51 : SlT Tryz.prog 51 5 1 := ⟨Tryz.underlying51, sz5⟩
theorem one5 : OneT Tryz.prog 5 := ⟨⟨_, Tryz.underlying5, rfl⟩, by kernel_rfl⟩
theorem sz47 : SizeT Tryz.prog 47 20 := (by unfold SizeT; kernel_rfl)
theorem fld53_0 : FldT Tryz.prog 53 0 47 0 19 := ⟨by kernel_rfl, sz47⟩
theorem agg47 : AggT Tryz.prog 47 20 := ⟨⟨_, Tryz.underlying47, rfl⟩, by kernel_rfl⟩
theorem arr47 : ArrT Tryz.prog 47 20 5 1 := ⟨Tryz.underlying47, sz5⟩
theorem eqA47 : EqA Tryz.prog 47 20 := ⟨⟨5, arr47, one5, Tryz.underlying5⟩, by kernel_rfl⟩
theorem sz3 : SizeT Tryz.prog 3 1 := (by unfold SizeT; kernel_rfl)
theorem fld53_1 : FldT Tryz.prog 53 1 3 20 0 := ⟨by kernel_rfl, sz3⟩
theorem one3 : OneT Tryz.prog 3 := ⟨⟨_, Tryz.underlying3, rfl⟩, by kernel_rfl⟩
theorem sz50 : SizeT Tryz.prog 50 4 := (by unfold SizeT; kernel_rfl)
theorem fld53_2 : FldT Tryz.prog 53 2 50 21 3 := ⟨by kernel_rfl, sz50⟩
theorem agg50 : AggT Tryz.prog 50 4 := ⟨⟨_, Tryz.underlying50, rfl⟩, by kernel_rfl⟩
theorem sz48 : SizeT Tryz.prog 48 1 := (by unfold SizeT; kernel_rfl)
theorem arr50 : ArrT Tryz.prog 50 4 48 1 := ⟨Tryz.underlying50, sz48⟩
theorem one48 : OneT Tryz.prog 48 := ⟨⟨_, Tryz.underlying48, rfl⟩, by kernel_rfl⟩
theorem eqw50 : EqT Tryz.prog 50 := ⟨⟨48, arr50, one48, Tryz.underlying48⟩, by kernel_rfl⟩
theorem fld53_3 : FldT Tryz.prog 53 3 50 25 3 := ⟨by kernel_rfl, sz50⟩
theorem fld53_4 : FldT Tryz.prog 53 4 50 29 3 := ⟨by kernel_rfl, sz50⟩
theorem agg53 : AggT Tryz.prog 53 35 := ⟨⟨_, Tryz.underlying53, rfl⟩, by kernel_rfl⟩
theorem zero53 : ZeroT Tryz.prog 53 (.agg ([.int .u8 0, .int .u8 0, .int .u8 0, .int .u8 0, .int .u8 0, .int .u8 0, .int .u8 0, .int .u8 0, .int .u8 0, .int .u8 0, .int .u8 0, .int .u8 0, .int .u8 0, .int .u8 0, .int .u8 0, .int .u8 0, .int .u8 0, .int .u8 0, .int .u8 0, .int .u8 0, .int .i64 0, .int .u64 0, .int .u64 0, .int .u64 0, .int .u64 0, .int .u64 0, .int .u64 0, .int .u64 0, .int .u64 0, .int .u64 0, .int .u64 0, .int .u64 0, .int .u64 0, .slice none 0 0, .slice none 0 0]).toArray) := (by unfold ZeroT; kernel_rfl)
theorem fok39 : FnOk Tryz.prog 39 := FnOk.mk' Tryz.func39 (by kernel_rfl) rfl
theorem el53 : ElT Tryz.prog 53 35 176 (.agg ([.int .u8 0, .int .u8 0, .int .u8 0, .int .u8 0, .int .u8 0, .int .u8 0, .int .u8 0, .int .u8 0, .int .u8 0, .int .u8 0, .int .u8 0, .int .u8 0, .int .u8 0, .int .u8 0, .int .u8 0, .int .u8 0, .int .u8 0, .int .u8 0, .int .u8 0, .int .u8 0, .int .i64 0, .int .u64 0, .int .u64 0, .int .u64 0, .int .u64 0, .int .u64 0, .int .u64 0, .int .u64 0, .int .u64 0, .int .u64 0, .int .u64 0, .int .u64 0, .int .u64 0, .slice none 0 0, .slice none 0 0]).toArray) := ⟨by kernel_rfl, rfl, by decide, by decide⟩
theorem fok20 : FnOk Tryz.prog 20 := FnOk.mk' Tryz.func20 (by kernel_rfl) rfl
theorem fok48 : FnOk Tryz.prog 48 := FnOk.mk' Tryz.func48 (by kernel_rfl) rfl

theorem load (w : World) (A1 : Option Addr) (c1 : Nat) (ds : List Ch) (hA : Cs w A1 (rowC ds)) (hs : (∀ c ∈ ds, c.oc.length ≤ 1000000000000000 ∧ c.nc.length ≤ 1000000000000000)) (hl : ds.length ≤ 1000000000000000) :
    Calls Tryz.prog 22 [.slice A1 ds.length c1].toArray w fun e w' => e = .returned (.int .i64 ((loadR ds.length ds : Nat) : Int)) ∧ WS w [] [] w' := by
  refine calls_of_T [] 33 [] Tryz.func22 rfl Tryz.ntmps22 (by simp) (WS.refl _ _) ?_
  refine T.seq ?_
  refine T.text [.l] rfl ?_
  refine J.assign rfl rfl ?_
  refine J.end ?_
  refine X.then ?_
  refine T.seq ?_
  refine T.text [.l, .l, .l] rfl ?_
  refine J.move rfl rfl ?_
  refine J.lenSl Tryz.underlying25 rfl rfl ?_
  refine J.assign rfl rfl ?_
  refine J.end ?_
  refine X.then ?_
  refine T.seq ?_
  refine T.seq ?_
  refine T.text [.l] rfl ?_
  refine J.assign rfl rfl ?_
  refine J.end ?_
  refine X.then ?_
  refine T.block ?_
  refine T.loop (ι := Nat × Nat) (fun ((i, m) : Nat × Nat) => i ≤ ds.length ∧ m ≤ 3000000000000000 ∧ loadR ds.length ds = loadR m (ds.drop i)) (fun ((i, m) : Nat × Nat) => [(0, .slice A1 ds.length c1), (2, .int .i64 0), (3, .int .i64 ((m : Nat) : Int)), (4, .int .i64 ((i : Nat) : Int))]) (fun ((i, m) : Nat × Nat) => []) (fun ((i, m) : Nat × Nat) => ds.length - i) ⟨0, ds.length⟩ ⟨Nat.zero_le _, by omega, rfl⟩ (by repeat (first | exact Sub.nil _ | refine Sub.cons (by first | rfl | (rw [dgs_zero]; rfl) | (rw [List.drop_length]; rfl) | (simp; done) | (congr 2; omega) | (congr 3; omega)) ?_)) (by repeat (first | exact Sub.nil _ | refine Sub.cons (by first | rfl | (rw [dgs_zero]; rfl) | (rw [List.drop_length]; rfl) | (simp; done) | (congr 2; omega) | (congr 3; omega)) ?_)) ?_
  rintro ⟨i, m⟩ ⟨hi, hm, hR⟩
  try dsimp only at *
  refine T.seq ?_
  refine T.seq ?_
  refine T.text [.l, .l, .l, .l, .l, .l, .l, .l] rfl ?_
  refine J.move rfl rfl ?_
  refine J.move rfl rfl ?_
  refine J.lenSl Tryz.underlying25 rfl rfl ?_
  refine J.lss rfl rfl rfl rfl ?_
  refine J.move rfl rfl ?_
  refine J.split 11 rfl (fun h1 => ?_) (fun h1 => ?_)
  · skip
    refine J.yes rfl rfl ?_
    refine J.move rfl rfl ?_
    refine J.yes rfl rfl ?_
    refine J.leq rfl rfl rfl rfl ?_
    refine J.pick_t rfl rfl rfl ?_
    refine J.end ?_
    refine X.then ?_
    refine T.cond_dec rfl (fun h2 => ?_) (fun h2 => ?_)
    · have hi2 : i < ds.length := by omega
      obtain ⟨hs1, hs2⟩ := load_len hs hi2
      have hR2 := load_step hR hi2 (by omega)
      refine T.skip ?_
      refine X.then ?_
      refine T.seq ?_
      refine T.block ?_
      refine T.draw [] [(0, .g), (1, .g), (2, .g), (3, .g), (4, .g), (5, .q), (6, .g), (7, .g), (8, .g), (9, .g), (10, .g), (11, .g), (12, .q), (13, .g), (14, .g), (15, .g)] (by kernel_rfl) (by kernel_rfl) ?_ (by repeat (first | exact Sub.nil _ | refine Sub.cons (by first | rfl | (rw [dgs_zero]; rfl) | (rw [List.drop_length]; rfl) | (simp; done) | (congr 2; omega) | (congr 3; omega)) ?_))
      refine J.move rfl rfl ?_
      refine J.move rfl rfl ?_
      refine J.move rfl rfl ?_
      refine J.indexSlI sl25 rfl (hA.isSome (by rw [rowC_length]; omega)) rfl (by omega) (by omega) (by first | exact Int.toNat_natCast _ | rfl) rfl ?_
      refine J.fieldAddrI fld53_5 rfl rfl ?_
      refine J.loadI1 (k := .q) trivial hA (off_nil _) rfl one51 (by rw [rowC_cell ds i 33 (by omega) (by decide)]; rfl) rfl ?_
      refine J.lenSl Tryz.underlying51 rfl rfl ?_
      refine J.add rfl rfl rfl (by exact i64_ok _ (by omega)) ?_
      refine J.as 24 (.int .i64 ((m + (ds.getD i default).oc.length : Nat) : Int)) rfl (by congr 1) ?_
      refine J.move rfl rfl ?_
      refine J.move rfl rfl ?_
      refine J.indexSlI sl25 rfl (hA.isSome (by rw [rowC_length]; omega)) rfl (by omega) (by omega) (by first | exact Int.toNat_natCast _ | rfl) rfl ?_
      refine J.fieldAddrI fld53_6 rfl rfl ?_
      refine J.loadI1 (k := .q) trivial hA (off_nil _) rfl one51 (by rw [rowC_cell ds i 34 (by omega) (by decide)]; rfl) rfl ?_
      refine J.lenSl Tryz.underlying51 rfl rfl ?_
      refine J.add rfl rfl rfl (by exact i64_ok _ (by omega)) ?_
      refine J.as 31 (.int .i64 ((m + (ds.getD i default).oc.length + (ds.getD i default).nc.length : Nat) : Int)) rfl (by congr 1) ?_
      refine J.assign rfl rfl ?_
      refine J.end ?_
      refine X.inBlock (X.then ?_)
      refine T.text [.l, .l, .l] rfl ?_
      refine J.move rfl rfl ?_
      refine J.add rfl rfl rfl (by first | exact add_nat _ 1 (by omega) | exact i64_ok _ (by omega) | exact rfl) ?_
      refine J.assign rfl rfl ?_
      refine J.end ?_
      exact X.round ⟨(i + 1), (m + (ds.getD i default).oc.length + (ds.getD i default).nc.length)⟩ ⟨by show i + 1 ≤ _; omega, by show m + _ + _ ≤ _; omega, hR2⟩ (by first | omega | (dsimp only; omega)) (by repeat (first | exact Sub.nil _ | refine Sub.cons (by first | rfl | (rw [dgs_zero]; rfl) | (rw [List.drop_length]; rfl) | (simp; done) | (congr 2; omega) | (congr 3; omega)) ?_)) (by repeat (first | exact Sub.nil _ | refine Sub.cons (by first | rfl | (rw [dgs_zero]; rfl) | (rw [List.drop_length]; rfl) | (simp; done) | (congr 2; omega) | (congr 3; omega)) ?_))
    · have hR3 := load_end hR hi (by omega)
      refine T.exit ?_
      refine X.then_exit (X.then_exit (X.inBlock_eq (X.then ?_)))
      refine T.seq ?_
      refine T.text [.l, .l] rfl ?_
      refine J.move rfl rfl ?_
      refine J.assign rfl rfl ?_
      refine J.end ?_
      refine X.then ?_
      refine T.ret ?_
      exact X.ret1 rfl (RV.tmp rfl) (fun w' hw' => ⟨by rw [hR3], hw'.sub (Sub.nil _)⟩)
  · have hR3 := load_end hR hi (by omega)
    refine J.no rfl rfl rfl rfl ?_
    refine J.no rfl rfl rfl rfl ?_
    refine J.pick_f rfl rfl rfl ?_
    refine J.end ?_
    refine X.then ?_
    refine T.cond_false rfl ?_
    refine T.exit ?_
    refine X.then_exit (X.then_exit (X.inBlock_eq (X.then ?_)))
    refine T.seq ?_
    refine T.text [.l, .l] rfl ?_
    refine J.move rfl rfl ?_
    refine J.assign rfl rfl ?_
    refine J.end ?_
    refine X.then ?_
    refine T.ret ?_
    exact X.ret1 rfl (RV.tmp rfl) (fun w' hw' => ⟨by rw [hR3], hw'.sub (Sub.nil _)⟩)

theorem roomy (w : World) (n : Nat) (B : List (Option Nat)) (A1 : Option Addr) (c1 : Nat) (xs : List Nat) (hB : ∀ g, some g ∈ B → g < w.heap.size) (e1 : Cs w A1 (rowN .u8 xs)) (hl : xs.length ≤ 1000000000) :
    Calls Tryz.prog 39 [.slice A1 xs.length c1].toArray w fun e w' => ∃ q : RowIx, (Fit w' n B (hdOf q.id) (rowN .u8 (xs ++ mk3)) ∧ xs.length + 3 ≤ q.cap) ∧ e = .returned (.slice (hdOf q.id) xs.length q.cap) ∧ WS w [] [] w' := by
  refine calls_of_T [] 14 [] Tryz.func39 rfl Tryz.ntmps39 (by simp) (WS.refl _ _) ?_
  refine T.seq ?_
  refine T.text [.l] rfl ?_
  refine J.assign rfl rfl ?_
  refine J.end ?_
  refine X.then ?_
  refine T.seq ?_
  refine T.text [.l] rfl ?_
  refine J.assign rfl rfl ?_
  refine J.end ?_
  refine X.then ?_
  refine T.seq ?_
  refine T.addNil 3 5 ?_
  refine T.text [.l, .l, .l, .l] rfl ?_
  refine J.move rfl rfl ?_
  refine J.move rfl rfl ?_
  refine J.append (i := RowIx.nil) (cs := []) 3 rfl Tryz.underlying51 el5 rfl (RowIx.nil_ok 1) rfl rfl rfl (by rw [rowN_length, Nat.mul_one]) (fun w hw => e1.ws hw (off_nil _)) (rowN_one _ _) (by omega) (by unfold maxLen; omega) rfl xs.length (Nat.zero_add _) (rowN .u8 xs) (List.nil_append _) (fun r6 hr6 => ?_)
  refine J.assign rfl rfl ?_
  refine J.end ?_
  refine X.then ?_
  refine T.seq ?_
  refine T.text [.l, .l, .l, .l] rfl ?_
  refine J.move rfl rfl ?_
  refine J.buildSlice 8 rfl (e := 5) rfl rfl (rowN .u8 mk3) (fun w => by kernel_rfl) (fun g8 hg8 => ?_)
  refine J.append 3 rfl Tryz.underlying51 el5 rfl hr6 (by rw [rowN_length, Nat.mul_one]) rfl rfl rfl (fun w hw => (hw.blkCs (k := 8) rfl)) (rowN_one _ _) (by omega) (by unfold maxLen; omega) rfl (xs.length + 3) rfl (rowN .u8 (xs ++ mk3)) (rowN_append _ _ _).symm (fun r9 hr9 => ?_)
  have hcp9 := hr9.cap_ge
  refine J.assign rfl rfl ?_
  refine J.end ?_
  refine X.then ?_
  refine T.seq ?_
  refine T.text [.l, .l, .l, .l, .l] rfl ?_
  refine J.move rfl rfl ?_
  refine J.move rfl rfl ?_
  refine J.lenSl Tryz.underlying51 rfl rfl ?_
  refine J.sliceSl sl51 rfl optInt.none (optInt.some rfl (by omega) (by first | exact Int.toNat_natCast _ | rfl)) optInt.none (by simp) (Nat.zero_le _) (by omega) (Nat.le_refl _) rfl (by rw [slice0]) ?_
  refine J.assign rfl rfl ?_
  refine J.end ?_
  refine X.then ?_
  refine T.ret ?_
  exact X.ret1 rfl (RV.tmp rfl) (fun w' hw' => ⟨r9, ⟨fit_row hw' (j := 3) rfl (fun g h => ⟨hB g h, fun q => by cases q⟩), hcp9⟩, rfl, hw'.sub (Sub.nil _)⟩)

theorem kept (w : World) (A1 : Option Addr) (c1 : Nat) (xs : List Nat) (e1 : Cs w A1 (rowN .u8 (xs ++ mk3))) (hc : xs.length + 3 ≤ c1) (hl : xs.length ≤ 1000000000) :
    Calls Tryz.prog 48 [.slice A1 xs.length c1].toArray w fun e w' => e = .returned (.bool true) ∧ WS w [] [] w' := by
  refine calls_of_T [] 32 [] Tryz.func48 rfl Tryz.ntmps48 (by simp) (WS.refl _ _) ?_
  refine T.seq ?_
  refine T.text [.l] rfl ?_
  refine J.assign rfl rfl ?_
  refine J.end ?_
  refine X.then ?_
  refine T.seq ?_
  refine T.text [.l, .l, .l] rfl ?_
  refine J.move rfl rfl ?_
  refine J.lenSl Tryz.underlying51 rfl rfl ?_
  refine J.assign rfl rfl ?_
  refine J.end ?_
  refine X.then ?_
  refine T.seq ?_
  refine T.text [.l, .l, .l, .l, .l] rfl ?_
  refine J.move rfl rfl ?_
  refine J.move rfl rfl ?_
  refine J.add rfl rfl rfl (by exact i64_ok _ (by omega)) ?_
  refine J.as 9 (.int .i64 ((xs.length + 3 : Nat) : Int)) rfl (by congr 1) ?_
  refine J.sliceSl sl51 rfl optInt.none (optInt.some rfl (by omega) (by first | exact Int.toNat_natCast _ | rfl)) optInt.none (by simp) (Nat.zero_le _) (by omega) (Nat.le_refl _) rfl (by rw [slice0]) ?_
  refine J.assign rfl rfl ?_
  refine J.end ?_
  refine X.then ?_
  refine T.seq ?_
  refine T.text [.l, .l, .l, .l, .l, .l, .l, .l, .l, .l, .l, .l, .l, .l, .l, .l, .l, .l, .l, .l, .l, .l] rfl ?_
  refine J.move rfl rfl ?_
  refine J.move rfl rfl ?_
  refine J.indexSlI sl51 rfl (e1.isSome (by rw [rowN_length]; simp [mk3])) rfl (by omega) (by omega) (by first | exact Int.toNat_natCast _ | rfl) rfl ?_
  refine J.loadI1 (k := .l) trivial e1 (off_nil _) rfl one5 (kept_at xs 0 (by decide)) rfl ?_
  refine J.eql rfl rfl rfl (decide_eq_true rfl) ?_
  refine J.move rfl rfl ?_
  refine J.yes rfl rfl ?_
  refine J.move rfl rfl ?_
  refine J.yes rfl rfl ?_
  refine J.move rfl rfl ?_
  refine J.yes rfl rfl ?_
  refine J.add rfl rfl rfl (by exact i64_ok _ (by omega)) ?_
  refine J.as 19 (.int .i64 ((xs.length + 1 : Nat) : Int)) rfl (by congr 1) ?_
  refine J.yes rfl rfl ?_
  refine J.indexSlI sl51 rfl (e1.isSome (by rw [rowN_length]; simp [mk3])) rfl (by omega) (by omega) rfl rfl ?_
  refine J.yes rfl rfl ?_
  refine J.loadI1 (k := .l) trivial e1 (off_nil _) rfl one5 (kept_at xs 1 (by decide)) rfl ?_
  refine J.yes rfl rfl ?_
  refine J.eql rfl rfl rfl (decide_eq_true rfl) ?_
  refine J.pick_t rfl rfl rfl ?_
  refine J.move rfl rfl ?_
  refine J.yes rfl rfl ?_
  refine J.move rfl rfl ?_
  refine J.yes rfl rfl ?_
  refine J.move rfl rfl ?_
  refine J.yes rfl rfl ?_
  refine J.add rfl rfl rfl (by exact i64_ok _ (by omega)) ?_
  refine J.as 27 (.int .i64 ((xs.length + 2 : Nat) : Int)) rfl (by congr 1) ?_
  refine J.yes rfl rfl ?_
  refine J.indexSlI sl51 rfl (e1.isSome (by rw [rowN_length]; simp [mk3])) rfl (by omega) (by omega) rfl rfl ?_
  refine J.yes rfl rfl ?_
  refine J.loadI1 (k := .l) trivial e1 (off_nil _) rfl one5 (kept_at xs 2 (by decide)) rfl ?_
  refine J.yes rfl rfl ?_
  refine J.eql rfl rfl rfl (decide_eq_true rfl) ?_
  refine J.pick_t rfl rfl rfl ?_
  refine J.assign rfl rfl ?_
  refine J.end ?_
  refine X.then ?_
  refine T.ret ?_
  exact X.ret1 rfl (RV.tmp rfl) (fun w' hw' => ⟨rfl, hw'.sub (Sub.nil _)⟩)

set_option maxHeartbeats 1000000 in
theorem same (w : World) (n : Nat) (B : List (Option Nat)) (A1 A2 : Option Addr) (c1 c2 : Nat) (ps qs : List Ch) (hA1 : Cs w A1 (rowC ps)) (hd1 : AllC w n B ps) (hA2 : Cs w A2 (rowC qs)) (hd2 : AllC w n B qs) (hl1 : ps.length ≤ 1000000000000) (hl2 : qs.length ≤ 1000000000000) :
    Calls Tryz.prog 20 [.slice A1 ps.length c1, .slice A2 qs.length c2].toArray w fun e w' => e = .returned (.bool (decide (ps.map Ch.v = qs.map Ch.v))) ∧ WS w [] [] w' := by
  refine calls_of_T [] 110 [] Tryz.func20 rfl Tryz.ntmps20 (by simp) (WS.refl _ _) ?_
  refine T.seq ?_
  refine T.text [.l] rfl ?_
  refine J.assign rfl rfl ?_
  refine J.end ?_
  refine X.then ?_
  refine T.seq ?_
  refine T.seq ?_
  refine T.text [.l, .l, .l, .l, .l] rfl ?_
  refine J.move rfl rfl ?_
  refine J.lenSl Tryz.underlying25 rfl rfl ?_
  refine J.move rfl rfl ?_
  refine J.lenSl Tryz.underlying25 rfl rfl ?_
  refine J.neq rfl rfl rfl rfl ?_
  refine J.end ?_
  refine X.then ?_
  refine T.cond_dec rfl (fun h1 => ?_) (fun h1 => ?_)
  · have hap : ¬ ps.map Ch.v = qs.map Ch.v := fun q => by have := congrArg List.length q; simp at this; omega
    refine T.seq ?_
    refine T.text [.l] rfl ?_
    refine J.assign rfl rfl ?_
    refine J.end ?_
    refine X.then ?_
    refine T.ret ?_
    refine X.then_ret ?_
    exact X.ret1 rfl (RV.tmp rfl) (fun w' hw' => by first | exact ⟨by rw [decide_eq_false hap], hw'.sub (Sub.nil _)⟩ | exact ⟨by rw [decide_eq_true hap], hw'.sub (Sub.nil _)⟩ | exact ⟨by rw [decide_eq_false (fun q => hne ((same_v hll).2 q i hi2))], hw'.sub (Sub.nil _)⟩)
  · have hll : ps.length = qs.length := by omega
    refine T.skip ?_
    refine X.then ?_
    refine T.seq ?_
    refine T.seq ?_
    refine T.text [.l] rfl ?_
    refine J.assign rfl rfl ?_
    refine J.end ?_
    refine X.then ?_
    refine T.block ?_
    refine T.loop (ι := Nat) (fun (i : Nat) => i ≤ ps.length ∧ (∀ j, j < i → (ps.getD j default).v = (qs.getD j default).v)) (fun (i : Nat) => [(0, .slice A1 ps.length c1), (1, .slice A2 qs.length c2), (5, .int .i64 ((i : Nat) : Int))]) (fun (i : Nat) => []) (fun (i : Nat) => ps.length - i) 0 ⟨Nat.zero_le _, fun j hj => by omega⟩ (by repeat (first | exact Sub.nil _ | refine Sub.cons (by first | rfl | (rw [dgs_zero]; rfl) | (rw [List.drop_length]; rfl) | (simp; done) | (congr 2; omega) | (congr 3; omega)) ?_)) (by repeat (first | exact Sub.nil _ | refine Sub.cons (by first | rfl | (rw [dgs_zero]; rfl) | (rw [List.drop_length]; rfl) | (simp; done) | (congr 2; omega) | (congr 3; omega)) ?_)) ?_
    rintro i ⟨hi, hsm⟩
    refine T.seq ?_
    refine T.seq ?_
    refine T.text [.l, .l, .l, .l] rfl ?_
    refine J.move rfl rfl ?_
    refine J.move rfl rfl ?_
    refine J.lenSl Tryz.underlying25 rfl rfl ?_
    refine J.lss rfl rfl rfl rfl ?_
    refine J.end ?_
    refine X.then ?_
    refine T.cond_dec rfl (fun h2 => ?_) (fun h2 => ?_)
    · have hi2 : i < ps.length := by omega
      have hj2 : i < qs.length := by omega
      refine T.skip ?_
      refine X.then ?_
      refine T.seq ?_
      refine T.block ?_
      refine T.seq ?_
      refine T.draw [] [(0, .g), (1, .g), (2, .g), (3, .g), (4, .q), (5, .g), (6, .g), (7, .g), (8, .g), (9, .q), (10, .g), (11, .g), (12, .g), (13, .g), (14, .g), (15, .g), (16, .q), (17, .g), (18, .g), (19, .g), (20, .g), (21, .q), (22, .g), (23, .g), (24, .g), (25, .g), (26, .g), (27, .g), (28, .g), (29, .q), (30, .g), (31, .g), (32, .g), (33, .g), (34, .q), (35, .g), (36, .g), (37, .g), (38, .g), (39, .g), (40, .g), (41, .g), (42, .q), (43, .g), (44, .g), (45, .g), (46, .g), (47, .q), (48, .g), (49, .g), (50, .g), (51, .g), (52, .g), (53, .g), (54, .g), (55, .q), (56, .g), (57, .g), (58, .g), (59, .g), (60, .q), (61, .g), (62, .g), (63, .g), (64, .g), (65, .g), (66, .g), (67, .g), (68, .q), (69, .q), (70, .g), (71, .g), (72, .g), (73, .g), (74, .q), (75, .q), (76, .g), (77, .g), (78, .g), (79, .g), (80, .g), (81, .g), (82, .g), (83, .q), (84, .q), (85, .g), (86, .g), (87, .g), (88, .g), (89, .q), (90, .q), (91, .g), (92, .g)] (by kernel_rfl) (by kernel_rfl) ?_ (by repeat (first | exact Sub.nil _ | refine Sub.cons (by first | rfl | (rw [dgs_zero]; rfl) | (rw [List.drop_length]; rfl) | (simp; done) | (congr 2; omega) | (congr 3; omega)) ?_))
      refine J.move rfl rfl ?_
      refine J.move rfl rfl ?_
      refine J.indexSlI sl25 rfl (hA1.isSome (by rw [rowC_length]; omega)) rfl (by omega) (by omega) (by first | exact Int.toNat_natCast _ | rfl) rfl ?_
      refine J.fieldAddrI fld53_0 rfl rfl ?_
      refine J.loadIN (k := .q) trivial hA1 (off_nil _) rfl agg47 (ac (ps.getD i default).who) rfl (by rw [rowC_sub ps i 0 20 (by omega) (by decide)]; rfl) rfl ?_
      refine J.move rfl rfl ?_
      refine J.move rfl rfl ?_
      refine J.indexSlI sl25 rfl (hA2.isSome (by rw [rowC_length]; omega)) rfl (by omega) (by omega) (by first | exact Int.toNat_natCast _ | rfl) rfl ?_
      refine J.fieldAddrI fld53_0 rfl rfl ?_
      refine J.loadIN (k := .q) trivial hA2 (off_nil _) rfl agg47 (ac (qs.getD i default).who) rfl (by rw [rowC_sub qs i 0 20 (by omega) (by decide)]; rfl) rfl ?_
      refine J.neqA eqA47 rfl rfl (by rfl) (by rfl) rfl ?_
      refine J.move rfl rfl ?_
      refine J.split 28 rfl (fun h3 => ?_) (fun h3 => ?_)
      · have hne : ¬ (ps.getD i default).v = (qs.getD i default).v := fun q => h3 (adL_inj.2 (congrArg CV.who q))
        refine J.no rfl rfl rfl rfl ?_
        refine J.no rfl rfl rfl rfl ?_
        refine J.no rfl rfl rfl rfl ?_
        refine J.no rfl rfl rfl rfl ?_
        refine J.no rfl rfl rfl rfl ?_
        refine J.no rfl rfl rfl rfl ?_
        refine J.no rfl rfl rfl rfl ?_
        refine J.no rfl rfl rfl rfl ?_
        refine J.no rfl rfl rfl rfl ?_
        refine J.no rfl rfl rfl rfl ?_
        refine J.no rfl rfl rfl rfl ?_
        refine J.pick_t rfl rfl rfl ?_
        refine J.move rfl rfl ?_
        refine J.no rfl rfl rfl rfl ?_
        refine J.no rfl rfl rfl rfl ?_
        refine J.no rfl rfl rfl rfl ?_
        refine J.no rfl rfl rfl rfl ?_
        refine J.no rfl rfl rfl rfl ?_
        refine J.no rfl rfl rfl rfl ?_
        refine J.no rfl rfl rfl rfl ?_
        refine J.no rfl rfl rfl rfl ?_
        refine J.no rfl rfl rfl rfl ?_
        refine J.no rfl rfl rfl rfl ?_
        refine J.no rfl rfl rfl rfl ?_
        refine J.pick_t rfl rfl rfl ?_
        refine J.move rfl rfl ?_
        refine J.no rfl rfl rfl rfl ?_
        refine J.no rfl rfl rfl rfl ?_
        refine J.no rfl rfl rfl rfl ?_
        refine J.no rfl rfl rfl rfl ?_
        refine J.no rfl rfl rfl rfl ?_
        refine J.no rfl rfl rfl rfl ?_
        refine J.no rfl rfl rfl rfl ?_
        refine J.no rfl rfl rfl rfl ?_
        refine J.no rfl rfl rfl rfl ?_
        refine J.no rfl rfl rfl rfl ?_
        refine J.no rfl rfl rfl rfl ?_
        refine J.pick_t rfl rfl rfl ?_
        refine J.move rfl rfl ?_
        refine J.no rfl rfl rfl rfl ?_
        refine J.no rfl rfl rfl rfl ?_
        refine J.no rfl rfl rfl rfl ?_
        refine J.no rfl rfl rfl rfl ?_
        refine J.no rfl rfl rfl rfl ?_
        refine J.no rfl rfl rfl rfl ?_
        refine J.no rfl rfl rfl rfl ?_
        refine J.no rfl rfl rfl rfl ?_
        refine J.no rfl rfl rfl rfl ?_
        refine J.no rfl rfl rfl rfl ?_
        refine J.no rfl rfl rfl rfl ?_
        refine J.pick_t rfl rfl rfl ?_
        refine J.move rfl rfl ?_
        refine J.no rfl rfl rfl rfl ?_
        refine J.no rfl rfl rfl rfl ?_
        refine J.no rfl rfl rfl rfl ?_
        refine J.no rfl rfl rfl rfl ?_
        refine J.no rfl rfl rfl rfl ?_
        refine J.no rfl rfl rfl rfl ?_
        refine J.no rfl rfl rfl rfl ?_
        refine J.no rfl rfl rfl rfl ?_
        refine J.no rfl rfl rfl rfl ?_
        refine J.no rfl rfl rfl rfl ?_
        refine J.no rfl rfl rfl rfl ?_
        refine J.no rfl rfl rfl rfl ?_
        refine J.no rfl rfl rfl rfl ?_
        refine J.pick_t rfl rfl rfl ?_
        refine J.move rfl rfl ?_
        refine J.no rfl rfl rfl rfl ?_
        refine J.no rfl rfl rfl rfl ?_
        refine J.no rfl rfl rfl rfl ?_
        refine J.no rfl rfl rfl rfl ?_
        refine J.no rfl rfl rfl rfl ?_
        refine J.no rfl rfl rfl rfl ?_
        refine J.no rfl rfl rfl rfl ?_
        refine J.no rfl rfl rfl rfl ?_
        refine J.no rfl rfl rfl rfl ?_
        refine J.no rfl rfl rfl rfl ?_
        refine J.no rfl rfl rfl rfl ?_
        refine J.no rfl rfl rfl rfl ?_
        refine J.no rfl rfl rfl rfl ?_
        refine J.pick_t rfl rfl rfl ?_
        refine J.end ?_
        refine X.then ?_
        refine T.cond_true rfl ?_
        refine T.seq ?_
        refine T.text [.l] rfl ?_
        refine J.assign rfl rfl ?_
        refine J.end ?_
        refine X.then ?_
        refine T.ret ?_
        refine X.inBlock_ret (X.then_ret (X.then_ret (X.inBlock_ret (X.then_ret ?_))))
        exact X.ret1 rfl (RV.tmp rfl) (fun w' hw' => by first | exact ⟨by rw [decide_eq_false hap], hw'.sub (Sub.nil _)⟩ | exact ⟨by rw [decide_eq_true hap], hw'.sub (Sub.nil _)⟩ | exact ⟨by rw [decide_eq_false (fun q => hne ((same_v hll).2 q i hi2))], hw'.sub (Sub.nil _)⟩)
      · have hq1 := Decidable.not_not.1 h3
        refine J.yes rfl rfl ?_
        refine J.move rfl rfl ?_
        refine J.yes rfl rfl ?_
        refine J.move rfl rfl ?_
        refine J.yes rfl rfl ?_
        refine J.indexSlI sl25 rfl (hA1.isSome (by rw [rowC_length]; omega)) rfl (by omega) (by omega) (by first | exact Int.toNat_natCast _ | rfl) rfl ?_
        refine J.yes rfl rfl ?_
        refine J.fieldAddrI fld53_1 rfl rfl ?_
        refine J.yes rfl rfl ?_
        refine J.loadI1 (k := .q) trivial hA1 (off_nil _) rfl one3 (by rw [rowC_cell ps i 20 (by omega) (by decide)]; rfl) rfl ?_
        refine J.yes rfl rfl ?_
        refine J.move rfl rfl ?_
        refine J.yes rfl rfl ?_
        refine J.move rfl rfl ?_
        refine J.yes rfl rfl ?_
        refine J.indexSlI sl25 rfl (hA2.isSome (by rw [rowC_length]; omega)) rfl (by omega) (by omega) (by first | exact Int.toNat_natCast _ | rfl) rfl ?_
        refine J.yes rfl rfl ?_
        refine J.fieldAddrI fld53_1 rfl rfl ?_
        refine J.yes rfl rfl ?_
        refine J.loadI1 (k := .q) trivial hA2 (off_nil _) rfl one3 (by rw [rowC_cell qs i 20 (by omega) (by decide)]; rfl) rfl ?_
        refine J.yes rfl rfl ?_
        refine J.neq rfl rfl rfl rfl ?_
        refine J.pick_f rfl rfl rfl ?_
        refine J.move rfl rfl ?_
        refine J.split 41 rfl (fun h4 => ?_) (fun h4 => ?_)
        · have hne : ¬ (ps.getD i default).v = (qs.getD i default).v := fun q => h4 (congrArg CV.kind q)
          refine J.no rfl rfl rfl rfl ?_
          refine J.no rfl rfl rfl rfl ?_
          refine J.no rfl rfl rfl rfl ?_
          refine J.no rfl rfl rfl rfl ?_
          refine J.no rfl rfl rfl rfl ?_
          refine J.no rfl rfl rfl rfl ?_
          refine J.no rfl rfl rfl rfl ?_
          refine J.no rfl rfl rfl rfl ?_
          refine J.no rfl rfl rfl rfl ?_
          refine J.no rfl rfl rfl rfl ?_
          refine J.no rfl rfl rfl rfl ?_
          refine J.pick_t rfl rfl rfl ?_
          refine J.move rfl rfl ?_
          refine J.no rfl rfl rfl rfl ?_
          refine J.no rfl rfl rfl rfl ?_
          refine J.no rfl rfl rfl rfl ?_
          refine J.no rfl rfl rfl rfl ?_
          refine J.no rfl rfl rfl rfl ?_
          refine J.no rfl rfl rfl rfl ?_
          refine J.no rfl rfl rfl rfl ?_
          refine J.no rfl rfl rfl rfl ?_
          refine J.no rfl rfl rfl rfl ?_
          refine J.no rfl rfl rfl rfl ?_
          refine J.no rfl rfl rfl rfl ?_
          refine J.pick_t rfl rfl rfl ?_
          refine J.move rfl rfl ?_
          refine J.no rfl rfl rfl rfl ?_
          refine J.no rfl rfl rfl rfl ?_
          refine J.no rfl rfl rfl rfl ?_
          refine J.no rfl rfl rfl rfl ?_
          refine J.no rfl rfl rfl rfl ?_
          refine J.no rfl rfl rfl rfl ?_
          refine J.no rfl rfl rfl rfl ?_
          refine J.no rfl rfl rfl rfl ?_
          refine J.no rfl rfl rfl rfl ?_
          refine J.no rfl rfl rfl rfl ?_
          refine J.no rfl rfl rfl rfl ?_
          refine J.pick_t rfl rfl rfl ?_
          refine J.move rfl rfl ?_
          refine J.no rfl rfl rfl rfl ?_
          refine J.no rfl rfl rfl rfl ?_
          refine J.no rfl rfl rfl rfl ?_
          refine J.no rfl rfl rfl rfl ?_
          refine J.no rfl rfl rfl rfl ?_
          refine J.no rfl rfl rfl rfl ?_
          refine J.no rfl rfl rfl rfl ?_
          refine J.no rfl rfl rfl rfl ?_
          refine J.no rfl rfl rfl rfl ?_
          refine J.no rfl rfl rfl rfl ?_
          refine J.no rfl rfl rfl rfl ?_
          refine J.no rfl rfl rfl rfl ?_
          refine J.no rfl rfl rfl rfl ?_
          refine J.pick_t rfl rfl rfl ?_
          refine J.move rfl rfl ?_
          refine J.no rfl rfl rfl rfl ?_
          refine J.no rfl rfl rfl rfl ?_
          refine J.no rfl rfl rfl rfl ?_
          refine J.no rfl rfl rfl rfl ?_
          refine J.no rfl rfl rfl rfl ?_
          refine J.no rfl rfl rfl rfl ?_
          refine J.no rfl rfl rfl rfl ?_
          refine J.no rfl rfl rfl rfl ?_
          refine J.no rfl rfl rfl rfl ?_
          refine J.no rfl rfl rfl rfl ?_
          refine J.no rfl rfl rfl rfl ?_
          refine J.no rfl rfl rfl rfl ?_
          refine J.no rfl rfl rfl rfl ?_
          refine J.pick_t rfl rfl rfl ?_
          refine J.end ?_
          refine X.then ?_
          refine T.cond_true rfl ?_
          refine T.seq ?_
          refine T.text [.l] rfl ?_
          refine J.assign rfl rfl ?_
          refine J.end ?_
          refine X.then ?_
          refine T.ret ?_
          refine X.inBlock_ret (X.then_ret (X.then_ret (X.inBlock_ret (X.then_ret ?_))))
          exact X.ret1 rfl (RV.tmp rfl) (fun w' hw' => by first | exact ⟨by rw [decide_eq_false hap], hw'.sub (Sub.nil _)⟩ | exact ⟨by rw [decide_eq_true hap], hw'.sub (Sub.nil _)⟩ | exact ⟨by rw [decide_eq_false (fun q => hne ((same_v hll).2 q i hi2))], hw'.sub (Sub.nil _)⟩)
        · have hq2 := Decidable.not_not.1 h4
          refine J.yes rfl rfl ?_
          refine J.move rfl rfl ?_
          refine J.yes rfl rfl ?_
          refine J.move rfl rfl ?_
          refine J.yes rfl rfl ?_
          refine J.indexSlI sl25 rfl (hA1.isSome (by rw [rowC_length]; omega)) rfl (by omega) (by omega) (by first | exact Int.toNat_natCast _ | rfl) rfl ?_
          refine J.yes rfl rfl ?_
          refine J.fieldAddrI fld53_2 rfl rfl ?_
          refine J.yes rfl rfl ?_
          refine J.loadIN (k := .q) trivial hA1 (off_nil _) rfl agg50 (wc (ps.getD i default).key) rfl (by rw [rowC_sub ps i 21 4 (by omega) (by decide)]; rfl) rfl ?_
          refine J.yes rfl rfl ?_
          refine J.move rfl rfl ?_
          refine J.yes rfl rfl ?_
          refine J.move rfl rfl ?_
          refine J.yes rfl rfl ?_
          refine J.indexSlI sl25 rfl (hA2.isSome (by rw [rowC_length]; omega)) rfl (by omega) (by omega) (by first | exact Int.toNat_natCast _ | rfl) rfl ?_
          refine J.yes rfl rfl ?_
          refine J.fieldAddrI fld53_2 rfl rfl ?_
          refine J.yes rfl rfl ?_
          refine J.loadIN (k := .q) trivial hA2 (off_nil _) rfl agg50 (wc (qs.getD i default).key) rfl (by rw [rowC_sub qs i 21 4 (by omega) (by decide)]; rfl) rfl ?_
          refine J.yes rfl rfl ?_
          refine J.neqW eqw50 rfl rfl rfl ?_
          refine J.pick_f rfl rfl rfl ?_
          refine J.move rfl rfl ?_
          refine J.split 54 rfl (fun h5 => ?_) (fun h5 => ?_)
          · have hne : ¬ (ps.getD i default).v = (qs.getD i default).v := fun q => h5 (congrArg CV.key q)
            refine J.no rfl rfl rfl rfl ?_
            refine J.no rfl rfl rfl rfl ?_
            refine J.no rfl rfl rfl rfl ?_
            refine J.no rfl rfl rfl rfl ?_
            refine J.no rfl rfl rfl rfl ?_
            refine J.no rfl rfl rfl rfl ?_
            refine J.no rfl rfl rfl rfl ?_
            refine J.no rfl rfl rfl rfl ?_
            refine J.no rfl rfl rfl rfl ?_
            refine J.no rfl rfl rfl rfl ?_
            refine J.no rfl rfl rfl rfl ?_
            refine J.pick_t rfl rfl rfl ?_
            refine J.move rfl rfl ?_
            refine J.no rfl rfl rfl rfl ?_
            refine J.no rfl rfl rfl rfl ?_
            refine J.no rfl rfl rfl rfl ?_
            refine J.no rfl rfl rfl rfl ?_
            refine J.no rfl rfl rfl rfl ?_
            refine J.no rfl rfl rfl rfl ?_
            refine J.no rfl rfl rfl rfl ?_
            refine J.no rfl rfl rfl rfl ?_
            refine J.no rfl rfl rfl rfl ?_
            refine J.no rfl rfl rfl rfl ?_
            refine J.no rfl rfl rfl rfl ?_
            refine J.pick_t rfl rfl rfl ?_
            refine J.move rfl rfl ?_
            refine J.no rfl rfl rfl rfl ?_
            refine J.no rfl rfl rfl rfl ?_
            refine J.no rfl rfl rfl rfl ?_
            refine J.no rfl rfl rfl rfl ?_
            refine J.no rfl rfl rfl rfl ?_
            refine J.no rfl rfl rfl rfl ?_
            refine J.no rfl rfl rfl rfl ?_
            refine J.no rfl rfl rfl rfl ?_
            refine J.no rfl rfl rfl rfl ?_
            refine J.no rfl rfl rfl rfl ?_
            refine J.no rfl rfl rfl rfl ?_
            refine J.no rfl rfl rfl rfl ?_
            refine J.no rfl rfl rfl rfl ?_
            refine J.pick_t rfl rfl rfl ?_
            refine J.move rfl rfl ?_
            refine J.no rfl rfl rfl rfl ?_
            refine J.no rfl rfl rfl rfl ?_
            refine J.no rfl rfl rfl rfl ?_
            refine J.no rfl rfl rfl rfl ?_
            refine J.no rfl rfl rfl rfl ?_
            refine J.no rfl rfl rfl rfl ?_
            refine J.no rfl rfl rfl rfl ?_
            refine J.no rfl rfl rfl rfl ?_
            refine J.no rfl rfl rfl rfl ?_
            refine J.no rfl rfl rfl rfl ?_
            refine J.no rfl rfl rfl rfl ?_
            refine J.no rfl rfl rfl rfl ?_
            refine J.no rfl rfl rfl rfl ?_
            refine J.pick_t rfl rfl rfl ?_
            refine J.end ?_
            refine X.then ?_
            refine T.cond_true rfl ?_
            refine T.seq ?_
            refine T.text [.l] rfl ?_
            refine J.assign rfl rfl ?_
            refine J.end ?_
            refine X.then ?_
            refine T.ret ?_
            refine X.inBlock_ret (X.then_ret (X.then_ret (X.inBlock_ret (X.then_ret ?_))))
            exact X.ret1 rfl (RV.tmp rfl) (fun w' hw' => by first | exact ⟨by rw [decide_eq_false hap], hw'.sub (Sub.nil _)⟩ | exact ⟨by rw [decide_eq_true hap], hw'.sub (Sub.nil _)⟩ | exact ⟨by rw [decide_eq_false (fun q => hne ((same_v hll).2 q i hi2))], hw'.sub (Sub.nil _)⟩)
          · have hq3 := Decidable.not_not.1 h5
            refine J.yes rfl rfl ?_
            refine J.move rfl rfl ?_
            refine J.yes rfl rfl ?_
            refine J.move rfl rfl ?_
            refine J.yes rfl rfl ?_
            refine J.indexSlI sl25 rfl (hA1.isSome (by rw [rowC_length]; omega)) rfl (by omega) (by omega) (by first | exact Int.toNat_natCast _ | rfl) rfl ?_
            refine J.yes rfl rfl ?_
            refine J.fieldAddrI fld53_3 rfl rfl ?_
            refine J.yes rfl rfl ?_
            refine J.loadIN (k := .q) trivial hA1 (off_nil _) rfl agg50 (wc (ps.getD i default).old) rfl (by rw [rowC_sub ps i 25 4 (by omega) (by decide)]; rfl) rfl ?_
            refine J.yes rfl rfl ?_
            refine J.move rfl rfl ?_
            refine J.yes rfl rfl ?_
            refine J.move rfl rfl ?_
            refine J.yes rfl rfl ?_
            refine J.indexSlI sl25 rfl (hA2.isSome (by rw [rowC_length]; omega)) rfl (by omega) (by omega) (by first | exact Int.toNat_natCast _ | rfl) rfl ?_
            refine J.yes rfl rfl ?_
            refine J.fieldAddrI fld53_3 rfl rfl ?_
            refine J.yes rfl rfl ?_
            refine J.loadIN (k := .q) trivial hA2 (off_nil _) rfl agg50 (wc (qs.getD i default).old) rfl (by rw [rowC_sub qs i 25 4 (by omega) (by decide)]; rfl) rfl ?_
            refine J.yes rfl rfl ?_
            refine J.neqW eqw50 rfl rfl rfl ?_
            refine J.pick_f rfl rfl rfl ?_
            refine J.move rfl rfl ?_
            refine J.split 67 rfl (fun h6 => ?_) (fun h6 => ?_)
            · have hne : ¬ (ps.getD i default).v = (qs.getD i default).v := fun q => h6 (congrArg CV.old q)
              refine J.no rfl rfl rfl rfl ?_
              refine J.no rfl rfl rfl rfl ?_
              refine J.no rfl rfl rfl rfl ?_
              refine J.no rfl rfl rfl rfl ?_
              refine J.no rfl rfl rfl rfl ?_
              refine J.no rfl rfl rfl rfl ?_
              refine J.no rfl rfl rfl rfl ?_
              refine J.no rfl rfl rfl rfl ?_
              refine J.no rfl rfl rfl rfl ?_
              refine J.no rfl rfl rfl rfl ?_
              refine J.no rfl rfl rfl rfl ?_
              refine J.pick_t rfl rfl rfl ?_
              refine J.move rfl rfl ?_
              refine J.no rfl rfl rfl rfl ?_
              refine J.no rfl rfl rfl rfl ?_
              refine J.no rfl rfl rfl rfl ?_
              refine J.no rfl rfl rfl rfl ?_
              refine J.no rfl rfl rfl rfl ?_
              refine J.no rfl rfl rfl rfl ?_
              refine J.no rfl rfl rfl rfl ?_
              refine J.no rfl rfl rfl rfl ?_
              refine J.no rfl rfl rfl rfl ?_
              refine J.no rfl rfl rfl rfl ?_
              refine J.no rfl rfl rfl rfl ?_
              refine J.no rfl rfl rfl rfl ?_
              refine J.no rfl rfl rfl rfl ?_
              refine J.pick_t rfl rfl rfl ?_
              refine J.move rfl rfl ?_
              refine J.no rfl rfl rfl rfl ?_
              refine J.no rfl rfl rfl rfl ?_
              refine J.no rfl rfl rfl rfl ?_
              refine J.no rfl rfl rfl rfl ?_
              refine J.no rfl rfl rfl rfl ?_
              refine J.no rfl rfl rfl rfl ?_
              refine J.no rfl rfl rfl rfl ?_
              refine J.no rfl rfl rfl rfl ?_
              refine J.no rfl rfl rfl rfl ?_
              refine J.no rfl rfl rfl rfl ?_
              refine J.no rfl rfl rfl rfl ?_
              refine J.no rfl rfl rfl rfl ?_
              refine J.no rfl rfl rfl rfl ?_
              refine J.pick_t rfl rfl rfl ?_
              refine J.end ?_
              refine X.then ?_
              refine T.cond_true rfl ?_
              refine T.seq ?_
              refine T.text [.l] rfl ?_
              refine J.assign rfl rfl ?_
              refine J.end ?_
              refine X.then ?_
              refine T.ret ?_
              refine X.inBlock_ret (X.then_ret (X.then_ret (X.inBlock_ret (X.then_ret ?_))))
              exact X.ret1 rfl (RV.tmp rfl) (fun w' hw' => by first | exact ⟨by rw [decide_eq_false hap], hw'.sub (Sub.nil _)⟩ | exact ⟨by rw [decide_eq_true hap], hw'.sub (Sub.nil _)⟩ | exact ⟨by rw [decide_eq_false (fun q => hne ((same_v hll).2 q i hi2))], hw'.sub (Sub.nil _)⟩)
            · have hq4 := Decidable.not_not.1 h6
              refine J.yes rfl rfl ?_
              refine J.move rfl rfl ?_
              refine J.yes rfl rfl ?_
              refine J.move rfl rfl ?_
              refine J.yes rfl rfl ?_
              refine J.indexSlI sl25 rfl (hA1.isSome (by rw [rowC_length]; omega)) rfl (by omega) (by omega) (by first | exact Int.toNat_natCast _ | rfl) rfl ?_
              refine J.yes rfl rfl ?_
              refine J.fieldAddrI fld53_4 rfl rfl ?_
              refine J.yes rfl rfl ?_
              refine J.loadIN (k := .q) trivial hA1 (off_nil _) rfl agg50 (wc (ps.getD i default).new) rfl (by rw [rowC_sub ps i 29 4 (by omega) (by decide)]; rfl) rfl ?_
              refine J.yes rfl rfl ?_
              refine J.move rfl rfl ?_
              refine J.yes rfl rfl ?_
              refine J.move rfl rfl ?_
              refine J.yes rfl rfl ?_
              refine J.indexSlI sl25 rfl (hA2.isSome (by rw [rowC_length]; omega)) rfl (by omega) (by omega) (by first | exact Int.toNat_natCast _ | rfl) rfl ?_
              refine J.yes rfl rfl ?_
              refine J.fieldAddrI fld53_4 rfl rfl ?_
              refine J.yes rfl rfl ?_
              refine J.loadIN (k := .q) trivial hA2 (off_nil _) rfl agg50 (wc (qs.getD i default).new) rfl (by rw [rowC_sub qs i 29 4 (by omega) (by decide)]; rfl) rfl ?_
              refine J.yes rfl rfl ?_
              refine J.neqW eqw50 rfl rfl rfl ?_
              refine J.pick_f rfl rfl rfl ?_
              refine J.move rfl rfl ?_
              refine J.split 80 rfl (fun h7 => ?_) (fun h7 => ?_)
              · have hne : ¬ (ps.getD i default).v = (qs.getD i default).v := fun q => h7 (congrArg CV.new q)
                refine J.no rfl rfl rfl rfl ?_
                refine J.no rfl rfl rfl rfl ?_
                refine J.no rfl rfl rfl rfl ?_
                refine J.no rfl rfl rfl rfl ?_
                refine J.no rfl rfl rfl rfl ?_
                refine J.no rfl rfl rfl rfl ?_
                refine J.no rfl rfl rfl rfl ?_
                refine J.no rfl rfl rfl rfl ?_
                refine J.no rfl rfl rfl rfl ?_
                refine J.no rfl rfl rfl rfl ?_
                refine J.no rfl rfl rfl rfl ?_
                refine J.no rfl rfl rfl rfl ?_
                refine J.no rfl rfl rfl rfl ?_
                refine J.pick_t rfl rfl rfl ?_
                refine J.move rfl rfl ?_
                refine J.no rfl rfl rfl rfl ?_
                refine J.no rfl rfl rfl rfl ?_
                refine J.no rfl rfl rfl rfl ?_
                refine J.no rfl rfl rfl rfl ?_
                refine J.no rfl rfl rfl rfl ?_
                refine J.no rfl rfl rfl rfl ?_
                refine J.no rfl rfl rfl rfl ?_
                refine J.no rfl rfl rfl rfl ?_
                refine J.no rfl rfl rfl rfl ?_
                refine J.no rfl rfl rfl rfl ?_
                refine J.no rfl rfl rfl rfl ?_
                refine J.no rfl rfl rfl rfl ?_
                refine J.no rfl rfl rfl rfl ?_
                refine J.pick_t rfl rfl rfl ?_
                refine J.end ?_
                refine X.then ?_
                refine T.cond_true rfl ?_
                refine T.seq ?_
                refine T.text [.l] rfl ?_
                refine J.assign rfl rfl ?_
                refine J.end ?_
                refine X.then ?_
                refine T.ret ?_
                refine X.inBlock_ret (X.then_ret (X.then_ret (X.inBlock_ret (X.then_ret ?_))))
                exact X.ret1 rfl (RV.tmp rfl) (fun w' hw' => by first | exact ⟨by rw [decide_eq_false hap], hw'.sub (Sub.nil _)⟩ | exact ⟨by rw [decide_eq_true hap], hw'.sub (Sub.nil _)⟩ | exact ⟨by rw [decide_eq_false (fun q => hne ((same_v hll).2 q i hi2))], hw'.sub (Sub.nil _)⟩)
              · have hq5 := Decidable.not_not.1 h7
                refine J.yes rfl rfl ?_
                refine J.move rfl rfl ?_
                refine J.yes rfl rfl ?_
                refine J.move rfl rfl ?_
                refine J.yes rfl rfl ?_
                refine J.indexSlI sl25 rfl (hA1.isSome (by rw [rowC_length]; omega)) rfl (by omega) (by omega) (by first | exact Int.toNat_natCast _ | rfl) rfl ?_
                refine J.yes rfl rfl ?_
                refine J.fieldAddrI fld53_5 rfl rfl ?_
                refine J.yes rfl rfl ?_
                refine J.loadI1 (k := .q) trivial hA1 (off_nil _) rfl one51 (by rw [rowC_cell ps i 33 (by omega) (by decide)]; rfl) rfl ?_
                refine J.yes rfl rfl ?_
                refine J.convBS (k := .q) trivial Tryz.underlying51 Tryz.underlying5 Tryz.underlying9 rfl ((ps.getD i default).oc) rfl (fun w hw => ((hd1.get hi2).fo.cs.ws hw (off_nil _))) rfl ?_
                refine J.yes rfl rfl ?_
                refine J.move rfl rfl ?_
                refine J.yes rfl rfl ?_
                refine J.move rfl rfl ?_
                refine J.yes rfl rfl ?_
                refine J.indexSlI sl25 rfl (hA2.isSome (by rw [rowC_length]; omega)) rfl (by omega) (by omega) (by first | exact Int.toNat_natCast _ | rfl) rfl ?_
                refine J.yes rfl rfl ?_
                refine J.fieldAddrI fld53_5 rfl rfl ?_
                refine J.yes rfl rfl ?_
                refine J.loadI1 (k := .q) trivial hA2 (off_nil _) rfl one51 (by rw [rowC_cell qs i 33 (by omega) (by decide)]; rfl) rfl ?_
                refine J.yes rfl rfl ?_
                refine J.convBS (k := .q) trivial Tryz.underlying51 Tryz.underlying5 Tryz.underlying9 rfl ((qs.getD i default).oc) rfl (fun w hw => ((hd2.get hj2).fo.cs.ws hw (off_nil _))) rfl ?_
                refine J.yes rfl rfl ?_
                refine J.neqStr (xs := (ps.getD i default).oc) (ys := (qs.getD i default).oc) rfl rfl rfl (hd1.get hi2).dO (hd2.get hj2).dO ?_
                refine J.pick_f rfl rfl rfl ?_
                refine J.move rfl rfl ?_
                refine J.split 95 rfl (fun h8 => ?_) (fun h8 => ?_)
                · have hne : ¬ (ps.getD i default).v = (qs.getD i default).v := fun q => h8 (congrArg CV.oc q)
                  refine J.no rfl rfl rfl rfl ?_
                  refine J.no rfl rfl rfl rfl ?_
                  refine J.no rfl rfl rfl rfl ?_
                  refine J.no rfl rfl rfl rfl ?_
                  refine J.no rfl rfl rfl rfl ?_
                  refine J.no rfl rfl rfl rfl ?_
                  refine J.no rfl rfl rfl rfl ?_
                  refine J.no rfl rfl rfl rfl ?_
                  refine J.no rfl rfl rfl rfl ?_
                  refine J.no rfl rfl rfl rfl ?_
                  refine J.no rfl rfl rfl rfl ?_
                  refine J.no rfl rfl rfl rfl ?_
                  refine J.no rfl rfl rfl rfl ?_
                  refine J.pick_t rfl rfl rfl ?_
                  refine J.end ?_
                  refine X.then ?_
                  refine T.cond_true rfl ?_
                  refine T.seq ?_
                  refine T.text [.l] rfl ?_
                  refine J.assign rfl rfl ?_
                  refine J.end ?_
                  refine X.then ?_
                  refine T.ret ?_
                  refine X.inBlock_ret (X.then_ret (X.then_ret (X.inBlock_ret (X.then_ret ?_))))
                  exact X.ret1 rfl (RV.tmp rfl) (fun w' hw' => by first | exact ⟨by rw [decide_eq_false hap], hw'.sub (Sub.nil _)⟩ | exact ⟨by rw [decide_eq_true hap], hw'.sub (Sub.nil _)⟩ | exact ⟨by rw [decide_eq_false (fun q => hne ((same_v hll).2 q i hi2))], hw'.sub (Sub.nil _)⟩)
                · have hq6 := Decidable.not_not.1 h8
                  refine J.yes rfl rfl ?_
                  refine J.move rfl rfl ?_
                  refine J.yes rfl rfl ?_
                  refine J.move rfl rfl ?_
                  refine J.yes rfl rfl ?_
                  refine J.indexSlI sl25 rfl (hA1.isSome (by rw [rowC_length]; omega)) rfl (by omega) (by omega) (by first | exact Int.toNat_natCast _ | rfl) rfl ?_
                  refine J.yes rfl rfl ?_
                  refine J.fieldAddrI fld53_6 rfl rfl ?_
                  refine J.yes rfl rfl ?_
                  refine J.loadI1 (k := .q) trivial hA1 (off_nil _) rfl one51 (by rw [rowC_cell ps i 34 (by omega) (by decide)]; rfl) rfl ?_
                  refine J.yes rfl rfl ?_
                  refine J.convBS (k := .q) trivial Tryz.underlying51 Tryz.underlying5 Tryz.underlying9 rfl ((ps.getD i default).nc) rfl (fun w hw => ((hd1.get hi2).fn.cs.ws hw (off_nil _))) rfl ?_
                  refine J.yes rfl rfl ?_
                  refine J.move rfl rfl ?_
                  refine J.yes rfl rfl ?_
                  refine J.move rfl rfl ?_
                  refine J.yes rfl rfl ?_
                  refine J.indexSlI sl25 rfl (hA2.isSome (by rw [rowC_length]; omega)) rfl (by omega) (by omega) (by first | exact Int.toNat_natCast _ | rfl) rfl ?_
                  refine J.yes rfl rfl ?_
                  refine J.fieldAddrI fld53_6 rfl rfl ?_
                  refine J.yes rfl rfl ?_
                  refine J.loadI1 (k := .q) trivial hA2 (off_nil _) rfl one51 (by rw [rowC_cell qs i 34 (by omega) (by decide)]; rfl) rfl ?_
                  refine J.yes rfl rfl ?_
                  refine J.convBS (k := .q) trivial Tryz.underlying51 Tryz.underlying5 Tryz.underlying9 rfl ((qs.getD i default).nc) rfl (fun w hw => ((hd2.get hj2).fn.cs.ws hw (off_nil _))) rfl ?_
                  refine J.yes rfl rfl ?_
                  refine J.neqStr (xs := (ps.getD i default).nc) (ys := (qs.getD i default).nc) rfl rfl rfl (hd1.get hi2).dN (hd2.get hj2).dN ?_
                  refine J.pick_f rfl rfl rfl ?_
                  refine J.end ?_
                  refine X.then ?_
                  refine T.cond_dec rfl (fun h9 => ?_) (fun h9 => ?_)
                  · have hne : ¬ (ps.getD i default).v = (qs.getD i default).v := fun q => (by assumption : ¬ (ps.getD i default).nc = (qs.getD i default).nc) (congrArg CV.nc q)
                    have hap : ¬ ps.map Ch.v = qs.map Ch.v := fun q => hne ((same_v hll).2 q i hi2)
                    refine T.seq ?_
                    refine T.text [.l] rfl ?_
                    refine J.assign rfl rfl ?_
                    refine J.end ?_
                    refine X.then ?_
                    refine T.ret ?_
                    refine X.inBlock_ret (X.then_ret (X.then_ret (X.inBlock_ret (X.then_ret ?_))))
                    exact X.ret1 rfl (RV.tmp rfl) (fun w' hw' => by first | exact ⟨by rw [decide_eq_false hap], hw'.sub (Sub.nil _)⟩ | exact ⟨by rw [decide_eq_true hap], hw'.sub (Sub.nil _)⟩ | exact ⟨by rw [decide_eq_false (fun q => hne ((same_v hll).2 q i hi2))], hw'.sub (Sub.nil _)⟩)
                  · have heq : (ps.getD i default).v = (qs.getD i default).v := v_ext hq1 hq2 hq3 hq4 hq5 hq6 (Decidable.not_not.1 (by assumption))
                    refine T.skip ?_
                    refine X.inBlock (X.then ?_)
                    refine T.text [.l, .l, .l] rfl ?_
                    refine J.move rfl rfl ?_
                    refine J.add rfl rfl rfl (by first | exact add_nat _ 1 (by omega) | exact i64_ok _ (by omega) | exact rfl) ?_
                    refine J.assign rfl rfl ?_
                    refine J.end ?_
                    exact X.round (i + 1) ⟨by omega, lt_snoc hsm heq⟩ (by first | omega | (dsimp only; omega)) (by repeat (first | exact Sub.nil _ | refine Sub.cons (by first | rfl | (rw [dgs_zero]; rfl) | (rw [List.drop_length]; rfl) | (simp; done) | (congr 2; omega) | (congr 3; omega)) ?_)) (by repeat (first | exact Sub.nil _ | refine Sub.cons (by first | rfl | (rw [dgs_zero]; rfl) | (rw [List.drop_length]; rfl) | (simp; done) | (congr 2; omega) | (congr 3; omega)) ?_))
    · obtain rfl : i = ps.length := by omega
      have hap := (same_v hll).1 hsm
      refine T.exit ?_
      refine X.then_exit (X.then_exit (X.inBlock_eq (X.then ?_)))
      refine T.seq ?_
      refine T.text [.l] rfl ?_
      refine J.assign rfl rfl ?_
      refine J.end ?_
      refine X.then ?_
      refine T.ret ?_
      exact X.ret1 rfl (RV.tmp rfl) (fun w' hw' => by first | exact ⟨by rw [decide_eq_false hap], hw'.sub (Sub.nil _)⟩ | exact ⟨by rw [decide_eq_true hap], hw'.sub (Sub.nil _)⟩ | exact ⟨by rw [decide_eq_false (fun q => hne ((same_v hll).2 q i hi2))], hw'.sub (Sub.nil _)⟩)

theorem lendTurns (w : World) (n : Nat) (B : List (Option Nat)) (A1 : Option Addr) (c1 : Nat) (ds : List Ch) (hn : n ≤ w.heap.size) (hB : ∀ g, some g ∈ B → g < w.heap.size) (hA : Cs w A1 (rowC ds)) (hd : AllC w n B ds) (hs : ∀ c ∈ ds, c.oc.length ≤ 262144 ∧ c.nc.length ≤ 262144) (hl : ds.length ≤ 100000000) :
    Calls Tryz.prog 23 [.slice A1 ds.length c1].toArray w fun e w' => ∃ q : List Ch × RowIx, (q.1.map Ch.v = ds.map Ch.v ∧ AllL w' n B q.1 ∧ Fit w' n B (hdOf q.2.id) (rowC (q.1 ++ [markC])) ∧ q.1.length + 1 ≤ q.2.cap) ∧ e = .returned (.slice (hdOf q.2.id) q.1.length q.2.cap) ∧ WS w [] [] w' := by
  have hs2 : ∀ {i : Nat}, i < ds.length → (ds.getD i default).oc.length ≤ 1000000000 ∧ (ds.getD i default).nc.length ≤ 1000000000 := fun hi => lend_len hs hi
  refine calls_of_T [] 42 [] Tryz.func23 rfl Tryz.ntmps23 (by simp) (WS.refl _ _) ?_
  refine T.seq ?_
  refine T.text [.l] rfl ?_
  refine J.assign rfl rfl ?_
  refine J.end ?_
  refine X.then ?_
  refine T.seq ?_
  refine T.addNil 3 53 ?_
  refine T.text [.l] rfl ?_
  refine J.assign rfl rfl ?_
  refine J.end ?_
  refine X.then ?_
  refine T.seq ?_
  refine T.seq ?_
  refine T.text [.l] rfl ?_
  refine J.assign rfl rfl ?_
  refine J.end ?_
  refine X.then ?_
  refine T.block ?_
  refine T.snap [(3, ⟨none, 53, []⟩)] (by repeat (first | exact Sub.nil _ | refine Sub.cons (by first | rfl | (rw [dgs_zero]; rfl) | (rw [List.drop_length]; rfl) | (simp; done) | (congr 2; omega) | (congr 3; omega)) ?_ | exact Sub.refl _ | refine sub_snap ?_ rfl)) rfl (fun Wl1 hWWl1 => ?_)
  have kpWl1 := (keep_base (B0 := B) (l1 := [(3, ⟨none, 53, []⟩)]) hn (fun g hg => by cases hg) hWWl1 (by repeat (first | exact Sub.nil _ | refine Sub.cons (by first | rfl | (rw [dgs_zero]; rfl) | (rw [List.drop_length]; rfl) | (simp; done) | (congr 2; omega) | (congr 3; omega)) ?_ | exact Sub.refl _ | refine sub_snap ?_ rfl)) rfl)
  have hd := hd.keep kpWl1
  have hVWl1 := hWWl1.sub (Sub.nil _)
  refine T.loop (ι := World × Nat × List Ch × RowIx) (fun ((W, i, zs, r) : World × Nat × List Ch × RowIx) => i ≤ ds.length ∧ zs.map Ch.v = (ds.take i).map Ch.v ∧ r.Ok 35 zs.length ∧ WS w [] [] W ∧ AllC W n (B ++ [r.id]) ds ∧ AllL W n (B ++ [r.id]) zs) (fun ((W, i, zs, r) : World × Nat × List Ch × RowIx) => [(0, .slice A1 ds.length c1), (2, .slice none 0 0), (4, .int .i64 ((i : Nat) : Int)), (3, r.val zs.length)]) (fun ((W, i, zs, r) : World × Nat × List Ch × RowIx) => ((3, r.ent 53 (rowC zs)) :: snapL W w.heap.size [r.id])) (fun ((W, i, zs, r) : World × Nat × List Ch × RowIx) => ds.length - i) ⟨Wl1, 0, [], RowIx.nil⟩ ⟨Nat.zero_le _, rfl, RowIx.nil_ok 35, hVWl1, hd, AllL.nil⟩ (by repeat (first | exact Sub.nil _ | refine Sub.cons (by first | rfl | (rw [dgs_zero]; rfl) | (rw [List.drop_length]; rfl) | (simp; done) | (congr 2; omega) | (congr 3; omega)) ?_ | exact Sub.refl _ | refine sub_snap ?_ rfl)) (by repeat (first | exact Sub.nil _ | refine Sub.cons (by first | rfl | (rw [dgs_zero]; rfl) | (rw [List.drop_length]; rfl) | (simp; done) | (congr 2; omega) | (congr 3; omega)) ?_ | exact Sub.refl _ | refine sub_snap ?_ rfl)) ?_
  rintro ⟨W, i, zs, r⟩ ⟨hi, hm, hr, hV, hd, hz⟩
  try dsimp only at *
  refine T.seq ?_
  refine T.seq ?_
  refine T.text [.l, .l, .l, .l] rfl ?_
  refine J.move rfl rfl ?_
  refine J.move rfl rfl ?_
  refine J.lenSl Tryz.underlying25 rfl rfl ?_
  refine J.lss rfl rfl rfl rfl ?_
  refine J.end ?_
  refine X.then ?_
  refine T.cond_dec rfl (fun h2 => ?_) (fun h2 => ?_)
  · have hi2 : i < ds.length := by omega
    refine T.skip ?_
    refine X.then ?_
    refine T.seq ?_
    refine T.block ?_
    refine T.seq ?_
    refine T.text [.l, .l, .l, .l, .l, .l] rfl ?_
    refine J.move rfl rfl ?_
    refine J.move rfl rfl ?_
    refine J.indexSlI sl25 rfl (hA.isSome (by rw [rowC_length]; omega)) rfl (by omega) (by omega) (by first | exact Int.toNat_natCast _ | rfl) rfl ?_
    refine J.loadIN (k := .l) trivial hA (off_nil _) rfl agg53 ((ds.getD i default).cells) rfl (rowC_seg ds i (by omega)) rfl ?_
    refine J.alloc 5 rfl zero53 [.int .u8 0, .int .u8 0, .int .u8 0, .int .u8 0, .int .u8 0, .int .u8 0, .int .u8 0, .int .u8 0, .int .u8 0, .int .u8 0, .int .u8 0, .int .u8 0, .int .u8 0, .int .u8 0, .int .u8 0, .int .u8 0, .int .u8 0, .int .u8 0, .int .u8 0, .int .u8 0, .int .i64 0, .int .u64 0, .int .u64 0, .int .u64 0, .int .u64 0, .int .u64 0, .int .u64 0, .int .u64 0, .int .u64 0, .int .u64 0, .int .u64 0, .int .u64 0, .int .u64 0, .slice none 0 0, .slice none 0 0] rfl rfl (fun g5 hg5 => ?_)
    refine J.store 5 rfl rfl rfl rfl ((ds.getD i default).cells) rfl sz53 (Nat.le_of_ble_eq_true rfl) (by first | exact Ch.cells_one _) (Nat.zero_lt_succ _) trivial ((ds.getD i default).cells) rfl ?_
    refine J.end ?_
    refine X.then ?_
    refine T.seq ?_
    refine T.text [.l, .l, .l, .l, .l, .l, .l, .l] rfl ?_
    refine J.move rfl rfl ?_
    refine J.move rfl rfl ?_
    refine J.indexSlI sl25 rfl (hA.isSome (by rw [rowC_length]; omega)) rfl (by omega) (by omega) (by first | exact Int.toNat_natCast _ | rfl) rfl ?_
    refine J.fieldAddrI fld53_5 rfl rfl ?_
    refine J.loadI1 (k := .l) trivial hA (off_nil _) rfl one51 (by rw [rowC_cell ds i 33 (by omega) (by decide)]; rfl) rfl ?_
    refine J.callB fok39 rfl rfl _ _ [(3, r.ent 53 (rowC zs)), (5, ⟨some g5, 53, ((ds.getD i default).cells)⟩)] (by repeat (first | exact Sub.nil _ | refine Sub.cons (by first | rfl | (rw [dgs_zero]; rfl) | (rw [List.drop_length]; rfl) | (simp; done) | (congr 2; omega) | (congr 3; omega)) ?_ | exact Sub.refl _ | refine sub_snap ?_ rfl)) rfl (fun _ _ => Sub.nil _) (fun w hw => Df.roomy w n (B ++ ids [(3, r.ent 53 (rowC zs)), (5, ⟨some g5, 53, ((ds.getD i default).cells)⟩)]) _ _ _ (busy_lt (l1 := [(3, r.ent 53 (rowC zs)), (5, ⟨some g5, 53, ((ds.getD i default).cells)⟩)]) hB hw (by repeat (first | exact Sub.nil _ | refine Sub.cons (by first | rfl | (rw [dgs_zero]; rfl) | (rw [List.drop_length]; rfl) | (simp; done) | (congr 2; omega) | (congr 3; omega)) ?_ | exact Sub.refl _ | refine sub_snap ?_ rfl)) rfl) ((hd.keep (keep_snap (I := [r.id]) (B0 := B) (l1 := [(3, r.ent 53 (rowC zs)), (5, ⟨some g5, 53, ((ds.getD i default).cells)⟩)]) hV hn (fun g hg => by cases hg) hw (by repeat (first | exact Sub.refl _ | refine sub_snap ?_ rfl)) (by repeat (first | exact Sub.nil _ | refine Sub.cons (by first | rfl | (rw [dgs_zero]; rfl) | (rw [List.drop_length]; rfl) | (simp; done) | (congr 2; omega) | (congr 3; omega)) ?_ | exact Sub.refl _ | refine sub_snap ?_ rfl)) rfl)).get (i := i) hi2).fo.cs (hs2 (i := i) hi2).1) (fun i21 W21 hP21 hW21 => ?_)
    obtain ⟨hf21, hp21⟩ := hP21
    have kpW21 := (keep_snap (I := [r.id]) (B0 := B) (l1 := [(3, r.ent 53 (rowC zs)), (5, ⟨some g5, 53, ((ds.getD i default).cells)⟩)]) hV hn (fun g hg => by cases hg) hW21 (by repeat (first | exact Sub.refl _ | refine sub_snap ?_ rfl)) (by repeat (first | exact Sub.nil _ | refine Sub.cons (by first | rfl | (rw [dgs_zero]; rfl) | (rw [List.drop_length]; rfl) | (simp; done) | (congr 2; omega) | (congr 3; omega)) ?_ | exact Sub.refl _ | refine sub_snap ?_ rfl)) rfl)
    have hd := hd.keep kpW21
    have hz := hz.keep kpW21
    have hVW21 := hW21.sub (Sub.nil _)
    refine J.fieldAddr fld53_5 rfl rfl ?_
    refine J.store 5 rfl rfl rfl rfl [_] rfl sz51 (by first | decide | exact Nat.le_refl _ | exact Nat.le_of_ble_eq_true rfl | (simp [rowN]; done) | (simp [rowN]; omega)) (by first | exact rowN_one _ _ | (simp; done) | (intro u hu; simp at hu; subst hu; rfl) | (intro u hu; simp at hu; rcases hu with rfl | rfl <;> rfl)) (by first | decide | exact Nat.zero_lt_succ _ | simp) trivial _ rfl ?_
    refine J.end ?_
    refine X.asE 5 ⟨some g5, 53, ((ds.getD i default).lent1 i21).cells⟩ rfl (by rfl) ?_
    refine X.then ?_
    refine T.seq ?_
    refine T.text [.l, .l, .l, .l, .l, .l, .l, .l] rfl ?_
    refine J.move rfl rfl ?_
    refine J.move rfl rfl ?_
    refine J.indexSlI sl25 rfl (hA.isSome (by rw [rowC_length]; omega)) rfl (by omega) (by omega) (by first | exact Int.toNat_natCast _ | rfl) rfl ?_
    refine J.fieldAddrI fld53_6 rfl rfl ?_
    refine J.loadI1 (k := .l) trivial hA (off_nil _) rfl one51 (by rw [rowC_cell ds i 34 (by omega) (by decide)]; rfl) rfl ?_
    refine J.callB fok39 rfl rfl _ _ [(3, r.ent 53 (rowC zs)), (5, ⟨some g5, 53, ((ds.getD i default).lent1 i21).cells⟩)] (by repeat (first | exact Sub.nil _ | refine Sub.cons (by first | rfl | (rw [dgs_zero]; rfl) | (rw [List.drop_length]; rfl) | (simp; done) | (congr 2; omega) | (congr 3; omega)) ?_ | exact Sub.refl _ | refine sub_snap ?_ rfl)) rfl (fun _ _ => Sub.nil _) (fun w hw => Df.roomy w n (B ++ ids [(3, r.ent 53 (rowC zs)), (5, ⟨some g5, 53, ((ds.getD i default).lent1 i21).cells⟩)]) _ _ _ (busy_lt (l1 := [(3, r.ent 53 (rowC zs)), (5, ⟨some g5, 53, ((ds.getD i default).lent1 i21).cells⟩)]) hB hw (by repeat (first | exact Sub.nil _ | refine Sub.cons (by first | rfl | (rw [dgs_zero]; rfl) | (rw [List.drop_length]; rfl) | (simp; done) | (congr 2; omega) | (congr 3; omega)) ?_ | exact Sub.refl _ | refine sub_snap ?_ rfl)) rfl) ((hd.keep (keep_snap (I := [r.id, some g5]) (B0 := B) (l1 := [(3, r.ent 53 (rowC zs)), (5, ⟨some g5, 53, ((ds.getD i default).lent1 i21).cells⟩)]) hVW21 hn (fun g hg => by cases hg) hw (by repeat (first | exact Sub.refl _ | refine sub_snap ?_ rfl)) (by repeat (first | exact Sub.nil _ | refine Sub.cons (by first | rfl | (rw [dgs_zero]; rfl) | (rw [List.drop_length]; rfl) | (simp; done) | (congr 2; omega) | (congr 3; omega)) ?_ | exact Sub.refl _ | refine sub_snap ?_ rfl)) rfl)).get (i := i) hi2).fn.cs (hs2 (i := i) hi2).2) (fun i28 W28 hP28 hW28 => ?_)
    obtain ⟨hf28, hp28⟩ := hP28
    have kpW28 := (keep_snap (I := [r.id, some g5]) (B0 := B) (l1 := [(3, r.ent 53 (rowC zs)), (5, ⟨some g5, 53, ((ds.getD i default).lent1 i21).cells⟩)]) hVW21 hn (fun g hg => by cases hg) hW28 (by repeat (first | exact Sub.refl _ | refine sub_snap ?_ rfl)) (by repeat (first | exact Sub.nil _ | refine Sub.cons (by first | rfl | (rw [dgs_zero]; rfl) | (rw [List.drop_length]; rfl) | (simp; done) | (congr 2; omega) | (congr 3; omega)) ?_ | exact Sub.refl _ | refine sub_snap ?_ rfl)) rfl)
    have hd := hd.keep kpW28
    have hz := hz.keep kpW28
    have hf21 := hf21.keep kpW28
    have hVW28 := hW28.sub (Sub.nil _)
    refine J.fieldAddr fld53_6 rfl rfl ?_
    refine J.store 5 rfl rfl rfl rfl [_] rfl sz51 (by first | decide | exact Nat.le_refl _ | exact Nat.le_of_ble_eq_true rfl | (simp [rowN]; done) | (simp [rowN]; omega)) (by first | exact rowN_one _ _ | (simp; done) | (intro u hu; simp at hu; subst hu; rfl) | (intro u hu; simp at hu; rcases hu with rfl | rfl <;> rfl)) (by first | decide | exact Nat.zero_lt_succ _ | simp) trivial _ rfl ?_
    refine J.end ?_
    refine X.asE 5 ⟨some g5, 53, ((ds.getD i default).lent i21 i28).cells⟩ rfl (by rfl) ?_
    refine X.then ?_
    refine T.text [.l, .l, .l, .l, .l] rfl ?_
    refine J.move rfl rfl ?_
    refine J.loadN (k := .l) trivial 5 rfl rfl agg53 ((ds.getD i default).lent i21 i28).cells rfl rfl rfl ?_
    refine J.lit1 32 rfl Tryz.underlying25 el53 (by decide) rfl ((ds.getD i default).lent i21 i28).cells rfl rfl rfl (fun g32 hg32 => ?_)
    refine J.append 3 rfl Tryz.underlying25 el53 rfl hr (rowC_length zs) rfl rfl rfl (fun w hw => (hw.blkCs (k := 32) rfl)) (Ch.cells_one _) (by have := congrArg List.length hm; simp at this; omega) (by have := congrArg List.length hm; simp at this; unfold maxLen; omega) rfl (zs ++ [((ds.getD i default).lent i21 i28)]).length (by rw [List.length_append]; rfl) (rowC (zs ++ [((ds.getD i default).lent i21 i28)])) (rowC_snoc _ _).symm (fun r33 hr33 => ?_)
    refine J.assign rfl rfl ?_
    refine J.end ?_
    refine X.inBlock (X.then ?_)
    refine T.text [.l, .l, .l] rfl ?_
    refine J.move rfl rfl ?_
    refine J.add rfl rfl rfl (by first | exact add_nat _ 1 (by omega) | exact i64_ok _ (by omega) | exact rfl) ?_
    refine J.assign rfl rfl ?_
    refine J.end ?_
    refine X.snap [(3, r33.ent 53 (rowC (zs ++ [((ds.getD i default).lent i21 i28)])))] (by repeat (first | exact Sub.nil _ | refine Sub.cons (by first | rfl | (rw [dgs_zero]; rfl) | (rw [List.drop_length]; rfl) | (simp; done) | (congr 2; omega) | (congr 3; omega)) ?_ | exact Sub.refl _ | refine sub_snap ?_ rfl)) rfl (fun Wx3 hWWx3 => ?_)
    have kpWx3 := (keep_snap (I := [r.id, some g5]) (B0 := B) (l1 := [(3, r33.ent 53 (rowC (zs ++ [((ds.getD i default).lent i21 i28)])))]) hVW28 hn (fun g hg => by cases hg) hWWx3 (by repeat (first | exact Sub.refl _ | refine sub_snap ?_ rfl)) (by repeat (first | exact Sub.nil _ | refine Sub.cons (by first | rfl | (rw [dgs_zero]; rfl) | (rw [List.drop_length]; rfl) | (simp; done) | (congr 2; omega) | (congr 3; omega)) ?_ | exact Sub.refl _ | refine sub_snap ?_ rfl)) rfl)
    have hd := hd.keep kpWx3
    have hz := hz.keep kpWx3
    have hf21 := hf21.keep kpWx3
    have hf28 := hf28.keep kpWx3
    have hVWx3 := hWWx3.sub (Sub.nil _)
    exact X.round ⟨Wx3, (i + 1), (zs ++ [((ds.getD i default).lent i21 i28)]), r33⟩ ⟨by show i + 1 ≤ _; omega, map_snoc_v (f := id) hm hi2 rfl, hr33, hVWx3, hd, hz.snoc (Ch.lent_ok (hd.get hi2) (hs2 hi2) hf21 hp21 hf28 hp28)⟩ (by first | omega | (dsimp only; omega)) (by repeat (first | exact Sub.nil _ | refine Sub.cons (by first | rfl | (rw [dgs_zero]; rfl) | (rw [List.drop_length]; rfl) | (simp; done) | (congr 2; omega) | (congr 3; omega)) ?_ | exact Sub.refl _ | refine sub_snap ?_ rfl)) (by repeat (first | exact Sub.nil _ | refine Sub.cons (by first | rfl | (rw [dgs_zero]; rfl) | (rw [List.drop_length]; rfl) | (simp; done) | (congr 2; omega) | (congr 3; omega)) ?_ | exact Sub.refl _ | refine sub_snap ?_ rfl))
  · obtain rfl : i = ds.length := by omega
    rw [List.take_length] at hm
    have hzl : zs.length = ds.length := by simpa using congrArg List.length hm
    refine T.exit ?_
    refine X.then_exit (X.then_exit (X.inBlock_eq (X.then ?_)))
    refine T.seq ?_
    refine T.text [.l, .l, .l, .l, .l] rfl ?_
    refine J.move rfl rfl ?_
    refine J.build rfl rfl (.agg markC.cells.toArray) (fun w => by kernel_rfl) ?_
    refine J.lit1 36 rfl Tryz.underlying25 el53 (by decide) rfl (markC.cells) rfl rfl rfl (fun g36 hg36 => ?_)
    refine J.append 3 rfl Tryz.underlying25 el53 rfl hr (rowC_length zs) rfl rfl rfl (fun w hw => (hw.blkCs (k := 36) rfl)) (Ch.cells_one _) (by have := congrArg List.length hm; simp at this; omega) (by have := congrArg List.length hm; simp at this; unfold maxLen; omega) rfl (zs ++ [markC]).length (by rw [List.length_append]; rfl) (rowC (zs ++ [markC])) (rowC_snoc _ _).symm (fun r37 hr37 => ?_)
    have hcp37 := hr37.cap_ge
    rw [List.length_append, List.length_singleton] at hcp37
    refine J.assign rfl rfl ?_
    refine J.end ?_
    refine X.then ?_
    refine T.seq ?_
    refine T.text [.l, .l, .l, .l, .l] rfl ?_
    refine J.move rfl rfl ?_
    refine J.move rfl rfl ?_
    refine J.lenSl Tryz.underlying25 rfl rfl ?_
    refine J.sliceSl sl25 rfl optInt.none (optInt.some rfl (by omega) (by first | exact Int.toNat_natCast _ | rfl)) optInt.none (by simp) (Nat.zero_le _) (by have := congrArg List.length hm; simp at this; omega) (Nat.le_refl _) rfl (by rw [slice0]) ?_
    refine J.assign rfl rfl ?_
    refine J.end ?_
    refine X.then ?_
    refine T.ret ?_
    exact X.ret1 rfl (RV.tmp rfl) (fun w' hw' => ⟨(zs, r37), ⟨hm, hz.keep (((keep_snap (I := [r.id]) (B0 := B) (l1 := []) hV hn (fun g hg => by cases hg) hw' (by repeat (first | exact Sub.refl _ | refine sub_snap ?_ rfl)) (Sub.nil _) rfl)).le (fun o h => List.mem_append_left _ h)), fit_row hw' (j := 3) rfl (fun g h => ⟨hB g h, fun q => by cases q⟩), by show zs.length + 1 ≤ _; omega⟩, by rw [hzl]; rfl, hw'.sub (Sub.nil _)⟩)

theorem stillTurns (w : World) (n : Nat) (B : List (Option Nat)) (A1 A2 : Option Addr) (c1 c2 : Nat) (ps ds : List Ch) (hn : n ≤ w.heap.size) (hA : Cs w A1 (rowC (ps ++ [markC]))) (hA1 : Cs w A1 (rowC ps)) (hd1 : AllL w n B ps) (hc1 : ps.length + 1 ≤ c1) (hA2 : Cs w A2 (rowC ds)) (hd2 : AllC w n B ds) (hv : ps.map Ch.v = ds.map Ch.v) (hl : ps.length ≤ 1000000000) :
    Calls Tryz.prog 27 [.slice A1 ps.length c1, .slice A2 ds.length c2].toArray w fun e w' => e = .returned (.bool true) ∧ WS w [] [] w' := by
  have hll : ps.length = ds.length := by simpa using congrArg List.length hv
  have hpl : (ps ++ [markC]).length = ps.length + 1 := by simp
  refine calls_of_T [] 51 [] Tryz.func27 rfl Tryz.ntmps27 (by simp) (WS.refl _ _) ?_
  refine T.seq ?_
  refine T.text [.l] rfl ?_
  refine J.assign rfl rfl ?_
  refine J.end ?_
  refine X.then ?_
  refine T.seq ?_
  refine T.text [.l, .l, .l] rfl ?_
  refine J.move rfl rfl ?_
  refine J.lenSl Tryz.underlying25 rfl rfl ?_
  refine J.assign rfl rfl ?_
  refine J.end ?_
  refine X.then ?_
  refine T.seq ?_
  refine T.seq ?_
  refine T.text [.l, .l, .l, .l] rfl ?_
  refine J.move rfl rfl ?_
  refine J.lenSl Tryz.underlying25 rfl rfl ?_
  refine J.move rfl rfl ?_
  refine J.neq rfl rfl rfl (decide_eq_false (by rw [hll]; exact fun q => q rfl)) ?_
  refine J.end ?_
  refine X.then ?_
  refine T.cond_false rfl ?_
  refine T.skip ?_
  refine X.then ?_
  refine T.seq ?_
  refine T.text [.l, .l, .l, .l, .l] rfl ?_
  refine J.move rfl rfl ?_
  refine J.move rfl rfl ?_
  refine J.add rfl rfl rfl (by exact i64_ok _ (by omega)) ?_
  refine J.as 16 (.int .i64 ((ps.length + 1 : Nat) : Int)) rfl (by rw [hll]; congr 1) ?_
  refine J.sliceSl sl25 rfl optInt.none (optInt.some rfl (by omega) (by first | exact Int.toNat_natCast _ | rfl)) optInt.none (by simp) (Nat.zero_le _) (by omega) (Nat.le_refl _) rfl (by rw [slice0]) ?_
  refine J.assign rfl rfl ?_
  refine J.end ?_
  refine X.then ?_
  refine T.seq ?_
  refine T.seq ?_
  refine T.text [.l, .l, .l, .l, .l, .l, .l, .l, .l, .l, .l, .l] rfl ?_
  refine J.move rfl rfl ?_
  refine J.move rfl rfl ?_
  refine J.indexSlI sl25 rfl (hA.isSome (by rw [rowC_length]; omega)) rfl (by omega) (by omega) (by first | exact Int.toNat_natCast _ | rfl) rfl ?_
  refine J.fieldAddrI fld53_1 rfl rfl ?_
  refine J.loadI1 (k := .l) trivial hA (off_nil _) rfl one3 (by rw [rowC_cell (ps ++ [markC]) ds.length 20 (by omega) (by decide)]; rfl) rfl ?_
  refine J.as 22 (.int .i64 771) rfl (by rw [← hll]; simp [markC, List.getD_eq_getElem?_getD]) ?_
  refine J.neq rfl rfl rfl (show decide ((771:Int) ≠ 771) = false by decide) ?_
  refine J.move rfl rfl ?_
  refine J.yes rfl rfl ?_
  refine J.move rfl rfl ?_
  refine J.yes rfl rfl ?_
  refine J.move rfl rfl ?_
  refine J.yes rfl rfl ?_
  refine J.call0 (k := .l) trivial fok20 rfl rfl (fun w hw => Df.same w n B A1 A2 c1 c2 ps ds (hA1.ws hw (off_nil _)) (hd1.ok.keep ((keep_base hn (fun g h => by cases h) hw (Sub.nil _) rfl).le (fun o h => List.mem_append_left _ h))) (hA2.ws hw (off_nil _)) (hd2.keep ((keep_base hn (fun g h => by cases h) hw (Sub.nil _) rfl).le (fun o h => List.mem_append_left _ h))) (by omega) (by omega)) ?_
  refine J.as 27 (.bool true) rfl (by rw [decide_eq_true hv]) ?_
  refine J.yes rfl rfl ?_
  refine J.not rfl rfl rfl ?_
  refine J.pick_f rfl rfl rfl ?_
  refine J.end ?_
  refine X.then ?_
  refine T.cond_false rfl ?_
  refine T.skip ?_
  refine X.then ?_
  refine T.seq ?_
  refine T.seq ?_
  refine T.text [.l] rfl ?_
  refine J.assign rfl rfl ?_
  refine J.end ?_
  refine X.then ?_
  refine T.block ?_
  refine T.loop (ι := Nat) (fun (i : Nat) => i ≤ ps.length) (fun (i : Nat) => [(0, .slice A1 ps.length c1), (1, .slice A2 ds.length c2), (8, .slice A2 ds.length c2), (9, .int .i64 ((ds.length : Nat) : Int)), (5, .int .i64 ((ds.length : Nat) : Int)), (10, .slice A1 ps.length c1), (11, .int .i64 ((ps.length : Nat) : Int)), (12, .int .i64 ((ds.length : Nat) : Int)), (13, .bool false), (14, .slice A1 ps.length c1), (15, .int .i64 ((ds.length : Nat) : Int)), (16, .int .i64 ((ps.length + 1 : Nat) : Int)), (17, .slice A1 (ps.length + 1) c1), (6, .slice A1 (ps.length + 1) c1), (18, .slice A1 (ps.length + 1) c1), (19, .int .i64 ((ds.length : Nat) : Int)), (22, .int .i64 771), (23, .bool false), (24, .bool false), (25, .slice A1 ps.length c1), (26, .slice A2 ds.length c2), (27, .bool true), (28, .bool false), (29, .bool false), (7, .int .i64 ((i : Nat) : Int))]) (fun (i : Nat) => []) (fun (i : Nat) => ps.length - i) 0 (Nat.zero_le _) (by repeat (first | exact Sub.nil _ | refine Sub.cons (by first | rfl | (rw [dgs_zero]; rfl) | (rw [List.drop_length]; rfl) | (simp; done) | (congr 2; omega) | (congr 3; omega)) ?_)) (by repeat (first | exact Sub.nil _ | refine Sub.cons (by first | rfl | (rw [dgs_zero]; rfl) | (rw [List.drop_length]; rfl) | (simp; done) | (congr 2; omega) | (congr 3; omega)) ?_)) ?_
  rintro i hi
  refine T.seq ?_
  refine T.seq ?_
  refine T.text [.l, .l, .l] rfl ?_
  refine J.move rfl rfl ?_
  refine J.move rfl rfl ?_
  refine J.lss rfl rfl rfl rfl ?_
  refine J.end ?_
  refine X.then ?_
  refine T.cond_dec rfl (fun h1 => ?_) (fun h1 => ?_)
  · have hi2 : i < ps.length := by omega
    refine T.skip ?_
    refine X.then ?_
    refine T.seq ?_
    refine T.block ?_
    refine T.seq ?_
    refine T.text [.l, .l, .l, .l, .l, .l, .l, .l, .l, .l, .l, .l, .l, .l, .l, .l] rfl ?_
    refine J.move rfl rfl ?_
    refine J.move rfl rfl ?_
    refine J.indexSlI sl25 rfl (hA1.isSome (by rw [rowC_length]; omega)) rfl (by omega) (by omega) (by first | exact Int.toNat_natCast _ | rfl) rfl ?_
    refine J.fieldAddrI fld53_5 rfl rfl ?_
    refine J.loadI1 (k := .l) trivial hA1 (off_nil _) rfl one51 (by rw [rowC_cell ps i 33 (by omega) (by decide)]; rfl) rfl ?_
    refine J.call0 (k := .l) trivial fok48 rfl rfl (fun w hw => Df.kept w _ _ (ps.getD i default).oc ((hd1.get hi2).fo.cs.ws hw (off_nil _)) (hd1.get hi2).co (hd1.get hi2).lo) ?_
    refine J.not rfl rfl rfl ?_
    refine J.move rfl rfl ?_
    refine J.yes rfl rfl ?_
    refine J.move rfl rfl ?_
    refine J.yes rfl rfl ?_
    refine J.move rfl rfl ?_
    refine J.yes rfl rfl ?_
    refine J.indexSlI sl25 rfl (hA1.isSome (by rw [rowC_length]; omega)) rfl (by omega) (by omega) (by first | exact Int.toNat_natCast _ | rfl) rfl ?_
    refine J.yes rfl rfl ?_
    refine J.fieldAddrI fld53_6 rfl rfl ?_
    refine J.yes rfl rfl ?_
    refine J.loadI1 (k := .l) trivial hA1 (off_nil _) rfl one51 (by rw [rowC_cell ps i 34 (by omega) (by decide)]; rfl) rfl ?_
    refine J.yes rfl rfl ?_
    refine J.call0 (k := .l) trivial fok48 rfl rfl (fun w hw => Df.kept w _ _ (ps.getD i default).nc ((hd1.get hi2).fn.cs.ws hw (off_nil _)) (hd1.get hi2).cn (hd1.get hi2).ln) ?_
    refine J.yes rfl rfl ?_
    refine J.not rfl rfl rfl ?_
    refine J.pick_f rfl rfl rfl ?_
    refine J.end ?_
    refine X.then ?_
    refine T.cond_false rfl ?_
    refine T.skip ?_
    refine X.inBlock (X.then ?_)
    refine T.text [.l, .l, .l] rfl ?_
    refine J.move rfl rfl ?_
    refine J.add rfl rfl rfl (by first | exact add_nat _ 1 (by omega) | exact i64_ok _ (by omega) | exact rfl) ?_
    refine J.assign rfl rfl ?_
    refine J.end ?_
    exact X.round (i + 1) (by omega) (by first | omega | (dsimp only; omega)) (by repeat (first | exact Sub.nil _ | refine Sub.cons (by first | rfl | (rw [dgs_zero]; rfl) | (rw [List.drop_length]; rfl) | (simp; done) | (congr 2; omega) | (congr 3; omega)) ?_)) (by repeat (first | exact Sub.nil _ | refine Sub.cons (by first | rfl | (rw [dgs_zero]; rfl) | (rw [List.drop_length]; rfl) | (simp; done) | (congr 2; omega) | (congr 3; omega)) ?_))
  · skip
    refine T.exit ?_
    refine X.then_exit (X.then_exit (X.inBlock_eq (X.then ?_)))
    refine T.seq ?_
    refine T.text [.l] rfl ?_
    refine J.assign rfl rfl ?_
    refine J.end ?_
    refine X.then ?_
    refine T.ret ?_
    exact X.ret1 rfl (RV.tmp rfl) (fun w' hw' => ⟨rfl, hw'.sub (Sub.nil _)⟩)
end Go.Proofs.YtlllcafedekojaaGreatDoor.Df
set_option linter.unusedVariables false
set_option maxRecDepth 20000
namespace Go.Proofs.YtlllcafedekojaaGreatDoor.De
open Go Go.Fw

theorem sz287 : SizeT Tryz.prog 287 32 := (by unfold SizeT; kernel_rfl)
theorem sz48 : SizeT Tryz.prog 48 1 := (by unfold SizeT; kernel_rfl)
theorem arr50 : ArrT Tryz.prog 50 4 48 1 := ⟨Tryz.underlying50, sz48⟩
theorem one48 : OneT Tryz.prog 48 := ⟨⟨_, Tryz.underlying48, rfl⟩, by kernel_rfl⟩
theorem sz47 : SizeT Tryz.prog 47 20 := (by unfold SizeT; kernel_rfl)
theorem fld70_0 : FldT Tryz.prog 70 0 47 0 19 := ⟨by kernel_rfl, sz47⟩
theorem sz5 : SizeT Tryz.prog 5 1 := (by unfold SizeT; kernel_rfl)
theorem arr47 : ArrT Tryz.prog 47 20 5 1 := ⟨Tryz.underlying47, sz5⟩
theorem one5 : OneT Tryz.prog 5 := ⟨⟨_, Tryz.underlying5, rfl⟩, by kernel_rfl⟩
theorem sz3 : SizeT Tryz.prog 3 1 := (by unfold SizeT; kernel_rfl)
theorem fld70_1 : FldT Tryz.prog 70 1 3 20 0 := ⟨by kernel_rfl, sz3⟩
theorem one3 : OneT Tryz.prog 3 := ⟨⟨_, Tryz.underlying3, rfl⟩, by kernel_rfl⟩
theorem sz50 : SizeT Tryz.prog 50 4 := (by unfold SizeT; kernel_rfl)
theorem fld70_2 : FldT Tryz.prog 70 2 50 21 3 := ⟨by kernel_rfl, sz50⟩
theorem agg50 : AggT Tryz.prog 50 4 := ⟨⟨_, Tryz.underlying50, rfl⟩, by kernel_rfl⟩
theorem fok69 : FnOk Tryz.prog 69 := FnOk.mk' Tryz.func69 (by kernel_rfl) rfl
theorem fld70_3 : FldT Tryz.prog 70 3 50 25 3 := ⟨by kernel_rfl, sz50⟩
theorem sz51 : SizeT Tryz.prog 51 1 := (by unfold SizeT; kernel_rfl)
theorem fld70_4 : FldT Tryz.prog 70 4 51 29 0 := ⟨by kernel_rfl, sz51⟩
theorem one51 : OneT Tryz.prog 51 := ⟨⟨_, Tryz.underlying51, rfl⟩, by kernel_rfl⟩
theorem zero70 : ZeroT Tryz.prog 70 (.agg ([.int .u8 0, .int .u8 0, .int .u8 0, .int .u8 0, .int .u8 0, .int .u8 0, .int .u8 0, .int .u8 0, .int .u8 0, .int .u8 0, .int .u8 0, .int .u8 0, .int .u8 0, .int .u8 0, .int .u8 0, .int .u8 0, .int .u8 0, .int .u8 0, .int .u8 0, .int .u8 0, .int .i64 0, .int .u64 0, .int .u64 0, .int .u64 0, .int .u64 0, .int .u64 0, .int .u64 0, .int .u64 0, .int .u64 0, .slice none 0 0]).toArray) := (by unfold ZeroT; kernel_rfl)
theorem fld53_0 : FldT Tryz.prog 53 0 47 0 19 := ⟨by kernel_rfl, sz47⟩
theorem agg47 : AggT Tryz.prog 47 20 := ⟨⟨_, Tryz.underlying47, rfl⟩, by kernel_rfl⟩
theorem fld53_1 : FldT Tryz.prog 53 1 3 20 0 := ⟨by kernel_rfl, sz3⟩
theorem fld53_2 : FldT Tryz.prog 53 2 50 21 3 := ⟨by kernel_rfl, sz50⟩
theorem fld53_3 : FldT Tryz.prog 53 3 50 25 3 := ⟨by kernel_rfl, sz50⟩
theorem fld53_5 : FldT Tryz.prog 53 5 51 33 0 := ⟨by kernel_rfl, sz51⟩
theorem sz70 : SizeT Tryz.prog 70 30 := (by unfold SizeT; kernel_rfl)
theorem agg70 : AggT Tryz.prog 70 30 := ⟨⟨_, Tryz.underlying70, rfl⟩, by kernel_rfl⟩
theorem fld53_4 : FldT Tryz.prog 53 4 50 29 3 := ⟨by kernel_rfl, sz50⟩
theorem fld53_6 : FldT Tryz.prog 53 6 51 34 0 := ⟨by kernel_rfl, sz51⟩
theorem el5 : ElT Tryz.prog 5 1 1 (.int .u8 0) := ⟨by kernel_rfl, rfl, by decide, by decide⟩
theorem zero53 : ZeroT Tryz.prog 53 (.agg ([.int .u8 0, .int .u8 0, .int .u8 0, .int .u8 0, .int .u8 0, .int .u8 0, .int .u8 0, .int .u8 0, .int .u8 0, .int .u8 0, .int .u8 0, .int .u8 0, .int .u8 0, .int .u8 0, .int .u8 0, .int .u8 0, .int .u8 0, .int .u8 0, .int .u8 0, .int .u8 0, .int .i64 0, .int .u64 0, .int .u64 0, .int .u64 0, .int .u64 0, .int .u64 0, .int .u64 0, .int .u64 0, .int .u64 0, .int .u64 0, .int .u64 0, .int .u64 0, .int .u64 0, .slice none 0 0, .slice none 0 0]).toArray) := (by unfold ZeroT; kernel_rfl)
theorem fok70 : FnOk Tryz.prog 70 := FnOk.mk' Tryz.func70 (by kernel_rfl) rfl
theorem sz53 : SizeT Tryz.prog 53 35 := (by unfold SizeT; kernel_rfl)
theorem agg53 : AggT Tryz.prog 53 35 := ⟨⟨_, Tryz.underlying53, rfl⟩, by kernel_rfl⟩
theorem sl25 : SlT Tryz.prog 25 53 35 := ⟨Tryz.underlying25, sz53⟩
theorem fok56 : FnOk Tryz.prog 56 := FnOk.mk' Tryz.func56 (by kernel_rfl) rfl
theorem fok54 : FnOk Tryz.prog 54 := FnOk.mk' Tryz.func54 (by kernel_rfl) rfl
theorem fok45 : FnOk Tryz.prog 45 := FnOk.mk' Tryz.func45 (by kernel_rfl) rfl
theorem el53 : ElT Tryz.prog 53 35 176 (.agg ([.int .u8 0, .int .u8 0, .int .u8 0, .int .u8 0, .int .u8 0, .int .u8 0, .int .u8 0, .int .u8 0, .int .u8 0, .int .u8 0, .int .u8 0, .int .u8 0, .int .u8 0, .int .u8 0, .int .u8 0, .int .u8 0, .int .u8 0, .int .u8 0, .int .u8 0, .int .u8 0, .int .i64 0, .int .u64 0, .int .u64 0, .int .u64 0, .int .u64 0, .int .u64 0, .int .u64 0, .int .u64 0, .int .u64 0, .int .u64 0, .int .u64 0, .int .u64 0, .int .u64 0, .slice none 0 0, .slice none 0 0]).toArray) := ⟨by kernel_rfl, rfl, by decide, by decide⟩
theorem fok44 : FnOk Tryz.prog 44 := FnOk.mk' Tryz.func44 (by kernel_rfl) rfl

theorem words (w : World) (x0 x1 : Nat) :
    Calls Tryz.prog 69 [W x0, W x1].toArray w fun e w' => e = .returned (.int .i64 (cmpZ (x0 % 2 ^ 256) (x1 % 2 ^ 256))) ∧ WS w [] [] w' := by
  refine calls_of_T [] 24 [] Tryz.func69 rfl Tryz.ntmps69 (by simp) (WS.refl _ _) ?_
  refine T.seq ?_
  refine T.text [.l, .l, .l] rfl ?_
  refine J.box 2 rfl rfl (wc x0) rfl rfl (fun g2 hg2 => ?_)
  refine J.box 3 rfl rfl (wc x1) rfl rfl (fun g3 hg3 => ?_)
  refine J.assign rfl rfl ?_
  refine J.end ?_
  refine X.then ?_
  refine T.seq ?_
  refine T.seq ?_
  refine T.text [.l] rfl ?_
  refine J.assign rfl rfl ?_
  refine J.end ?_
  refine X.then ?_
  refine T.block ?_
  refine T.loop (ι := Nat) (fun (u : Nat) => u ≤ 4 ∧ (∀ q, u ≤ q → q < 4 → lim x0 q = lim x1 q)) (fun (u : Nat) => [(0, W x0), (1, W x1), (2, .pointer (some ⟨g2, 0, none⟩)), (3, .pointer (some ⟨g3, 0, none⟩)), (5, .int .i64 ((u : Int) - 1))]) (fun (u : Nat) => [(2, ⟨some g2, 50, (wc x0)⟩), (3, ⟨some g3, 50, (wc x1)⟩)]) (fun (u : Nat) => u) 4 ⟨Nat.le_refl _, fun q h1 h2 => by omega⟩ (by repeat (first | exact Sub.nil _ | refine Sub.cons (by first | rfl | (rw [dgs_zero]; rfl) | (rw [List.drop_length]; rfl) | (simp; done) | (congr 2; omega) | (congr 3; omega)) ?_)) (by repeat (first | exact Sub.nil _ | refine Sub.cons (by first | rfl | (rw [dgs_zero]; rfl) | (rw [List.drop_length]; rfl) | (simp; done) | (congr 2; omega) | (congr 3; omega)) ?_)) ?_
  rintro u ⟨hu, he⟩
  refine T.seq ?_
  refine T.seq ?_
  refine T.text [.l, .l] rfl ?_
  refine J.move rfl rfl ?_
  refine J.geq rfl rfl rfl rfl ?_
  refine J.end ?_
  refine X.then ?_
  refine T.cond_dec rfl (fun h1 => ?_) (fun h1 => ?_)
  · obtain ⟨k, rfl⟩ : ∃ k, u = k + 1 := ⟨u - 1, by omega⟩
    refine T.as 5 (.int .i64 (k : Int)) rfl (by first | rfl | (congr 1; omega)) ?_
    refine T.skip ?_
    refine X.then ?_
    refine T.seq ?_
    refine T.block ?_
    refine T.seq ?_
    refine T.seq ?_
    refine T.draw [] [(0, .g), (1, .g), (2, .q), (3, .g), (4, .g), (5, .q), (6, .g)] (by kernel_rfl) (by kernel_rfl) ?_ (by repeat (first | exact Sub.nil _ | refine Sub.cons (by first | rfl | (rw [dgs_zero]; rfl) | (rw [List.drop_length]; rfl) | (simp; done) | (congr 2; omega) | (congr 3; omega)) ?_))
    refine J.move rfl rfl ?_
    refine J.indexArr arr50 rfl rfl (by omega) (by omega) (by first | exact Int.toNat_natCast _ | rfl) rfl ?_
    refine J.load1 (k := .q) trivial 2 rfl rfl one48 (wc_at x0 k (by omega)) rfl ?_
    refine J.move rfl rfl ?_
    refine J.indexArr arr50 rfl rfl (by omega) (by omega) (by first | exact Int.toNat_natCast _ | rfl) rfl ?_
    refine J.load1 (k := .q) trivial 3 rfl rfl one48 (wc_at x1 k (by omega)) rfl ?_
    refine J.lss rfl rfl rfl rfl ?_
    refine J.end ?_
    refine X.then ?_
    refine T.cond_dec rfl (fun h2 => ?_) (fun h2 => ?_)
    · have hz := cmpZ_lt (words_lt (k := k) (by omega) (fun q h1 h2 => he q (by omega) h2) (by omega))
      refine T.seq ?_
      refine T.text [.l] rfl ?_
      refine J.assign rfl rfl ?_
      refine J.end ?_
      refine X.then ?_
      refine T.ret ?_
      refine X.then_ret (X.inBlock_ret (X.then_ret (X.then_ret (X.inBlock_ret (X.then_ret ?_)))))
      exact X.ret1 rfl (RV.tmp rfl) (fun w' hw' => ⟨by rw [hz], hw'.sub (Sub.nil _)⟩)
    · skip
      refine T.skip ?_
      refine X.then ?_
      refine T.seq ?_
      refine T.draw [] [(0, .g), (1, .g), (2, .q), (3, .g), (4, .g), (5, .q), (6, .g)] (by kernel_rfl) (by kernel_rfl) ?_ (by repeat (first | exact Sub.nil _ | refine Sub.cons (by first | rfl | (rw [dgs_zero]; rfl) | (rw [List.drop_length]; rfl) | (simp; done) | (congr 2; omega) | (congr 3; omega)) ?_))
      refine J.move rfl rfl ?_
      refine J.indexArr arr50 rfl rfl (by omega) (by omega) (by first | exact Int.toNat_natCast _ | rfl) rfl ?_
      refine J.load1 (k := .q) trivial 2 rfl rfl one48 (wc_at x0 k (by omega)) rfl ?_
      refine J.move rfl rfl ?_
      refine J.indexArr arr50 rfl rfl (by omega) (by omega) (by first | exact Int.toNat_natCast _ | rfl) rfl ?_
      refine J.load1 (k := .q) trivial 3 rfl rfl one48 (wc_at x1 k (by omega)) rfl ?_
      refine J.gtr rfl rfl rfl rfl ?_
      refine J.end ?_
      refine X.then ?_
      refine T.cond_dec rfl (fun h3 => ?_) (fun h3 => ?_)
      · have hz := cmpZ_gt (words_lt (k := k) (by omega) (fun q h1 h2 => (he q (by omega) h2).symm) (by omega))
        refine T.seq ?_
        refine T.text [.l] rfl ?_
        refine J.assign rfl rfl ?_
        refine J.end ?_
        refine X.then ?_
        refine T.ret ?_
        refine X.inBlock_ret (X.then_ret (X.then_ret (X.inBlock_ret (X.then_ret ?_))))
        exact X.ret1 rfl (RV.tmp rfl) (fun w' hw' => ⟨by rw [hz], hw'.sub (Sub.nil _)⟩)
      · have he2 := words_step he (show lim x0 k = lim x1 k by omega)
        refine T.skip ?_
        refine X.inBlock (X.then ?_)
        refine T.text [.l, .l, .l] rfl ?_
        refine J.move rfl rfl ?_
        refine J.sub' rfl rfl rfl (by exact i64_ok _ (by omega)) ?_
        refine J.assign rfl rfl ?_
        refine J.end ?_
        exact X.round k ⟨by omega, he2⟩ (by first | omega | (dsimp only; omega)) (by repeat (first | exact Sub.nil _ | refine Sub.cons (by first | rfl | (rw [dgs_zero]; rfl) | (rw [List.drop_length]; rfl) | (simp; done) | (congr 2; omega) | (congr 3; omega)) ?_)) (by repeat (first | exact Sub.nil _ | refine Sub.cons (by first | rfl | (rw [dgs_zero]; rfl) | (rw [List.drop_length]; rfl) | (simp; done) | (congr 2; omega) | (congr 3; omega)) ?_))
  · obtain rfl : u = 0 := by omega
    have hz := cmpZ_eq (words_eq (x := x0) (y := x1) fun q hq => he q (by omega) hq)
    refine T.exit ?_
    refine X.then_exit (X.then_exit (X.inBlock_eq (X.then ?_)))
    refine T.seq ?_
    refine T.text [.l] rfl ?_
    refine J.assign rfl rfl ?_
    refine J.end ?_
    refine X.then ?_
    refine T.ret ?_
    exact X.ret1 rfl (RV.tmp rfl) (fun w' hw' => ⟨by rw [hz], hw'.sub (Sub.nil _)⟩)

theorem order (w : World) (a b : Sp) :
    Calls Tryz.prog 44 [.agg a.cells.toArray, .agg b.cells.toArray].toArray w fun e w' => e = .returned (.int .i64 (ordZ a b)) ∧ WS w [] [] w' := by
  refine calls_of_T [] 43 [] Tryz.func44 rfl Tryz.ntmps44 (by simp) (WS.refl _ _) ?_
  refine T.seq ?_
  refine T.text [.l, .l, .l] rfl ?_
  refine J.box 2 rfl rfl (a.cells) rfl rfl (fun g2 hg2 => ?_)
  refine J.box 3 rfl rfl (b.cells) rfl rfl (fun g3 hg3 => ?_)
  refine J.assign rfl rfl ?_
  refine J.end ?_
  refine X.then ?_
  refine T.seq ?_
  refine T.seq ?_
  refine T.text [.l] rfl ?_
  refine J.assign rfl rfl ?_
  refine J.end ?_
  refine X.then ?_
  refine T.block ?_
  refine T.loop (ι := Nat) (fun (i : Nat) => i ≤ 20 ∧ (∀ q, q < i → ab a.who q = ab b.who q)) (fun (i : Nat) => [(0, .agg a.cells.toArray), (1, .agg b.cells.toArray), (2, .pointer (some ⟨g2, 0, none⟩)), (3, .pointer (some ⟨g3, 0, none⟩)), (5, .int .i64 (i : Int))]) (fun (i : Nat) => [(2, ⟨some g2, 70, (a.cells)⟩), (3, ⟨some g3, 70, (b.cells)⟩)]) (fun (i : Nat) => 20 - i) 0 ⟨Nat.zero_le _, fun q hq => by omega⟩ (by repeat (first | exact Sub.nil _ | refine Sub.cons (by first | rfl | (rw [dgs_zero]; rfl) | (rw [List.drop_length]; rfl) | (simp; done) | (congr 2; omega) | (congr 3; omega)) ?_)) (by repeat (first | exact Sub.nil _ | refine Sub.cons (by first | rfl | (rw [dgs_zero]; rfl) | (rw [List.drop_length]; rfl) | (simp; done) | (congr 2; omega) | (congr 3; omega)) ?_)) ?_
  rintro i ⟨hi, he⟩
  refine T.seq ?_
  refine T.seq ?_
  refine T.text [.l, .l] rfl ?_
  refine J.move rfl rfl ?_
  refine J.lss rfl rfl rfl rfl ?_
  refine J.end ?_
  refine X.then ?_
  refine T.cond_dec rfl (fun h1 => ?_) (fun h1 => ?_)
  · have hi2 : i < 20 := by omega
    refine T.skip ?_
    refine X.then ?_
    refine T.seq ?_
    refine T.block ?_
    refine T.seq ?_
    refine T.seq ?_
    refine T.draw [] [(0, .g), (1, .g), (2, .g), (3, .q), (4, .g), (5, .g), (6, .g), (7, .q), (8, .g)] (by kernel_rfl) (by kernel_rfl) ?_ (by repeat (first | exact Sub.nil _ | refine Sub.cons (by first | rfl | (rw [dgs_zero]; rfl) | (rw [List.drop_length]; rfl) | (simp; done) | (congr 2; omega) | (congr 3; omega)) ?_))
    refine J.move rfl rfl ?_
    refine J.fieldAddr fld70_0 rfl rfl ?_
    refine J.indexArr arr47 rfl rfl (by omega) (by omega) (by first | exact Int.toNat_natCast _ | rfl) rfl ?_
    refine J.load1 (k := .q) trivial 2 rfl rfl one5 (ac_at a.who i (by omega) _) rfl ?_
    refine J.move rfl rfl ?_
    refine J.fieldAddr fld70_0 rfl rfl ?_
    refine J.indexArr arr47 rfl rfl (by omega) (by omega) (by first | exact Int.toNat_natCast _ | rfl) rfl ?_
    refine J.load1 (k := .q) trivial 3 rfl rfl one5 (ac_at b.who i (by omega) _) rfl ?_
    refine J.lss rfl rfl rfl rfl ?_
    refine J.end ?_
    refine X.then ?_
    refine T.cond_dec rfl (fun h2 => ?_) (fun h2 => ?_)
    · have hlt := ad_lt hi2 he (by omega)
      have hz := (ordZ_who (a := a) (b := b) (by omega)).trans (cmpZ_lt hlt)
      refine T.seq ?_
      refine T.text [.l] rfl ?_
      refine J.assign rfl rfl ?_
      refine J.end ?_
      refine X.then ?_
      refine T.ret ?_
      refine X.then_ret (X.inBlock_ret (X.then_ret (X.then_ret (X.inBlock_ret (X.then_ret ?_)))))
      exact X.ret1 rfl (RV.tmp rfl) (fun w' hw' => ⟨by rw [hz], hw'.sub (Sub.nil _)⟩)
    · skip
      refine T.skip ?_
      refine X.then ?_
      refine T.seq ?_
      refine T.draw [] [(0, .g), (1, .g), (2, .g), (3, .q), (4, .g), (5, .g), (6, .g), (7, .q), (8, .g)] (by kernel_rfl) (by kernel_rfl) ?_ (by repeat (first | exact Sub.nil _ | refine Sub.cons (by first | rfl | (rw [dgs_zero]; rfl) | (rw [List.drop_length]; rfl) | (simp; done) | (congr 2; omega) | (congr 3; omega)) ?_))
      refine J.move rfl rfl ?_
      refine J.fieldAddr fld70_0 rfl rfl ?_
      refine J.indexArr arr47 rfl rfl (by omega) (by omega) (by first | exact Int.toNat_natCast _ | rfl) rfl ?_
      refine J.load1 (k := .q) trivial 2 rfl rfl one5 (ac_at a.who i (by omega) _) rfl ?_
      refine J.move rfl rfl ?_
      refine J.fieldAddr fld70_0 rfl rfl ?_
      refine J.indexArr arr47 rfl rfl (by omega) (by omega) (by first | exact Int.toNat_natCast _ | rfl) rfl ?_
      refine J.load1 (k := .q) trivial 3 rfl rfl one5 (ac_at b.who i (by omega) _) rfl ?_
      refine J.gtr rfl rfl rfl rfl ?_
      refine J.end ?_
      refine X.then ?_
      refine T.cond_dec rfl (fun h3 => ?_) (fun h3 => ?_)
      · have hlt := ad_lt hi2 (fun q hq => (he q hq).symm) (by omega)
        have hz := (ordZ_who (a := a) (b := b) (by omega)).trans (cmpZ_gt hlt)
        refine T.seq ?_
        refine T.text [.l] rfl ?_
        refine J.assign rfl rfl ?_
        refine J.end ?_
        refine X.then ?_
        refine T.ret ?_
        refine X.inBlock_ret (X.then_ret (X.then_ret (X.inBlock_ret (X.then_ret ?_))))
        exact X.ret1 rfl (RV.tmp rfl) (fun w' hw' => ⟨by rw [hz], hw'.sub (Sub.nil _)⟩)
      · skip
        refine T.skip ?_
        refine X.inBlock (X.then ?_)
        refine T.text [.l, .l, .l] rfl ?_
        refine J.move rfl rfl ?_
        refine J.add rfl rfl rfl (by first | exact add_nat _ 1 (by omega) | exact i64_ok _ (by omega) | exact rfl) ?_
        refine J.assign rfl rfl ?_
        refine J.end ?_
        exact X.round (i + 1) ⟨by omega, lt_snoc he (by omega)⟩ (by first | omega | (dsimp only; omega)) (by repeat (first | exact Sub.nil _ | refine Sub.cons (by first | rfl | (rw [dgs_zero]; rfl) | (rw [List.drop_length]; rfl) | (simp; done) | (congr 2; omega) | (congr 3; omega)) ?_)) (by repeat (first | exact Sub.nil _ | refine Sub.cons (by first | rfl | (rw [dgs_zero]; rfl) | (rw [List.drop_length]; rfl) | (simp; done) | (congr 2; omega) | (congr 3; omega)) ?_))
  · obtain rfl : i = 20 := by omega
    have hwh := ad_eq he
    refine T.exit ?_
    refine X.then_exit (X.then_exit (X.inBlock_eq (X.then ?_)))
    refine T.seq ?_
    refine T.seq ?_
    refine T.text [.l, .l, .l, .l, .l] rfl ?_
    refine J.fieldAddr fld70_1 rfl rfl ?_
    refine J.load1 (k := .l) trivial 2 rfl rfl one3 (by first | rfl | with_reducible exact rowN_get0 _ _ _ (by omega) | with_reducible exact rowN_get1 _ _ _ (by omega) | with_reducible exact rowN_get1s _ _ _ _ (by omega) | exact rowN_get1 _ _ _ (by omega) | exact rowN_get1s _ _ _ _ (by omega) | exact rowN_get0 _ _ _ (by omega)) rfl ?_
    refine J.fieldAddr fld70_1 rfl rfl ?_
    refine J.load1 (k := .l) trivial 3 rfl rfl one3 (by first | rfl | with_reducible exact rowN_get0 _ _ _ (by omega) | with_reducible exact rowN_get1 _ _ _ (by omega) | with_reducible exact rowN_get1s _ _ _ _ (by omega) | exact rowN_get1 _ _ _ (by omega) | exact rowN_get1s _ _ _ _ (by omega) | exact rowN_get0 _ _ _ (by omega)) rfl ?_
    refine J.lss rfl rfl rfl rfl ?_
    refine J.end ?_
    refine X.then ?_
    refine T.cond_dec rfl (fun h4 => ?_) (fun h4 => ?_)
    · have hz : ordZ a b = -1 := (ordZ_kind hwh (by omega)).trans (if_pos (by omega))
      refine T.seq ?_
      refine T.text [.l] rfl ?_
      refine J.assign rfl rfl ?_
      refine J.end ?_
      refine X.then ?_
      refine T.ret ?_
      refine X.then_ret ?_
      exact X.ret1 rfl (RV.tmp rfl) (fun w' hw' => ⟨by rw [hz], hw'.sub (Sub.nil _)⟩)
    · skip
      refine T.skip ?_
      refine X.then ?_
      refine T.seq ?_
      refine T.seq ?_
      refine T.text [.l, .l, .l, .l, .l] rfl ?_
      refine J.fieldAddr fld70_1 rfl rfl ?_
      refine J.load1 (k := .l) trivial 2 rfl rfl one3 (by first | rfl | with_reducible exact rowN_get0 _ _ _ (by omega) | with_reducible exact rowN_get1 _ _ _ (by omega) | with_reducible exact rowN_get1s _ _ _ _ (by omega) | exact rowN_get1 _ _ _ (by omega) | exact rowN_get1s _ _ _ _ (by omega) | exact rowN_get0 _ _ _ (by omega)) rfl ?_
      refine J.fieldAddr fld70_1 rfl rfl ?_
      refine J.load1 (k := .l) trivial 3 rfl rfl one3 (by first | rfl | with_reducible exact rowN_get0 _ _ _ (by omega) | with_reducible exact rowN_get1 _ _ _ (by omega) | with_reducible exact rowN_get1s _ _ _ _ (by omega) | exact rowN_get1 _ _ _ (by omega) | exact rowN_get1s _ _ _ _ (by omega) | exact rowN_get0 _ _ _ (by omega)) rfl ?_
      refine J.gtr rfl rfl rfl rfl ?_
      refine J.end ?_
      refine X.then ?_
      refine T.cond_dec rfl (fun h5 => ?_) (fun h5 => ?_)
      · have hz : ordZ a b = 1 := (ordZ_kind hwh (by omega)).trans (by unfold cmpI; rw [if_neg (by omega), if_pos (by omega)])
        refine T.seq ?_
        refine T.text [.l] rfl ?_
        refine J.assign rfl rfl ?_
        refine J.end ?_
        refine X.then ?_
        refine T.ret ?_
        refine X.then_ret ?_
        exact X.ret1 rfl (RV.tmp rfl) (fun w' hw' => ⟨by rw [hz], hw'.sub (Sub.nil _)⟩)
      · have hz := ordZ_key (a := a) (b := b) hwh (by omega)
        refine T.skip ?_
        refine X.then ?_
        refine T.seq ?_
        refine T.text [.l, .l, .l, .l, .l, .l] rfl ?_
        refine J.fieldAddr fld70_2 rfl rfl ?_
        refine J.loadN (k := .l) trivial 2 rfl rfl agg50 (wc a.key) rfl rfl rfl ?_
        refine J.fieldAddr fld70_2 rfl rfl ?_
        refine J.loadN (k := .l) trivial 3 rfl rfl agg50 (wc b.key) rfl rfl rfl ?_
        refine J.call0 (k := .l) trivial fok69 rfl rfl (fun w hw => De.words w _ _) ?_
        refine J.assign rfl rfl ?_
        refine J.end ?_
        refine X.then ?_
        refine T.ret ?_
        exact X.ret1 rfl (RV.tmp rfl) (fun w' hw' => ⟨by rw [hz], hw'.sub (Sub.nil _)⟩)

theorem same (w : World) (a b : Sp) (e1 : Cs w a.cA (rowN .u8 a.code)) (e2 : Cs w b.cA (rowN .u8 b.code)) (d1 : Dg a.code) (d2 : Dg b.code) :
    Calls Tryz.prog 47 [.agg a.cells.toArray, .agg b.cells.toArray].toArray w fun e w' => e = .returned (.bool (decide (a.sameP b))) ∧ WS w [] [] w' := by
  refine calls_of_T [] 20 [] Tryz.func47 rfl Tryz.ntmps47 (by simp) (WS.refl _ _) ?_
  refine T.seq ?_
  refine T.text [.l, .l, .l] rfl ?_
  refine J.box 2 rfl rfl (a.cells) rfl rfl (fun g2 hg2 => ?_)
  refine J.box 3 rfl rfl (b.cells) rfl rfl (fun g3 hg3 => ?_)
  refine J.assign rfl rfl ?_
  refine J.end ?_
  refine X.then ?_
  refine T.seq ?_
  refine T.text [.l, .l, .l, .l, .l, .l, .l, .l, .l, .l, .l, .l, .l, .l, .l, .l] rfl ?_
  refine J.fieldAddr fld70_3 rfl rfl ?_
  refine J.loadN (k := .l) trivial 2 rfl rfl agg50 (wc a.w) rfl rfl rfl ?_
  refine J.fieldAddr fld70_3 rfl rfl ?_
  refine J.loadN (k := .l) trivial 3 rfl rfl agg50 (wc b.w) rfl rfl rfl ?_
  refine J.call0 (k := .l) trivial fok69 rfl rfl (fun w hw => De.words w _ _) ?_
  refine J.eql rfl rfl rfl rfl ?_
  refine J.move rfl rfl ?_
  refine J.split 11 rfl (fun h1 => ?_) (fun h1 => ?_)
  · have hww := cmpZ_zero.1 h1
    refine J.yes rfl rfl ?_
    refine J.fieldAddr fld70_4 rfl rfl ?_
    refine J.yes rfl rfl ?_
    refine J.load1 (k := .l) trivial 2 rfl rfl one51 (by first | rfl | with_reducible exact rowN_get0 _ _ _ (by omega) | with_reducible exact rowN_get1 _ _ _ (by omega) | with_reducible exact rowN_get1s _ _ _ _ (by omega) | exact rowN_get1 _ _ _ (by omega) | exact rowN_get1s _ _ _ _ (by omega) | exact rowN_get0 _ _ _ (by omega)) rfl ?_
    refine J.yes rfl rfl ?_
    refine J.convBS (k := .l) trivial Tryz.underlying51 Tryz.underlying5 Tryz.underlying9 rfl (a.code) rfl (fun w hw => (e1.ws hw (off_nil _))) rfl ?_
    refine J.yes rfl rfl ?_
    refine J.fieldAddr fld70_4 rfl rfl ?_
    refine J.yes rfl rfl ?_
    refine J.load1 (k := .l) trivial 3 rfl rfl one51 (by first | rfl | with_reducible exact rowN_get0 _ _ _ (by omega) | with_reducible exact rowN_get1 _ _ _ (by omega) | with_reducible exact rowN_get1s _ _ _ _ (by omega) | exact rowN_get1 _ _ _ (by omega) | exact rowN_get1s _ _ _ _ (by omega) | exact rowN_get0 _ _ _ (by omega)) rfl ?_
    refine J.yes rfl rfl ?_
    refine J.convBS (k := .l) trivial Tryz.underlying51 Tryz.underlying5 Tryz.underlying9 rfl (b.code) rfl (fun w hw => (e2.ws hw (off_nil _))) rfl ?_
    refine J.yes rfl rfl ?_
    refine J.eqStr (xs := a.code) (ys := b.code) rfl rfl rfl (by assumption) (by assumption) ?_
    refine J.pick_t rfl rfl rfl ?_
    refine J.assign rfl rfl ?_
    refine J.end ?_
    refine X.then ?_
    refine T.ret ?_
    exact X.ret1 rfl (RV.tmp rfl) (fun w' hw' => by first | exact ⟨by congr 2; exact decide_eq_decide.2 ⟨fun q => ⟨hww, q⟩, fun q => q.2⟩, hw'.sub (Sub.nil _)⟩ | exact ⟨by congr 2; exact (decide_eq_false (fun q => hww q.1)).symm, hw'.sub (Sub.nil _)⟩)
  · have hww : ¬ a.w % 2 ^ 256 = b.w % 2 ^ 256 := fun q => h1 (cmpZ_zero.2 q)
    refine J.no rfl rfl rfl rfl ?_
    refine J.no rfl rfl rfl rfl ?_
    refine J.no rfl rfl rfl rfl ?_
    refine J.no rfl rfl rfl rfl ?_
    refine J.no rfl rfl rfl rfl ?_
    refine J.no rfl rfl rfl rfl ?_
    refine J.no rfl rfl rfl rfl ?_
    refine J.pick_f rfl rfl rfl ?_
    refine J.assign rfl rfl ?_
    refine J.end ?_
    refine X.then ?_
    refine T.ret ?_
    exact X.ret1 rfl (RV.tmp rfl) (fun w' hw' => by first | exact ⟨by congr 2; exact decide_eq_decide.2 ⟨fun q => ⟨hww, q⟩, fun q => q.2⟩, hw'.sub (Sub.nil _)⟩ | exact ⟨by congr 2; exact (decide_eq_false (fun q => hww q.1)).symm, hw'.sub (Sub.nil _)⟩)

theorem was (w : World) (c : Ch) :
    Calls Tryz.prog 54 [.agg c.cells.toArray].toArray w fun e w' => e = .returned (.agg c.was.cells.toArray) ∧ WS w [] [] w' := by
  refine calls_of_T [] 14 [] Tryz.func54 rfl Tryz.ntmps54 (by simp) (WS.refl _ _) ?_
  refine T.seq ?_
  refine T.text [.l, .l] rfl ?_
  refine J.box 1 rfl rfl (c.cells) rfl rfl (fun g1 hg1 => ?_)
  refine J.alloc 2 rfl zero70 [.int .u8 0, .int .u8 0, .int .u8 0, .int .u8 0, .int .u8 0, .int .u8 0, .int .u8 0, .int .u8 0, .int .u8 0, .int .u8 0, .int .u8 0, .int .u8 0, .int .u8 0, .int .u8 0, .int .u8 0, .int .u8 0, .int .u8 0, .int .u8 0, .int .u8 0, .int .u8 0, .int .i64 0, .int .u64 0, .int .u64 0, .int .u64 0, .int .u64 0, .int .u64 0, .int .u64 0, .int .u64 0, .int .u64 0, .slice none 0 0] rfl rfl (fun g2 hg2 => ?_)
  refine J.end ?_
  refine X.then ?_
  refine T.seq ?_
  refine T.text [.l, .l, .l, .l, .l, .l, .l, .l, .l, .l, .l, .l] rfl ?_
  refine J.fieldAddr fld53_0 rfl rfl ?_
  refine J.loadN (k := .l) trivial 1 rfl rfl agg47 (ac c.who) rfl rfl rfl ?_
  refine J.fieldAddr fld53_1 rfl rfl ?_
  refine J.load1 (k := .l) trivial 1 rfl rfl one3 (by first | rfl | with_reducible exact rowN_get0 _ _ _ (by omega) | with_reducible exact rowN_get1 _ _ _ (by omega) | with_reducible exact rowN_get1s _ _ _ _ (by omega) | exact rowN_get1 _ _ _ (by omega) | exact rowN_get1s _ _ _ _ (by omega) | exact rowN_get0 _ _ _ (by omega)) rfl ?_
  refine J.fieldAddr fld53_2 rfl rfl ?_
  refine J.loadN (k := .l) trivial 1 rfl rfl agg50 (wc c.key) rfl rfl rfl ?_
  refine J.fieldAddr fld53_3 rfl rfl ?_
  refine J.loadN (k := .l) trivial 1 rfl rfl agg50 (wc c.old) rfl rfl rfl ?_
  refine J.fieldAddr fld53_5 rfl rfl ?_
  refine J.load1 (k := .l) trivial 1 rfl rfl one51 (by first | rfl | with_reducible exact rowN_get0 _ _ _ (by omega) | with_reducible exact rowN_get1 _ _ _ (by omega) | with_reducible exact rowN_get1s _ _ _ _ (by omega) | exact rowN_get1 _ _ _ (by omega) | exact rowN_get1s _ _ _ _ (by omega) | exact rowN_get0 _ _ _ (by omega)) rfl ?_
  refine J.build rfl rfl (.agg c.was.cells.toArray) (fun w => by kernel_rfl) ?_
  refine J.store 2 rfl rfl rfl rfl (c.was.cells) rfl sz70 (Nat.le_of_ble_eq_true rfl) (by first | exact Sp.cells_one _) (Nat.zero_lt_succ _) trivial (c.was.cells) rfl ?_
  refine J.end ?_
  refine X.then ?_
  refine T.ret ?_
  exact X.ret1 rfl (RV.agg 2 rfl rfl agg70 (c.was.cells) (by rfl) (by rfl) rfl) (fun w' hw' => ⟨rfl, hw'.sub (Sub.nil _)⟩)

theorem is_ (w : World) (c : Ch) :
    Calls Tryz.prog 56 [.agg c.cells.toArray].toArray w fun e w' => e = .returned (.agg c.is.cells.toArray) ∧ WS w [] [] w' := by
  refine calls_of_T [] 14 [] Tryz.func56 rfl Tryz.ntmps56 (by simp) (WS.refl _ _) ?_
  refine T.seq ?_
  refine T.text [.l, .l] rfl ?_
  refine J.box 1 rfl rfl (c.cells) rfl rfl (fun g1 hg1 => ?_)
  refine J.alloc 2 rfl zero70 [.int .u8 0, .int .u8 0, .int .u8 0, .int .u8 0, .int .u8 0, .int .u8 0, .int .u8 0, .int .u8 0, .int .u8 0, .int .u8 0, .int .u8 0, .int .u8 0, .int .u8 0, .int .u8 0, .int .u8 0, .int .u8 0, .int .u8 0, .int .u8 0, .int .u8 0, .int .u8 0, .int .i64 0, .int .u64 0, .int .u64 0, .int .u64 0, .int .u64 0, .int .u64 0, .int .u64 0, .int .u64 0, .int .u64 0, .slice none 0 0] rfl rfl (fun g2 hg2 => ?_)
  refine J.end ?_
  refine X.then ?_
  refine T.seq ?_
  refine T.text [.l, .l, .l, .l, .l, .l, .l, .l, .l, .l, .l, .l] rfl ?_
  refine J.fieldAddr fld53_0 rfl rfl ?_
  refine J.loadN (k := .l) trivial 1 rfl rfl agg47 (ac c.who) rfl rfl rfl ?_
  refine J.fieldAddr fld53_1 rfl rfl ?_
  refine J.load1 (k := .l) trivial 1 rfl rfl one3 (by first | rfl | with_reducible exact rowN_get0 _ _ _ (by omega) | with_reducible exact rowN_get1 _ _ _ (by omega) | with_reducible exact rowN_get1s _ _ _ _ (by omega) | exact rowN_get1 _ _ _ (by omega) | exact rowN_get1s _ _ _ _ (by omega) | exact rowN_get0 _ _ _ (by omega)) rfl ?_
  refine J.fieldAddr fld53_2 rfl rfl ?_
  refine J.loadN (k := .l) trivial 1 rfl rfl agg50 (wc c.key) rfl rfl rfl ?_
  refine J.fieldAddr fld53_4 rfl rfl ?_
  refine J.loadN (k := .l) trivial 1 rfl rfl agg50 (wc c.new) rfl rfl rfl ?_
  refine J.fieldAddr fld53_6 rfl rfl ?_
  refine J.load1 (k := .l) trivial 1 rfl rfl one51 (by first | rfl | with_reducible exact rowN_get0 _ _ _ (by omega) | with_reducible exact rowN_get1 _ _ _ (by omega) | with_reducible exact rowN_get1s _ _ _ _ (by omega) | exact rowN_get1 _ _ _ (by omega) | exact rowN_get1s _ _ _ _ (by omega) | exact rowN_get0 _ _ _ (by omega)) rfl ?_
  refine J.build rfl rfl (.agg c.is.cells.toArray) (fun w => by kernel_rfl) ?_
  refine J.store 2 rfl rfl rfl rfl (c.is.cells) rfl sz70 (Nat.le_of_ble_eq_true rfl) (by first | exact Sp.cells_one _) (Nat.zero_lt_succ _) trivial (c.is.cells) rfl ?_
  refine J.end ?_
  refine X.then ?_
  refine T.ret ?_
  exact X.ret1 rfl (RV.agg 2 rfl rfl agg70 (c.is.cells) (by rfl) (by rfl) rfl) (fun w' hw' => ⟨rfl, hw'.sub (Sub.nil _)⟩)

theorem bytes (w : World) (A1 : Option Addr) (c1 : Nat) (xs : List Nat) (e1 : Cs w A1 (rowN .u8 xs)) (hl : xs.length ≤ 1000000000000) :
    Calls Tryz.prog 70 [.slice A1 xs.length c1].toArray w fun e w' => RowsPost w 5 .u8 (fun zs => zs = xs) e w' := by
  refine calls_of_T [] 7 [] Tryz.func70 rfl Tryz.ntmps70 (by simp) (WS.refl _ _) ?_
  refine T.seq ?_
  refine T.text [.l] rfl ?_
  refine J.assign rfl rfl ?_
  refine J.end ?_
  refine X.then ?_
  refine T.seq ?_
  refine T.text [.l] rfl ?_
  refine J.assign rfl rfl ?_
  refine J.end ?_
  refine X.then ?_
  refine T.seq ?_
  refine T.addNil 3 5 ?_
  refine T.text [.l, .l, .l, .l] rfl ?_
  refine J.move rfl rfl ?_
  refine J.move rfl rfl ?_
  refine J.append (i := RowIx.nil) (cs := []) 3 rfl Tryz.underlying51 el5 rfl (RowIx.nil_ok 1) rfl rfl rfl (by rw [rowN_length, Nat.mul_one]) (fun w hw => e1.ws hw (off_nil _)) (rowN_one _ _) (by omega) (by unfold maxLen; omega) rfl xs.length (Nat.zero_add _) (rowN .u8 xs) (List.nil_append _) (fun r6 hr6 => ?_)
  refine J.assign rfl rfl ?_
  refine J.end ?_
  refine X.then ?_
  refine T.ret ?_
  exact X.ret1 rfl (RV.tmp rfl) (fun w' hw' => RowsPost.mk' xs rfl r6 hr6 rfl hw' 3 rfl)

theorem from_ (w : World) (n : Nat) (B : List (Option Nat)) (a b : Sp) (hB : ∀ g, some g ∈ B → g < w.heap.size) (ha : a.Ok w n B) (hb : b.Ok w n B) :
    Calls Tryz.prog 45 [.agg a.cells.toArray, .agg b.cells.toArray].toArray w fun e w' => ∃ c : Ch, (c.v = a.to b ∧ c.Ok w' n B) ∧ e = .returned (.agg c.cells.toArray) ∧ WS w [] [] w' := by
  refine calls_of_T [] 22 [] Tryz.func45 rfl Tryz.ntmps45 (by simp) (WS.refl _ _) ?_
  refine T.seq ?_
  refine T.text [.l, .l, .l] rfl ?_
  refine J.box 2 rfl rfl (a.cells) rfl rfl (fun g2 hg2 => ?_)
  refine J.box 3 rfl rfl (b.cells) rfl rfl (fun g3 hg3 => ?_)
  refine J.alloc 4 rfl zero53 [.int .u8 0, .int .u8 0, .int .u8 0, .int .u8 0, .int .u8 0, .int .u8 0, .int .u8 0, .int .u8 0, .int .u8 0, .int .u8 0, .int .u8 0, .int .u8 0, .int .u8 0, .int .u8 0, .int .u8 0, .int .u8 0, .int .u8 0, .int .u8 0, .int .u8 0, .int .u8 0, .int .i64 0, .int .u64 0, .int .u64 0, .int .u64 0, .int .u64 0, .int .u64 0, .int .u64 0, .int .u64 0, .int .u64 0, .int .u64 0, .int .u64 0, .int .u64 0, .int .u64 0, .slice none 0 0, .slice none 0 0] rfl rfl (fun g4 hg4 => ?_)
  refine J.end ?_
  refine X.then ?_
  refine T.seq ?_
  refine T.draw [(2, ⟨some g2, 70, (a.cells)⟩), (3, ⟨some g3, 70, (b.cells)⟩)] [(0, .g), (1, .s), (2, .g), (3, .s), (4, .g), (5, .s), (6, .g), (7, .s), (8, .g), (9, .s), (10, .g), (11, .q), (13, .g), (14, .s), (12, .l), (15, .l), (16, .g), (17, .l)] (by kernel_rfl) (by kernel_rfl) ?_ (by repeat (first | exact Sub.nil _ | refine Sub.cons (by first | rfl | (rw [dgs_zero]; rfl) | (rw [List.drop_length]; rfl) | (simp; done) | (congr 2; omega) | (congr 3; omega)) ?_))
  refine J.fieldAddr fld70_0 rfl rfl ?_
  refine J.loadNs 2 rfl rfl agg47 (ac a.who) rfl rfl rfl ?_
  refine J.fieldAddr fld70_1 rfl rfl ?_
  refine J.load1s 2 rfl rfl one3 (by first | rfl | with_reducible exact rowN_get0 _ _ _ (by omega) | with_reducible exact rowN_get1 _ _ _ (by omega) | with_reducible exact rowN_get1s _ _ _ _ (by omega) | exact rowN_get1 _ _ _ (by omega) | exact rowN_get1s _ _ _ _ (by omega) | exact rowN_get0 _ _ _ (by omega)) rfl ?_
  refine J.fieldAddr fld70_2 rfl rfl ?_
  refine J.loadNs 2 rfl rfl agg50 (wc a.key) rfl rfl rfl ?_
  refine J.fieldAddr fld70_3 rfl rfl ?_
  refine J.loadNs 2 rfl rfl agg50 (wc a.w) rfl rfl rfl ?_
  refine J.fieldAddr fld70_3 rfl rfl ?_
  refine J.loadNs 3 rfl rfl agg50 (wc b.w) rfl rfl rfl ?_
  refine J.fieldAddr fld70_4 rfl rfl ?_
  refine J.load1 (k := .q) trivial 2 rfl rfl one51 (by first | rfl | with_reducible exact rowN_get0 _ _ _ (by omega) | with_reducible exact rowN_get1 _ _ _ (by omega) | with_reducible exact rowN_get1s _ _ _ _ (by omega) | exact rowN_get1 _ _ _ (by omega) | exact rowN_get1s _ _ _ _ (by omega) | exact rowN_get0 _ _ _ (by omega)) rfl ?_
  refine J.fieldAddr fld70_4 rfl rfl ?_
  refine J.load1s 3 rfl rfl one51 (by first | rfl | with_reducible exact rowN_get0 _ _ _ (by omega) | with_reducible exact rowN_get1 _ _ _ (by omega) | with_reducible exact rowN_get1s _ _ _ _ (by omega) | exact rowN_get1 _ _ _ (by omega) | exact rowN_get1s _ _ _ _ (by omega) | exact rowN_get0 _ _ _ (by omega)) rfl ?_
  refine J.callRow 17 rfl (t := 5) (kd := .u8) fok70 rfl rfl (fun w hw => De.bytes w _ _ _ (ha.fc.cs.ws hw (off_nil _)) ha.lc) (fun zs17 r17 hz17 hr17 => ?_)
  refine J.callRow 20 rfl (t := 5) (kd := .u8) fok70 rfl rfl (fun w hw => De.bytes w _ _ _ (hb.fc.cs.ws hw (off_nil _)) hb.lc) (fun zs20 r20 hz20 hr20 => ?_)
  refine J.build rfl rfl (.agg (Ch.mk a.who a.kind a.key a.w b.w zs17 zs20 (hdOf r17.id) r17.cap (hdOf r20.id) r20.cap).cells.toArray) (fun w => by kernel_rfl) ?_
  refine J.store 4 rfl rfl rfl rfl ((Ch.mk a.who a.kind a.key a.w b.w zs17 zs20 (hdOf r17.id) r17.cap (hdOf r20.id) r20.cap).cells) rfl sz53 (Nat.le_of_ble_eq_true rfl) (by first | exact Ch.cells_one _) (Nat.zero_lt_succ _) trivial ((Ch.mk a.who a.kind a.key a.w b.w zs17 zs20 (hdOf r17.id) r17.cap (hdOf r20.id) r20.cap).cells) rfl ?_
  refine J.end ?_
  refine X.then ?_
  refine T.ret ?_
  exact X.ret1 rfl (RV.agg 4 rfl rfl agg53 ((Ch.mk a.who a.kind a.key a.w b.w zs17 zs20 (hdOf r17.id) r17.cap (hdOf r20.id) r20.cap).cells) (by rfl) (by rfl) rfl) (fun w' hw' => ⟨(Ch.mk a.who a.kind a.key a.w b.w zs17 zs20 (hdOf r17.id) r17.cap (hdOf r20.id) r20.cap), ⟨by show CV.mk _ _ _ _ _ zs17 zs20 = _; rw [hz17, hz20]; rfl, ⟨ha.kd, by show Dg zs17; rw [hz17]; exact ha.dC, by show Dg zs20; rw [hz20]; exact hb.dC, by show zs17.length ≤ _; rw [hz17]; exact ha.lc, by show zs20.length ≤ _; rw [hz20]; exact hb.lc, fit_row hw' (j := 17) rfl (fun g h => ⟨hB g h, fun q => by cases q⟩), fit_row hw' (j := 20) rfl (fun g h => ⟨hB g h, fun q => by cases q⟩)⟩⟩, rfl, hw'.sub (Sub.nil _)⟩)

theorem Turn (w : World) (n : Nat) (B : List (Option Nat)) (A1 : Option Addr) (c1 : Nat) (ds : List Ch) (hn : n ≤ w.heap.size) (hB : ∀ g, some g ∈ B → g < w.heap.size) (hA : Cs w A1 (rowC ds)) (hd : AllC w n B ds) (hl : ds.length ≤ 1000000000) :
    Calls Tryz.prog 30 [.slice A1 ds.length c1].toArray w fun e w' => ∃ q : List Ch × RowIx, (q.1.map Ch.v = ds.map (fun c => c.v.turn) ∧ q.2.Ok 35 q.1.length ∧ Fit w' n B (hdOf q.2.id) (rowC q.1) ∧ AllC w' n B q.1) ∧ e = .returned (q.2.val q.1.length) ∧ WS w [] [] w' := by
  refine calls_of_T [] 26 [] Tryz.func30 rfl Tryz.ntmps30 (by simp) (WS.refl _ _) ?_
  refine T.seq ?_
  refine T.text [.l] rfl ?_
  refine J.assign rfl rfl ?_
  refine J.end ?_
  refine X.then ?_
  refine T.seq ?_
  refine T.addNil 3 53 ?_
  refine T.text [.l] rfl ?_
  refine J.assign rfl rfl ?_
  refine J.end ?_
  refine X.then ?_
  refine T.seq ?_
  refine T.seq ?_
  refine T.text [.l] rfl ?_
  refine J.assign rfl rfl ?_
  refine J.end ?_
  refine X.then ?_
  refine T.block ?_
  refine T.snap [(3, ⟨none, 53, []⟩)] (by repeat (first | exact Sub.nil _ | refine Sub.cons (by first | rfl | (rw [dgs_zero]; rfl) | (rw [List.drop_length]; rfl) | (simp; done) | (congr 2; omega) | (congr 3; omega)) ?_ | exact Sub.refl _ | refine sub_snap ?_ rfl)) rfl (fun Wl1 hWWl1 => ?_)
  have hVWl1 := hWWl1.sub (Sub.nil _)
  refine T.loop (ι := World × Nat × List Ch × RowIx) (fun ((W, i, zs, r) : World × Nat × List Ch × RowIx) => i ≤ ds.length ∧ zs.map Ch.v = (ds.take i).map (fun c => c.v.turn) ∧ r.Ok 35 zs.length ∧ WS w [] [] W ∧ AllC W n (B ++ [r.id]) zs) (fun ((W, i, zs, r) : World × Nat × List Ch × RowIx) => [(0, .slice A1 ds.length c1), (2, .slice none 0 0), (4, .int .i64 (i : Int)), (3, r.val zs.length)]) (fun ((W, i, zs, r) : World × Nat × List Ch × RowIx) => ((3, r.ent 53 (rowC zs)) :: snapL W w.heap.size [r.id])) (fun ((W, i, zs, r) : World × Nat × List Ch × RowIx) => ds.length - i) ⟨Wl1, 0, [], RowIx.nil⟩ ⟨Nat.zero_le _, rfl, RowIx.nil_ok 35, hVWl1, AllC.nil⟩ (by repeat (first | exact Sub.nil _ | refine Sub.cons (by first | rfl | (rw [dgs_zero]; rfl) | (rw [List.drop_length]; rfl) | (simp; done) | (congr 2; omega) | (congr 3; omega)) ?_ | exact Sub.refl _ | refine sub_snap ?_ rfl)) (by repeat (first | exact Sub.nil _ | refine Sub.cons (by first | rfl | (rw [dgs_zero]; rfl) | (rw [List.drop_length]; rfl) | (simp; done) | (congr 2; omega) | (congr 3; omega)) ?_ | exact Sub.refl _ | refine sub_snap ?_ rfl)) ?_
  rintro ⟨W, i, zs, r⟩ ⟨hi, hm, hr, hV, hz⟩
  try dsimp only at *
  refine T.seq ?_
  refine T.seq ?_
  refine T.text [.l, .l, .l, .l] rfl ?_
  refine J.move rfl rfl ?_
  refine J.move rfl rfl ?_
  refine J.lenSl Tryz.underlying25 rfl rfl ?_
  refine J.lss rfl rfl rfl rfl ?_
  refine J.end ?_
  refine X.then ?_
  refine T.cond_dec rfl (fun h2 => ?_) (fun h2 => ?_)
  · have hi2 : i < ds.length := by omega
    refine T.skip ?_
    refine X.then ?_
    refine T.seq ?_
    refine T.block ?_
    refine T.draw [] [(0, .g), (1, .g), (2, .g), (3, .g), (4, .q), (5, .q), (6, .g), (7, .g), (8, .g), (9, .q), (10, .q), (11, .l), (12, .l), (13, .l), (14, .g)] (by kernel_rfl) (by kernel_rfl) ?_ (by repeat (first | exact Sub.nil _ | refine Sub.cons (by first | rfl | (rw [dgs_zero]; rfl) | (rw [List.drop_length]; rfl) | (simp; done) | (congr 2; omega) | (congr 3; omega)) ?_ | exact Sub.refl _ | refine sub_snap ?_ rfl))
    refine J.move rfl rfl ?_
    refine J.move rfl rfl ?_
    refine J.move rfl rfl ?_
    refine J.indexSlI sl25 rfl (hA.isSome (by rw [rowC_length]; omega)) rfl (by omega) (by omega) (by first | exact Int.toNat_natCast _ | rfl) rfl ?_
    refine J.loadIN (k := .q) trivial hA (off_nil _) rfl agg53 ((ds.getD i default).cells) rfl (rowC_seg ds i (by omega)) rfl ?_
    refine J.call0 (k := .q) trivial fok56 rfl rfl (fun w hw => De.is_ w (ds.getD i default)) ?_
    refine J.move rfl rfl ?_
    refine J.move rfl rfl ?_
    refine J.indexSlI sl25 rfl (hA.isSome (by rw [rowC_length]; omega)) rfl (by omega) (by omega) (by first | exact Int.toNat_natCast _ | rfl) rfl ?_
    refine J.loadIN (k := .q) trivial hA (off_nil _) rfl agg53 ((ds.getD i default).cells) rfl (rowC_seg ds i (by omega)) rfl ?_
    refine J.call0 (k := .q) trivial fok54 rfl rfl (fun w hw => De.was w (ds.getD i default)) ?_
    refine J.callB fok45 rfl rfl _ _ [(3, r.ent 53 (rowC zs))] (by repeat (first | exact Sub.nil _ | refine Sub.cons (by first | rfl | (rw [dgs_zero]; rfl) | (rw [List.drop_length]; rfl) | (simp; done) | (congr 2; omega) | (congr 3; omega)) ?_ | exact Sub.refl _ | refine sub_snap ?_ rfl)) rfl (fun _ _ => Sub.nil _) (fun w hw => De.from_ w n (B ++ ids [(3, r.ent 53 (rowC zs))]) _ _ (busy_lt (l1 := [(3, r.ent 53 (rowC zs))]) hB hw (by repeat (first | exact Sub.nil _ | refine Sub.cons (by first | rfl | (rw [dgs_zero]; rfl) | (rw [List.drop_length]; rfl) | (simp; done) | (congr 2; omega) | (congr 3; omega)) ?_ | exact Sub.refl _ | refine sub_snap ?_ rfl)) rfl) (((hd.get (i := i) (by omega)).is).keep (keep_base (B0 := B) (l1 := [(3, r.ent 53 (rowC zs))]) hn (fun g hg => by cases hg) hw (by repeat (first | exact Sub.nil _ | refine Sub.cons (by first | rfl | (rw [dgs_zero]; rfl) | (rw [List.drop_length]; rfl) | (simp; done) | (congr 2; omega) | (congr 3; omega)) ?_ | exact Sub.refl _ | refine sub_snap ?_ rfl)) rfl)) (((hd.get (i := i) (by omega)).was).keep (keep_base (B0 := B) (l1 := [(3, r.ent 53 (rowC zs))]) hn (fun g hg => by cases hg) hw (by repeat (first | exact Sub.nil _ | refine Sub.cons (by first | rfl | (rw [dgs_zero]; rfl) | (rw [List.drop_length]; rfl) | (simp; done) | (congr 2; omega) | (congr 3; omega)) ?_ | exact Sub.refl _ | refine sub_snap ?_ rfl)) rfl))) (fun i22 W22 hP22 hW22 => ?_)
    obtain ⟨hv22, hc22⟩ := hP22
    have kpW22 := (keep_snap (I := [r.id]) (B0 := B) (l1 := [(3, r.ent 53 (rowC zs))]) hV hn (fun g hg => by cases hg) hW22 (by repeat (first | exact Sub.refl _ | refine sub_snap ?_ rfl)) (by repeat (first | exact Sub.nil _ | refine Sub.cons (by first | rfl | (rw [dgs_zero]; rfl) | (rw [List.drop_length]; rfl) | (simp; done) | (congr 2; omega) | (congr 3; omega)) ?_ | exact Sub.refl _ | refine sub_snap ?_ rfl)) rfl)
    have hz := hz.keep kpW22
    have hVW22 := hW22.sub (Sub.nil _)
    refine J.lit1 23 rfl Tryz.underlying25 el53 (by decide) rfl (i22.cells) rfl rfl rfl (fun g23 hg23 => ?_)
    refine J.append 3 rfl Tryz.underlying25 el53 rfl hr (rowC_length zs) rfl rfl rfl (fun w hw => (hw.blkCs (k := 23) rfl)) (Ch.cells_one _) (by have := congrArg List.length hm; simp at this; omega) (by have := congrArg List.length hm; simp at this; unfold maxLen; omega) rfl (zs ++ [i22]).length (by rw [List.length_append]; rfl) (rowC (zs ++ [i22])) (rowC_snoc _ _).symm (fun r24 hr24 => ?_)
    refine J.assign rfl rfl ?_
    refine J.end ?_
    refine X.inBlock (X.then ?_)
    refine T.text [.l, .l, .l] rfl ?_
    refine J.move rfl rfl ?_
    refine J.add rfl rfl rfl (by first | exact add_nat _ 1 (by omega) | exact i64_ok _ (by omega) | exact rfl) ?_
    refine J.assign rfl rfl ?_
    refine J.end ?_
    refine X.snap [(3, r24.ent 53 (rowC (zs ++ [i22])))] (by repeat (first | exact Sub.nil _ | refine Sub.cons (by first | rfl | (rw [dgs_zero]; rfl) | (rw [List.drop_length]; rfl) | (simp; done) | (congr 2; omega) | (congr 3; omega)) ?_ | exact Sub.refl _ | refine sub_snap ?_ rfl)) rfl (fun Wx3 hWWx3 => ?_)
    have kpWx3 := (keep_snap (I := [r.id]) (B0 := B) (l1 := [(3, r24.ent 53 (rowC (zs ++ [i22])))]) hVW22 hn (fun g hg => by cases hg) hWWx3 (by repeat (first | exact Sub.refl _ | refine sub_snap ?_ rfl)) (by repeat (first | exact Sub.nil _ | refine Sub.cons (by first | rfl | (rw [dgs_zero]; rfl) | (rw [List.drop_length]; rfl) | (simp; done) | (congr 2; omega) | (congr 3; omega)) ?_ | exact Sub.refl _ | refine sub_snap ?_ rfl)) rfl)
    have hz := hz.keep kpWx3
    have hc22 := hc22.keep kpWx3
    have hVWx3 := hWWx3.sub (Sub.nil _)
    exact X.round ⟨Wx3, (i + 1), (zs ++ [i22]), r24⟩ ⟨by show i + 1 ≤ _; omega, map_snoc_v (f := CV.turn) hm hi2 (by rw [hv22]; rfl), hr24, hVWx3, hz.snoc hc22⟩ (by first | omega | (dsimp only; omega)) (by repeat (first | exact Sub.nil _ | refine Sub.cons (by first | rfl | (rw [dgs_zero]; rfl) | (rw [List.drop_length]; rfl) | (simp; done) | (congr 2; omega) | (congr 3; omega)) ?_ | exact Sub.refl _ | refine sub_snap ?_ rfl)) (by repeat (first | exact Sub.nil _ | refine Sub.cons (by first | rfl | (rw [dgs_zero]; rfl) | (rw [List.drop_length]; rfl) | (simp; done) | (congr 2; omega) | (congr 3; omega)) ?_ | exact Sub.refl _ | refine sub_snap ?_ rfl))
  · obtain rfl : i = ds.length := by omega
    rw [List.take_length] at hm
    refine T.exit ?_
    refine X.then_exit (X.then_exit (X.inBlock_eq (X.then ?_)))
    refine T.seq ?_
    refine T.text [.l, .l] rfl ?_
    refine J.move rfl rfl ?_
    refine J.assign rfl rfl ?_
    refine J.end ?_
    refine X.then ?_
    refine T.ret ?_
    exact X.ret1 rfl (RV.tmp rfl) (fun w' hw' => ⟨(zs, r), ⟨hm, hr, fit_row hw' (j := 3) rfl (fun g h => ⟨hB g h, fun q => by cases q⟩), hz.keep (((keep_snap (I := [r.id]) (B0 := B) (l1 := []) hV hn (fun g hg => by cases hg) hw' (by repeat (first | exact Sub.refl _ | refine sub_snap ?_ rfl)) (Sub.nil _) rfl)).le (fun o h => List.mem_append_left _ h))⟩, rfl, hw'.sub (Sub.nil _)⟩)

theorem Apart (w : World) (n : Nat) (B : List (Option Nat)) (A1 A2 : Option Addr) (c1 c2 : Nat) (ps qs : List Ch) (hA1 : Cs w A1 (rowC ps)) (hA2 : Cs w A2 (rowC qs)) (hl1 : ps.length ≤ 1000000000) (hl2 : qs.length ≤ 1000000000) :
    Calls Tryz.prog 31 [.slice A1 ps.length c1, .slice A2 qs.length c2].toArray w fun e w' => e = .returned (.bool (decide (apartL (ps.map Ch.v) (qs.map Ch.v)))) ∧ WS w [] [] w' := by
  refine calls_of_T [] 31 [] Tryz.func31 rfl Tryz.ntmps31 (by simp) (WS.refl _ _) ?_
  refine T.seq ?_
  refine T.text [.l] rfl ?_
  refine J.assign rfl rfl ?_
  refine J.end ?_
  refine X.then ?_
  refine T.seq ?_
  refine T.seq ?_
  refine T.text [.l] rfl ?_
  refine J.assign rfl rfl ?_
  refine J.end ?_
  refine X.then ?_
  refine T.block ?_
  refine T.loop (ι := Nat) (fun (i : Nat) => i ≤ ps.length ∧ (∀ p, p < i → ∀ q, q < qs.length → ¬ (ps.getD p default).v.meetsAt (qs.getD q default).v)) (fun (i : Nat) => [(0, .slice A1 ps.length c1), (1, .slice A2 qs.length c2), (5, .int .i64 (i : Int))]) (fun (i : Nat) => []) (fun (i : Nat) => ps.length - i) 0 ⟨Nat.zero_le _, fun p hp => by omega⟩ (by repeat (first | exact Sub.nil _ | refine Sub.cons (by first | rfl | (rw [dgs_zero]; rfl) | (rw [List.drop_length]; rfl) | (simp; done) | (congr 2; omega) | (congr 3; omega)) ?_)) (by repeat (first | exact Sub.nil _ | refine Sub.cons (by first | rfl | (rw [dgs_zero]; rfl) | (rw [List.drop_length]; rfl) | (simp; done) | (congr 2; omega) | (congr 3; omega)) ?_)) ?_
  rintro i ⟨hi, hno⟩
  refine T.seq ?_
  refine T.seq ?_
  refine T.text [.l, .l, .l, .l] rfl ?_
  refine J.move rfl rfl ?_
  refine J.move rfl rfl ?_
  refine J.lenSl Tryz.underlying25 rfl rfl ?_
  refine J.lss rfl rfl rfl rfl ?_
  refine J.end ?_
  refine X.then ?_
  refine T.cond_dec rfl (fun h1 => ?_) (fun h1 => ?_)
  · have hi2 : i < ps.length := by omega
    refine T.skip ?_
    refine X.then ?_
    refine T.seq ?_
    refine T.block ?_
    refine T.seq ?_
    refine T.text [.l] rfl ?_
    refine J.assign rfl rfl ?_
    refine J.end ?_
    refine X.then ?_
    refine T.block ?_
    refine T.loop (ι := Nat) (fun (k : Nat) => k ≤ qs.length ∧ (∀ q, q < k → ¬ (ps.getD i default).v.meetsAt (qs.getD q default).v)) (fun (k : Nat) => [(0, .slice A1 ps.length c1), (1, .slice A2 qs.length c2), (5, .int .i64 (i : Int)), (6, .int .i64 (k : Int))]) (fun (k : Nat) => []) (fun (k : Nat) => qs.length - k) 0 ⟨Nat.zero_le _, fun p hp => by omega⟩ (by repeat (first | exact Sub.nil _ | refine Sub.cons (by first | rfl | (rw [dgs_zero]; rfl) | (rw [List.drop_length]; rfl) | (simp; done) | (congr 2; omega) | (congr 3; omega)) ?_)) (by repeat (first | exact Sub.nil _ | refine Sub.cons (by first | rfl | (rw [dgs_zero]; rfl) | (rw [List.drop_length]; rfl) | (simp; done) | (congr 2; omega) | (congr 3; omega)) ?_)) ?_
    rintro k ⟨hk, hno2⟩
    refine T.seq ?_
    refine T.seq ?_
    refine T.text [.l, .l, .l, .l] rfl ?_
    refine J.move rfl rfl ?_
    refine J.move rfl rfl ?_
    refine J.lenSl Tryz.underlying25 rfl rfl ?_
    refine J.lss rfl rfl rfl rfl ?_
    refine J.end ?_
    refine X.then ?_
    refine T.cond_dec rfl (fun h2 => ?_) (fun h2 => ?_)
    · have hk2 : k < qs.length := by omega
      refine T.skip ?_
      refine X.then ?_
      refine T.seq ?_
      refine T.block ?_
      refine T.seq ?_
      refine T.draw [] [(0, .g), (1, .g), (2, .g), (3, .q), (4, .q), (5, .g), (6, .g), (7, .g), (8, .q), (9, .q), (10, .q), (11, .g)] (by kernel_rfl) (by kernel_rfl) ?_ (by repeat (first | exact Sub.nil _ | refine Sub.cons (by first | rfl | (rw [dgs_zero]; rfl) | (rw [List.drop_length]; rfl) | (simp; done) | (congr 2; omega) | (congr 3; omega)) ?_))
      refine J.move rfl rfl ?_
      refine J.move rfl rfl ?_
      refine J.indexSlI sl25 rfl (hA1.isSome (by rw [rowC_length]; omega)) rfl (by omega) (by omega) (by first | exact Int.toNat_natCast _ | rfl) rfl ?_
      refine J.loadIN (k := .q) trivial hA1 (off_nil _) rfl agg53 ((ps.getD i default).cells) rfl (rowC_seg ps i (by omega)) rfl ?_
      refine J.call0 (k := .q) trivial fok54 rfl rfl (fun w hw => De.was w (ps.getD i default)) ?_
      refine J.move rfl rfl ?_
      refine J.move rfl rfl ?_
      refine J.indexSlI sl25 rfl (hA2.isSome (by rw [rowC_length]; omega)) rfl (by omega) (by omega) (by first | exact Int.toNat_natCast _ | rfl) rfl ?_
      refine J.loadIN (k := .q) trivial hA2 (off_nil _) rfl agg53 ((qs.getD k default).cells) rfl (rowC_seg qs k (by omega)) rfl ?_
      refine J.call0 (k := .q) trivial fok54 rfl rfl (fun w hw => De.was w (qs.getD k default)) ?_
      refine J.call0 (k := .q) trivial fok44 rfl rfl (fun w hw => De.order w _ _) ?_
      refine J.eql rfl rfl rfl rfl ?_
      refine J.end ?_
      refine X.then ?_
      refine T.cond_dec rfl (fun h3 => ?_) (fun h3 => ?_)
      · have hap := apart_hit2 hi2 hk2 ((ordZ_zero _ _).1 h3)
        refine T.seq ?_
        refine T.text [.l] rfl ?_
        refine J.assign rfl rfl ?_
        refine J.end ?_
        refine X.then ?_
        refine T.ret ?_
        refine X.inBlock_ret (X.then_ret (X.then_ret (X.inBlock_ret (X.inBlock_ret (X.then_ret (X.then_ret (X.inBlock_ret (X.then_ret ?_))))))))
        exact X.ret1 rfl (RV.tmp rfl) (fun w' hw' => by first | exact ⟨by rw [decide_eq_false hap], hw'.sub (Sub.nil _)⟩ | exact ⟨by rw [decide_eq_true hap], hw'.sub (Sub.nil _)⟩)
      · have hne : ¬ (ps.getD i default).v.meetsAt (qs.getD k default).v := fun q => h3 ((ordZ_zero _ _).2 q)
        refine T.skip ?_
        refine X.inBlock (X.then ?_)
        refine T.text [.l, .l, .l] rfl ?_
        refine J.move rfl rfl ?_
        refine J.add rfl rfl rfl (by first | exact add_nat _ 1 (by omega) | exact i64_ok _ (by omega) | exact rfl) ?_
        refine J.assign rfl rfl ?_
        refine J.end ?_
        exact X.round (k + 1) ⟨by omega, lt_snoc hno2 hne⟩ (by first | omega | (dsimp only; omega)) (by repeat (first | exact Sub.nil _ | refine Sub.cons (by first | rfl | (rw [dgs_zero]; rfl) | (rw [List.drop_length]; rfl) | (simp; done) | (congr 2; omega) | (congr 3; omega)) ?_)) (by repeat (first | exact Sub.nil _ | refine Sub.cons (by first | rfl | (rw [dgs_zero]; rfl) | (rw [List.drop_length]; rfl) | (simp; done) | (congr 2; omega) | (congr 3; omega)) ?_))
    · obtain rfl : k = qs.length := by omega
      have hrow := hno2
      refine T.exit ?_
      refine X.then_exit (X.then_exit (X.inBlock_eq (X.inBlock (X.then ?_))))
      refine T.text [.l, .l, .l] rfl ?_
      refine J.move rfl rfl ?_
      refine J.add rfl rfl rfl (by first | exact add_nat _ 1 (by omega) | exact i64_ok _ (by omega) | exact rfl) ?_
      refine J.assign rfl rfl ?_
      refine J.end ?_
      exact X.round (i + 1) ⟨by omega, lt_snoc hno hrow⟩ (by first | omega | (dsimp only; omega)) (by repeat (first | exact Sub.nil _ | refine Sub.cons (by first | rfl | (rw [dgs_zero]; rfl) | (rw [List.drop_length]; rfl) | (simp; done) | (congr 2; omega) | (congr 3; omega)) ?_)) (by repeat (first | exact Sub.nil _ | refine Sub.cons (by first | rfl | (rw [dgs_zero]; rfl) | (rw [List.drop_length]; rfl) | (simp; done) | (congr 2; omega) | (congr 3; omega)) ?_))
  · obtain rfl : i = ps.length := by omega
    have hap := apart_all2 hno
    refine T.exit ?_
    refine X.then_exit (X.then_exit (X.inBlock_eq (X.then ?_)))
    refine T.seq ?_
    refine T.text [.l] rfl ?_
    refine J.assign rfl rfl ?_
    refine J.end ?_
    refine X.then ?_
    refine T.ret ?_
    exact X.ret1 rfl (RV.tmp rfl) (fun w' hw' => by first | exact ⟨by rw [decide_eq_false hap], hw'.sub (Sub.nil _)⟩ | exact ⟨by rw [decide_eq_true hap], hw'.sub (Sub.nil _)⟩)
end Go.Proofs.YtlllcafedekojaaGreatDoor.De
set_option linter.unusedVariables false
namespace Go.Fw
open Go
section
variable {P : Program} {w0 : World} {M : List Nat} {N : Nf} {σ : List (Nat × Value)} {l : List (Nat × Ent)} {Q : Exit → Act → World → Prop}
/-- A truth as a number. -/
theorem X.num {u : Exit} (t : Nat) {p : Prop} [Decidable p] (h : lk σ t = some (.bool (decide p))) (hX : ∀ q : Nat, (q = 1 ↔ p) → X w0 M N Q u ((t, .bool (decide (q = 1))) :: σ) l) : X w0 M N Q u σ l := by
  by_cases hp : p
  · exact X.as t _ h (by rw [decide_eq_true hp, decide_eq_true (rfl : (1 : Nat) = 1)]) (hX 1 ⟨fun _ => hp, fun _ => rfl⟩)
  · exact X.as t _ h (by rw [decide_eq_false hp, decide_eq_false (by decide : ¬ (0 : Nat) = 1)]) (hX 0 ⟨fun q => (by cases q), fun q => absurd q hp⟩)
theorem cmpZ_iff0 (x : Nat) : cmpZ (x % 2 ^ 256) (0 % 2 ^ 256) ≠ 0 ↔ ¬ x % 2 ^ 256 = 0 := ⟨fun h q => h (cmpZ_w0 q), fun h q => h (cmpZ_0w (fun r => r q))⟩
end
end Go.Fw
set_option linter.unusedVariables false
set_option maxRecDepth 20000
namespace Go.Proofs.YtlllcafedekojaaGreatDoor.Dg
open Go Go.Fw

theorem sz287 : SizeT Tryz.prog 287 32 := (by unfold SizeT; kernel_rfl)
theorem zero50 : ZeroT Tryz.prog 50 (.agg ([.int .u64 0, .int .u64 0, .int .u64 0, .int .u64 0]).toArray) := (by unfold ZeroT; kernel_rfl)
theorem sz50 : SizeT Tryz.prog 50 4 := (by unfold SizeT; kernel_rfl)
theorem sz51 : SizeT Tryz.prog 51 1 := (by unfold SizeT; kernel_rfl)
theorem fld53_5 : FldT Tryz.prog 53 5 51 33 0 := ⟨by kernel_rfl, sz51⟩
theorem one51 : OneT Tryz.prog 51 := ⟨⟨_, Tryz.underlying51, rfl⟩, by kernel_rfl⟩
theorem fld53_6 : FldT Tryz.prog 53 6 51 34 0 := ⟨by kernel_rfl, sz51⟩
theorem fld53_3 : FldT Tryz.prog 53 3 50 25 3 := ⟨by kernel_rfl, sz50⟩
theorem agg50 : AggT Tryz.prog 50 4 := ⟨⟨_, Tryz.underlying50, rfl⟩, by kernel_rfl⟩
theorem fok69 : FnOk Tryz.prog 69 := FnOk.mk' Tryz.func69 (by kernel_rfl) rfl
theorem fld53_4 : FldT Tryz.prog 53 4 50 29 3 := ⟨by kernel_rfl, sz50⟩
theorem sz3 : SizeT Tryz.prog 3 1 := (by unfold SizeT; kernel_rfl)
theorem fld53_1 : FldT Tryz.prog 53 1 3 20 0 := ⟨by kernel_rfl, sz3⟩
theorem one3 : OneT Tryz.prog 3 := ⟨⟨_, Tryz.underlying3, rfl⟩, by kernel_rfl⟩
theorem fld53_2 : FldT Tryz.prog 53 2 50 21 3 := ⟨by kernel_rfl, sz50⟩
theorem sz48 : SizeT Tryz.prog 48 1 := (by unfold SizeT; kernel_rfl)
theorem arr50 : ArrT Tryz.prog 50 4 48 1 := ⟨Tryz.underlying50, sz48⟩
theorem one48 : OneT Tryz.prog 48 := ⟨⟨_, Tryz.underlying48, rfl⟩, by kernel_rfl⟩
theorem agg53 : AggT Tryz.prog 53 35 := ⟨⟨_, Tryz.underlying53, rfl⟩, by kernel_rfl⟩
theorem fok54 : FnOk Tryz.prog 54 := FnOk.mk' Tryz.func54 (by kernel_rfl) rfl
theorem fok56 : FnOk Tryz.prog 56 := FnOk.mk' Tryz.func56 (by kernel_rfl) rfl
theorem fok47 : FnOk Tryz.prog 47 := FnOk.mk' Tryz.func47 (by kernel_rfl) rfl

set_option maxHeartbeats 4000000 in
theorem wrong (w : World) (c : Ch) (e1 : Cs w c.oA (rowN .u8 c.oc)) (e2 : Cs w c.nA (rowN .u8 c.nc)) (d1 : Dg c.oc) (d2 : Dg c.nc) :
    Calls Tryz.prog 75 [.agg c.cells.toArray].toArray w fun e w' => e = .returned (.bool (decide (¬ c.v.may))) ∧ WS w [] [] w' := by
  refine calls_of_T [] 107 [] Tryz.func75 rfl Tryz.ntmps75 (by simp) (WS.refl _ _) ?_
  refine T.seq ?_
  refine T.text [.l, .l] rfl ?_
  refine J.box 1 rfl rfl (c.cells) rfl rfl (fun g1 hg1 => ?_)
  refine J.assign rfl rfl ?_
  refine J.end ?_
  refine X.then ?_
  refine T.seq ?_
  refine T.text [.l, .l, .l] rfl ?_
  refine J.build rfl rfl (W 0) (fun w => by kernel_rfl) ?_
  refine J.alloc 3 rfl zero50 (wc 0) rfl rfl (fun g3 hg3 => ?_)
  refine J.store 3 rfl rfl rfl rfl (wc 0) rfl sz50 (by first | decide | exact Nat.le_refl _ | exact Nat.le_of_ble_eq_true rfl | (simp [rowN]; done) | (simp [rowN]; omega)) (by first | exact rowN_one _ _ | (simp; done) | (intro u hu; simp at hu; subst hu; rfl) | (intro u hu; simp at hu; rcases hu with rfl | rfl <;> rfl)) (by first | decide | exact Nat.zero_lt_succ _ | simp) trivial (wc 0) rfl ?_
  refine J.end ?_
  refine X.then ?_
  refine T.meet (ι := Nat) (fun (qc : Nat) => qc = 1 ↔ (0 < c.oc.length ∨ 0 < c.nc.length)) (fun (qc : Nat) => [(0, .agg c.cells.toArray), (1, .pointer (some ⟨g1, 0, none⟩)), (2, .bool false), (6, (W 0)), (3, .pointer (some ⟨g3, 0, none⟩)), (4, .bool (decide (qc = 1)))]) (fun (qc : Nat) => [(1, ⟨some g1, 53, (c.cells)⟩), (3, ⟨some g3, 50, (wc 0)⟩)]) ?_ ?_
  · -- up to where the ways meet
    refine T.text [.l, .l, .l, .l, .l, .l, .l, .l, .l, .l, .l] rfl ?_
    refine J.fieldAddr fld53_5 rfl rfl ?_
    refine J.load1 (k := .l) trivial 1 rfl rfl one51 (by first | rfl | with_reducible exact rowN_get0 _ _ _ (by omega) | with_reducible exact rowN_get1 _ _ _ (by omega) | with_reducible exact rowN_get1s _ _ _ _ (by omega) | exact rowN_get1 _ _ _ (by omega) | exact rowN_get1s _ _ _ _ (by omega) | exact rowN_get0 _ _ _ (by omega)) rfl ?_
    refine J.lenSl Tryz.underlying51 rfl rfl ?_
    refine J.gtr rfl rfl rfl rfl ?_
    refine J.move rfl rfl ?_
    refine J.split 11 rfl (fun h1 => ?_) (fun h1 => ?_)
    · skip
      refine J.no rfl rfl rfl rfl ?_
      refine J.no rfl rfl rfl rfl ?_
      refine J.no rfl rfl rfl rfl ?_
      refine J.no rfl rfl rfl rfl ?_
      refine J.pick_t rfl rfl rfl ?_
      refine J.assign rfl rfl ?_
      refine J.end ?_
      exact X.at 1 (by omega) (by repeat (first | exact Sub.nil _ | refine Sub.cons (by first | rfl | (rw [dgs_zero]; rfl) | (rw [List.drop_length]; rfl) | (simp; done) | (congr 2; omega) | (congr 3; omega)) ?_)) (by repeat (first | exact Sub.nil _ | refine Sub.cons (by first | rfl | (rw [dgs_zero]; rfl) | (rw [List.drop_length]; rfl) | (simp; done) | (congr 2; omega) | (congr 3; omega)) ?_))
    · skip
      refine J.yes rfl rfl ?_
      refine J.fieldAddr fld53_6 rfl rfl ?_
      refine J.yes rfl rfl ?_
      refine J.load1 (k := .l) trivial 1 rfl rfl one51 (by first | rfl | with_reducible exact rowN_get0 _ _ _ (by omega) | with_reducible exact rowN_get1 _ _ _ (by omega) | with_reducible exact rowN_get1s _ _ _ _ (by omega) | exact rowN_get1 _ _ _ (by omega) | exact rowN_get1s _ _ _ _ (by omega) | exact rowN_get0 _ _ _ (by omega)) rfl ?_
      refine J.yes rfl rfl ?_
      refine J.lenSl Tryz.underlying51 rfl rfl ?_
      refine J.yes rfl rfl ?_
      refine J.gtr rfl rfl rfl rfl ?_
      refine J.pick_f rfl rfl rfl ?_
      refine J.assign rfl rfl ?_
      refine J.end ?_
      refine X.num 4 rfl (fun nq hnq => ?_)
      exact X.at nq (by omega) (by repeat (first | exact Sub.nil _ | refine Sub.cons (by first | rfl | (rw [dgs_zero]; rfl) | (rw [List.drop_length]; rfl) | (simp; done) | (congr 2; omega) | (congr 3; omega)) ?_)) (by repeat (first | exact Sub.nil _ | refine Sub.cons (by first | rfl | (rw [dgs_zero]; rfl) | (rw [List.drop_length]; rfl) | (simp; done) | (congr 2; omega) | (congr 3; omega)) ?_))
  · rintro qc hqc
    refine T.meet (ι := Nat) (fun (qw : Nat) => qw = 1 ↔ (¬ c.old % 2 ^ 256 = 0 ∨ ¬ c.new % 2 ^ 256 = 0)) (fun (qw : Nat) => [(0, .agg c.cells.toArray), (1, .pointer (some ⟨g1, 0, none⟩)), (2, .bool false), (6, (W 0)), (3, .pointer (some ⟨g3, 0, none⟩)), (4, .bool (decide (qc = 1))), (5, .bool (decide (qw = 1)))]) (fun (qw : Nat) => [(1, ⟨some g1, 53, (c.cells)⟩), (3, ⟨some g3, 50, (wc 0)⟩)]) ?_ ?_
    · -- up to where the ways meet
      refine T.text [.l, .l, .l, .l, .l, .l, .l, .l, .l, .l, .l, .l, .l] rfl ?_
      refine J.fieldAddr fld53_3 rfl rfl ?_
      refine J.loadN (k := .l) trivial 1 rfl rfl agg50 (wc c.old) rfl rfl rfl ?_
      refine J.loadN (k := .l) trivial 3 rfl rfl agg50 (wc 0) rfl rfl rfl ?_
      refine J.call0 (k := .l) trivial fok69 rfl rfl (fun w hw => De.words w _ _) ?_
      refine J.neq rfl rfl rfl rfl ?_
      refine J.move rfl rfl ?_
      refine J.split 22 rfl (fun h2 => ?_) (fun h2 => ?_)
      · have hw1 : ¬ c.old % 2 ^ 256 = 0 := fun q => h2 (cmpZ_w0 (x := c.old) q)
        refine J.no rfl rfl rfl rfl ?_
        refine J.no rfl rfl rfl rfl ?_
        refine J.no rfl rfl rfl rfl ?_
        refine J.no rfl rfl rfl rfl ?_
        refine J.no rfl rfl rfl rfl ?_
        refine J.pick_t rfl rfl rfl ?_
        refine J.assign rfl rfl ?_
        refine J.end ?_
        exact X.at 1 (by omega) (by repeat (first | exact Sub.nil _ | refine Sub.cons (by first | rfl | (rw [dgs_zero]; rfl) | (rw [List.drop_length]; rfl) | (simp; done) | (congr 2; omega) | (congr 3; omega)) ?_)) (by repeat (first | exact Sub.nil _ | refine Sub.cons (by first | rfl | (rw [dgs_zero]; rfl) | (rw [List.drop_length]; rfl) | (simp; done) | (congr 2; omega) | (congr 3; omega)) ?_))
      · have hw1 := (cmpZ_0w (x := c.old) h2)
        refine J.yes rfl rfl ?_
        refine J.fieldAddr fld53_4 rfl rfl ?_
        refine J.yes rfl rfl ?_
        refine J.loadN (k := .l) trivial 1 rfl rfl agg50 (wc c.new) rfl rfl rfl ?_
        refine J.yes rfl rfl ?_
        refine J.loadN (k := .l) trivial 3 rfl rfl agg50 (wc 0) rfl rfl rfl ?_
        refine J.yes rfl rfl ?_
        refine J.call0 (k := .l) trivial fok69 rfl rfl (fun w hw => De.words w _ _) ?_
        refine J.yes rfl rfl ?_
        refine J.neq rfl rfl rfl rfl ?_
        refine J.pick_f rfl rfl rfl ?_
        refine J.assign rfl rfl ?_
        refine J.end ?_
        refine X.num 5 rfl (fun nq hnq => ?_)
        exact X.at nq (by rw [cmpZ_iff0] at hnq; omega) (by repeat (first | exact Sub.nil _ | refine Sub.cons (by first | rfl | (rw [dgs_zero]; rfl) | (rw [List.drop_length]; rfl) | (simp; done) | (congr 2; omega) | (congr 3; omega)) ?_)) (by repeat (first | exact Sub.nil _ | refine Sub.cons (by first | rfl | (rw [dgs_zero]; rfl) | (rw [List.drop_length]; rfl) | (simp; done) | (congr 2; omega) | (congr 3; omega)) ?_))
    · rintro qw hqw
      refine T.meet (ι := Unit) (fun (_ : Unit) => (1 ≤ c.kind ∧ c.kind ≤ 4) ∧ (c.key % 2 ^ 256 = 0 ∨ c.kind = 4)) (fun (_ : Unit) => [(0, .agg c.cells.toArray), (1, .pointer (some ⟨g1, 0, none⟩)), (2, .bool false), (6, (W 0)), (3, .pointer (some ⟨g3, 0, none⟩)), (4, .bool (decide (qc = 1))), (5, .bool (decide (qw = 1)))]) (fun (_ : Unit) => [(1, ⟨some g1, 53, (c.cells)⟩), (3, ⟨some g3, 50, (wc 0)⟩)]) ?_ ?_
      · -- up to where the ways meet
        refine T.seq ?_
        refine T.text [.l, .l, .l, .l, .l, .l, .l, .l, .l, .l, .l, .l, .l, .l, .l, .l, .l, .l, .l, .l] rfl ?_
        refine J.fieldAddr fld53_1 rfl rfl ?_
        refine J.load1 (k := .l) trivial 1 rfl rfl one3 (by first | rfl | with_reducible exact rowN_get0 _ _ _ (by omega) | with_reducible exact rowN_get1 _ _ _ (by omega) | with_reducible exact rowN_get1s _ _ _ _ (by omega) | exact rowN_get1 _ _ _ (by omega) | exact rowN_get1s _ _ _ _ (by omega) | exact rowN_get0 _ _ _ (by omega)) rfl ?_
        refine J.lss rfl rfl rfl rfl ?_
        refine J.move rfl rfl ?_
        refine J.split 32 rfl (fun h3 => ?_) (fun h3 => ?_)
        · skip
          refine J.no rfl rfl rfl rfl ?_
          refine J.no rfl rfl rfl rfl ?_
          refine J.no rfl rfl rfl rfl ?_
          refine J.pick_t rfl rfl rfl ?_
          refine J.move rfl rfl ?_
          refine J.no rfl rfl rfl rfl ?_
          refine J.no rfl rfl rfl rfl ?_
          refine J.no rfl rfl rfl rfl ?_
          refine J.no rfl rfl rfl rfl ?_
          refine J.no rfl rfl rfl rfl ?_
          refine J.no rfl rfl rfl rfl ?_
          refine J.noU rfl rfl rfl ?_
          refine J.noU rfl rfl rfl ?_
          refine J.noU rfl rfl rfl ?_
          refine J.no rfl rfl rfl rfl ?_
          refine J.pick_t rfl rfl rfl ?_
          refine J.end ?_
          refine X.then ?_
          refine T.cond_true rfl ?_
          refine T.seq ?_
          refine T.text [.l] rfl ?_
          refine J.assign rfl rfl ?_
          refine J.end ?_
          refine X.then ?_
          refine T.ret ?_
          refine X.then_ret ?_
          exact X.ret1 rfl (RV.tmp rfl) (fun w' hw' => by first | exact ⟨by congr 2; exact (decide_eq_true (by intro q; have q1 := q.1; unfold CV.mayL Ch.v at q1; dsimp only at q1; omega)).symm, hw'.sub (Sub.nil _)⟩ | exact ⟨by congr 2; exact decide_eq_decide.2 ⟨fun q r => r.2 q, fun q => Decidable.not_not.1 (fun r => q ⟨by unfold CV.mayL Ch.v; dsimp only; omega, r⟩)⟩, hw'.sub (Sub.nil _)⟩)
        · skip
          refine J.yes rfl rfl ?_
          refine J.fieldAddr fld53_1 rfl rfl ?_
          refine J.yes rfl rfl ?_
          refine J.load1 (k := .l) trivial 1 rfl rfl one3 (by first | rfl | with_reducible exact rowN_get0 _ _ _ (by omega) | with_reducible exact rowN_get1 _ _ _ (by omega) | with_reducible exact rowN_get1s _ _ _ _ (by omega) | exact rowN_get1 _ _ _ (by omega) | exact rowN_get1s _ _ _ _ (by omega) | exact rowN_get0 _ _ _ (by omega)) rfl ?_
          refine J.yes rfl rfl ?_
          refine J.gtr rfl rfl rfl rfl ?_
          refine J.pick_f rfl rfl rfl ?_
          refine J.move rfl rfl ?_
          refine J.split 37 rfl (fun h4 => ?_) (fun h4 => ?_)
          · skip
            refine J.no rfl rfl rfl rfl ?_
            refine J.no rfl rfl rfl rfl ?_
            refine J.no rfl rfl rfl rfl ?_
            refine J.no rfl rfl rfl rfl ?_
            refine J.no rfl rfl rfl rfl ?_
            refine J.no rfl rfl rfl rfl ?_
            refine J.noU rfl rfl rfl ?_
            refine J.noU rfl rfl rfl ?_
            refine J.noU rfl rfl rfl ?_
            refine J.no rfl rfl rfl rfl ?_
            refine J.pick_t rfl rfl rfl ?_
            refine J.end ?_
            refine X.then ?_
            refine T.cond_true rfl ?_
            refine T.seq ?_
            refine T.text [.l] rfl ?_
            refine J.assign rfl rfl ?_
            refine J.end ?_
            refine X.then ?_
            refine T.ret ?_
            refine X.then_ret ?_
            exact X.ret1 rfl (RV.tmp rfl) (fun w' hw' => by first | exact ⟨by congr 2; exact (decide_eq_true (by intro q; have q1 := q.1; unfold CV.mayL Ch.v at q1; dsimp only at q1; omega)).symm, hw'.sub (Sub.nil _)⟩ | exact ⟨by congr 2; exact decide_eq_decide.2 ⟨fun q r => r.2 q, fun q => Decidable.not_not.1 (fun r => q ⟨by unfold CV.mayL Ch.v; dsimp only; omega, r⟩)⟩, hw'.sub (Sub.nil _)⟩)
          · skip
            refine J.yes rfl rfl ?_
            refine J.fieldAddr fld53_2 rfl rfl ?_
            refine J.yes rfl rfl ?_
            refine J.loadN (k := .l) trivial 1 rfl rfl agg50 (wc c.key) rfl rfl rfl ?_
            refine J.yes rfl rfl ?_
            refine J.loadN (k := .l) trivial 3 rfl rfl agg50 (wc 0) rfl rfl rfl ?_
            refine J.yes rfl rfl ?_
            refine J.call0 (k := .l) trivial fok69 rfl rfl (fun w hw => De.words w _ _) ?_
            refine J.yes rfl rfl ?_
            refine J.neq rfl rfl rfl rfl ?_
            refine J.yes rfl rfl ?_
            refine J.move rfl rfl ?_
            refine J.split 43 rfl (fun h5 => ?_) (fun h5 => ?_)
            · have hk : ¬ c.key % 2 ^ 256 = 0 := fun q => h5 (cmpZ_w0 (x := c.key) q)
              refine J.yes rfl rfl ?_
              refine J.fieldAddr fld53_1 rfl rfl ?_
              refine J.yes rfl rfl ?_
              refine J.load1 (k := .l) trivial 1 rfl rfl one3 (by first | rfl | with_reducible exact rowN_get0 _ _ _ (by omega) | with_reducible exact rowN_get1 _ _ _ (by omega) | with_reducible exact rowN_get1s _ _ _ _ (by omega) | exact rowN_get1 _ _ _ (by omega) | exact rowN_get1s _ _ _ _ (by omega) | exact rowN_get0 _ _ _ (by omega)) rfl ?_
              refine J.yes rfl rfl ?_
              refine J.neq rfl rfl rfl rfl ?_
              refine J.yes rfl rfl ?_
              refine J.pick_t rfl rfl rfl ?_
              refine J.pick_f rfl rfl rfl ?_
              refine J.end ?_
              refine X.then ?_
              refine T.cond_dec rfl (fun h6 => ?_) (fun h6 => ?_)
              · skip
                refine T.seq ?_
                refine T.text [.l] rfl ?_
                refine J.assign rfl rfl ?_
                refine J.end ?_
                refine X.then ?_
                refine T.ret ?_
                refine X.then_ret ?_
                exact X.ret1 rfl (RV.tmp rfl) (fun w' hw' => by first | exact ⟨by congr 2; exact (decide_eq_true (by intro q; have q1 := q.1; unfold CV.mayL Ch.v at q1; dsimp only at q1; omega)).symm, hw'.sub (Sub.nil _)⟩ | exact ⟨by congr 2; exact decide_eq_decide.2 ⟨fun q r => r.2 q, fun q => Decidable.not_not.1 (fun r => q ⟨by unfold CV.mayL Ch.v; dsimp only; omega, r⟩)⟩, hw'.sub (Sub.nil _)⟩)
              · skip
                refine T.skip ?_
                exact X.at () (by omega) (by repeat (first | exact Sub.nil _ | refine Sub.cons (by first | rfl | (rw [dgs_zero]; rfl) | (rw [List.drop_length]; rfl) | (simp; done) | (congr 2; omega) | (congr 3; omega)) ?_)) (by repeat (first | exact Sub.nil _ | refine Sub.cons (by first | rfl | (rw [dgs_zero]; rfl) | (rw [List.drop_length]; rfl) | (simp; done) | (congr 2; omega) | (congr 3; omega)) ?_))
            · have hk := (cmpZ_0w (x := c.key) h5)
              refine J.no rfl rfl rfl rfl ?_
              refine J.no rfl rfl rfl rfl ?_
              refine J.no rfl rfl rfl rfl ?_
              refine J.yes rfl rfl ?_
              refine J.pick_f rfl rfl rfl ?_
              refine J.pick_f rfl rfl rfl ?_
              refine J.end ?_
              refine X.then ?_
              refine T.cond_false rfl ?_
              refine T.skip ?_
              exact X.at () (by omega) (by repeat (first | exact Sub.nil _ | refine Sub.cons (by first | rfl | (rw [dgs_zero]; rfl) | (rw [List.drop_length]; rfl) | (simp; done) | (congr 2; omega) | (congr 3; omega)) ?_)) (by repeat (first | exact Sub.nil _ | refine Sub.cons (by first | rfl | (rw [dgs_zero]; rfl) | (rw [List.drop_length]; rfl) | (simp; done) | (congr 2; omega) | (congr 3; omega)) ?_))
      · rintro _ ⟨⟨hk1, hk4⟩, hky⟩
        refine T.meet (ι := Unit) (fun (_ : Unit) => (c.kind = 3 → qw ≠ 1) ∧ (qc = 1 → c.kind = 3)) (fun (_ : Unit) => [(0, .agg c.cells.toArray), (1, .pointer (some ⟨g1, 0, none⟩)), (2, .bool false), (6, (W 0)), (3, .pointer (some ⟨g3, 0, none⟩)), (4, .bool (decide (qc = 1))), (5, .bool (decide (qw = 1)))]) (fun (_ : Unit) => [(1, ⟨some g1, 53, (c.cells)⟩), (3, ⟨some g3, 50, (wc 0)⟩)]) ?_ ?_
        · -- up to where the ways meet
          refine T.seq ?_
          refine T.text [.l, .l, .l, .l, .l, .l, .l, .l, .l, .l, .l, .l, .l, .l] rfl ?_
          refine J.move rfl rfl ?_
          refine J.move rfl rfl ?_
          refine J.split 50 rfl (fun h7 => ?_) (fun h7 => ?_)
          · skip
            refine J.yes rfl rfl ?_
            refine J.fieldAddr fld53_1 rfl rfl ?_
            refine J.yes rfl rfl ?_
            refine J.load1 (k := .l) trivial 1 rfl rfl one3 (by first | rfl | with_reducible exact rowN_get0 _ _ _ (by omega) | with_reducible exact rowN_get1 _ _ _ (by omega) | with_reducible exact rowN_get1s _ _ _ _ (by omega) | exact rowN_get1 _ _ _ (by omega) | exact rowN_get1s _ _ _ _ (by omega) | exact rowN_get0 _ _ _ (by omega)) rfl ?_
            refine J.yes rfl rfl ?_
            refine J.eql rfl rfl rfl rfl ?_
            refine J.pick_t rfl rfl rfl ?_
            refine J.move rfl rfl ?_
            refine J.split 55 rfl (fun h8 => ?_) (fun h8 => ?_)
            · skip
              refine J.no rfl rfl rfl rfl ?_
              refine J.no rfl rfl rfl rfl ?_
              refine J.noU rfl rfl rfl ?_
              refine J.noU rfl rfl rfl ?_
              refine J.noU rfl rfl rfl ?_
              refine J.no rfl rfl rfl rfl ?_
              refine J.pick_t rfl rfl rfl ?_
              refine J.end ?_
              refine X.then ?_
              refine T.cond_true rfl ?_
              refine T.seq ?_
              refine T.text [.l] rfl ?_
              refine J.assign rfl rfl ?_
              refine J.end ?_
              refine X.then ?_
              refine T.ret ?_
              refine X.then_ret ?_
              exact X.ret1 rfl (RV.tmp rfl) (fun w' hw' => by first | exact ⟨by congr 2; exact (decide_eq_true (by intro q; have q1 := q.1; unfold CV.mayL Ch.v at q1; dsimp only at q1; omega)).symm, hw'.sub (Sub.nil _)⟩ | exact ⟨by congr 2; exact decide_eq_decide.2 ⟨fun q r => r.2 q, fun q => Decidable.not_not.1 (fun r => q ⟨by unfold CV.mayL Ch.v; dsimp only; omega, r⟩)⟩, hw'.sub (Sub.nil _)⟩)
            · skip
              refine J.yes rfl rfl ?_
              refine J.move rfl rfl ?_
              refine J.yes rfl rfl ?_
              refine J.move rfl rfl ?_
              refine J.split 57 rfl (fun h9 => ?_) (fun h9 => ?_)
              · skip
                refine J.yes rfl rfl ?_
                refine J.fieldAddr fld53_1 rfl rfl ?_
                refine J.yes rfl rfl ?_
                refine J.load1 (k := .l) trivial 1 rfl rfl one3 (by first | rfl | with_reducible exact rowN_get0 _ _ _ (by omega) | with_reducible exact rowN_get1 _ _ _ (by omega) | with_reducible exact rowN_get1s _ _ _ _ (by omega) | exact rowN_get1 _ _ _ (by omega) | exact rowN_get1s _ _ _ _ (by omega) | exact rowN_get0 _ _ _ (by omega)) rfl ?_
                refine J.yes rfl rfl ?_
                refine J.neq rfl rfl rfl rfl ?_
                refine J.yes rfl rfl ?_
                refine J.pick_t rfl rfl rfl ?_
                refine J.pick_f rfl rfl rfl ?_
                refine J.end ?_
                refine X.then ?_
                refine T.cond_dec rfl (fun h10 => ?_) (fun h10 => ?_)
                · skip
                  refine T.seq ?_
                  refine T.text [.l] rfl ?_
                  refine J.assign rfl rfl ?_
                  refine J.end ?_
                  refine X.then ?_
                  refine T.ret ?_
                  refine X.then_ret ?_
                  exact X.ret1 rfl (RV.tmp rfl) (fun w' hw' => by first | exact ⟨by congr 2; exact (decide_eq_true (by intro q; have q1 := q.1; unfold CV.mayL Ch.v at q1; dsimp only at q1; omega)).symm, hw'.sub (Sub.nil _)⟩ | exact ⟨by congr 2; exact decide_eq_decide.2 ⟨fun q r => r.2 q, fun q => Decidable.not_not.1 (fun r => q ⟨by unfold CV.mayL Ch.v; dsimp only; omega, r⟩)⟩, hw'.sub (Sub.nil _)⟩)
                · skip
                  refine T.skip ?_
                  exact X.at () (by omega) (by repeat (first | exact Sub.nil _ | refine Sub.cons (by first | rfl | (rw [dgs_zero]; rfl) | (rw [List.drop_length]; rfl) | (simp; done) | (congr 2; omega) | (congr 3; omega)) ?_)) (by repeat (first | exact Sub.nil _ | refine Sub.cons (by first | rfl | (rw [dgs_zero]; rfl) | (rw [List.drop_length]; rfl) | (simp; done) | (congr 2; omega) | (congr 3; omega)) ?_))
              · skip
                refine J.no rfl rfl rfl rfl ?_
                refine J.no rfl rfl rfl rfl ?_
                refine J.no rfl rfl rfl rfl ?_
                refine J.yes rfl rfl ?_
                refine J.pick_f rfl rfl rfl ?_
                refine J.pick_f rfl rfl rfl ?_
                refine J.end ?_
                refine X.then ?_
                refine T.cond_false rfl ?_
                refine T.skip ?_
                exact X.at () (by omega) (by repeat (first | exact Sub.nil _ | refine Sub.cons (by first | rfl | (rw [dgs_zero]; rfl) | (rw [List.drop_length]; rfl) | (simp; done) | (congr 2; omega) | (congr 3; omega)) ?_)) (by repeat (first | exact Sub.nil _ | refine Sub.cons (by first | rfl | (rw [dgs_zero]; rfl) | (rw [List.drop_length]; rfl) | (simp; done) | (congr 2; omega) | (congr 3; omega)) ?_))
          · skip
            refine J.no rfl rfl rfl rfl ?_
            refine J.no rfl rfl rfl rfl ?_
            refine J.no rfl rfl rfl rfl ?_
            refine J.pick_f rfl rfl rfl ?_
            refine J.move rfl rfl ?_
            refine J.yes rfl rfl ?_
            refine J.move rfl rfl ?_
            refine J.yes rfl rfl ?_
            refine J.move rfl rfl ?_
            refine J.split 57 rfl (fun h11 => ?_) (fun h11 => ?_)
            · skip
              refine J.yes rfl rfl ?_
              refine J.fieldAddr fld53_1 rfl rfl ?_
              refine J.yes rfl rfl ?_
              refine J.load1 (k := .l) trivial 1 rfl rfl one3 (by first | rfl | with_reducible exact rowN_get0 _ _ _ (by omega) | with_reducible exact rowN_get1 _ _ _ (by omega) | with_reducible exact rowN_get1s _ _ _ _ (by omega) | exact rowN_get1 _ _ _ (by omega) | exact rowN_get1s _ _ _ _ (by omega) | exact rowN_get0 _ _ _ (by omega)) rfl ?_
              refine J.yes rfl rfl ?_
              refine J.neq rfl rfl rfl rfl ?_
              refine J.yes rfl rfl ?_
              refine J.pick_t rfl rfl rfl ?_
              refine J.pick_f rfl rfl rfl ?_
              refine J.end ?_
              refine X.then ?_
              refine T.cond_dec rfl (fun h12 => ?_) (fun h12 => ?_)
              · skip
                refine T.seq ?_
                refine T.text [.l] rfl ?_
                refine J.assign rfl rfl ?_
                refine J.end ?_
                refine X.then ?_
                refine T.ret ?_
                refine X.then_ret ?_
                exact X.ret1 rfl (RV.tmp rfl) (fun w' hw' => by first | exact ⟨by congr 2; exact (decide_eq_true (by intro q; have q1 := q.1; unfold CV.mayL Ch.v at q1; dsimp only at q1; omega)).symm, hw'.sub (Sub.nil _)⟩ | exact ⟨by congr 2; exact decide_eq_decide.2 ⟨fun q r => r.2 q, fun q => Decidable.not_not.1 (fun r => q ⟨by unfold CV.mayL Ch.v; dsimp only; omega, r⟩)⟩, hw'.sub (Sub.nil _)⟩)
              · skip
                refine T.skip ?_
                exact X.at () (by omega) (by repeat (first | exact Sub.nil _ | refine Sub.cons (by first | rfl | (rw [dgs_zero]; rfl) | (rw [List.drop_length]; rfl) | (simp; done) | (congr 2; omega) | (congr 3; omega)) ?_)) (by repeat (first | exact Sub.nil _ | refine Sub.cons (by first | rfl | (rw [dgs_zero]; rfl) | (rw [List.drop_length]; rfl) | (simp; done) | (congr 2; omega) | (congr 3; omega)) ?_))
            · skip
              refine J.no rfl rfl rfl rfl ?_
              refine J.no rfl rfl rfl rfl ?_
              refine J.no rfl rfl rfl rfl ?_
              refine J.yes rfl rfl ?_
              refine J.pick_f rfl rfl rfl ?_
              refine J.pick_f rfl rfl rfl ?_
              refine J.end ?_
              refine X.then ?_
              refine T.cond_false rfl ?_
              refine T.skip ?_
              exact X.at () (by omega) (by repeat (first | exact Sub.nil _ | refine Sub.cons (by first | rfl | (rw [dgs_zero]; rfl) | (rw [List.drop_length]; rfl) | (simp; done) | (congr 2; omega) | (congr 3; omega)) ?_)) (by repeat (first | exact Sub.nil _ | refine Sub.cons (by first | rfl | (rw [dgs_zero]; rfl) | (rw [List.drop_length]; rfl) | (simp; done) | (congr 2; omega) | (congr 3; omega)) ?_))
        · rintro _ ⟨hq3, hqk⟩
          refine T.meet (ι := Unit) (fun (_ : Unit) => c.kind = 1 → c.old % 2 ^ 256 < 2 ^ 64 ∧ c.new % 2 ^ 256 < 2 ^ 64) (fun (_ : Unit) => [(0, .agg c.cells.toArray), (1, .pointer (some ⟨g1, 0, none⟩)), (2, .bool false), (6, (W 0)), (3, .pointer (some ⟨g3, 0, none⟩)), (4, .bool (decide (qc = 1))), (5, .bool (decide (qw = 1)))]) (fun (_ : Unit) => [(1, ⟨some g1, 53, (c.cells)⟩), (3, ⟨some g3, 50, (wc 0)⟩)]) ?_ ?_
          · -- up to where the ways meet
            refine T.seq ?_
            refine T.text [.l, .l, .l, .l, .l, .l, .l, .l, .l, .l, .l, .l, .l, .l, .l, .l, .l, .l, .l, .l, .l, .l, .l, .l, .l, .l, .l, .l, .l, .l, .l, .l, .l, .l, .l, .l, .l, .l, .l] rfl ?_
            refine J.fieldAddr fld53_1 rfl rfl ?_
            refine J.load1 (k := .l) trivial 1 rfl rfl one3 (by first | rfl | with_reducible exact rowN_get0 _ _ _ (by omega) | with_reducible exact rowN_get1 _ _ _ (by omega) | with_reducible exact rowN_get1s _ _ _ _ (by omega) | exact rowN_get1 _ _ _ (by omega) | exact rowN_get1s _ _ _ _ (by omega) | exact rowN_get0 _ _ _ (by omega)) rfl ?_
            refine J.eql rfl rfl rfl rfl ?_
            refine J.move rfl rfl ?_
            refine J.split 66 rfl (fun h13 => ?_) (fun h13 => ?_)
            · skip
              refine J.yes rfl rfl ?_
              refine J.fieldAddr fld53_3 rfl rfl ?_
              refine J.yes rfl rfl ?_
              refine J.indexArr arr50 rfl rfl (by omega) (by omega) (by rfl) rfl ?_
              refine J.yes rfl rfl ?_
              refine J.load1 (k := .l) trivial 1 rfl rfl one48 (wc_cell c.old 1 (by decide)) rfl ?_
              refine J.yes rfl rfl ?_
              refine J.neq rfl rfl rfl rfl ?_
              refine J.yes rfl rfl ?_
              refine J.move rfl rfl ?_
              refine J.split 71 rfl (fun h14 => ?_) (fun h14 => ?_)
              · have hbig := lim_big (x := c.old) (k := 1) (by omega) (by omega) (by omega)
                refine J.no rfl rfl rfl rfl ?_
                refine J.no rfl rfl rfl rfl ?_
                refine J.no rfl rfl rfl rfl ?_
                refine J.no rfl rfl rfl rfl ?_
                refine J.yes rfl rfl ?_
                refine J.pick_t rfl rfl rfl ?_
                refine J.yes rfl rfl ?_
                refine J.move rfl rfl ?_
                refine J.no rfl rfl rfl rfl ?_
                refine J.no rfl rfl rfl rfl ?_
                refine J.no rfl rfl rfl rfl ?_
                refine J.no rfl rfl rfl rfl ?_
                refine J.yes rfl rfl ?_
                refine J.pick_t rfl rfl rfl ?_
                refine J.yes rfl rfl ?_
                refine J.move rfl rfl ?_
                refine J.no rfl rfl rfl rfl ?_
                refine J.no rfl rfl rfl rfl ?_
                refine J.no rfl rfl rfl rfl ?_
                refine J.no rfl rfl rfl rfl ?_
                refine J.yes rfl rfl ?_
                refine J.pick_t rfl rfl rfl ?_
                refine J.yes rfl rfl ?_
                refine J.move rfl rfl ?_
                refine J.no rfl rfl rfl rfl ?_
                refine J.no rfl rfl rfl rfl ?_
                refine J.no rfl rfl rfl rfl ?_
                refine J.no rfl rfl rfl rfl ?_
                refine J.yes rfl rfl ?_
                refine J.pick_t rfl rfl rfl ?_
                refine J.yes rfl rfl ?_
                refine J.move rfl rfl ?_
                refine J.no rfl rfl rfl rfl ?_
                refine J.no rfl rfl rfl rfl ?_
                refine J.no rfl rfl rfl rfl ?_
                refine J.no rfl rfl rfl rfl ?_
                refine J.yes rfl rfl ?_
                refine J.pick_t rfl rfl rfl ?_
                refine J.pick_t rfl rfl rfl ?_
                refine J.end ?_
                refine X.then ?_
                refine T.cond_true rfl ?_
                refine T.seq ?_
                refine T.text [.l] rfl ?_
                refine J.assign rfl rfl ?_
                refine J.end ?_
                refine X.then ?_
                refine T.ret ?_
                refine X.then_ret ?_
                exact X.ret1 rfl (RV.tmp rfl) (fun w' hw' => by first | exact ⟨by congr 2; exact (decide_eq_true (by intro q; have q1 := q.1; unfold CV.mayL Ch.v at q1; dsimp only at q1; omega)).symm, hw'.sub (Sub.nil _)⟩ | exact ⟨by congr 2; exact decide_eq_decide.2 ⟨fun q r => r.2 q, fun q => Decidable.not_not.1 (fun r => q ⟨by unfold CV.mayL Ch.v; dsimp only; omega, r⟩)⟩, hw'.sub (Sub.nil _)⟩)
              · skip
                refine J.yes rfl rfl ?_
                refine J.fieldAddr fld53_3 rfl rfl ?_
                refine J.yes rfl rfl ?_
                refine J.indexArr arr50 rfl rfl (by omega) (by omega) (by rfl) rfl ?_
                refine J.yes rfl rfl ?_
                refine J.load1 (k := .l) trivial 1 rfl rfl one48 (wc_cell c.old 2 (by decide)) rfl ?_
                refine J.yes rfl rfl ?_
                refine J.neq rfl rfl rfl rfl ?_
                refine J.yes rfl rfl ?_
                refine J.pick_f rfl rfl rfl ?_
                refine J.yes rfl rfl ?_
                refine J.move rfl rfl ?_
                refine J.split 77 rfl (fun h15 => ?_) (fun h15 => ?_)
                · have hbig := lim_big (x := c.old) (k := 2) (by omega) (by omega) (by omega)
                  refine J.no rfl rfl rfl rfl ?_
                  refine J.no rfl rfl rfl rfl ?_
                  refine J.no rfl rfl rfl rfl ?_
                  refine J.no rfl rfl rfl rfl ?_
                  refine J.yes rfl rfl ?_
                  refine J.pick_t rfl rfl rfl ?_
                  refine J.yes rfl rfl ?_
                  refine J.move rfl rfl ?_
                  refine J.no rfl rfl rfl rfl ?_
                  refine J.no rfl rfl rfl rfl ?_
                  refine J.no rfl rfl rfl rfl ?_
                  refine J.no rfl rfl rfl rfl ?_
                  refine J.yes rfl rfl ?_
                  refine J.pick_t rfl rfl rfl ?_
                  refine J.yes rfl rfl ?_
                  refine J.move rfl rfl ?_
                  refine J.no rfl rfl rfl rfl ?_
                  refine J.no rfl rfl rfl rfl ?_
                  refine J.no rfl rfl rfl rfl ?_
                  refine J.no rfl rfl rfl rfl ?_
                  refine J.yes rfl rfl ?_
                  refine J.pick_t rfl rfl rfl ?_
                  refine J.yes rfl rfl ?_
                  refine J.move rfl rfl ?_
                  refine J.no rfl rfl rfl rfl ?_
                  refine J.no rfl rfl rfl rfl ?_
                  refine J.no rfl rfl rfl rfl ?_
                  refine J.no rfl rfl rfl rfl ?_
                  refine J.yes rfl rfl ?_
                  refine J.pick_t rfl rfl rfl ?_
                  refine J.pick_t rfl rfl rfl ?_
                  refine J.end ?_
                  refine X.then ?_
                  refine T.cond_true rfl ?_
                  refine T.seq ?_
                  refine T.text [.l] rfl ?_
                  refine J.assign rfl rfl ?_
                  refine J.end ?_
                  refine X.then ?_
                  refine T.ret ?_
                  refine X.then_ret ?_
                  exact X.ret1 rfl (RV.tmp rfl) (fun w' hw' => by first | exact ⟨by congr 2; exact (decide_eq_true (by intro q; have q1 := q.1; unfold CV.mayL Ch.v at q1; dsimp only at q1; omega)).symm, hw'.sub (Sub.nil _)⟩ | exact ⟨by congr 2; exact decide_eq_decide.2 ⟨fun q r => r.2 q, fun q => Decidable.not_not.1 (fun r => q ⟨by unfold CV.mayL Ch.v; dsimp only; omega, r⟩)⟩, hw'.sub (Sub.nil _)⟩)
                · skip
                  refine J.yes rfl rfl ?_
                  refine J.fieldAddr fld53_3 rfl rfl ?_
                  refine J.yes rfl rfl ?_
                  refine J.indexArr arr50 rfl rfl (by omega) (by omega) (by rfl) rfl ?_
                  refine J.yes rfl rfl ?_
                  refine J.load1 (k := .l) trivial 1 rfl rfl one48 (wc_cell c.old 3 (by decide)) rfl ?_
                  refine J.yes rfl rfl ?_
                  refine J.neq rfl rfl rfl rfl ?_
                  refine J.yes rfl rfl ?_
                  refine J.pick_f rfl rfl rfl ?_
                  refine J.yes rfl rfl ?_
                  refine J.move rfl rfl ?_
                  refine J.split 83 rfl (fun h16 => ?_) (fun h16 => ?_)
                  · have hbig := lim_big (x := c.old) (k := 3) (by omega) (by omega) (by omega)
                    refine J.no rfl rfl rfl rfl ?_
                    refine J.no rfl rfl rfl rfl ?_
                    refine J.no rfl rfl rfl rfl ?_
                    refine J.no rfl rfl rfl rfl ?_
                    refine J.yes rfl rfl ?_
                    refine J.pick_t rfl rfl rfl ?_
                    refine J.yes rfl rfl ?_
                    refine J.move rfl rfl ?_
                    refine J.no rfl rfl rfl rfl ?_
                    refine J.no rfl rfl rfl rfl ?_
                    refine J.no rfl rfl rfl rfl ?_
                    refine J.no rfl rfl rfl rfl ?_
                    refine J.yes rfl rfl ?_
                    refine J.pick_t rfl rfl rfl ?_
                    refine J.yes rfl rfl ?_
                    refine J.move rfl rfl ?_
                    refine J.no rfl rfl rfl rfl ?_
                    refine J.no rfl rfl rfl rfl ?_
                    refine J.no rfl rfl rfl rfl ?_
                    refine J.no rfl rfl rfl rfl ?_
                    refine J.yes rfl rfl ?_
                    refine J.pick_t rfl rfl rfl ?_
                    refine J.pick_t rfl rfl rfl ?_
                    refine J.end ?_
                    refine X.then ?_
                    refine T.cond_true rfl ?_
                    refine T.seq ?_
                    refine T.text [.l] rfl ?_
                    refine J.assign rfl rfl ?_
                    refine J.end ?_
                    refine X.then ?_
                    refine T.ret ?_
                    refine X.then_ret ?_
                    exact X.ret1 rfl (RV.tmp rfl) (fun w' hw' => by first | exact ⟨by congr 2; exact (decide_eq_true (by intro q; have q1 := q.1; unfold CV.mayL Ch.v at q1; dsimp only at q1; omega)).symm, hw'.sub (Sub.nil _)⟩ | exact ⟨by congr 2; exact decide_eq_decide.2 ⟨fun q r => r.2 q, fun q => Decidable.not_not.1 (fun r => q ⟨by unfold CV.mayL Ch.v; dsimp only; omega, r⟩)⟩, hw'.sub (Sub.nil _)⟩)
                  · skip
                    refine J.yes rfl rfl ?_
                    refine J.fieldAddr fld53_4 rfl rfl ?_
                    refine J.yes rfl rfl ?_
                    refine J.indexArr arr50 rfl rfl (by omega) (by omega) (by rfl) rfl ?_
                    refine J.yes rfl rfl ?_
                    refine J.load1 (k := .l) trivial 1 rfl rfl one48 (wc_cell c.new 1 (by decide)) rfl ?_
                    refine J.yes rfl rfl ?_
                    refine J.neq rfl rfl rfl rfl ?_
                    refine J.yes rfl rfl ?_
                    refine J.pick_f rfl rfl rfl ?_
                    refine J.yes rfl rfl ?_
                    refine J.move rfl rfl ?_
                    refine J.split 89 rfl (fun h17 => ?_) (fun h17 => ?_)
                    · have hbig := lim_big (x := c.new) (k := 1) (by omega) (by omega) (by omega)
                      refine J.no rfl rfl rfl rfl ?_
                      refine J.no rfl rfl rfl rfl ?_
                      refine J.no rfl rfl rfl rfl ?_
                      refine J.no rfl rfl rfl rfl ?_
                      refine J.yes rfl rfl ?_
                      refine J.pick_t rfl rfl rfl ?_
                      refine J.yes rfl rfl ?_
                      refine J.move rfl rfl ?_
                      refine J.no rfl rfl rfl rfl ?_
                      refine J.no rfl rfl rfl rfl ?_
                      refine J.no rfl rfl rfl rfl ?_
                      refine J.no rfl rfl rfl rfl ?_
                      refine J.yes rfl rfl ?_
                      refine J.pick_t rfl rfl rfl ?_
                      refine J.pick_t rfl rfl rfl ?_
                      refine J.end ?_
                      refine X.then ?_
                      refine T.cond_true rfl ?_
                      refine T.seq ?_
                      refine T.text [.l] rfl ?_
                      refine J.assign rfl rfl ?_
                      refine J.end ?_
                      refine X.then ?_
                      refine T.ret ?_
                      refine X.then_ret ?_
                      exact X.ret1 rfl (RV.tmp rfl) (fun w' hw' => by first | exact ⟨by congr 2; exact (decide_eq_true (by intro q; have q1 := q.1; unfold CV.mayL Ch.v at q1; dsimp only at q1; omega)).symm, hw'.sub (Sub.nil _)⟩ | exact ⟨by congr 2; exact decide_eq_decide.2 ⟨fun q r => r.2 q, fun q => Decidable.not_not.1 (fun r => q ⟨by unfold CV.mayL Ch.v; dsimp only; omega, r⟩)⟩, hw'.sub (Sub.nil _)⟩)
                    · skip
                      refine J.yes rfl rfl ?_
                      refine J.fieldAddr fld53_4 rfl rfl ?_
                      refine J.yes rfl rfl ?_
                      refine J.indexArr arr50 rfl rfl (by omega) (by omega) (by rfl) rfl ?_
                      refine J.yes rfl rfl ?_
                      refine J.load1 (k := .l) trivial 1 rfl rfl one48 (wc_cell c.new 2 (by decide)) rfl ?_
                      refine J.yes rfl rfl ?_
                      refine J.neq rfl rfl rfl rfl ?_
                      refine J.yes rfl rfl ?_
                      refine J.pick_f rfl rfl rfl ?_
                      refine J.yes rfl rfl ?_
                      refine J.move rfl rfl ?_
                      refine J.split 95 rfl (fun h18 => ?_) (fun h18 => ?_)
                      · have hbig := lim_big (x := c.new) (k := 2) (by omega) (by omega) (by omega)
                        refine J.no rfl rfl rfl rfl ?_
                        refine J.no rfl rfl rfl rfl ?_
                        refine J.no rfl rfl rfl rfl ?_
                        refine J.no rfl rfl rfl rfl ?_
                        refine J.yes rfl rfl ?_
                        refine J.pick_t rfl rfl rfl ?_
                        refine J.pick_t rfl rfl rfl ?_
                        refine J.end ?_
                        refine X.then ?_
                        refine T.cond_true rfl ?_
                        refine T.seq ?_
                        refine T.text [.l] rfl ?_
                        refine J.assign rfl rfl ?_
                        refine J.end ?_
                        refine X.then ?_
                        refine T.ret ?_
                        refine X.then_ret ?_
                        exact X.ret1 rfl (RV.tmp rfl) (fun w' hw' => by first | exact ⟨by congr 2; exact (decide_eq_true (by intro q; have q1 := q.1; unfold CV.mayL Ch.v at q1; dsimp only at q1; omega)).symm, hw'.sub (Sub.nil _)⟩ | exact ⟨by congr 2; exact decide_eq_decide.2 ⟨fun q r => r.2 q, fun q => Decidable.not_not.1 (fun r => q ⟨by unfold CV.mayL Ch.v; dsimp only; omega, r⟩)⟩, hw'.sub (Sub.nil _)⟩)
                      · skip
                        refine J.yes rfl rfl ?_
                        refine J.fieldAddr fld53_4 rfl rfl ?_
                        refine J.yes rfl rfl ?_
                        refine J.indexArr arr50 rfl rfl (by omega) (by omega) (by rfl) rfl ?_
                        refine J.yes rfl rfl ?_
                        refine J.load1 (k := .l) trivial 1 rfl rfl one48 (wc_cell c.new 3 (by decide)) rfl ?_
                        refine J.yes rfl rfl ?_
                        refine J.neq rfl rfl rfl rfl ?_
                        refine J.yes rfl rfl ?_
                        refine J.pick_f rfl rfl rfl ?_
                        refine J.pick_t rfl rfl rfl ?_
                        refine J.end ?_
                        refine X.then ?_
                        refine T.cond_dec rfl (fun h19 => ?_) (fun h19 => ?_)
                        · have hbig := lim_big (x := c.new) (k := 3) (by omega) (by omega) (by omega)
                          refine T.seq ?_
                          refine T.text [.l] rfl ?_
                          refine J.assign rfl rfl ?_
                          refine J.end ?_
                          refine X.then ?_
                          refine T.ret ?_
                          refine X.then_ret ?_
                          exact X.ret1 rfl (RV.tmp rfl) (fun w' hw' => by first | exact ⟨by congr 2; exact (decide_eq_true (by intro q; have q1 := q.1; unfold CV.mayL Ch.v at q1; dsimp only at q1; omega)).symm, hw'.sub (Sub.nil _)⟩ | exact ⟨by congr 2; exact decide_eq_decide.2 ⟨fun q r => r.2 q, fun q => Decidable.not_not.1 (fun r => q ⟨by unfold CV.mayL Ch.v; dsimp only; omega, r⟩)⟩, hw'.sub (Sub.nil _)⟩)
                        · skip
                          refine T.skip ?_
                          exact X.at () (by first | (intro q; omega) | (intro _; exact ⟨lim_small64 (by omega) (by omega) (by omega), lim_small64 (by omega) (by omega) (by omega)⟩)) (by repeat (first | exact Sub.nil _ | refine Sub.cons (by first | rfl | (rw [dgs_zero]; rfl) | (rw [List.drop_length]; rfl) | (simp; done) | (congr 2; omega) | (congr 3; omega)) ?_)) (by repeat (first | exact Sub.nil _ | refine Sub.cons (by first | rfl | (rw [dgs_zero]; rfl) | (rw [List.drop_length]; rfl) | (simp; done) | (congr 2; omega) | (congr 3; omega)) ?_))
            · skip
              refine J.no rfl rfl rfl rfl ?_
              refine J.no rfl rfl rfl rfl ?_
              refine J.no rfl rfl rfl rfl ?_
              refine J.no rfl rfl rfl rfl ?_
              refine J.no rfl rfl rfl rfl ?_
              refine J.noU rfl rfl rfl ?_
              refine J.noU rfl rfl rfl ?_
              refine J.noU rfl rfl rfl ?_
              refine J.noU rfl rfl rfl ?_
              refine J.no rfl rfl rfl rfl ?_
              refine J.no rfl rfl rfl rfl ?_
              refine J.noU rfl rfl rfl ?_
              refine J.noU rfl rfl rfl ?_
              refine J.noU rfl rfl rfl ?_
              refine J.noU rfl rfl rfl ?_
              refine J.no rfl rfl rfl rfl ?_
              refine J.no rfl rfl rfl rfl ?_
              refine J.noU rfl rfl rfl ?_
              refine J.noU rfl rfl rfl ?_
              refine J.noU rfl rfl rfl ?_
              refine J.noU rfl rfl rfl ?_
              refine J.no rfl rfl rfl rfl ?_
              refine J.no rfl rfl rfl rfl ?_
              refine J.noU rfl rfl rfl ?_
              refine J.noU rfl rfl rfl ?_
              refine J.noU rfl rfl rfl ?_
              refine J.noU rfl rfl rfl ?_
              refine J.no rfl rfl rfl rfl ?_
              refine J.no rfl rfl rfl rfl ?_
              refine J.noU rfl rfl rfl ?_
              refine J.noU rfl rfl rfl ?_
              refine J.noU rfl rfl rfl ?_
              refine J.noU rfl rfl rfl ?_
              refine J.no rfl rfl rfl rfl ?_
              refine J.pick_f rfl rfl rfl ?_
              refine J.end ?_
              refine X.then ?_
              refine T.cond_false rfl ?_
              refine T.skip ?_
              exact X.at () (by first | (intro q; omega) | (intro _; exact ⟨lim_small64 (by omega) (by omega) (by omega), lim_small64 (by omega) (by omega) (by omega)⟩)) (by repeat (first | exact Sub.nil _ | refine Sub.cons (by first | rfl | (rw [dgs_zero]; rfl) | (rw [List.drop_length]; rfl) | (simp; done) | (congr 2; omega) | (congr 3; omega)) ?_)) (by repeat (first | exact Sub.nil _ | refine Sub.cons (by first | rfl | (rw [dgs_zero]; rfl) | (rw [List.drop_length]; rfl) | (simp; done) | (congr 2; omega) | (congr 3; omega)) ?_))
          · rintro _ hsm
            refine T.seq ?_
            refine T.draw [] [(0, .q), (1, .q), (2, .q), (3, .q), (4, .q), (5, .g)] (by kernel_rfl) (by kernel_rfl) ?_ (by repeat (first | exact Sub.nil _ | refine Sub.cons (by first | rfl | (rw [dgs_zero]; rfl) | (rw [List.drop_length]; rfl) | (simp; done) | (congr 2; omega) | (congr 3; omega)) ?_))
            refine J.loadN (k := .q) trivial 1 rfl rfl agg53 (c.cells) rfl rfl rfl ?_
            refine J.call0 (k := .q) trivial fok54 rfl rfl (fun w hw => De.was w c) ?_
            refine J.loadN (k := .q) trivial 1 rfl rfl agg53 (c.cells) rfl rfl rfl ?_
            refine J.call0 (k := .q) trivial fok56 rfl rfl (fun w hw => De.is_ w c) ?_
            refine J.call0 (k := .q) trivial fok47 rfl rfl (fun w hw => De.same w c.was c.is (e1.ws hw (off_nil _)) (e2.ws hw (off_nil _)) d1 d2) ?_
            refine J.assign rfl rfl ?_
            refine J.end ?_
            refine X.then ?_
            refine T.ret ?_
            exact X.ret1 rfl (RV.tmp rfl) (fun w' hw' => by first | exact ⟨by congr 2; exact (decide_eq_true (by intro q; have q1 := q.1; unfold CV.mayL Ch.v at q1; dsimp only at q1; omega)).symm, hw'.sub (Sub.nil _)⟩ | exact ⟨by congr 2; exact decide_eq_decide.2 ⟨fun q r => r.2 q, fun q => Decidable.not_not.1 (fun r => q ⟨by unfold CV.mayL Ch.v; dsimp only; omega, r⟩)⟩, hw'.sub (Sub.nil _)⟩)
end Go.Proofs.YtlllcafedekojaaGreatDoor.Dg
